/- ClassModes: the row holds. -/
import Derived.Test.YtaakmdjicocjpaaGreatDoorPm02
import Derived.Test.YtaakmdjicocjpaaGreatDoorPb37
set_option maxRecDepth 100000
namespace Go.Proofs.YtaakmdjicocjpaaGreatDoor
open Go.ChangeShapes Go.WideShapes Go.ChangeAt Go.WideMaps Go.WideElems Go.RowKit
theorem modes32_k0 : (Rows.classModesRow.wf (OpenSpec.ofChange Rows.classModesSpec)) = true := by kernel_rfl
theorem modes32_k3 : (Tryz.f8.params.all (Tryz.prog.readableRec ·)) = true := by kernel_rfl
theorem modes32_k4 : (namedTie Tryz.prog Rows.classModesRow.named Rows.classModesSpec.vars) = true := by kernel_rfl
theorem modes32_k5 : ((Rows.classModesRow.stops == [])) = true := by kernel_rfl
theorem modes32_k7 : ((Rows.classModesRow.knobs == [])) = true := by kernel_rfl
theorem modes32_k9 : ((Rows.classModesRow.inPlace == Tryz.prog.inPlace 8)) = true := by kernel_rfl
theorem modes32_k10 : ((Rows.classModesRow.unfollowed == Tryz.prog.unfollowed 8)) = true := by kernel_rfl
theorem modes32_k11 : ((Rows.classModesRow.recurses == Tryz.prog.recurses 8)) = true := by kernel_rfl
theorem modes32_k12 : ((Rows.classModesRow.named == Tryz.prog.varsNamed 8)) = true := by kernel_rfl
theorem modes32_k13 : ((Rows.classModesRow.maps == (Tryz.f8.params.toList ++ Rows.classModesSpec.plain.varTypes Tryz.prog).any (Tryz.prog.mapsRec ·))) = true := by kernel_rfl
theorem modes32_k14 : ((Rows.classModesRow.ifaces == (Tryz.f8.params.toList ++ Rows.classModesSpec.plain.varTypes Tryz.prog).any (Tryz.prog.ifacesRec ·))) = true := by kernel_rfl
theorem modes32_k15 : ((Rows.classModesRow.mapsOut == Tryz.prog.mapsAmong Tryz.f8.resultTypes.toList)) = true := by kernel_rfl
theorem modes32_k16 : ((Rows.classModesRow.loops == (Tryz.f8.params.toList ++ Rows.classModesSpec.plain.varTypes Tryz.prog).any (Tryz.prog.loopsFrom ·))) = true := by kernel_rfl
theorem modes32_k17 : ((Rows.classModesRow.wideKeys == (Tryz.f8.params.toList ++ Rows.classModesSpec.plain.varTypes Tryz.prog ++ Tryz.f8.resultTypes.toList).any (Tryz.prog.wideKeysFrom ·))) = true := by kernel_rfl
theorem modes32_k18 : (Rows.classModesSpec.vars.all (Tryz.prog.varReadable ·)) = true := by kernel_rfl
theorem modes32_k19 : (Tryz.f8.resultTypes.all (fun t => Tryz.prog.readableRec t && decide (t < Tryz.prog.types.size))) = true := by kernel_rfl
theorem modes32_k20 : ((Rows.classModesRow.ifacesOut == Tryz.f8.resultTypes.toList.any (Tryz.prog.ifacesRec ·))) = true := by kernel_rfl
theorem modes32_k21 : ((Rows.classModesRow.loopsOut == Tryz.f8.resultTypes.toList.any (Tryz.prog.loopsFrom ·))) = true := by kernel_rfl
theorem modes32_k23 : (Rows.classModesRow.shortTexts.isNone) = true := by kernel_rfl
theorem modes32_k28 : ((Rows.classModesRow.kinds == (if Rows.classModesRow.domain.isEmpty then [] else Tryz.f8.params.toList.map fun t => match Tryz.prog.underlying t with | some (.int k) => some k | _ => none))) = true := by kernel_rfl
theorem modes32_k29 : ((Rows.classModesRow.pinned == Rows.classModesRow.pinnedBy)) = true := by kernel_rfl
theorem modes32_k30 : ((Rows.classModesRow.veiled == (Tryz.f8.params.toList ++ Rows.classModesSpec.plain.varTypes Tryz.prog ++ Tryz.f8.resultTypes.toList).any (Tryz.prog.veiledRec ·))) = true := by kernel_rfl
theorem modes32_k31 : (Rows.classModesRow.veiledFits Tryz.prog Tryz.f8.params.toList (Tryz.f8.params.toList ++ Rows.classModesSpec.plain.varTypes Tryz.prog ++ Tryz.f8.resultTypes.toList)) = true := by kernel_rfl
theorem modes32_closed : joinedFacts Tryz.prog 8 Tryz.f8 Rows.classModesSpec Rows.classModesRow = true := (and_t (and_t (and_t (and_t (and_t (and_t (and_t (and_t (and_t (and_t (and_t (and_t (and_t (and_t (and_t (and_t (and_t (and_t (and_t (and_t (and_t (and_t (and_t (and_t (and_t (and_t (and_t (and_t (and_t (and_t (and_t modes32_k0 laidOut_yes) fct_maps) modes32_k3) modes32_k4) modes32_k5) fct_stops) modes32_k7) fct_knobs) modes32_k9) modes32_k10) modes32_k11) modes32_k12) modes32_k13) modes32_k14) modes32_k15) modes32_k16) modes32_k17) modes32_k18) modes32_k19) modes32_k20) modes32_k21) fct_keys) modes32_k23) fct_heard) fct_enter) fct_lifts) fct_make) modes32_k28) modes32_k29) modes32_k30) modes32_k31)
theorem modes32_inst : Tryz.f8.isInstance Tryz.prog Rows.classModesRow.origin Rows.classModesRow.targs := of_decide_eq_true (by kernel_rfl)
theorem modes32_wrap : Tryz.f8.isWrapper Tryz.prog Rows.classModesRow.wrapper Rows.classModesRow.mainSum := by unfold Func.isWrapper; first | (rw [if_pos (by decide +kernel)]; kernel_rfl) | (rw [if_neg (by decide +kernel)]; exact ⟨rfl, rfl⟩)
theorem modes32_named : Tryz.prog.funcNamed Rows.classModesRow.func = some 8 := by kernel_rfl
theorem modes32_holds : Rows.ClassModesSaid :=
  OpenClaim.holds_of_wide 8 Tryz.f8 rfl rfl rfl rfl rfl rfl rfl ⟨rfl, rfl, rfl, rfl, rfl⟩ rfl rfl rfl rfl rfl modes32_named Tryz.func8 modes32_closed modes32_inst modes32_wrap
    (fun os started H enc _ => modes32_lifted os started H enc)
end Go.Proofs.YtaakmdjicocjpaaGreatDoor
