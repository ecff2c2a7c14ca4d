/- ClassConstants: the row holds. -/
import Derived.Test.YtaakmdjicocjpaaGreatDoorPc01
import Derived.Test.YtaakmdjicocjpaaGreatDoorPb37
set_option maxRecDepth 100000
namespace Go.Proofs.YtaakmdjicocjpaaGreatDoor
open Go.ChangeShapes Go.WideShapes Go.ChangeAt Go.WideMaps Go.WideElems Go.RowKit
theorem constants_k0 : (Rows.classConstantsRow.wf (OpenSpec.ofChange Rows.classConstantsSpec)) = true := by kernel_rfl
theorem constants_k3 : (Tryz.f4.params.all (Tryz.prog.readableRec ·)) = true := by kernel_rfl
theorem constants_k4 : (namedTie Tryz.prog Rows.classConstantsRow.named Rows.classConstantsSpec.vars) = true := by kernel_rfl
theorem constants_k5 : ((Rows.classConstantsRow.stops == [])) = true := by kernel_rfl
theorem constants_k7 : ((Rows.classConstantsRow.knobs == [])) = true := by kernel_rfl
theorem constants_k9 : ((Rows.classConstantsRow.inPlace == Tryz.prog.inPlace 4)) = true := by kernel_rfl
theorem constants_k10 : ((Rows.classConstantsRow.unfollowed == Tryz.prog.unfollowed 4)) = true := by kernel_rfl
theorem constants_k11 : ((Rows.classConstantsRow.recurses == Tryz.prog.recurses 4)) = true := by kernel_rfl
theorem constants_k12 : ((Rows.classConstantsRow.named == Tryz.prog.varsNamed 4)) = true := by kernel_rfl
theorem constants_k13 : ((Rows.classConstantsRow.maps == (Tryz.f4.params.toList ++ Rows.classConstantsSpec.plain.varTypes Tryz.prog).any (Tryz.prog.mapsRec ·))) = true := by kernel_rfl
theorem constants_k14 : ((Rows.classConstantsRow.ifaces == (Tryz.f4.params.toList ++ Rows.classConstantsSpec.plain.varTypes Tryz.prog).any (Tryz.prog.ifacesRec ·))) = true := by kernel_rfl
theorem constants_k15 : ((Rows.classConstantsRow.mapsOut == Tryz.prog.mapsAmong Tryz.f4.resultTypes.toList)) = true := by kernel_rfl
theorem constants_k16 : ((Rows.classConstantsRow.loops == (Tryz.f4.params.toList ++ Rows.classConstantsSpec.plain.varTypes Tryz.prog).any (Tryz.prog.loopsFrom ·))) = true := by kernel_rfl
theorem constants_k17 : ((Rows.classConstantsRow.wideKeys == (Tryz.f4.params.toList ++ Rows.classConstantsSpec.plain.varTypes Tryz.prog ++ Tryz.f4.resultTypes.toList).any (Tryz.prog.wideKeysFrom ·))) = true := by kernel_rfl
theorem constants_k18 : (Rows.classConstantsSpec.vars.all (Tryz.prog.varReadable ·)) = true := by kernel_rfl
theorem constants_k19 : (Tryz.f4.resultTypes.all (fun t => Tryz.prog.readableRec t && decide (t < Tryz.prog.types.size))) = true := by kernel_rfl
theorem constants_k20 : ((Rows.classConstantsRow.ifacesOut == Tryz.f4.resultTypes.toList.any (Tryz.prog.ifacesRec ·))) = true := by kernel_rfl
theorem constants_k21 : ((Rows.classConstantsRow.loopsOut == Tryz.f4.resultTypes.toList.any (Tryz.prog.loopsFrom ·))) = true := by kernel_rfl
theorem constants_k23 : (Rows.classConstantsRow.shortTexts.isNone) = true := by kernel_rfl
theorem constants_k28 : ((Rows.classConstantsRow.kinds == (if Rows.classConstantsRow.domain.isEmpty then [] else Tryz.f4.params.toList.map fun t => match Tryz.prog.underlying t with | some (.int k) => some k | _ => none))) = true := by kernel_rfl
theorem constants_k29 : ((Rows.classConstantsRow.pinned == Rows.classConstantsRow.pinnedBy)) = true := by kernel_rfl
theorem constants_k30 : ((Rows.classConstantsRow.veiled == (Tryz.f4.params.toList ++ Rows.classConstantsSpec.plain.varTypes Tryz.prog ++ Tryz.f4.resultTypes.toList).any (Tryz.prog.veiledRec ·))) = true := by kernel_rfl
theorem constants_k31 : (Rows.classConstantsRow.veiledFits Tryz.prog Tryz.f4.params.toList (Tryz.f4.params.toList ++ Rows.classConstantsSpec.plain.varTypes Tryz.prog ++ Tryz.f4.resultTypes.toList)) = true := by kernel_rfl
theorem constants_closed : joinedFacts Tryz.prog 4 Tryz.f4 Rows.classConstantsSpec Rows.classConstantsRow = true := (and_t (and_t (and_t (and_t (and_t (and_t (and_t (and_t (and_t (and_t (and_t (and_t (and_t (and_t (and_t (and_t (and_t (and_t (and_t (and_t (and_t (and_t (and_t (and_t (and_t (and_t (and_t (and_t (and_t (and_t (and_t constants_k0 laidOut_yes) fct_maps) constants_k3) constants_k4) constants_k5) fct_stops) constants_k7) fct_knobs) constants_k9) constants_k10) constants_k11) constants_k12) constants_k13) constants_k14) constants_k15) constants_k16) constants_k17) constants_k18) constants_k19) constants_k20) constants_k21) fct_keys) constants_k23) fct_heard) fct_enter) fct_lifts) fct_make) constants_k28) constants_k29) constants_k30) constants_k31)
theorem constants_inst : Tryz.f4.isInstance Tryz.prog Rows.classConstantsRow.origin Rows.classConstantsRow.targs := of_decide_eq_true (by kernel_rfl)
theorem constants_wrap : Tryz.f4.isWrapper Tryz.prog Rows.classConstantsRow.wrapper Rows.classConstantsRow.mainSum := by unfold Func.isWrapper; first | (rw [if_pos (by decide +kernel)]; kernel_rfl) | (rw [if_neg (by decide +kernel)]; exact ⟨rfl, rfl⟩)
theorem constants_named : Tryz.prog.funcNamed Rows.classConstantsRow.func = some 4 := by kernel_rfl
theorem constants_holds : Rows.ClassConstantsSaid :=
  OpenClaim.holds_of_wide 4 Tryz.f4 rfl rfl rfl rfl rfl rfl rfl ⟨rfl, rfl, rfl, rfl, rfl⟩ rfl rfl rfl rfl rfl constants_named Tryz.func4 constants_closed constants_inst constants_wrap
    (fun os started H enc _ => constants_lifted os started H enc)
end Go.Proofs.YtaakmdjicocjpaaGreatDoor
