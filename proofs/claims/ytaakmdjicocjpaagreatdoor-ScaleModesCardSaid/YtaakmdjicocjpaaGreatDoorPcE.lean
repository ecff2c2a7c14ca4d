/- ScaleModes: the row holds. -/
import Derived.Test.YtaakmdjicocjpaaGreatDoorPcD
import Derived.Test.YtaakmdjicocjpaaGreatDoorPbR
namespace Go.Proofs.YtaakmdjicocjpaaGreatDoor
open Go.ChangeShapes Go.WideShapes Go.ChangeAt Go.WideMaps Go.WideElems Go.RowKit

theorem modes_k0 : (Rows.scaleModesRow.wf (OpenSpec.ofChange Rows.scaleModesSpec)) = true := by kernel_rfl
theorem modes_k3 : (Tryz.f13.params.all (Tryz.prog.readableRec ·)) = true := by kernel_rfl
theorem modes_k4 : (namedTie Tryz.prog Rows.scaleModesRow.named Rows.scaleModesSpec.vars) = true := by kernel_rfl
theorem modes_k5 : ((Rows.scaleModesRow.stops == [])) = true := by kernel_rfl
theorem modes_k7 : ((Rows.scaleModesRow.knobs == [])) = true := by kernel_rfl
theorem modes_k9 : ((Rows.scaleModesRow.inPlace == Tryz.prog.inPlace 13)) = true := by kernel_rfl
theorem modes_k10 : ((Rows.scaleModesRow.unfollowed == Tryz.prog.unfollowed 13)) = true := by kernel_rfl
theorem modes_k11 : ((Rows.scaleModesRow.recurses == Tryz.prog.recurses 13)) = true := by kernel_rfl
theorem modes_k12 : ((Rows.scaleModesRow.named == Tryz.prog.varsNamed 13)) = true := by kernel_rfl
theorem modes_k13 : ((Rows.scaleModesRow.maps == (Tryz.f13.params.toList ++ Rows.scaleModesSpec.plain.varTypes Tryz.prog).any (Tryz.prog.mapsRec ·))) = true := by kernel_rfl
theorem modes_k14 : ((Rows.scaleModesRow.ifaces == (Tryz.f13.params.toList ++ Rows.scaleModesSpec.plain.varTypes Tryz.prog).any (Tryz.prog.ifacesRec ·))) = true := by kernel_rfl
theorem modes_k15 : ((Rows.scaleModesRow.mapsOut == Tryz.prog.mapsAmong Tryz.f13.resultTypes.toList)) = true := by kernel_rfl
theorem modes_k16 : ((Rows.scaleModesRow.loops == (Tryz.f13.params.toList ++ Rows.scaleModesSpec.plain.varTypes Tryz.prog).any (Tryz.prog.loopsFrom ·))) = true := by kernel_rfl
theorem modes_k17 : ((Rows.scaleModesRow.wideKeys == (Tryz.f13.params.toList ++ Rows.scaleModesSpec.plain.varTypes Tryz.prog ++ Tryz.f13.resultTypes.toList).any (Tryz.prog.wideKeysFrom ·))) = true := by kernel_rfl
theorem modes_k18 : (Rows.scaleModesSpec.vars.all (Tryz.prog.varReadable ·)) = true := by kernel_rfl
theorem modes_k19 : (Tryz.f13.resultTypes.all (fun t => Tryz.prog.readableRec t && decide (t < Tryz.prog.types.size))) = true := by kernel_rfl
theorem modes_k20 : ((Rows.scaleModesRow.ifacesOut == Tryz.f13.resultTypes.toList.any (Tryz.prog.ifacesRec ·))) = true := by kernel_rfl
theorem modes_k21 : ((Rows.scaleModesRow.loopsOut == Tryz.f13.resultTypes.toList.any (Tryz.prog.loopsFrom ·))) = true := by kernel_rfl
theorem modes_k23 : (Rows.scaleModesRow.shortTexts.isNone) = true := by kernel_rfl
theorem modes_k28 : ((Rows.scaleModesRow.kinds == (if Rows.scaleModesRow.domain.isEmpty then [] else Tryz.f13.params.toList.map fun t => match Tryz.prog.underlying t with | some (.int k) => some k | _ => none))) = true := by kernel_rfl
theorem modes_k29 : ((Rows.scaleModesRow.pinned == Rows.scaleModesRow.pinnedBy)) = true := by kernel_rfl
theorem modes_k30 : ((Rows.scaleModesRow.veiled == (Tryz.f13.params.toList ++ Rows.scaleModesSpec.plain.varTypes Tryz.prog ++ Tryz.f13.resultTypes.toList).any (Tryz.prog.veiledRec ·))) = true := by kernel_rfl
theorem modes_k31 : (Rows.scaleModesRow.veiledFits Tryz.prog Tryz.f13.params.toList (Tryz.f13.params.toList ++ Rows.scaleModesSpec.plain.varTypes Tryz.prog ++ Tryz.f13.resultTypes.toList)) = true := by kernel_rfl
set_option maxRecDepth 100000 in
theorem modes_closed : joinedFacts Tryz.prog 13 Tryz.f13 Rows.scaleModesSpec Rows.scaleModesRow = true := (and_t (and_t (and_t (and_t (and_t (and_t (and_t (and_t (and_t (and_t (and_t (and_t (and_t (and_t (and_t (and_t (and_t (and_t (and_t (and_t (and_t (and_t (and_t (and_t (and_t (and_t (and_t (and_t (and_t (and_t (and_t modes_k0 laidOut_yes) fct_maps) modes_k3) modes_k4) modes_k5) fct_stops) modes_k7) fct_knobs) modes_k9) modes_k10) modes_k11) modes_k12) modes_k13) modes_k14) modes_k15) modes_k16) modes_k17) modes_k18) modes_k19) modes_k20) modes_k21) fct_keys) modes_k23) fct_heard) fct_enter) fct_lifts) fct_make) modes_k28) modes_k29) modes_k30) modes_k31)
theorem modes_inst : Tryz.f13.isInstance Tryz.prog Rows.scaleModesRow.origin Rows.scaleModesRow.targs := of_decide_eq_true (by kernel_rfl)
theorem modes_wrap : Tryz.f13.isWrapper Tryz.prog Rows.scaleModesRow.wrapper Rows.scaleModesRow.mainSum := by unfold Func.isWrapper; first | (rw [if_pos (by decide +kernel)]; kernel_rfl) | (rw [if_neg (by decide +kernel)]; exact ⟨rfl, rfl⟩)
theorem modes_named : Tryz.prog.funcNamed Rows.scaleModesRow.func = some 13 := by kernel_rfl
set_option maxRecDepth 100000 in
theorem modes_holds : Rows.ScaleModesSaid :=
  OpenClaim.holds_of_wide 13 Tryz.f13 rfl rfl rfl rfl rfl rfl rfl ⟨rfl, rfl, rfl, rfl, rfl⟩ rfl rfl rfl rfl rfl modes_named Tryz.func13 modes_closed modes_inst modes_wrap
    (fun os started H enc _ => modes_lifted os started H enc)
end Go.Proofs.YtaakmdjicocjpaaGreatDoor
