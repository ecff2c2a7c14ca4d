/- ClassSizes: the row holds. -/
import Derived.Test.YtaakmdjicocjpaaGreatDoorPs02
import Derived.Test.YtaakmdjicocjpaaGreatDoorPb37
set_option maxRecDepth 100000
namespace Go.Proofs.YtaakmdjicocjpaaGreatDoor
open Go.ChangeShapes Go.WideShapes Go.ChangeAt Go.WideMaps Go.WideElems Go.RowKit
theorem sizess_k0 : (Rows.classSizesRow.wf (OpenSpec.ofChange Rows.classSizesSpec)) = true := by kernel_rfl
theorem sizess_k3 : (Tryz.f9.params.all (Tryz.prog.readableRec ·)) = true := by kernel_rfl
theorem sizess_k4 : (namedTie Tryz.prog Rows.classSizesRow.named Rows.classSizesSpec.vars) = true := by kernel_rfl
theorem sizess_k5 : ((Rows.classSizesRow.stops == [])) = true := by kernel_rfl
theorem sizess_k7 : ((Rows.classSizesRow.knobs == [])) = true := by kernel_rfl
theorem sizess_k9 : ((Rows.classSizesRow.inPlace == Tryz.prog.inPlace 9)) = true := by kernel_rfl
theorem sizess_k10 : ((Rows.classSizesRow.unfollowed == Tryz.prog.unfollowed 9)) = true := by kernel_rfl
theorem sizess_k11 : ((Rows.classSizesRow.recurses == Tryz.prog.recurses 9)) = true := by kernel_rfl
theorem sizess_k12 : ((Rows.classSizesRow.named == Tryz.prog.varsNamed 9)) = true := by kernel_rfl
theorem sizess_k13 : ((Rows.classSizesRow.maps == (Tryz.f9.params.toList ++ Rows.classSizesSpec.plain.varTypes Tryz.prog).any (Tryz.prog.mapsRec ·))) = true := by kernel_rfl
theorem sizess_k14 : ((Rows.classSizesRow.ifaces == (Tryz.f9.params.toList ++ Rows.classSizesSpec.plain.varTypes Tryz.prog).any (Tryz.prog.ifacesRec ·))) = true := by kernel_rfl
theorem sizess_k15 : ((Rows.classSizesRow.mapsOut == Tryz.prog.mapsAmong Tryz.f9.resultTypes.toList)) = true := by kernel_rfl
theorem sizess_k16 : ((Rows.classSizesRow.loops == (Tryz.f9.params.toList ++ Rows.classSizesSpec.plain.varTypes Tryz.prog).any (Tryz.prog.loopsFrom ·))) = true := by kernel_rfl
theorem sizess_k17 : ((Rows.classSizesRow.wideKeys == (Tryz.f9.params.toList ++ Rows.classSizesSpec.plain.varTypes Tryz.prog ++ Tryz.f9.resultTypes.toList).any (Tryz.prog.wideKeysFrom ·))) = true := by kernel_rfl
theorem sizess_k18 : (Rows.classSizesSpec.vars.all (Tryz.prog.varReadable ·)) = true := by kernel_rfl
theorem sizess_k19 : (Tryz.f9.resultTypes.all (fun t => Tryz.prog.readableRec t && decide (t < Tryz.prog.types.size))) = true := by kernel_rfl
theorem sizess_k20 : ((Rows.classSizesRow.ifacesOut == Tryz.f9.resultTypes.toList.any (Tryz.prog.ifacesRec ·))) = true := by kernel_rfl
theorem sizess_k21 : ((Rows.classSizesRow.loopsOut == Tryz.f9.resultTypes.toList.any (Tryz.prog.loopsFrom ·))) = true := by kernel_rfl
theorem sizess_k23 : (Rows.classSizesRow.shortTexts.isNone) = true := by kernel_rfl
theorem sizess_k28 : ((Rows.classSizesRow.kinds == (if Rows.classSizesRow.domain.isEmpty then [] else Tryz.f9.params.toList.map fun t => match Tryz.prog.underlying t with | some (.int k) => some k | _ => none))) = true := by kernel_rfl
theorem sizess_k29 : ((Rows.classSizesRow.pinned == Rows.classSizesRow.pinnedBy)) = true := by kernel_rfl
theorem sizess_k30 : ((Rows.classSizesRow.veiled == (Tryz.f9.params.toList ++ Rows.classSizesSpec.plain.varTypes Tryz.prog ++ Tryz.f9.resultTypes.toList).any (Tryz.prog.veiledRec ·))) = true := by kernel_rfl
theorem sizess_k31 : (Rows.classSizesRow.veiledFits Tryz.prog Tryz.f9.params.toList (Tryz.f9.params.toList ++ Rows.classSizesSpec.plain.varTypes Tryz.prog ++ Tryz.f9.resultTypes.toList)) = true := by kernel_rfl
theorem sizess_closed : joinedFacts Tryz.prog 9 Tryz.f9 Rows.classSizesSpec Rows.classSizesRow = true := (and_t (and_t (and_t (and_t (and_t (and_t (and_t (and_t (and_t (and_t (and_t (and_t (and_t (and_t (and_t (and_t (and_t (and_t (and_t (and_t (and_t (and_t (and_t (and_t (and_t (and_t (and_t (and_t (and_t (and_t (and_t sizess_k0 laidOut_yes) fct_maps) sizess_k3) sizess_k4) sizess_k5) fct_stops) sizess_k7) fct_knobs) sizess_k9) sizess_k10) sizess_k11) sizess_k12) sizess_k13) sizess_k14) sizess_k15) sizess_k16) sizess_k17) sizess_k18) sizess_k19) sizess_k20) sizess_k21) fct_keys) sizess_k23) fct_heard) fct_enter) fct_lifts) fct_make) sizess_k28) sizess_k29) sizess_k30) sizess_k31)
theorem sizess_inst : Tryz.f9.isInstance Tryz.prog Rows.classSizesRow.origin Rows.classSizesRow.targs := of_decide_eq_true (by kernel_rfl)
theorem sizess_wrap : Tryz.f9.isWrapper Tryz.prog Rows.classSizesRow.wrapper Rows.classSizesRow.mainSum := by unfold Func.isWrapper; first | (rw [if_pos (by decide +kernel)]; kernel_rfl) | (rw [if_neg (by decide +kernel)]; exact ⟨rfl, rfl⟩)
theorem sizess_named : Tryz.prog.funcNamed Rows.classSizesRow.func = some 9 := by kernel_rfl
theorem sizess_holds : Rows.ClassSizesSaid :=
  OpenClaim.holds_of_wide 9 Tryz.f9 rfl rfl rfl rfl rfl rfl rfl ⟨rfl, rfl, rfl, rfl, rfl⟩ rfl rfl rfl rfl rfl sizess_named Tryz.func9 sizess_closed sizess_inst sizess_wrap
    (fun os started H enc _ => sizess_lifted os started H enc)
end Go.Proofs.YtaakmdjicocjpaaGreatDoor
