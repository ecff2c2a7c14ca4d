/- ClassFinds: the row holds. -/
import Derived.Test.YtajdfggocldeaaaGreatDoorPb40
set_option maxRecDepth 100000
namespace Go.Proofs.YtajdfggocldeaaaGreatDoor
open Go.ChangeShapes Go.WideShapes Go.ChangeAt Go.WideMaps Go.WideElems Go.RowKit
theorem finds_k0 : (Rows.classFindsRow.wf (OpenSpec.ofChange Rows.classFindsSpec)) = true := by kernel_rfl
theorem finds_k3 : (Tryz.f3.params.all (Tryz.prog.readableRec ·)) = true := by kernel_rfl
theorem finds_k4 : (namedTie Tryz.prog Rows.classFindsRow.named Rows.classFindsSpec.vars) = true := by kernel_rfl
theorem finds_k5 : ((Rows.classFindsRow.stops == [])) = true := by kernel_rfl
theorem finds_k7 : ((Rows.classFindsRow.knobs == [])) = true := by kernel_rfl
theorem finds_k9 : ((Rows.classFindsRow.inPlace == Tryz.prog.inPlace 3)) = true := by kernel_rfl
theorem finds_k10 : ((Rows.classFindsRow.unfollowed == Tryz.prog.unfollowed 3)) = true := by kernel_rfl
theorem finds_k11 : ((Rows.classFindsRow.recurses == Tryz.prog.recurses 3)) = true := by kernel_rfl
theorem finds_k12 : ((Rows.classFindsRow.named == Tryz.prog.varsNamed 3)) = true := by kernel_rfl
theorem finds_k13 : ((Rows.classFindsRow.maps == (Tryz.f3.params.toList ++ Rows.classFindsSpec.plain.varTypes Tryz.prog).any (Tryz.prog.mapsRec ·))) = true := by kernel_rfl
theorem finds_k14 : ((Rows.classFindsRow.ifaces == (Tryz.f3.params.toList ++ Rows.classFindsSpec.plain.varTypes Tryz.prog).any (Tryz.prog.ifacesRec ·))) = true := by kernel_rfl
theorem finds_k15 : ((Rows.classFindsRow.mapsOut == Tryz.prog.mapsAmong Tryz.f3.resultTypes.toList)) = true := by kernel_rfl
theorem finds_k16 : ((Rows.classFindsRow.loops == (Tryz.f3.params.toList ++ Rows.classFindsSpec.plain.varTypes Tryz.prog).any (Tryz.prog.loopsFrom ·))) = true := by kernel_rfl
theorem finds_k17 : ((Rows.classFindsRow.wideKeys == (Tryz.f3.params.toList ++ Rows.classFindsSpec.plain.varTypes Tryz.prog ++ Tryz.f3.resultTypes.toList).any (Tryz.prog.wideKeysFrom ·))) = true := by kernel_rfl
theorem finds_k18 : (Rows.classFindsSpec.vars.all (Tryz.prog.varReadable ·)) = true := by kernel_rfl
theorem finds_k19 : (Tryz.f3.resultTypes.all (fun t => Tryz.prog.readableRec t && decide (t < Tryz.prog.types.size))) = true := by kernel_rfl
theorem finds_k20 : ((Rows.classFindsRow.ifacesOut == Tryz.f3.resultTypes.toList.any (Tryz.prog.ifacesRec ·))) = true := by kernel_rfl
theorem finds_k21 : ((Rows.classFindsRow.loopsOut == Tryz.f3.resultTypes.toList.any (Tryz.prog.loopsFrom ·))) = true := by kernel_rfl
theorem finds_k23 : (Rows.classFindsRow.shortTexts.isNone) = true := by kernel_rfl
theorem finds_k28 : ((Rows.classFindsRow.kinds == (if Rows.classFindsRow.domain.isEmpty then [] else Tryz.f3.params.toList.map fun t => match Tryz.prog.underlying t with | some (.int k) => some k | _ => none))) = true := by kernel_rfl
theorem finds_k29 : ((Rows.classFindsRow.pinned == Rows.classFindsRow.pinnedBy)) = true := by kernel_rfl
theorem finds_k30 : ((Rows.classFindsRow.veiled == (Tryz.f3.params.toList ++ Rows.classFindsSpec.plain.varTypes Tryz.prog ++ Tryz.f3.resultTypes.toList).any (Tryz.prog.veiledRec ·))) = true := by kernel_rfl
theorem finds_k31 : (Rows.classFindsRow.veiledFits Tryz.prog Tryz.f3.params.toList (Tryz.f3.params.toList ++ Rows.classFindsSpec.plain.varTypes Tryz.prog ++ Tryz.f3.resultTypes.toList)) = true := by kernel_rfl
theorem finds_closed : joinedFacts Tryz.prog 3 Tryz.f3 Rows.classFindsSpec Rows.classFindsRow = true := (and_t (and_t (and_t (and_t (and_t (and_t (and_t (and_t (and_t (and_t (and_t (and_t (and_t (and_t (and_t (and_t (and_t (and_t (and_t (and_t (and_t (and_t (and_t (and_t (and_t (and_t (and_t (and_t (and_t (and_t (and_t finds_k0 laidOut_yes) fct_maps) finds_k3) finds_k4) finds_k5) fct_stops) finds_k7) fct_knobs) finds_k9) finds_k10) finds_k11) finds_k12) finds_k13) finds_k14) finds_k15) finds_k16) finds_k17) finds_k18) finds_k19) finds_k20) finds_k21) fct_keys) finds_k23) fct_heard) fct_enter) fct_lifts) fct_make) finds_k28) finds_k29) finds_k30) finds_k31)
theorem finds_inst : Tryz.f3.isInstance Tryz.prog Rows.classFindsRow.origin Rows.classFindsRow.targs := of_decide_eq_true (by kernel_rfl)
theorem finds_wrap : Tryz.f3.isWrapper Tryz.prog Rows.classFindsRow.wrapper Rows.classFindsRow.mainSum := by unfold Func.isWrapper; first | (rw [if_pos (by decide +kernel)]; kernel_rfl) | (rw [if_neg (by decide +kernel)]; exact ⟨rfl, rfl⟩)
theorem finds_named : Tryz.prog.funcNamed Rows.classFindsRow.func = some 3 := by kernel_rfl
theorem finds_holds : Rows.ClassFindsSaid :=
  OpenClaim.holds_of_wide 3 Tryz.f3 rfl rfl rfl rfl rfl rfl rfl ⟨rfl, rfl, rfl, rfl, rfl⟩ rfl rfl rfl rfl rfl finds_named Tryz.func3 finds_closed finds_inst finds_wrap
    (fun os started H enc _ => finds_lifted os started H enc)
end Go.Proofs.YtajdfggocldeaaaGreatDoor
