/- ClassKinds: the row holds. -/
import Derived.Test.YtaakmdjicocjpaaGreatDoorPt01
import Derived.Test.YtaakmdjicocjpaaGreatDoorPb37
set_option maxRecDepth 100000
namespace Go.Proofs.YtaakmdjicocjpaaGreatDoor
open Go.ChangeShapes Go.WideShapes Go.ChangeAt Go.WideMaps Go.WideElems Go.RowKit
theorem kinds_k0 : (Rows.classKindsRow.wf (OpenSpec.ofChange Rows.classKindsSpec)) = true := by kernel_rfl
theorem kinds_k3 : (Tryz.f3.params.all (Tryz.prog.readableRec ·)) = true := by kernel_rfl
theorem kinds_k4 : (namedTie Tryz.prog Rows.classKindsRow.named Rows.classKindsSpec.vars) = true := by kernel_rfl
theorem kinds_k5 : ((Rows.classKindsRow.stops == [])) = true := by kernel_rfl
theorem kinds_k7 : ((Rows.classKindsRow.knobs == [])) = true := by kernel_rfl
theorem kinds_k9 : ((Rows.classKindsRow.inPlace == Tryz.prog.inPlace 3)) = true := by kernel_rfl
theorem kinds_k10 : ((Rows.classKindsRow.unfollowed == Tryz.prog.unfollowed 3)) = true := by kernel_rfl
theorem kinds_k11 : ((Rows.classKindsRow.recurses == Tryz.prog.recurses 3)) = true := by kernel_rfl
theorem kinds_k12 : ((Rows.classKindsRow.named == Tryz.prog.varsNamed 3)) = true := by kernel_rfl
theorem kinds_k13 : ((Rows.classKindsRow.maps == (Tryz.f3.params.toList ++ Rows.classKindsSpec.plain.varTypes Tryz.prog).any (Tryz.prog.mapsRec ·))) = true := by kernel_rfl
theorem kinds_k14 : ((Rows.classKindsRow.ifaces == (Tryz.f3.params.toList ++ Rows.classKindsSpec.plain.varTypes Tryz.prog).any (Tryz.prog.ifacesRec ·))) = true := by kernel_rfl
theorem kinds_k15 : ((Rows.classKindsRow.mapsOut == Tryz.prog.mapsAmong Tryz.f3.resultTypes.toList)) = true := by kernel_rfl
theorem kinds_k16 : ((Rows.classKindsRow.loops == (Tryz.f3.params.toList ++ Rows.classKindsSpec.plain.varTypes Tryz.prog).any (Tryz.prog.loopsFrom ·))) = true := by kernel_rfl
theorem kinds_k17 : ((Rows.classKindsRow.wideKeys == (Tryz.f3.params.toList ++ Rows.classKindsSpec.plain.varTypes Tryz.prog ++ Tryz.f3.resultTypes.toList).any (Tryz.prog.wideKeysFrom ·))) = true := by kernel_rfl
theorem kinds_k18 : (Rows.classKindsSpec.vars.all (Tryz.prog.varReadable ·)) = true := by kernel_rfl
theorem kinds_k19 : (Tryz.f3.resultTypes.all (fun t => Tryz.prog.readableRec t && decide (t < Tryz.prog.types.size))) = true := by kernel_rfl
theorem kinds_k20 : ((Rows.classKindsRow.ifacesOut == Tryz.f3.resultTypes.toList.any (Tryz.prog.ifacesRec ·))) = true := by kernel_rfl
theorem kinds_k21 : ((Rows.classKindsRow.loopsOut == Tryz.f3.resultTypes.toList.any (Tryz.prog.loopsFrom ·))) = true := by kernel_rfl
theorem kinds_k23 : (Rows.classKindsRow.shortTexts.isNone) = true := by kernel_rfl
theorem kinds_k28 : ((Rows.classKindsRow.kinds == (if Rows.classKindsRow.domain.isEmpty then [] else Tryz.f3.params.toList.map fun t => match Tryz.prog.underlying t with | some (.int k) => some k | _ => none))) = true := by kernel_rfl
theorem kinds_k29 : ((Rows.classKindsRow.pinned == Rows.classKindsRow.pinnedBy)) = true := by kernel_rfl
theorem kinds_k30 : ((Rows.classKindsRow.veiled == (Tryz.f3.params.toList ++ Rows.classKindsSpec.plain.varTypes Tryz.prog ++ Tryz.f3.resultTypes.toList).any (Tryz.prog.veiledRec ·))) = true := by kernel_rfl
theorem kinds_k31 : (Rows.classKindsRow.veiledFits Tryz.prog Tryz.f3.params.toList (Tryz.f3.params.toList ++ Rows.classKindsSpec.plain.varTypes Tryz.prog ++ Tryz.f3.resultTypes.toList)) = true := by kernel_rfl
theorem kinds_closed : joinedFacts Tryz.prog 3 Tryz.f3 Rows.classKindsSpec Rows.classKindsRow = true := (and_t (and_t (and_t (and_t (and_t (and_t (and_t (and_t (and_t (and_t (and_t (and_t (and_t (and_t (and_t (and_t (and_t (and_t (and_t (and_t (and_t (and_t (and_t (and_t (and_t (and_t (and_t (and_t (and_t (and_t (and_t kinds_k0 laidOut_yes) fct_maps) kinds_k3) kinds_k4) kinds_k5) fct_stops) kinds_k7) fct_knobs) kinds_k9) kinds_k10) kinds_k11) kinds_k12) kinds_k13) kinds_k14) kinds_k15) kinds_k16) kinds_k17) kinds_k18) kinds_k19) kinds_k20) kinds_k21) fct_keys) kinds_k23) fct_heard) fct_enter) fct_lifts) fct_make) kinds_k28) kinds_k29) kinds_k30) kinds_k31)
theorem kinds_inst : Tryz.f3.isInstance Tryz.prog Rows.classKindsRow.origin Rows.classKindsRow.targs := of_decide_eq_true (by kernel_rfl)
theorem kinds_wrap : Tryz.f3.isWrapper Tryz.prog Rows.classKindsRow.wrapper Rows.classKindsRow.mainSum := by unfold Func.isWrapper; first | (rw [if_pos (by decide +kernel)]; kernel_rfl) | (rw [if_neg (by decide +kernel)]; exact ⟨rfl, rfl⟩)
theorem kinds_named : Tryz.prog.funcNamed Rows.classKindsRow.func = some 3 := by kernel_rfl
theorem kinds_holds : Rows.ClassKindsSaid :=
  OpenClaim.holds_of_wide 3 Tryz.f3 rfl rfl rfl rfl rfl rfl rfl ⟨rfl, rfl, rfl, rfl, rfl⟩ rfl rfl rfl rfl rfl kinds_named Tryz.func3 kinds_closed kinds_inst kinds_wrap
    (fun os started H enc _ => kinds_lifted os started H enc)
end Go.Proofs.YtaakmdjicocjpaaGreatDoor
