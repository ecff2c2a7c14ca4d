/- ScaleSubsets: the row holds. -/
import Derived.Test.YtaakmdjicocjpaaGreatDoorPbQ
import Derived.Test.YtaakmdjicocjpaaGreatDoorPbR
namespace Go.Proofs.YtaakmdjicocjpaaGreatDoor
open Go.ChangeShapes Go.WideShapes Go.ChangeAt Go.WideMaps Go.WideElems Go.RowKit

theorem subs_k0 : (Rows.scaleSubsetsRow.wf (OpenSpec.ofChange Rows.scaleSubsetsSpec)) = true := by kernel_rfl
theorem subs_k3 : (Tryz.f12.params.all (Tryz.prog.readableRec ·)) = true := by kernel_rfl
theorem subs_k4 : (namedTie Tryz.prog Rows.scaleSubsetsRow.named Rows.scaleSubsetsSpec.vars) = true := by kernel_rfl
theorem subs_k5 : ((Rows.scaleSubsetsRow.stops == [])) = true := by kernel_rfl
theorem subs_k7 : ((Rows.scaleSubsetsRow.knobs == [])) = true := by kernel_rfl
theorem subs_k9 : ((Rows.scaleSubsetsRow.inPlace == Tryz.prog.inPlace 12)) = true := by kernel_rfl
theorem subs_k10 : ((Rows.scaleSubsetsRow.unfollowed == Tryz.prog.unfollowed 12)) = true := by kernel_rfl
theorem subs_k11 : ((Rows.scaleSubsetsRow.recurses == Tryz.prog.recurses 12)) = true := by kernel_rfl
theorem subs_k12 : ((Rows.scaleSubsetsRow.named == Tryz.prog.varsNamed 12)) = true := by kernel_rfl
theorem subs_k13 : ((Rows.scaleSubsetsRow.maps == (Tryz.f12.params.toList ++ Rows.scaleSubsetsSpec.plain.varTypes Tryz.prog).any (Tryz.prog.mapsRec ·))) = true := by kernel_rfl
theorem subs_k14 : ((Rows.scaleSubsetsRow.ifaces == (Tryz.f12.params.toList ++ Rows.scaleSubsetsSpec.plain.varTypes Tryz.prog).any (Tryz.prog.ifacesRec ·))) = true := by kernel_rfl
theorem subs_k15 : ((Rows.scaleSubsetsRow.mapsOut == Tryz.prog.mapsAmong Tryz.f12.resultTypes.toList)) = true := by kernel_rfl
theorem subs_k16 : ((Rows.scaleSubsetsRow.loops == (Tryz.f12.params.toList ++ Rows.scaleSubsetsSpec.plain.varTypes Tryz.prog).any (Tryz.prog.loopsFrom ·))) = true := by kernel_rfl
theorem subs_k17 : ((Rows.scaleSubsetsRow.wideKeys == (Tryz.f12.params.toList ++ Rows.scaleSubsetsSpec.plain.varTypes Tryz.prog ++ Tryz.f12.resultTypes.toList).any (Tryz.prog.wideKeysFrom ·))) = true := by kernel_rfl
theorem subs_k18 : (Rows.scaleSubsetsSpec.vars.all (Tryz.prog.varReadable ·)) = true := by kernel_rfl
theorem subs_k19 : (Tryz.f12.resultTypes.all (fun t => Tryz.prog.readableRec t && decide (t < Tryz.prog.types.size))) = true := by kernel_rfl
theorem subs_k20 : ((Rows.scaleSubsetsRow.ifacesOut == Tryz.f12.resultTypes.toList.any (Tryz.prog.ifacesRec ·))) = true := by kernel_rfl
theorem subs_k21 : ((Rows.scaleSubsetsRow.loopsOut == Tryz.f12.resultTypes.toList.any (Tryz.prog.loopsFrom ·))) = true := by kernel_rfl
theorem subs_k23 : (Rows.scaleSubsetsRow.shortTexts.isNone) = true := by kernel_rfl
theorem subs_k28 : ((Rows.scaleSubsetsRow.kinds == (if Rows.scaleSubsetsRow.domain.isEmpty then [] else Tryz.f12.params.toList.map fun t => match Tryz.prog.underlying t with | some (.int k) => some k | _ => none))) = true := by kernel_rfl
theorem subs_k29 : ((Rows.scaleSubsetsRow.pinned == Rows.scaleSubsetsRow.pinnedBy)) = true := by kernel_rfl
theorem subs_k30 : ((Rows.scaleSubsetsRow.veiled == (Tryz.f12.params.toList ++ Rows.scaleSubsetsSpec.plain.varTypes Tryz.prog ++ Tryz.f12.resultTypes.toList).any (Tryz.prog.veiledRec ·))) = true := by kernel_rfl
theorem subs_k31 : (Rows.scaleSubsetsRow.veiledFits Tryz.prog Tryz.f12.params.toList (Tryz.f12.params.toList ++ Rows.scaleSubsetsSpec.plain.varTypes Tryz.prog ++ Tryz.f12.resultTypes.toList)) = true := by kernel_rfl
set_option maxRecDepth 100000 in
theorem subs_closed : joinedFacts Tryz.prog 12 Tryz.f12 Rows.scaleSubsetsSpec Rows.scaleSubsetsRow = true := (and_t (and_t (and_t (and_t (and_t (and_t (and_t (and_t (and_t (and_t (and_t (and_t (and_t (and_t (and_t (and_t (and_t (and_t (and_t (and_t (and_t (and_t (and_t (and_t (and_t (and_t (and_t (and_t (and_t (and_t (and_t subs_k0 laidOut_yes) fct_maps) subs_k3) subs_k4) subs_k5) fct_stops) subs_k7) fct_knobs) subs_k9) subs_k10) subs_k11) subs_k12) subs_k13) subs_k14) subs_k15) subs_k16) subs_k17) subs_k18) subs_k19) subs_k20) subs_k21) fct_keys) subs_k23) fct_heard) fct_enter) fct_lifts) fct_make) subs_k28) subs_k29) subs_k30) subs_k31)
theorem subs_inst : Tryz.f12.isInstance Tryz.prog Rows.scaleSubsetsRow.origin Rows.scaleSubsetsRow.targs := of_decide_eq_true (by kernel_rfl)
theorem subs_wrap : Tryz.f12.isWrapper Tryz.prog Rows.scaleSubsetsRow.wrapper Rows.scaleSubsetsRow.mainSum := by unfold Func.isWrapper; first | (rw [if_pos (by decide +kernel)]; kernel_rfl) | (rw [if_neg (by decide +kernel)]; exact ⟨rfl, rfl⟩)
theorem subs_named : Tryz.prog.funcNamed Rows.scaleSubsetsRow.func = some 12 := by kernel_rfl
set_option maxRecDepth 100000 in
theorem subs_holds : Rows.ScaleSubsetsSaid :=
  OpenClaim.holds_of_wide 12 Tryz.f12 rfl rfl rfl rfl rfl rfl rfl ⟨rfl, rfl, rfl, rfl, rfl⟩ rfl rfl rfl rfl rfl subs_named Tryz.func12 subs_closed subs_inst subs_wrap
    (fun os started H enc _ => subs_lifted os started H enc)
end Go.Proofs.YtaakmdjicocjpaaGreatDoor
