/- ScaleTurns: the row holds. -/
import Derived.Test.YtaakmdjicocjpaaGreatDoorPbY
import Derived.Test.YtaakmdjicocjpaaGreatDoorPbR
namespace Go.Proofs.YtaakmdjicocjpaaGreatDoor
open Go.ChangeShapes Go.WideShapes Go.ChangeAt Go.WideMaps Go.WideElems Go.RowKit

theorem turns_k0 : (Rows.scaleTurnsRow.wf (OpenSpec.ofChange Rows.scaleTurnsSpec)) = true := by kernel_rfl
theorem turns_k3 : (Tryz.f14.params.all (Tryz.prog.readableRec ·)) = true := by kernel_rfl
theorem turns_k4 : (namedTie Tryz.prog Rows.scaleTurnsRow.named Rows.scaleTurnsSpec.vars) = true := by kernel_rfl
theorem turns_k5 : ((Rows.scaleTurnsRow.stops == [])) = true := by kernel_rfl
theorem turns_k7 : ((Rows.scaleTurnsRow.knobs == [])) = true := by kernel_rfl
theorem turns_k9 : ((Rows.scaleTurnsRow.inPlace == Tryz.prog.inPlace 14)) = true := by kernel_rfl
theorem turns_k10 : ((Rows.scaleTurnsRow.unfollowed == Tryz.prog.unfollowed 14)) = true := by kernel_rfl
theorem turns_k11 : ((Rows.scaleTurnsRow.recurses == Tryz.prog.recurses 14)) = true := by kernel_rfl
theorem turns_k12 : ((Rows.scaleTurnsRow.named == Tryz.prog.varsNamed 14)) = true := by kernel_rfl
theorem turns_k13 : ((Rows.scaleTurnsRow.maps == (Tryz.f14.params.toList ++ Rows.scaleTurnsSpec.plain.varTypes Tryz.prog).any (Tryz.prog.mapsRec ·))) = true := by kernel_rfl
theorem turns_k14 : ((Rows.scaleTurnsRow.ifaces == (Tryz.f14.params.toList ++ Rows.scaleTurnsSpec.plain.varTypes Tryz.prog).any (Tryz.prog.ifacesRec ·))) = true := by kernel_rfl
theorem turns_k15 : ((Rows.scaleTurnsRow.mapsOut == Tryz.prog.mapsAmong Tryz.f14.resultTypes.toList)) = true := by kernel_rfl
theorem turns_k16 : ((Rows.scaleTurnsRow.loops == (Tryz.f14.params.toList ++ Rows.scaleTurnsSpec.plain.varTypes Tryz.prog).any (Tryz.prog.loopsFrom ·))) = true := by kernel_rfl
theorem turns_k17 : ((Rows.scaleTurnsRow.wideKeys == (Tryz.f14.params.toList ++ Rows.scaleTurnsSpec.plain.varTypes Tryz.prog ++ Tryz.f14.resultTypes.toList).any (Tryz.prog.wideKeysFrom ·))) = true := by kernel_rfl
theorem turns_k18 : (Rows.scaleTurnsSpec.vars.all (Tryz.prog.varReadable ·)) = true := by kernel_rfl
theorem turns_k19 : (Tryz.f14.resultTypes.all (fun t => Tryz.prog.readableRec t && decide (t < Tryz.prog.types.size))) = true := by kernel_rfl
theorem turns_k20 : ((Rows.scaleTurnsRow.ifacesOut == Tryz.f14.resultTypes.toList.any (Tryz.prog.ifacesRec ·))) = true := by kernel_rfl
theorem turns_k21 : ((Rows.scaleTurnsRow.loopsOut == Tryz.f14.resultTypes.toList.any (Tryz.prog.loopsFrom ·))) = true := by kernel_rfl
theorem turns_k23 : (Rows.scaleTurnsRow.shortTexts.isNone) = true := by kernel_rfl
theorem turns_k28 : ((Rows.scaleTurnsRow.kinds == (if Rows.scaleTurnsRow.domain.isEmpty then [] else Tryz.f14.params.toList.map fun t => match Tryz.prog.underlying t with | some (.int k) => some k | _ => none))) = true := by kernel_rfl
theorem turns_k29 : ((Rows.scaleTurnsRow.pinned == Rows.scaleTurnsRow.pinnedBy)) = true := by kernel_rfl
theorem turns_k30 : ((Rows.scaleTurnsRow.veiled == (Tryz.f14.params.toList ++ Rows.scaleTurnsSpec.plain.varTypes Tryz.prog ++ Tryz.f14.resultTypes.toList).any (Tryz.prog.veiledRec ·))) = true := by kernel_rfl
theorem turns_k31 : (Rows.scaleTurnsRow.veiledFits Tryz.prog Tryz.f14.params.toList (Tryz.f14.params.toList ++ Rows.scaleTurnsSpec.plain.varTypes Tryz.prog ++ Tryz.f14.resultTypes.toList)) = true := by kernel_rfl
set_option maxRecDepth 100000 in
theorem turns_closed : joinedFacts Tryz.prog 14 Tryz.f14 Rows.scaleTurnsSpec Rows.scaleTurnsRow = true := (and_t (and_t (and_t (and_t (and_t (and_t (and_t (and_t (and_t (and_t (and_t (and_t (and_t (and_t (and_t (and_t (and_t (and_t (and_t (and_t (and_t (and_t (and_t (and_t (and_t (and_t (and_t (and_t (and_t (and_t (and_t turns_k0 laidOut_yes) fct_maps) turns_k3) turns_k4) turns_k5) fct_stops) turns_k7) fct_knobs) turns_k9) turns_k10) turns_k11) turns_k12) turns_k13) turns_k14) turns_k15) turns_k16) turns_k17) turns_k18) turns_k19) turns_k20) turns_k21) fct_keys) turns_k23) fct_heard) fct_enter) fct_lifts) fct_make) turns_k28) turns_k29) turns_k30) turns_k31)
theorem turns_inst : Tryz.f14.isInstance Tryz.prog Rows.scaleTurnsRow.origin Rows.scaleTurnsRow.targs := of_decide_eq_true (by kernel_rfl)
theorem turns_wrap : Tryz.f14.isWrapper Tryz.prog Rows.scaleTurnsRow.wrapper Rows.scaleTurnsRow.mainSum := by unfold Func.isWrapper; first | (rw [if_pos (by decide +kernel)]; kernel_rfl) | (rw [if_neg (by decide +kernel)]; exact ⟨rfl, rfl⟩)
theorem turns_named : Tryz.prog.funcNamed Rows.scaleTurnsRow.func = some 14 := by kernel_rfl
set_option maxRecDepth 100000 in
theorem turns_holds : Rows.ScaleTurnsSaid :=
  OpenClaim.holds_of_wide 14 Tryz.f14 rfl rfl rfl rfl rfl rfl rfl ⟨rfl, rfl, rfl, rfl, rfl⟩ rfl rfl rfl rfl rfl turns_named Tryz.func14 turns_closed turns_inst turns_wrap
    (fun os started H enc _ => turns_lifted os started H enc)
end Go.Proofs.YtaakmdjicocjpaaGreatDoor
