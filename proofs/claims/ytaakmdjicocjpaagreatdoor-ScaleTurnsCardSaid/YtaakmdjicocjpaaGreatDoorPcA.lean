/- ScaleTurns: for any described scale and any two modes, the mode of a mode is the mode of the sum; the steps add up to the period; and the scale of its notes, and the subset of all, are the scale. The tied card, without conditions. -/
import Derived.Test.YtaakmdjicocjpaaGreatDoorPbZ
namespace Go.Proofs.YtaakmdjicocjpaaGreatDoor
open Go.ChangeShapes Go.WideShapes Go.ChangeAt Go.WideMaps Go.WideElems Go.RowKit

theorem turns_card : Rows.ScaleTurnsCardSaid :=
  Claim7.holds_tied_plain_at .later [] [.data, .data, .data, .sentinel, .sentinel] true (true, "d5a242ecfc9588e8c1554cec436e32834b7b7744528efc5077adeecd1e642f41") true
    turns_holds (fun _ h => by cases h) (by as_aux_lemma => kernel_rfl) (fun _ h => by cases h) scaleTurns_row_tie rfl ⟨rfl, rfl⟩ (by as_aux_lemma => kernel_rfl) rfl
    (fun f fn hf hfn => by
      obtain rfl : f = 14 := Option.some.inj ((show Tryz.prog.funcNamed "schisma/schismalaw31.ScaleTurns" = some 14 by kernel_rfl).symm.trans hf) |>.symm
      obtain rfl : fn = Tryz.f14 := (Option.some.inj (Tryz.func14.symm.trans hfn)).symm
      exact ⟨by kernel_rfl, fun j t ht => by
        rw [Tryz.params14] at ht
        have hm : t ∈ [26, 5, 5] := by simpa using Array.mem_of_getElem? ht
        have hall : ([26, 5, 5].all fun u => !Tryz.prog.wantsStandIn u) = true := by kernel_rfl
        exact (show Tryz.prog.wantsStandIn t = false by simpa using List.all_eq_true.1 hall t hm)⟩)
    (by as_aux_lemma => kernel_rfl)
#print axioms turns_card
end Go.Proofs.YtaakmdjicocjpaaGreatDoor
