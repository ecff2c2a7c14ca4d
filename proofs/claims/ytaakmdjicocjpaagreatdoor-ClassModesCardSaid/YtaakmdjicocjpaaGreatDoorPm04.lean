/- ClassModes: for any described scale and any mode of it, both have the same kind, and both are proper, strict and constant, or not; strict scales are proper and constant, and proper and constant ones are strict. The tied card, without conditions. -/
import Derived.Test.YtaakmdjicocjpaaGreatDoorPm03
namespace Go.Proofs.YtaakmdjicocjpaaGreatDoor
open Go.ChangeShapes Go.WideShapes Go.ChangeAt Go.WideMaps Go.WideElems Go.RowKit
theorem modes32_card : Rows.ClassModesCardSaid :=
  Claim7.holds_tied_plain_at .later [] [.data, .data, .data, .sentinel, .sentinel] true (true, "d5a242ecfc9588e8c1554cec436e32834b7b7744528efc5077adeecd1e642f41") true
    modes32_holds (fun _ h => by cases h) (by as_aux_lemma => kernel_rfl) (fun _ h => by cases h) classModes_row_tie rfl ⟨rfl, rfl⟩ (by as_aux_lemma => kernel_rfl) rfl
    (fun f fn hf hfn => by
      obtain rfl : f = 8 := Option.some.inj ((show Tryz.prog.funcNamed "schisma/schismalaw32.ClassModes" = some 8 by kernel_rfl).symm.trans hf) |>.symm
      obtain rfl : fn = Tryz.f8 := (Option.some.inj (Tryz.func8.symm.trans hfn)).symm
      exact ⟨by kernel_rfl, fun j t ht => by
        rw [Tryz.params8] at ht
        have hm : t ∈ [26, 5] := by simpa using Array.mem_of_getElem? ht
        have hall : ([26, 5].all fun u => !Tryz.prog.wantsStandIn u) = true := by kernel_rfl
        exact (show Tryz.prog.wantsStandIn t = false by simpa using List.all_eq_true.1 hall t hm)⟩)
    (by as_aux_lemma => kernel_rfl)
#print axioms modes32_card
end Go.Proofs.YtaakmdjicocjpaaGreatDoor
