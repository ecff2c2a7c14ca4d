/- ScaleModes: for any two described scales and any int, Mode returns the mode of the first one at this index, or ErrRange; Same says whether they are one scale; and Rotation the least mode of the first one that is the second one. The tied card, without conditions. -/
import Derived.Test.YtaakmdjicocjpaaGreatDoorPcE
namespace Go.Proofs.YtaakmdjicocjpaaGreatDoor
open Go.ChangeShapes Go.WideShapes Go.ChangeAt Go.WideMaps Go.WideElems Go.RowKit

theorem modes_card : Rows.ScaleModesCardSaid :=
  Claim7.holds_tied_plain_at .later [] [.data, .data, .data, .sentinel, .sentinel] true (true, "d5a242ecfc9588e8c1554cec436e32834b7b7744528efc5077adeecd1e642f41") true
    modes_holds (fun _ h => by cases h) (by as_aux_lemma => kernel_rfl) (fun _ h => by cases h) scaleModes_row_tie rfl ⟨rfl, rfl⟩ (by as_aux_lemma => kernel_rfl) rfl
    (fun f fn hf hfn => by
      obtain rfl : f = 13 := Option.some.inj ((show Tryz.prog.funcNamed "schisma/schismalaw31.ScaleModes" = some 13 by kernel_rfl).symm.trans hf) |>.symm
      obtain rfl : fn = Tryz.f13 := (Option.some.inj (Tryz.func13.symm.trans hfn)).symm
      exact ⟨by kernel_rfl, fun j t ht => by
        rw [Tryz.params13] at ht
        have hm : t ∈ [26, 26, 3] := by simpa using Array.mem_of_getElem? ht
        have hall : ([26, 26, 3].all fun u => !Tryz.prog.wantsStandIn u) = true := by kernel_rfl
        exact (show Tryz.prog.wantsStandIn t = false by simpa using List.all_eq_true.1 hall t hm)⟩)
    (by as_aux_lemma => kernel_rfl)
#print axioms modes_card
end Go.Proofs.YtaakmdjicocjpaaGreatDoor
