/- ScaleSubsets: for any described scale and any list of at most 10 ints, Subset returns the scale of the notes with these indices, or the first error. The tied card, without conditions. -/
import Derived.Test.YtaakmdjicocjpaaGreatDoorPbS
namespace Go.Proofs.YtaakmdjicocjpaaGreatDoor
open Go.ChangeShapes Go.WideShapes Go.ChangeAt Go.WideMaps Go.WideElems Go.RowKit

theorem subs_card : Rows.ScaleSubsetsCardSaid :=
  Claim7.holds_tied_plain_at .later [] [.data, .data, .data, .sentinel, .sentinel] true (true, "d5a242ecfc9588e8c1554cec436e32834b7b7744528efc5077adeecd1e642f41") true
    subs_holds (fun _ h => by cases h) (by as_aux_lemma => kernel_rfl) (fun _ h => by cases h) scaleSubsets_row_tie rfl ⟨rfl, rfl⟩ (by as_aux_lemma => kernel_rfl) rfl
    (fun f fn hf hfn => by
      obtain rfl : f = 12 := Option.some.inj ((show Tryz.prog.funcNamed "schisma/schismalaw31.ScaleSubsets" = some 12 by kernel_rfl).symm.trans hf) |>.symm
      obtain rfl : fn = Tryz.f12 := (Option.some.inj (Tryz.func12.symm.trans hfn)).symm
      exact ⟨by kernel_rfl, fun j t ht => by
        rw [Tryz.params12] at ht
        have hm : t ∈ [26, 28] := by simpa using Array.mem_of_getElem? ht
        have hall : ([26, 28].all fun u => !Tryz.prog.wantsStandIn u) = true := by kernel_rfl
        exact (show Tryz.prog.wantsStandIn t = false by simpa using List.all_eq_true.1 hall t hm)⟩)
    (by as_aux_lemma => kernel_rfl)
#print axioms subs_card
end Go.Proofs.YtaakmdjicocjpaaGreatDoor
