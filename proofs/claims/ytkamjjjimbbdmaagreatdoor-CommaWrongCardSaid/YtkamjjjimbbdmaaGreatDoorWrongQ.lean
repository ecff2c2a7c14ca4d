/- CommaWrong: for any list of primes (or other numbers) and any two rows, Combine returns the first error. The tied card, without conditions. -/
import Derived.Test.YtkamjjjimbbdmaaGreatDoorWrong
import Derived.Test.YtkamjjjimbbdmaaGreatDoorArgIn
import Derived.Test.YtkamjjjimbbdmaaGreatDoorLawPost
namespace Go.Proofs.YtkamjjjimbbdmaaGreatDoor
open Go.ChangeShapes Go.WideShapes Go.ChangeAt Go.WideMaps Go.WideElems Go.RowKit

set_option maxRecDepth 100000 in
theorem wrong_lifted (os : Os) (started : os.Started) (H : Type) (enc : TypeId × Value → H) :
    ReturnsInHanded {} Tryz.checked os 6 .any (fun w args => (Rows.commaWrongSpec.pre enc Tryz.prog Tryz.f6 [] false w args ∧ laidMetH Tryz.prog Rows.commaWrongRow.laid w) ∧ sizedMet enc Tryz.prog Tryz.f6 (OpenSpec.ofChange Rows.commaWrongSpec) false w args)
      (Rows.commaWrongSpec.post enc Tryz.prog Tryz.f6 false true false false) := by
  refine returnsInHanded_of_change_and (C := Tryz.checked) (X := fun w _ => laidMetH Tryz.prog Rows.commaWrongRow.laid w) (fun _ _ _ hh h => h.of_heap hh) ownKnob_none started (by kernel_rfl) Tryz.func6
    (ChangeSpec.witness_shaped (enc := enc) (C := Tryz.checked) (os := os) (X := fun w _ => laidMetH Tryz.prog Rows.commaWrongRow.laid w) false (World.laidAll Tryz.prog os rowLaid) #[.slice none 0 0, .slice none 0 0, .slice none 0 0] 8 (World.laidAll_os _ _ _)
      (rows_shaped os _) (by kernel_rfl) (by kernel_rfl) (by kernel_rfl)
      (rows_met os _)) ?_
  intro W base args ds gs before hval0 hW _ _ hL _
  have hval : ∀ (j : Nat) t v, Tryz.f6.params[j]? = some t → args[j]? = some v → Value.okWide Tryz.prog W .any base t v := hval0
  have hW' := hW
  obtain ⟨p, q, hA0, hV, rfl, _, _⟩ := hW
  have hA : DataW.TrodAll enc Tryz.prog W 0 (fun _ => true) true Tryz.f6.params.toList args.toList ds p := hA0
  rw [Tryz.params6] at hA hval
  obtain ⟨v0, v1, v2, d0, d1, d2, p0, p1, p2, rfl, rfl, rfl, h0, h1, h2⟩ := trodAll_three hA
  obtain ⟨rfl, rfl⟩ := trodVars_none hV
  have hE := env_of_laid hL
  obtain ⟨x0, hx0, _⟩ := sl_in Tryz.underlying29 (hval 0 29 v0 rfl rfl) h0
  obtain ⟨x1, hx1, _⟩ := sl_in Tryz.underlying30 (hval 1 30 v1 rfl rfl) h1
  obtain ⟨x2, hx2, _⟩ := sl_in Tryz.underlying30 (hval 2 30 v2 rfl rfl) h2
  refine (wrongAll_c v0 v1 v2 x0 x1 x2 W hE hx0 hx1 hx2).mono fun e' W' ⟨he', hb⟩ => ?_
  subst he'
  exact ⟨_, rfl, law_post rfl (by rw [Tryz.params6]; decide +kernel) rfl rfl hW' hb⟩

theorem wrong_holds : Rows.CommaWrongSaid :=
  OpenClaim.holds_of_wide 6 Tryz.f6 rfl rfl rfl rfl rfl rfl rfl ⟨rfl, rfl, rfl, rfl, rfl⟩ rfl rfl rfl rfl rfl (by kernel_rfl) Tryz.func6 (by kernel_rfl)
    (of_decide_eq_true (by kernel_rfl)) (by unfold Func.isWrapper; first | (rw [if_pos (by decide +kernel)]; kernel_rfl) | (rw [if_neg (by decide +kernel)]; exact ⟨rfl, rfl⟩))
    (fun os started H enc _ => wrong_lifted os started H enc)

theorem wrong_card : Rows.CommaWrongCardSaid :=
  Claim7.holds_tied_plain_at .later [] [.data, .data, .data, .sentinel, .sentinel] true (true, "ef9bef160808dab75bcc16a36ad70f1427a7490e534792e8ba55f790fc90c504") true
    wrong_holds (fun _ h => by cases h) (by kernel_rfl) (fun _ h => by cases h) commaWrong_row_tie rfl ⟨rfl, rfl⟩ (by kernel_rfl) rfl
    (fun f fn hf hfn => by
      obtain rfl : f = 6 := Option.some.inj ((show Tryz.prog.funcNamed "schisma/schismalaw16.CommaWrong" = some 6 by kernel_rfl).symm.trans hf) |>.symm
      obtain rfl : fn = Tryz.f6 := (Option.some.inj (Tryz.func6.symm.trans hfn)).symm
      exact ⟨by kernel_rfl, fun j t ht => by
        rw [Tryz.params6] at ht
        have hm : t ∈ [29, 30, 30] := by simpa using Array.mem_of_getElem? ht
        have hall : ([29, 30, 30].all fun u => !Tryz.prog.wantsStandIn u) = true := by kernel_rfl
        exact (show Tryz.prog.wantsStandIn t = false by simpa using List.all_eq_true.1 hall t hm)⟩)
    (by kernel_rfl)
#print axioms wrong_card
end Go.Proofs.YtkamjjjimbbdmaaGreatDoor
