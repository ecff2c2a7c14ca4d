/- CommaForms: for any plan of a question and any matrix, In and Least return the error of a matrix that is no right form, or has not as many columns as there are primes. The tied card, without conditions. -/
import Derived.Test.YtkamjjjimbbdmaaGreatDoorFormsC
import Derived.Test.YtkamjjjimbbdmaaGreatDoorMatIn
import Derived.Test.YtkamjjjimbbdmaaGreatDoorLawPost
import Derived.Test.YtkamjjjimbbdmaaGreatDoorPlanIn
namespace Go.Proofs.YtkamjjjimbbdmaaGreatDoor
open Go.ChangeShapes Go.WideShapes Go.ChangeAt Go.WideMaps Go.WideElems Go.RowKit

set_option maxRecDepth 100000 in
theorem forms_lifted (os : Os) (started : os.Started) (H : Type) (enc : TypeId × Value → H) :
    ReturnsInHanded {} Tryz.checked os 9 .any (fun w args => (Rows.commaFormsSpec.pre enc Tryz.prog Tryz.f9 [] false w args ∧ laidMetH Tryz.prog Rows.commaFormsRow.laid w) ∧ sizedMet enc Tryz.prog Tryz.f9 (OpenSpec.ofChange Rows.commaFormsSpec) false w args)
      (Rows.commaFormsSpec.post enc Tryz.prog Tryz.f9 false true false false) := by
  refine returnsInHanded_of_change_and (C := Tryz.checked) (X := fun w _ => laidMetH Tryz.prog Rows.commaFormsRow.laid w) (fun _ _ _ hh h => h.of_heap hh) ownKnob_none started (by kernel_rfl) Tryz.func9
    (ChangeSpec.witness_shaped (enc := enc) (C := Tryz.checked) (os := os) (X := fun w _ => laidMetH Tryz.prog Rows.commaFormsRow.laid w) false (World.laidAll Tryz.prog os rowLaid) #[.agg #[.int .u8 0, .int .i8 0, .int .i8 0, .int .i8 0, .int .i8 0, .int .u8 0], .slice none 0 0] 8 (World.laidAll_os _ _ _)
      (rows_shaped os _) (by kernel_rfl) (by kernel_rfl) (by kernel_rfl)
      (rows_met os _)) ?_
  intro W base args ds gs before hval0 hW _ _ hL _
  have hval : ∀ (j : Nat) t v, Tryz.f9.params[j]? = some t → args[j]? = some v → Value.okWide Tryz.prog W .any base t v := hval0
  have hW' := hW
  obtain ⟨p, q, hA0, hV, rfl, _, _⟩ := hW
  have hA : DataW.TrodAll enc Tryz.prog W 0 (fun _ => true) true Tryz.f9.params.toList args.toList ds p := hA0
  rw [Tryz.params9] at hA hval
  obtain ⟨v0, v1, d0, d1, p0, p1, rfl, rfl, rfl, h0, h1⟩ := trodAll_two hA
  obtain ⟨rfl, rfl⟩ := trodVars_none hV
  have hE := env_of_laid hL
  obtain ⟨n, a, b, c, e, g, rfl, _, _, wn, ws, wg⟩ := open_plan16 (hval 0 27 v0 rfl rfl) h0
  obtain ⟨m, hm⟩ := mat_in (hval 1 62 v1 rfl rfl) h1
  have hn := bounds_u8 wn
  have hg := bounds_u8 wg
  obtain ⟨n', rfl⟩ : ∃ n' : Nat, n = n' := ⟨n.toNat, by omega⟩
  obtain ⟨g', rfl⟩ : ∃ g' : Nat, g = g' := ⟨g.toNat, by omega⟩
  refine (forms_c n' g' a b c e v1 m W hE hm (by omega) (by omega) ws.bounds).mono fun e' W' ⟨he', hb⟩ => ?_
  subst he'
  exact ⟨_, rfl, law_post rfl (by rw [Tryz.params9]; decide +kernel) rfl rfl hW' hb⟩

theorem forms_holds : Rows.CommaFormsSaid :=
  OpenClaim.holds_of_wide 9 Tryz.f9 rfl rfl rfl rfl rfl rfl rfl ⟨rfl, rfl, rfl, rfl, rfl⟩ rfl rfl rfl rfl rfl (by kernel_rfl) Tryz.func9 (by kernel_rfl)
    (of_decide_eq_true (by kernel_rfl)) (by unfold Func.isWrapper; first | (rw [if_pos (by decide +kernel)]; kernel_rfl) | (rw [if_neg (by decide +kernel)]; exact ⟨rfl, rfl⟩))
    (fun os started H enc _ => forms_lifted os started H enc)

theorem forms_card : Rows.CommaFormsCardSaid :=
  Claim7.holds_tied_plain_at .later [] [.data, .data, .data, .sentinel, .sentinel] true (true, "ef9bef160808dab75bcc16a36ad70f1427a7490e534792e8ba55f790fc90c504") true
    forms_holds (fun _ h => by cases h) (by kernel_rfl) (fun _ h => by cases h) commaForms_row_tie rfl ⟨rfl, rfl⟩ (by kernel_rfl) rfl
    (fun f fn hf hfn => by
      obtain rfl : f = 9 := Option.some.inj ((show Tryz.prog.funcNamed "schisma/schismalaw16.CommaForms" = some 9 by kernel_rfl).symm.trans hf) |>.symm
      obtain rfl : fn = Tryz.f9 := (Option.some.inj (Tryz.func9.symm.trans hfn)).symm
      exact ⟨by kernel_rfl, fun j t ht => by
        rw [Tryz.params9] at ht
        have hm : t ∈ [27, 62] := by simpa using Array.mem_of_getElem? ht
        have hall : ([27, 62].all fun u => !Tryz.prog.wantsStandIn u) = true := by kernel_rfl
        exact (show Tryz.prog.wantsStandIn t = false by simpa using List.all_eq_true.1 hall t hm)⟩)
    (by kernel_rfl)
#print axioms forms_card
end Go.Proofs.YtkamjjjimbbdmaaGreatDoor
