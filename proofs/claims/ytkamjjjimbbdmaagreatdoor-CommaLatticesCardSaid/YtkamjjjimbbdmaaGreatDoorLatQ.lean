/- CommaLattices: for any plan of a question, and any two intervals over its primes, In returns those of the list that belong to the lattice of both, and Least the first of them. The tied card, without conditions. -/
import Derived.Test.YtkamjjjimbbdmaaGreatDoorLatC
import Derived.Test.YtkamjjjimbbdmaaGreatDoorRngIn
import Derived.Test.YtkamjjjimbbdmaaGreatDoorLawPost
namespace Go.Proofs.YtkamjjjimbbdmaaGreatDoor
open Go.ChangeShapes Go.WideShapes Go.ChangeAt Go.WideMaps Go.WideElems Go.RowKit

set_option maxRecDepth 100000 in
theorem latt_lifted (os : Os) (started : os.Started) (H : Type) (enc : TypeId × Value → H) :
    ReturnsInHanded {} Tryz.checked os 11 .any (fun w args => (Rows.commaLatticesSpec.pre enc Tryz.prog Tryz.f11 [] false w args ∧ laidMetH Tryz.prog Rows.commaLatticesRow.laid w) ∧ sizedMet enc Tryz.prog Tryz.f11 (OpenSpec.ofChange Rows.commaLatticesSpec) false w args)
      (Rows.commaLatticesSpec.post enc Tryz.prog Tryz.f11 false true false false) := by
  refine returnsInHanded_of_change_and (C := Tryz.checked) (X := fun w _ => laidMetH Tryz.prog Rows.commaLatticesRow.laid w) (fun _ _ _ hh h => h.of_heap hh) ownKnob_none started (by kernel_rfl) Tryz.func11
    (ChangeSpec.witness_shaped (enc := enc) (C := Tryz.checked) (os := os) (X := fun w _ => laidMetH Tryz.prog Rows.commaLatticesRow.laid w) false (World.laidAll Tryz.prog os rowLaid) #[.agg #[.int .u8 0, .int .i8 0, .int .i8 0, .int .i8 0, .int .i8 0, .int .u8 0], .agg #[.int .i8 0, .int .i8 0, .int .i8 0, .int .i8 0], .agg #[.int .i8 0, .int .i8 0, .int .i8 0, .int .i8 0]] 8 (World.laidAll_os _ _ _)
      (rows_shaped os _) (by kernel_rfl) (by kernel_rfl) (by kernel_rfl)
      (rows_met os _)) ?_
  intro W base args ds gs before hval0 hW _ _ hL _
  have hval : ∀ (j : Nat) t v, Tryz.f11.params[j]? = some t → args[j]? = some v → Value.okWide Tryz.prog W .any base t v := hval0
  have hW' := hW
  obtain ⟨p, q, hA0, hV, rfl, _, _⟩ := hW
  have hA : DataW.TrodAll enc Tryz.prog W 0 (fun _ => true) true Tryz.f11.params.toList args.toList ds p := hA0
  rw [Tryz.params11] at hA hval
  obtain ⟨v0, v1, v2, d0, d1, d2, p0, p1, p2, rfl, rfl, rfl, h0, h1, h2⟩ := trodAll_three hA
  obtain ⟨rfl, rfl⟩ := trodVars_none hV
  have hE := env_of_laid hL
  obtain ⟨n, a, b, c, e, g, rfl, _, _, wn, ws, wg⟩ := open_plan16 (hval 0 27 v0 rfl rfl) h0
  obtain ⟨x1, y1, z1, u1, rfl, s1⟩ := open_four8 (hval 1 23 v1 rfl rfl) h1
  obtain ⟨x2, y2, z2, u2, rfl, s2⟩ := open_four8 (hval 2 23 v2 rfl rfl) h2
  have hn := bounds_u8 wn
  have hg := bounds_u8 wg
  obtain ⟨n', rfl⟩ : ∃ n' : Nat, n = n' := ⟨n.toNat, by omega⟩
  obtain ⟨g', rfl⟩ : ∃ g' : Nat, g = g' := ⟨g.toNat, by omega⟩
  refine (latt_c n' g' a b c e x1 y1 z1 u1 x2 y2 z2 u2 W hE (rng_of_laid hL) (by omega) (by omega) ws.bounds s1.bounds s2.bounds).mono fun e' W' ⟨he', hb⟩ => ?_
  subst he'
  exact ⟨_, rfl, law_post rfl (by rw [Tryz.params11]; decide +kernel) rfl rfl hW' hb⟩

theorem latt_holds : Rows.CommaLatticesSaid :=
  OpenClaim.holds_of_wide 11 Tryz.f11 rfl rfl rfl rfl rfl rfl rfl ⟨rfl, rfl, rfl, rfl, rfl⟩ rfl rfl rfl rfl rfl (by kernel_rfl) Tryz.func11 (by kernel_rfl)
    (of_decide_eq_true (by kernel_rfl)) (by unfold Func.isWrapper; first | (rw [if_pos (by decide +kernel)]; kernel_rfl) | (rw [if_neg (by decide +kernel)]; exact ⟨rfl, rfl⟩))
    (fun os started H enc _ => latt_lifted os started H enc)

theorem latt_card : Rows.CommaLatticesCardSaid :=
  Claim7.holds_tied_plain_at .later [] [.data, .data, .data, .sentinel, .sentinel] true (true, "ef9bef160808dab75bcc16a36ad70f1427a7490e534792e8ba55f790fc90c504") true
    latt_holds (fun _ h => by cases h) (by kernel_rfl) (fun _ h => by cases h) commaLattices_row_tie rfl ⟨rfl, rfl⟩ (by kernel_rfl) rfl
    (fun f fn hf hfn => by
      obtain rfl : f = 11 := Option.some.inj ((show Tryz.prog.funcNamed "schisma/schismalaw16.CommaLattices" = some 11 by kernel_rfl).symm.trans hf) |>.symm
      obtain rfl : fn = Tryz.f11 := (Option.some.inj (Tryz.func11.symm.trans hfn)).symm
      exact ⟨by kernel_rfl, fun j t ht => by
        rw [Tryz.params11] at ht
        have hm : t ∈ [27, 23, 23] := by simpa using Array.mem_of_getElem? ht
        have hall : ([27, 23, 23].all fun u => !Tryz.prog.wantsStandIn u) = true := by kernel_rfl
        exact (show Tryz.prog.wantsStandIn t = false by simpa using List.all_eq_true.1 hall t hm)⟩)
    (by kernel_rfl)
#print axioms latt_card
end Go.Proofs.YtkamjjjimbbdmaaGreatDoor
