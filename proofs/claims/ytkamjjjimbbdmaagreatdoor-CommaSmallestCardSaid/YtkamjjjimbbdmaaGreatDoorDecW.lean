/- Walks: decimal's Compare, both, Mul. -/
import Derived.Test.YtkamjjjimbbdmaaGreatDoorCmp
import Derived.Test.YtkamjjjimbbdmaaGreatDoorFmt
import Derived.Test.YtkamjjjimbbdmaaGreatDoorCut
import Derived.Test.YtkamjjjimbbdmaaGreatDoorText
import Derived.Test.YtkamjjjimbbdmaaGreatDoorTimes
namespace Go.Proofs.YtkamjjjimbbdmaaGreatDoor
open Go.RowKit Go.Lib

set_option maxHeartbeats 400000 in
theorem cmp_w (s t : ByteArray) (w : World) (r : Int) (h1 : s.size ≤ 1000000) (h2 : t.size ≤ 1000000)
    (hr : (s.size ≠ t.size ∧ r = cmpI s.size t.size) ∨ (s.size = t.size ∧ ((Op.bytesLess s.toList t.toList = true ∧ r = -1) ∨ (Op.bytesLess s.toList t.toList = false ∧ (s.toList == t.toList) = true ∧ r = 0) ∨ (Op.bytesLess s.toList t.toList = false ∧ (s.toList == t.toList) = false ∧ r = 1)))) :
    Calls Tryz.prog 56 #[.string s, .string t] w fun e w' => e = .returned (.int .i64 r) ∧ w = w' := by
  rcases hr with ⟨hne, rfl⟩ | ⟨he, ⟨hb, rfl⟩ | ⟨hb, hc, rfl⟩ | ⟨hb, hc, rfl⟩⟩
  · have ht : ((s.size : Int) != (t.size : Int)) = true := by rw [bne_iff_ne]; omega
    rcases Nat.lt_or_gt_of_ne hne with g | g
    · rw [cmpI_lt (by omega)]
      clear hne
      go_enter Tryz.func56, Tryz.ntmps56
      go_wp2
      go_ret
      exact ⟨ret_int (by omega), rfl⟩
    · rw [cmpI_gt (by omega)]
      clear hne
      go_enter Tryz.func56, Tryz.ntmps56
      go_wp2
      go_ret
      exact ⟨ret_int (by omega), rfl⟩
  all_goals
    have ht : ((s.size : Int) != (t.size : Int)) = false := by rw [bne_eq_false_iff_eq]; omega
    clear he
    go_enter Tryz.func56, Tryz.ntmps56
    go_wp2
    go_ret
    exact ⟨rfl, rfl⟩

theorem decCmp_c (a b : Nat) (w : World) (ha : nDigits a ≤ 1000000) (hb : nDigits b ≤ 1000000) :
    Calls Tryz.prog 56 #[.string (D a), .string (D b)] w fun e w' => e = .returned (.int .i64 (cmpI a b)) ∧ w = w' := by
  refine cmp_w (D a) (D b) w (cmpI a b) (by rw [D_size]; exact ha) (by rw [D_size]; exact hb) ?_
  rw [D_size, D_size]
  by_cases h : nDigits a = nDigits b
  · refine .inr ⟨h, ?_⟩
    rw [D_less a b h, D_eq a b]
    rcases Nat.lt_trichotomy a b with g | g | g
    · exact .inl ⟨decide_eq_true g, cmpI_lt (by omega)⟩
    · exact .inr (.inl ⟨decide_eq_false (by omega), decide_eq_true g, cmpI_eq (by omega)⟩)
    · exact .inr (.inr ⟨decide_eq_false (by omega), decide_eq_false (by omega), cmpI_gt (by omega)⟩)
  · refine .inl ⟨h, ?_⟩
    rcases Nat.lt_or_gt_of_ne h with g | g
    · have := Dec.lt_of_nDigits_lt g
      rw [cmpI_lt (by omega), cmpI_lt (by omega)]
    · have := Dec.lt_of_nDigits_lt g
      rw [cmpI_gt (by omega), cmpI_gt (by omega)]

/-- Eighteen digits fit. -/
theorem lt18 {n : Nat} (h : nDigits n ≤ 18) : n < 1000000000000000000 := by
  have h1 := lt_pow_nDigits n
  have h2 : 10 ^ nDigits n ≤ 10 ^ 18 := Nat.pow_le_pow_right (by omega) h
  omega

set_option maxHeartbeats 400000 in
theorem both_yes (a b : Nat) (w : World) (ha : nDigits a ≤ 18) (hb : nDigits b ≤ 18) :
    Calls Tryz.prog 111 #[.string (D a), .string (D b)] w fun e w' => e = .returned (.tuple #[.int .u64 a, .int .u64 b, .bool true]) ∧ Ext w w' := by
  have hsa := D_size a
  have hsb := D_size b
  have ha' : ¬ (18 : Int) < nDigits a := by omega
  have hb' : ¬ (18 : Int) < nDigits b := by omega
  have la := lt18 ha
  have lb := lt18 hb
  generalize hna : nDigits a = na at *
  generalize hnb : nDigits b = nb at *
  have HNA := Lib.hid hna; clear hna
  have HNB := Lib.hid hnb; clear hnb
  go_enter Tryz.func111, Tryz.ntmps111
  go_wp2_with fail
  refine (decSmall_c a (by omega) w).mono ?_
  rintro e w1 ⟨rfl, hx1⟩
  have Hx1 := Lib.hid hx1; clear hx1
  go_wp2_with fail
  refine (decSmall_c b (by omega) w1).mono ?_
  rintro e w2 ⟨rfl, hx2⟩
  have Hx2 := Lib.hid hx2; clear hx2
  go_wp2
  go_ret3
  exact ⟨rfl, Hx1.out.trans Hx2.out⟩

set_option maxHeartbeats 400000 in
theorem both_no (a b : Nat) (w : World) (ha : nDigits a ≤ 1000000) (hb : nDigits b ≤ 1000000) (h : 18 < nDigits a ∨ 18 < nDigits b) :
    Calls Tryz.prog 111 #[.string (D a), .string (D b)] w fun e w' => e = .returned (.tuple #[.int .u64 0, .int .u64 0, .bool false]) ∧ w = w' := by
  have hsa := D_size a
  have hsb := D_size b
  generalize hna : nDigits a = na at *
  generalize hnb : nDigits b = nb at *
  have HNA := Lib.hid hna; clear hna
  have HNB := Lib.hid hnb; clear hnb
  by_cases g : 18 < na
  · clear h
    go_enter Tryz.func111, Tryz.ntmps111
    go_wp2
    go_ret3
    exact ⟨rfl, rfl⟩
  · have g2 : 18 < nb := by omega
    clear h
    go_enter Tryz.func111, Tryz.ntmps111
    go_wp2
    go_ret3
    exact ⟨rfl, rfl⟩

theorem P_len_le {n : Nat} (h : nDigits n ≤ 800000) : (Dec.P n).length ≤ 100000 := by
  by_cases h0 : n = 0
  · subst h0; rw [Dec.P_zero]; simp
  · have := (Dec.nDigits_P h0).1
    have := Dec.P_len_pos h0
    omega

theorem nDigits_mul (a b : Nat) : nDigits (a * b) ≤ nDigits a + nDigits b := by
  have h1 := lt_pow_nDigits a
  have h2 := lt_pow_nDigits b
  have := nDigits_pos a
  refine Dec.nDigits_le (by omega) ?_
  rw [Nat.pow_add]
  exact Nat.mul_lt_mul'' h1 h2

set_option maxRecDepth 100000 in
set_option maxHeartbeats 400000 in
theorem decMul_c (a b : Nat) (w : World) (he : Env w) (ha : nDigits a ≤ 400000) (hb : nDigits b ≤ 400000) :
    Calls Tryz.prog 80 #[.string (D a), .string (D b)] w fun e w' => e = .returned (.string (D (a * b))) ∧ Ext w w' := by
  have hsa := D_size a
  have hsb := D_size b
  have Hmul := Lib.hid (nDigits_mul a b)
  have He := Lib.hid he; clear he
  generalize hna : nDigits a = na at *
  generalize hnb : nDigits b = nb at *
  have HNA := Lib.hid hna; clear hna
  have HNB := Lib.hid hnb; clear hnb
  by_cases g : na + nb ≤ 18
  · have hp : a * b < 1000000000000000000 := lt18 (n := a * b) (by have := Hmul.out; omega)
    have Hp := Lib.hid hp; clear hp
    go_enter Tryz.func80, Tryz.ntmps80
    go_wp2_with fail
    have hp' : (a : Int) * b ≤ 999999999999999999 := by have := Hp.out; rw [← Int.natCast_mul]; omega
    have hp0 : 0 ≤ (a : Int) * b := by rw [← Int.natCast_mul]; omega
    refine (both_yes a b w (by rw [HNA.out]; omega) (by rw [HNB.out]; omega)).mono ?_
    rintro e w1 ⟨rfl, hx1⟩
    have Hx1 := Lib.hid hx1; clear hx1
    go_wp2_with fail
    rw [← Int.natCast_mul]
    refine (decOf_c (a * b) (by have := Hp.out; omega) w1 (He.out.ext Hx1.out)).mono ?_
    rintro e w2 ⟨rfl, hx2⟩
    have Hx2 := Lib.hid hx2; clear hx2
    go_wp2
    go_ret
    exact ⟨rfl, Hx1.out.trans Hx2.out⟩
  · go_enter Tryz.func80, Tryz.ntmps80
    go_wp2_with fail
    refine (cut_D a w (by rw [HNA.out]; omega)).mono ?_
    rintro e w1 ⟨⟨va, rfl, hva⟩, hx1⟩
    have Hx1 := Lib.hid hx1; clear hx1
    have Hva := Lib.hid hva; clear hva
    go_wp2_with fail
    refine (cut_D b w1 (by rw [HNB.out]; omega)).mono ?_
    rintro e w2 ⟨⟨vb, rfl, hvb⟩, hx2⟩
    have Hx2 := Lib.hid hx2; clear hx2
    have Hvb := Lib.hid hvb; clear hvb
    go_wp2_with fail
    refine (times_c va vb a b w2 (Hx2.out.sl Hva.out.sl) Hvb.out.sl (P_len_le (by rw [HNA.out]; omega)) (P_len_le (by rw [HNB.out]; omega))).mono ?_
    rintro e w3 ⟨⟨vc, rfl, hvc⟩, hx3⟩
    have Hx3 := Lib.hid hx3; clear hx3
    have Hvc := Lib.hid hvc; clear hvc
    go_wp2_with fail
    refine (text_c vc (a * b) w3 Hvc.out.sl (P_len_le (by have := Hmul.out; omega))).mono ?_
    rintro e w4 ⟨rfl, hx4⟩
    have Hx4 := Lib.hid hx4; clear hx4
    go_wp2
    go_ret
    exact ⟨rfl, ((Hx1.out.trans Hx2.out).trans Hx3.out).trans Hx4.out⟩

end Go.Proofs.YtkamjjjimbbdmaaGreatDoor
