/- Walks: whole's split, join, little, Sign, Compare, Mul. -/
import Derived.Test.YtkamjjjimbbdmaaGreatDoorDecW
namespace Go.Proofs.YtkamjjjimbbdmaaGreatDoor
open Go.RowKit Go.Lib

set_option maxHeartbeats 400000 in
theorem split_w0 (s : ByteArray) (w : World) (h0 : 0 < s.size) (_h1 : s.size ≤ 1000001) (h : (((s[0]'h0).toNat : Int) == 45) = false) :
    Calls Tryz.prog 74 #[.string s] w fun e w' => e = .returned (.tuple #[.bool false, .string s]) ∧ Ext w w' := by
  go_enter Tryz.func74, Tryz.ntmps74
  go_wp2
  go_ret2
  exact ⟨rfl, Ext.refl _⟩

set_option maxHeartbeats 400000 in
theorem split_w1 (s t : ByteArray) (w : World) (h0 : 0 < s.size) (h1 : s.size ≤ 1000001) (h : (((s[0]'h0).toNat : Int) == 45) = true) (ht : s.extract 1 s.size = t) :
    Calls Tryz.prog 74 #[.string s] w fun e w' => e = .returned (.tuple #[.bool true, .string t]) ∧ Ext w w' := by
  go_enter Tryz.func74, Tryz.ntmps74
  go_wp2
  go_quiet (fail)
  go_wp2
  go_ret2
  exact ⟨rfl, (Ext.refl _).drewN _⟩

/-- The lengths of numbers that are met. -/
def Fit (z : Int) : Prop := nDigits z.natAbs ≤ 400000
theorem Fit.nat {n : Nat} (h : Fit (n : Int)) : nDigits n ≤ 400000 := h
theorem Fit.neg {n : Nat} (h : Fit (-(n : Int))) : nDigits n ≤ 400000 := by unfold Fit at h; rwa [Int.natAbs_neg, Int.natAbs_natCast] at h
theorem sign_cases (z : Int) : (∃ n : Nat, z = n) ∨ ∃ n : Nat, 0 < n ∧ z = -(n : Int) := by
  by_cases h : z < 0
  · exact .inr ⟨z.natAbs, by omega, by omega⟩
  · exact .inl ⟨z.toNat, by omega⟩

theorem split_c (z : Int) (w : World) (hz : Fit z) :
    Calls Tryz.prog 74 #[.string (I z)] w fun e w' => e = .returned (.tuple #[.bool (decide (z < 0)), .string (D z.natAbs)]) ∧ Ext w w' := by
  rcases sign_cases z with ⟨n, rfl⟩ | ⟨n, hn, rfl⟩
  · have h := hz.nat
    rw [I_nat, decide_eq_false (by omega), Int.natAbs_natCast]
    refine split_w0 (D n) w (D_pos n) (by rw [D_size]; omega) ?_
    have := D_first n (D_pos n)
    exact beq_eq_false_iff_ne.2 (by omega)
  · have h := hz.neg
    rw [decide_eq_true (by omega), Int.natAbs_neg, Int.natAbs_natCast]
    have hs := I_neg_size n hn
    refine split_w1 (I (-(n : Int))) (D n) w (by omega) (by omega) ?_ (I_neg_tail n hn)
    have := I_neg_first n hn (by omega)
    exact beq_iff_eq.2 (by omega)

set_option maxHeartbeats 400000 in
theorem join_w1 (s : ByteArray) (w : World) (h1 : s.size ≤ 1000001) (h : (s.toList == [48]) = false) :
    Calls Tryz.prog 79 #[.bool true, .string s] w fun e w' => e = .returned (.string (⟨#[45]⟩ ++ s)) ∧ w = w' := by
  go_enter Tryz.func79, Tryz.ntmps79
  go_wp2
  go_ret
  exact ⟨rfl, rfl⟩

set_option maxHeartbeats 400000 in
theorem join_w0 (s : ByteArray) (w : World) (b : Bool) (h : b = false ∨ (s.toList == [48]) = true) :
    Calls Tryz.prog 79 #[.bool b, .string s] w fun e w' => e = .returned (.string s) ∧ w = w' := by
  rcases h with rfl | h
  · go_enter Tryz.func79, Tryz.ntmps79
    go_wp2
    go_ret
    exact ⟨rfl, rfl⟩
  · cases b
    all_goals
      go_enter Tryz.func79, Tryz.ntmps79
      go_wp2
      go_ret
      exact ⟨rfl, rfl⟩

/-- The sign that a magnitude is given. -/
def signed (b : Bool) (n : Nat) : Int := if b then -(n : Int) else n

theorem join_c (b : Bool) (n : Nat) (w : World) (hn : nDigits n ≤ 1000000) :
    Calls Tryz.prog 79 #[.bool b, .string (D n)] w fun e w' => e = .returned (.string (I (signed b n))) ∧ w = w' := by
  by_cases h : b = true ∧ n ≠ 0
  · obtain ⟨rfl, h0⟩ := h
    have := join_w1 (D n) w (by rw [D_size]; omega) (by rw [D_is_zero]; exact decide_eq_false h0)
    have e : (⟨#[45]⟩ : ByteArray) ++ D n = I (signed true n) := by
      unfold signed I itoa
      rw [if_pos rfl, if_pos (by omega), Int.natAbs_neg, Int.natAbs_natCast]
      apply ByteArray.ext
      rw [ByteArray.data_append]
      unfold D
      simp
    rwa [e] at this
  · have e : I (signed b n) = D n := by
      unfold signed
      cases b with
      | false => rw [if_neg (by simp)]; exact I_nat n
      | true =>
        have : n = 0 := by
          rcases Nat.eq_zero_or_pos n with g | g
          · exact g
          · exact absurd ⟨rfl, by omega⟩ h
        subst this
        rw [if_pos rfl]
        exact I_nat 0
    rw [e]
    refine join_w0 (D n) w b ?_
    cases b with
    | false => exact .inl rfl
    | true =>
      refine .inr ?_
      rw [D_is_zero]
      refine decide_eq_true ?_
      rcases Nat.eq_zero_or_pos n with g | g
      · exact g
      · exact absurd ⟨rfl, by omega⟩ h

set_option maxHeartbeats 400000 in
theorem little_no (s : ByteArray) (k : Int) (w : World) (_h1 : s.size ≤ 1000001) (h : k < s.size) :
    Calls Tryz.prog 78 #[.string s, .int .i64 k] w fun e w' => e = .returned (.tuple #[.int .i64 0, .bool false]) ∧ Ext w w' := by
  go_enter Tryz.func78, Tryz.ntmps78
  go_wp2
  go_ret2
  exact ⟨rfl, Ext.refl _⟩

set_option maxHeartbeats 400000 in
theorem little_yes (z : Int) (k : Int) (w : World) (h0 : -1000000000000000000 < z) (h1 : z < 1000000000000000000) (h : ((I z).size : Int) ≤ k) :
    Calls Tryz.prog 78 #[.string (I z), .int .i64 k] w fun e w' => e = .returned (.tuple #[.int .i64 z, .bool true]) ∧ Ext w w' := by
  have hs : ¬ k < ((I z).size : Int) := by omega
  have H0 := Lib.hid h0; clear h0
  have H1 := Lib.hid h1; clear h1
  go_enter Tryz.func78, Tryz.ntmps78
  go_wp2_with fail
  refine (atoi_c z (by have := H0.out; omega) (by have := H1.out; omega) w).mono ?_
  rintro e w1 ⟨rfl, hx1⟩
  have Hx1 := Lib.hid hx1; clear hx1
  go_wp2
  go_quiet (fail)
  go_wp2
  go_ret2
  exact ⟨rfl, Hx1.out.drewN _⟩

theorem I_size_le (z : Int) (hz : Fit z) : (I z).size ≤ 400001 := by
  rcases sign_cases z with ⟨n, rfl⟩ | ⟨n, hn, rfl⟩
  · have := hz.nat
    rw [I_nat, D_size]
    omega
  · have := hz.neg
    rw [I_neg_size n hn]
    omega

/-- A short numeral is small. -/
theorem I_small (z : Int) (k : Nat) (hk : (I z).size ≤ k) : z.natAbs < 10 ^ k := by
  rcases sign_cases z with ⟨n, rfl⟩ | ⟨n, hn, rfl⟩
  · rw [I_nat, D_size] at hk
    have := lt_pow_nDigits n
    have h2 : 10 ^ nDigits n ≤ 10 ^ k := Nat.pow_le_pow_right (by omega) hk
    omega
  · rw [I_neg_size n hn] at hk
    have := lt_pow_nDigits n
    have h2 : 10 ^ nDigits n ≤ 10 ^ k := Nat.pow_le_pow_right (by omega) (by omega)
    omega

set_option maxHeartbeats 400000 in
theorem sign_w (s : ByteArray) (w : World) (r : Int) (h0 : 0 < s.size) (_h1 : s.size ≤ 1000001)
    (h : ((s.toList == [48]) = true ∧ r = 0) ∨ ((s.toList == [48]) = false ∧ (((s[0]'h0).toNat : Int) == 45) = true ∧ r = -1) ∨ ((s.toList == [48]) = false ∧ (((s[0]'h0).toNat : Int) == 45) = false ∧ r = 1)) :
    Calls Tryz.prog 73 #[.string s] w fun e w' => e = .returned (.int .i64 r) ∧ w = w' := by
  rcases h with ⟨ha, rfl⟩ | ⟨ha, hb, rfl⟩ | ⟨ha, hb, rfl⟩
  all_goals
    go_enter Tryz.func73, Tryz.ntmps73
    go_wp2
    go_ret
    exact ⟨rfl, rfl⟩

theorem sign_c (z : Int) (w : World) (hz : Fit z) :
    Calls Tryz.prog 73 #[.string (I z)] w fun e w' => e = .returned (.int .i64 (cmpI z 0)) ∧ w = w' := by
  have hpos : 0 < (I z).size := by
    rcases sign_cases z with ⟨n, rfl⟩ | ⟨n, hn, rfl⟩
    · rw [I_nat]; exact D_pos n
    · rw [I_neg_size n hn]; omega
  refine sign_w (I z) w (cmpI z 0) hpos (by have := I_size_le z hz; omega) ?_
  rw [I_is_zero]
  rcases sign_cases z with ⟨n, rfl⟩ | ⟨n, hn, rfl⟩
  · by_cases h0 : n = 0
    · subst h0; exact .inl ⟨decide_eq_true rfl, cmpI_eq rfl⟩
    · refine .inr (.inr ⟨decide_eq_false (by omega), ?_, cmpI_gt (by omega)⟩)
      have key : ∀ (s : ByteArray) (hs : 0 < s.size), s = D n → (((s[0]'hs).toNat : Int) == 45) = false := by
        intro s hs e
        subst e
        have := D_first n hs
        exact beq_eq_false_iff_ne.2 (by omega)
      exact key _ hpos (I_nat n)
  · refine .inr (.inl ⟨decide_eq_false (by omega), ?_, cmpI_lt (by omega)⟩)
    have := I_neg_first n hn hpos
    exact beq_iff_eq.2 (by omega)

theorem cmpI_range (a b : Int) : cmpI a b = -1 ∨ cmpI a b = 0 ∨ cmpI a b = 1 := by
  unfold cmpI
  split
  · simp
  · split <;> simp

theorem cmp_same (a b : Int) (h : cmpI a 0 = cmpI b 0) : cmpI a b = if a < 0 then cmpI b.natAbs a.natAbs else cmpI a.natAbs b.natAbs := by
  have h3 : (a < 0 ∧ b < 0) ∨ (0 ≤ a ∧ 0 ≤ b) := by
    unfold cmpI at h
    by_cases g1 : a < 0 <;> by_cases g2 : b < 0
    · exact .inl ⟨g1, g2⟩
    · rw [if_pos g1, if_neg g2] at h
      split at h <;> omega
    · rw [if_neg g1, if_pos g2] at h
      split at h <;> omega
    · exact .inr ⟨by omega, by omega⟩
  rcases h3 with ⟨g1, g2⟩ | ⟨g1, g2⟩
  · rw [if_pos g1]
    rcases Int.lt_trichotomy a b with k | k | k
    · rw [cmpI_lt k, cmpI_lt (by omega)]
    · rw [cmpI_eq k, cmpI_eq (by omega)]
    · rw [cmpI_gt k, cmpI_gt (by omega)]
  · rw [if_neg (by omega)]
    rcases Int.lt_trichotomy a b with k | k | k
    · rw [cmpI_lt k, cmpI_lt (by omega)]
    · rw [cmpI_eq k, cmpI_eq (by omega)]
    · rw [cmpI_gt k, cmpI_gt (by omega)]

theorem cmp_diff (a b : Int) (h : ¬ cmpI a 0 = cmpI b 0) : (cmpI a 0 < cmpI b 0 ∧ cmpI a b = -1) ∨ (¬ cmpI a 0 < cmpI b 0 ∧ cmpI a b = 1) := by
  rcases Int.lt_trichotomy a 0 with g1 | g1 | g1 <;> rcases Int.lt_trichotomy b 0 with g2 | g2 | g2
  · rw [cmpI_lt g1, cmpI_lt g2] at h; exact absurd rfl h
  · rw [cmpI_lt g1, cmpI_eq g2, cmpI_lt (by omega)]; simp
  · rw [cmpI_lt g1, cmpI_gt g2, cmpI_lt (by omega)]; simp
  · rw [cmpI_eq g1, cmpI_lt g2, cmpI_gt (by omega)]; simp
  · rw [cmpI_eq g1, cmpI_eq g2] at h; exact absurd rfl h
  · rw [cmpI_eq g1, cmpI_gt g2, cmpI_lt (by omega)]; simp
  · rw [cmpI_gt g1, cmpI_lt g2, cmpI_gt (by omega)]; simp
  · rw [cmpI_gt g1, cmpI_eq g2, cmpI_gt (by omega)]; simp
  · rw [cmpI_gt g1, cmpI_gt g2] at h; exact absurd rfl h

set_option maxHeartbeats 800000 in
theorem cmp_c (a b : Int) (w : World) (ha : Fit a) (hb : Fit b) :
    Calls Tryz.prog 37 #[.string (I a), .string (I b)] w fun e w' => e = .returned (.int .i64 (cmpI a b)) ∧ Ext w w' := by
  have Ha := Lib.hid ha; have Hb := Lib.hid hb
  have hra := cmpI_range a 0
  have hrb := cmpI_range b 0
  have hca := sign_c a w ha
  have hcb := sign_c b w hb
  by_cases hne : cmpI a 0 = cmpI b 0
  · have hsame := cmp_same a b hne
    have Hsame := Lib.hid hsame; clear hsame
    rw [← hne] at hcb
    have ht : (cmpI a 0 != cmpI a 0) = false := by simp
    clear hne hrb
    generalize cmpI a 0 = x at *
    have Hca := Lib.hid hca; clear hca
    have Hcb := Lib.hid hcb; clear hcb
    clear ha hb hra
    by_cases hneg : a < 0
    · have hsp : Calls Tryz.prog 74 #[.string (I a)] w _ := split_c a w Ha.out
      rw [decide_eq_true hneg] at hsp
      have Hsp := Lib.hid hsp; clear hsp
      have Hneg := Lib.hid hneg; clear hneg
      go_enter Tryz.func37, Tryz.ntmps37
      go_wp2_with fail
      refine Hca.out.mono ?_
      rintro e w1 ⟨rfl, rfl⟩
      go_wp2_with fail
      refine Hcb.out.mono ?_
      rintro e w1 ⟨rfl, rfl⟩
      go_wp2_with fail
      refine Hsp.out.mono ?_
      rintro e w1 ⟨rfl, hx1⟩
      have Hx1 := Lib.hid hx1; clear hx1
      go_wp2_with fail
      refine (split_c b w1 Hb.out).mono ?_
      rintro e w2 ⟨rfl, hx2⟩
      have Hx2 := Lib.hid hx2; clear hx2
      go_wp2_with fail
      refine (decCmp_c b.natAbs a.natAbs w2 (by have := Hb.out; unfold Fit at this; omega) (by have := Ha.out; unfold Fit at this; omega)).mono ?_
      rintro e w3 ⟨rfl, rfl⟩
      go_wp2
      go_ret
      exact ⟨ret_int (by rw [Hsame.out, if_pos (by have := Hneg.out; omega)]), Hx1.out.trans Hx2.out⟩
    · have hsp : Calls Tryz.prog 74 #[.string (I a)] w _ := split_c a w Ha.out
      rw [decide_eq_false hneg] at hsp
      have Hsp := Lib.hid hsp; clear hsp
      have Hneg := Lib.hid hneg; clear hneg
      go_enter Tryz.func37, Tryz.ntmps37
      go_wp2_with fail
      refine Hca.out.mono ?_
      rintro e w1 ⟨rfl, rfl⟩
      go_wp2_with fail
      refine Hcb.out.mono ?_
      rintro e w1 ⟨rfl, rfl⟩
      go_wp2_with fail
      refine Hsp.out.mono ?_
      rintro e w1 ⟨rfl, hx1⟩
      have Hx1 := Lib.hid hx1; clear hx1
      go_wp2_with fail
      refine (split_c b w1 Hb.out).mono ?_
      rintro e w2 ⟨rfl, hx2⟩
      have Hx2 := Lib.hid hx2; clear hx2
      go_wp2_with fail
      refine (decCmp_c a.natAbs b.natAbs w2 (by have := Ha.out; unfold Fit at this; omega) (by have := Hb.out; unfold Fit at this; omega)).mono ?_
      rintro e w3 ⟨rfl, rfl⟩
      go_wp2
      go_ret
      exact ⟨ret_int (by rw [Hsame.out, if_neg (by have := Hneg.out; omega)]), Hx1.out.trans Hx2.out⟩
  · have hlt := cmp_diff a b hne
    have ht : (cmpI a 0 != cmpI b 0) = true := by simpa using hne
    clear hne
    generalize cmpI a 0 = x at *
    generalize cmpI b 0 = y at *
    have Hca := Lib.hid hca; clear hca
    have Hcb := Lib.hid hcb; clear hcb
    clear ha hb hra hrb
    rcases hlt with ⟨hlt, hr⟩ | ⟨hlt, hr⟩
    all_goals
      have Hr := Lib.hid hr; clear hr
      go_enter Tryz.func37, Tryz.ntmps37
      go_wp2_with fail
      refine Hca.out.mono ?_
      rintro e w1 ⟨rfl, rfl⟩
      go_wp2_with fail
      refine Hcb.out.mono ?_
      rintro e w1 ⟨rfl, rfl⟩
      go_wp2
      go_ret
      exact ⟨ret_int Hr.out.symm, Ext.refl _⟩

theorem signed_mul (a b : Int) : signed (decide (a < 0) != decide (b < 0)) (a.natAbs * b.natAbs) = a * b := by
  unfold signed
  rcases sign_cases a with ⟨n, rfl⟩ | ⟨n, hn, rfl⟩ <;> rcases sign_cases b with ⟨m, rfl⟩ | ⟨m, hm, rfl⟩
  · rw [decide_eq_false (p := (n : Int) < 0) (by omega), decide_eq_false (p := (m : Int) < 0) (by omega)]
    simp
  · rw [decide_eq_false (p := (n : Int) < 0) (by omega), decide_eq_true (p := -(m : Int) < 0) (by omega)]
    simp [Int.mul_neg]
  · rw [decide_eq_true (p := -(n : Int) < 0) (by omega), decide_eq_false (p := (m : Int) < 0) (by omega)]
    simp [Int.neg_mul]
  · rw [decide_eq_true (p := -(n : Int) < 0) (by omega), decide_eq_true (p := -(m : Int) < 0) (by omega)]
    simp [Int.neg_mul, Int.mul_neg]

set_option maxHeartbeats 800000 in
theorem mul_short (a b : Int) (w : World) (he : Env w) (ha9 : ((I a).size : Int) ≤ 9) (hb9 : ((I b).size : Int) ≤ 9) :
    Calls Tryz.prog 40 #[.string (I a), .string (I b)] w fun e w' => e = .returned (.string (I (a * b))) ∧ Ext w w' := by
  have hba := I_small a 9 (by omega)
  have hbb := I_small b 9 (by omega)
  have hab : a * b ≤ 999999998000000001 ∧ -999999998000000001 ≤ a * b := by
    have h1 : (a * b).natAbs ≤ 999999999 * 999999999 := by rw [Int.natAbs_mul]; exact Nat.mul_le_mul (by omega) (by omega)
    omega
  have hab1 := hab.1
  have hab2 := hab.2
  have hla2 : -1000000000000000000 < a ∧ a < 1000000000000000000 := by omega
  have hlb2 : -1000000000000000000 < b ∧ b < 1000000000000000000 := by omega
  have Hla2 := Lib.hid hla2; clear hla2
  have Hlb2 := Lib.hid hlb2; clear hlb2
  have He := Lib.hid he; clear he
  clear hab hba hbb
  go_enter Tryz.func40, Tryz.ntmps40
  go_wp2_with fail
  refine (little_yes a 9 w Hla2.out.1 Hla2.out.2 ha9).mono ?_
  rintro e w1 ⟨rfl, hx1⟩
  have Hx1 := Lib.hid hx1; clear hx1
  go_wp2_with fail
  refine (little_yes b 9 w1 Hlb2.out.1 Hlb2.out.2 hb9).mono ?_
  rintro e w2 ⟨rfl, hx2⟩
  have Hx2 := Lib.hid hx2; clear hx2
  go_wp2_with fail
  refine (wholeOf_c (a * b) (by omega) (by omega) w2 ((He.out.ext Hx1.out).ext Hx2.out)).mono ?_
  rintro e w3 ⟨rfl, hx3⟩
  have Hx3 := Lib.hid hx3; clear hx3
  go_wp2
  go_ret
  exact ⟨rfl, (Hx1.out.trans Hx2.out).trans Hx3.out⟩

theorem nDigits_mul' (a b : Int) (ha : Fit a) (hb : Fit b) : nDigits (a.natAbs * b.natAbs) ≤ 1000000 := by
  have := nDigits_mul a.natAbs b.natAbs
  unfold Fit at ha hb
  omega

set_option maxHeartbeats 800000 in
theorem mul_long (a b : Int) (w : World) (he : Env w) (ha : Fit a) (hb : Fit b) (h : (9 : Int) < ((I a).size : Int) ∨ (((I a).size : Int) ≤ 9 ∧ (9 : Int) < ((I b).size : Int))) :
    Calls Tryz.prog 40 #[.string (I a), .string (I b)] w fun e w' => e = .returned (.string (I (a * b))) ∧ Ext w w' := by
  have Ha := Lib.hid ha; have Hb := Lib.hid hb
  have hsa := I_size_le a ha
  have hsb := I_size_le b hb
  have He := Lib.hid he; clear he ha hb
  have Hsg : Hid (signed (!decide (a < 0) == decide (b < 0)) (a.natAbs * b.natAbs) = a * b) := signed_mul a b
  have h2 : (9 : Int) < ((I a).size : Int) ∨ (((I a).size : Int) ≤ 9 ∧ (9 : Int) < ((I b).size : Int) ∧ Hid (-1000000000000000000 < a ∧ a < 1000000000000000000)) := by
    rcases h with h | ⟨h1, h2⟩
    · exact .inl h
    · refine .inr ⟨h1, h2, ?_⟩
      have := I_small a 9 (by omega)
      exact Lib.hid (by omega)
  clear h
  rcases h2 with h | ⟨h1, h2, Hla2⟩
  case' inl =>
    go_enter Tryz.func40, Tryz.ntmps40
    go_wp2_with fail
    refine (little_no (I a) 9 w (by omega) h).mono ?_
    rintro e w2 ⟨rfl, hx⟩
  case' inr =>
    go_enter Tryz.func40, Tryz.ntmps40
    go_wp2_with fail
    refine (little_yes a 9 w Hla2.out.1 Hla2.out.2 h1).mono ?_
    rintro e w1 ⟨rfl, hx1⟩
    have Hx1 := Lib.hid hx1; clear hx1
    go_wp2_with fail
    refine (little_no (I b) 9 w1 (by omega) h2).mono ?_
    rintro e w2 ⟨rfl, hx2⟩
    have hx := Hx1.out.trans hx2
    clear hx2
  all_goals
    have Hx := Lib.hid hx; clear hx
    go_wp2_with fail
    refine (split_c a w2 Ha.out).mono ?_
    rintro e w3 ⟨rfl, hx3⟩
    have Hx3 := Lib.hid hx3; clear hx3
    go_wp2_with fail
    refine (split_c b w3 Hb.out).mono ?_
    rintro e w4 ⟨rfl, hx4⟩
    have Hx4 := Lib.hid hx4; clear hx4
    go_wp2_with fail
    refine (decMul_c a.natAbs b.natAbs w4 (((He.out.ext Hx.out).ext Hx3.out).ext Hx4.out) Ha.out Hb.out).mono ?_
    rintro e w5 ⟨rfl, hx5⟩
    have Hx5 := Lib.hid hx5; clear hx5
    go_wp2_with fail
    refine (join_c _ (a.natAbs * b.natAbs) w5 (nDigits_mul' a b Ha.out Hb.out)).mono ?_
    rintro e w6 ⟨rfl, rfl⟩
    rw [Hsg.out]
    go_wp2
    go_ret
    exact ⟨rfl, ((Hx.out.trans Hx3.out).trans Hx4.out).trans Hx5.out⟩

theorem mul_c (a b : Int) (w : World) (he : Env w) (ha : Fit a) (hb : Fit b) :
    Calls Tryz.prog 40 #[.string (I a), .string (I b)] w fun e w' => e = .returned (.string (I (a * b))) ∧ Ext w w' := by
  by_cases h1 : ((I a).size : Int) ≤ 9
  · by_cases h2 : ((I b).size : Int) ≤ 9
    · exact mul_short a b w he h1 h2
    · exact mul_long a b w he ha hb (.inr ⟨h1, by omega⟩)
  · exact mul_long a b w he ha hb (.inl (by omega))

end Go.Proofs.YtkamjjjimbbdmaaGreatDoor
