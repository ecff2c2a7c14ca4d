/- Walks: decimal's Bits and Power (of small bases), whole's Power. -/
import Derived.Test.YtkamjjjimbbdmaaGreatDoorWhole
import Derived.Lib.RabinKarpLaws
namespace Go.Proofs.YtkamjjjimbbdmaaGreatDoor
open Go.RowKit Go.Lib

set_option maxHeartbeats 400000 in
theorem bits_c (a : Nat) (w : World) (ha : nDigits a ≤ 18) :
    Calls Tryz.prog 136 #[.string (D a)] w fun e w' => e = .returned (.int .i64 (Lib.bitLen a)) ∧ Ext w w' := by
  have h18 := lt18 ha
  have H18 := Lib.hid h18; clear h18 ha
  go_enter Tryz.func136, Tryz.ntmps136
  go_wp2_with fail
  refine (decSmall_c a (by have := H18.out; omega) w).mono ?_
  rintro e w1 ⟨rfl, hx1⟩
  have Hx1 := Lib.hid hx1; clear hx1
  go_wp2_with fail
  refine (Any.bits_Len64 Tryz.lLen64 (a : Int) w1 (by omega) (by have := H18.out; omega)).mono ?_
  rintro e w2 ⟨rfl, rfl⟩
  rw [Int.toNat_natCast]
  go_wp2
  go_ret
  exact ⟨rfl, Hx1.out⟩

theorem bitLen_pos {a : Nat} (h : 2 ≤ a) (h2 : a < 2 ^ 64) : 2 ≤ Lib.bitLen a ∧ 2 ^ (Lib.bitLen a - 1) ≤ a ∧ Lib.bitLen a ≤ 64 := by
  obtain ⟨h3, h4, h5⟩ := Lib.bitLenAux_bounds 64 a h2 (by omega)
  unfold Lib.bitLen
  refine ⟨?_, h4, Lib.bitLen_le a 64 (Nat.le_refl _) h2⟩
  refine Nat.lt_of_not_le fun hh => ?_
  have : 2 ^ Lib.bitLenAux 64 a ≤ 2 ^ 1 := Nat.pow_le_pow_right (by omega) hh
  omega

theorem pow_big : 10 ^ 20000 < 2 ^ 66439 := by decide +kernel

/-- The bound on the exponent is met. -/
theorem pow_quot' {a n K T : Nat} (hKT : 10 ^ T < 2 ^ K) (h : 2 ≤ a) (h2 : a < 2 ^ 64) (hN : nDigits (a ^ n) ≤ T) : n ≤ K / (Lib.bitLen a - 1) := by
  obtain ⟨h3, h4, _⟩ := bitLen_pos h h2
  rw [Nat.le_div_iff_mul_le (by omega)]
  refine Nat.le_of_not_lt fun hh => ?_
  have e1 : 2 ^ (n * (Lib.bitLen a - 1)) ≤ a ^ n := by
    rw [Nat.mul_comm, Nat.pow_mul]
    exact Nat.pow_le_pow_left h4 n
  have e2 : 2 ^ K ≤ 2 ^ (n * (Lib.bitLen a - 1)) := Nat.pow_le_pow_right (by omega) (by omega)
  have e3 := lt_pow_nDigits (a ^ n)
  have e4 : 10 ^ nDigits (a ^ n) ≤ 10 ^ T := Nat.pow_le_pow_right (by omega) hN
  omega
theorem pow_quot {a n : Nat} (h : 2 ≤ a) (h2 : a < 2 ^ 64) (hN : nDigits (a ^ n) ≤ 20000) : n ≤ 66439 / (Lib.bitLen a - 1) := pow_quot' pow_big h h2 hN

theorem info_u64p : (Tryz.prog.info? 145).map (fun i => (i.zero, i.size, i.bytes)) = some (some (.int .u64 0), 1, 8) := by kernel_rfl

def PowRel (N : Nat) (w0 : World) (n out p : Value) (wr : World) : Prop :=
  ∃ m acc base : Nat, n = .int .i64 m ∧ m ≤ 1000000 ∧ 1 ≤ acc ∧ 1 ≤ base ∧ acc * base ^ m = N ∧ Own wr w0.heap.size out (Dec.P acc) ∧ Own wr w0.heap.size p (Dec.P base) ∧ Ext w0 wr

theorem and_one_i64 (m : Nat) (h : m ≤ 1000000) : bits BinOp.and IntKind.i64 (m : Int) 1 = ((m % 2 : Nat) : Int) := Go.Proofs.and_one m (by omega)

theorem pow_odd (acc base q : Nat) : acc * base * (base * base) ^ q = acc * base ^ (2 * q + 1) := by
  rw [Nat.pow_succ, Nat.pow_mul, Nat.pow_two, Nat.mul_assoc, Nat.mul_comm base]
theorem pow_even (acc base q : Nat) : acc * (base * base) ^ q = acc * base ^ (2 * q) := by
  rw [Nat.pow_mul, Nat.pow_two]

set_option maxRecDepth 100000 in
set_option maxHeartbeats 1000000 in
theorem decPow_big (a n : Nat) (w : World) (he : Env w) (ha : nDigits a ≤ 18) (h2 : 2 ≤ a) (hn : 1 ≤ n) (hn2 : n ≤ 1000000) (hN : nDigits (a ^ n) ≤ 20000) :
    Calls Tryz.prog 90 #[.string (D a), .int .i64 n] w fun e w' => e = .returned (.tuple #[.string (D (a ^ n)), .int .i64 0]) ∧ Ext w w' := by
  have h18 := lt18 ha
  have hb := bitLen_pos h2 (by omega)
  have hq := pow_quot (n := n) h2 (by omega) hN
  obtain ⟨N, hNN⟩ : ∃ N, N = a ^ n := ⟨_, rfl⟩
  rw [← hNN] at hN ⊢
  have HNN := Lib.hid hNN; clear hNN
  have Ha := Lib.hid ha; clear ha
  have He := Lib.hid he; clear he
  have HN := Lib.hid hN; clear hN
  have H18 := Lib.hid h18; clear h18
  have hb1 : 2 ≤ Lib.bitLen a := hb.1
  have hb2 : Lib.bitLen a ≤ 64 := hb.2.2
  clear hb
  have hs1 : ((D a).toList == [49]) = false := by rw [D_is_one]; exact decide_eq_false (by omega)
  have hs0 : ((D a).toList == [48]) = false := by rw [D_is_zero]; exact decide_eq_false (by omega)
  have hnz : ((n : Int) == 0) = false := beq_eq_false_iff_ne.2 (by omega)
  have hbits := bits_c a w Ha.out
  generalize hL : Lib.bitLen a = L at *
  have HL := Lib.hid hL; clear hL
  have hquo : ¬ (66439 : Int) / ((L : Int) - 1) < n := by
    have e : (66439 : Int) / ((L : Int) - 1) = ((66439 / (L - 1) : Nat) : Int) := by
      rw [Int.natCast_ediv]; congr 1; omega
    rw [e]; omega
  have Hb := Lib.hid hbits; clear hbits hq
  go_enter Tryz.func90, Tryz.ntmps90
  go_wp2_with fail
  refine Hb.out.mono ?_
  rintro e w1 ⟨rfl, hx1⟩
  have Hx1 := Lib.hid hx1; clear hx1
  go_wp2_with fail
  have hone : Own (w1.alloc (.cells #[.int .u64 1] 145)) w.heap.size (.slice (some ⟨w1.heap.size, 0, none⟩) 1 1) (Dec.P 1) := by
    have e : Dec.P 1 = [1] := by rw [Dec.P_pos (by omega), show 1 / Dec.B = 0 from rfl, Dec.P_zero]; rfl
    rw [e]
    exact World.ownsRow_lit w1 #[.int .u64 1] 1 Hx1.out.size (by unfold maxLen; omega) rfl
  have Hone := Lib.hid hone; clear hone
  refine (cut_D a _ (by have := Ha.out; omega)).mono ?_
  rintro e w2 ⟨⟨v, rfl, hv⟩, hx2⟩
  have hx : Ext w w2 := (Hx1.out.alloc _).trans hx2
  have ho1 : Own w2 w.heap.size (.slice (some ⟨w1.heap.size, 0, none⟩) 1 1) (Dec.P 1) := hx2.own' Hone.out
  have hv' : Own w2 w.heap.size v (Dec.P a) := own_mono hv (by have := Hx1.out.size; simp; omega)
  have Hx := Lib.hid hx; clear hx hx2 Hone Hx1 hv
  have Ho1 := Lib.hid ho1; clear ho1
  have Hv := Lib.hid hv'; clear hv'
  go_wp2_with fail
  go_loopw [1, 7, 8] (fun n o p wr => PowRel N w n o p wr) (fun n _ _ _ => (intOf n).toNat)
  case atStart => exact ⟨n, 1, a, rfl, hn2, Nat.le_refl _, by omega, by rw [Nat.one_mul, HNN.out], Ho1.out, Hv.out, Hx.out⟩
  case round =>
    obtain ⟨m, acc, base, rfl, hm, hacc, hbase, hprod, hoa, hob, hext⟩ := hrel
    have Hprod := Lib.hid hprod; clear hprod
    have Hoa := Lib.hid hoa; clear hoa
    have Hob := Lib.hid hob; clear hob
    have Hext := Lib.hid hext; clear hext
    by_cases hm0 : 0 < m
    · have hand := and_one_i64 m hm
      have hodd : m % 2 = 1 ∨ m % 2 = 0 := by omega
      have hA : acc ≤ N := by rw [← Hprod.out]; exact Nat.le_mul_of_pos_right _ (Nat.pow_pos hbase)
      have hB : base ≤ N := by
        rw [← Hprod.out]
        have h1 : base ^ 1 ≤ base ^ m := Nat.pow_le_pow_right hbase hm0
        rw [Nat.pow_one] at h1
        exact Nat.le_trans h1 (Nat.le_mul_of_pos_left _ hacc)
      have hlA : (Dec.P acc).length ≤ 100000 := P_len_le (by have := Dec.nDigits_mono hA; have := HN.out; omega)
      have hlB : (Dec.P base).length ≤ 100000 := P_len_le (by have := Dec.nDigits_mono hB; have := HN.out; omega)
      have HlA := Lib.hid hlA; clear hlA hA
      have HlB := Lib.hid hlB; clear hlB hB
      have hcase : (m % 2 = 1 ∧ m = 1) ∨ (m % 2 = 1 ∧ 1 < m) ∨ (m % 2 = 0 ∧ 1 < m) := by omega
      rcases hcase with ⟨ho, hm1⟩ | ⟨ho, hm1⟩ | ⟨ho, hm1⟩
      · subst hm1
        rw [ho] at hand
        go_wp2_with fail
        refine (times_c u7 u8 acc base wr Hoa.out.sl Hob.out.sl HlA.out HlB.out).mono ?_
        rintro e w3 ⟨⟨v3, rfl, hv3⟩, hx3⟩
        have Hx3 := Lib.hid hx3; clear hx3
        have Hv3 := Lib.hid hv3; clear hv3
        go_wp2
        go_roundw
        case rel => exact ⟨0, acc * base, base, by go_num, by omega, Nat.mul_pos hacc hbase, hbase, by rw [← Hprod.out]; simp, own_mono Hv3.out Hext.out.size, Hx3.out.own' Hob.out, Hext.out.trans Hx3.out⟩
        case measure => simp [intOf]
      · rw [ho] at hand
        go_wp2_with fail
        refine (times_c u7 u8 acc base wr Hoa.out.sl Hob.out.sl HlA.out HlB.out).mono ?_
        rintro e w3 ⟨⟨v3, rfl, hv3⟩, hx3⟩
        have Hx3 := Lib.hid hx3; clear hx3
        have Hv3 := Lib.hid hv3; clear hv3
        go_wp2_with fail
        refine (times_c u8 u8 base base w3 (Hx3.out.sl Hob.out.sl) (Hx3.out.sl Hob.out.sl) HlB.out HlB.out).mono ?_
        rintro e w4 ⟨⟨v4, rfl, hv4⟩, hx4⟩
        have Hx4 := Lib.hid hx4; clear hx4
        have Hv4 := Lib.hid hv4; clear hv4
        go_wp2
        go_roundw
        case rel => exact ⟨m / 2, acc * base, base * base, by go_num, by omega, Nat.mul_pos hacc hbase, Nat.mul_pos hbase hbase, by rw [← Hprod.out, pow_odd]; congr 2; omega, Hx4.out.own' (own_mono Hv3.out Hext.out.size), own_mono Hv4.out (Hext.out.trans Hx3.out).size, (Hext.out.trans Hx3.out).trans Hx4.out⟩
        case measure => simp [intOf]; omega
      · rw [ho] at hand
        go_wp2_with fail
        refine (times_c u8 u8 base base wr Hob.out.sl Hob.out.sl HlB.out HlB.out).mono ?_
        rintro e w4 ⟨⟨v4, rfl, hv4⟩, hx4⟩
        have Hx4 := Lib.hid hx4; clear hx4
        have Hv4 := Lib.hid hv4; clear hv4
        go_wp2
        go_roundw
        case rel => exact ⟨m / 2, acc, base * base, by go_num, by omega, hacc, Nat.mul_pos hbase hbase, by rw [← Hprod.out, pow_even]; congr 2; omega, Hx4.out.own' Hoa.out, own_mono Hv4.out Hext.out.size, Hext.out.trans Hx4.out⟩
        case measure => simp [intOf]; omega
    · have hN2 : N = acc := by rw [← Hprod.out, show m = 0 by omega]; simp
      subst hN2
      go_wp2_with fail
      refine (text_c u7 N wr Hoa.out.sl (P_len_le (by have := HN.out; omega))).mono ?_
      rintro e w3 ⟨rfl, hx3⟩
      have Hx3 := Lib.hid hx3; clear hx3
      have hsz := D_size N
      have hsz2 : nDigits N ≤ 20000 := HN.out
      go_wp2
      go_ret2
      exact ⟨rfl, Hext.out.trans Hx3.out⟩

set_option maxHeartbeats 400000 in
theorem decPow_zero (a : Nat) (w : World) :
    Calls Tryz.prog 90 #[.string (D a), .int .i64 0] w fun e w' => e = .returned (.tuple #[.string (D 1), .int .i64 0]) ∧ Ext w w' := by
  rw [D_one]
  go_enter Tryz.func90, Tryz.ntmps90
  go_wp2
  go_ret2
  exact ⟨rfl, Ext.refl _⟩

set_option maxHeartbeats 400000 in
theorem decPow_one (n : Nat) (w : World) (hn : 1 ≤ n) :
    Calls Tryz.prog 90 #[.string (D 1), .int .i64 n] w fun e w' => e = .returned (.tuple #[.string (D 1), .int .i64 0]) ∧ Ext w w' := by
  have hnz : ((n : Int) == 0) = false := beq_eq_false_iff_ne.2 (by omega)
  have h1 : ((D 1).toList == [49]) = true := by rw [D_is_one]; rfl
  have h1e : Value.string ⟨#[49]⟩ = Value.string (D 1) := by rw [D_one]
  have H1e := Lib.hid h1e; clear h1e
  go_enter Tryz.func90, Tryz.ntmps90
  go_wp2
  go_ret2
  exact ⟨by rw [← H1e.out]; rfl, Ext.refl _⟩

set_option maxHeartbeats 400000 in
theorem decPow_null (n : Nat) (w : World) (hn : 1 ≤ n) :
    Calls Tryz.prog 90 #[.string (D 0), .int .i64 n] w fun e w' => e = .returned (.tuple #[.string (D 0), .int .i64 0]) ∧ Ext w w' := by
  have hnz : ((n : Int) == 0) = false := beq_eq_false_iff_ne.2 (by omega)
  have h1 : ((D 0).toList == [49]) = false := by rw [D_is_one]; rfl
  have h0 : ((D 0).toList == [48]) = true := by rw [D_is_zero]; rfl
  have h1e : Value.string ⟨#[48]⟩ = Value.string (D 0) := by rw [D_zero]
  have H1e := Lib.hid h1e; clear h1e
  go_enter Tryz.func90, Tryz.ntmps90
  go_wp2
  go_ret2
  exact ⟨by rw [← H1e.out]; rfl, Ext.refl _⟩

theorem decPow_c (a n : Nat) (w : World) (he : Env w) (ha : nDigits a ≤ 18) (hn2 : n ≤ 1000000) (hN : nDigits (a ^ n) ≤ 20000) :
    Calls Tryz.prog 90 #[.string (D a), .int .i64 n] w fun e w' => e = .returned (.tuple #[.string (D (a ^ n)), .int .i64 0]) ∧ Ext w w' := by
  by_cases h0 : n = 0
  · subst h0; exact decPow_zero a w
  · by_cases h1 : a = 1
    · subst h1; rw [Nat.one_pow]; exact decPow_one n w (by omega)
    · by_cases h2 : a = 0
      · subst h2; rw [Nat.zero_pow (by omega)]; exact decPow_null n w (by omega)
      · exact decPow_big a n w he ha (by omega) (by omega) hn2 hN

theorem nDigits_pow (a n : Nat) (h : 1 ≤ n) : nDigits (a ^ n) ≤ n * nDigits a := by
  refine Dec.nDigits_le (Nat.mul_pos h (nDigits_pos a)) ?_
  rw [Nat.mul_comm, Nat.pow_mul]
  exact Nat.pow_lt_pow_left (lt_pow_nDigits a) (by omega)

set_option maxHeartbeats 400000 in
theorem pow_c (a n : Nat) (w : World) (he : Env w) (ha : nDigits a ≤ 4) (hn : n ≤ 1000) :
    Calls Tryz.prog 75 #[.string (I a), .int .i64 n] w fun e w' => e = .returned (.tuple #[.string (I ((a ^ n : Nat) : Int)), .int .i64 0]) ∧ Ext w w' := by
  have hN : nDigits (a ^ n) ≤ 20000 := by
    by_cases h : n = 0
    · subst h; rw [Nat.pow_zero]; exact Nat.le_trans (Dec.nDigits_le (n := 1) (k := 1) (by omega) (by omega)) (by omega)
    · have h1 := nDigits_pow a n (by omega)
      have h2 : n * nDigits a ≤ 1000 * 4 := Nat.mul_le_mul hn ha
      omega
  have hs := split_c (a : Int) w (show nDigits _ ≤ _ by rw [Int.natAbs_natCast]; omega)
  rw [decide_eq_false (by omega), Int.natAbs_natCast] at hs
  have hsz := D_size a
  have hquo : ¬ (4000 : Int) / ((nDigits a : Nat) : Int) < n := by
    have h3 := nDigits_pos a
    have h4 : 1000 ≤ 4000 / nDigits a := by
      rw [Nat.le_div_iff_mul_le h3]
      omega
    have e : (4000 : Int) / ((nDigits a : Nat) : Int) = ((4000 / nDigits a : Nat) : Int) := by rw [Int.natCast_ediv]; rfl
    rw [e]; omega
  have hpos := nDigits_pos a
  have Hs := Lib.hid hs; clear hs
  have He := Lib.hid he; clear he
  have HN := Lib.hid hN; clear hN
  generalize hna : nDigits a = na at *
  have HNA := Lib.hid hna; clear hna
  go_enter Tryz.func75, Tryz.ntmps75
  go_wp2_with fail
  refine Hs.out.mono ?_
  rintro e w1 ⟨rfl, hx1⟩
  have Hx1 := Lib.hid hx1; clear hx1
  go_wp2_with fail
  refine (decPow_c a n w1 (He.out.ext Hx1.out) (by rw [HNA.out]; omega) (by omega) HN.out).mono ?_
  rintro e w2 ⟨rfl, hx2⟩
  have Hx2 := Lib.hid hx2; clear hx2
  go_wp2_with fail
  refine (join_c false (a ^ n) w2 (by have := HN.out; omega)).mono ?_
  rintro e w3 ⟨rfl, rfl⟩
  go_wp2
  go_ret2
  exact ⟨rfl, Hx1.out.trans Hx2.out⟩

end Go.Proofs.YtkamjjjimbbdmaaGreatDoor
