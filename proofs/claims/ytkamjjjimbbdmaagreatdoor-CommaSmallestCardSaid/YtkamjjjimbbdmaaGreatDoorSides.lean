/- Walks: numerator and denominator of an interval, in monzo and in comma; monzo's Sign. -/
import Derived.Test.YtkamjjjimbbdmaaGreatDoorMonzo
import Derived.Test.YtkamjjjimbbdmaaGreatDoorPow
namespace Go.Proofs.YtkamjjjimbbdmaaGreatDoor
open Go.RowKit Go.Lib

/-- The product of the first k powers whose exponents are greater than 0, and of the others. -/
def sideN (p x : List Int) : Nat → Nat
  | 0 => 1
  | k + 1 => if 0 < nthI x k then sideN p x k * (nthI p k).toNat ^ (nthI x k).natAbs else sideN p x k
def sideD (p x : List Int) : Nat → Nat
  | 0 => 1
  | k + 1 => if 0 < nthI x k then sideD p x k else sideD p x k * (nthI p k).toNat ^ (nthI x k).natAbs
def numP (p x : List Int) : Nat := sideN p x x.length
def denP (p x : List Int) : Nat := sideD p x x.length

/-- Small numbers, small exponents. -/
def Nice (p x : List Int) : Prop := x.length ≤ p.length ∧ x.length ≤ 64 ∧ ∀ i, i < x.length → 0 ≤ nthI p i ∧ nthI p i < 10000 ∧ -1000 ≤ nthI x i ∧ nthI x i ≤ 1000

theorem nDigits_lt {n k : Nat} (hk : 0 < k) (h : n < 10 ^ k) : nDigits n ≤ k := Dec.nDigits_le hk h
theorem nDigits_pow4 {a n : Nat} (ha : a < 10000) (hn : n ≤ 1000) : nDigits (a ^ n) ≤ 4000 := by
  by_cases h : n = 0
  · subst h; rw [Nat.pow_zero]; exact Nat.le_trans (Dec.nDigits_le (n := 1) (k := 1) (by omega) (by omega)) (by omega)
  · have h1 := nDigits_pow a n (by omega)
    have h2 : nDigits a ≤ 4 := Dec.nDigits_le (by omega) (by omega)
    have h3 : n * nDigits a ≤ 1000 * 4 := Nat.mul_le_mul hn h2
    omega

theorem sideN_digits {p x : List Int} (h : Nice p x) : ∀ k, k ≤ x.length → nDigits (sideN p x k) ≤ 1 + 4000 * k
  | 0, _ => Dec.nDigits_le (by omega) (by simp [sideN])
  | k + 1, hk => by
    have ih := sideN_digits h k (by omega)
    have h2 := h.2.2 k (by omega)
    rw [sideN]
    split
    · have := nDigits_mul (sideN p x k) ((nthI p k).toNat ^ (nthI x k).natAbs)
      have := nDigits_pow4 (a := (nthI p k).toNat) (n := (nthI x k).natAbs) (by omega) (by omega)
      omega
    · omega
theorem sideD_digits {p x : List Int} (h : Nice p x) : ∀ k, k ≤ x.length → nDigits (sideD p x k) ≤ 1 + 4000 * k
  | 0, _ => Dec.nDigits_le (by omega) (by simp [sideD])
  | k + 1, hk => by
    have ih := sideD_digits h k (by omega)
    have h2 := h.2.2 k (by omega)
    rw [sideD]
    split
    · omega
    · have := nDigits_mul (sideD p x k) ((nthI p k).toNat ^ (nthI x k).natAbs)
      have := nDigits_pow4 (a := (nthI p k).toNat) (n := (nthI x k).natAbs) (by omega) (by omega)
      omega

def SideRel (p x : List Int) (w0 : World) (n d i : Value) (wr : World) : Prop :=
  ∃ k : Nat, i = .int .i64 k ∧ k ≤ x.length ∧ n = .string (D (sideN p x k)) ∧ d = .string (D (sideD p x k)) ∧ Ext w0 wr

set_option maxRecDepth 100000 in
set_option maxHeartbeats 1000000 in
theorem msides_c (vp vx : Value) (p x : List Int) (w : World) (he : Env w) (hp : Sl w vp (i64s p)) (hx : Sl w vx (i64s x)) (hn : Nice p x) :
    Calls Tryz.prog 57 #[vp, vx] w fun e w' => e = .returned (.tuple #[.string (D (numP p x)), .string (D (denP p x))]) ∧ Ext w w' := by
  obtain ⟨ap, cp, rfl, _, _, hcp⟩ := hp.parts
  obtain ⟨ax, cx, rfl, _, _, hcx⟩ := hx.parts
  rw [i64s_length, i64s_length]
  have Hcp := Lib.hid hcp; clear hcp hp
  have Hcx := Lib.hid hcx; clear hcx hx
  have hl1 := hn.1
  have hl2 := hn.2.1
  have Hn := Lib.hid hn; clear hn
  have He := Lib.hid he; clear he
  go_enter Tryz.func57, Tryz.ntmps57
  go_wp2
  go_loopw [4, 5, 12] (fun n d i wr => SideRel p x w n d i wr) (fun _ _ i _ => x.length - (intOf i).toNat)
  case atStart => exact ⟨0, rfl, Nat.zero_le _, by rw [sideN, D_one], by rw [sideD, D_one], Ext.refl _⟩
  case round =>
    obtain ⟨k, rfl, hk, rfl, rfl, hext⟩ := hrel
    have Hext := Lib.hid hext; clear hext
    by_cases hlt : k < x.length
    · obtain ⟨bp, op, rfl, hcellp0⟩ := Hcp.out k _ (i64s_at (by omega))
      obtain ⟨bx, ox, rfl, hcellx0⟩ := Hcx.out k _ (i64s_at hlt)
      have hcellp := Hext.out.cell hcellp0
      have hcellx := Hext.out.cell hcellx0
      clear hcellp0 hcellx0
      have hb := Hn.out.2.2 k hlt
      have hdN := sideN_digits Hn.out k (by omega)
      have hdD := sideD_digits Hn.out k (by omega)
      have HdN := Lib.hid hdN; clear hdN
      have HdD := Lib.hid hdD; clear hdD
      have hsN : sideN p x (k + 1) = if 0 < nthI x k then sideN p x k * (nthI p k).toNat ^ (nthI x k).natAbs else sideN p x k := rfl
      have hsD : sideD p x (k + 1) = if 0 < nthI x k then sideD p x k else sideD p x k * (nthI p k).toNat ^ (nthI x k).natAbs := rfl
      obtain ⟨q, hq⟩ : ∃ q : Nat, nthI p k = q := ⟨(nthI p k).toNat, by omega⟩
      have hq4 : q < 10000 := by omega
      rw [hq] at hcellp hsN hsD
      rw [Int.toNat_natCast] at hsN hsD
      have hcase : (∃ e : Nat, 0 < e ∧ e ≤ 1000 ∧ nthI x k = e) ∨ (∃ e : Nat, e ≤ 1000 ∧ nthI x k = -(e : Int)) := by
        by_cases g : 0 < nthI x k
        · exact .inl ⟨(nthI x k).toNat, by omega, by omega, by omega⟩
        · exact .inr ⟨(-(nthI x k)).toNat, by omega, by omega⟩
      rcases hcase with ⟨e, he0, he1, hz⟩ | ⟨e, he1, hz⟩
      · rw [hz] at hcellx hsN hsD
        rw [Int.natAbs_natCast, if_pos (by omega)] at hsN hsD
        have hmax : max (e : Int) (-(e : Int)) = e := by omega
        clear hb hq hz
        have hpow : nDigits (q ^ e) ≤ 4000 := nDigits_pow4 hq4 he1
        have Hpow := Lib.hid hpow; clear hpow
        have HsN := Lib.hid hsN; clear hsN
        have HsD := Lib.hid hsD; clear hsD
        generalize sideN p x k = N at *
        generalize sideD p x k = M at *
        go_wp2_with fail
        refine (decOf_c q (by omega) wr (He.out.ext Hext.out)).mono ?_
        rintro e1 w1 ⟨rfl, hx1⟩
        have Hx1 := Lib.hid hx1; clear hx1
        go_wp2_with fail
        refine (decPow_c q e w1 ((He.out.ext Hext.out).ext Hx1.out) (Dec.nDigits_le (by omega) (by omega)) (by omega) (by have := Hpow.out; omega)).mono ?_
        rintro e1 w2 ⟨rfl, hx2⟩
        have Hx2 := Lib.hid hx2; clear hx2
        go_wp2_with fail
        refine (decMul_c N (q ^ e) w2 (((He.out.ext Hext.out).ext Hx1.out).ext Hx2.out) (by have := HdN.out; omega) (by have := Hpow.out; omega)).mono ?_
        rintro e1 w3 ⟨rfl, hx3⟩
        have Hx3 := Lib.hid hx3; clear hx3
        go_wp2
        go_roundw
        case rel => exact ⟨k + 1, by go_num, by omega, by rw [HsN.out], by rw [HsD.out], ((Hext.out.trans Hx1.out).trans Hx2.out).trans Hx3.out⟩
        case measure => simp [intOf]; omega
      · rw [hz] at hcellx hsN hsD
        rw [Int.natAbs_neg, Int.natAbs_natCast, if_neg (by omega)] at hsN hsD
        have hmax : max (-(e : Int)) e = e := by omega
        clear hb hq hz
        have hpow : nDigits (q ^ e) ≤ 4000 := nDigits_pow4 hq4 he1
        have Hpow := Lib.hid hpow; clear hpow
        have HsN := Lib.hid hsN; clear hsN
        have HsD := Lib.hid hsD; clear hsD
        generalize sideN p x k = N at *
        generalize sideD p x k = M at *
        go_wp2_with fail
        refine (decOf_c q (by omega) wr (He.out.ext Hext.out)).mono ?_
        rintro e1 w1 ⟨rfl, hx1⟩
        have Hx1 := Lib.hid hx1; clear hx1
        go_wp2_with fail
        refine (decPow_c q e w1 ((He.out.ext Hext.out).ext Hx1.out) (Dec.nDigits_le (by omega) (by omega)) (by omega) (by have := Hpow.out; omega)).mono ?_
        rintro e1 w2 ⟨rfl, hx2⟩
        have Hx2 := Lib.hid hx2; clear hx2
        go_wp2_with fail
        refine (decMul_c M (q ^ e) w2 (((He.out.ext Hext.out).ext Hx1.out).ext Hx2.out) (by have := HdD.out; omega) (by have := Hpow.out; omega)).mono ?_
        rintro e1 w3 ⟨rfl, hx3⟩
        have Hx3 := Lib.hid hx3; clear hx3
        go_wp2
        go_roundw
        case rel => exact ⟨k + 1, by go_num, by omega, by rw [HsN.out], by rw [HsD.out], ((Hext.out.trans Hx1.out).trans Hx2.out).trans Hx3.out⟩
        case measure => simp [intOf]; omega
    · obtain rfl : k = x.length := by omega
      go_wp2
      go_ret2
      exact ⟨rfl, Hext.out⟩

def SideRelI (p x : List Int) (w0 : World) (n d i : Value) (wr : World) : Prop :=
  ∃ k : Nat, i = .int .i64 k ∧ k ≤ x.length ∧ n = .string (I (sideN p x k : Nat)) ∧ d = .string (I (sideD p x k : Nat)) ∧ Ext w0 wr

set_option maxRecDepth 100000 in
set_option maxHeartbeats 1000000 in
theorem csides_c (vp vx : Value) (p x : List Int) (w : World) (he : Env w) (hp : Sl w vp (i64s p)) (hx : Sl w vx (i64s x)) (hn : Nice p x) :
    Calls Tryz.prog 38 #[vp, vx] w fun e w' => e = .returned (.tuple #[.string (I (numP p x : Nat)), .string (I (denP p x : Nat))]) ∧ Ext w w' := by
  obtain ⟨ap, cp, rfl, _, _, hcp⟩ := hp.parts
  obtain ⟨ax, cx, rfl, _, _, hcx⟩ := hx.parts
  rw [i64s_length, i64s_length]
  have Hcp := Lib.hid hcp; clear hcp hp
  have Hcx := Lib.hid hcx; clear hcx hx
  have hl1 := hn.1
  have hl2 := hn.2.1
  have Hn := Lib.hid hn; clear hn
  have He := Lib.hid he; clear he
  go_enter Tryz.func38, Tryz.ntmps38
  go_wp2
  go_loopw [4, 5, 12] (fun n d i wr => SideRelI p x w n d i wr) (fun _ _ i _ => x.length - (intOf i).toNat)
  case atStart => exact ⟨0, rfl, Nat.zero_le _, by rw [sideN, I_nat, D_one], by rw [sideD, I_nat, D_one], Ext.refl _⟩
  case round =>
    obtain ⟨k, rfl, hk, rfl, rfl, hext⟩ := hrel
    have Hext := Lib.hid hext; clear hext
    by_cases hlt : k < x.length
    · obtain ⟨bp, op, rfl, hcellp0⟩ := Hcp.out k _ (i64s_at (by omega))
      obtain ⟨bx, ox, rfl, hcellx0⟩ := Hcx.out k _ (i64s_at hlt)
      have hcellp := Hext.out.cell hcellp0
      have hcellx := Hext.out.cell hcellx0
      clear hcellp0 hcellx0
      have hb := Hn.out.2.2 k hlt
      have hdN := sideN_digits Hn.out k (by omega)
      have hdD := sideD_digits Hn.out k (by omega)
      have HdN := Lib.hid hdN; clear hdN
      have HdD := Lib.hid hdD; clear hdD
      have hsN : sideN p x (k + 1) = if 0 < nthI x k then sideN p x k * (nthI p k).toNat ^ (nthI x k).natAbs else sideN p x k := rfl
      have hsD : sideD p x (k + 1) = if 0 < nthI x k then sideD p x k else sideD p x k * (nthI p k).toNat ^ (nthI x k).natAbs := rfl
      obtain ⟨q, hq⟩ : ∃ q : Nat, nthI p k = q := ⟨(nthI p k).toNat, by omega⟩
      have hq4 : q < 10000 := by omega
      rw [hq] at hcellp hsN hsD
      rw [Int.toNat_natCast] at hsN hsD
      have hcase : (∃ e : Nat, 0 < e ∧ e ≤ 1000 ∧ nthI x k = e) ∨ (∃ e : Nat, e ≤ 1000 ∧ nthI x k = -(e : Int)) := by
        by_cases g : 0 < nthI x k
        · exact .inl ⟨(nthI x k).toNat, by omega, by omega, by omega⟩
        · exact .inr ⟨(-(nthI x k)).toNat, by omega, by omega⟩
      rcases hcase with ⟨e, he0, he1, hz⟩ | ⟨e, he1, hz⟩
      · rw [hz] at hcellx hsN hsD
        rw [Int.natAbs_natCast, if_pos (by omega)] at hsN hsD
        have hmax : max (e : Int) (-(e : Int)) = e := by omega
        clear hb hq hz
        have hpow : nDigits (q ^ e) ≤ 4000 := nDigits_pow4 hq4 he1
        have Hpow := Lib.hid hpow; clear hpow
        have HsN := Lib.hid hsN; clear hsN
        have HsD := Lib.hid hsD; clear hsD
        generalize sideN p x k = N at *
        generalize sideD p x k = M at *
        go_wp2_with fail
        refine (wholeOf_c (q : Int) (by omega) (by omega) wr (He.out.ext Hext.out)).mono ?_
        rintro e1 w1 ⟨rfl, hx1⟩
        have Hx1 := Lib.hid hx1; clear hx1
        go_wp2_with fail
        refine (pow_c q e w1 ((He.out.ext Hext.out).ext Hx1.out) (Dec.nDigits_le (by omega) (by omega)) he1).mono ?_
        rintro e1 w2 ⟨rfl, hx2⟩
        have Hx2 := Lib.hid hx2; clear hx2
        go_wp2_with fail
        refine (mul_c (N : Int) ((q ^ e : Nat) : Int) w2 (((He.out.ext Hext.out).ext Hx1.out).ext Hx2.out) (show nDigits _ ≤ _ by rw [Int.natAbs_natCast]; have := HdN.out; omega) (show nDigits _ ≤ _ by rw [Int.natAbs_natCast]; have := Hpow.out; omega)).mono ?_
        rintro e1 w3 ⟨rfl, hx3⟩
        rw [← Int.natCast_mul]
        have Hx3 := Lib.hid hx3; clear hx3
        go_wp2
        go_roundw
        case rel => exact ⟨k + 1, by go_num, by omega, by rw [HsN.out, Int.natCast_mul, Int.natCast_pow], by rw [HsD.out], ((Hext.out.trans Hx1.out).trans Hx2.out).trans Hx3.out⟩
        case measure => simp [intOf]; omega
      · rw [hz] at hcellx hsN hsD
        rw [Int.natAbs_neg, Int.natAbs_natCast, if_neg (by omega)] at hsN hsD
        have hmax : max (-(e : Int)) e = e := by omega
        clear hb hq hz
        have hpow : nDigits (q ^ e) ≤ 4000 := nDigits_pow4 hq4 he1
        have Hpow := Lib.hid hpow; clear hpow
        have HsN := Lib.hid hsN; clear hsN
        have HsD := Lib.hid hsD; clear hsD
        generalize sideN p x k = N at *
        generalize sideD p x k = M at *
        go_wp2_with fail
        refine (wholeOf_c (q : Int) (by omega) (by omega) wr (He.out.ext Hext.out)).mono ?_
        rintro e1 w1 ⟨rfl, hx1⟩
        have Hx1 := Lib.hid hx1; clear hx1
        go_wp2_with fail
        refine (pow_c q e w1 ((He.out.ext Hext.out).ext Hx1.out) (Dec.nDigits_le (by omega) (by omega)) he1).mono ?_
        rintro e1 w2 ⟨rfl, hx2⟩
        have Hx2 := Lib.hid hx2; clear hx2
        go_wp2_with fail
        refine (mul_c (M : Int) ((q ^ e : Nat) : Int) w2 (((He.out.ext Hext.out).ext Hx1.out).ext Hx2.out) (show nDigits _ ≤ _ by rw [Int.natAbs_natCast]; have := HdD.out; omega) (show nDigits _ ≤ _ by rw [Int.natAbs_natCast]; have := Hpow.out; omega)).mono ?_
        rintro e1 w3 ⟨rfl, hx3⟩
        rw [← Int.natCast_mul]
        have Hx3 := Lib.hid hx3; clear hx3
        go_wp2
        go_roundw
        case rel => exact ⟨k + 1, by go_num, by omega, by rw [HsN.out], by rw [HsD.out, Int.natCast_mul, Int.natCast_pow], ((Hext.out.trans Hx1.out).trans Hx2.out).trans Hx3.out⟩
        case measure => simp [intOf]; omega
    · obtain rfl : k = x.length := by omega
      go_wp2
      go_ret2
      exact ⟨rfl, Hext.out⟩

theorem primesFrom_zero (p : List Int) : ∀ (f k : Nat), primesFrom p k f = 0 → ∀ i, k ≤ i → i < k + f → isPrime (nthI p i) = true
  | 0, k, _, i, h1, h2 => by omega
  | f + 1, k, h, i, h1, h2 => by
    rw [primesFrom] at h
    by_cases hp : isPrime (nthI p k) = true
    · rw [if_neg (by rw [hp]; simp)] at h
      by_cases hk : 0 < k ∧ nthI p k ≤ nthI p (k - 1)
      · rw [if_pos hk] at h; omega
      · rw [if_neg hk] at h
        rcases Nat.eq_or_lt_of_le h1 with e | e
        · rw [← e]; exact hp
        · exact primesFrom_zero p f (k + 1) h i e (by omega)
    · rw [if_pos (by simpa using hp)] at h; omega
theorem isPrime_bounds {n : Int} (h : isPrime n = true) : 2 ≤ n ∧ n ≤ 97 := by
  unfold isPrime at h
  rw [Bool.and_eq_true] at h
  simpa using h.1
theorem primesErr_zero {p : List Int} (h : primesErr p = 0) : 0 < p.length ∧ p.length ≤ 6 ∧ ∀ i, i < p.length → 2 ≤ nthI p i ∧ nthI p i ≤ 97 := by
  unfold primesErr at h
  by_cases h0 : p.length = 0
  · rw [if_pos h0] at h; omega
  · rw [if_neg h0] at h
    by_cases h6 : 6 < p.length
    · rw [if_pos h6] at h; omega
    · rw [if_neg h6] at h
      exact ⟨by omega, by omega, fun i hi => isPrime_bounds (primesFrom_zero p _ 0 h i (by omega) (by omega))⟩
theorem rowErr_zero {n : Nat} {x : List Int} (h : rowErr n x = 0) : x.length = n ∧ ∀ i, i < x.length → -1000 ≤ nthI x i ∧ nthI x i ≤ 1000 := by
  unfold rowErr at h
  by_cases h0 : x.length = n
  · rw [if_neg (by simpa using h0)] at h
    by_cases hf : x.any far = true
    · rw [if_pos hf] at h; omega
    · refine ⟨h0, fun i hi => ?_⟩
      by_cases g1 : 1000 < nthI x i
      · exact absurd (any_far_at hi (far_yes1 g1)) hf
      · by_cases g2 : nthI x i < -1000
        · exact absurd (any_far_at hi (far_yes2 g2)) hf
        · omega
  · rw [if_pos h0] at h; omega
theorem oneErr_zero {p x : List Int} (h : oneErr p x = 0) : primesErr p = 0 ∧ rowErr p.length x = 0 := by
  unfold oneErr allErr at h
  by_cases h0 : primesErr p = 0
  · rw [if_neg (by simpa using h0)] at h
    refine ⟨h0, ?_⟩
    rw [rowsErr] at h
    by_cases h1 : rowErr p.length x = 0
    · exact h1
    · rw [if_pos h1] at h; exact h
  · rw [if_pos h0] at h; exact absurd h h0
theorem nice_of {p x : List Int} (h1 : primesErr p = 0) (h2 : rowErr p.length x = 0) : Nice p x := by
  obtain ⟨a, b, c⟩ := primesErr_zero h1
  obtain ⟨d, e⟩ := rowErr_zero h2
  refine ⟨by omega, by omega, fun i hi => ?_⟩
  have := c i (by omega)
  have := e i hi
  omega
theorem numP_digits {p x : List Int} (h : Nice p x) : nDigits (numP p x) ≤ 256001 := by
  have := sideN_digits h x.length (Nat.le_refl _)
  have := h.2.1
  unfold numP; omega
theorem denP_digits {p x : List Int} (h : Nice p x) : nDigits (denP p x) ≤ 256001 := by
  have := sideD_digits h x.length (Nat.le_refl _)
  have := h.2.1
  unfold denP; omega

/-- The sign of an interval, with the error. -/
def signP (p x : List Int) : Int := if oneErr p x ≠ 0 then 0 else cmpI (numP p x : Nat) (denP p x : Nat)

set_option maxHeartbeats 400000 in
theorem msign_c (vp vx : Value) (p x : List Int) (w : World) (he : Env w) (hp : Sl w vp (i64s p)) (hx : Sl w vx (i64s x)) (hlp : p.length ≤ 1000000) (hlx : x.length ≤ 1000000) :
    Calls Tryz.prog 22 #[vp, vx] w fun e w' => e = .returned (.tuple #[.int .i64 (signP p x), .int .i64 (oneErr p x)]) ∧ Ext w w' := by
  have hc := check_c vp vx p x w hp hx hlp hlx
  have Hc := Lib.hid hc; clear hc
  have He := Lib.hid he; clear he
  have Hp := Lib.hid hp; have Hx := Lib.hid hx
  obtain ⟨ap, cp, rfl, _, _, _⟩ := hp.parts
  obtain ⟨ax, cx, rfl, _, _, _⟩ := hx.parts
  clear hp hx
  unfold signP
  by_cases h0 : oneErr p x = 0
  · rw [if_neg (by simpa using h0), h0]
    have hn := nice_of (oneErr_zero h0).1 (oneErr_zero h0).2
    rw [h0] at Hc
    have Hn := Lib.hid hn; clear hn h0
    go_enter Tryz.func22, Tryz.ntmps22
    go_wp2_with fail
    refine Hc.out.mono ?_
    rintro e w1 ⟨rfl, hx1⟩
    have Hx1 := Lib.hid hx1; clear hx1
    go_wp2_with fail
    refine (msides_c _ _ p x w1 (He.out.ext Hx1.out) (Hx1.out.sl Hp.out) (Hx1.out.sl Hx.out) Hn.out).mono ?_
    rintro e w2 ⟨rfl, hx2⟩
    have Hx2 := Lib.hid hx2; clear hx2
    go_wp2_with fail
    refine (decCmp_c (numP p x) (denP p x) w2 (by have := numP_digits Hn.out; omega) (by have := denP_digits Hn.out; omega)).mono ?_
    rintro e w3 ⟨rfl, rfl⟩
    go_wp2
    go_ret2
    exact ⟨rfl, Hx1.out.trans Hx2.out⟩
  · rw [if_pos h0]
    have ht : (oneErr p x != 0) = true := by rw [bne_iff_ne]; exact h0
    generalize oneErr p x = r at *
    clear h0
    go_enter Tryz.func22, Tryz.ntmps22
    go_wp2_with fail
    refine Hc.out.mono ?_
    rintro e w1 ⟨rfl, hx1⟩
    have Hx1 := Lib.hid hx1; clear hx1
    go_wp2
    go_ret2
    exact ⟨rfl, Hx1.out⟩

end Go.Proofs.YtkamjjjimbbdmaaGreatDoor
