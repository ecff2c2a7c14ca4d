import Derived.Lib.ItoaNum
import Derived.Lib.Atoi
namespace Go.Proofs.YtkamjjjimbbdmaaGreatDoor.Dec
open Go.Lib

/-- The base of the pieces. -/
def B : Nat := 1000000000
theorem B_pos : 0 < B := by decide
theorem B_eq : B = 1000000000 := rfl

/-- A digit's value. -/
def dv (c : UInt8) : Nat := c.toNat - 48
/-- The value of a row of digits behind a number. -/
def val (acc : Nat) (l : List UInt8) : Nat := l.foldl (fun a c => 10 * a + dv c) acc
theorem val_nil (acc : Nat) : val acc [] = acc := by unfold val; rw [List.foldl_nil]
theorem val_cons (acc : Nat) (c : UInt8) (r : List UInt8) : val acc (c :: r) = val (10 * acc + dv c) r := by unfold val; rw [List.foldl_cons]
theorem dv_of {c : UInt8} {k : Nat} (h : c.toNat = 48 + k) : dv c = k := by unfold dv; omega
theorem dv_le {c : UInt8} (h : c.toNat ≤ 57) : dv c ≤ 9 := by unfold dv; omega

def Dig (l : List UInt8) : Prop := ∀ c ∈ l, 48 ≤ c.toNat ∧ c.toNat ≤ 57

theorem val_append (a b : List UInt8) : ∀ acc, val acc (a ++ b) = val (val acc a) b := by
  induction a with
  | nil => intro acc; rw [List.nil_append, val_nil]
  | cons c r ih => intro acc; rw [List.cons_append, val_cons, val_cons, ih]

theorem val_acc (l : List UInt8) : ∀ acc, val acc l = acc * 10 ^ l.length + val 0 l := by
  induction l with
  | nil => intro acc; rw [val_nil, val_nil]; simp
  | cons c r ih =>
    intro acc
    rw [val_cons, val_cons, ih (10 * acc + dv c), ih (10 * 0 + dv c)]
    generalize val 0 r = v
    generalize dv c = d
    rw [List.length_cons, Nat.pow_succ]
    generalize 10 ^ r.length = t
    rw [Nat.add_mul, Nat.mul_zero, Nat.zero_add, Nat.add_assoc]
    congr 1
    rw [Nat.mul_comm 10 acc, Nat.mul_assoc, Nat.mul_comm 10 t]

theorem val_lt (l : List UInt8) (h : Dig l) : val 0 l < 10 ^ l.length := by
  induction l with
  | nil => rw [val_nil]; simp
  | cons c r ih =>
    have h1 := ih (fun x hx => h x (List.mem_cons_of_mem _ hx))
    have h2 := h c (List.mem_cons_self ..)
    rw [val_cons, val_acc r (10 * 0 + dv c), List.length_cons, Nat.pow_succ]
    generalize val 0 r = v at *
    generalize 10 ^ r.length = t at *
    have : (10 * 0 + dv c) * t ≤ 9 * t := Nat.mul_le_mul_right _ (by have := dv_le h2.2; omega)
    omega

theorem dig_append {a b : List UInt8} (ha : Dig a) (hb : Dig b) : Dig (a ++ b) := by
  intro c hc
  rcases List.mem_append.1 hc with h | h
  · exact ha c h
  · exact hb c h

theorem ofNat_dig {k : Nat} (h : k < 10) : (UInt8.ofNat (48 + k)).toNat = 48 + k := by
  rw [UInt8.toNat_ofNat']; omega

theorem dig_dec (n : Nat) : Dig (decDigits n) := by
  induction n using Nat.strongRecOn with
  | _ n ih =>
    rw [decDigits]
    split
    · intro c hc
      rw [List.mem_singleton.1 hc, ofNat_dig (by assumption)]
      omega
    · refine dig_append (ih _ (by omega)) ?_
      intro c hc
      rw [List.mem_singleton.1 hc, ofNat_dig (by omega)]
      omega

theorem val_dec (n : Nat) : val 0 (decDigits n) = n := by
  induction n using Nat.strongRecOn with
  | _ n ih =>
    rw [decDigits]
    split
    · rw [val_cons, val_nil, dv_of (ofNat_dig (by assumption))]; omega
    · rw [val_append, ih _ (by omega), val_cons, val_nil, dv_of (ofNat_dig (by omega))]
      omega

theorem dec_inj {a b : Nat} (h : decDigits a = decDigits b) : a = b := by
  rw [← val_dec a, h, val_dec]

theorem dec_ne_nil (n : Nat) : decDigits n ≠ [] := by
  intro h
  have := decDigits_length n
  rw [h] at this
  have := nDigits_pos n
  simp at *
  omega

/-- How many digits: the power of ten between. -/
theorem nDigits_le {n k : Nat} (hk : 0 < k) (h : n < 10 ^ k) : nDigits n ≤ k := by
  induction k generalizing n with
  | zero => omega
  | succ k ih =>
    by_cases h10 : n < 10
    · rw [nDigits_small h10]; omega
    · rw [nDigits_big h10]
      have hk0 : 0 < k := by
        rcases Nat.eq_zero_or_pos k with e | e
        · subst e; simp at h; omega
        · exact e
      have := ih (n := n / 10) hk0 (by rw [Nat.pow_succ] at h; omega)
      omega

theorem pow_le_of_nDigits (n : Nat) (_h : n ≠ 0) : 10 ^ (nDigits n - 1) ≤ n := by
  induction n using Nat.strongRecOn with
  | _ n ih =>
    by_cases h10 : n < 10
    · rw [nDigits_small h10]; simp; omega
    · rw [nDigits_big h10]
      have h1 := ih (n / 10) (by omega) (by omega)
      have h2 := nDigits_pos (n / 10)
      rw [show nDigits (n / 10) + 1 - 1 = (nDigits (n / 10) - 1) + 1 by omega, Nat.pow_succ]
      omega

theorem nDigits_mono {a b : Nat} (h : a ≤ b) : nDigits a ≤ nDigits b :=
  nDigits_le (nDigits_pos b) (Nat.lt_of_le_of_lt h (lt_pow_nDigits b))

theorem lt_of_nDigits_lt {a b : Nat} (h : nDigits a < nDigits b) : a < b := by
  refine Nat.lt_of_not_le fun hh => ?_
  have := nDigits_mono hh
  omega

/-- The value of the pieces, the least significant one ahead. -/
def pv : List Nat → Nat
  | [] => 0
  | a :: r => a + B * pv r

def Small (l : List Nat) : Prop := ∀ x ∈ l, x < B

theorem pv_append (a b : List Nat) : pv (a ++ b) = pv a + B ^ a.length * pv b := by
  induction a with
  | nil => simp [pv]
  | cons x r ih =>
    simp only [List.cons_append, pv, ih, List.length_cons, Nat.pow_succ]
    rw [Nat.mul_add, Nat.add_assoc, ← Nat.mul_assoc, Nat.mul_comm B (B ^ r.length)]

theorem pv_lt (l : List Nat) (h : Small l) : pv l < B ^ l.length := by
  induction l with
  | nil => simp [pv]
  | cons x r ih =>
    have h1 := ih (fun y hy => h y (List.mem_cons_of_mem _ hy))
    have h2 := h x (List.mem_cons_self ..)
    simp only [pv, List.length_cons, Nat.pow_succ]
    have : B * (pv r + 1) ≤ B * B ^ r.length := Nat.mul_le_mul_left _ h1
    rw [Nat.mul_add, Nat.mul_comm B (B ^ r.length)] at this
    omega

theorem pv_zeros (n : Nat) : pv (List.replicate n 0) = 0 := by
  induction n with
  | zero => rfl
  | succ n ih => simp [List.replicate_succ, pv, ih]

/-- The pieces of a number: no zero at the end. -/
def P (n : Nat) : List Nat := if _h : n = 0 then [] else n % B :: P (n / B)
termination_by n
decreasing_by exact Nat.div_lt_self (by omega) (by decide)

theorem P_zero : P 0 = [] := by rw [P]; simp
theorem P_pos {n : Nat} (h : n ≠ 0) : P n = n % B :: P (n / B) := by rw [P]; simp [h]

theorem pv_P (n : Nat) : pv (P n) = n := by
  induction n using Nat.strongRecOn with
  | _ n ih =>
    by_cases h : n = 0
    · subst h; simp [P_zero, pv]
    · rw [P_pos h]
      simp only [pv]
      rw [ih _ (Nat.div_lt_self (by omega) (by decide))]
      exact Nat.mod_add_div n B

theorem small_P (n : Nat) : Small (P n) := by
  induction n using Nat.strongRecOn with
  | _ n ih =>
    by_cases h : n = 0
    · subst h; simp [P_zero, Small]
    · rw [P_pos h]
      intro x hx
      rcases List.mem_cons.1 hx with rfl | hx
      · exact Nat.mod_lt _ B_pos
      · exact ih _ (Nat.div_lt_self (by omega) (by decide)) x hx

/-- Pieces without a zero at the end are those of their value. -/
theorem P_pv (l : List Nat) (h : Small l) (hl : l.getLast? ≠ some 0) : P (pv l) = l := by
  induction l with
  | nil => simp [pv, P_zero]
  | cons x r ih =>
    have hr : r.getLast? ≠ some 0 := by
      intro hh
      apply hl
      cases r with
      | nil => simp at hh
      | cons y t => simpa [List.getLast?_cons_cons] using hh
    have hx := h x (List.mem_cons_self ..)
    have ih' := ih (fun y hy => h y (List.mem_cons_of_mem _ hy)) hr
    have hne : pv (x :: r) ≠ 0 := by
      intro h0
      simp only [pv] at h0
      have hx0 : x = 0 := by omega
      have hr0 : pv r = 0 := by
        rcases Nat.eq_zero_or_pos (pv r) with e | e
        · exact e
        · have := Nat.mul_pos B_pos e; omega
      rw [hr0, P_zero] at ih'
      subst ih'
      subst hx0
      simp at hl
    rw [P_pos hne]
    simp only [pv]
    have e1 : (x + B * pv r) % B = x := by rw [Nat.add_mul_mod_self_left, Nat.mod_eq_of_lt hx]
    have e2 : (x + B * pv r) / B = pv r := by rw [Nat.add_mul_div_left _ _ B_pos, Nat.div_eq_of_lt hx, Nat.zero_add]
    rw [e1, e2, ih']

theorem P_length_lt (n k : Nat) (h : n < B ^ k) : (P n).length ≤ k := by
  induction k generalizing n with
  | zero => simp at h; subst h; simp [P_zero]
  | succ k ih =>
    by_cases h0 : n = 0
    · subst h0; simp [P_zero]
    · rw [P_pos h0]
      have : n / B < B ^ k := by
        rw [Nat.div_lt_iff_lt_mul B_pos]; rw [Nat.pow_succ] at h; exact h
      have := ih _ this
      simp; omega

theorem P_last (n : Nat) : (P n).getLast? ≠ some 0 := by
  induction n using Nat.strongRecOn with
  | _ n ih =>
    by_cases h : n = 0
    · subst h; simp [P_zero]
    · rw [P_pos h]
      have h1 := ih _ (Nat.div_lt_self (by omega) (by decide : 1 < B))
      cases hr : P (n / B) with
      | nil =>
        have : n / B = 0 := by rw [← pv_P (n / B), hr]; rfl
        have hlt : n < B := by
          rcases Nat.lt_or_ge n B with g | g
          · exact g
          · have := Nat.div_pos g B_pos; omega
        simp [Nat.mod_eq_of_lt hlt, h]
      | cons y t =>
        rw [hr] at h1
        simpa [List.getLast?_cons_cons] using h1

/-- What 'trim' leaves. -/
theorem trim_P (l : List Nat) (k : Nat) (h : Small l) (hk : k ≤ l.length) (hz : ∀ j, k ≤ j → j < l.length → l.getD j 0 = 0) (hn : 0 < k → l.getD (k - 1) 0 ≠ 0) : l.take k = P (pv l) := by
  have e : l.drop k = List.replicate (l.length - k) 0 := by
    refine List.ext_getElem (by simp) fun i h1 h2 => ?_
    have := hz (k + i) (by omega) (by simp at h1; omega)
    simp at h1
    simp only [List.getElem_drop, List.getElem_replicate]
    rw [List.getD_eq_getElem?_getD, List.getElem?_eq_getElem (by omega)] at this
    simpa using this
  have hv : pv l = pv (l.take k) := by
    conv => lhs; rw [← List.take_append_drop k l, pv_append, e, pv_zeros]
    simp
  rw [hv, P_pv]
  · intro x hx; exact h x (List.mem_of_mem_take hx)
  · rcases Nat.eq_zero_or_pos k with rfl | hp
    · simp
    · have := hn hp
      rw [List.getLast?_eq_getElem?]
      simp only [List.length_take, Nat.min_eq_left hk]
      rw [List.getElem?_take]
      rw [List.getD_eq_getElem?_getD] at this
      intro hh
      rw [if_pos (by omega)] at hh
      rw [hh] at this
      simp at this


/-- One digit more. -/
theorem val_take_succ (c : List UInt8) (k : Nat) (hd : Dig c) (h : k < c.length) :
    ∃ x : Nat, 48 ≤ x ∧ x ≤ 57 ∧ (c.getD k 0).toNat = x ∧ val 0 (c.take (k + 1)) = 10 * val 0 (c.take k) + (x - 48) := by
  have hm : c[k] ∈ c := List.getElem_mem h
  have hb := hd _ hm
  refine ⟨c[k].toNat, hb.1, hb.2, ?_, ?_⟩
  · rw [List.getD_eq_getElem?_getD, List.getElem?_eq_getElem h]; rfl
  · rw [List.take_succ_eq_append_getElem h, val_append, val_cons, val_nil]
    rfl

theorem dig_take {l : List UInt8} (h : Dig l) (k : Nat) : Dig (l.take k) := fun c hc => h c (List.mem_of_mem_take hc)
theorem dig_drop {l : List UInt8} (h : Dig l) (k : Nat) : Dig (l.drop k) := fun c hc => h c (List.mem_of_mem_drop hc)
theorem val_take_lt (c : List UInt8) (k : Nat) (hd : Dig c) (h : c.length ≤ 9) : val 0 (c.take k) < 1000000000 := by
  have h1 := val_lt _ (dig_take hd k)
  have h2 : 10 ^ (c.take k).length ≤ 10 ^ 9 := Nat.pow_le_pow_right (by omega) (by rw [List.length_take]; omega)
  omega

theorem pow_B (k : Nat) : B ^ k = 10 ^ (9 * k) := by
  rw [Nat.pow_mul]; rfl

/-- A piece more of a numeral. -/
theorem cut_step (l : List UInt8) (a e k : Nat) (o : List Nat) (hae : a ≤ e) (he : e + 9 * k = l.length) (hk : o.length = k) (ho : pv o = val 0 (l.drop e)) :
    pv (o ++ [val 0 ((l.take e).drop a)]) = val 0 (l.drop a) := by
  have e1 : l.drop a = (l.take e).drop a ++ l.drop e := by
    conv => lhs; rw [← List.take_append_drop e l]
    rw [List.drop_append, show a - (l.take e).length = 0 by rw [List.length_take]; omega, List.drop_zero]
  rw [pv_append, e1, val_append, val_acc (l.drop e), ho, hk, pow_B]
  simp only [pv, Nat.mul_zero, Nat.add_zero, List.length_drop]
  rw [show l.length - e = 9 * k by omega, Nat.mul_comm, Nat.add_comm]

theorem small_snoc {o : List Nat} {x : Nat} (h : Small o) (hx : x < B) : Small (o ++ [x]) := by
  intro y hy
  rcases List.mem_append.1 hy with h1 | h1
  · exact h y h1
  · rw [List.mem_singleton.1 h1]; exact hx


theorem getD_cons_succ (x : Nat) (r : List Nat) (i : Nat) : (x :: r).getD (i + 1) 0 = r.getD i 0 := by simp [List.getD]

/-- The pieces, place for place. -/
theorem P_at (n : Nat) : ∀ i, (P n).getD i 0 = n / B ^ i % B := by
  induction n using Nat.strongRecOn with
  | _ n ih =>
    intro i
    by_cases h : n = 0
    · subst h; simp [P_zero]
    · rw [P_pos h]
      cases i with
      | zero => simp
      | succ i =>
        rw [getD_cons_succ, ih _ (Nat.div_lt_self (by omega) (by decide)), Nat.div_div_eq_div_mul, Nat.pow_succ, Nat.mul_comm B]

theorem P_len_pos {n : Nat} (h : n ≠ 0) : 0 < (P n).length := by rw [P_pos h]; simp

theorem P_len_lt (n : Nat) : n < B ^ (P n).length := by
  have := pv_lt _ (small_P n)
  rwa [pv_P] at this

theorem P_len_ge {n : Nat} (h : n ≠ 0) : B ^ ((P n).length - 1) ≤ n := by
  induction n using Nat.strongRecOn with
  | _ n ih =>
    rw [P_pos h]
    by_cases h1 : n / B = 0
    · rw [h1, P_zero]; simp; omega
    · have h2 := ih _ (Nat.div_lt_self (by omega) (by decide)) h1
      have h3 := P_len_pos h1
      rw [List.length_cons, Nat.add_sub_cancel]
      obtain ⟨k, hk⟩ : ∃ k, (P (n / B)).length = k + 1 := ⟨_, (Nat.succ_pred_eq_of_pos h3).symm⟩
      rw [hk] at h2 ⊢
      rw [Nat.add_sub_cancel] at h2
      rw [Nat.pow_succ]
      have h4 := Nat.mul_le_mul_right B h2
      have h5 := Nat.div_mul_le_self n B
      omega

/-- The number of digits of a number of so many pieces. -/
theorem nDigits_P {n : Nat} (h : n ≠ 0) : 9 * ((P n).length - 1) < nDigits n ∧ nDigits n ≤ 9 * (P n).length := by
  have h1 := P_len_lt n
  have h2 := P_len_ge h
  rw [pow_B] at h1 h2
  refine ⟨?_, nDigits_le (by have := P_len_pos h; omega) h1⟩
  refine Nat.lt_of_not_le fun hh => ?_
  have h3 := lt_pow_nDigits n
  have h4 : 10 ^ nDigits n ≤ 10 ^ (9 * ((P n).length - 1)) := Nat.pow_le_pow_right (by omega) hh
  omega

/-- The digits of a number, the last one ahead: the first m of them. -/
def rd (N m : Nat) : List UInt8 := (List.range m).map (dg N)
theorem rd_zero (N : Nat) : rd N 0 = [] := rfl
theorem rd_succ (N m : Nat) : rd N (m + 1) = rd N m ++ [dg N m] := by unfold rd; rw [List.range_succ, List.map_append]; rfl
theorem rd_length (N m : Nat) : (rd N m).length = m := by simp [rd]
theorem rd_reverse (N : Nat) : (rd N (nDigits N)).reverse = decDigits N := by
  rw [decDigits_eq]
  unfold rd
  refine List.ext_getElem (by simp) fun i h1 h2 => ?_
  simp [List.getElem_reverse]

theorem dg_eq (N m n x : Nat) (hn : n % 10 = N / 10 ^ m % 10) (hx : x = 48 + n % 10) : (dg N m).toNat = x := by
  unfold dg
  rw [← hn, hx, ofNat_dig (by omega)]

/-- What is left of a piece. -/
def left (N i k : Nat) : Nat := N / B ^ i % B / 10 ^ k
theorem left_zero (N i : Nat) : left N i 0 = N / B ^ i % B := by simp [left]
theorem left_succ (N i k : Nat) : left N i (k + 1) = left N i k / 10 := by unfold left; rw [Nat.pow_succ, Nat.div_div_eq_div_mul]
theorem left_lt (N i k : Nat) : left N i k < B := Nat.lt_of_le_of_lt (Nat.div_le_self _ _) (Nat.mod_lt _ B_pos)
theorem left_mod (N i k : Nat) (hk : k < 9) : left N i k % 10 = N / 10 ^ (9 * i + k) % 10 := by
  unfold left
  rw [Nat.pow_add, ← pow_B, ← Nat.div_div_eq_div_mul]
  generalize N / B ^ i = M
  have e : B = 10 ^ k * 10 ^ (9 - k) := by rw [← Nat.pow_add, show k + (9 - k) = 9 by omega]; rfl
  rw [e, Nat.mod_mul_right_div_self]
  obtain ⟨j, hj⟩ : ∃ j, 9 - k = j + 1 := ⟨9 - k - 1, by omega⟩
  rw [hj, Nat.pow_succ, Nat.mul_comm, Nat.mod_mul_right_mod]

/-- At the last piece, what is left is what is left of the number. -/
theorem left_last (N i k : Nat) (h : N < B ^ (i + 1)) : left N i k = N / 10 ^ (9 * i + k) := by
  unfold left
  have h1 : N / B ^ i < B := by rw [Nat.div_lt_iff_lt_mul (Nat.pow_pos B_pos), Nat.mul_comm, ← Nat.pow_succ]; exact h
  rw [Nat.mod_eq_of_lt h1, Nat.div_div_eq_div_mul, pow_B, ← Nat.pow_add]

theorem div_pow_pos {N m : Nat} (h : 0 < N / 10 ^ m) : m < nDigits N := by
  refine Nat.lt_of_not_le fun hh => ?_
  have h1 := lt_pow_nDigits N
  have h2 : 10 ^ nDigits N ≤ 10 ^ m := Nat.pow_le_pow_right (by omega) hh
  rw [Nat.div_eq_of_lt (by omega)] at h
  omega

theorem div_pow_zero {N m : Nat} (hm : 0 < m) (h : N / 10 ^ m = 0) : nDigits N ≤ m := by
  refine nDigits_le hm ?_
  rcases Nat.lt_or_ge N (10 ^ m) with g | g
  · exact g
  · have := Nat.div_pos g (Nat.pow_pos (by omega : 0 < 10))
    omega

end Go.Proofs.YtkamjjjimbbdmaaGreatDoor.Dec
