/- Plain law: the product of pieces. -/
import Derived.Test.YtkamjjjimbbdmaaGreatDoorDec
namespace Go.Proofs.YtkamjjjimbbdmaaGreatDoor.Dec
open Go.Lib

theorem nthD_set (o : List Nat) (i j x : Nat) (hi : i < o.length) : (o.set i x).getD j 0 = if j = i then x else o.getD j 0 := by
  rw [List.getD_eq_getElem?_getD, List.getElem?_set, List.getD_eq_getElem?_getD]
  by_cases h : i = j
  · subst h; simp [hi]
  · rw [if_neg h, if_neg (by omega)]

theorem pv_set (o : List Nat) : ∀ (i x : Nat), i < o.length → pv (o.set i x) + o.getD i 0 * B ^ i = pv o + x * B ^ i := by
  induction o with
  | nil => intro i x h; simp at h
  | cons y r ih =>
    intro i x h
    cases i with
    | zero => simp [pv]; omega
    | succ i =>
      have := ih i x (by simpa using h)
      rw [List.set_cons_succ, getD_cons_succ]
      simp only [pv, Nat.pow_succ]
      have e : ∀ z : Nat, z * (B ^ i * B) = B * (z * B ^ i) := fun z => by rw [← Nat.mul_assoc, Nat.mul_comm]
      rw [e, e]
      have h2 : B * (pv (r.set i x) + r.getD i 0 * B ^ i) = B * (pv r + x * B ^ i) := by rw [this]
      rw [Nat.mul_add, Nat.mul_add] at h2
      omega

theorem small_set {o : List Nat} {i x : Nat} (h : Small o) (hx : x < B) : Small (o.set i x) := by
  intro y hy
  rcases List.mem_or_eq_of_mem_set hy with h1 | h1
  · exact h y h1
  · rw [h1]; exact hx

theorem pv_take_succ (q : List Nat) (m : Nat) (h : m < q.length) : pv (q.take (m + 1)) = pv (q.take m) + q.getD m 0 * B ^ m := by
  rw [List.take_succ_eq_append_getElem h, pv_append, List.length_take, Nat.min_eq_left (by omega)]
  simp only [pv, Nat.mul_zero, Nat.add_zero]
  rw [List.getD_eq_getElem?_getD, List.getElem?_eq_getElem h, Nat.mul_comm]
  rfl

/-- One place of a row of the product. -/
theorem times_step (o q : List Nat) (k m a c b t : Nat) (hi : k + m < o.length) (hm : m < q.length) (hb : q.getD m 0 = b) (ht : t = c + (o.getD (k + m) 0 + a * b)) (S : Nat)
    (hinv : pv o + c * B ^ (k + m) = S + a * B ^ k * pv (q.take m)) :
    pv (o.set (k + m) (t % B)) + t / B * B ^ (k + (m + 1)) = S + a * B ^ k * pv (q.take (m + 1)) := by
  have h1 := pv_set o (k + m) (t % B) hi
  rw [pv_take_succ q m hm, hb, Nat.mul_add, ← Nat.add_assoc S, ← hinv]
  have h2 : t / B * B ^ (k + (m + 1)) + t % B * B ^ (k + m) = t * B ^ (k + m) := by
    rw [← Nat.add_assoc, Nat.pow_succ, Nat.mul_comm (B ^ (k + m)) B, ← Nat.mul_assoc, ← Nat.add_mul, Nat.mul_comm (t / B) B, Nat.div_add_mod]
  have h3 : t * B ^ (k + m) = c * B ^ (k + m) + (o.getD (k + m) 0 * B ^ (k + m) + a * b * B ^ (k + m)) := by rw [ht, Nat.add_mul, Nat.add_mul]
  have h4 : a * B ^ k * (b * B ^ m) = a * b * B ^ (k + m) := by
    rw [Nat.pow_add, Nat.mul_assoc, Nat.mul_assoc]
    congr 1
    rw [← Nat.mul_assoc, ← Nat.mul_assoc, Nat.mul_comm (B ^ k) b]
  rw [h4]
  omega

/-- The end of a row of the product. -/
theorem times_row (o p q : List Nat) (k c a S : Nat) (hk : k < p.length) (hi : k + q.length < o.length) (ha : p.getD k 0 = a) (h0 : o.getD (k + q.length) 0 = 0)
    (hS : S = pv (p.take k) * pv q) (hinv : pv o + c * B ^ (k + q.length) = S + a * B ^ k * pv (q.take q.length)) :
    pv (o.set (k + q.length) c) = pv (p.take (k + 1)) * pv q := by
  have h1 := pv_set o (k + q.length) c hi
  rw [h0, Nat.zero_mul, Nat.add_zero] at h1
  rw [h1, hinv, hS, pv_take_succ p k hk, ha, List.take_length, Nat.add_mul]

theorem prod_lt {x y : Nat} (hx : x < B) (hy : y < B) : x * y ≤ 999999998000000001 := by
  unfold B at *
  have h1 : x * y ≤ 999999999 * y := Nat.mul_le_mul_right _ (by omega)
  omega

theorem small_zeros (n : Nat) : Small (List.replicate n 0) := by
  intro x hx
  rw [(List.mem_replicate.1 hx).2]
  exact B_pos

theorem small_getD {o : List Nat} (h : Small o) (i : Nat) : o.getD i 0 < B := by
  rw [List.getD_eq_getElem?_getD]
  cases hi : o[i]? with
  | none => exact B_pos
  | some x => exact h x (List.mem_of_getElem? hi)

end Go.Proofs.YtkamjjjimbbdmaaGreatDoor.Dec
