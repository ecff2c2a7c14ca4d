/- Plain law: the numbers over some primes, their intervals, what comma.List computes and what the law's own list says. -/
import Derived.Test.YtkamjjjimbbdmaaGreatDoorList
import Derived.Test.YtkamjjjimbbdmaaGreatDoorPrimes
namespace Go.Proofs.YtkamjjjimbbdmaaGreatDoor
open Go.RowKit Go.Lib Go.Shelf Go.Sort

/-- The exponents of a number over some primes. -/
def exps (p : List Nat) (n : Nat) : Option (List Int) := if (expsR p n).2 = 1 then some (expsR p n).1 else none
theorem exps_length {p : List Nat} {n : Nat} {x : List Int} (h : exps p n = some x) : x.length = p.length := by
  unfold exps at h
  split at h
  · rw [← Option.some.inj h]; exact expsR_length p n
  · cases h

/-- The numbers over some primes up to a height, in order. -/
def smooth (p : List Nat) : Nat → List (Nat × List Int)
  | 0 => []
  | k + 1 => match exps p (k + 1) with
    | none => smooth p k
    | some x => smooth p k ++ [(k + 1, x)]

def wrow (num den : Nat) (p : List Nat) (n : Nat) (x : List Int) (d : Nat) : List (List Int × Nat × Nat) :=
  match exps p d with
  | none => []
  | some y => if Nat.gcd n d = 1 ∧ ¬ d * num < n * den then [(diff x y, n, d)] else []
def wcol (num den : Nat) (p : List Nat) (n : Nat) (x : List Int) : Nat → List (List Int × Nat × Nat)
  | 0 => []
  | k + 1 => wcol num den p n x k ++ wrow num den p n x (k + 1)
def wover (num den : Nat) (p : List Nat) (n : Nat) (k : Nat) : List (List Int × Nat × Nat) :=
  match exps p n with
  | none => []
  | some x => wcol num den p n x k
/-- The intervals of a question with numerators up to k. -/
def wall (num den : Nat) (p : List Nat) : Nat → List (List Int × Nat × Nat)
  | 0 => []
  | k + 1 => wall num den p k ++ wover num den p (k + 1) k

theorem downs_left (num den : Nat) (A B : List (Nat × List Int)) (n : Nat) (x : List Int) : ∀ k, k ≤ A.length → downs num den (A ++ B) n x k = downs num den A n x k
  | 0, _ => rfl
  | k + 1, h => by
    rw [downs, downs, List.getElem?_append_left (by omega), downs_left num den A B n x k (by omega)]
theorem lst_left (num den : Nat) (A B : List (Nat × List Int)) : ∀ k, k ≤ A.length → lst num den (A ++ B) k = lst num den A k
  | 0, _ => rfl
  | k + 1, h => by
    rw [lst, lst, List.getElem?_append_left (by omega), lst_left num den A B k (by omega)]
    cases A[k]? with
    | none => rfl
    | some e => simp only [downs_left num den A B e.1 e.2 k (by omega)]
theorem wcol_none {num den : Nat} {p : List Nat} {n : Nat} {x : List Int} : ∀ {k : Nat}, k * num < n * den → wcol num den p n x k = []
  | 0, _ => rfl
  | k + 1, h => by
    have hk : k * num < n * den := Nat.lt_of_le_of_lt (Nat.mul_le_mul_right _ (Nat.le_succ k)) h
    rw [wcol, wcol_none hk, wrow]
    cases exps p (k + 1) with
    | none => rfl
    | some y => simp [h]

/-- Sharing a prime is having a common divisor. -/
def Apart (p : List Nat) (H : Nat) : Prop := ∀ n, n ≤ H → ∀ d, d < n → ∀ x y, exps p n = some x → exps p d = some y → shares x y x.length = decide (Nat.gcd n d ≠ 1)

theorem downs_wcol {num den : Nat} {p : List Nat} {H : Nat} (hA : Apart p H) {n : Nat} (hn : n ≤ H) {x : List Int} (hx : exps p n = some x) :
    ∀ j, j < n → (downs num den (smooth p j) n x (smooth p j).length).reverse = (wcol num den p n x j).map (·.1)
  | 0, _ => rfl
  | j + 1, hj => by
    have ih := downs_wcol (num := num) (den := den) hA hn hx j (by omega)
    rw [wcol, wrow, smooth]
    cases hy : exps p (j + 1) with
    | none => simpa using ih
    | some y =>
      simp only [List.length_append, List.length_singleton]
      rw [downs, List.getElem?_append_right (Nat.le_refl _), Nat.sub_self]
      simp only [List.getElem?_cons_zero]
      rw [downs_left _ _ _ _ _ _ _ (Nat.le_refl _), hA n hn (j + 1) hj x y hx hy]
      by_cases hb : (j + 1) * num < n * den
      · have hk : j * num < n * den := Nat.lt_of_le_of_lt (Nat.mul_le_mul_right _ (Nat.le_succ j)) hb
        rw [if_pos hb, wcol_none hk, if_neg (by simp [hb])]
        rfl
      · rw [if_neg hb]
        by_cases hg : Nat.gcd n (j + 1) = 1
        · rw [if_neg (by simp [hg]), if_pos ⟨hg, hb⟩, List.reverse_cons, ih]
          simp
        · rw [if_pos (by simpa using hg), if_neg (fun h => hg h.1), ih]
          simp

theorem lst_wall {num den : Nat} {p : List Nat} {H : Nat} (hA : Apart p H) : ∀ k, k ≤ H → lst num den (smooth p k) (smooth p k).length = (wall num den p k).map (·.1)
  | 0, _ => rfl
  | k + 1, hk => by
    have ih := lst_wall (num := num) (den := den) hA k (by omega)
    rw [wall, wover, smooth]
    cases hx : exps p (k + 1) with
    | none => simpa using ih
    | some x =>
      simp only [List.length_append, List.length_singleton]
      rw [lst, List.getElem?_append_right (Nat.le_refl _), Nat.sub_self]
      simp only [List.getElem?_cons_zero]
      rw [lst_left _ _ _ _ _ (Nat.le_refl _), downs_left _ _ _ _ _ _ _ (Nat.le_refl _), ih, downs_wcol hA (n := k + 1) (by omega) hx k (by omega)]
      simp

theorem smooth_mem {p : List Nat} : ∀ {k : Nat} {e : Nat × List Int}, e ∈ smooth p k → 1 ≤ e.1 ∧ e.1 ≤ k ∧ exps p e.1 = some e.2
  | 0, e, h => by simp [smooth] at h
  | k + 1, e, h => by
    rw [smooth] at h
    cases hx : exps p (k + 1) with
    | none =>
      rw [hx] at h
      have := smooth_mem h
      exact ⟨this.1, by omega, this.2.2⟩
    | some x =>
      rw [hx] at h
      rcases List.mem_append.1 h with h | h
      · have := smooth_mem h
        exact ⟨this.1, by omega, this.2.2⟩
      · simp only [List.mem_singleton] at h
        subst h
        exact ⟨by simp, by simp, hx⟩
theorem smooth_sorted (p : List Nat) : ∀ k, (smooth p k).Pairwise (fun a b => a.1 < b.1)
  | 0 => List.Pairwise.nil
  | k + 1 => by
    rw [smooth]
    cases exps p (k + 1) with
    | none => exact smooth_sorted p k
    | some x =>
      rw [List.pairwise_append]
      refine ⟨smooth_sorted p k, List.pairwise_singleton _ _, fun a ha b hb => ?_⟩
      have := smooth_mem ha
      simp only [List.mem_singleton] at hb
      subst hb
      show a.1 < k + 1
      omega
theorem smooth_length (p : List Nat) : ∀ k, (smooth p k).length ≤ k
  | 0 => Nat.le_refl _
  | k + 1 => by
    have := smooth_length p k
    rw [smooth]
    cases exps p (k + 1) with
    | none => simp; omega
    | some x => simp; omega

/-- An order by insertion. -/
def putIn (e : Nat × List Int) : List (Nat × List Int) → List (Nat × List Int)
  | [] => [e]
  | a :: r => if e.1 ≤ a.1 then e :: a :: r else a :: putIn e r
def inOrder (l : List (Nat × List Int)) : List (Nat × List Int) := l.foldl (fun acc e => putIn e acc) []
theorem putIn_perm (e : Nat × List Int) : ∀ l, (putIn e l).Perm (e :: l)
  | [] => List.Perm.refl _
  | a :: r => by
    rw [putIn]
    split
    · exact List.Perm.refl _
    · exact ((putIn_perm e r).cons a).trans (List.Perm.swap e a r)
theorem foldl_perm : ∀ (l acc : List (Nat × List Int)), (l.foldl (fun acc e => putIn e acc) acc).Perm (l ++ acc)
  | [], acc => List.Perm.refl _
  | a :: r, acc => by
    rw [List.foldl_cons]
    refine (foldl_perm r (putIn a acc)).trans ?_
    exact ((putIn_perm a acc).append_left r).trans List.perm_middle
theorem inOrder_perm (l : List (Nat × List Int)) : (inOrder l).Perm l := by
  have := foldl_perm l []
  rwa [List.append_nil] at this

def growOk (p : List Nat) (H : Nat) : Bool := match growAll H 200 p 0 [(1, List.replicate p.length 0)] with
  | none => false
  | some F => inOrder F == smooth p H
theorem growOk_of {p : List Nat} {H : Nat} (h : growOk p H = true) : ∃ F, growAll H 200 p 0 [(1, List.replicate p.length 0)] = some F ∧ (smooth p H).Perm F := by
  unfold growOk at h
  cases hF : growAll H 200 p 0 [(1, List.replicate p.length 0)] with
  | none => rw [hF] at h; cases h
  | some F =>
    rw [hF] at h
    exact ⟨F, rfl, by rw [← eq_of_beq h]; exact inOrder_perm F⟩
def allBelow (n : Nat) (f : Nat → Bool) : Bool := (List.range n).all f
theorem allBelow_at {n : Nat} {f : Nat → Bool} (h : allBelow n f = true) {k : Nat} (hk : k < n) : f k = true := by
  unfold allBelow at h
  rw [List.all_eq_true] at h
  exact h k (List.mem_range.2 hk)
theorem grow_ten : (tenL.all fun p => allBelow 130 fun H => growOk p (H + 1)) = true := by decide +kernel

/-- What is wanted of two numbers. -/
def pairOk (p : List Nat) (n : Nat) (x : List Int) (d : Nat) (y : List Int) : Bool :=
  (shares x y x.length == decide (Nat.gcd n d ≠ 1)) && (decide (Nat.gcd n d ≠ 1) || (numP (ints p) (diff x y) == n && denP (ints p) (diff x y) == d))
def pairsOk (p : List Nat) : Bool := (smooth p 130).all fun e => (smooth p 130).all fun f => decide (e.1 ≤ f.1) || pairOk p e.1 e.2 f.1 f.2
theorem pairs_ten : (tenL.all pairsOk) = true := by decide +kernel

theorem ten_mem (n : Nat) : tenP n ∈ tenL := by
  unfold tenP
  have h : n % 10 < tenL.length := Nat.mod_lt _ (by decide)
  rw [List.getD_eq_getElem?_getD, List.getElem?_eq_getElem h]
  exact List.getElem_mem h
theorem ten_grow (n : Nat) {H : Nat} (h1 : 1 ≤ H) (h2 : H ≤ 130) : ∃ F, growAll H 200 (tenP n) 0 [(1, List.replicate (tenP n).length 0)] = some F ∧ (smooth (tenP n) H).Perm F := by
  have h := (List.all_eq_true.1 grow_ten) _ (ten_mem n)
  have := allBelow_at h (k := H - 1) (by omega)
  rw [Nat.sub_add_cancel h1] at this
  exact growOk_of this
theorem smooth_of {p : List Nat} {n : Nat} {x : List Int} (hx : exps p n = some x) (h1 : 1 ≤ n) : ∀ {k : Nat}, n ≤ k → (n, x) ∈ smooth p k
  | 0, h => by omega
  | k + 1, h => by
    rw [smooth]
    by_cases e : n = k + 1
    · subst e; rw [hx]; simp
    · have := smooth_of hx h1 (k := k) (by omega)
      cases exps p (k + 1) with
      | none => exact this
      | some y => exact List.mem_append_left _ this
theorem ten_pair (m : Nat) {n d : Nat} {x y : List Int} (hn : n ≤ 130) (hd : d < n) (h1 : 1 ≤ d) (hx : exps (tenP m) n = some x) (hy : exps (tenP m) d = some y) : pairOk (tenP m) n x d y = true := by
  have h := (List.all_eq_true.1 pairs_ten) _ (ten_mem m)
  have h2 := (List.all_eq_true.1 h) _ (smooth_of hx (by omega) hn)
  have h3 := (List.all_eq_true.1 h2) _ (smooth_of hy h1 (by omega))
  rw [decide_eq_false (by simp; omega)] at h3
  simpa using h3
theorem exps_zero (m : Nat) {y : List Int} (h : exps (tenP m) 0 = some y) : False := by
  have : (tenL.all fun p => (exps p 0).isNone) = true := by decide +kernel
  have := (List.all_eq_true.1 this) _ (ten_mem m)
  rw [h] at this
  cases this
theorem ten_apart (m : Nat) {H : Nat} (hH : H ≤ 130) : Apart (tenP m) H := by
  intro n hn d hd x y hx hy
  rcases Nat.eq_zero_or_pos d with h0 | h0
  · subst h0; exact (exps_zero m hy).elim
  · have := ten_pair m (by omega) hd h0 hx hy
    unfold pairOk at this
    rw [Bool.and_eq_true] at this
    exact eq_of_beq this.1
/-- What is known of each interval of a question. -/
theorem wall_mem {num den : Nat} {m : Nat} : ∀ {k : Nat}, k ≤ 130 → ∀ {e : List Int × Nat × Nat}, e ∈ wall num den (tenP m) k → ∃ x y, exps (tenP m) e.2.1 = some x ∧ exps (tenP m) e.2.2 = some y ∧ e.1 = diff x y ∧ 1 ≤ e.2.2 ∧ e.2.2 < e.2.1 ∧ e.2.1 ≤ k ∧ Nat.gcd e.2.1 e.2.2 = 1 ∧ e.2.1 * den ≤ e.2.2 * num
  | 0, _, e, h => by simp [wall] at h
  | k + 1, hk, e, h => by
    rw [wall] at h
    rcases List.mem_append.1 h with h | h
    · obtain ⟨x, y, h1, h2, h3, h4, h5, h6, h7⟩ := wall_mem (by omega) h
      exact ⟨x, y, h1, h2, h3, h4, h5, by omega, h7⟩
    · rw [wover] at h
      cases hx : exps (tenP m) (k + 1) with
      | none => rw [hx] at h; simp at h
      | some x =>
        rw [hx] at h
        have col : ∀ j, j ≤ k → e ∈ wcol num den (tenP m) (k + 1) x j → ∃ x y, exps (tenP m) e.2.1 = some x ∧ exps (tenP m) e.2.2 = some y ∧ e.1 = diff x y ∧ 1 ≤ e.2.2 ∧ e.2.2 < e.2.1 ∧ e.2.1 ≤ k + 1 ∧ Nat.gcd e.2.1 e.2.2 = 1 ∧ e.2.1 * den ≤ e.2.2 * num := by
          intro j
          induction j with
          | zero => intro _ h; simp [wcol] at h
          | succ j ih =>
            intro hj h
            rw [wcol] at h
            rcases List.mem_append.1 h with h | h
            · exact ih (by omega) h
            · rw [wrow] at h
              cases hy : exps (tenP m) (j + 1) with
              | none => rw [hy] at h; simp at h
              | some y =>
                rw [hy] at h
                by_cases hc : Nat.gcd (k + 1) (j + 1) = 1 ∧ ¬ (j + 1) * num < (k + 1) * den
                · simp only [if_pos hc, List.mem_singleton] at h
                  subst h
                  exact ⟨x, y, hx, hy, rfl, by simp, by show j + 1 < k + 1; omega, Nat.le_refl _, hc.1, by show (k + 1) * den ≤ (j + 1) * num; omega⟩
                · simp only [if_neg hc] at h; simp at h
        exact col k (Nat.le_refl _) h
theorem wall_parts {num den m k : Nat} (hk : k ≤ 130) {e : List Int × Nat × Nat} (h : e ∈ wall num den (tenP m) k) : numP (ints (tenP m)) e.1 = e.2.1 ∧ denP (ints (tenP m)) e.1 = e.2.2 := by
  obtain ⟨x, y, h1, h2, h3, h4, h5, h6, h7, h8⟩ := wall_mem hk h
  have := ten_pair m (by omega) h5 h4 h1 h2
  unfold pairOk at this
  rw [Bool.and_eq_true] at this
  have h9 := this.2
  have hg : decide (Nat.gcd e.2.1 e.2.2 ≠ 1) = false := decide_eq_false (by simpa using h7)
  rw [hg, Bool.false_or, Bool.and_eq_true] at h9
  rw [h3]
  exact ⟨eq_of_beq h9.1, eq_of_beq h9.2⟩
theorem wall_length (num den : Nat) (p : List Nat) : ∀ k, (wall num den p k).length ≤ k * k := by
  have row : ∀ n x d, (wrow num den p n x d).length ≤ 1 := by
    intro n x d
    rw [wrow]
    cases exps p d with
    | none => simp
    | some y =>
      simp only
      split <;> simp
  have col : ∀ n x k, (wcol num den p n x k).length ≤ k := by
    intro n x k
    induction k with
    | zero => simp [wcol]
    | succ k ih =>
      rw [wcol, List.length_append]
      have := row n x (k + 1)
      omega
  intro k
  induction k with
  | zero => simp [wall]
  | succ k ih =>
    rw [wall, List.length_append]
    have h1 : (wover num den p (k + 1) k).length ≤ k := by
      rw [wover]
      cases exps p (k + 1) with
      | none => simp
      | some x => exact col _ x k
    have h2 : (k + 1) * (k + 1) = k * k + k + k + 1 := by rw [Nat.add_mul, Nat.mul_add]; omega
    omega

end Go.Proofs.YtkamjjjimbbdmaaGreatDoor
