/- Plain law: the numbers over some primes, their intervals, what comma.List computes and what the law's own list says. The walk of the law's own list. List, Smallest at the plans' questions. The walk of known: the chapter's first example. The walk of the law CommaLists. -/
import Derived.Test.YtkamjjjimbbdmaaGreatDoorLstA
import Derived.Test.YtkamjjjimbbdmaaGreatDoorLawA
import Derived.RegionTactic
import Derived.ChangeAlike
import Derived.Test.YtkamjjjimbbdmaaGreatDoorOrdA
namespace Go.Proofs.YtkamjjjimbbdmaaGreatDoor
open Go.RowKit Go.Lib Go.Shelf Go.Sort

/-- The exponents of a number over some primes. -/
def exps (p : List Nat) (n : Nat) : Option (List Int) := if (expsR p n).2 = 1 then some (expsR p n).1 else none
theorem exps_length {p : List Nat} {n : Nat} {x : List Int} (h : exps p n = some x) : x.length = p.length := by
  unfold exps at h
  split at h
  · rw [← Option.some.inj h]; exact expsR_length p n
  · cases h

/-- The numbers over some primes up to a height, in order. -/
def smooth (p : List Nat) : Nat → List (Nat × List Int)
  | 0 => []
  | k + 1 => match exps p (k + 1) with
    | none => smooth p k
    | some x => smooth p k ++ [(k + 1, x)]

def wrow (num den : Nat) (p : List Nat) (n : Nat) (x : List Int) (d : Nat) : List (List Int × Nat × Nat) :=
  match exps p d with
  | none => []
  | some y => if Nat.gcd n d = 1 ∧ ¬ d * num < n * den then [(diff x y, n, d)] else []
def wcol (num den : Nat) (p : List Nat) (n : Nat) (x : List Int) : Nat → List (List Int × Nat × Nat)
  | 0 => []
  | k + 1 => wcol num den p n x k ++ wrow num den p n x (k + 1)
def wover (num den : Nat) (p : List Nat) (n : Nat) (k : Nat) : List (List Int × Nat × Nat) :=
  match exps p n with
  | none => []
  | some x => wcol num den p n x k
/-- The intervals of a question with numerators up to k. -/
def wall (num den : Nat) (p : List Nat) : Nat → List (List Int × Nat × Nat)
  | 0 => []
  | k + 1 => wall num den p k ++ wover num den p (k + 1) k

theorem downs_left (num den : Nat) (A B : List (Nat × List Int)) (n : Nat) (x : List Int) : ∀ k, k ≤ A.length → downs num den (A ++ B) n x k = downs num den A n x k
  | 0, _ => rfl
  | k + 1, h => by
    rw [downs, downs, List.getElem?_append_left (by omega), downs_left num den A B n x k (by omega)]
theorem lst_left (num den : Nat) (A B : List (Nat × List Int)) : ∀ k, k ≤ A.length → lst num den (A ++ B) k = lst num den A k
  | 0, _ => rfl
  | k + 1, h => by
    rw [lst, lst, List.getElem?_append_left (by omega), lst_left num den A B k (by omega)]
    cases A[k]? with
    | none => rfl
    | some e => simp only [downs_left num den A B e.1 e.2 k (by omega)]
theorem wcol_none {num den : Nat} {p : List Nat} {n : Nat} {x : List Int} : ∀ {k : Nat}, k * num < n * den → wcol num den p n x k = []
  | 0, _ => rfl
  | k + 1, h => by
    have hk : k * num < n * den := Nat.lt_of_le_of_lt (Nat.mul_le_mul_right _ (Nat.le_succ k)) h
    rw [wcol, wcol_none hk, wrow]
    cases exps p (k + 1) with
    | none => rfl
    | some y => simp [h]

/-- Sharing a prime is having a common divisor. -/
def Apart (p : List Nat) (H : Nat) : Prop := ∀ n, n ≤ H → ∀ d, d < n → ∀ x y, exps p n = some x → exps p d = some y → shares x y x.length = decide (Nat.gcd n d ≠ 1)

theorem downs_wcol {num den : Nat} {p : List Nat} {H : Nat} (hA : Apart p H) {n : Nat} (hn : n ≤ H) {x : List Int} (hx : exps p n = some x) :
    ∀ j, j < n → (downs num den (smooth p j) n x (smooth p j).length).reverse = (wcol num den p n x j).map (·.1)
  | 0, _ => rfl
  | j + 1, hj => by
    have ih := downs_wcol (num := num) (den := den) hA hn hx j (by omega)
    rw [wcol, wrow, smooth]
    cases hy : exps p (j + 1) with
    | none => simpa using ih
    | some y =>
      simp only [List.length_append, List.length_singleton]
      rw [downs, List.getElem?_append_right (Nat.le_refl _), Nat.sub_self]
      simp only [List.getElem?_cons_zero]
      rw [downs_left _ _ _ _ _ _ _ (Nat.le_refl _), hA n hn (j + 1) hj x y hx hy]
      by_cases hb : (j + 1) * num < n * den
      · have hk : j * num < n * den := Nat.lt_of_le_of_lt (Nat.mul_le_mul_right _ (Nat.le_succ j)) hb
        rw [if_pos hb, wcol_none hk, if_neg (by simp [hb])]
        rfl
      · rw [if_neg hb]
        by_cases hg : Nat.gcd n (j + 1) = 1
        · rw [if_neg (by simp [hg]), if_pos ⟨hg, hb⟩, List.reverse_cons, ih]
          simp
        · rw [if_pos (by simpa using hg), if_neg (fun h => hg h.1), ih]
          simp

theorem lst_wall {num den : Nat} {p : List Nat} {H : Nat} (hA : Apart p H) : ∀ k, k ≤ H → lst num den (smooth p k) (smooth p k).length = (wall num den p k).map (·.1)
  | 0, _ => rfl
  | k + 1, hk => by
    have ih := lst_wall (num := num) (den := den) hA k (by omega)
    rw [wall, wover, smooth]
    cases hx : exps p (k + 1) with
    | none => simpa using ih
    | some x =>
      simp only [List.length_append, List.length_singleton]
      rw [lst, List.getElem?_append_right (Nat.le_refl _), Nat.sub_self]
      simp only [List.getElem?_cons_zero]
      rw [lst_left _ _ _ _ _ (Nat.le_refl _), downs_left _ _ _ _ _ _ _ (Nat.le_refl _), ih, downs_wcol hA (n := k + 1) (by omega) hx k (by omega)]
      simp

theorem smooth_mem {p : List Nat} : ∀ {k : Nat} {e : Nat × List Int}, e ∈ smooth p k → 1 ≤ e.1 ∧ e.1 ≤ k ∧ exps p e.1 = some e.2
  | 0, e, h => by simp [smooth] at h
  | k + 1, e, h => by
    rw [smooth] at h
    cases hx : exps p (k + 1) with
    | none =>
      rw [hx] at h
      have := smooth_mem h
      exact ⟨this.1, by omega, this.2.2⟩
    | some x =>
      rw [hx] at h
      rcases List.mem_append.1 h with h | h
      · have := smooth_mem h
        exact ⟨this.1, by omega, this.2.2⟩
      · simp only [List.mem_singleton] at h
        subst h
        exact ⟨by simp, by simp, hx⟩
theorem smooth_sorted (p : List Nat) : ∀ k, (smooth p k).Pairwise (fun a b => a.1 < b.1)
  | 0 => List.Pairwise.nil
  | k + 1 => by
    rw [smooth]
    cases exps p (k + 1) with
    | none => exact smooth_sorted p k
    | some x =>
      rw [List.pairwise_append]
      refine ⟨smooth_sorted p k, List.pairwise_singleton _ _, fun a ha b hb => ?_⟩
      have := smooth_mem ha
      simp only [List.mem_singleton] at hb
      subst hb
      show a.1 < k + 1
      omega
theorem smooth_length (p : List Nat) : ∀ k, (smooth p k).length ≤ k
  | 0 => Nat.le_refl _
  | k + 1 => by
    have := smooth_length p k
    rw [smooth]
    cases exps p (k + 1) with
    | none => simp; omega
    | some x => simp; omega

/-- An order by insertion. -/
def putIn (e : Nat × List Int) : List (Nat × List Int) → List (Nat × List Int)
  | [] => [e]
  | a :: r => if e.1 ≤ a.1 then e :: a :: r else a :: putIn e r
def inOrder (l : List (Nat × List Int)) : List (Nat × List Int) := l.foldl (fun acc e => putIn e acc) []
theorem putIn_perm (e : Nat × List Int) : ∀ l, (putIn e l).Perm (e :: l)
  | [] => List.Perm.refl _
  | a :: r => by
    rw [putIn]
    split
    · exact List.Perm.refl _
    · exact ((putIn_perm e r).cons a).trans (List.Perm.swap e a r)
theorem foldl_perm : ∀ (l acc : List (Nat × List Int)), (l.foldl (fun acc e => putIn e acc) acc).Perm (l ++ acc)
  | [], acc => List.Perm.refl _
  | a :: r, acc => by
    rw [List.foldl_cons]
    refine (foldl_perm r (putIn a acc)).trans ?_
    exact ((putIn_perm a acc).append_left r).trans List.perm_middle
theorem inOrder_perm (l : List (Nat × List Int)) : (inOrder l).Perm l := by
  have := foldl_perm l []
  rwa [List.append_nil] at this

def growOk (p : List Nat) (H : Nat) : Bool := match growAll H 200 p 0 [(1, List.replicate p.length 0)] with
  | none => false
  | some F => inOrder F == smooth p H
theorem growOk_of {p : List Nat} {H : Nat} (h : growOk p H = true) : ∃ F, growAll H 200 p 0 [(1, List.replicate p.length 0)] = some F ∧ (smooth p H).Perm F := by
  unfold growOk at h
  cases hF : growAll H 200 p 0 [(1, List.replicate p.length 0)] with
  | none => rw [hF] at h; cases h
  | some F =>
    rw [hF] at h
    exact ⟨F, rfl, by rw [← eq_of_beq h]; exact inOrder_perm F⟩
def allBelow (n : Nat) (f : Nat → Bool) : Bool := (List.range n).all f
theorem allBelow_at {n : Nat} {f : Nat → Bool} (h : allBelow n f = true) {k : Nat} (hk : k < n) : f k = true := by
  unfold allBelow at h
  rw [List.all_eq_true] at h
  exact h k (List.mem_range.2 hk)
theorem grow_ten : (tenL.all fun p => allBelow 130 fun H => growOk p (H + 1)) = true := by decide +kernel

/-- What is wanted of two numbers. -/
def pairOk (p : List Nat) (n : Nat) (x : List Int) (d : Nat) (y : List Int) : Bool :=
  (shares x y x.length == decide (Nat.gcd n d ≠ 1)) && (decide (Nat.gcd n d ≠ 1) || (numP (ints p) (diff x y) == n && denP (ints p) (diff x y) == d))
def pairsOk (p : List Nat) : Bool := (smooth p 130).all fun e => (smooth p 130).all fun f => decide (e.1 ≤ f.1) || pairOk p e.1 e.2 f.1 f.2
theorem pairs_ten : (tenL.all pairsOk) = true := by decide +kernel

theorem ten_mem (n : Nat) : tenP n ∈ tenL := by
  unfold tenP
  have h : n % 10 < tenL.length := Nat.mod_lt _ (by decide)
  rw [List.getD_eq_getElem?_getD, List.getElem?_eq_getElem h]
  exact List.getElem_mem h
theorem ten_grow (n : Nat) {H : Nat} (h1 : 1 ≤ H) (h2 : H ≤ 130) : ∃ F, growAll H 200 (tenP n) 0 [(1, List.replicate (tenP n).length 0)] = some F ∧ (smooth (tenP n) H).Perm F := by
  have h := (List.all_eq_true.1 grow_ten) _ (ten_mem n)
  have := allBelow_at h (k := H - 1) (by omega)
  rw [Nat.sub_add_cancel h1] at this
  exact growOk_of this
theorem smooth_of {p : List Nat} {n : Nat} {x : List Int} (hx : exps p n = some x) (h1 : 1 ≤ n) : ∀ {k : Nat}, n ≤ k → (n, x) ∈ smooth p k
  | 0, h => by omega
  | k + 1, h => by
    rw [smooth]
    by_cases e : n = k + 1
    · subst e; rw [hx]; simp
    · have := smooth_of hx h1 (k := k) (by omega)
      cases exps p (k + 1) with
      | none => exact this
      | some y => exact List.mem_append_left _ this
theorem ten_pair (m : Nat) {n d : Nat} {x y : List Int} (hn : n ≤ 130) (hd : d < n) (h1 : 1 ≤ d) (hx : exps (tenP m) n = some x) (hy : exps (tenP m) d = some y) : pairOk (tenP m) n x d y = true := by
  have h := (List.all_eq_true.1 pairs_ten) _ (ten_mem m)
  have h2 := (List.all_eq_true.1 h) _ (smooth_of hx (by omega) hn)
  have h3 := (List.all_eq_true.1 h2) _ (smooth_of hy h1 (by omega))
  rw [decide_eq_false (by simp; omega)] at h3
  simpa using h3
theorem exps_zero (m : Nat) {y : List Int} (h : exps (tenP m) 0 = some y) : False := by
  have : (tenL.all fun p => (exps p 0).isNone) = true := by decide +kernel
  have := (List.all_eq_true.1 this) _ (ten_mem m)
  rw [h] at this
  cases this
theorem ten_apart (m : Nat) {H : Nat} (hH : H ≤ 130) : Apart (tenP m) H := by
  intro n hn d hd x y hx hy
  rcases Nat.eq_zero_or_pos d with h0 | h0
  · subst h0; exact (exps_zero m hy).elim
  · have := ten_pair m (by omega) hd h0 hx hy
    unfold pairOk at this
    rw [Bool.and_eq_true] at this
    exact eq_of_beq this.1
/-- What is known of each interval of a question. -/
theorem wall_mem {num den : Nat} {m : Nat} : ∀ {k : Nat}, k ≤ 130 → ∀ {e : List Int × Nat × Nat}, e ∈ wall num den (tenP m) k → ∃ x y, exps (tenP m) e.2.1 = some x ∧ exps (tenP m) e.2.2 = some y ∧ e.1 = diff x y ∧ 1 ≤ e.2.2 ∧ e.2.2 < e.2.1 ∧ e.2.1 ≤ k ∧ Nat.gcd e.2.1 e.2.2 = 1 ∧ e.2.1 * den ≤ e.2.2 * num
  | 0, _, e, h => by simp [wall] at h
  | k + 1, hk, e, h => by
    rw [wall] at h
    rcases List.mem_append.1 h with h | h
    · obtain ⟨x, y, h1, h2, h3, h4, h5, h6, h7⟩ := wall_mem (by omega) h
      exact ⟨x, y, h1, h2, h3, h4, h5, by omega, h7⟩
    · rw [wover] at h
      cases hx : exps (tenP m) (k + 1) with
      | none => rw [hx] at h; simp at h
      | some x =>
        rw [hx] at h
        have col : ∀ j, j ≤ k → e ∈ wcol num den (tenP m) (k + 1) x j → ∃ x y, exps (tenP m) e.2.1 = some x ∧ exps (tenP m) e.2.2 = some y ∧ e.1 = diff x y ∧ 1 ≤ e.2.2 ∧ e.2.2 < e.2.1 ∧ e.2.1 ≤ k + 1 ∧ Nat.gcd e.2.1 e.2.2 = 1 ∧ e.2.1 * den ≤ e.2.2 * num := by
          intro j
          induction j with
          | zero => intro _ h; simp [wcol] at h
          | succ j ih =>
            intro hj h
            rw [wcol] at h
            rcases List.mem_append.1 h with h | h
            · exact ih (by omega) h
            · rw [wrow] at h
              cases hy : exps (tenP m) (j + 1) with
              | none => rw [hy] at h; simp at h
              | some y =>
                rw [hy] at h
                by_cases hc : Nat.gcd (k + 1) (j + 1) = 1 ∧ ¬ (j + 1) * num < (k + 1) * den
                · simp only [if_pos hc, List.mem_singleton] at h
                  subst h
                  exact ⟨x, y, hx, hy, rfl, by simp, by show j + 1 < k + 1; omega, Nat.le_refl _, hc.1, by show (k + 1) * den ≤ (j + 1) * num; omega⟩
                · simp only [if_neg hc] at h; simp at h
        exact col k (Nat.le_refl _) h
theorem wall_parts {num den m k : Nat} (hk : k ≤ 130) {e : List Int × Nat × Nat} (h : e ∈ wall num den (tenP m) k) : numP (ints (tenP m)) e.1 = e.2.1 ∧ denP (ints (tenP m)) e.1 = e.2.2 := by
  obtain ⟨x, y, h1, h2, h3, h4, h5, h6, h7, h8⟩ := wall_mem hk h
  have := ten_pair m (by omega) h5 h4 h1 h2
  unfold pairOk at this
  rw [Bool.and_eq_true] at this
  have h9 := this.2
  have hg : decide (Nat.gcd e.2.1 e.2.2 ≠ 1) = false := decide_eq_false (by simpa using h7)
  rw [hg, Bool.false_or, Bool.and_eq_true] at h9
  rw [h3]
  exact ⟨eq_of_beq h9.1, eq_of_beq h9.2⟩
theorem wall_length (num den : Nat) (p : List Nat) : ∀ k, (wall num den p k).length ≤ k * k := by
  have row : ∀ n x d, (wrow num den p n x d).length ≤ 1 := by
    intro n x d
    rw [wrow]
    cases exps p d with
    | none => simp
    | some y =>
      simp only
      split <;> simp
  have col : ∀ n x k, (wcol num den p n x k).length ≤ k := by
    intro n x k
    induction k with
    | zero => simp [wcol]
    | succ k ih =>
      rw [wcol, List.length_append]
      have := row n x (k + 1)
      omega
  intro k
  induction k with
  | zero => simp [wall]
  | succ k ih =>
    rw [wall, List.length_append]
    have h1 : (wover num den p (k + 1) k).length ≤ k := by
      rw [wover]
      cases exps p (k + 1) with
      | none => simp
      | some x => exact col _ x k
    have h2 : (k + 1) * (k + 1) = k * k + k + k + 1 := by rw [Nat.add_mul, Nat.mul_add]; omega
    omega

end Go.Proofs.YtkamjjjimbbdmaaGreatDoor

namespace Go.Proofs.YtkamjjjimbbdmaaGreatDoor
open Go.RowKit Go.Lib Go.Shelf Go.Sort

/-- A list of pairs that the call made. -/
def prc (l : List (Nat × Nat)) : List Value := l.flatMap fun e => [.int .i64 (e.1 : Int), .int .i64 (e.2 : Int)]
theorem prc_length (l : List (Nat × Nat)) : (prc l).length = l.length * 2 := by
  induction l with
  | nil => rfl
  | cons e r ih => simp only [prc, List.flatMap_cons, List.length_append, List.length_cons] at *; rw [ih]; simp; omega
theorem prc_snoc (l : List (Nat × Nat)) (e : Nat × Nat) : prc (l ++ [e]) = prc l ++ [.int .i64 (e.1 : Int), .int .i64 (e.2 : Int)] := by simp [prc]
def PrL (w : World) (B : Nat) (v : Value) (l : List (Nat × Nat)) : Prop := w.ownsRow B 47 2 v l.length (prc l)
theorem Ext.prL {w w' : World} (h : Ext w w') {B : Nat} {v : Value} {l : List (Nat × Nat)} (hs : PrL w B v l) : PrL w' B v l := h.own hs
theorem info_pair : (Tryz.prog.info? 47).map (fun i => (i.zero, i.size, i.bytes)) = some (some (.agg #[.int .i64 0, .int .i64 0]), 2, 16) := by kernel_rfl

/-- A difference under way. -/
def dz (x y : List Int) (i L : Nat) : List Int := (List.range L).map fun t => if t < i then nthI x t - nthI y t else 0
theorem dz_length (x y : List Int) (i L : Nat) : (dz x y i L).length = L := by simp [dz]
theorem dz_zero (x y : List Int) (L : Nat) : dz x y 0 L = List.replicate L 0 := by
  apply List.ext_getElem?
  intro j
  unfold dz
  rw [List.getElem?_map]
  rcases Nat.lt_or_ge j L with h | h
  · rw [List.getElem?_range h, List.getElem?_replicate, if_pos h]; rfl
  · rw [List.getElem?_eq_none (by simpa using h), List.getElem?_replicate, if_neg (by omega)]; rfl
theorem dz_set (x y : List Int) {i L : Nat} (h : i < L) : (dz x y i L).set i (nthI x i - nthI y i) = dz x y (i + 1) L := by
  apply List.ext_getElem?
  intro j
  rw [List.getElem?_set]
  unfold dz
  rw [List.getElem?_map, List.getElem?_map]
  by_cases hj : i = j
  · subst hj
    rw [if_pos rfl, if_pos (by simpa using h), List.getElem?_range h]
    simp
  · rw [if_neg hj]
    rcases Nat.lt_or_ge j L with g | g
    · rw [List.getElem?_range g]
      simp only [Option.map_some]
      by_cases g2 : j < i
      · rw [if_pos g2, if_pos (by omega)]
      · rw [if_neg g2, if_neg (by omega)]
    · rw [List.getElem?_eq_none (by simpa using g)]; rfl
theorem dz_full (x y : List Int) {L : Nat} (h : x.length = L) : dz x y L L = diff x y := by
  unfold dz diff
  rw [h]
  apply List.map_congr_left
  intro t ht
  rw [if_pos (List.mem_range.1 ht)]

theorem dz_own {w : World} {B g cap : Nat} {x y : List Int} {t L : Nat} (h : OwnI w B (.slice (some ⟨g, 0, none⟩) L cap) (dz x y t L)) (ht : t < L) :
    (∃ z, w.cell? ⟨g, t, none⟩ = some (.int .i64 z)) ∧ w.frozen? ⟨g, t, none⟩ = false ∧ OwnI (w.setCell ⟨g, t, none⟩ (.int .i64 (nthI x t - nthI y t))) B (.slice (some ⟨g, 0, none⟩) L cap) (dz x y (t + 1) L) := by
  have hl := dz_length x y t L
  have h2 : OwnI w B (.slice (some ⟨g, 0, none⟩) (dz x y t L).length cap) (dz x y t L) := by rw [hl]; exact h
  have h' : w.ownsRow B 3 1 (.slice (some ⟨g, 0, none⟩) (dz x y t L).length cap) (dz x y t L).length (i64s (dz x y t L)) := h2
  refine ⟨⟨_, ownI_cell h2 t (by rw [hl]; exact ht)⟩, World.ownsRow.frozenAt h' t, ?_⟩
  have h3 := ownI_set h2 t (nthI x t - nthI y t)
  rw [hl, dz_set x y ht] at h3
  exact h3
theorem own_at {w : World} {B : Nat} {a : Option Addr} {c : Nat} {x : List Int} {t : Nat} (h : OwnI w B (.slice a x.length c) x) (ht : t < x.length) : ∃ g, a = some ⟨g, 0, none⟩ ∧ w.cell? ⟨g, t, none⟩ = some (.int .i64 (nthI x t)) := by
  obtain ⟨g, cap, e0, _, hc, _⟩ := row_at h ht
  injection e0 with e1 _ _
  exact ⟨g, e1, hc⟩
theorem divs_le1 (q : Nat) : ∀ (f n : Nat), (divs q f n).1 ≤ n
  | 0, n => Nat.le_refl _
  | f + 1, n => by
    rw [divs]
    split
    · exact Nat.le_trans (divs_le1 q f (n / q)) (Nat.div_le_self _ _)
    · exact Nat.le_refl _
theorem expsR_bound : ∀ (p : List Nat) (n t : Nat), 0 ≤ nthI (expsR p n).1 t ∧ nthI (expsR p n).1 t ≤ n
  | [], n, t => by simp [expsR, nthI]
  | q :: r, n, 0 => by
    have := divs_cnt q n n
    simp [expsR, nthI]; omega
  | q :: r, n, t + 1 => by
    have h1 := expsR_bound r (divs q n n).1 t
    have h2 := divs_le1 q n n
    have e : nthI (expsR (q :: r) n).1 (t + 1) = nthI (expsR r (divs q n n).1).1 t := by simp [expsR, nthI]
    rw [e]; omega

theorem wcol_length (num den : Nat) (p : List Nat) (n : Nat) (x : List Int) : ∀ k, (wcol num den p n x k).length ≤ k
  | 0 => Nat.le_refl _
  | k + 1 => by
    have ih := wcol_length num den p n x k
    have h : (wrow num den p n x (k + 1)).length ≤ 1 := by
      rw [wrow]
      cases exps p (k + 1) with
      | none => simp
      | some y => simp only; split <;> simp
    rw [wcol, List.length_append]
    omega

def LOut (num den H : Nat) (p : List Nat) (W1 : World) (v u n : Value) (wr : World) : Prop :=
  ∃ (j : Nat) (rs : List Rw), n = .int .i64 ((j : Int) + 1) ∧ 1 ≤ j ∧ j ≤ H ∧ RwL wr W1.heap.size v rs ∧ PrL wr W1.heap.size u ((wall num den p j).map (·.2)) ∧ rs.map Rw.x = (wall num den p j).map (·.1) ∧ Ext W1 wr
def LIn (num den j : Nat) (p : List Nat) (ex : List Int) (W1 : World) (xv v u d : Value) (wr : World) : Prop :=
  ∃ (i : Nat) (rs : List Rw), d = .int .i64 ((i : Int) + 1) ∧ i ≤ j ∧ RwL wr W1.heap.size v rs ∧ PrL wr W1.heap.size u ((wall num den p j ++ wcol num den p (j + 1) ex i).map (·.2)) ∧ rs.map Rw.x = (wall num den p j ++ wcol num den p (j + 1) ex i).map (·.1) ∧ OwnI wr W1.heap.size xv ex ∧ Ext W1 wr
theorem lin_same {num den j i : Nat} {p : List Nat} {ex : List Int} {W1 W6 W7 : World} {xv v u : Value} {rs : List Rw} (hi : i < j) (hr : RwL W6 W1.heap.size v rs) (hp : PrL W6 W1.heap.size u ((wall num den p j ++ wcol num den p (j + 1) ex i).map (·.2))) (hm : rs.map Rw.x = (wall num den p j ++ wcol num den p (j + 1) ex i).map (·.1))
    (hx : OwnI W6 W1.heap.size xv ex) (hE : Ext W1 W6) (h7 : Ext W6 W7) (hw : wrow num den p (j + 1) ex (i + 1) = []) : LIn num den j p ex W1 xv v u (.int .i64 ((i : Int) + 1 + 1)) W7 := by
  refine ⟨i + 1, rs, by simp, by omega, h7.rwL hr, ?_, ?_, h7.ownI hx, hE.trans h7⟩
  · rw [wcol, hw, List.append_nil]; exact h7.prL hp
  · rw [wcol, hw, List.append_nil]; exact hm
theorem lin_more {num den j i : Nat} {p : List Nat} {ex dd : List Int} {W1 W6 W7 W8 : World} {xv v u zv v7 u8 : Value} {rs : List Rw} {t1 t2 : Obj} (hi : i < j) (hr : RwL W6 W1.heap.size v rs) (hp : PrL W6 W1.heap.size u ((wall num den p j ++ wcol num den p (j + 1) ex i).map (·.2))) (hm : rs.map Rw.x = (wall num den p j ++ wcol num den p (j + 1) ex i).map (·.1))
    (hx : OwnI W6 W1.heap.size xv ex) (hz : OwnI W6 W1.heap.size zv dd) (hone : zv.oneCell' = true) (hE : Ext W1 W6) (hw : wrow num den p (j + 1) ex (i + 1) = [(dd, j + 1, i + 1)])
    (hown7 : W7.ownsRow W1.heap.size 30 1 v7 (rs.length + 1) (rwc rs ++ [zv])) (hg7 : (W6.alloc t1).grownBy W7 v.ownBlock)
    (hown8 : W8.ownsRow W1.heap.size 47 2 u8 (((wall num den p j ++ wcol num den p (j + 1) ex i).map (·.2)).length + 1) (prc ((wall num den p j ++ wcol num den p (j + 1) ex i).map (·.2)) ++ [.int .i64 ((j : Int) + 1), .int .i64 ((i : Int) + 1)])) (hg8 : (W7.alloc t2).grownBy W8 u.ownBlock) : LIn num den j p ex W1 xv v7 u8 (.int .i64 ((i : Int) + 1 + 1)) W8 := by
  have hE7 : Ext W1 W7 := ext_grown hE hr.1 hg7
  have hp7 : PrL W7 W1.heap.size u ((wall num den p j ++ wcol num den p (j + 1) ex i).map (·.2)) := World.ownsRow.kept (((Ext.refl W6).alloc t1).prL hp) hg7 (own_ne hp hr.1 (by decide))
  have hE8 : Ext W1 W8 := ext_grown hE7 hp7 hg8
  have keep7 : ∀ {a x}, OwnI W6 W1.heap.size a x → OwnI W7 W1.heap.size a x := fun ho => World.ownsRow.kept (((Ext.refl W6).alloc t1).ownI ho) hg7 (own_ne ho hr.1 (by decide))
  have keep8 : ∀ {a x}, OwnI W7 W1.heap.size a x → OwnI W8 W1.heap.size a x := fun ho => World.ownsRow.kept (((Ext.refl W7).alloc t2).ownI ho) hg8 (own_ne ho hp7 (by decide))
  have hv8 : W8.ownsRow W1.heap.size 30 1 v7 (rs.length + 1) (rwc rs ++ [zv]) := World.ownsRow.kept (((Ext.refl W7).alloc t2).own hown7) hg8 (own_ne hown7 hp7 (by decide))
  refine ⟨i + 1, rs ++ [⟨dd, zv, hone⟩], by simp, by omega, ⟨?_, ?_⟩, ?_, ?_, keep8 (keep7 hx), hE8⟩
  · rw [List.length_append, show rwc (rs ++ [⟨dd, zv, hone⟩]) = rwc rs ++ [zv] by simp [rwc]]
    exact hv8
  · intro r hmem
    rcases List.mem_append.1 hmem with h | h
    · exact keep8 (keep7 (hr.2 r h))
    · simp only [List.mem_singleton] at h
      subst h
      exact keep8 (keep7 hz)
  · rw [wcol, hw, ← List.append_assoc, List.map_append]
    unfold PrL
    rw [List.length_append, show ([(dd, j + 1, i + 1)] : List (List Int × Nat × Nat)).map (·.2) = [(j + 1, i + 1)] from rfl, prc_snoc]
    have e1 : (((j + 1 : Nat) : Int)) = (j : Int) + 1 := by omega
    have e2 : (((i + 1 : Nat) : Int)) = (i : Int) + 1 := by omega
    rw [e1, e2]
    exact hown8
  · rw [wcol, hw, ← List.append_assoc, List.map_append, List.map_append, hm]
    rfl

set_option maxRecDepth 100000 in
set_option maxHeartbeats 4000000 in
theorem lister_c (vp vx : Value) (p : List Nat) (x : List Int) (H : Nat) (w : World) (he : Env w) (hp : Sl w vp (i64s (ints p))) (hx : Sl w vx (i64s x)) (hn : Nice (ints p) x) (hlen : x.length = (ints p).length) (hl : p.length ≤ 64) (hq : ∀ i, i < p.length → 2 ≤ nth p i ∧ nth p i ≤ 1000) (h1 : 1 ≤ H) (hH : H ≤ 1000) :
    Calls Tryz.prog 15 #[.agg #[vp, .int .i64 H, vx]] w fun e w' => ∃ v u rs, e = .returned (.tuple #[v, u]) ∧ RwL w' w.heap.size v rs ∧ PrL w' w.heap.size u ((wall (numP (ints p) x) (denP (ints p) x) p H).map (·.2)) ∧ rs.map Rw.x = (wall (numP (ints p) x) (denP (ints p) x) p H).map (·.1) ∧ Ext w w' := by
  obtain ⟨i0, hi, hz0, hz1, hz2⟩ := info_parts info_int
  obtain ⟨j0, hj, hy0, hy1, hy2⟩ := info_parts info_row
  obtain ⟨k0, hk0, hv0, hv1, hv2⟩ := info_parts info_pair
  have hva := fun W (hE : Ext w W) => value_c vp vx (ints p) x W (he.ext hE) (hE.sl hp) (hE.sl hx) hn hlen
  have hex := fun W (hE : Ext w W) (n : Nat) (h1 : 1 ≤ n) (hn : n ≤ 1000000) => exps_c vp p n W (hE.sl hp) hl hq h1 hn
  have hnd := numP_digits hn
  have hdd := denP_digits hn
  obtain ⟨ap, cp, rfl, _, _, _⟩ := hp.parts
  obtain ⟨ax, cx, rfl, _, _, _⟩ := hx.parts
  clear hp hx hq hn hlen
  rw [i64s_length, ints_length] at *
  rw [i64s_length] at *
  generalize numP (ints p) x = num at *
  generalize denP (ints p) x = den at *
  have hfn : Fit (num : Int) := by show nDigits num ≤ 400000; omega
  have hfd : Fit (den : Int) := by show nDigits den ≤ 400000; omega
  have fit2 : ∀ m k : Nat, m ≤ 1000000 → nDigits k ≤ 256001 → Fit ((m : Int) * (k : Int)) := fun m k h1 h2 => by
    rw [← Int.natCast_mul]; show nDigits (m * k) ≤ 400000
    have h3 := nDigits_lt (n := m) (k := 7) (by omega) (by omega)
    have h4 := nDigits_mul m k
    omega
  have fit1 : ∀ m : Nat, m ≤ 1000000 → Fit (m : Int) := fun m h1 => by
    show nDigits m ≤ 400000
    have h3 := nDigits_lt (n := m) (k := 7) (by omega) (by omega)
    omega
  have Hva := Lib.hid hva; have Hex := Lib.hid hex; have Hnd := Lib.hid hnd; have Hdd := Lib.hid hdd; have Hfn := Lib.hid hfn; have Hfd := Lib.hid hfd; have Fit2 := Lib.hid fit2; have Fit1 := Lib.hid fit1; have He := Lib.hid he
  clear hva hex hnd hdd hfn hfd fit2 fit1 he
  obtain ⟨hb0, hb1, hb2⟩ := three_new w (.slice ap p.length cp) (.int .i64 H) (.slice ax x.length cx) 32
  have hE0 : Ext w (w.alloc (.cells #[.slice ap p.length cp, .int .i64 H, .slice ax x.length cx] 32)) := (Ext.refl w).alloc _
  generalize hw0 : w.alloc (.cells #[.slice ap p.length cp, .int .i64 H, .slice ax x.length cx] 32) = W0 at *
  go_enter Tryz.func15, Tryz.ntmps15
  go_wp2_with fail
  refine (Hva.out W0 hE0).mono ?_
  rintro e W1 ⟨rfl, hx1⟩
  have hE1 := hE0.trans hx1
  have hc0 := hx1.cell hb0
  have hc1 := hx1.cell hb1
  have HE1 := Lib.hid hE1; clear hE1 hx1 hE0
  go_wp2_with fail
  go_loopw [6, 7, 8] (fun v u n wr => LOut num den H p W1 v u n wr) (fun _ _ n _ => H + 1 - (intOf n).toNat)
  case atStart => 
    refine ⟨1, [], rfl, Nat.le_refl _, h1, RwL.nil _ _, ?_, ?_, Ext.refl _⟩
    · have : wall num den p 1 = [] := by
        rw [wall, wall, wover]; cases exps p (0 + 1) <;> rfl
      rw [this]; exact World.ownsRow_nil _ _ _ 2
    · have : wall num den p 1 = [] := by
        rw [wall, wall, wover]; cases exps p (0 + 1) <;> rfl
      rw [this]; rfl
  case round =>
    obtain ⟨j, rs, rfl, hj1, hjH, hrs, hps, hmp, hext⟩ := hrel
    obtain ⟨av, cv, rfl⟩ := own_shape hrs.1
    obtain ⟨au, cu, rfl⟩ := own_shape hps
    have hlw := wall_length num den p j
    have hjj : j * j ≤ 1000 * 1000 := Nat.mul_le_mul (by omega) (by omega)
    have Hrs := Lib.hid hrs; have Hps := Lib.hid hps; have Hmp := Lib.hid hmp; have Hext := Lib.hid hext
    clear hrs hps hmp hext
    generalize hL1 : (wall num den p j).map (·.2) = L1 at *
    have HL1 := Lib.hid hL1; clear hL1
    have hcc0 := Hext.out.cell hc0
    have hcc1 := Hext.out.cell hc1
    by_cases hlt : j < H
    · have hjlt : (j : Int) + 1 ≤ (H : Int) := by omega
      have hexn := Hex.out wr (HE1.out.trans Hext.out) (j + 1) (by omega) (by omega)
      rw [show (((j + 1 : Nat)) : Int) = (j : Int) + 1 by omega] at hexn
      have Hexn := Lib.hid hexn; clear hexn
      go_wp2_with fail
      refine Hexn.out.mono ?_
      rintro e W4 ⟨xv, rfl, hxv, hx4⟩
      have hxv : OwnI W4 W1.heap.size xv (expsR p (j + 1)).1 := own_mono hxv Hext.out.size
      have hE4 := Hext.out.trans hx4
      have hrs4 := hx4.rwL Hrs.out
      have hps4 := hx4.prL Hps.out
      have Hrs4 := Lib.hid hrs4; have Hps4 := Lib.hid hps4; have HE4 := Lib.hid hE4; have Hxv := Lib.hid hxv; clear hrs4 hps4 hE4 hxv hx4 Hexn
      by_cases hyes : (expsR p (j + 1)).2 = 1
      · have hexj : exps p (j + 1) = some (expsR p (j + 1)).1 := by unfold exps; rw [if_pos hyes]
        rw [decide_eq_true hyes]
        have hxl := expsR_length p (j + 1)
        have hxb := expsR_bound p (j + 1)
        generalize (expsR p (j + 1)).1 = ex at *
        obtain ⟨axv, cxv, rfl⟩ := own_shape Hxv.out
        have Hexj := Lib.hid hexj; have Hxl := Lib.hid hxl; have Hxb := Lib.hid hxb; clear hexj hyes hxl hxb
        go_wp2_with fail
        go_loopw [6, 7, 11] (fun v u d wr => LIn num den j p ex W1 (.slice axv ex.length cxv) v u d wr) (fun _ _ d _ => j + 1 - (intOf d).toNat)
        case atStart =>
          exact ⟨0, rs, rfl, Nat.zero_le _, Hrs4.out, by rw [wcol, List.append_nil, HL1.out]; exact Hps4.out, by rw [wcol, List.append_nil]; exact Hmp.out, Hxv.out, HE4.out⟩
        case round =>
          obtain ⟨i, rs2, rfl, hij, hrs2, hps2, hmp2, hxv2, hext2⟩ := hrel
          obtain ⟨av2, cv2, rfl⟩ := own_shape hrs2.1
          obtain ⟨au2, cu2, rfl⟩ := own_shape hps2
          have hcl := wcol_length num den p (j + 1) ex i
          have hlen2 := congrArg List.length hmp2
          simp only [List.length_map, List.length_append] at hlen2
          have hlenb : rs2.length ≤ 1001000 := by omega
          have hlenp : ((wall num den p j ++ wcol num den p (j + 1) ex i).map (·.2)).length ≤ 1001000 := by simp only [List.length_map, List.length_append]; omega
          have Hrs2 := Lib.hid hrs2; have Hps2 := Lib.hid hps2; have Hmp2 := Lib.hid hmp2; have Hxv2 := Lib.hid hxv2; have Hext2 := Lib.hid hext2
          clear hrs2 hps2 hmp2 hxv2 hext2 hlen2 hcl
          generalize hL2 : (wall num den p j ++ wcol num den p (j + 1) ex i).map (·.2) = L2 at *
          have HL2 := Lib.hid hL2; clear hL2
          have hd0 := Hext2.out.cell hc0
          by_cases hil : i < j
          · have hilt : (i : Int) + 1 < (j : Int) + 1 := by omega
            have hexd := Hex.out wr (HE1.out.trans Hext2.out) (i + 1) (by omega) (by omega)
            rw [show (((i + 1 : Nat)) : Int) = (i : Int) + 1 by omega] at hexd
            have Hexd := Lib.hid hexd; clear hexd
            go_wp2_with fail
            refine Hexd.out.mono ?_
            rintro e W6 ⟨yv, rfl, hyv, hx6⟩
            have hyv : OwnI W6 W1.heap.size yv (expsR p (i + 1)).1 := own_mono hyv Hext2.out.size
            have hE6 := Hext2.out.trans hx6
            have hrs6 := hx6.rwL Hrs2.out
            have hps6 := hx6.prL Hps2.out
            have hxv6 := hx6.ownI Hxv2.out
            have Hrs6 := Lib.hid hrs6; have Hps6 := Lib.hid hps6; have Hxv6 := Lib.hid hxv6; have HE6 := Lib.hid hE6; have Hyv := Lib.hid hyv; clear hrs6 hps6 hxv6 hE6 hyv hx6 Hexd
            by_cases hyd : (expsR p (i + 1)).2 = 1
            · have hexi : exps p (i + 1) = some (expsR p (i + 1)).1 := by unfold exps; rw [if_pos hyd]
              rw [decide_eq_true hyd]
              have hyl := expsR_length p (i + 1)
              have hyb := expsR_bound p (i + 1)
              generalize (expsR p (i + 1)).1 = ey at *
              obtain ⟨ayv, cyv, rfl⟩ := own_shape Hyv.out
              clear hyd
              have hgc := fun W => gcd_c (j + 1) (i + 1) W (by omega) (by omega)
              simp only [show (((j + 1 : Nat)) : Int) = (j : Int) + 1 by omega, show (((i + 1 : Nat)) : Int) = (i : Int) + 1 by omega] at hgc
              have hwr : wrow num den p (j + 1) ex (i + 1) = if Nat.gcd (j + 1) (i + 1) = 1 ∧ ¬ (i + 1) * num < (j + 1) * den then [(diff ex ey, j + 1, i + 1)] else [] := by rw [wrow, hexi]
              have Hgc := Lib.hid hgc; have Hwr := Lib.hid hwr; have Hyl := Lib.hid hyl; have Hyb := Lib.hid hyb; clear hgc hwr hexi hyl hyb
              by_cases hg : Nat.gcd (j + 1) (i + 1) = 1
              · rw [hg] at Hgc
                have hgt : ((((1 : Nat)) : Int) != 1) = false := rfl
                go_wp2_with fail
                refine (Hgc.out W6).mono ?_
                rintro e W7 ⟨rfl, hq7⟩
                have Hx67 := Lib.hid hq7.ext; clear hq7
                have hej : (((j + 1 : Nat)) : Int) = (j : Int) + 1 := by omega
                have hei : (((i + 1 : Nat)) : Int) = (i : Int) + 1 := by omega
                have hf1 : Fit ((j : Int) + 1) := by rw [← hej]; exact Fit1.out (j + 1) (by omega)
                have hf2 : Fit ((i : Int) + 1) := by rw [← hei]; exact Fit1.out (i + 1) (by omega)
                have hf3 : Fit (((j : Int) + 1) * (den : Int)) := by rw [← hej]; exact Fit2.out (j + 1) den (by omega) Hdd.out
                have hf4 : Fit ((num : Int) * ((i : Int) + 1)) := by rw [← hei, Int.mul_comm]; exact Fit2.out (i + 1) num (by omega) Hnd.out
                have hcv : 0 < cmpI (((j : Int) + 1) * (den : Int)) ((num : Int) * ((i : Int) + 1)) ↔ (i + 1) * num < (j + 1) * den := by
                  rw [← hej, ← hei, ← Int.natCast_mul, ← Int.natCast_mul, Nat.mul_comm num]
                  unfold cmpI
                  by_cases h : (j + 1) * den < (i + 1) * num
                  · rw [if_pos (by omega)]; omega
                  · rw [if_neg (by omega)]; split <;> omega
                have Hf1 := Lib.hid hf1; have Hf2 := Lib.hid hf2; have Hf3 := Lib.hid hf3; have Hf4 := Lib.hid hf4; have Hcv := Lib.hid hcv; clear hf1 hf2 hf3 hf4 hcv hej hei
                go_wp2_with fail
                refine (wholeOf_c ((j : Int) + 1) (by omega) (by omega) W7 (He.out.ext ((HE1.out.trans HE6.out).trans Hx67.out))).mono ?_
                rintro e W8 ⟨rfl, hx8⟩
                have hE68 := Hx67.out.trans hx8
                have HE68 := Lib.hid hE68; clear hE68 hx8
                go_wp2_with fail
                refine (mul_c ((j : Int) + 1) (den : Int) W8 (He.out.ext ((HE1.out.trans HE6.out).trans HE68.out)) Hf1.out Hfd.out).mono ?_
                rintro e W9 ⟨rfl, hx9⟩
                have hE69 := HE68.out.trans hx9
                have HE69 := Lib.hid hE69; clear hE69 hx9
                go_wp2_with fail
                refine (wholeOf_c ((i : Int) + 1) (by omega) (by omega) W9 (He.out.ext ((HE1.out.trans HE6.out).trans HE69.out))).mono ?_
                rintro e W10 ⟨rfl, hx10⟩
                have hE610 := HE69.out.trans hx10
                have HE610 := Lib.hid hE610; clear hE610 hx10
                go_wp2_with fail
                refine (mul_c (num : Int) ((i : Int) + 1) W10 (He.out.ext ((HE1.out.trans HE6.out).trans HE610.out)) Hfn.out Hf2.out).mono ?_
                rintro e W11 ⟨rfl, hx11⟩
                have hE611 := HE610.out.trans hx11
                have HE611 := Lib.hid hE611; clear hE611 hx11
                go_wp2_with fail
                refine (cmp_c (((j : Int) + 1) * (den : Int)) ((num : Int) * ((i : Int) + 1)) W11 Hf3.out Hf4.out).mono ?_
                rintro e W12 ⟨rfl, hx12⟩
                have hE612 := HE611.out.trans hx12
                have HE612 := Lib.hid hE612; clear hE612 hx12 HE611 HE610 HE69 HE68
                by_cases hbr : (i + 1) * num < (j + 1) * den
                · have hcp : 0 < cmpI (((j : Int) + 1) * (den : Int)) ((num : Int) * ((i : Int) + 1)) := Hcv.out.2 hbr
                  have hwr : wrow num den p (j + 1) ex (i + 1) = [] := by rw [Hwr.out, if_neg (fun h => h.2 hbr)]
                  have Hwr2 := Lib.hid hwr; clear hwr Hwr hbr
                  generalize cmpI (((j : Int) + 1) * (den : Int)) ((num : Int) * ((i : Int) + 1)) = cc at *
                  go_wp2_with fail
                  go_roundw
                  case rel => exact lin_same hil Hrs6.out (by rw [HL2.out]; exact Hps6.out) Hmp2.out Hxv6.out HE6.out HE612.out Hwr2.out
                  case measure => simp [intOf]; omega
                · have hcp : ¬ 0 < cmpI (((j : Int) + 1) * (den : Int)) ((num : Int) * ((i : Int) + 1)) := fun h => hbr (Hcv.out.1 h)
                  have hwr : wrow num den p (j + 1) ex (i + 1) = [(diff ex ey, j + 1, i + 1)] := by rw [Hwr.out, if_pos ⟨hg, hbr⟩]
                  have Hwr2 := Lib.hid hwr; clear hwr Hwr hbr hg
                  generalize cmpI (((j : Int) + 1) * (den : Int)) ((num : Int) * ((i : Int) + 1)) = cc at *
                  have hexl : ex.length ≤ 64 := by have := Hxl.out; omega
                  have hrs12 := HE612.out.rwL Hrs6.out
                  have hps12 := HE612.out.prL Hps6.out
                  have hxv12 := HE612.out.ownI Hxv6.out
                  have hyv12 := HE612.out.ownI Hyv.out
                  have hE12 := HE6.out.trans HE612.out
                  have Hrs12 := Lib.hid hrs12; have Hps12 := Lib.hid hps12; have Hxv12 := Lib.hid hxv12; have Hyv12 := Lib.hid hyv12; have HE12 := Lib.hid hE12
                  clear hrs12 hps12 hxv12 hyv12 hE12
                  go_wp2_with (at_make; refine wpList_make_full _ rfl _ _ 30 rfl W12.heap.size 3 i0 (.int .i64 0) 1 Tryz.underlying30 hi hz0 hz1 _ _ _ _ ex.length rfl rfl rfl rfl (by rw [hz2]; omega) (by unfold maxLen; omega) (Nat.le_refl _) ?_; intro W13 hown13 hgrow13)
                  have hown13' : OwnI W13 W12.heap.size (.slice (some ⟨W12.heap.size, 0, none⟩) ex.length ex.length) (dz ex ey 0 ex.length) := by
                    unfold OwnI
                    rw [dz_length, dz_zero]
                    have e : i64s (List.replicate ex.length 0) = (madeCells #[Value.int .i64 0] (ex.length * 1)).toList := by
                      rw [Nat.mul_one, toList_madeCells_one]; simp [i64s]
                    rw [e]; exact hown13
                  have hE13 : Ext W12 W13 := (Ext.refl _).grown hgrow13 (by simp)
                  have Hown13 := Lib.hid hown13'; have HE13 := Lib.hid hE13; clear hown13 hown13' hE13 hgrow13
                  go_loopw [15] (fun t wr => ∃ k : Nat, t = .int .i64 k ∧ k ≤ ex.length ∧ OwnI wr W12.heap.size (.slice (some ⟨W12.heap.size, 0, none⟩) ex.length ex.length) (dz ex ey k ex.length) ∧ Ext W12 wr) (fun t _ => ex.length - (intOf t).toNat)
                  case atStart => exact ⟨0, rfl, Nat.zero_le _, Hown13.out, HE13.out⟩
                  case round =>
                    obtain ⟨k, rfl, hk, hownz, hextz⟩ := hrel
                    have Hownz := Lib.hid hownz; have Hextz := Lib.hid hextz; clear hownz hextz
                    by_cases hkl : k < ex.length
                    · obtain ⟨gx, rfl, hcx⟩ := own_at (Hextz.out.ownI Hxv12.out) hkl
                      obtain ⟨gy, rfl, hcy⟩ := own_at (Hextz.out.ownI Hyv12.out) (show k < ey.length by have := Hxl.out; have := Hyl.out; omega)
                      obtain ⟨⟨z0, hcz⟩, hfz, hnz⟩ := dz_own Hownz.out hkl
                      have hb1 := Hxb.out k
                      have hb2 := Hyb.out k
                      have hky : (k : Int) < (ey.length : Int) := by have := Hxl.out; have := Hyl.out; omega
                      have hkx : (k : Int) < (ex.length : Int) := by omega
                      have hk0 : (0 : Int) ≤ (k : Int) := by omega
                      have Hnz := Lib.hid hnz; clear hnz
                      have hEz : Ext W12 (wr.setCell ⟨W12.heap.size, k, none⟩ (.int .i64 (nthI ex k - nthI ey k))) := Hextz.out.setCell (Nat.le_refl _) _
                      have HEz := Lib.hid hEz; clear hEz
                      generalize nthI ex k = zx at *
                      generalize nthI ey k = zy at *
                      go_wp2_with fail
                      go_region
                      go_wp2
                      go_roundw
                      case rel => exact ⟨k + 1, by go_num, by omega, ((Ext.refl _).drew).ownI Hnz.out, HEz.out.drew⟩
                      case measure => simp [intOf]; omega
                    · obtain rfl : k = ex.length := by omega
                      have hownr := (Hextz.out.rwL Hrs12.out).1
                      have hpz := Hextz.out.prL Hps12.out
                      have hxz := Hextz.out.ownI Hxv12.out
                      have hzz : OwnI wr W1.heap.size (.slice (some ⟨W12.heap.size, 0, none⟩) ex.length ex.length) (diff ex ey) := by
                        have h := Hownz.out
                        rw [dz_full ex ey rfl] at h
                        exact own_mono h HE12.out.size
                      have hEz := HE12.out.trans Hextz.out
                      have hsz := hEz.size
                      have Hpz := Lib.hid hpz; have Hxz := Lib.hid hxz; have Hzz := Lib.hid hzz; have HEz := Lib.hid hEz; have Hownr := Lib.hid hownr
                      clear hxz hzz
                      have hm3 : rs2.length + 1 ≤ maxLen := by unfold maxLen; omega
                      have hm4 : (rs2.length + 1) * 24 ≤ 140737488355328 := by omega
                      have hq3 : L2.length + 1 ≤ maxLen := by unfold maxLen; omega
                      have hq4 : (L2.length + 1) * 16 ≤ 140737488355328 := by omega
                      go_wp2_with (first | (at_builtin; refine wpList_append_own _ rfl _ _ 36 rfl W1.heap.size 30 j0 (.slice none 0 0) 1 24 Tryz.underlying36 hj hy0 hy1 hy2 rfl (by decide) _ _ _ rfl (hownr.alloc _) ⟨wr.heap.size, 0, none⟩ 1 1 [.slice (some ⟨W12.heap.size, 0, none⟩) ex.length ex.length] rfl rfl (cell_one_new _ _ _) (by simp [Value.oneCell']) hm3 hm4 (by rw [World.size_alloc]; omega) ?_; intro v7 W17 hown7 hgrow7 _; have hp7 : PrL W17 W1.heap.size (.slice au2 L2.length cu2) L2 := World.ownsRow.kept (hpz.alloc _) hgrow7 (own_ne hpz hownr (by decide)); have hs17 := (ext_grown hEz hownr hgrow7).size) | (at_builtin; refine wpList_append_own _ rfl _ _ 40 rfl W1.heap.size 47 k0 (.agg #[.int .i64 0, .int .i64 0]) 2 16 Tryz.underlying40 hk0 hv0 hv1 hv2 rfl (by decide) _ _ _ rfl (World.ownsRow.alloc hp7 _) ⟨W17.heap.size, 0, none⟩ 1 1 [.int .i64 ((j : Int) + 1), .int .i64 ((i : Int) + 1)] rfl rfl (cell_two_new _ _ _ _) (by simp [Value.oneCell']) hq3 hq4 (by rw [World.size_alloc]; omega) ?_; intro v8 W18 hown8 hgrow8 _))
                      go_roundw
                      case rel =>
                        have hrz : RwL wr W1.heap.size (.slice av2 rs2.length cv2) rs2 := Hextz.out.rwL Hrs12.out
                        have h2 := HL2.out
                        subst h2
                        exact lin_more hil hrz Hpz.out Hmp2.out Hxz.out Hzz.out rfl HEz.out Hwr2.out hown7 hgrow7 hown8 hgrow8
                      case measure => simp [intOf]; omega
              · have hgn : ((((Nat.gcd (j + 1) (i + 1) : Nat)) : Int) != 1) = true := by rw [bne_iff_ne]; omega
                have hwr : wrow num den p (j + 1) ex (i + 1) = [] := by rw [Hwr.out, if_neg (fun h => hg h.1)]
                have Hwr2 := Lib.hid hwr; clear hwr hg Hwr
                generalize Nat.gcd (j + 1) (i + 1) = gg at *
                go_wp2_with fail
                refine (Hgc.out W6).mono ?_
                rintro e W7 ⟨rfl, hq7⟩
                have Hx67 := Lib.hid hq7.ext; clear hq7
                go_wp2_with fail
                go_roundw
                case rel => exact lin_same hil Hrs6.out (by rw [HL2.out]; exact Hps6.out) Hmp2.out Hxv6.out HE6.out Hx67.out Hwr2.out
                case measure => simp [intOf]; omega
            · have hexi : exps p (i + 1) = none := by unfold exps; rw [if_neg hyd]
              have hwr : wrow num den p (j + 1) ex (i + 1) = [] := by rw [wrow, hexi]
              rw [decide_eq_false hyd]
              obtain ⟨ayv, cyv, rfl⟩ := own_shape Hyv.out
              have Hwr := Lib.hid hwr; clear hwr hexi hyd
              go_wp2_with fail
              go_roundw
              case rel => exact lin_same hil Hrs6.out (by rw [HL2.out]; exact Hps6.out) Hmp2.out Hxv6.out HE6.out (Ext.refl _) Hwr.out
              case measure => simp [intOf]; omega
          · obtain rfl : i = j := by omega
            have hij' : ¬ (i : Int) + 1 < (i : Int) + 1 := by omega
            have hwv : wall num den p (i + 1) = wall num den p i ++ wcol num den p (i + 1) ex i := by rw [wall, wover, Hexj.out]
            have Hwv := Lib.hid hwv; clear hwv
            go_wp2
            go_roundw
            case rel => exact ⟨i + 1, rs2, by go_num, by omega, by omega, Hrs2.out, by rw [Hwv.out, HL2.out]; exact Hps2.out, by rw [Hwv.out]; exact Hmp2.out, Hext2.out⟩
            case measure => simp [intOf]; omega
      · have hexj : exps p (j + 1) = none := by unfold exps; rw [if_neg hyes]
        have hwv : wall num den p (j + 1) = wall num den p j := by rw [wall, wover, hexj]; simp
        rw [decide_eq_false hyes]
        have Hwv := Lib.hid hwv; clear hwv hexj hyes
        obtain ⟨axv, cxv, rfl⟩ := own_shape Hxv.out
        go_wp2
        go_roundw
        case rel => exact ⟨j + 1, rs, by go_num, by omega, by omega, Hrs4.out, by rw [Hwv.out, HL1.out]; exact Hps4.out, by rw [Hwv.out]; exact Hmp.out, HE4.out⟩
        case measure => simp [intOf]; omega
    · obtain rfl : j = H := by omega
      have hjn : ¬ (j : Int) + 1 ≤ (j : Int) := by omega
      go_wp2
      go_ret2
      exact ⟨_, _, rfl, rs, ⟨own_mono Hrs.out.1 HE1.out.size, fun r hr => own_mono (Hrs.out.2 r hr) HE1.out.size⟩, by rw [HL1.out]; exact own_mono Hps.out HE1.out.size, Hmp.out, HE1.out.trans Hext.out⟩

end Go.Proofs.YtkamjjjimbbdmaaGreatDoor

namespace Go.Proofs.YtkamjjjimbbdmaaGreatDoor
open Go.RowKit Go.Lib Go.Shelf Go.Sort

theorem ten_q (n : Nat) : ∀ i, i < (tenP n).length → 2 ≤ nth (tenP n) i ∧ nth (tenP n) i ≤ 13 := by
  have h : (tenL.all fun p => (List.range p.length).all fun i => decide (2 ≤ nth p i) && decide (nth p i ≤ 13)) = true := by decide +kernel
  have h1 := (List.all_eq_true.1 h) _ (ten_mem n)
  intro i hi
  have h2 := (List.all_eq_true.1 h1) i (List.mem_range.2 hi)
  rw [Bool.and_eq_true] at h2
  exact ⟨of_decide_eq_true h2.1, of_decide_eq_true h2.2⟩
theorem divs_le2 (q : Nat) : ∀ (f n : Nat), (divs q f n).1 ≤ n
  | 0, n => Nat.le_refl _
  | f + 1, n => by
    rw [divs]
    split
    · exact Nat.le_trans (divs_le2 q f (n / q)) (Nat.div_le_self _ _)
    · exact Nat.le_refl _
theorem expsR_bd : ∀ (p : List Nat) (n t : Nat), 0 ≤ nthI (expsR p n).1 t ∧ nthI (expsR p n).1 t ≤ n
  | [], n, t => by simp [expsR, nthI]
  | q :: r, n, 0 => by
    have := divs_cnt q n n
    simp [expsR, nthI]; omega
  | q :: r, n, t + 1 => by
    have h1 := expsR_bd r (divs q n n).1 t
    have h2 := divs_le2 q n n
    have e : nthI (expsR (q :: r) n).1 (t + 1) = nthI (expsR r (divs q n n).1).1 t := by simp [expsR, nthI]
    rw [e]; omega
theorem exps_bd {p : List Nat} {n : Nat} {x : List Int} (h : exps p n = some x) (t : Nat) : 0 ≤ nthI x t ∧ nthI x t ≤ n := by
  unfold exps at h
  split at h
  · rw [← Option.some.inj h]; exact expsR_bd p n t
  · cases h
/-- The intervals of a question as rows. -/
def rowsOf (num den : Nat) (p : List Nat) (H : Nat) : List (List Int) := (wall num den p H).map (·.1)
theorem rows_fact {num den m H : Nat} (hH : H ≤ 130) : ∀ r ∈ rowsOf num den (tenP m) H, Nice (ints (tenP m)) r ∧ numP (ints (tenP m)) r ≤ 130 ∧ denP (ints (tenP m)) r ≤ 130 ∧ 0 < denP (ints (tenP m)) r ∧ r.length = (tenP m).length ∧ denP (ints (tenP m)) r < numP (ints (tenP m)) r ∧ Nat.gcd (numP (ints (tenP m)) r) (denP (ints (tenP m)) r) = 1 := by
  intro r hr
  obtain ⟨e, he, rfl⟩ := List.mem_map.1 hr
  obtain ⟨x, y, h1, h2, h3, h4, h5, h6, h7, h8⟩ := wall_mem hH he
  obtain ⟨h9, h10⟩ := wall_parts hH he
  have hl : e.1.length = (tenP m).length := by rw [h3, diff_length]; exact exps_length h1
  have h4l := ten_len m
  refine ⟨⟨?_, ?_, fun i hi => ?_⟩, by omega, by omega, by omega, hl, by omega, by rw [h9, h10]; exact h7⟩
  · rw [hl, ints_length]; exact Nat.le_refl _
  · rw [hl]; omega
  · rw [hl] at hi
    have hq := ten_q m i hi
    rw [nthI_ints, h3, nthI_diff x y (by rw [exps_length h1, exps_length h2])]
    have b1 := exps_bd h1 i
    have b2 := exps_bd h2 i
    omega
theorem rows_len {num den m H : Nat} (hH : H ≤ 130) : (rowsOf num den (tenP m) H).length ≤ 16900 := by
  unfold rowsOf
  rw [List.length_map]
  have h1 := wall_length num den (tenP m) H
  have h2 : H * H ≤ 130 * 130 := Nat.mul_le_mul hH hH
  omega

theorem pairs_half (num den : Nat) (p : List Nat) : ∀ k, 2 * (wall num den p k).length ≤ k * k := by
  intro k
  induction k with
  | zero => simp [wall]
  | succ k ih =>
    rw [wall, List.length_append]
    have h1 : (wover num den p (k + 1) k).length ≤ k := by
      rw [wover]
      cases exps p (k + 1) with
      | none => simp
      | some x =>
        have col : ∀ j, (wcol num den p (k + 1) x j).length ≤ j := by
          intro j
          induction j with
          | zero => simp [wcol]
          | succ j ih =>
            have h : (wrow num den p (k + 1) x (j + 1)).length ≤ 1 := by
              rw [wrow]
              cases exps p (j + 1) with
              | none => simp
              | some y => simp only; split <;> simp
            rw [wcol, List.length_append]
            omega
        exact col k
    have h2 : (k + 1) * (k + 1) = k * k + k + k + 1 := by rw [Nat.add_mul, Nat.mul_add]; omega
    omega
theorem rows_len2 {num den m H : Nat} (hH : H ≤ 130) : (rowsOf num den (tenP m) H).length ≤ 8450 := by
  unfold rowsOf
  rw [List.length_map]
  have h1 := pairs_half num den (tenP m) H
  have h2 : H * H ≤ 130 * 130 := Nat.mul_le_mul hH hH
  omega

theorem listTen_c (m H : Nat) (vp vx : Value) (x : List Int) (w : World) (he : Env w) (hp : Sl w vp (i64s (ints (tenP m)))) (hx : Sl w vx (i64s x)) (h1 : 1 ≤ H) (hH : H ≤ 130) (hask : askErr (ints (tenP m)) H x = 0) :
    Calls Tryz.prog 14 #[.agg #[vp, .int .i64 H, vx]] w fun e w' => ∃ v rs, e = .returned (.tuple #[v, .int .i64 0]) ∧ RwL w' w.heap.size v rs ∧ rs.map Rw.x = rowsOf (numP (ints (tenP m)) x) (denP (ints (tenP m)) x) (tenP m) H ∧ Ext w w' := by
  obtain ⟨F, hF, hperm⟩ := ten_grow m h1 hH
  have hrows := lst_wall (num := numP (ints (tenP m)) x) (den := denP (ints (tenP m)) x) (ten_apart m hH) H (Nat.le_refl _)
  have hlen := hperm.length_eq
  have hsl := smooth_length (tenP m) H
  have hr2 := rows_len2 (num := numP (ints (tenP m)) x) (den := denP (ints (tenP m)) x) (m := m) hH
  unfold rowsOf at hr2 ⊢
  rw [← hrows] at hr2 ⊢
  exact list_w vp vx (tenP m) H 200 x F w he hp hx hask (fun i hi => by have := ten_q m i hi; omega) (by omega) hF (by omega) (smooth (tenP m) H) hperm (smooth_sorted _ _) (by omega)

theorem leastTen_c (m H c : Nat) (vp vx : Value) (x : List Int) (w : World) (he : Env w) (hp : Sl w vp (i64s (ints (tenP m)))) (hx : Sl w vx (i64s x)) (hxl : x.length ≤ 64) (h1 : 1 ≤ H) (hH : H ≤ 130) (hask : askErr (ints (tenP m)) H x = 0) (hc : c ≤ 100) :
    Calls Tryz.prog 17 #[.agg #[vp, .int .i64 H, vx], .int .i64 c] w fun e w' => ∃ v rs' F, e = .returned (.tuple #[v, .int .i64 0]) ∧ LeastOf (ints (tenP m)) (rowsOf (numP (ints (tenP m)) x) (denP (ints (tenP m)) x) (tenP m) H) c F rs' ∧ RwL w' w.heap.size v rs' ∧ Ext w w' := by
  have h4 := ten_len m
  have hr2 := rows_len2 (num := numP (ints (tenP m)) x) (den := denP (ints (tenP m)) x) (m := m) hH
  have := least_w vp vx (ints (tenP m)) x H c w he hp hx hask (by omega) (by omega) (by rw [ints_length]; omega) hxl (rowsOf (numP (ints (tenP m)) x) (denP (ints (tenP m)) x) (tenP m) H) (by omega)
    (fun r hr => by
      obtain ⟨a1, a2, a3, a4, _⟩ := rows_fact hH r hr
      exact ⟨a1, by omega, by omega, a4⟩)
    (fun W hE => listTen_c m H vp vx x W (he.ext hE) (hE.sl hp) (hE.sl hx) h1 hH hask)
  rw [Int.toNat_natCast] at this
  exact this

theorem perm_uniq {α : Type} {le lt : α → α → Prop} (hx : ∀ a b, le a b → lt b a → False) : ∀ {l m : List α}, l.Perm m → l.Pairwise le → m.Pairwise lt → l = m
  | l, [], h, _, _ => h.eq_nil
  | [], y :: m, h, _, _ => by have := h.length_eq; simp at this
  | x :: l, y :: m, h, h1, h2 => by
    have hy : y ∈ x :: l := h.mem_iff.2 (List.mem_cons_self ..)
    have hx' : x ∈ y :: m := h.mem_iff.1 (List.mem_cons_self ..)
    rw [List.pairwise_cons] at h1 h2
    have e : x = y := by
      rcases List.mem_cons.1 hx' with e | hx'
      · exact e
      · rcases List.mem_cons.1 hy with e | hy'
        · exact e.symm
        · exact (hx _ _ (h1.1 y hy') (h2.1 x hx')).elim
    subst e
    rw [perm_uniq hx (List.Perm.cons_inv h) h1.2 h2.2]

end Go.Proofs.YtkamjjjimbbdmaaGreatDoor

namespace Go.Proofs.YtkamjjjimbbdmaaGreatDoor
open Go.RowKit Go.Lib Go.Shelf Go.Sort

theorem RwL.mat {w : World} {B : Nat} {v : Value} {rs : List Rw} (h : RwL w B v rs) : Mat w v (rs.map Rw.x) := by
  refine ⟨rwc rs, by simp [rwc], sl_own h.1, fun i u hu => ?_⟩
  unfold rwc at hu
  rw [List.getElem?_map] at hu
  cases hr : rs[i]? with
  | none => rw [hr] at hu; cases hu
  | some r =>
    rw [hr] at hu
    simp only [Option.map_some, Option.some.injEq] at hu
    subst hu
    rw [List.getD_eq_getElem?_getD, List.getElem?_map, hr]
    exact (h.2 r (List.mem_of_getElem? hr)).sl
theorem RwM.mat {w : World} {b B : Nat} {v : Value} {rs : List Rw} (h : RwM w b B v rs) : Mat w v (rs.map Rw.x) :=
  RwL.mat (B := min b B) ⟨own_mono h.1 (Nat.min_le_right _ _), fun r hr => own_mono (h.2 r hr).1 (Nat.min_le_left _ _)⟩

theorem k_num : numP (ints (tenP 0)) [-2, 0, 1] = 5 := by decide +kernel
theorem k_den : denP (ints (tenP 0)) [-2, 0, 1] = 4 := by decide +kernel
theorem k_ask : askErr (ints (tenP 0)) (10 : Nat) [-2, 0, 1] = 0 := by decide +kernel
theorem k_rows : rowsOf 5 4 (tenP 0) 10 = [[-2, 0, 1], [1, 1, -1], [-3, 2, 0], [1, -2, 1]] := by decide +kernel
theorem k_least {F : List (Nat × Nat × List Int)} {rs : List Rw} (h : LeastOf (ints (tenP 0)) (rowsOf 5 4 (tenP 0) 10) 2 F rs) : rs.map Rw.x = [[1, -2, 1], [-3, 2, 0]] := by
  obtain ⟨h1, h2, h3⟩ := h
  have hp : F.Perm [(10, 9, [1, -2, 1]), (9, 8, [-3, 2, 0]), (6, 5, [1, 1, -1]), (5, 4, [-2, 0, 1])] := h1.trans (by rw [k_rows]; decide +kernel)
  have hF := perm_uniq (le := fun a b : Nat × Nat × List Int => a.1 * b.2.1 ≤ b.1 * a.2.1) (lt := fun a b : Nat × Nat × List Int => a.1 * b.2.1 < b.1 * a.2.1) (fun a b h k => by omega) hp h2 (by decide +kernel)
  rw [h3, hF]; rfl
theorem k_good : ∀ z ∈ combAll 2 [[-1, 1]] [List.replicate 2 0], oneErr [2, 3] z = 0 := by decide +kernel
theorem k_comb {out : List (List Int)} (h : CombOf [2, 3] (combAll 2 [[-1, 1]] [List.replicate 2 0]) out) : out = [[-2, 2], [-1, 1]] := by
  obtain ⟨s, h1, h2, h3⟩ := h
  have hp : s.Perm [[-2, 2], [-1, 1]] := h1.trans (by decide +kernel)
  have hs := perm_uniq (le := fun a b => cmpL a b ≤ 0) (lt := fun a b => cmpL b a ≤ 0 → False) (fun a b h k => by
    have := cmpL_swap a b
    rcases cmpL_range a b with g | g | g
    · exact k (by omega) |>.elim
    · exact k (by omega) |>.elim
    · omega) hp h2 (by decide +kernel)
  rw [h3, hs]; decide +kernel

theorem mat_block {w : World} {b : Nat} {us : List Value} {l : List (List Int)} {t : TypeId} (h : w.heap[b]? = some (.cells us.toArray t (0, 0))) (hl : us.length = l.length) (hm : us.length ≤ maxLen) (hr : ∀ i u, us[i]? = some u → Sl w u (i64s (l.getD i []))) : Mat w (.slice (some ⟨b, 0, none⟩) us.length us.length) l :=
  ⟨us, hl, sl_block h hm, hr⟩

theorem alloc3 (w : World) (P X Q : Obj) : (((w.alloc P).alloc X).alloc Q).heap[w.heap.size]? = some P ∧ (((w.alloc P).alloc X).alloc Q).heap[w.heap.size + 1]? = some X ∧ (((w.alloc P).alloc X).alloc Q).heap[w.heap.size + 1 + 1]? = some Q ∧ Ext w (((w.alloc P).alloc X).alloc Q) :=
  ⟨heap_allocs [P, X, Q] w 0 (by simp), heap_allocs [P, X, Q] w 1 (by simp), heap_allocs [P, X, Q] w 2 (by simp), ext_allocs w [P, X, Q]⟩
theorem sl_of {w : World} {b n : Nat} {cs : Array Value} {t : TypeId} (xs : List Value) (h : w.heap[b]? = some (.cells cs t (0, 0))) (hx : cs.toList = xs) (hn : xs.length = n) (hm : n ≤ 1000) : Sl w (.slice (some ⟨b, 0, none⟩) n n) xs := by
  subst hn; subst hx
  exact sl_block (t := t) h (by unfold maxLen; omega)
def litO (b : Nat) (rows : List (List Int)) : List Obj := rows.map (fun x => Obj.cells (i64s x).toArray 3 (0, 0)) ++ [Obj.cells ((List.range rows.length).map fun i => Value.slice (some ⟨b + i, 0, none⟩) (rows.getD i []).length (rows.getD i []).length).toArray 30 (0, 0)]
def litW (w : World) (rows : List (List Int)) : World := (litO w.heap.size rows).foldl World.alloc w
/-- A list of rows laid out of constants. -/
theorem lit_mat (w : World) (rows : List (List Int)) (h : rows.length ≤ 1000) (hr : ∀ x ∈ rows, x.length ≤ 1000) : Mat (litW w rows) (.slice (some ⟨w.heap.size + rows.length, 0, none⟩) rows.length rows.length) rows ∧ Ext w (litW w rows) := by
  refine ⟨?_, ext_allocs w _⟩
  have hl : (litO w.heap.size rows).length = rows.length + 1 := by simp [litO]
  have hb := heap_allocs (litO w.heap.size rows) w rows.length (by omega)
  have e : (litO w.heap.size rows)[rows.length]? = some (Obj.cells ((List.range rows.length).map fun i => Value.slice (some ⟨w.heap.size + i, 0, none⟩) (rows.getD i []).length (rows.getD i []).length).toArray 30 (0, 0)) := by
    unfold litO
    rw [List.getElem?_append_right (by simp)]
    simp
  rw [e] at hb
  have hlen : ((List.range rows.length).map fun i => Value.slice (some ⟨w.heap.size + i, 0, none⟩) (rows.getD i []).length (rows.getD i []).length).length = rows.length := by simp
  have := mat_block (w := litW w rows) (l := rows) hb hlen (by rw [hlen]; unfold maxLen; omega) (fun i u hu => by
    rw [List.getElem?_map] at hu
    rcases Nat.lt_or_ge i rows.length with g | g
    · rw [List.getElem?_range g] at hu
      simp only [Option.map_some, Option.some.injEq] at hu
      subst hu
      have hi := heap_allocs (litO w.heap.size rows) w i (by omega)
      have e2 : (litO w.heap.size rows)[i]? = some (Obj.cells (i64s (rows.getD i [])).toArray 3 (0, 0)) := by
        unfold litO
        rw [List.getElem?_append_left (by simpa using g), List.getElem?_map, List.getD_eq_getElem?_getD, List.getElem?_eq_getElem g]
        rfl
      rw [e2] at hi
      exact sl_of (i64s (rows.getD i [])) hi rfl (by rw [i64s_length]) (by
        rw [List.getD_eq_getElem?_getD, List.getElem?_eq_getElem g]
        exact hr _ (List.getElem_mem g))
    · rw [List.getElem?_eq_none (by simpa using g)] at hu; cases hu)
  rw [hlen] at this
  exact this
theorem small_rows {L : List (List Int)} (h : ∀ x ∈ L, x.length ≤ 1000) (i : Nat) : (L.getD i []).length ≤ 1000000 := by
  rw [List.getD_eq_getElem?_getD]
  cases hx : L[i]? with
  | none => simp
  | some x => have := h x (List.mem_of_getElem? hx); simp; omega
theorem box3 {w : World} {b : Nat} {x y z : Value} {t : TypeId} (h : w.heap[b]? = some (.cells #[x, y, z] t (0, 0))) : w.cell? ⟨b, 0, none⟩ = some x ∧ w.cell? ⟨b, 1, none⟩ = some y ∧ w.cell? ⟨b, 2, none⟩ = some z := by
  refine ⟨?_, ?_, ?_⟩ <;> (unfold World.cell?; rw [h]; rfl)

set_option maxRecDepth 100000 in
set_option maxHeartbeats 4000000 in
theorem known_c (w : World) (he : Env w) : Calls Tryz.prog 13 #[] w fun e w' => e = .returned (.bool true) ∧ Ext w w' := by
  have hlist := fun W vp vx (hE : Ext w W) (hp : Sl W vp (i64s (ints (tenP 0)))) (hx : Sl W vx (i64s [-2, 0, 1])) => listTen_c 0 10 vp vx [-2, 0, 1] W (he.ext hE) hp hx (by omega) (by omega) k_ask
  have hleast := fun W vp vx (hE : Ext w W) (hp : Sl W vp (i64s (ints (tenP 0)))) (hx : Sl W vx (i64s [-2, 0, 1])) => leastTen_c 0 10 2 vp vx [-2, 0, 1] W (he.ext hE) hp hx (by simp) (by omega) (by omega) k_ask (by omega)
  rw [k_num, k_den] at hlist hleast
  have hcomb := fun W vp vl (hE : Ext w W) (hp : Sl W vp (i64s [2, 3])) (hl : Mat W vl [[-1, 1]]) => combine_w vp vl [2, 3] [[-1, 1]] 2 W (he.ext hE) hp hl (by simp) (fun i => by
    match i with
    | 0 => simp
    | k + 1 => simp) (by decide +kernel) (.inr (by omega)) (by omega) (by decide +kernel)
  have hsame := fun W va vb x y (h1 : Mat W va x) (h2 : Mat W vb y) (h3 : x.length ≤ 1000000) (h4 : y.length ≤ 1000000) (h5 : ∀ i, (x.getD i []).length ≤ 1000000) (h6 : ∀ i, (y.getD i []).length ≤ 1000000) => same16_c va vb x y W h1 h2 h3 h4 h5 h6
  have Hlist := Lib.hid hlist; have Hleast := Lib.hid hleast; have Hcomb := Lib.hid hcomb; have Hsame := Lib.hid hsame
  clear hlist hleast hcomb hsame he
  obtain ⟨h0, h1, h2, hE0⟩ := alloc3 w (.cells #[.int .i64 2, .int .i64 3, .int .i64 5] 3) (.cells #[.int .i64 (-2), .int .i64 0, .int .i64 1] 3) (.cells #[.slice (some ⟨w.heap.size, 0, none⟩) 3 3, .int .i64 10, .slice (some ⟨w.heap.size + 1, 0, none⟩) 3 3] 32)
  have hp0 := sl_of (n := 3) (i64s (ints (tenP 0))) h0 rfl rfl (by omega)
  have hx0 := sl_of (n := 3) (i64s [-2, 0, 1]) h1 rfl rfl (by omega)
  have Hp0 := Lib.hid hp0; have Hx0 := Lib.hid hx0; have HE0 := Lib.hid hE0; have Hb0 := Lib.hid h2; clear hp0 hx0 hE0 h0 h1 h2
  go_enter Tryz.func13, Tryz.ntmps13
  go_wp2_with fail
  refine (Hlist.out _ _ _ HE0.out Hp0.out Hx0.out).mono ?_
  rintro e W1 ⟨v1, rs1, rfl, hrs1, hm1, hx1⟩
  obtain ⟨a1, c1, rfl⟩ := own_shape hrs1.1
  obtain ⟨hc0, hc1, hc2⟩ := box3 (hx1.heap Hb0.out)
  have hE1 := HE0.out.trans hx1
  have hp1 := hx1.sl Hp0.out
  have hv1 := hx1.sl Hx0.out
  have hmat1 := hrs1.mat
  rw [hm1, k_rows] at hmat1
  have Hrs1 := Lib.hid hmat1; have HE1 := Lib.hid hE1; have Hp1 := Lib.hid hp1; have Hv1 := Lib.hid hv1; clear hrs1 hm1 hx1 hE1 hp1 hv1 hmat1
  go_wp2_with fail
  refine (Hleast.out W1 _ _ HE1.out Hp1.out Hv1.out).mono ?_
  rintro e W2 ⟨v2, rs2, F, rfl, hF, hrs2, hx2⟩
  obtain ⟨a2, c2, rfl⟩ := own_shape hrs2.1
  have hmat2 := hrs2.mat
  rw [k_least hF] at hmat2
  have hE2 := HE1.out.trans hx2
  have hrs12 := hx2.mat Hrs1.out
  have Hrs2 := Lib.hid hmat2; have HE2 := Lib.hid hE2; have Hrs12 := Lib.hid hrs12; clear hrs2 hF hx2 hE2 hrs12 hmat2
  obtain ⟨h0, h1, h2, hE3⟩ := alloc3 W2 (.cells #[.int .i64 2, .int .i64 3] 3) (.cells #[.int .i64 (-1), .int .i64 1] 3) (.cells #[.slice (some ⟨W2.heap.size + 1, 0, none⟩) 2 2] 30)
  have hp3 := sl_of (n := 2) (i64s [2, 3]) h0 rfl rfl (by omega)
  have hx3 := sl_of (n := 2) (i64s [-1, 1]) h1 rfl rfl (by omega)
  have hm3 := mat_block (us := [.slice (some ⟨W2.heap.size + 1, 0, none⟩) 2 2]) (l := [[-1, 1]]) h2 rfl (by simp [maxLen]) (fun i u hu => by
    match i, hu with
    | 0, hu => simp at hu; subst hu; exact hx3
    | k + 1, hu => simp at hu)
  have Hp3 := Lib.hid hp3; have Hm3 := Lib.hid hm3; have HE3 := Lib.hid hE3; clear hp3 hx3 hm3 hE3 h0 h1 h2
  go_wp2_with fail
  refine (Hcomb.out _ _ _ (HE2.out.trans HE3.out) Hp3.out Hm3.out).mono ?_
  rintro e W4 (⟨⟨z, hz, hbad⟩, _⟩ | ⟨_, v4, rs4, rfl, hrs4, hcomb, hx4⟩)
  · exact absurd (k_good z hz) hbad
  obtain ⟨a4, c4, rfl⟩ := own_shape hrs4.1
  have hmat4 := hrs4.mat
  rw [k_comb hcomb] at hmat4
  have hE4 := (HE2.out.trans HE3.out).trans hx4
  have hr1 := hx4.mat (HE3.out.mat Hrs12.out)
  have hr2 := hx4.mat (HE3.out.mat Hrs2.out)
  have HE4 := Lib.hid hE4; have Hr1 := Lib.hid hr1; have Hr2 := Lib.hid hr2; have Hr4 := Lib.hid hmat4; clear hrs4 hcomb hx4 hE4 hr1 hr2 hmat4
  obtain ⟨hl1, hl1e⟩ := lit_mat W4 [[-2, 0, 1], [1, 1, -1], [-3, 2, 0], [1, -2, 1]] (by simp) (by decide)
  have Hl1 := Lib.hid hl1; have Hl1e := Lib.hid hl1e; clear hl1 hl1e
  go_wp2_with fail
  refine (Hsame.out (litW W4 [[-2, 0, 1], [1, 1, -1], [-3, 2, 0], [1, -2, 1]]) _ _ _ _ (Hl1e.out.mat Hr1.out) Hl1.out (by simp) (by simp) (small_rows (by decide)) (small_rows (by decide))).mono ?_
  rintro e W5 ⟨rfl, hq5⟩
  have hE5 := Hl1e.out.trans hq5.ext
  have HE5 := Lib.hid hE5; clear hE5 hq5
  obtain ⟨hl2, hl2e⟩ := lit_mat W5 [[1, -2, 1], [-3, 2, 0]] (by simp) (by decide)
  have Hl2 := Lib.hid hl2; have Hl2e := Lib.hid hl2e; clear hl2 hl2e
  go_wp2_with fail
  refine (Hsame.out (litW W5 [[1, -2, 1], [-3, 2, 0]]) _ _ _ _ (Hl2e.out.mat (HE5.out.mat Hr2.out)) Hl2.out (by simp) (by simp) (small_rows (by decide)) (small_rows (by decide))).mono ?_
  rintro e W6 ⟨rfl, hq6⟩
  have hE6 := Hl2e.out.trans hq6.ext
  have HE6 := Lib.hid hE6; clear hE6 hq6
  obtain ⟨hl3, hl3e⟩ := lit_mat W6 [[-2, 2], [-1, 1]] (by simp) (by decide)
  have Hl3 := Lib.hid hl3; have Hl3e := Lib.hid hl3e; clear hl3 hl3e
  go_wp2_with fail
  refine (Hsame.out (litW W6 [[-2, 2], [-1, 1]]) _ _ _ _ (Hl3e.out.mat (HE6.out.mat (HE5.out.mat Hr4.out))) Hl3.out (by simp) (by simp) (small_rows (by decide)) (small_rows (by decide))).mono ?_
  rintro e W7 ⟨rfl, hq7⟩
  have hE7 := Hl3e.out.trans hq7.ext
  have HE7 := Lib.hid hE7; clear hE7 hq7
  go_wp2
  go_ret
  exact ⟨rfl, ((HE4.out.trans HE5.out).trans HE6.out).trans HE7.out⟩

end Go.Proofs.YtkamjjjimbbdmaaGreatDoor

namespace Go.Proofs.YtkamjjjimbbdmaaGreatDoor
open Go.RowKit Go.Lib Go.Shelf Go.Sort

theorem ten_primes (n : Nat) : primesErr (ints (tenP n)) = 0 := by
  have h : (tenL.all fun p => decide (primesErr (ints p) = 0)) = true := by decide +kernel
  exact of_decide_eq_true ((List.all_eq_true.1 h) _ (ten_mem n))
theorem row_fine {n : Nat} {x : List Int} (hl : x.length = n) (h : ∀ i, i < x.length → -1000 ≤ nthI x i ∧ nthI x i ≤ 1000) : rowErr n x = 0 := by
  unfold rowErr
  rw [if_neg (by simpa using hl), any_far_no (fun k hk => far_no (by have := h k hk; omega) (by have := h k hk; omega))]
  rfl
theorem plan_one (n : Nat) (l : List Int) : oneErr (ints (tenP n)) (planX n l) = 0 := by
  have hr : rowErr (ints (tenP n)).length (planX n l) = 0 := row_fine (by unfold planX; rw [ivl_length, ints_length]) fun i hi => by
    unfold planX at hi ⊢
    rw [ivl_length] at hi
    have := tmod_ten (nthI l i)
    rw [nthI_ivl hi]; omega
  unfold oneErr allErr
  rw [ten_primes, if_neg (by simp), rowsErr, hr, if_neg (by simp)]
  rfl
theorem plan_ask (n h : Nat) (l : List Int) (hgt : denP (ints (tenP n)) (planX n l) < numP (ints (tenP n)) (planX n l)) : askErr (ints (tenP n)) ((1 + h % 130 : Nat) : Int) (planX n l) = 0 := by
  have hs : signP (ints (tenP n)) (planX n l) = 1 := by
    unfold signP
    rw [plan_one, if_neg (by simp), cmpI_gt (by omega)]
  have h2 : h % 130 < 130 := Nat.mod_lt _ (by omega)
  unfold askErr
  rw [plan_one, if_neg (by simp), if_neg (by omega), hs, if_neg (by omega)]
theorem listerTen_c (m H : Nat) (vp vx : Value) (x : List Int) (w : World) (he : Env w) (hp : Sl w vp (i64s (ints (tenP m)))) (hx : Sl w vx (i64s x)) (hn : Nice (ints (tenP m)) x) (hlen : x.length = (ints (tenP m)).length) (h1 : 1 ≤ H) (hH : H ≤ 130) :
    Calls Tryz.prog 15 #[.agg #[vp, .int .i64 H, vx]] w fun e w' => ∃ v u rs, e = .returned (.tuple #[v, u]) ∧ RwL w' w.heap.size v rs ∧ PrL w' w.heap.size u ((wall (numP (ints (tenP m)) x) (denP (ints (tenP m)) x) (tenP m) H).map (·.2)) ∧ rs.map Rw.x = rowsOf (numP (ints (tenP m)) x) (denP (ints (tenP m)) x) (tenP m) H ∧ Ext w w' :=
  lister_c vp vx (tenP m) x H w he hp hx hn hlen (by have := ten_len m; omega) (fun i hi => by have := ten_q m i hi; omega) h1 (by omega)
theorem plan_len (n : Nat) (l : List Int) : (planX n l).length = (ints (tenP n)).length := by unfold planX; rw [ivl_length, ints_length]

set_option maxRecDepth 100000 in
set_option maxHeartbeats 4000000 in
theorem lists_c (n h : Nat) (a b c d : Int) (w : World) (he : Env w) (hn : n < 256) (hh : h < 256) (hr : ∀ z ∈ [a, b, c, d], -128 ≤ z ∧ z ≤ 127) :
    Calls Tryz.prog 3 #[.agg #[.int .u8 n, .int .i8 a, .int .i8 b, .int .i8 c, .int .i8 d, .int .u8 h]] w fun e w' => e = .returned (.bool true) ∧ Ext w w' := by
  have hmk := fun W (hE : Ext w W) => make16_c n h a b c d W (he.ext hE) hn hh hr
  have hkn := fun W (hE : Ext w W) => known_c W (he.ext hE)
  have hm2 : h % 130 < 130 := Nat.mod_lt _ (by omega)
  have hlist := fun W vp vx (hE : Ext w W) (hp : Sl W vp (i64s (ints (tenP n)))) (hx : Sl W vx (i64s (planX n [a, b, c, d]))) (hgt : denP (ints (tenP n)) (planX n [a, b, c, d]) < numP (ints (tenP n)) (planX n [a, b, c, d])) =>
    listTen_c n (1 + h % 130) vp vx (planX n [a, b, c, d]) W (he.ext hE) hp hx (by omega) (by omega) (plan_ask n h _ hgt)
  have hown := fun W vp vx (hE : Ext w W) (hp : Sl W vp (i64s (ints (tenP n)))) (hx : Sl W vx (i64s (planX n [a, b, c, d]))) =>
    listerTen_c n (1 + h % 130) vp vx (planX n [a, b, c, d]) W (he.ext hE) hp hx (plan_nice n _) (plan_len n _) (by omega) (by omega)
  have hsame := fun W va vb x y (h1 : Mat W va x) (h2 : Mat W vb y) (h3 : x.length ≤ 1000000) (h4 : y.length ≤ 1000000) (h5 : ∀ i, (x.getD i []).length ≤ 1000000) (h6 : ∀ i, (y.getD i []).length ≤ 1000000) => same16_c va vb x y W h1 h2 h3 h4 h5 h6
  have hrl := rows_len2 (num := numP (ints (tenP n)) (planX n [a, b, c, d])) (den := denP (ints (tenP n)) (planX n [a, b, c, d])) (m := n) (H := 1 + h % 130) (by omega)
  have hrr : ∀ r ∈ rowsOf (numP (ints (tenP n)) (planX n [a, b, c, d])) (denP (ints (tenP n)) (planX n [a, b, c, d])) (tenP n) (1 + h % 130), r.length ≤ 1000 := fun r hr => by
    have h1 := rows_fact (by omega) r hr
    have h2 := ten_len n
    omega
  generalize rowsOf (numP (ints (tenP n)) (planX n [a, b, c, d])) (denP (ints (tenP n)) (planX n [a, b, c, d])) (tenP n) (1 + h % 130) = R at *
  by_cases hgt : denP (ints (tenP n)) (planX n [a, b, c, d]) < numP (ints (tenP n)) (planX n [a, b, c, d])
  · have hlist2 := fun W vp vx hE hp hx => hlist W vp vx hE hp hx hgt
    rw [decide_eq_true hgt] at hmk
    clear hlist
    generalize 1 + h % 130 = q at *
    have Hmk := Lib.hid hmk; have Hkn := Lib.hid hkn; have Hlist := Lib.hid hlist2; have Hown := Lib.hid hown; have Hsame := Lib.hid hsame; have Hrl := Lib.hid hrl; have Hrr := Lib.hid hrr
    clear hmk hkn hlist2 hown hsame hrl hrr hr hgt he
    have hE0 : Ext w (w.alloc (.cells #[.int .u8 n, .int .i8 a, .int .i8 b, .int .i8 c, .int .i8 d, .int .u8 h] 27)) := (Ext.refl w).alloc _
    have HE0 := Lib.hid hE0; clear hE0
    go_enter Tryz.func3, Tryz.ntmps3
    go_wp2_with fail
    generalize w.alloc (.cells #[.int .u8 n, .int .i8 a, .int .i8 b, .int .i8 c, .int .i8 d, .int .u8 h] 27) = W0 at *
    refine (Hmk.out W0 HE0.out).mono ?_
    rintro e W1 ⟨vp, vx, rfl, hvp, hvx, hx1⟩
    obtain ⟨ap, cp, rfl⟩ := own_shape hvp
    obtain ⟨ax, cx, rfl⟩ := own_shape hvx
    have hE1 := HE0.out.trans hx1
    have Hvp := Lib.hid hvp.sl; have Hvx := Lib.hid hvx.sl; have HE1 := Lib.hid hE1; clear hvp hvx hx1 hE1
    have hbq := World.alloc_heap_new W1 (.cells #[.slice ap (ints (tenP n)).length cp, .int .i64 (q : Int), .slice ax (planX n [a, b, c, d]).length cx] 32)
    have hE2 : Ext W1 (W1.alloc (.cells #[.slice ap (ints (tenP n)).length cp, .int .i64 (q : Int), .slice ax (planX n [a, b, c, d]).length cx] 32)) := (Ext.refl W1).alloc _
    have Hbq := Lib.hid hbq; have HE2 := Lib.hid hE2; clear hbq hE2
    go_wp2_with fail
    generalize W1.alloc (.cells #[.slice ap (ints (tenP n)).length cp, .int .i64 (q : Int), .slice ax (planX n [a, b, c, d]).length cx] 32) = W2 at *
    refine (Hkn.out W2 (HE1.out.trans HE2.out)).mono ?_
    rintro e W3 ⟨rfl, hx3⟩
    have hE23 := HE2.out.trans hx3
    obtain ⟨hc0, hc1, hc2⟩ := box3 (hx3.heap Hbq.out)
    have HE23 := Lib.hid hE23; have Hbq3 := Lib.hid (hx3.heap Hbq.out); clear hE23 hx3
    go_wp2_with fail
    refine (Hlist.out W3 _ _ (HE1.out.trans HE23.out) (HE23.out.sl Hvp.out) (HE23.out.sl Hvx.out)).mono ?_
    rintro e W4 ⟨v4, rs4, rfl, hrs4, hm4, hx4⟩
    obtain ⟨a4, c4, rfl⟩ := own_shape hrs4.1
    have hmat4 := hrs4.mat
    rw [hm4] at hmat4
    obtain ⟨hd0, hd1, hd2⟩ := box3 (hx4.heap Hbq3.out)
    have hE4 := HE23.out.trans hx4
    have HE4 := Lib.hid hE4; have Hmat4 := Lib.hid hmat4; clear hrs4 hm4 hx4 hE4 hmat4
    go_wp2_with fail
    refine (Hown.out W4 _ _ (HE1.out.trans HE4.out) (HE4.out.sl Hvp.out) (HE4.out.sl Hvx.out)).mono ?_
    rintro e W5 ⟨v5, u5, rs5, rfl, hrs5, hu5, hm5, hx5⟩
    obtain ⟨a5, c5, rfl⟩ := own_shape hrs5.1
    obtain ⟨b5, d5, rfl⟩ := own_shape hu5
    have hmat5 := hrs5.mat
    rw [hm5] at hmat5
    have hE5 := HE4.out.trans hx5
    have hmat45 := hx5.mat Hmat4.out
    have HE5 := Lib.hid hE5; have Hmat5 := Lib.hid hmat5; have Hmat45 := Lib.hid hmat45; clear hrs5 hm5 hx5 hE5 hmat5 hmat45 hu5
    go_wp2_with fail
    refine (Hsame.out W5 _ _ R R Hmat45.out Hmat5.out (by have := Hrl.out; omega) (by have := Hrl.out; omega) (small_rows Hrr.out) (small_rows Hrr.out)).mono ?_
    rintro e W6 ⟨rfl, hq6⟩
    have HE6 := Lib.hid (HE5.out.trans hq6.ext); clear hq6
    have hdd : decide (R = R) = true := decide_eq_true rfl
    rw [hdd]
    go_wp2
    go_ret
    exact ⟨rfl, HE1.out.trans HE6.out⟩
  · rw [decide_eq_false hgt] at hmk
    clear hlist hown hsame hrl hrr
    generalize 1 + h % 130 = q at *
    have Hmk := Lib.hid hmk; have Hkn := Lib.hid hkn
    clear hmk hkn hr hgt he
    have hE0 : Ext w (w.alloc (.cells #[.int .u8 n, .int .i8 a, .int .i8 b, .int .i8 c, .int .i8 d, .int .u8 h] 27)) := (Ext.refl w).alloc _
    have HE0 := Lib.hid hE0; clear hE0
    go_enter Tryz.func3, Tryz.ntmps3
    go_wp2_with fail
    generalize w.alloc (.cells #[.int .u8 n, .int .i8 a, .int .i8 b, .int .i8 c, .int .i8 d, .int .u8 h] 27) = W0 at *
    refine (Hmk.out W0 HE0.out).mono ?_
    rintro e W1 ⟨vp, vx, rfl, hvp, hvx, hx1⟩
    obtain ⟨ap, cp, rfl⟩ := own_shape hvp
    obtain ⟨ax, cx, rfl⟩ := own_shape hvx
    have hE1 := HE0.out.trans hx1
    have hE2 : Ext w (W1.alloc (.cells #[.slice ap (ints (tenP n)).length cp, .int .i64 (q : Int), .slice ax (planX n [a, b, c, d]).length cx] 32)) := hE1.alloc _
    have HE2 := Lib.hid hE2; clear hvp hvx hx1 hE1 hE2
    go_wp2_with fail
    generalize W1.alloc (.cells #[.slice ap (ints (tenP n)).length cp, .int .i64 (q : Int), .slice ax (planX n [a, b, c, d]).length cx] 32) = W2 at *
    refine (Hkn.out W2 HE2.out).mono ?_
    rintro e W3 ⟨rfl, hx3⟩
    have HE3 := Lib.hid (HE2.out.trans hx3); clear hx3
    go_wp2_with fail
    refine (Hkn.out W3 HE3.out).mono ?_
    rintro e W4 ⟨rfl, hx4⟩
    have HE4 := Lib.hid (HE3.out.trans hx4); clear hx4
    go_wp2
    go_ret
    exact ⟨rfl, HE4.out⟩

end Go.Proofs.YtkamjjjimbbdmaaGreatDoor
