/- Plain words for comma.Combine. -/
import Derived.Test.YtkamjjjimbbdmaaGreatDoorSortR
namespace Go.Proofs.YtkamjjjimbbdmaaGreatDoor
open Go.RowKit Go.Lib Go.Shelf Go.Sort

/-- A row and a multiple of another one. -/
def addK (y x : List Int) (k : Int) : List Int := (List.range y.length).map fun i => nthI y i + k * nthI x i
def addTo (y x : List Int) (k : Int) (t : Nat) : List Int := (List.range y.length).map fun i => if i < t then nthI y i + k * nthI x i else nthI y i
theorem addK_length (y x : List Int) (k : Int) : (addK y x k).length = y.length := by simp [addK]
theorem addTo_length (y x : List Int) (k : Int) (t : Nat) : (addTo y x k t).length = y.length := by simp [addTo]
theorem nthI_range {f : Nat → Int} {n i : Nat} (h : i < n) : nthI ((List.range n).map f) i = f i := by
  unfold nthI
  rw [List.getD_eq_getElem?_getD, List.getElem?_map, List.getElem?_range h]; rfl
theorem nthI_out {l : List Int} {i : Nat} (h : l.length ≤ i) : nthI l i = 0 := by
  unfold nthI
  rw [List.getD_eq_getElem?_getD, List.getElem?_eq_none h]; rfl
theorem ext_nth {a b : List Int} (hl : a.length = b.length) (h : ∀ i, i < a.length → nthI a i = nthI b i) : a = b := by
  refine Classical.byContradiction fun hn => ?_
  obtain ⟨i, hi, hne⟩ := ne_at hl hn
  exact hne (h i hi)
theorem addTo_zero (y x : List Int) (k : Int) : addTo y x k 0 = y := by
  refine ext_nth (addTo_length ..) fun i hi => ?_
  rw [addTo_length] at hi
  unfold addTo
  rw [nthI_range hi, if_neg (by omega)]
theorem addTo_full (y x : List Int) (k : Int) : addTo y x k y.length = addK y x k := by
  refine ext_nth (by rw [addTo_length, addK_length]) fun i hi => ?_
  rw [addTo_length] at hi
  unfold addTo addK
  rw [nthI_range hi, nthI_range hi, if_pos hi]
theorem nthI_set' (l : List Int) (i j : Nat) (z : Int) : nthI (l.set i z) j = if i = j ∧ i < l.length then z else nthI l j := by
  unfold nthI
  rw [List.getD_eq_getElem?_getD, List.getD_eq_getElem?_getD, List.getElem?_set]
  by_cases h : i = j
  · subst h
    by_cases g : i < l.length
    · simp [g]
    · simp [g]
  · simp [h]
theorem addTo_set (y x : List Int) (k : Int) {t : Nat} (ht : t < y.length) : (addTo y x k t).set t (nthI y t + k * nthI x t) = addTo y x k (t + 1) := by
  refine ext_nth (by rw [List.length_set, addTo_length, addTo_length]) fun i hi => ?_
  rw [List.length_set, addTo_length] at hi
  rw [nthI_set']
  by_cases h : t = i
  · subst h
    rw [if_pos ⟨rfl, by rw [addTo_length]; exact ht⟩]
    unfold addTo
    rw [nthI_range hi, if_pos (by omega)]
  · rw [if_neg (fun g => h g.1)]
    unfold addTo
    rw [nthI_range hi, nthI_range hi]
    by_cases g : i < t
    · rw [if_pos g, if_pos (by omega)]
    · rw [if_neg g, if_neg (by omega)]
theorem nthI_addTo (y x : List Int) (k : Int) {t i : Nat} (hi : i < y.length) (ht : t ≤ i) : nthI (addTo y x k t) i = nthI y i := by
  unfold addTo
  rw [nthI_range hi, if_neg (by omega)]

def fan (m : Nat) (x y : List Int) (t : Nat) : List (List Int) := (List.range t).map fun (s : Nat) => addK y x ((s : Int) - (m : Int))
theorem fan_succ (m : Nat) (x y : List Int) (t : Nat) : fan m x y (t + 1) = fan m x y t ++ [addK y x ((t : Int) - (m : Int))] := by
  unfold fan; rw [List.range_succ, List.map_append]; rfl
theorem fan_length (m : Nat) (x y : List Int) (t : Nat) : (fan m x y t).length = t := by simp [fan]
def spread (m : Nat) (x : List Int) (all : List (List Int)) : List (List Int) := all.flatMap fun y => fan m x y (2 * m + 1)
theorem spread_snoc (m : Nat) (x : List Int) (all : List (List Int)) (y : List Int) : spread m x (all ++ [y]) = spread m x all ++ fan m x y (2 * m + 1) := by
  simp [spread]
theorem spread_length (m : Nat) (x : List Int) (all : List (List Int)) : (spread m x all).length = all.length * (2 * m + 1) := by
  induction all with
  | nil => simp [spread]
  | cons y r ih =>
    rw [spread, List.flatMap_cons, List.length_append, fan_length, List.length_cons, Nat.add_mul]
    have : (List.flatMap (fun y => fan m x y (2 * m + 1)) r).length = r.length * (2 * m + 1) := ih
    omega
def combAll (m : Nat) (l : List (List Int)) (all : List (List Int)) : List (List Int) := l.foldl (fun a x => spread m x a) all
theorem combAll_snoc (m : Nat) (l : List (List Int)) (x : List Int) (all : List (List Int)) : combAll m (l ++ [x]) all = spread m x (combAll m l all) := by
  unfold combAll; rw [List.foldl_append]; rfl

/-- Rows of one length with small elements. -/
def Tame (L : Nat) (c : Int) (l : List (List Int)) : Prop := ∀ y ∈ l, y.length = L ∧ ∀ i, -c ≤ nthI y i ∧ nthI y i ≤ c
theorem mul_bd {k z m : Int} (h1 : -m ≤ k) (h2 : k ≤ m) (hz1 : -1000 ≤ z) (hz2 : z ≤ 1000) (h0 : 0 ≤ m) : -(m * 1000) ≤ k * z ∧ k * z ≤ m * 1000 := by
  have h3 : (k * z).natAbs ≤ m.natAbs * 1000 := by rw [Int.natAbs_mul]; exact Nat.mul_le_mul (by omega) (by omega)
  omega
theorem fan_tame {m L : Nat} {c : Int} {x y : List Int} (hm : m ≤ 10000) (hy : y.length = L ∧ ∀ i, -c ≤ nthI y i ∧ nthI y i ≤ c) (hx : ∀ i, -1000 ≤ nthI x i ∧ nthI x i ≤ 1000) (hc : 0 ≤ c) (t : Nat) (ht : t ≤ 2 * m + 1) : Tame L (c + 10000000) (fan m x y t) := by
  intro z hz
  unfold fan at hz
  obtain ⟨s, hs, rfl⟩ := List.mem_map.1 hz
  have hs := List.mem_range.1 hs
  refine ⟨by rw [addK_length]; exact hy.1, fun i => ?_⟩
  rcases Nat.lt_or_ge i y.length with h | h
  · unfold addK
    rw [nthI_range h]
    have h1 := hy.2 i
    have h2 := hx i
    have h3 := mul_bd (k := (s : Int) - (m : Int)) (z := nthI x i) (m := m) (by omega) (by omega) h2.1 h2.2 (by omega)
    omega
  · rw [nthI_out (by rw [addK_length]; exact h)]; omega
theorem spread_tame {m L : Nat} {c : Int} {x : List Int} {all : List (List Int)} (hm : m ≤ 10000) (hy : Tame L c all) (hx : ∀ i, -1000 ≤ nthI x i ∧ nthI x i ≤ 1000) (hc : 0 ≤ c) : Tame L (c + 10000000) (spread m x all) := by
  intro z hz
  obtain ⟨y, hy1, hz⟩ := List.mem_flatMap.1 hz
  exact fan_tame hm (hy y hy1) hx hc _ (Nat.le_refl _) z hz

theorem rowsErr_zero {n : Nat} : ∀ {l : List (List Int)}, rowsErr n l = 0 → ∀ x ∈ l, rowErr n x = 0
  | [], _, _, h => by cases h
  | a :: l, h, x, hx => by
    rw [rowsErr] at h
    by_cases g : rowErr n a = 0
    · rw [if_neg (by simpa using g)] at h
      rcases List.mem_cons.1 hx with rfl | hx
      · exact g
      · exact rowsErr_zero h x hx
    · rw [if_pos g] at h; exact absurd h g
theorem allErr_zero {p : List Int} {l : List (List Int)} (h : allErr p l = 0) : primesErr p = 0 ∧ ∀ x ∈ l, x.length = p.length ∧ ∀ i, -1000 ≤ nthI x i ∧ nthI x i ≤ 1000 := by
  unfold allErr at h
  by_cases h0 : primesErr p = 0
  · rw [if_neg (by simpa using h0)] at h
    refine ⟨h0, fun x hx => ?_⟩
    obtain ⟨h1, h2⟩ := rowErr_zero (rowsErr_zero h x hx)
    refine ⟨h1, fun i => ?_⟩
    rcases Nat.lt_or_ge i x.length with g | g
    · exact h2 i g
    · rw [nthI_out g]; omega
  · rw [if_pos h0] at h; exact absurd h h0

/-- What Combine makes of all sums. -/
def posOf (p : List Int) (all : List (List Int)) : List (List Int) := all.filter fun z => decide (0 < signP p z)
def CombOf (p : List Int) (all : List (List Int)) (out : List (List Int)) : Prop :=
  ∃ s : List (List Int), s.Perm (posOf p all) ∧ s.Pairwise (fun a b => cmpL a b ≤ 0) ∧ out = cpTo id s s.length

end Go.Proofs.YtkamjjjimbbdmaaGreatDoor
