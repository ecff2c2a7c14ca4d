/- Plain law: the sums in the law's order, and its insertion. -/
import Derived.Test.YtkamjjjimbbdmaaGreatDoorOrdA
namespace Go.Proofs.YtkamjjjimbbdmaaGreatDoor
open Go.RowKit Go.Lib

/-- The law's insertion. -/
def insX (x : List Int) : List (List Int) → List (List Int)
  | [] => [x]
  | y :: r => if cmpL x y = 0 then y :: r else if cmpL x y < 0 then x :: y :: r else y :: insX x r
theorem insX_skip {x : List Int} {b : List (List Int)} : ∀ {a : List (List Int)}, (∀ y ∈ a, 0 < cmpL x y) → insX x (a ++ b) = a ++ insX x b
  | [], _ => rfl
  | y :: r, h => by
    have h1 := h y (List.mem_cons_self ..)
    rw [List.cons_append, insX, if_neg (by omega), if_neg (by omega), insX_skip fun z hz => h z (List.mem_cons_of_mem _ hz)]
    rfl
theorem insX_mem {x z : List Int} : ∀ {l : List (List Int)}, z ∈ insX x l ↔ z = x ∨ z ∈ l
  | [] => by simp [insX]
  | y :: r => by
    rw [insX]
    split
    · rename_i h
      have := cmpL_eq h
      subst this
      simp
    · split
      · simp
      · rw [List.mem_cons, insX_mem, List.mem_cons]
        exact ⟨fun h => by rcases h with h | h | h <;> simp [h], fun h => by rcases h with h | h | h <;> simp [h]⟩
theorem insX_len {x : List Int} : ∀ {l : List (List Int)}, (insX x l).length ≤ l.length + 1
  | [] => by simp [insX]
  | y :: r => by
    rw [insX]
    split
    · simp
    · split
      · simp
      · have := insX_len (x := x) (l := r)
        simp only [List.length_cons]; omega
theorem insX_sorted {x : List Int} : ∀ {l : List (List Int)}, l.Pairwise (fun a b => cmpL a b < 0) → (insX x l).Pairwise (fun a b => cmpL a b < 0)
  | [], _ => by simp [insX]
  | y :: r, h => by
    rw [insX]
    split
    · exact h
    · rename_i h0
      obtain ⟨h1, h2⟩ := List.pairwise_cons.1 h
      split
      · rename_i h3
        refine List.pairwise_cons.2 ⟨fun z hz => ?_, h⟩
        rcases List.mem_cons.1 hz with rfl | hz
        · exact h3
        · exact cmpL_trans h3 (h1 z hz)
      · rename_i h3
        refine List.pairwise_cons.2 ⟨fun z hz => ?_, insX_sorted h2⟩
        rcases insX_mem.1 hz with rfl | hz
        · rw [cmpL_swap]; omega
        · exact h1 z hz
/-- Two strictly sorted lists with the same members are one. -/
theorem strict_uniq : ∀ {l m : List (List Int)}, l.Pairwise (fun a b => cmpL a b < 0) → m.Pairwise (fun a b => cmpL a b < 0) → (∀ z, z ∈ l ↔ z ∈ m) → l = m
  | [], [], _, _, _ => rfl
  | [], y :: m, _, _, h => absurd ((h y).2 (List.mem_cons_self ..)) (by simp)
  | x :: l, [], _, _, h => absurd ((h x).1 (List.mem_cons_self ..)) (by simp)
  | x :: l, y :: m, h1, h2, h => by
    obtain ⟨a1, a2⟩ := List.pairwise_cons.1 h1
    obtain ⟨b1, b2⟩ := List.pairwise_cons.1 h2
    have e : x = y := by
      rcases List.mem_cons.1 ((h x).1 (List.mem_cons_self ..)) with e | g
      · exact e
      · rcases List.mem_cons.1 ((h y).2 (List.mem_cons_self ..)) with e | g2
        · exact e.symm
        · have c1 := b1 x g
          have c2 := a1 y g2
          rw [cmpL_swap] at c1
          omega
    subst e
    have irr : ∀ z, ¬ cmpL z z < 0 := fun z => by rw [cmpL_refl]; omega
    rw [strict_uniq a2 b2 fun z => ⟨fun hz => by
      rcases List.mem_cons.1 ((h z).1 (List.mem_cons_of_mem _ hz)) with e | g
      · subst e; exact absurd (a1 _ hz) (irr _)
      · exact g, fun hz => by
      rcases List.mem_cons.1 ((h z).2 (List.mem_cons_of_mem _ hz)) with e | g
      · subst e; exact absurd (b1 _ hz) (irr _)
      · exact g⟩]
theorem cmpL_le_lt {x y z : List Int} (h1 : cmpL x y ≤ 0) (h2 : cmpL y z < 0) : cmpL x z < 0 := by
  rcases Int.lt_or_eq_of_le h1 with h | h
  · exact cmpL_trans h h2
  · rw [cmpL_eq h]; exact h2
theorem cp_strict {s : List (List Int)} (h : s.Pairwise (fun a b => cmpL a b ≤ 0)) : ∀ m, m ≤ s.length → (cpTo id s m).Pairwise (fun a b => cmpL a b < 0) ∧ ∀ z, z ∈ cpTo id s m ↔ z ∈ s.take m
  | 0, _ => by simp [cpTo]
  | m + 1, hm => by
    obtain ⟨h1, h2⟩ := cp_strict h m (by omega)
    have hg : s[m]? = some s[m] := List.getElem?_eq_getElem (by omega)
    have ht : s.take (m + 1) = s.take m ++ [s[m]] := by rw [List.take_add_one, hg]; rfl
    have hd : (s.drop m).take 1 = [s[m]] := by rw [List.drop_eq_getElem_cons (by omega)]; rfl
    have hP := List.pairwise_iff_getElem.1 h
    rw [cpTo, ht, hd, List.map_id]
    by_cases hk : keepAt s m = true
    · rw [if_pos hk]
      refine ⟨List.pairwise_append.2 ⟨h1, by simp, fun z hz y hy => ?_⟩, fun z => by rw [List.mem_append, List.mem_append, h2]⟩
      obtain rfl : y = s[m] := by simpa using hy
      have hz := (h2 z).1 hz
      obtain ⟨i, hi, rfl⟩ := List.getElem_of_mem hz
      rw [List.length_take] at hi
      rw [List.getElem_take]
      unfold keepAt at hk
      rcases Nat.eq_zero_or_pos m with h0 | h0
      · omega
      · obtain ⟨j, rfl⟩ : ∃ j, m = j + 1 := ⟨m - 1, by omega⟩
        have hne : s[j + 1] ≠ s[j] := by
          have := hk
          simp only [Nat.add_sub_cancel, Bool.or_eq_true, beq_iff_eq, decide_eq_true_eq] at this
          rcases this with h | h
          · omega
          · rw [List.getD_eq_getElem?_getD, List.getD_eq_getElem?_getD, hg, List.getElem?_eq_getElem (by omega)] at h
            exact h
        have c1 := hP j (j + 1) (by omega) (by omega) (by omega)
        have c2 : cmpL s[j] s[j + 1] < 0 := by
          rcases Int.lt_or_eq_of_le c1 with h | h
          · exact h
          · exact absurd (cmpL_eq h).symm hne
        rcases Nat.lt_or_ge i j with h | h
        · exact cmpL_le_lt (hP i j (by omega) (by omega) h) c2
        · obtain rfl : i = j := by omega
          exact c2
    · rw [if_neg hk, List.append_nil]
      refine ⟨h1, fun z => ?_⟩
      rw [List.mem_append, h2]
      refine ⟨.inl, fun hz => ?_⟩
      rcases hz with hz | hz
      · exact hz
      · obtain rfl : z = s[m] := by simpa using hz
        unfold keepAt at hk
        simp only [Bool.or_eq_true, beq_iff_eq, decide_eq_true_eq] at hk
        have h0 : m ≠ 0 := fun h => hk (.inl h)
        obtain ⟨j, rfl⟩ : ∃ j, m = j + 1 := ⟨m - 1, by omega⟩
        have he : s[j + 1] = s[j] := by
          have := Classical.not_not.1 fun h => hk (.inr h)
          simp only [Nat.add_sub_cancel] at this
          rw [List.getD_eq_getElem?_getD, List.getD_eq_getElem?_getD, hg, List.getElem?_eq_getElem (by omega)] at this
          exact this
        rw [he]
        exact List.mem_iff_getElem.2 ⟨j, by rw [List.length_take]; omega, by rw [List.getElem_take]⟩

/-- The law's sum number k of the first i rows. -/
def zTo (m : Nat) (l : List (List Int)) (L k : Nat) : Nat → List Int
  | 0 => List.replicate L 0
  | i + 1 => addK (zTo m l L k i) (l.getD i []) (((k / pw m i % (2 * m + 1) : Nat) : Int) - (m : Int))
theorem pw_pos (m i : Nat) : 0 < pw m i := Nat.pow_pos (by omega)
theorem zTo_len (m : Nat) (l : List (List Int)) (L k : Nat) : ∀ i, (zTo m l L k i).length = L
  | 0 => by simp [zTo]
  | i + 1 => by rw [zTo, addK_length, zTo_len]
theorem pw_split (m : Nat) {j i : Nat} (h : j < i) : pw m i = pw m j * ((2 * m + 1) * pw m (i - j - 1)) := by
  unfold pw
  rw [← Nat.mul_assoc, ← Nat.pow_succ, ← Nat.pow_add]
  congr 1; omega
theorem zTo_mod (m : Nat) (l : List (List Int)) (L a s i : Nat) : ∀ j, j ≤ i → zTo m l L (a + s * pw m i) j = zTo m l L a j
  | 0, _ => rfl
  | j + 1, hj => by
    rw [zTo, zTo, zTo_mod m l L a s i j (by omega)]
    have : (a + s * pw m i) / pw m j % (2 * m + 1) = a / pw m j % (2 * m + 1) := by
      rw [pw_split m (show j < i by omega), show a + s * (pw m j * ((2 * m + 1) * pw m (i - j - 1))) = a + pw m j * ((2 * m + 1) * (s * pw m (i - j - 1))) by
        rw [Nat.mul_left_comm s (pw m j), Nat.mul_left_comm s (2 * m + 1)], Nat.add_mul_div_left _ _ (pw_pos m j), Nat.add_mul_mod_self_left]
    rw [this]
theorem fan_mem {m : Nat} {x y z : List Int} : z ∈ fan m x y (2 * m + 1) ↔ ∃ s, s < 2 * m + 1 ∧ z = addK y x ((s : Int) - (m : Int)) := by
  unfold fan
  rw [List.mem_map]
  exact ⟨fun ⟨s, h, e⟩ => ⟨s, List.mem_range.1 h, e.symm⟩, fun ⟨s, h, e⟩ => ⟨s, List.mem_range.2 h, e.symm⟩⟩
theorem comb_mem (m : Nat) (l : List (List Int)) (L : Nat) : ∀ i, i ≤ l.length → ∀ z, z ∈ combAll m (l.take i) [List.replicate L 0] ↔ ∃ k, k < pw m i ∧ z = zTo m l L k i
  | 0, _, z => by
    rw [pw_zero]
    simp only [List.take_zero, combAll, List.foldl_nil, List.mem_singleton, zTo]
    exact ⟨fun h => ⟨0, by omega, h⟩, fun ⟨_, _, h⟩ => h⟩
  | i + 1, hi, z => by
    have hg : l[i]? = some (l.getD i []) := by rw [List.getD_eq_getElem?_getD, List.getElem?_eq_getElem (by omega)]; rfl
    rw [List.take_add_one, hg, Option.toList_some, combAll_snoc, spread, List.mem_flatMap]
    have ih := comb_mem m l L i (by omega)
    constructor
    · rintro ⟨y, hy, hz⟩
      obtain ⟨k', hk', rfl⟩ := (ih y).1 hy
      obtain ⟨s, hs, rfl⟩ := fan_mem.1 hz
      refine ⟨k' + s * pw m i, ?_, ?_⟩
      · rw [pw_succ]
        have : (s + 1) * pw m i ≤ (2 * m + 1) * pw m i := Nat.mul_le_mul_right _ hs
        rw [Nat.add_mul, Nat.one_mul] at this
        rw [Nat.mul_comm (pw m i)]
        omega
      · rw [zTo, zTo_mod m l L k' s i i (Nat.le_refl _), Nat.add_mul_div_right _ _ (pw_pos m i), Nat.div_eq_of_lt hk', Nat.zero_add, Nat.mod_eq_of_lt hs]
    · rintro ⟨k, hk, rfl⟩
      refine ⟨zTo m l L k i, (ih _).2 ⟨k % pw m i, Nat.mod_lt _ (pw_pos m i), ?_⟩, fan_mem.2 ⟨k / pw m i % (2 * m + 1), Nat.mod_lt _ (by omega), by rw [zTo]⟩⟩
      have e : k = k % pw m i + (k / pw m i) * pw m i := by rw [Nat.mul_comm]; exact (Nat.mod_add_div k (pw m i)).symm
      exact (congrArg (fun t => zTo m l L t i) e).trans (zTo_mod m l L (k % pw m i) (k / pw m i) i i (Nat.le_refl _))

/-- The law's list, sums before k. -/
def wantTo (p : List Int) (f : Nat → List Int) : Nat → List (List Int)
  | 0 => []
  | k + 1 => if 0 < signP p (f k) then insX (f k) (wantTo p f k) else wantTo p f k
theorem want_len (p : List Int) (f : Nat → List Int) : ∀ k, (wantTo p f k).length ≤ k
  | 0 => Nat.le_refl _
  | k + 1 => by
    have := want_len p f k
    rw [wantTo]
    split
    · have := insX_len (x := f k) (l := wantTo p f k); omega
    · omega
theorem want_sorted (p : List Int) (f : Nat → List Int) : ∀ k, (wantTo p f k).Pairwise (fun a b => cmpL a b < 0)
  | 0 => List.Pairwise.nil
  | k + 1 => by
    rw [wantTo]
    split
    · exact insX_sorted (want_sorted p f k)
    · exact want_sorted p f k
theorem want_mem (p : List Int) (f : Nat → List Int) (z : List Int) : ∀ k, z ∈ wantTo p f k ↔ ∃ i, i < k ∧ z = f i ∧ 0 < signP p z
  | 0 => by simp [wantTo]
  | k + 1 => by
    have ih := want_mem p f z k
    rw [wantTo]
    split
    · rename_i h
      rw [insX_mem, ih]
      constructor
      · rintro (rfl | ⟨i, h1, h2, h3⟩)
        · exact ⟨k, by omega, rfl, h⟩
        · exact ⟨i, by omega, h2, h3⟩
      · rintro ⟨i, h1, h2, h3⟩
        by_cases e : i = k
        · subst e; exact .inl h2
        · exact .inr ⟨i, by omega, h2, h3⟩
    · rename_i h
      rw [ih]
      constructor
      · rintro ⟨i, h1, h2, h3⟩; exact ⟨i, by omega, h2, h3⟩
      · rintro ⟨i, h1, h2, h3⟩
        by_cases e : i = k
        · subst e; rw [h2] at h3; exact absurd h3 h
        · exact ⟨i, by omega, h2, h3⟩
theorem comb_want {p : List Int} {m : Nat} {l : List (List Int)} {L : Nat} {out : List (List Int)} (h : CombOf p (combAll m l [List.replicate L 0]) out) :
    out = wantTo p (fun k => zTo m l L k l.length) (pw m l.length) := by
  obtain ⟨s, h1, h2, rfl⟩ := h
  obtain ⟨h3, h4⟩ := cp_strict h2 s.length (Nat.le_refl _)
  refine strict_uniq h3 (want_sorted _ _ _) fun z => ?_
  rw [h4, List.take_length, h1.mem_iff, want_mem]
  unfold posOf
  have hc := comb_mem m l L l.length (Nat.le_refl _) z
  rw [List.take_length] at hc
  rw [List.mem_filter, hc]
  simp only [decide_eq_true_eq]
  exact ⟨fun ⟨⟨k, a, b⟩, c⟩ => ⟨k, a, b, c⟩, fun ⟨k, a, b, c⟩ => ⟨⟨k, a, b⟩, c⟩⟩

end Go.Proofs.YtkamjjjimbbdmaaGreatDoor
