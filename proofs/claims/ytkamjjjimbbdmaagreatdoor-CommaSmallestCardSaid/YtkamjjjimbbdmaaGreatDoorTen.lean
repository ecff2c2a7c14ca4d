/- List, Smallest at the plans' questions. -/
import Derived.Test.YtkamjjjimbbdmaaGreatDoorPlain
import Derived.Test.YtkamjjjimbbdmaaGreatDoorPlan
import Derived.Test.YtkamjjjimbbdmaaGreatDoorLeast
namespace Go.Proofs.YtkamjjjimbbdmaaGreatDoor
open Go.RowKit Go.Lib Go.Shelf Go.Sort

theorem ten_q (n : Nat) : ∀ i, i < (tenP n).length → 2 ≤ nth (tenP n) i ∧ nth (tenP n) i ≤ 13 := by
  have h : (tenL.all fun p => (List.range p.length).all fun i => decide (2 ≤ nth p i) && decide (nth p i ≤ 13)) = true := by decide +kernel
  have h1 := (List.all_eq_true.1 h) _ (ten_mem n)
  intro i hi
  have h2 := (List.all_eq_true.1 h1) i (List.mem_range.2 hi)
  rw [Bool.and_eq_true] at h2
  exact ⟨of_decide_eq_true h2.1, of_decide_eq_true h2.2⟩
theorem divs_le2 (q : Nat) : ∀ (f n : Nat), (divs q f n).1 ≤ n
  | 0, n => Nat.le_refl _
  | f + 1, n => by
    rw [divs]
    split
    · exact Nat.le_trans (divs_le2 q f (n / q)) (Nat.div_le_self _ _)
    · exact Nat.le_refl _
theorem expsR_bd : ∀ (p : List Nat) (n t : Nat), 0 ≤ nthI (expsR p n).1 t ∧ nthI (expsR p n).1 t ≤ n
  | [], n, t => by simp [expsR, nthI]
  | q :: r, n, 0 => by
    have := divs_cnt q n n
    simp [expsR, nthI]; omega
  | q :: r, n, t + 1 => by
    have h1 := expsR_bd r (divs q n n).1 t
    have h2 := divs_le2 q n n
    have e : nthI (expsR (q :: r) n).1 (t + 1) = nthI (expsR r (divs q n n).1).1 t := by simp [expsR, nthI]
    rw [e]; omega
theorem exps_bd {p : List Nat} {n : Nat} {x : List Int} (h : exps p n = some x) (t : Nat) : 0 ≤ nthI x t ∧ nthI x t ≤ n := by
  unfold exps at h
  split at h
  · rw [← Option.some.inj h]; exact expsR_bd p n t
  · cases h
/-- The intervals of a question as rows. -/
def rowsOf (num den : Nat) (p : List Nat) (H : Nat) : List (List Int) := (wall num den p H).map (·.1)
theorem rows_fact {num den m H : Nat} (hH : H ≤ 130) : ∀ r ∈ rowsOf num den (tenP m) H, Nice (ints (tenP m)) r ∧ numP (ints (tenP m)) r ≤ 130 ∧ denP (ints (tenP m)) r ≤ 130 ∧ 0 < denP (ints (tenP m)) r ∧ r.length = (tenP m).length ∧ denP (ints (tenP m)) r < numP (ints (tenP m)) r ∧ Nat.gcd (numP (ints (tenP m)) r) (denP (ints (tenP m)) r) = 1 := by
  intro r hr
  obtain ⟨e, he, rfl⟩ := List.mem_map.1 hr
  obtain ⟨x, y, h1, h2, h3, h4, h5, h6, h7, h8⟩ := wall_mem hH he
  obtain ⟨h9, h10⟩ := wall_parts hH he
  have hl : e.1.length = (tenP m).length := by rw [h3, diff_length]; exact exps_length h1
  have h4l := ten_len m
  refine ⟨⟨?_, ?_, fun i hi => ?_⟩, by omega, by omega, by omega, hl, by omega, by rw [h9, h10]; exact h7⟩
  · rw [hl, ints_length]; exact Nat.le_refl _
  · rw [hl]; omega
  · rw [hl] at hi
    have hq := ten_q m i hi
    rw [nthI_ints, h3, nthI_diff x y (by rw [exps_length h1, exps_length h2])]
    have b1 := exps_bd h1 i
    have b2 := exps_bd h2 i
    omega
theorem rows_len {num den m H : Nat} (hH : H ≤ 130) : (rowsOf num den (tenP m) H).length ≤ 16900 := by
  unfold rowsOf
  rw [List.length_map]
  have h1 := wall_length num den (tenP m) H
  have h2 : H * H ≤ 130 * 130 := Nat.mul_le_mul hH hH
  omega

theorem pairs_half (num den : Nat) (p : List Nat) : ∀ k, 2 * (wall num den p k).length ≤ k * k := by
  intro k
  induction k with
  | zero => simp [wall]
  | succ k ih =>
    rw [wall, List.length_append]
    have h1 : (wover num den p (k + 1) k).length ≤ k := by
      rw [wover]
      cases exps p (k + 1) with
      | none => simp
      | some x =>
        have col : ∀ j, (wcol num den p (k + 1) x j).length ≤ j := by
          intro j
          induction j with
          | zero => simp [wcol]
          | succ j ih =>
            have h : (wrow num den p (k + 1) x (j + 1)).length ≤ 1 := by
              rw [wrow]
              cases exps p (j + 1) with
              | none => simp
              | some y => simp only; split <;> simp
            rw [wcol, List.length_append]
            omega
        exact col k
    have h2 : (k + 1) * (k + 1) = k * k + k + k + 1 := by rw [Nat.add_mul, Nat.mul_add]; omega
    omega
theorem rows_len2 {num den m H : Nat} (hH : H ≤ 130) : (rowsOf num den (tenP m) H).length ≤ 8450 := by
  unfold rowsOf
  rw [List.length_map]
  have h1 := pairs_half num den (tenP m) H
  have h2 : H * H ≤ 130 * 130 := Nat.mul_le_mul hH hH
  omega

theorem listTen_c (m H : Nat) (vp vx : Value) (x : List Int) (w : World) (he : Env w) (hp : Sl w vp (i64s (ints (tenP m)))) (hx : Sl w vx (i64s x)) (h1 : 1 ≤ H) (hH : H ≤ 130) (hask : askErr (ints (tenP m)) H x = 0) :
    Calls Tryz.prog 14 #[.agg #[vp, .int .i64 H, vx]] w fun e w' => ∃ v rs, e = .returned (.tuple #[v, .int .i64 0]) ∧ RwL w' w.heap.size v rs ∧ rs.map Rw.x = rowsOf (numP (ints (tenP m)) x) (denP (ints (tenP m)) x) (tenP m) H ∧ Ext w w' := by
  obtain ⟨F, hF, hperm⟩ := ten_grow m h1 hH
  have hrows := lst_wall (num := numP (ints (tenP m)) x) (den := denP (ints (tenP m)) x) (ten_apart m hH) H (Nat.le_refl _)
  have hlen := hperm.length_eq
  have hsl := smooth_length (tenP m) H
  have hr2 := rows_len2 (num := numP (ints (tenP m)) x) (den := denP (ints (tenP m)) x) (m := m) hH
  unfold rowsOf at hr2 ⊢
  rw [← hrows] at hr2 ⊢
  exact list_w vp vx (tenP m) H 200 x F w he hp hx hask (fun i hi => by have := ten_q m i hi; omega) (by omega) hF (by omega) (smooth (tenP m) H) hperm (smooth_sorted _ _) (by omega)

theorem leastTen_c (m H c : Nat) (vp vx : Value) (x : List Int) (w : World) (he : Env w) (hp : Sl w vp (i64s (ints (tenP m)))) (hx : Sl w vx (i64s x)) (hxl : x.length ≤ 64) (h1 : 1 ≤ H) (hH : H ≤ 130) (hask : askErr (ints (tenP m)) H x = 0) (hc : c ≤ 100) :
    Calls Tryz.prog 17 #[.agg #[vp, .int .i64 H, vx], .int .i64 c] w fun e w' => ∃ v rs' F, e = .returned (.tuple #[v, .int .i64 0]) ∧ LeastOf (ints (tenP m)) (rowsOf (numP (ints (tenP m)) x) (denP (ints (tenP m)) x) (tenP m) H) c F rs' ∧ RwL w' w.heap.size v rs' ∧ Ext w w' := by
  have h4 := ten_len m
  have hr2 := rows_len2 (num := numP (ints (tenP m)) x) (den := denP (ints (tenP m)) x) (m := m) hH
  have := least_w vp vx (ints (tenP m)) x H c w he hp hx hask (by omega) (by omega) (by rw [ints_length]; omega) hxl (rowsOf (numP (ints (tenP m)) x) (denP (ints (tenP m)) x) (tenP m) H) (by omega)
    (fun r hr => by
      obtain ⟨a1, a2, a3, a4, _⟩ := rows_fact hH r hr
      exact ⟨a1, by omega, by omega, a4⟩)
    (fun W hE => listTen_c m H vp vx x W (he.ext hE) (hE.sl hp) (hE.sl hx) h1 hH hask)
  rw [Int.toNat_natCast] at this
  exact this

theorem perm_uniq {α : Type} {le lt : α → α → Prop} (hx : ∀ a b, le a b → lt b a → False) : ∀ {l m : List α}, l.Perm m → l.Pairwise le → m.Pairwise lt → l = m
  | l, [], h, _, _ => h.eq_nil
  | [], y :: m, h, _, _ => by have := h.length_eq; simp at this
  | x :: l, y :: m, h, h1, h2 => by
    have hy : y ∈ x :: l := h.mem_iff.2 (List.mem_cons_self ..)
    have hx' : x ∈ y :: m := h.mem_iff.1 (List.mem_cons_self ..)
    rw [List.pairwise_cons] at h1 h2
    have e : x = y := by
      rcases List.mem_cons.1 hx' with e | hx'
      · exact e
      · rcases List.mem_cons.1 hy with e | hy'
        · exact e.symm
        · exact (hx _ _ (h1.1 y hy') (h2.1 x hx')).elim
    subst e
    rw [perm_uniq hx (List.Perm.cons_inv h) h1.2 h2.2]

end Go.Proofs.YtkamjjjimbbdmaaGreatDoor
