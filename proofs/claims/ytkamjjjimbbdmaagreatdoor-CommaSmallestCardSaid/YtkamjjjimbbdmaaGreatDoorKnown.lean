/- The walk of known: the chapter's first example. -/
import Derived.Test.YtkamjjjimbbdmaaGreatDoorTen
import Derived.Test.YtkamjjjimbbdmaaGreatDoorCombine
import Derived.Test.YtkamjjjimbbdmaaGreatDoorLister
namespace Go.Proofs.YtkamjjjimbbdmaaGreatDoor
open Go.RowKit Go.Lib Go.Shelf Go.Sort

theorem RwL.mat {w : World} {B : Nat} {v : Value} {rs : List Rw} (h : RwL w B v rs) : Mat w v (rs.map Rw.x) := by
  refine ⟨rwc rs, by simp [rwc], sl_own h.1, fun i u hu => ?_⟩
  unfold rwc at hu
  rw [List.getElem?_map] at hu
  cases hr : rs[i]? with
  | none => rw [hr] at hu; cases hu
  | some r =>
    rw [hr] at hu
    simp only [Option.map_some, Option.some.injEq] at hu
    subst hu
    rw [List.getD_eq_getElem?_getD, List.getElem?_map, hr]
    exact (h.2 r (List.mem_of_getElem? hr)).sl
theorem RwM.mat {w : World} {b B : Nat} {v : Value} {rs : List Rw} (h : RwM w b B v rs) : Mat w v (rs.map Rw.x) :=
  RwL.mat (B := min b B) ⟨own_mono h.1 (Nat.min_le_right _ _), fun r hr => own_mono (h.2 r hr).1 (Nat.min_le_left _ _)⟩

theorem k_num : numP (ints (tenP 0)) [-2, 0, 1] = 5 := by decide +kernel
theorem k_den : denP (ints (tenP 0)) [-2, 0, 1] = 4 := by decide +kernel
theorem k_ask : askErr (ints (tenP 0)) (10 : Nat) [-2, 0, 1] = 0 := by decide +kernel
theorem k_rows : rowsOf 5 4 (tenP 0) 10 = [[-2, 0, 1], [1, 1, -1], [-3, 2, 0], [1, -2, 1]] := by decide +kernel
theorem k_least {F : List (Nat × Nat × List Int)} {rs : List Rw} (h : LeastOf (ints (tenP 0)) (rowsOf 5 4 (tenP 0) 10) 2 F rs) : rs.map Rw.x = [[1, -2, 1], [-3, 2, 0]] := by
  obtain ⟨h1, h2, h3⟩ := h
  have hp : F.Perm [(10, 9, [1, -2, 1]), (9, 8, [-3, 2, 0]), (6, 5, [1, 1, -1]), (5, 4, [-2, 0, 1])] := h1.trans (by rw [k_rows]; decide +kernel)
  have hF := perm_uniq (le := fun a b : Nat × Nat × List Int => a.1 * b.2.1 ≤ b.1 * a.2.1) (lt := fun a b : Nat × Nat × List Int => a.1 * b.2.1 < b.1 * a.2.1) (fun a b h k => by omega) hp h2 (by decide +kernel)
  rw [h3, hF]; rfl
theorem k_good : ∀ z ∈ combAll 2 [[-1, 1]] [List.replicate 2 0], oneErr [2, 3] z = 0 := by decide +kernel
theorem k_comb {out : List (List Int)} (h : CombOf [2, 3] (combAll 2 [[-1, 1]] [List.replicate 2 0]) out) : out = [[-2, 2], [-1, 1]] := by
  obtain ⟨s, h1, h2, h3⟩ := h
  have hp : s.Perm [[-2, 2], [-1, 1]] := h1.trans (by decide +kernel)
  have hs := perm_uniq (le := fun a b => cmpL a b ≤ 0) (lt := fun a b => cmpL b a ≤ 0 → False) (fun a b h k => by
    have := cmpL_swap a b
    rcases cmpL_range a b with g | g | g
    · exact k (by omega) |>.elim
    · exact k (by omega) |>.elim
    · omega) hp h2 (by decide +kernel)
  rw [h3, hs]; decide +kernel

theorem mat_block {w : World} {b : Nat} {us : List Value} {l : List (List Int)} {t : TypeId} (h : w.heap[b]? = some (.cells us.toArray t (0, 0))) (hl : us.length = l.length) (hm : us.length ≤ maxLen) (hr : ∀ i u, us[i]? = some u → Sl w u (i64s (l.getD i []))) : Mat w (.slice (some ⟨b, 0, none⟩) us.length us.length) l :=
  ⟨us, hl, sl_block h hm, hr⟩

theorem alloc3 (w : World) (P X Q : Obj) : (((w.alloc P).alloc X).alloc Q).heap[w.heap.size]? = some P ∧ (((w.alloc P).alloc X).alloc Q).heap[w.heap.size + 1]? = some X ∧ (((w.alloc P).alloc X).alloc Q).heap[w.heap.size + 1 + 1]? = some Q ∧ Ext w (((w.alloc P).alloc X).alloc Q) :=
  ⟨heap_allocs [P, X, Q] w 0 (by simp), heap_allocs [P, X, Q] w 1 (by simp), heap_allocs [P, X, Q] w 2 (by simp), ext_allocs w [P, X, Q]⟩
theorem sl_of {w : World} {b n : Nat} {cs : Array Value} {t : TypeId} (xs : List Value) (h : w.heap[b]? = some (.cells cs t (0, 0))) (hx : cs.toList = xs) (hn : xs.length = n) (hm : n ≤ 1000) : Sl w (.slice (some ⟨b, 0, none⟩) n n) xs := by
  subst hn; subst hx
  exact sl_block (t := t) h (by unfold maxLen; omega)
def litO (b : Nat) (rows : List (List Int)) : List Obj := rows.map (fun x => Obj.cells (i64s x).toArray 3 (0, 0)) ++ [Obj.cells ((List.range rows.length).map fun i => Value.slice (some ⟨b + i, 0, none⟩) (rows.getD i []).length (rows.getD i []).length).toArray 30 (0, 0)]
def litW (w : World) (rows : List (List Int)) : World := (litO w.heap.size rows).foldl World.alloc w
/-- A list of rows laid out of constants. -/
theorem lit_mat (w : World) (rows : List (List Int)) (h : rows.length ≤ 1000) (hr : ∀ x ∈ rows, x.length ≤ 1000) : Mat (litW w rows) (.slice (some ⟨w.heap.size + rows.length, 0, none⟩) rows.length rows.length) rows ∧ Ext w (litW w rows) := by
  refine ⟨?_, ext_allocs w _⟩
  have hl : (litO w.heap.size rows).length = rows.length + 1 := by simp [litO]
  have hb := heap_allocs (litO w.heap.size rows) w rows.length (by omega)
  have e : (litO w.heap.size rows)[rows.length]? = some (Obj.cells ((List.range rows.length).map fun i => Value.slice (some ⟨w.heap.size + i, 0, none⟩) (rows.getD i []).length (rows.getD i []).length).toArray 30 (0, 0)) := by
    unfold litO
    rw [List.getElem?_append_right (by simp)]
    simp
  rw [e] at hb
  have hlen : ((List.range rows.length).map fun i => Value.slice (some ⟨w.heap.size + i, 0, none⟩) (rows.getD i []).length (rows.getD i []).length).length = rows.length := by simp
  have := mat_block (w := litW w rows) (l := rows) hb hlen (by rw [hlen]; unfold maxLen; omega) (fun i u hu => by
    rw [List.getElem?_map] at hu
    rcases Nat.lt_or_ge i rows.length with g | g
    · rw [List.getElem?_range g] at hu
      simp only [Option.map_some, Option.some.injEq] at hu
      subst hu
      have hi := heap_allocs (litO w.heap.size rows) w i (by omega)
      have e2 : (litO w.heap.size rows)[i]? = some (Obj.cells (i64s (rows.getD i [])).toArray 3 (0, 0)) := by
        unfold litO
        rw [List.getElem?_append_left (by simpa using g), List.getElem?_map, List.getD_eq_getElem?_getD, List.getElem?_eq_getElem g]
        rfl
      rw [e2] at hi
      exact sl_of (i64s (rows.getD i [])) hi rfl (by rw [i64s_length]) (by
        rw [List.getD_eq_getElem?_getD, List.getElem?_eq_getElem g]
        exact hr _ (List.getElem_mem g))
    · rw [List.getElem?_eq_none (by simpa using g)] at hu; cases hu)
  rw [hlen] at this
  exact this
theorem small_rows {L : List (List Int)} (h : ∀ x ∈ L, x.length ≤ 1000) (i : Nat) : (L.getD i []).length ≤ 1000000 := by
  rw [List.getD_eq_getElem?_getD]
  cases hx : L[i]? with
  | none => simp
  | some x => have := h x (List.mem_of_getElem? hx); simp; omega
theorem box3 {w : World} {b : Nat} {x y z : Value} {t : TypeId} (h : w.heap[b]? = some (.cells #[x, y, z] t (0, 0))) : w.cell? ⟨b, 0, none⟩ = some x ∧ w.cell? ⟨b, 1, none⟩ = some y ∧ w.cell? ⟨b, 2, none⟩ = some z := by
  refine ⟨?_, ?_, ?_⟩ <;> (unfold World.cell?; rw [h]; rfl)

set_option maxRecDepth 100000 in
set_option maxHeartbeats 4000000 in
theorem known_c (w : World) (he : Env w) : Calls Tryz.prog 13 #[] w fun e w' => e = .returned (.bool true) ∧ Ext w w' := by
  have hlist := fun W vp vx (hE : Ext w W) (hp : Sl W vp (i64s (ints (tenP 0)))) (hx : Sl W vx (i64s [-2, 0, 1])) => listTen_c 0 10 vp vx [-2, 0, 1] W (he.ext hE) hp hx (by omega) (by omega) k_ask
  have hleast := fun W vp vx (hE : Ext w W) (hp : Sl W vp (i64s (ints (tenP 0)))) (hx : Sl W vx (i64s [-2, 0, 1])) => leastTen_c 0 10 2 vp vx [-2, 0, 1] W (he.ext hE) hp hx (by simp) (by omega) (by omega) k_ask (by omega)
  rw [k_num, k_den] at hlist hleast
  have hcomb := fun W vp vl (hE : Ext w W) (hp : Sl W vp (i64s [2, 3])) (hl : Mat W vl [[-1, 1]]) => combine_w vp vl [2, 3] [[-1, 1]] 2 W (he.ext hE) hp hl (by simp) (fun i => by
    match i with
    | 0 => simp
    | k + 1 => simp) (by decide +kernel) (.inr (by omega)) (by omega) (by decide +kernel)
  have hsame := fun W va vb x y (h1 : Mat W va x) (h2 : Mat W vb y) (h3 : x.length ≤ 1000000) (h4 : y.length ≤ 1000000) (h5 : ∀ i, (x.getD i []).length ≤ 1000000) (h6 : ∀ i, (y.getD i []).length ≤ 1000000) => same16_c va vb x y W h1 h2 h3 h4 h5 h6
  have Hlist := Lib.hid hlist; have Hleast := Lib.hid hleast; have Hcomb := Lib.hid hcomb; have Hsame := Lib.hid hsame
  clear hlist hleast hcomb hsame he
  obtain ⟨h0, h1, h2, hE0⟩ := alloc3 w (.cells #[.int .i64 2, .int .i64 3, .int .i64 5] 3) (.cells #[.int .i64 (-2), .int .i64 0, .int .i64 1] 3) (.cells #[.slice (some ⟨w.heap.size, 0, none⟩) 3 3, .int .i64 10, .slice (some ⟨w.heap.size + 1, 0, none⟩) 3 3] 32)
  have hp0 := sl_of (n := 3) (i64s (ints (tenP 0))) h0 rfl rfl (by omega)
  have hx0 := sl_of (n := 3) (i64s [-2, 0, 1]) h1 rfl rfl (by omega)
  have Hp0 := Lib.hid hp0; have Hx0 := Lib.hid hx0; have HE0 := Lib.hid hE0; have Hb0 := Lib.hid h2; clear hp0 hx0 hE0 h0 h1 h2
  go_enter Tryz.func13, Tryz.ntmps13
  go_wp2_with fail
  refine (Hlist.out _ _ _ HE0.out Hp0.out Hx0.out).mono ?_
  rintro e W1 ⟨v1, rs1, rfl, hrs1, hm1, hx1⟩
  obtain ⟨a1, c1, rfl⟩ := own_shape hrs1.1
  obtain ⟨hc0, hc1, hc2⟩ := box3 (hx1.heap Hb0.out)
  have hE1 := HE0.out.trans hx1
  have hp1 := hx1.sl Hp0.out
  have hv1 := hx1.sl Hx0.out
  have hmat1 := hrs1.mat
  rw [hm1, k_rows] at hmat1
  have Hrs1 := Lib.hid hmat1; have HE1 := Lib.hid hE1; have Hp1 := Lib.hid hp1; have Hv1 := Lib.hid hv1; clear hrs1 hm1 hx1 hE1 hp1 hv1 hmat1
  go_wp2_with fail
  refine (Hleast.out W1 _ _ HE1.out Hp1.out Hv1.out).mono ?_
  rintro e W2 ⟨v2, rs2, F, rfl, hF, hrs2, hx2⟩
  obtain ⟨a2, c2, rfl⟩ := own_shape hrs2.1
  have hmat2 := hrs2.mat
  rw [k_least hF] at hmat2
  have hE2 := HE1.out.trans hx2
  have hrs12 := hx2.mat Hrs1.out
  have Hrs2 := Lib.hid hmat2; have HE2 := Lib.hid hE2; have Hrs12 := Lib.hid hrs12; clear hrs2 hF hx2 hE2 hrs12 hmat2
  obtain ⟨h0, h1, h2, hE3⟩ := alloc3 W2 (.cells #[.int .i64 2, .int .i64 3] 3) (.cells #[.int .i64 (-1), .int .i64 1] 3) (.cells #[.slice (some ⟨W2.heap.size + 1, 0, none⟩) 2 2] 30)
  have hp3 := sl_of (n := 2) (i64s [2, 3]) h0 rfl rfl (by omega)
  have hx3 := sl_of (n := 2) (i64s [-1, 1]) h1 rfl rfl (by omega)
  have hm3 := mat_block (us := [.slice (some ⟨W2.heap.size + 1, 0, none⟩) 2 2]) (l := [[-1, 1]]) h2 rfl (by simp [maxLen]) (fun i u hu => by
    match i, hu with
    | 0, hu => simp at hu; subst hu; exact hx3
    | k + 1, hu => simp at hu)
  have Hp3 := Lib.hid hp3; have Hm3 := Lib.hid hm3; have HE3 := Lib.hid hE3; clear hp3 hx3 hm3 hE3 h0 h1 h2
  go_wp2_with fail
  refine (Hcomb.out _ _ _ (HE2.out.trans HE3.out) Hp3.out Hm3.out).mono ?_
  rintro e W4 (⟨⟨z, hz, hbad⟩, _⟩ | ⟨_, v4, rs4, rfl, hrs4, hcomb, hx4⟩)
  · exact absurd (k_good z hz) hbad
  obtain ⟨a4, c4, rfl⟩ := own_shape hrs4.1
  have hmat4 := hrs4.mat
  rw [k_comb hcomb] at hmat4
  have hE4 := (HE2.out.trans HE3.out).trans hx4
  have hr1 := hx4.mat (HE3.out.mat Hrs12.out)
  have hr2 := hx4.mat (HE3.out.mat Hrs2.out)
  have HE4 := Lib.hid hE4; have Hr1 := Lib.hid hr1; have Hr2 := Lib.hid hr2; have Hr4 := Lib.hid hmat4; clear hrs4 hcomb hx4 hE4 hr1 hr2 hmat4
  obtain ⟨hl1, hl1e⟩ := lit_mat W4 [[-2, 0, 1], [1, 1, -1], [-3, 2, 0], [1, -2, 1]] (by simp) (by decide)
  have Hl1 := Lib.hid hl1; have Hl1e := Lib.hid hl1e; clear hl1 hl1e
  go_wp2_with fail
  refine (Hsame.out (litW W4 [[-2, 0, 1], [1, 1, -1], [-3, 2, 0], [1, -2, 1]]) _ _ _ _ (Hl1e.out.mat Hr1.out) Hl1.out (by simp) (by simp) (small_rows (by decide)) (small_rows (by decide))).mono ?_
  rintro e W5 ⟨rfl, hq5⟩
  have hE5 := Hl1e.out.trans hq5.ext
  have HE5 := Lib.hid hE5; clear hE5 hq5
  obtain ⟨hl2, hl2e⟩ := lit_mat W5 [[1, -2, 1], [-3, 2, 0]] (by simp) (by decide)
  have Hl2 := Lib.hid hl2; have Hl2e := Lib.hid hl2e; clear hl2 hl2e
  go_wp2_with fail
  refine (Hsame.out (litW W5 [[1, -2, 1], [-3, 2, 0]]) _ _ _ _ (Hl2e.out.mat (HE5.out.mat Hr2.out)) Hl2.out (by simp) (by simp) (small_rows (by decide)) (small_rows (by decide))).mono ?_
  rintro e W6 ⟨rfl, hq6⟩
  have hE6 := Hl2e.out.trans hq6.ext
  have HE6 := Lib.hid hE6; clear hE6 hq6
  obtain ⟨hl3, hl3e⟩ := lit_mat W6 [[-2, 2], [-1, 1]] (by simp) (by decide)
  have Hl3 := Lib.hid hl3; have Hl3e := Lib.hid hl3e; clear hl3 hl3e
  go_wp2_with fail
  refine (Hsame.out (litW W6 [[-2, 2], [-1, 1]]) _ _ _ _ (Hl3e.out.mat (HE6.out.mat (HE5.out.mat Hr4.out))) Hl3.out (by simp) (by simp) (small_rows (by decide)) (small_rows (by decide))).mono ?_
  rintro e W7 ⟨rfl, hq7⟩
  have hE7 := Hl3e.out.trans hq7.ext
  have HE7 := Lib.hid hE7; clear hE7 hq7
  go_wp2
  go_ret
  exact ⟨rfl, ((HE4.out.trans HE5.out).trans HE6.out).trans HE7.out⟩

end Go.Proofs.YtkamjjjimbbdmaaGreatDoor
