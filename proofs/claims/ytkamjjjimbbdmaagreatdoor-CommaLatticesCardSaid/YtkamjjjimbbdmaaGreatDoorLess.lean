/- schismalaw16.less; an insertion sort, plainly. -/
import Derived.Test.YtkamjjjimbbdmaaGreatDoorMoreP
namespace Go.Proofs.YtkamjjjimbbdmaaGreatDoor
open Go.RowKit Go.Lib Go.Shelf Go.Sort

set_option maxRecDepth 100000 in
theorem less_c (a b c d : Nat) (w : World) (ha : a ≤ 1000) (hb : b ≤ 1000) (hc : c ≤ 1000) (hd : d ≤ 1000) :
    Calls Tryz.prog 18 #[.agg #[.int .i64 (a : Int), .int .i64 (b : Int)], .agg #[.int .i64 (c : Int), .int .i64 (d : Int)]] w fun e w' => e = .returned (.bool (decide (a * d < c * b))) ∧ Ext w w' := by
  have h1 : a * d ≤ 1000 * 1000 := Nat.mul_le_mul ha hd
  have h2 : c * b ≤ 1000 * 1000 := Nat.mul_le_mul hc hb
  have e1 : (a : Int) * (d : Int) = ((a * d : Nat) : Int) := by simp
  have e2 : (c : Int) * (b : Int) = ((c * b : Nat) : Int) := by simp
  have hE : Ext w ((w.alloc (.cells #[.int .i64 (a : Int), .int .i64 (b : Int)] 47)).alloc (.cells #[.int .i64 (c : Int), .int .i64 (d : Int)] 47)) := ((Ext.refl w).alloc _).alloc _
  generalize a * d = x at *
  generalize c * b = y at *
  have hdec : decide ((x : Int) < (y : Int)) = decide (x < y) := by by_cases h : x < y <;> simp [h]
  have HE := Lib.hid hE; clear hE
  go_enter Tryz.func18, Tryz.ntmps18
  go_wp2
  go_ret
  exact ⟨rfl, HE.out⟩

set_option maxRecDepth 100000 in
/-- Smallest at a count that is out of range. -/
theorem leastErr_c (vp vx : Value) (p x : List Int) (lim cnt : Int) (w : World) (he : Env w) (hp : Sl w vp (i64s p)) (hx : Sl w vx (i64s x)) (hask : askErr p lim x = 0) (h0 : cnt < 0 ∨ 100 < cnt) (h1 : cnt ≤ 10000) (h2 : -10000 ≤ cnt) (hlp : p.length ≤ 64) (hlx : x.length ≤ 64) :
    Calls Tryz.prog 17 #[.agg #[vp, .int .i64 lim, vx], .int .i64 cnt] w fun e w' => e = .returned (.tuple #[.slice none 0 0, .int .i64 3]) ∧ Ext w w' := by
  have hck := fun W (hE : Ext w W) => ask_c vp vx lim p x W (he.ext hE) (hE.sl hp) (hE.sl hx) (by omega) (by omega)
  rw [hask] at hck
  have Hck := Lib.hid hck
  clear hck he hask
  obtain ⟨aa, ca, rfl, _, _, _⟩ := hp.parts
  obtain ⟨ab, cb, rfl, _, _, _⟩ := hx.parts
  clear hp hx
  rw [i64s_length] at *
  rw [i64s_length] at *
  obtain ⟨hb0, hb1, hb2⟩ := three_new w (.slice aa p.length ca) (.int .i64 lim) (.slice ab x.length cb) 32
  have hE0 : Ext w (w.alloc (.cells #[.slice aa p.length ca, .int .i64 lim, .slice ab x.length cb] 32)) := (Ext.refl w).alloc _
  generalize hw0 : w.alloc (.cells #[.slice aa p.length ca, .int .i64 lim, .slice ab x.length cb] 32) = W0 at *
  go_enter Tryz.func17, Tryz.ntmps17
  go_wp2_with fail
  refine (Hck.out W0 hE0).mono ?_
  rintro e W1 ⟨rfl, hx1⟩
  have HE1 := Lib.hid (hE0.trans hx1); clear hE0 hx1
  rcases h0 with h0 | h0
  · go_wp2
    go_ret2
    exact ⟨rfl, HE1.out⟩
  · have h3 : ¬ cnt < 0 := by omega
    go_wp2
    go_ret2
    exact ⟨rfl, HE1.out⟩

def lePr (a b : Nat × Nat) : Prop := a.1 * b.2 ≤ b.1 * a.2
theorem lePr_trans {x y z : Nat × Nat} (h1 : lePr x y) (h2 : lePr y z) (h0 : 0 < y.2) : lePr x z := by
  unfold lePr at *
  refine Nat.le_of_mul_le_mul_right (c := y.2) ?_ h0
  have a := Nat.mul_le_mul_right z.2 h1
  have b := Nat.mul_le_mul_right x.2 h2
  have e1 : x.1 * z.2 * y.2 = x.1 * y.2 * z.2 := Nat.mul_right_comm ..
  have e2 : y.1 * x.2 * z.2 = y.1 * z.2 * x.2 := Nat.mul_right_comm ..
  have e3 : z.1 * y.2 * x.2 = z.1 * x.2 * y.2 := Nat.mul_right_comm ..
  omega
/-- The first ones, up to i, are in order, but for the one at k. -/
def SrtAt (ps : List (Nat × Nat)) (i k : Nat) : Prop := ∀ a b x y, a < b → b ≤ i → b ≠ k → ps[a]? = some x → ps[b]? = some y → lePr x y
def SrtTo (ps : List (Nat × Nat)) (i : Nat) : Prop := ∀ a b x y, a < b → b < i → ps[a]? = some x → ps[b]? = some y → lePr x y
theorem srt_start {ps : List (Nat × Nat)} {i : Nat} (h : SrtTo ps i) : SrtAt ps i i := fun a b x y h1 h2 h3 => h a b x y h1 (by omega)
theorem srt_end0 {ps : List (Nat × Nat)} {i : Nat} (h : SrtAt ps i 0) : SrtTo ps (i + 1) := fun a b x y h1 h2 => h a b x y h1 (by omega) (by omega)
theorem srt_end {ps : List (Nat × Nat)} {i k : Nat} {x y : Nat × Nat} (h : SrtAt ps i (k + 1)) (hx : ps[k + 1]? = some x) (hy : ps[k]? = some y) (hle : lePr y x) (hpos : ∀ e ∈ ps, 0 < e.2) : SrtTo ps (i + 1) := by
  intro a b u v h1 h2 ha hb
  by_cases hbk : b = k + 1
  · subst hbk
    rw [hx] at hb; cases hb
    by_cases hak : a = k
    · subst hak
      rw [hy] at ha; cases ha; exact hle
    · exact lePr_trans (h a k u y (by omega) (by omega) (by omega) ha hy) hle (hpos y (List.mem_of_getElem? hy))
  · exact h a b u v h1 (by omega) hbk ha hb
theorem swap_at {α : Type} {l : List α} {k : Nat} {x y : α} (hx : l[k + 1]? = some x) (j : Nat) : ((l.set (k + 1) y).set k x)[j]? = if j = k then some x else if j = k + 1 then some y else l[j]? := by
  have hl : k + 1 < l.length := (List.getElem?_eq_some_iff.1 hx).1
  rw [List.getElem?_set, List.getElem?_set, List.length_set]
  by_cases h1 : k = j
  · rw [if_pos h1, if_pos h1.symm, if_pos (by omega)]
  · rw [if_neg h1, if_neg (c := j = k) (fun h => h1 h.symm)]
    by_cases h2 : k + 1 = j
    · rw [if_pos h2, if_pos h2.symm, if_pos (by omega)]
    · rw [if_neg h2, if_neg (c := j = k + 1) (fun h => h2 h.symm)]
theorem srt_swap {ps : List (Nat × Nat)} {i k : Nat} {x y : Nat × Nat} (h : SrtAt ps i (k + 1)) (_hk : k + 1 ≤ i) (hx : ps[k + 1]? = some x) (hy : ps[k]? = some y) (hlt : lePr x y) : SrtAt ((ps.set (k + 1) y).set k x) i k := by
  intro a b u v h1 h2 h3 ha hb
  rw [swap_at hx] at ha hb
  rw [if_neg h3] at hb
  by_cases hb1 : b = k + 1
  · rw [if_pos hb1] at hb
    cases hb
    by_cases ha1 : a = k
    · rw [if_pos ha1] at ha
      cases ha
      exact hlt
    · rw [if_neg ha1, if_neg (by omega)] at ha
      exact h a k u y (by omega) (by omega) (by omega) ha hy
  · rw [if_neg hb1] at hb
    by_cases ha1 : a = k
    · rw [if_pos ha1] at ha
      cases ha
      exact h (k + 1) b x v (by omega) h2 hb1 hx hb
    · rw [if_neg ha1] at ha
      by_cases ha2 : a = k + 1
      · rw [if_pos ha2] at ha
        cases ha
        exact h k b y v (by omega) h2 hb1 hy hb
      · rw [if_neg ha2] at ha
        exact h a b u v h1 h2 hb1 ha hb
theorem swap_perm {α : Type} : ∀ {l : List α} {k : Nat} {x y : α}, l[k + 1]? = some x → l[k]? = some y → ((l.set (k + 1) y).set k x).Perm l
  | [], _, _, _, h, _ => by simp at h
  | [_], 0, _, _, h, _ => by simp at h
  | b :: a :: t, 0, x, y, h1, h2 => by
    simp at h1 h2
    subst h1 h2
    exact List.Perm.swap ..
  | c :: t, k + 1, x, y, h1, h2 => by
    simp only [List.getElem?_cons_succ] at h1 h2
    simp only [List.set_cons_succ]
    exact (swap_perm h1 h2).cons c
theorem srt_pairwise {ps : List (Nat × Nat)} (h : SrtTo ps ps.length) : ps.Pairwise lePr := by
  rw [List.pairwise_iff_getElem]
  intro i j hi hj hij
  exact h i j _ _ hij hj (List.getElem?_eq_getElem hi) (List.getElem?_eq_getElem hj)

theorem sorted_uniq {α : Type} {le : α → α → Prop} : ∀ {l m : List α}, (∀ a ∈ l, ∀ b ∈ l, le a b → le b a → a = b) → l.Perm m → l.Pairwise le → m.Pairwise le → l = m
  | l, [], _, h, _, _ => h.eq_nil
  | [], y :: m, _, h, _, _ => by have := h.length_eq; simp at this
  | x :: l, y :: m, hx, h, h1, h2 => by
    have hy : y ∈ x :: l := h.mem_iff.2 (List.mem_cons_self ..)
    have hx' : x ∈ y :: m := h.mem_iff.1 (List.mem_cons_self ..)
    rw [List.pairwise_cons] at h1 h2
    have e : x = y := by
      rcases List.mem_cons.1 hx' with e | hx'
      · exact e
      · rcases List.mem_cons.1 hy with e | hy'
        · exact e.symm
        · exact hx x (List.mem_cons_self ..) y hy (h1.1 y hy') (h2.1 x hx')
    subst e
    rw [sorted_uniq (fun a ha b hb => hx a (List.mem_cons_of_mem _ ha) b (List.mem_cons_of_mem _ hb)) (List.Perm.cons_inv h) h1.2 h2.2]

/-- In order, the intervals are those that Smallest takes. -/
theorem sorted_eq {num den m H c : Nat} (hH : H ≤ 130) {F : List (Nat × Nat × List Int)} {rs : List Rw} (h : LeastOf (ints (tenP m)) (rowsOf num den (tenP m) H) c F rs) {es : List (Rw × Nat × Nat)}
    (hp : (es.map fun e => (e.1.x, e.2)).Perm (wall num den (tenP m) H)) (hs : SrtTo (es.map (·.2)) es.length) : rs.map Rw.x = (es.map (·.1.x)).take c := by
  obtain ⟨h1, h2, h3⟩ := h
  have hpw : (es.map (·.2)).Pairwise lePr := srt_pairwise (by rw [List.length_map]; exact hs)
  have hmem : ∀ e ∈ es, (e.1.x, e.2) ∈ wall num den (tenP m) H := fun e he => hp.mem_iff.1 (List.mem_map_of_mem he)
  have hG : (es.map fun e => (e.2.1, e.2.2, e.1.x)).Perm ((rowsOf num den (tenP m) H).map fun r => (numP (ints (tenP m)) r, denP (ints (tenP m)) r, r)) := by
    unfold rowsOf
    rw [List.map_map]
    have e1 : (wall num den (tenP m) H).map ((fun r => (numP (ints (tenP m)) r, denP (ints (tenP m)) r, r)) ∘ (·.1)) = (wall num den (tenP m) H).map fun e => (e.2.1, e.2.2, e.1) := by
      apply List.map_congr_left
      intro e he
      obtain ⟨a1, a2⟩ := wall_parts hH he
      show (numP (ints (tenP m)) e.1, denP (ints (tenP m)) e.1, e.1) = _
      rw [a1, a2]
    rw [e1]
    have := hp.map fun e => (e.2.1, e.2.2, e.1)
    rw [List.map_map] at this
    exact this
  have hFG : F.Perm (es.map fun e => (e.2.1, e.2.2, e.1.x)) := h1.trans hG.symm
  have hpw2 : (es.map fun e => (e.2.1, e.2.2, e.1.x)).Pairwise fun a b => a.1 * b.2.1 ≤ b.1 * a.2.1 := by
    rw [List.pairwise_map] at hpw ⊢
    exact hpw
  have heq := sorted_uniq (fun a ha b hb hab hba => by
    obtain ⟨r, hr, rfl⟩ := List.mem_map.1 (h1.mem_iff.1 ha)
    obtain ⟨s, hs, rfl⟩ := List.mem_map.1 (h1.mem_iff.1 hb)
    have f1 := rows_fact hH r hr
    have f2 := rows_fact hH s hs
    have hne := coprime_eq (Nat.le_antisymm hab hba) f1.2.2.2.2.2.2 f2.2.2.2.2.2.2 (by have := f1.2.2.2.2.2.1; omega)
    rw [rows_inj hH hr hs hne.1 hne.2]) hFG h2 hpw2
  rw [h3, heq, List.map_take, List.map_map]
  rfl

/-- The law's two lists, in some order: the rows with their pairs. -/
structure Two (w : World) (B : Nat) (v u : Value) (es : List (Rw × Nat × Nat)) : Prop where
  rows : RwL w B v (es.map (·.1))
  prs : PrL w B u (es.map (·.2))
theorem Ext.two {w w' : World} (h : Ext w w') {B : Nat} {v u : Value} {es : List (Rw × Nat × Nat)} (hs : Two w B v u es) : Two w' B v u es := ⟨h.rwL hs.rows, h.prL hs.prs⟩
theorem prc_at : ∀ (l : List (Nat × Nat)) (k : Nat) (e : Nat × Nat), l[k]? = some e → (prc l)[k * 2]? = some (.int .i64 (e.1 : Int)) ∧ (prc l)[k * 2 + 1]? = some (.int .i64 (e.2 : Int))
  | [], k, e, h => by simp at h
  | a :: r, 0, e, h => by simp at h; subst h; exact ⟨rfl, rfl⟩
  | a :: r, k + 1, e, h => by
    have := prc_at r k e (by simpa using h)
    rw [show (k + 1) * 2 = k * 2 + 1 + 1 by omega]
    exact this
theorem own_blk {w : World} {B E s n g cap : Nat} {xs : List Value} (h : w.ownsRow B E s (.slice (some ⟨g, 0, none⟩) n cap) n xs) : B ≤ g := by
  rcases h.2 with ⟨e0, _⟩ | ⟨g', cap', cur, e0, hb, _⟩
  · cases e0
  · injection e0 with e1 _ _
    injection e1 with e1
    injection e1 with e1
    subst e1
    exact hb
end Go.Proofs.YtkamjjjimbbdmaaGreatDoor
