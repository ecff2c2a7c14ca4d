/- Walks: law 32's equal (of clashes that are equal); classes in order from a class on. Walks: the law ClassConstants. -/
import Derived.Test.YtaakmdjicocjpaaGreatDoorPb34
import Derived.Test.YtaakmdjicocjpaaGreatDoorPb37
set_option maxRecDepth 100000
set_option maxHeartbeats 4000000
namespace Go.Proofs.YtaakmdjicocjpaaGreatDoor
open Go.RowKit Go.Lib Go.Shelf
attribute [local go_sem] Oper.semAt_some
theorem equal32_c (a b : Int) (u1 u2 v1 v2 : Value) (x y : List Rat) (w : World) (h1 : Rd w u1 x) (h2 : Rd w u2 y) (g1 : Rd w v1 x) (g2 : Rd w v2 y) (hx : x.length ≤ 1000) (hy : y.length ≤ 1000) :
    Calls Tryz.prog 23 #[.agg #[.int .i64 a, .int .i64 b, u1, u2], .agg #[.int .i64 a, .int .i64 b, v1, v2]] w fun e w' => e = .returned (.bool true) ∧ Ext w w' := by
  have hs1 := fun W (hE : Ext w W) => lSame24_c u1 v1 x x W (hE.rd h1) (hE.rd g1) hx hx
  have hs2 := fun W (hE : Ext w W) => lSame24_c u2 v2 y y W (hE.rd h2) (hE.rd g2) hy hy
  simp only [decide_true] at hs1 hs2
  obtain ⟨a1, c1, rfl, _, _, _⟩ := h1.parts
  obtain ⟨a2, c2, rfl, _, _, _⟩ := h2.parts
  obtain ⟨a3, c3, rfl, _, _, _⟩ := g1.parts
  obtain ⟨a4, c4, rfl, _, _, _⟩ := g2.parts
  generalize x.length = lx at *
  generalize y.length = ly at *
  have b1 := (Box4.new 47 w (.int .i64 a) (.int .i64 b) (.slice a1 lx c1) (.slice a2 ly c2)).ext ((Ext.refl _).alloc (.cells #[.int .i64 a, .int .i64 b, .slice a3 lx c3, .slice a4 ly c4] 47))
  have b2 := Box4.new 47 (w.alloc (.cells #[.int .i64 a, .int .i64 b, .slice a1 lx c1, .slice a2 ly c2] 47)) (.int .i64 a) (.int .i64 b) (.slice a3 lx c3) (.slice a4 ly c4)
  rw [World.size_alloc] at b2
  have hE0 : Ext w ((w.alloc (.cells #[.int .i64 a, .int .i64 b, .slice a1 lx c1, .slice a2 ly c2] 47)).alloc (.cells #[.int .i64 a, .int .i64 b, .slice a3 lx c3, .slice a4 ly c4] 47)) := ((Ext.refl w).alloc _).alloc _
  have q0 := b1.c0; have q1 := b1.c1; have q2 := b1.c2; have q3 := b1.c3
  have r0 := b2.c0; have r1 := b2.c1; have r2 := b2.c2; have r3 := b2.c3
  have Hs1 := Lib.hid hs1; have Hs2 := Lib.hid hs2; have HE0 := Lib.hid hE0; have B1 := Lib.hid b1; have B2 := Lib.hid b2; clear hs1 hs2 hE0 b1 b2
  clear h1 h2 g1 g2
  go_enter Tryz.func23, Tryz.ntmps23
  go_wp2_with fail
  refine (Hs1.out _ HE0.out).mono ?_
  rintro e w3 ⟨rfl, hx3⟩
  have q3 := (B1.out.ext hx3).c3
  have r3 := (B2.out.ext hx3).c3
  have H3 := Lib.hid (HE0.out.trans hx3)
  clear hx3 q0 q1 q2 r0 r1 r2
  go_wp2_with fail
  refine (Hs2.out _ H3.out).mono ?_
  rintro e w4 ⟨rfl, hx4⟩
  have H4 := Lib.hid (H3.out.trans hx4)
  clear hx4 q3 r3
  go_wp2
  go_ret
  exact ⟨rfl, H4.out⟩
/-- The sizes of a class in memory. -/
theorem cls_row {w : World} {B : Nat} {p : List Int} {N : List (List Rat)} {d : Nat} {u : Value} {out : List Qw} (h : Wc p N) (hq : QwM w B B u out) (hm : out.map Qw.x = cls p N (d : Int)) :
    ∃ g c, u = .slice (some ⟨g, 0, none⟩) (cls p N (d : Int)).length c ∧ ∀ i x, (cls p N (d : Int))[i]? = some x → ∃ ax cx, w.cell? ⟨g, i, none⟩ = some (.slice ax p.length cx) ∧ OwnQ w B (.slice ax p.length cx) x := by
  have hp := h.cls_pos (d : Int)
  have hl : out.length = (cls p N (d : Int)).length := by rw [← hm, List.length_map]
  obtain ⟨g, c, rfl, hc⟩ := own_slice hq.1 (by omega)
  refine ⟨g, c, by rw [hl], fun i x hx => ?_⟩
  have hx' := hx
  rw [← hm, List.getElem?_map] at hx
  obtain ⟨r, hr, e⟩ := Option.map_eq_some_iff.1 hx
  have ho := hq.2 r (List.mem_of_getElem? hr)
  rw [e] at ho
  obtain ⟨ax, cx, eu⟩ := own_shape ho
  rw [h.cls_lt (List.mem_of_getElem? hx')] at eu
  have hcc := hc i r.u (by unfold qwc; rw [List.getElem?_map, hr]; rfl)
  rw [eu] at hcc ho
  exact ⟨ax, cx, hcc, ho⟩
/-- In order from the class k on, or the first class from there that is not. -/
def OrdL (p : List Int) (N : List (List Rat)) (m : Int) (k : Nat) (w : World) (B : Nat) (c : Value) (is : Bool) : Prop :=
  (is = true ∧ c = csh0 ∧ ∀ d, k ≤ d → d < N.length → OrdOk p N m d) ∨ (is = false ∧ ∃ (d : Nat) (x y : List Rat), k ≤ d ∧ d < N.length ∧ (∀ d', k ≤ d' → d' < d → OrdOk p N m d') ∧ Gl p N d x y ∧ ¬ OrdOk p N m d ∧ CshV w B c (d : Int) ((d + 1 : Nat) : Int) y x)
theorem OrdL.start (p : List Int) (N : List (List Rat)) (m : Int) (w : World) (B : Nat) : OrdL p N m N.length w B csh0 true := .inl ⟨rfl, rfl, fun d h1 h2 => by omega⟩
theorem OrdL.keep {p : List Int} {N : List (List Rat)} {m : Int} {k : Nat} {w : World} {B : Nat} {c : Value} {is : Bool} (h : OrdL p N m (k + 1) w B c is) (ho : OrdOk p N m k) : OrdL p N m k w B c is := by
  rcases h with ⟨h1, h2, h3⟩ | ⟨h1, d, x, y, g1, g2, g3, g4⟩
  · refine .inl ⟨h1, h2, fun d a b => ?_⟩
    rcases (by omega : d = k ∨ k + 1 ≤ d) with e | e
    · rw [e]; exact ho
    · exact h3 d e b
  · refine .inr ⟨h1, d, x, y, by omega, g2, fun d' a b => ?_, g4⟩
    rcases (by omega : d' = k ∨ k + 1 ≤ d') with e | e
    · rw [e]; exact ho
    · exact g3 d' e b
theorem OrdL.new {p : List Int} {N : List (List Rat)} {m : Int} {k : Nat} {w : World} {B : Nat} {c : Value} {x y : List Rat} (hk : k < N.length) (hg : Gl p N k x y) (ho : ¬ OrdOk p N m k) (hc : CshV w B c (k : Int) ((k + 1 : Nat) : Int) y x) : OrdL p N m k w B c false :=
  .inr ⟨rfl, k, x, y, Nat.le_refl _, hk, fun d a b => by omega, hg, ho, hc⟩
theorem OrdL.mem {p : List Int} {N : List (List Rat)} {m : Int} {k : Nat} {w w' : World} {B : Nat} {c : Value} {is : Bool} (h : OrdL p N m k w B c is) (hk : ∀ a b x y, CshV w B c a b x y → CshV w' B c a b x y) : OrdL p N m k w' B c is := by
  rcases h with h | ⟨h1, d, x, y, g1, g2, g3, g4, g5, g6⟩
  · exact .inl h
  · exact .inr ⟨h1, d, x, y, g1, g2, g3, g4, g5, hk _ _ _ _ g6⟩
theorem OrdR.shape {p : List Int} {N : List (List Rat)} {m : Int} {w : World} {B : Nat} {c : Value} {is : Bool} (h : OrdR p N m w B c is) : ∃ i1 i2 a1 n1 c1 a2 n2 c2, c = .agg #[.int .i64 i1, .int .i64 i2, .slice a1 n1 c1, .slice a2 n2 c2] := by
  rcases h with ⟨_, h, _⟩ | ⟨_, d, x, y, _, u1, u2, h, h1, h2⟩
  · exact ⟨_, _, _, _, _, _, _, _, h⟩
  · obtain ⟨a1, c1, rfl⟩ := own_shape h1
    obtain ⟨a2, c2, rfl⟩ := own_shape h2
    exact ⟨_, _, _, _, _, _, _, _, h⟩
theorem OrdL.shape {p : List Int} {N : List (List Rat)} {m : Int} {k : Nat} {w : World} {B : Nat} {c : Value} {is : Bool} (h : OrdL p N m k w B c is) : ∃ i1 i2 a1 n1 c1 a2 n2 c2, c = .agg #[.int .i64 i1, .int .i64 i2, .slice a1 n1 c1, .slice a2 n2 c2] := by
  rcases h with ⟨_, h, _⟩ | ⟨_, d, x, y, _, _, _, _, _, u1, u2, h, h1, h2⟩
  · exact ⟨_, _, _, _, _, _, _, _, h⟩
  · obtain ⟨a1, c1, rfl⟩ := own_shape h1
    obtain ⟨a2, c2, rfl⟩ := own_shape h2
    exact ⟨_, _, _, _, _, _, _, _, h⟩
theorem Box4.aside {T : TypeId} {w : World} {b b' : Nat} {u v x y : Value} (h : Box4 T w b u v x y) (hne : b ≠ b') (u' v' x' y' : Value) : Box4 T ((((w.setCell ⟨b', 0, none⟩ u').setCell ⟨b', 1, none⟩ v').setCell ⟨b', 2, none⟩ x').setCell ⟨b', 3, none⟩ y') b u v x y := by
  unfold Box4 at *
  rw [heap_setCell_other _ ⟨b', 3, none⟩ b _ hne, heap_setCell_other _ ⟨b', 2, none⟩ b _ hne, heap_setCell_other _ ⟨b', 1, none⟩ b _ hne, heap_setCell_other _ ⟨b', 0, none⟩ b _ hne]
  exact h
theorem Box4.lt {T : TypeId} {w : World} {b : Nat} {u v x y : Value} (h : Box4 T w b u v x y) : b < w.heap.size := (Array.getElem?_eq_some_iff.1 h).1
/-- Two sizes of classes compare. -/
theorem cless_c (v va vb : Value) (p : List Int) (rs : List Qw) (d e : Nat) (x y : List Rat) (w : World) (he : Env w) (hv : ScV w v p rs) (h : Wc p (rs.map Qw.x)) (hd : d ≤ rs.length) (hde : e ≤ rs.length) (hx : x ∈ cls p (rs.map Qw.x) (d : Int)) (hy : y ∈ cls p (rs.map Qw.x) (e : Int)) (ha : Rd w va x) (hb : Rd w vb y) :
    Calls Tryz.prog 26 #[v, va, vb] w fun e w' => e = .returned (.bool (decide (sF p x < sF p y))) ∧ Ext w w' := by
  have hpe : primesErr p = 0 ∧ p.length ≤ 100 := by rcases h.wd.pr with ⟨e, _⟩ | ⟨e, _⟩ <;> rw [e] <;> decide
  have hL : (rs.map Qw.x).length = rs.length := List.length_map ..
  obtain ⟨i, rfl⟩ := h.cls_mem.1 hx
  obtain ⟨j, rfl⟩ := h.cls_mem.1 hy
  have := less32_c v va vb p rs _ _ w he hv hpe.1 hpe.2 ha hb (h.ivlen _ _) (h.ivlen _ _) (h.iv_quick (by omega) (by rw [hL]; omega)).1 (h.iv_quick (by omega) (by rw [hL]; omega)).1 (h.iv_sub_quick (by omega) (by rw [hL]; omega) (by omega) (by rw [hL]; omega))
  rw [h.iv_sgn, decide_eq_decide.2 (show _ ↔ sF p (iv p (rs.map Qw.x) i (d : Int)) < sF p (iv p (rs.map Qw.x) j (e : Int)) by rw [sgQ_neg_iff]; constructor <;> intro g <;> grind)] at this
  exact this
/-- A clash in its block. -/
def BoxC (w : World) (b : Nat) (c : Value) : Prop := ∃ u v x y, c = .agg #[u, v, x, y] ∧ Box4 47 w b u v x y
theorem BoxC.ext {w w' : World} {b : Nat} {c : Value} (h : BoxC w b c) (hx : Ext w w') : BoxC w' b c := by
  obtain ⟨u, v, x, y, e, h⟩ := h
  exact ⟨u, v, x, y, e, h.ext hx⟩
theorem BoxC.aside {w : World} {b b' : Nat} {c : Value} (h : BoxC w b c) (hne : b ≠ b') (u' v' x' y' : Value) : BoxC ((((w.setCell ⟨b', 0, none⟩ u').setCell ⟨b', 1, none⟩ v').setCell ⟨b', 2, none⟩ x').setCell ⟨b', 3, none⟩ y') b c := by
  obtain ⟨u, v, x, y, e, h⟩ := h
  refine ⟨u, v, x, y, e, ?_⟩
  unfold Box4 at *
  rw [heap_setCell_other _ ⟨b', 3, none⟩ b _ hne, heap_setCell_other _ ⟨b', 2, none⟩ b _ hne, heap_setCell_other _ ⟨b', 1, none⟩ b _ hne, heap_setCell_other _ ⟨b', 0, none⟩ b _ hne]
  exact h
theorem CshV.put4 {w : World} {B c : Nat} {v : Value} {a b : Int} {x y : List Rat} (h : CshV w B v a b x y) (hc : c < B) (u' v' x' y' : Value) : CshV ((((w.setCell ⟨c, 0, none⟩ u').setCell ⟨c, 1, none⟩ v').setCell ⟨c, 2, none⟩ x').setCell ⟨c, 3, none⟩ y') B v a b x y := by
  obtain ⟨u1, u2, e, h1, h2⟩ := h
  exact ⟨u1, u2, e, h1.put4 hc _ _ _ _, h2.put4 hc _ _ _ _⟩
/-- The law's loop: what is true from the class k on. -/
def PrR (p : List Int) (N : List (List Rat)) (Wb : World) (b1 b2 B : Nat) (k : Nat) (i1 i2 : Bool) (wr : World) : Prop :=
  ∃ c1 c2, OrdL p N 1 k wr B c1 i1 ∧ OrdL p N 0 k wr B c2 i2 ∧ BoxC wr b1 c1 ∧ BoxC wr b2 c2 ∧ Ext Wb wr
/-- What two answers on the order have in common. -/
theorem ord_same {p : List Int} {N : List (List Rat)} {m : Int} {w w' : World} {B B' : Nat} {c c' : Value} {is is' : Bool} (h : OrdR p N m w B c is) (k : OrdL p N m 0 w' B' c' is') :
    is = is' ∧ ((c = csh0 ∧ c' = csh0) ∨ ∃ a b x y, CshV w B c a b x y ∧ CshV w' B' c' a b x y ∧ x ∈ cls p N b ∧ y ∈ cls p N a) := by
  rcases h with ⟨rfl, rfl, h⟩ | ⟨rfl, d, x, y, h, hc⟩
  · rcases k with ⟨rfl, rfl, _⟩ | ⟨rfl, d, x, y, _, g2, _, _, g5, _⟩
    · exact ⟨rfl, .inl ⟨rfl, rfl⟩⟩
    · exact absurd (h d g2) g5
  · rcases k with ⟨rfl, rfl, g⟩ | ⟨rfl, d', x', y', _, g2, g3, g4, g5, g6⟩
    · exact absurd (g d (Nat.zero_le _) h.lt) h.no
    · obtain ⟨rfl, rfl, rfl⟩ := h.uniq ⟨g2, fun d h => g3 d (Nat.zero_le _) h, g4, g5⟩
      exact ⟨rfl, .inr ⟨_, _, _, _, hc, g6, List.mem_of_getElem? h.gl.2, List.mem_of_getElem? h.gl.1⟩⟩
theorem clash_eq {p : List Int} {N : List (List Rat)} {w w' W : World} {B B' : Nat} {c c' : Value} (h : Wc p N) (hs : (c = csh0 ∧ c' = csh0) ∨ ∃ a b x y, CshV w B c a b x y ∧ CshV w' B' c' a b x y ∧ x ∈ cls p N b ∧ y ∈ cls p N a) (h1 : Ext w W) (h2 : Ext w' W) :
    Calls Tryz.prog 23 #[c, c'] W fun e w'' => e = .returned (.bool true) ∧ Ext W w'' := by
  have hp : p.length ≤ 100 := by rcases h.wd.pr with ⟨e, _⟩ | ⟨e, _⟩ <;> rw [e] <;> decide
  rcases hs with ⟨rfl, rfl⟩ | ⟨a, b, x, y, ⟨u1, u2, rfl, k1, k2⟩, ⟨v1, v2, rfl, g1, g2⟩, hx, hy⟩
  · have hn : ∀ W : World, Rd W (.slice none 0 0) [] := fun W => .inl ⟨none, 0, rfl, Nat.zero_le _, rfl⟩
    exact equal32_c 0 0 _ _ _ _ [] [] W (hn W) (hn W) (hn W) (hn W) (by simp) (by simp)
  · exact equal32_c a b u1 u2 v1 v2 x y W (h1.ownQ k1).rd (h1.ownQ k2).rd (h2.ownQ g1).rd (h2.ownQ g2).rd (by rw [h.cls_lt hx]; omega) (by rw [h.cls_lt hy]; omega)
theorem ord_one {p : List Int} {N : List (List Rat)} (h : Wc p N) {d : Nat} {x y : List Rat} (hg : Gl p N d x y) : OrdOk p N 1 d ↔ ¬ sF p y < sF p x := by
  have hs := sF_sub p x y (by rw [(h.gl_len hg).1, (h.gl_len hg).2])
  constructor
  · intro ho
    have := ho x y hg
    rw [sgQ_one_iff, hs] at this
    grind
  · intro hn x' y' hg'
    obtain ⟨rfl, rfl⟩ := Gl.uniq hg hg'
    rw [sgQ_one_iff, hs]
    grind
theorem ord_zero {p : List Int} {N : List (List Rat)} (h : Wc p N) {d : Nat} {x y : List Rat} (hg : Gl p N d x y) : OrdOk p N 0 d ↔ sF p x < sF p y := by
  have hs := sF_sub p x y (by rw [(h.gl_len hg).1, (h.gl_len hg).2])
  constructor
  · intro ho
    have := ho x y hg
    rw [sgQ_neg_iff, hs] at this
    grind
  · intro hn x' y' hg'
    obtain ⟨rfl, rfl⟩ := Gl.uniq hg hg'
    rw [sgQ_neg_iff, hs]
    grind
end Go.Proofs.YtaakmdjicocjpaaGreatDoor

namespace Go.Proofs.YtaakmdjicocjpaaGreatDoor
open Go.RowKit Go.Lib Go.Shelf
attribute [local go_sem] Oper.semAt_some
theorem CstR.shape {p : List Int} {N : List (List Rat)} {w : World} {B : Nat} {c : Value} {is : Bool} (h : CstR p N w B c is) : ∃ i1 i2 a1 n1 c1 a2 n2 c2, c = .agg #[.int .i64 i1, .int .i64 i2, .slice a1 n1 c1, .slice a2 n2 c2] := by
  rcases h with ⟨_, h, _⟩ | ⟨_, d, u, i, x, _, u1, u2, h, h1, h2⟩
  · exact ⟨_, _, _, _, _, _, _, _, h⟩
  · obtain ⟨a1, c1, rfl⟩ := own_shape h1
    obtain ⟨a2, c2, rfl⟩ := own_shape h2
    exact ⟨_, _, _, _, _, _, _, _, h⟩
theorem take_more {l : List (List Rat)} {i : Nat} {x : List Rat} {P : List Rat → Prop} (hx : l[i]? = some x) (ht : ∀ y ∈ l.take i, P y) (hn : P x) : ∀ y ∈ l.take (i + 1), P y := fun y hy => by
  rw [List.take_add_one, hx] at hy
  rcases List.mem_append.1 hy with g | g
  · exact ht y g
  · have : y = x := by simpa using g
    rw [this]; exact hn
theorem constants_c (a : Wl) (w : World) (he : Env w) (ha : a.Ok) :
    Calls Tryz.prog 4 #[a.v] w fun e w' => e = .returned (.bool true) ∧ Ext w w' := by
  have hkn := fun W (hE : Ext w W) => known32_c W (he.ext hE)
  have hmk := fun W (hE : Ext w W) => lMake_c a W (he.ext hE) ha
  have hrl := wl_box a w
  have hun := Tryz.underlying26
  have hin := wl_info a
  have hE0 : Ext w (w.alloc (.cells a.cs 26)) := (Ext.refl w).alloc _
  have Hkn := Lib.hid hkn; have Hmk := Lib.hid hmk; have Hrl := Lib.hid hrl; have Hun := Lib.hid hun; have Hin := Lib.hid hin; have HE0 := Lib.hid hE0; clear hkn hmk hrl hun hin hE0
  have He := Lib.hid he; clear he ha
  have hv : a.v = .agg a.cs := rfl
  have Hv := Lib.hid hv
  rw [hv]
  clear hv
  rw [wl_cs]
  go_enter Tryz.func4, Tryz.ntmps4
  rw [← wl_cs]
  go_wp2_with fail
  refine (Hkn.out _ HE0.out).mono ?_
  rintro e w1 ⟨rfl, hx1⟩
  have hrl1 := Hrl.out w1 hx1
  have Hx1 := Lib.hid (HE0.out.trans hx1); have Hrl1 := Lib.hid hrl1
  clear hx1 hrl1
  have Hmk1 := Lib.hid (Hmk.out w1 Hx1.out)
  go_wp2_with (refine wpList_load_mid rfl 26 (.tmp 1) rfl w.heap.size 0 rfl a.cs.toList _ Hrl1.out Hun.out rfl Hin.out ?_)
  rw [← Hv.out]
  refine Hmk1.out.mono ?_
  rintro e w2 ⟨v2, rs, rfl, hs2, hc2, hx2⟩
  have hw2 := wl_wc a hc2
  obtain ⟨a2, c2, b2, d2, rfl, hs2⟩ := scv_cut hs2
  have hL : (rs.map Qw.x).length = rs.length := List.length_map ..
  have hfew := hw2.wd.few
  have hpos := hw2.wd.pos
  rw [hL] at hfew hpos
  have hlp : a.p.length ≤ 100 ∧ primesErr a.p = 0 := by rcases a.pw with e | e <;> rw [e] <;> decide
  have hb2 := BoxT.new 32 w2 (.slice a2 a.p.length c2) (.slice b2 rs.length d2)
  have hE2 := (Ext.refl w2).alloc (.cells #[.slice a2 a.p.length c2, .slice b2 rs.length d2] 32)
  have Hx2 := Lib.hid ((Hx1.out.trans hx2).trans hE2); have Hs2 := Lib.hid (hs2.ext hE2); have Hw2 := Lib.hid hw2; have Hb2 := Lib.hid hb2; have HL := Lib.hid hL; have Hlp := Lib.hid hlp
  have q0 := hb2.c0
  have q1 := hb2.c1
  clear hx2 hs2 hw2 hb2 hE2 hc2 hL hlp
  have hcs := constant_c _ a.p rs _ (He.out.ext Hx2.out) Hs2.out Hw2.out
  have hsz := fun (d : Nat) (hd : d ≤ rs.length) W (hE : Ext (w2.alloc (.cells #[.slice a2 a.p.length c2, .slice b2 rs.length d2] 32)) W) => (lsizes_c _ a.p rs d W (He.out.ext (Hx2.out.trans hE)) (Hs2.out.ext hE) Hw2.out hd).mono (R' := fun e w' => ∃ g c, e = .returned (.slice (some ⟨g, 0, none⟩) (cls a.p (rs.map Qw.x) (d : Int)).length c) ∧ (∀ i x, (cls a.p (rs.map Qw.x) (d : Int))[i]? = some x → ∃ ax cx, w'.cell? ⟨g, i, none⟩ = some (.slice ax a.p.length cx) ∧ OwnQ w' W.heap.size (.slice ax a.p.length cx) x) ∧ Ext W w') fun e w' ⟨u, h1, out, h2, h3, h4⟩ => by
    obtain ⟨g, c, rfl, hr⟩ := cls_row Hw2.out h2 h3
    exact ⟨g, c, h1, hr, h4⟩
  have hcl := fun (d : Nat) => cls_len (p := a.p) (N := rs.map Qw.x) (d := (d : Int))
  have hxl := fun (d : Nat) x (hx : x ∈ cls a.p (rs.map Qw.x) (d : Int)) => Hw2.out.cls_lt hx
  rw [HL.out] at hcl
  have Hcs := Lib.hid hcs; have Hsz := Lib.hid hsz; have Hcl := Lib.hid hcl; have Hxl := Lib.hid hxl; clear hcs hsz hcl hxl
  clear Hmk1 Hkn Hmk Hrl Hrl1 Hun Hin
  generalize hN : rs.length = n at *
  have HN := Lib.hid hN
  clear hN
  go_wp2_with fail
  generalize w2.alloc (.cells #[.slice a2 a.p.length c2, .slice b2 n d2] 32) = W2 at *
  refine Hcs.out.mono ?_
  rintro e w3 ⟨⟨v3, is3, rfl, ho3⟩, hx3⟩
  obtain ⟨i1, i2, a3, n3, c3, a4, n4, c4, rfl⟩ := CstR.shape ho3
  have hb3 := Box4.new 47 w3 (.int .i64 i1) (.int .i64 i2) (.slice a3 n3 c3) (.slice a4 n4 c4)
  have hE3 := (Ext.refl w3).alloc (.cells #[.int .i64 i1, .int .i64 i2, .slice a3 n3 c3, .slice a4 n4 c4] 47)
  have H3 := Lib.hid (hx3.trans hE3)
  have HO3 := Lib.hid ho3; have HB3 := Lib.hid hb3; have HE3 := Lib.hid hE3
  clear ho3 hb3 hx3 hE3 q0 q1
  go_wp2_with fail
  generalize w3.alloc (.cells #[.int .i64 i1, .int .i64 i2, .slice a3 n3 c3, .slice a4 n4 c4] 47) = W3 at *
  go_loopw [7] (fun v7 wr => ∃ d : Nat, v7 = .int .i64 (d : Int) ∧ d ≤ n + 1 ∧ Hid (∀ d' u' : Nat, d' < d → d' < u' → u' ≤ n → Dj a.p (rs.map Qw.x) d' u') ∧ Hid (Ext W3 wr)) (fun v7 _ => n + 2 - (intOf v7).toNat)
  case atStart => exact ⟨0, rfl, Nat.zero_le _, Lib.hid (fun _ _ h => absurd h (Nat.not_lt_zero _)), Lib.hid (Ext.refl _)⟩
  case round =>
    obtain ⟨d, rfl, hd, Hbef, HE⟩ := hrel
    have h23 := H3.out.trans HE.out
    have q0 := (Hb2.out.ext h23).c0
    have q1 := (Hb2.out.ext h23).c1
    by_cases hdn : d ≤ n
    · have hik : (d : Int) ≤ (n : Int) := by omega
      have e2 : IntKind.i64.wrap ((d : Int) + 1) = (d : Int) + 1 := IntWalk.i64_in _ (by omega)
      have hsd := Hsz.out d hdn wr h23
      have Hsd := Lib.hid hsd; have H23 := Lib.hid h23
      clear hsd h23
      go_wp2_with fail
      refine Hsd.out.mono ?_
      rintro e VA ⟨gA, cA, rfl, hrA, hxA⟩
      have hlA := Hcl.out d
      have hatA : ∀ i, i < (cls a.p (rs.map Qw.x) (d : Int)).length → ∃ x, (cls a.p (rs.map Qw.x) (d : Int))[i]? = some x := fun i hi => ⟨_, List.getElem?_eq_getElem hi⟩
      have hallA : ∀ (u : Nat) i, (cls a.p (rs.map Qw.x) (d : Int)).length ≤ i → (∀ y ∈ (cls a.p (rs.map Qw.x) (d : Int)).take i, y ∉ cls a.p (rs.map Qw.x) (u : Int)) → Dj a.p (rs.map Qw.x) d u := fun u i hi ht y hy => ht y (by rw [List.take_of_length_le hi]; exact hy)
      have HrA := Lib.hid hrA; have HAt := Lib.hid hatA; have HAl := Lib.hid hallA; have HxA := Lib.hid (HE.out.trans hxA)
      clear hrA hatA hallA hxA q0 q1
      generalize (cls a.p (rs.map Qw.x) (d : Int)).length = zA at *
      go_wp2_with fail
      obtain ⟨wa, hwa⟩ : ∃ wa, wa = wr := ⟨_, rfl⟩
      subst hwa
      go_loopw [9] (fun v9 wr => ∃ u : Nat, v9 = .int .i64 (u : Int) ∧ d < u ∧ u ≤ n + 1 ∧ Hid (∀ u' : Nat, d < u' → u' < u → Dj a.p (rs.map Qw.x) d u') ∧ Hid (Ext VA wr)) (fun v9 _ => n + 2 - (intOf v9).toNat)
      case atStart => exact ⟨d + 1, by go_num, by omega, by omega, Lib.hid (fun u' h1 h2 => by omega), Lib.hid (Ext.refl _)⟩
      case round =>
        obtain ⟨u, rfl, hdu, hu, Hrow, HE2⟩ := hrel
        have h23 := H3.out.trans (HxA.out.trans HE2.out)
        have q0 := (Hb2.out.ext h23).c0
        have q1 := (Hb2.out.ext h23).c1
        by_cases hun : u ≤ n
        · have huk : (u : Int) ≤ (n : Int) := by omega
          have hsu := Hsz.out u hun wr h23
          have Hsu := Lib.hid hsu
          clear hsu h23
          go_wp2_with fail
          refine Hsu.out.mono ?_
          rintro e VB ⟨gB, cB, rfl, hrB, hxB⟩
          have hlB := Hcl.out u
          have hatB : ∀ i, i < (cls a.p (rs.map Qw.x) (u : Int)).length → ∃ x, (cls a.p (rs.map Qw.x) (u : Int))[i]? = some x := fun i hi => ⟨_, List.getElem?_eq_getElem hi⟩
          have hallB : ∀ (x : List Rat) i, (cls a.p (rs.map Qw.x) (u : Int)).length ≤ i → (∀ y ∈ (cls a.p (rs.map Qw.x) (u : Int)).take i, x ≠ y) → x ∉ cls a.p (rs.map Qw.x) (u : Int) := fun x i hi ht hx => ht x (by rw [List.take_of_length_le hi]; exact hx) rfl
          have HrB := Lib.hid hrB; have HBt := Lib.hid hatB; have HBl := Lib.hid hallB; have HxB := Lib.hid (HE2.out.trans hxB)
          clear hrB hatB hallB hxB q0 q1
          generalize (cls a.p (rs.map Qw.x) (u : Int)).length = zB at *
          go_wp2_with fail
          obtain ⟨wb, hwb⟩ : ∃ wb, wb = wr := ⟨_, rfl⟩
          subst hwb
          go_loopw [11] (fun v11 wr => ∃ i : Nat, v11 = .int .i64 (i : Int) ∧ i ≤ zA ∧ Hid (∀ y ∈ (cls a.p (rs.map Qw.x) (d : Int)).take i, y ∉ cls a.p (rs.map Qw.x) (u : Int)) ∧ Hid (Ext VB wr)) (fun v11 _ => zA + 1 - (intOf v11).toNat)
          case atStart => exact ⟨0, rfl, Nat.zero_le _, Lib.hid (fun y hy => by simp at hy), Lib.hid (Ext.refl _)⟩
          case round =>
            obtain ⟨i, rfl, hi, HTk, HE3'⟩ := hrel
            by_cases hiz : i < zA
            · have hiz2 : (i : Int) < (zA : Int) := by omega
              have i7 : (0 : Int) ≤ (i : Int) := by omega
              obtain ⟨x, hx⟩ := HAt.out i hiz
              obtain ⟨ax, cx, hcx, hox⟩ := HrA.out i x hx
              have Hx := Lib.hid hx; have Hcx := Lib.hid hcx; have Hox := Lib.hid hox
              clear hx hcx hox
              go_wp2_with fail
              obtain ⟨wc, hwc⟩ : ∃ wc, wc = wr := ⟨_, rfl⟩
              subst hwc
              go_loopw [12] (fun v12 wr => ∃ k : Nat, v12 = .int .i64 (k : Int) ∧ k ≤ zB ∧ Hid (∀ y ∈ (cls a.p (rs.map Qw.x) (u : Int)).take k, x ≠ y) ∧ Hid (Ext VB wr)) (fun v12 _ => zB + 1 - (intOf v12).toNat)
              case atStart => exact ⟨0, rfl, Nat.zero_le _, Lib.hid (fun y hy => by simp at hy), HE3'⟩
              case round =>
                obtain ⟨k, rfl, hk, HTm, HE4⟩ := hrel
                by_cases hkz : k < zB
                · have hkz2 : (k : Int) < (zB : Int) := by omega
                  have i8 : (0 : Int) ≤ (k : Int) := by omega
                  obtain ⟨y, hy⟩ := HBt.out k hkz
                  obtain ⟨ay, cy, hcy, hoy⟩ := HrB.out k y hy
                  have hAr := HxB.out.trans HE4.out
                  have hS : ∀ W, Ext wr W → Ext wr W ∧ W.cell? ⟨gA, i, none⟩ = some (.slice ax a.p.length cx) ∧ W.cell? ⟨gB, k, none⟩ = some (.slice ay a.p.length cy) := fun W hW => ⟨hW, (hAr.trans hW).cell Hcx.out, (HE4.out.trans hW).cell hcy⟩
                  obtain ⟨_, e0, e1⟩ := hS _ (Ext.refl wr).drew
                  have hsm := lSame24_c (.slice ax a.p.length cx) (.slice ay a.p.length cy) x y wr.drew (hAr.drew.ownQ Hox.out).rd (HE4.out.drew.ownQ hoy).rd (by rw [Hxl.out d x (List.mem_of_getElem? Hx.out)]; have := Hlp.out.1; omega) (by rw [Hxl.out u y (List.mem_of_getElem? hy)]; have := Hlp.out.1; omega)
                  have HXr : Hid (Ext wr wr) := Lib.hid (Ext.refl wr)
                  have HS := Lib.hid hS; have Hy := Lib.hid hy; have HAr := Lib.hid hAr
                  clear hS hy hcy hoy hAr
                  by_cases hxy : x = y
                  · subst hxy
                    simp only [decide_true] at hsm
                    have Hsm := Lib.hid hsm; clear hsm
                    go_wp2_with fail
                    go_region_held3 (fun w' => Ext wr w' ∧ w'.cell? ⟨gA, i, none⟩ = some (.slice ax a.p.length cx) ∧ w'.cell? ⟨gB, k, none⟩ = some (.slice ay a.p.length cy))
                      (first | (with_reducible assumption) | exact HS.out _ HXr.out.drew | exact HS.out _ HxC.out)
                      (first | (go_at_call 21; refine Hsm.out.mono ?_; rintro e9 VC ⟨rfl, hxc⟩; have HxC := Lib.hid (HXr.out.drew.trans hxc); clear hxc))
                    have hat : CstAt a.p (rs.map Qw.x) d u i x := ⟨hdu, by rw [HL.out]; exact hun, fun d' u' g1 g2 g3 => Hbef.out d' u' g1 g2 (by rw [HL.out] at g3; exact g3), Hrow.out, HTk.out, Hx.out, List.mem_of_getElem? Hy.out⟩
                    rcases HO3.out with ⟨_, _, h⟩ | ⟨rfl, d', u', i', x', hat', u1, u2, e, o1, o2⟩
                    · exact absurd h hat.not
                    obtain ⟨rfl, rfl, rfl, rfl⟩ := hat'.uniq hat
                    simp only [Value.agg.injEq, Array.mk.injEq, List.cons.injEq, and_true, Value.int.injEq, true_and] at e
                    obtain ⟨rfl, rfl, rfl, rfl⟩ := e
                    have h3C := HE3.out.trans (HxA.out.trans (HxB.out.trans (HE4.out.trans HxC.out)))
                    have b3 := HB3.out.ext (HxA.out.trans (HxB.out.trans (HE4.out.trans HxC.out)))
                    have hS2 : ∀ W, Ext VC W → Ext VC W ∧ W.cell? ⟨gA, i', none⟩ = some (.slice ax a.p.length cx) ∧ W.cell? ⟨w3.heap.size, 0, none⟩ = some (.int .i64 (d' : Int)) ∧ W.cell? ⟨w3.heap.size, 1, none⟩ = some (.int .i64 (u' : Int)) ∧ W.cell? ⟨w3.heap.size, 2, none⟩ = some (.slice a3 n3 c3) ∧ W.cell? ⟨w3.heap.size, 3, none⟩ = some (.slice a4 n4 c4) := fun W hW => ⟨hW, (HS.out W (HxC.out.trans hW)).2.1, (b3.ext hW).c0, (b3.ext hW).c1, (b3.ext hW).c2, (b3.ext hW).c3⟩
                    obtain ⟨_, f0, f1, f2, f3, f4⟩ := hS2 _ (Ext.refl VC).drew
                    have hxl : x'.length ≤ 1000 := by rw [Hxl.out _ x' (List.mem_of_getElem? Hx.out)]; have := Hlp.out.1; omega
                    have heq := equal32_c (d' : Int) (u' : Int) (.slice a3 n3 c3) (.slice a4 n4 c4) (.slice ax a.p.length cx) (.slice ax a.p.length cx) x' x' VC.drew (h3C.drew.ownQ o1).rd (h3C.drew.ownQ o2).rd ((HAr.out.trans HxC.out).drew.ownQ Hox.out).rd ((HAr.out.trans HxC.out).drew.ownQ Hox.out).rd hxl hxl
                    have HXc : Hid (Ext VC VC) := Lib.hid (Ext.refl VC)
                    have Heq := Lib.hid heq; have HS2 := Lib.hid hS2; have Hend := Lib.hid (Hx2.out.trans (H3.out.trans (HxA.out.trans (HxB.out.trans (HE4.out.trans HxC.out)))))
                    clear heq hS2 hat hat' h3C b3 o1 o2 e0 e1 hxl
                    go_wp2_with fail
                    go_region_held3 (fun w' => Ext VC w' ∧ w'.cell? ⟨gA, i', none⟩ = some (.slice ax a.p.length cx) ∧ w'.cell? ⟨w3.heap.size, 0, none⟩ = some (.int .i64 (d' : Int)) ∧ w'.cell? ⟨w3.heap.size, 1, none⟩ = some (.int .i64 (u' : Int)) ∧ w'.cell? ⟨w3.heap.size, 2, none⟩ = some (.slice a3 n3 c3) ∧ w'.cell? ⟨w3.heap.size, 3, none⟩ = some (.slice a4 n4 c4))
                      (first | (with_reducible assumption) | exact HS2.out _ HXc.out.drew | exact HS2.out _ HxD.out)
                      (first | (go_at_call 23; refine Heq.out.mono ?_; rintro e9 VD ⟨rfl, hxd⟩; have HxD := Lib.hid (HXc.out.drew.trans hxd); clear hxd))
                    clear f0 f1 f2 f3 f4
                    go_wp2_with fail
                    go_ret
                    exact ⟨rfl, Hend.out.trans HxD.out⟩
                  · rw [decide_eq_false hxy] at hsm
                    have Hsm := Lib.hid hsm; have Hxy := Lib.hid hxy; clear hsm hxy
                    go_wp2_with fail
                    go_region_held3 (fun w' => Ext wr w' ∧ w'.cell? ⟨gA, i, none⟩ = some (.slice ax a.p.length cx) ∧ w'.cell? ⟨gB, k, none⟩ = some (.slice ay a.p.length cy))
                      (first | (with_reducible assumption) | exact HS.out _ HXr.out.drew | exact HS.out _ HxC.out)
                      (first | (go_at_call 21; refine Hsm.out.mono ?_; rintro e9 VC ⟨rfl, hxc⟩; have HxC := Lib.hid (HXr.out.drew.trans hxc); clear hxc))
                    have HE5 := Lib.hid (HE4.out.trans HxC.out)
                    clear e0 e1
                    go_wp2_with fail
                    go_roundw
                    case rel => exact ⟨k + 1, by go_num, by omega, Lib.hid (take_more Hy.out HTm.out Hxy.out), HE5⟩
                    case measure => simp [intOf]; omega
                · obtain rfl : k = zB := by omega
                  have hkz2 : ¬ (k : Int) < (k : Int) := by omega
                  go_wp2_with fail
                  go_roundw
                  case rel => exact ⟨i + 1, by go_num, by omega, Lib.hid (take_more Hx.out HTk.out (HBl.out x k (Nat.le_refl _) HTm.out)), HE4⟩
                  case measure => simp [intOf]; omega
            · obtain rfl : i = zA := by omega
              have hiz2 : ¬ (i : Int) < (i : Int) := by omega
              go_wp2_with fail
              go_roundw
              case rel => exact ⟨u + 1, by go_num, by omega, by omega, Lib.hid (fun u' h1 h2 => by
                rcases Nat.lt_or_ge u' u with g | g
                · exact Hrow.out u' h1 g
                · obtain rfl : u' = u := by omega
                  exact HAl.out _ _ (Nat.le_refl _) HTk.out), Lib.hid (HxB.out.trans HE3'.out)⟩
              case measure => simp [intOf]; omega
        · obtain rfl : u = n + 1 := by omega
          have huk : ¬ ((n + 1 : Nat) : Int) ≤ (n : Int) := by omega
          clear h23
          go_wp2_with fail
          go_roundw
          case rel => exact ⟨d + 1, by go_num, by omega, Lib.hid (fun d' u' h1 h2 h3 => by
            rcases Nat.lt_or_ge d' d with g | g
            · exact Hbef.out d' u' g h2 h3
            · obtain rfl : d' = d := by omega
              exact Hrow.out u' h2 (by omega)), Lib.hid (HxA.out.trans HE2.out)⟩
          case measure => simp [intOf]; omega
    · obtain rfl : d = n + 1 := by omega
      have hik : ¬ ((n + 1 : Nat) : Int) ≤ (n : Int) := by omega
      have hcst : Cst a.p (rs.map Qw.x) := fun d' u' g1 g2 x hx => Hbef.out d' u' (by rw [HL.out] at g2; omega) g1 (by rw [HL.out] at g2; exact g2) x hx
      rcases HO3.out with ⟨rfl, e, _⟩ | ⟨_, d', u', i', x', hat', _⟩
      case inr => exact absurd hcst hat'.not
      unfold csh0 at e
      simp only [Value.agg.injEq, Array.mk.injEq, List.cons.injEq, and_true, Value.int.injEq, true_and, Value.slice.injEq] at e
      obtain ⟨rfl, rfl, ⟨rfl, rfl, rfl⟩, rfl, rfl, rfl⟩ := e
      have b3 := HB3.out.ext HE.out
      have s0 := b3.c0; have s1 := b3.c1; have s2 := b3.c2; have s3 := b3.c3
      have hn : ∀ W : World, Rd W (.slice none 0 0) [] := fun W => .inl ⟨none, 0, rfl, Nat.zero_le _, rfl⟩
      have heq := equal32_c 0 0 _ _ _ _ [] [] wr (hn wr) (hn wr) (hn wr) (hn wr) (by simp) (by simp)
      have Heq := Lib.hid heq; have Hend := Lib.hid (Hx2.out.trans h23)
      clear heq hn b3 h23 hcst
      go_wp2_with fail
      refine Heq.out.mono ?_
      rintro e W9 ⟨rfl, hx9⟩
      have Hx9 := Lib.hid (Hend.out.trans hx9)
      clear hx9
      go_wp2
      go_ret
      exact ⟨rfl, Hx9.out⟩
end Go.Proofs.YtaakmdjicocjpaaGreatDoor
