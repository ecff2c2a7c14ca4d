/- Walks: law 32's equal (of clashes that are equal); classes in order from a class on. Walks: class.classed, class.Sizes. Walks: the law ClassInverts. -/
import Derived.Test.YtaakmdjicocjpaaGreatDoorPb34
import Derived.Test.YtaakmdjicocjpaaGreatDoorPb31
import Derived.Test.YtaakmdjicocjpaaGreatDoorPb37
set_option maxRecDepth 100000
set_option maxHeartbeats 4000000
namespace Go.Proofs.YtaakmdjicocjpaaGreatDoor
open Go.RowKit Go.Lib Go.Shelf
attribute [local go_sem] Oper.semAt_some
theorem equal32_c (a b : Int) (u1 u2 v1 v2 : Value) (x y : List Rat) (w : World) (h1 : Rd w u1 x) (h2 : Rd w u2 y) (g1 : Rd w v1 x) (g2 : Rd w v2 y) (hx : x.length ≤ 1000) (hy : y.length ≤ 1000) :
    Calls Tryz.prog 23 #[.agg #[.int .i64 a, .int .i64 b, u1, u2], .agg #[.int .i64 a, .int .i64 b, v1, v2]] w fun e w' => e = .returned (.bool true) ∧ Ext w w' := by
  have hs1 := fun W (hE : Ext w W) => lSame24_c u1 v1 x x W (hE.rd h1) (hE.rd g1) hx hx
  have hs2 := fun W (hE : Ext w W) => lSame24_c u2 v2 y y W (hE.rd h2) (hE.rd g2) hy hy
  simp only [decide_true] at hs1 hs2
  obtain ⟨a1, c1, rfl, _, _, _⟩ := h1.parts
  obtain ⟨a2, c2, rfl, _, _, _⟩ := h2.parts
  obtain ⟨a3, c3, rfl, _, _, _⟩ := g1.parts
  obtain ⟨a4, c4, rfl, _, _, _⟩ := g2.parts
  generalize x.length = lx at *
  generalize y.length = ly at *
  have b1 := (Box4.new 47 w (.int .i64 a) (.int .i64 b) (.slice a1 lx c1) (.slice a2 ly c2)).ext ((Ext.refl _).alloc (.cells #[.int .i64 a, .int .i64 b, .slice a3 lx c3, .slice a4 ly c4] 47))
  have b2 := Box4.new 47 (w.alloc (.cells #[.int .i64 a, .int .i64 b, .slice a1 lx c1, .slice a2 ly c2] 47)) (.int .i64 a) (.int .i64 b) (.slice a3 lx c3) (.slice a4 ly c4)
  rw [World.size_alloc] at b2
  have hE0 : Ext w ((w.alloc (.cells #[.int .i64 a, .int .i64 b, .slice a1 lx c1, .slice a2 ly c2] 47)).alloc (.cells #[.int .i64 a, .int .i64 b, .slice a3 lx c3, .slice a4 ly c4] 47)) := ((Ext.refl w).alloc _).alloc _
  have q0 := b1.c0; have q1 := b1.c1; have q2 := b1.c2; have q3 := b1.c3
  have r0 := b2.c0; have r1 := b2.c1; have r2 := b2.c2; have r3 := b2.c3
  have Hs1 := Lib.hid hs1; have Hs2 := Lib.hid hs2; have HE0 := Lib.hid hE0; have B1 := Lib.hid b1; have B2 := Lib.hid b2; clear hs1 hs2 hE0 b1 b2
  clear h1 h2 g1 g2
  go_enter Tryz.func23, Tryz.ntmps23
  go_wp2_with fail
  refine (Hs1.out _ HE0.out).mono ?_
  rintro e w3 ⟨rfl, hx3⟩
  have q3 := (B1.out.ext hx3).c3
  have r3 := (B2.out.ext hx3).c3
  have H3 := Lib.hid (HE0.out.trans hx3)
  clear hx3 q0 q1 q2 r0 r1 r2
  go_wp2_with fail
  refine (Hs2.out _ H3.out).mono ?_
  rintro e w4 ⟨rfl, hx4⟩
  have H4 := Lib.hid (H3.out.trans hx4)
  clear hx4 q3 r3
  go_wp2
  go_ret
  exact ⟨rfl, H4.out⟩
/-- The sizes of a class in memory. -/
theorem cls_row {w : World} {B : Nat} {p : List Int} {N : List (List Rat)} {d : Nat} {u : Value} {out : List Qw} (h : Wc p N) (hq : QwM w B B u out) (hm : out.map Qw.x = cls p N (d : Int)) :
    ∃ g c, u = .slice (some ⟨g, 0, none⟩) (cls p N (d : Int)).length c ∧ ∀ i x, (cls p N (d : Int))[i]? = some x → ∃ ax cx, w.cell? ⟨g, i, none⟩ = some (.slice ax p.length cx) ∧ OwnQ w B (.slice ax p.length cx) x := by
  have hp := h.cls_pos (d : Int)
  have hl : out.length = (cls p N (d : Int)).length := by rw [← hm, List.length_map]
  obtain ⟨g, c, rfl, hc⟩ := own_slice hq.1 (by omega)
  refine ⟨g, c, by rw [hl], fun i x hx => ?_⟩
  have hx' := hx
  rw [← hm, List.getElem?_map] at hx
  obtain ⟨r, hr, e⟩ := Option.map_eq_some_iff.1 hx
  have ho := hq.2 r (List.mem_of_getElem? hr)
  rw [e] at ho
  obtain ⟨ax, cx, eu⟩ := own_shape ho
  rw [h.cls_lt (List.mem_of_getElem? hx')] at eu
  have hcc := hc i r.u (by unfold qwc; rw [List.getElem?_map, hr]; rfl)
  rw [eu] at hcc ho
  exact ⟨ax, cx, hcc, ho⟩
/-- In order from the class k on, or the first class from there that is not. -/
def OrdL (p : List Int) (N : List (List Rat)) (m : Int) (k : Nat) (w : World) (B : Nat) (c : Value) (is : Bool) : Prop :=
  (is = true ∧ c = csh0 ∧ ∀ d, k ≤ d → d < N.length → OrdOk p N m d) ∨ (is = false ∧ ∃ (d : Nat) (x y : List Rat), k ≤ d ∧ d < N.length ∧ (∀ d', k ≤ d' → d' < d → OrdOk p N m d') ∧ Gl p N d x y ∧ ¬ OrdOk p N m d ∧ CshV w B c (d : Int) ((d + 1 : Nat) : Int) y x)
theorem OrdL.start (p : List Int) (N : List (List Rat)) (m : Int) (w : World) (B : Nat) : OrdL p N m N.length w B csh0 true := .inl ⟨rfl, rfl, fun d h1 h2 => by omega⟩
theorem OrdL.keep {p : List Int} {N : List (List Rat)} {m : Int} {k : Nat} {w : World} {B : Nat} {c : Value} {is : Bool} (h : OrdL p N m (k + 1) w B c is) (ho : OrdOk p N m k) : OrdL p N m k w B c is := by
  rcases h with ⟨h1, h2, h3⟩ | ⟨h1, d, x, y, g1, g2, g3, g4⟩
  · refine .inl ⟨h1, h2, fun d a b => ?_⟩
    rcases (by omega : d = k ∨ k + 1 ≤ d) with e | e
    · rw [e]; exact ho
    · exact h3 d e b
  · refine .inr ⟨h1, d, x, y, by omega, g2, fun d' a b => ?_, g4⟩
    rcases (by omega : d' = k ∨ k + 1 ≤ d') with e | e
    · rw [e]; exact ho
    · exact g3 d' e b
theorem OrdL.new {p : List Int} {N : List (List Rat)} {m : Int} {k : Nat} {w : World} {B : Nat} {c : Value} {x y : List Rat} (hk : k < N.length) (hg : Gl p N k x y) (ho : ¬ OrdOk p N m k) (hc : CshV w B c (k : Int) ((k + 1 : Nat) : Int) y x) : OrdL p N m k w B c false :=
  .inr ⟨rfl, k, x, y, Nat.le_refl _, hk, fun d a b => by omega, hg, ho, hc⟩
theorem OrdL.mem {p : List Int} {N : List (List Rat)} {m : Int} {k : Nat} {w w' : World} {B : Nat} {c : Value} {is : Bool} (h : OrdL p N m k w B c is) (hk : ∀ a b x y, CshV w B c a b x y → CshV w' B c a b x y) : OrdL p N m k w' B c is := by
  rcases h with h | ⟨h1, d, x, y, g1, g2, g3, g4, g5, g6⟩
  · exact .inl h
  · exact .inr ⟨h1, d, x, y, g1, g2, g3, g4, g5, hk _ _ _ _ g6⟩
theorem OrdR.shape {p : List Int} {N : List (List Rat)} {m : Int} {w : World} {B : Nat} {c : Value} {is : Bool} (h : OrdR p N m w B c is) : ∃ i1 i2 a1 n1 c1 a2 n2 c2, c = .agg #[.int .i64 i1, .int .i64 i2, .slice a1 n1 c1, .slice a2 n2 c2] := by
  rcases h with ⟨_, h, _⟩ | ⟨_, d, x, y, _, u1, u2, h, h1, h2⟩
  · exact ⟨_, _, _, _, _, _, _, _, h⟩
  · obtain ⟨a1, c1, rfl⟩ := own_shape h1
    obtain ⟨a2, c2, rfl⟩ := own_shape h2
    exact ⟨_, _, _, _, _, _, _, _, h⟩
theorem OrdL.shape {p : List Int} {N : List (List Rat)} {m : Int} {k : Nat} {w : World} {B : Nat} {c : Value} {is : Bool} (h : OrdL p N m k w B c is) : ∃ i1 i2 a1 n1 c1 a2 n2 c2, c = .agg #[.int .i64 i1, .int .i64 i2, .slice a1 n1 c1, .slice a2 n2 c2] := by
  rcases h with ⟨_, h, _⟩ | ⟨_, d, x, y, _, _, _, _, _, u1, u2, h, h1, h2⟩
  · exact ⟨_, _, _, _, _, _, _, _, h⟩
  · obtain ⟨a1, c1, rfl⟩ := own_shape h1
    obtain ⟨a2, c2, rfl⟩ := own_shape h2
    exact ⟨_, _, _, _, _, _, _, _, h⟩
theorem Box4.aside {T : TypeId} {w : World} {b b' : Nat} {u v x y : Value} (h : Box4 T w b u v x y) (hne : b ≠ b') (u' v' x' y' : Value) : Box4 T ((((w.setCell ⟨b', 0, none⟩ u').setCell ⟨b', 1, none⟩ v').setCell ⟨b', 2, none⟩ x').setCell ⟨b', 3, none⟩ y') b u v x y := by
  unfold Box4 at *
  rw [heap_setCell_other _ ⟨b', 3, none⟩ b _ hne, heap_setCell_other _ ⟨b', 2, none⟩ b _ hne, heap_setCell_other _ ⟨b', 1, none⟩ b _ hne, heap_setCell_other _ ⟨b', 0, none⟩ b _ hne]
  exact h
theorem Box4.lt {T : TypeId} {w : World} {b : Nat} {u v x y : Value} (h : Box4 T w b u v x y) : b < w.heap.size := (Array.getElem?_eq_some_iff.1 h).1
/-- Two sizes of classes compare. -/
theorem cless_c (v va vb : Value) (p : List Int) (rs : List Qw) (d e : Nat) (x y : List Rat) (w : World) (he : Env w) (hv : ScV w v p rs) (h : Wc p (rs.map Qw.x)) (hd : d ≤ rs.length) (hde : e ≤ rs.length) (hx : x ∈ cls p (rs.map Qw.x) (d : Int)) (hy : y ∈ cls p (rs.map Qw.x) (e : Int)) (ha : Rd w va x) (hb : Rd w vb y) :
    Calls Tryz.prog 26 #[v, va, vb] w fun e w' => e = .returned (.bool (decide (sF p x < sF p y))) ∧ Ext w w' := by
  have hpe : primesErr p = 0 ∧ p.length ≤ 100 := by rcases h.wd.pr with ⟨e, _⟩ | ⟨e, _⟩ <;> rw [e] <;> decide
  have hL : (rs.map Qw.x).length = rs.length := List.length_map ..
  obtain ⟨i, rfl⟩ := h.cls_mem.1 hx
  obtain ⟨j, rfl⟩ := h.cls_mem.1 hy
  have := less32_c v va vb p rs _ _ w he hv hpe.1 hpe.2 ha hb (h.ivlen _ _) (h.ivlen _ _) (h.iv_quick (by omega) (by rw [hL]; omega)).1 (h.iv_quick (by omega) (by rw [hL]; omega)).1 (h.iv_sub_quick (by omega) (by rw [hL]; omega) (by omega) (by rw [hL]; omega))
  rw [h.iv_sgn, decide_eq_decide.2 (show _ ↔ sF p (iv p (rs.map Qw.x) i (d : Int)) < sF p (iv p (rs.map Qw.x) j (e : Int)) by rw [sgQ_neg_iff]; constructor <;> intro g <;> grind)] at this
  exact this
theorem CstR.shape {p : List Int} {N : List (List Rat)} {w : World} {B : Nat} {c : Value} {is : Bool} (h : CstR p N w B c is) : ∃ i1 i2 a1 n1 c1 a2 n2 c2, c = .agg #[.int .i64 i1, .int .i64 i2, .slice a1 n1 c1, .slice a2 n2 c2] := by
  rcases h with ⟨_, h, _⟩ | ⟨_, d, u, i, x, _, u1, u2, h, h1, h2⟩
  · exact ⟨_, _, _, _, _, _, _, _, h⟩
  · obtain ⟨a1, c1, rfl⟩ := own_shape h1
    obtain ⟨a2, c2, rfl⟩ := own_shape h2
    exact ⟨_, _, _, _, _, _, _, _, h⟩
/-- A clash in its block. -/
def BoxC (w : World) (b : Nat) (c : Value) : Prop := ∃ u v x y, c = .agg #[u, v, x, y] ∧ Box4 47 w b u v x y
theorem BoxC.ext {w w' : World} {b : Nat} {c : Value} (h : BoxC w b c) (hx : Ext w w') : BoxC w' b c := by
  obtain ⟨u, v, x, y, e, h⟩ := h
  exact ⟨u, v, x, y, e, h.ext hx⟩
theorem BoxC.aside {w : World} {b b' : Nat} {c : Value} (h : BoxC w b c) (hne : b ≠ b') (u' v' x' y' : Value) : BoxC ((((w.setCell ⟨b', 0, none⟩ u').setCell ⟨b', 1, none⟩ v').setCell ⟨b', 2, none⟩ x').setCell ⟨b', 3, none⟩ y') b c := by
  obtain ⟨u, v, x, y, e, h⟩ := h
  refine ⟨u, v, x, y, e, ?_⟩
  unfold Box4 at *
  rw [heap_setCell_other _ ⟨b', 3, none⟩ b _ hne, heap_setCell_other _ ⟨b', 2, none⟩ b _ hne, heap_setCell_other _ ⟨b', 1, none⟩ b _ hne, heap_setCell_other _ ⟨b', 0, none⟩ b _ hne]
  exact h
theorem CshV.put4 {w : World} {B c : Nat} {v : Value} {a b : Int} {x y : List Rat} (h : CshV w B v a b x y) (hc : c < B) (u' v' x' y' : Value) : CshV ((((w.setCell ⟨c, 0, none⟩ u').setCell ⟨c, 1, none⟩ v').setCell ⟨c, 2, none⟩ x').setCell ⟨c, 3, none⟩ y') B v a b x y := by
  obtain ⟨u1, u2, e, h1, h2⟩ := h
  exact ⟨u1, u2, e, h1.put4 hc _ _ _ _, h2.put4 hc _ _ _ _⟩
/-- The law's loop: what is true from the class k on. -/
def PrR (p : List Int) (N : List (List Rat)) (Wb : World) (b1 b2 B : Nat) (k : Nat) (i1 i2 : Bool) (wr : World) : Prop :=
  ∃ c1 c2, OrdL p N 1 k wr B c1 i1 ∧ OrdL p N 0 k wr B c2 i2 ∧ BoxC wr b1 c1 ∧ BoxC wr b2 c2 ∧ Ext Wb wr
/-- What two answers on the order have in common. -/
theorem ord_same {p : List Int} {N : List (List Rat)} {m : Int} {w w' : World} {B B' : Nat} {c c' : Value} {is is' : Bool} (h : OrdR p N m w B c is) (k : OrdL p N m 0 w' B' c' is') :
    is = is' ∧ ((c = csh0 ∧ c' = csh0) ∨ ∃ a b x y, CshV w B c a b x y ∧ CshV w' B' c' a b x y ∧ x ∈ cls p N b ∧ y ∈ cls p N a) := by
  rcases h with ⟨rfl, rfl, h⟩ | ⟨rfl, d, x, y, h, hc⟩
  · rcases k with ⟨rfl, rfl, _⟩ | ⟨rfl, d, x, y, _, g2, _, _, g5, _⟩
    · exact ⟨rfl, .inl ⟨rfl, rfl⟩⟩
    · exact absurd (h d g2) g5
  · rcases k with ⟨rfl, rfl, g⟩ | ⟨rfl, d', x', y', _, g2, g3, g4, g5, g6⟩
    · exact absurd (g d (Nat.zero_le _) h.lt) h.no
    · obtain ⟨rfl, rfl, rfl⟩ := h.uniq ⟨g2, fun d h => g3 d (Nat.zero_le _) h, g4, g5⟩
      exact ⟨rfl, .inr ⟨_, _, _, _, hc, g6, List.mem_of_getElem? h.gl.2, List.mem_of_getElem? h.gl.1⟩⟩
theorem clash_eq {p : List Int} {N : List (List Rat)} {w w' W : World} {B B' : Nat} {c c' : Value} (h : Wc p N) (hs : (c = csh0 ∧ c' = csh0) ∨ ∃ a b x y, CshV w B c a b x y ∧ CshV w' B' c' a b x y ∧ x ∈ cls p N b ∧ y ∈ cls p N a) (h1 : Ext w W) (h2 : Ext w' W) :
    Calls Tryz.prog 23 #[c, c'] W fun e w'' => e = .returned (.bool true) ∧ Ext W w'' := by
  have hp : p.length ≤ 100 := by rcases h.wd.pr with ⟨e, _⟩ | ⟨e, _⟩ <;> rw [e] <;> decide
  rcases hs with ⟨rfl, rfl⟩ | ⟨a, b, x, y, ⟨u1, u2, rfl, k1, k2⟩, ⟨v1, v2, rfl, g1, g2⟩, hx, hy⟩
  · have hn : ∀ W : World, Rd W (.slice none 0 0) [] := fun W => .inl ⟨none, 0, rfl, Nat.zero_le _, rfl⟩
    exact equal32_c 0 0 _ _ _ _ [] [] W (hn W) (hn W) (hn W) (hn W) (by simp) (by simp)
  · exact equal32_c a b u1 u2 v1 v2 x y W (h1.ownQ k1).rd (h1.ownQ k2).rd (h2.ownQ g1).rd (h2.ownQ g2).rd (by rw [h.cls_lt hx]; omega) (by rw [h.cls_lt hy]; omega)
theorem ord_one {p : List Int} {N : List (List Rat)} (h : Wc p N) {d : Nat} {x y : List Rat} (hg : Gl p N d x y) : OrdOk p N 1 d ↔ ¬ sF p y < sF p x := by
  have hs := sF_sub p x y (by rw [(h.gl_len hg).1, (h.gl_len hg).2])
  constructor
  · intro ho
    have := ho x y hg
    rw [sgQ_one_iff, hs] at this
    grind
  · intro hn x' y' hg'
    obtain ⟨rfl, rfl⟩ := Gl.uniq hg hg'
    rw [sgQ_one_iff, hs]
    grind
theorem ord_zero {p : List Int} {N : List (List Rat)} (h : Wc p N) {d : Nat} {x y : List Rat} (hg : Gl p N d x y) : OrdOk p N 0 d ↔ sF p x < sF p y := by
  have hs := sF_sub p x y (by rw [(h.gl_len hg).1, (h.gl_len hg).2])
  constructor
  · intro ho
    have := ho x y hg
    rw [sgQ_neg_iff, hs] at this
    grind
  · intro hn x' y' hg'
    obtain ⟨rfl, rfl⟩ := Gl.uniq hg hg'
    rw [sgQ_neg_iff, hs]
    grind
end Go.Proofs.YtaakmdjicocjpaaGreatDoor

namespace Go.Proofs.YtaakmdjicocjpaaGreatDoor
open Go.RowKit Go.Lib Go.Shelf
attribute [local go_sem] Oper.semAt_some
theorem classed_c (v : Value) (p : List Int) (rs : List Qw) (d : Nat) (w : World) (he : Env w) (hv : ScV w v p rs) (h : Wc p (rs.map Qw.x)) (hd : d ≤ rs.length) :
    Calls Tryz.prog 70 #[v, .int .i64 (d : Int)] w fun e w' => ∃ u, e = .returned (.tuple #[u, .int .i64 0]) ∧ Vw w' u p rs ∧ Ext w w' := by
  have hlk := fun W (hE : Ext w W) => look_c v p rs W (he.ext hE) (hv.ext hE) h.wd
  have hfew := h.wd.few
  rw [List.length_map] at hfew
  obtain ⟨vp, vn, rfl, hp, hs, hmr⟩ := hv
  obtain ⟨ap, cp, rfl, _, _, _⟩ := hp.parts
  obtain ⟨an, cn, rfl, _, _, _⟩ := hs.parts
  rw [i64s_length] at *
  rw [qwc_length] at *
  generalize rs.length = n at *
  have hE0 : Ext w (w.alloc (.cells #[.slice ap p.length cp, .slice an n cn] 32)) := (Ext.refl w).alloc _
  have b1 := BoxT.new 32 w (.slice ap p.length cp) (.slice an n cn)
  have Hlk := Lib.hid hlk; have HE0 := Lib.hid hE0; have B1 := Lib.hid b1
  have q0 := b1.c0
  have q1 := b1.c1
  clear hlk hE0 b1 hp hs hmr he h
  go_enter Tryz.func70, Tryz.ntmps70
  go_wp2_with fail
  refine (Hlk.out _ HE0.out).mono ?_
  rintro e w2 ⟨u, rfl, hu, hx2⟩
  have hx := HE0.out.trans hx2
  have q0 := (B1.out.ext hx2).c0
  have q1 := (B1.out.ext hx2).c1
  obtain ⟨b, v1, v2, v3, nts, rfl, hrest⟩ := hu
  have h1 : ¬ (d : Int) < 0 := by omega
  have h2 : ¬ (n : Int) < (d : Int) := by omega
  have Hx := Lib.hid hx; have Hr := Lib.hid hrest
  clear hx hrest hx2
  go_wp2_with fail
  exact bodyPost_ret (v := .tuple #[.pointer (some ⟨b, 0, none⟩), .int .i64 0]) (by simp [results, Tryz.results70, go_sem]) rfl ⟨_, rfl, ⟨b, v1, v2, v3, nts, rfl, Hr.out⟩, Hx.out⟩
theorem cSizes_c (v : Value) (p : List Int) (rs : List Qw) (d : Nat) (w : World) (he : Env w) (hv : ScV w v p rs) (h : Wc p (rs.map Qw.x)) (hd : d ≤ rs.length) :
    Calls Tryz.prog 27 #[v, .int .i64 (d : Int)] w fun e w' => ∃ u out, e = .returned (.tuple #[u, .int .i64 0]) ∧ QwM w' w.heap.size w.heap.size u out ∧ out.map Qw.x = cls p (rs.map Qw.x) (d : Int) ∧ Ext w w' := by
  have hcl := fun W (hE : Ext w W) => classed_c v p rs d W (he.ext hE) (hv.ext hE) h hd
  have hsz := fun u W (hE : Ext w W) (hu : Vw W u p rs) => sizes_c u p rs d W (he.ext hE) hu h hd
  have hfew := h.wd.few
  rw [List.length_map] at hfew
  obtain ⟨vp, vn, rfl, hp, hs, hmr⟩ := hv
  obtain ⟨ap, cp, rfl, _, _, _⟩ := hp.parts
  obtain ⟨an, cn, rfl, _, _, _⟩ := hs.parts
  rw [i64s_length] at *
  rw [qwc_length] at *
  generalize rs.length = n at *
  have hE0 : Ext w (w.alloc (.cells #[.slice ap p.length cp, .slice an n cn] 32)) := (Ext.refl w).alloc _
  have b1 := BoxT.new 32 w (.slice ap p.length cp) (.slice an n cn)
  have Hcl := Lib.hid hcl; have Hsz := Lib.hid hsz; have HE0 := Lib.hid hE0
  have q0 := b1.c0
  have q1 := b1.c1
  clear hcl hsz hE0 b1 hp hs hmr he h
  go_enter Tryz.func27, Tryz.ntmps27
  go_wp2_with fail
  refine (Hcl.out _ HE0.out).mono ?_
  rintro e w2 ⟨u, rfl, hu, hx2⟩
  have hx := HE0.out.trans hx2
  have hak := Hsz.out u w2 hx hu
  obtain ⟨b, v1, v2, v3, nts, rfl, hrest⟩ := hu
  have Hx := Lib.hid hx; have Hak := Lib.hid hak; have Hr := Lib.hid hrest
  clear hx hak hrest hx2 q0 q1
  go_wp2_with fail
  refine Hak.out.mono ?_
  rintro e w3 ⟨v4, out, rfl, hq, hm, hx3⟩
  obtain ⟨a4, c4, rfl⟩ := own_shape hq.1
  have hq2 := hq.mono Hx.out.size Hx.out.size
  have Hq2 := Lib.hid hq2; have Hm := Lib.hid hm; have Hx3 := Lib.hid (Hx.out.trans hx3)
  clear hq2 hm hx3 hq
  generalize hll : out.length = m at *
  go_wp2_with fail
  exact bodyPost_ret (v := .tuple #[.slice a4 m c4, .int .i64 0]) (by simp [results, Tryz.results27, go_sem]) rfl ⟨_, out, rfl, Hq2.out, Hm.out, Hx3.out⟩
end Go.Proofs.YtaakmdjicocjpaaGreatDoor

namespace Go.Proofs.YtaakmdjicocjpaaGreatDoor
open Go.RowKit Go.Lib Go.Shelf
attribute [local go_sem] Oper.semAt_some
/-- Sizes of two classes subtract. -/
theorem csub2_c (vp va vb : Value) (p : List Int) (N : List (List Rat)) (d e : Nat) (x y : List Rat) (w : World) (he : Env w) (hp : Sl w vp (i64s p)) (h : Wc p N) (hd : d ≤ N.length) (hde : e ≤ N.length) (hx : x ∈ cls p N (d : Int)) (hy : y ∈ cls p N (e : Int)) (ha : Rd w va x) (hb : Rd w vb y) :
    Calls Tryz.prog 20 #[vp, va, vb] w fun e w' => ∃ g, e = .returned (.tuple #[.slice (some ⟨g, 0, none⟩) p.length p.length, .int .i64 0]) ∧ OwnQ w' w.heap.size (.slice (some ⟨g, 0, none⟩) p.length p.length) (subZ x y) ∧ Ext w w' := by
  have hpe : primesErr p = 0 := by rcases h.wd.pr with ⟨e, _⟩ | ⟨e, _⟩ <;> rw [e] <;> decide
  obtain ⟨i, rfl⟩ := h.cls_mem.1 hx
  obtain ⟨j, rfl⟩ := h.cls_mem.1 hy
  exact sSub_c vp va vb p _ _ w he hp ha hb hpe (h.ivlen _ _) (h.ivlen _ _) (h.iv_quick (by omega) (by omega)).1 (h.iv_quick (by omega) (by omega)).1 (h.iv_sub_quick (by omega) (by omega) (by omega) (by omega)).1
theorem cls_inv_at {p : List Int} {N : List (List Rat)} (h : Wc p N) {d e i j zz : Nat} {x : List Rat} (hde : d + e = N.length) (hz : (cls p N (d : Int)).length = zz + 1) (hij : i + j = zz) (hx : (cls p N (d : Int))[j]? = some x) : (cls p N (e : Int))[i]? = some (subZ (ov (p.length - 1)) x) := by
  have := h.cls_inv (d : Int)
  rw [show (N.length : Int) - (d : Int) = (e : Int) by omega] at this
  rw [this, List.getElem?_reverse (by rw [List.length_map]; omega), List.length_map, List.getElem?_map, hz, show zz + 1 - 1 - i = j by omega, hx]
  rfl
theorem cls_inv_len {p : List Int} {N : List (List Rat)} (h : Wc p N) {d e : Nat} (hde : d + e = N.length) : (cls p N (e : Int)).length = (cls p N (d : Int)).length := by
  have := congrArg List.length (h.cls_inv (d : Int))
  rw [show (N.length : Int) - (d : Int) = (e : Int) by omega, List.length_reverse, List.length_map] at this
  exact this
theorem Wc.full_mem {p : List Int} {N : List (List Rat)} (h : Wc p N) : ov (p.length - 1) ∈ cls p N (N.length : Int) := by
  rw [h.cls_mem]
  exact ⟨0, (h.iv_full 0).symm⟩
theorem inverts_c (a : Wl) (b : Nat) (w : World) (he : Env w) (ha : a.Ok) (hb : b < 256) :
    Calls Tryz.prog 6 #[a.v, .int .u8 b] w fun e w' => e = .returned (.bool true) ∧ Ext w w' := by
  have hkn := fun W (hE : Ext w W) => known32_c W (he.ext hE)
  have hmk := fun W (hE : Ext w W) => lMake_c a W (he.ext hE) ha
  have hrl := wl_box a w
  have hun := Tryz.underlying26
  have hin := wl_info a
  have hE0 : Ext w (w.alloc (.cells a.cs 26)) := (Ext.refl w).alloc _
  have Hkn := Lib.hid hkn; have Hmk := Lib.hid hmk; have Hrl := Lib.hid hrl; have Hun := Lib.hid hun; have Hin := Lib.hid hin; have HE0 := Lib.hid hE0; clear hkn hmk hrl hun hin hE0
  have He := Lib.hid he; clear he ha
  have hv : a.v = .agg a.cs := rfl
  have Hv := Lib.hid hv
  rw [hv]
  clear hv
  rw [wl_cs]
  go_enter Tryz.func6, Tryz.ntmps6
  rw [← wl_cs]
  go_wp2_with fail
  refine (Hkn.out _ HE0.out).mono ?_
  rintro e w1 ⟨rfl, hx1⟩
  have hrl1 := Hrl.out w1 hx1
  have Hx1 := Lib.hid (HE0.out.trans hx1); have Hrl1 := Lib.hid hrl1
  clear hx1 hrl1
  have Hmk1 := Lib.hid (Hmk.out w1 Hx1.out)
  go_wp2_with (refine wpList_load_mid rfl 26 (.tmp 2) rfl w.heap.size 0 rfl a.cs.toList _ Hrl1.out Hun.out rfl Hin.out ?_)
  rw [← Hv.out]
  refine Hmk1.out.mono ?_
  rintro e w2 ⟨v2, rs, rfl, hs2, hc2, hx2⟩
  have hw2 := wl_wc a hc2
  obtain ⟨a2, c2, b2, d2, rfl, hs2⟩ := scv_cut hs2
  have hL : (rs.map Qw.x).length = rs.length := List.length_map ..
  have hfew := hw2.wd.few
  have hpos := hw2.wd.pos
  rw [hL] at hfew hpos
  have hlp : a.p.length ≤ 100 ∧ primesErr a.p = 0 := by rcases a.pw with e | e <;> rw [e] <;> decide
  have hb2 := BoxT.new 32 w2 (.slice a2 a.p.length c2) (.slice b2 rs.length d2)
  have hE2 := (Ext.refl w2).alloc (.cells #[.slice a2 a.p.length c2, .slice b2 rs.length d2] 32)
  have Hx2 := Lib.hid ((Hx1.out.trans hx2).trans hE2); have Hs2 := Lib.hid (hs2.ext hE2); have Hw2 := Lib.hid hw2; have Hb2 := Lib.hid hb2; have HL := Lib.hid hL; have Hlp := Lib.hid hlp
  have q0 := hb2.c0
  have q1 := hb2.c1
  clear hx2 hs2 hw2 hb2 hE2 hc2 hL hlp
  have hsz := fun (d : Nat) (hd : d ≤ rs.length) W (hE : Ext (w2.alloc (.cells #[.slice a2 a.p.length c2, .slice b2 rs.length d2] 32)) W) => (cSizes_c _ a.p rs d W (He.out.ext (Hx2.out.trans hE)) (Hs2.out.ext hE) Hw2.out hd).mono (R' := fun e w' => ∃ g c, e = .returned (.tuple #[.slice (some ⟨g, 0, none⟩) (cls a.p (rs.map Qw.x) (d : Int)).length c, .int .i64 0]) ∧ (∀ i x, (cls a.p (rs.map Qw.x) (d : Int))[i]? = some x → ∃ ax cx, w'.cell? ⟨g, i, none⟩ = some (.slice ax a.p.length cx) ∧ OwnQ w' W.heap.size (.slice ax a.p.length cx) x) ∧ Ext W w') fun e w' ⟨u, out, h1, h2, h3, h4⟩ => by
    obtain ⟨g, c, rfl, hr⟩ := cls_row Hw2.out h2 h3
    exact ⟨g, c, h1, hr, h4⟩
  have hpsl : ∀ W, Ext (w2.alloc (.cells #[.slice a2 a.p.length c2, .slice b2 rs.length d2] 32)) W → Sl W (.slice a2 a.p.length c2) (i64s a.p) := fun W hE => by
    obtain ⟨vp, vn, e, h1, _⟩ := Hs2.out.ext hE
    simp only [Value.agg.injEq, Array.mk.injEq, List.cons.injEq, and_true] at e
    rw [e.1]
    exact h1
  have hsub := fun (d e : Nat) (hd : d ≤ rs.length) (hde : e ≤ rs.length) x y va vb W (hE : Ext (w2.alloc (.cells #[.slice a2 a.p.length c2, .slice b2 rs.length d2] 32)) W) hx hy ha hb => csub2_c (.slice a2 a.p.length c2) va vb a.p (rs.map Qw.x) d e x y W (He.out.ext (Hx2.out.trans hE)) (hpsl W hE) Hw2.out (by rw [HL.out]; exact hd) (by rw [HL.out]; exact hde) hx hy ha hb
  obtain ⟨m, hm⟩ : ∃ m, rs.length = m + 1 := ⟨rs.length - 1, by omega⟩
  obtain ⟨g2, o2, ul, cul, hb2n, hul, hro⟩ : ∃ g o ul cul, b2 = some ⟨g, o, none⟩ ∧ (w2.alloc (.cells #[.slice a2 a.p.length c2, .slice b2 rs.length d2] 32)).cell? ⟨g, o + m, none⟩ = some (.slice ul a.p.length cul) ∧ Rd (w2.alloc (.cells #[.slice a2 a.p.length c2, .slice b2 rs.length d2] 32)) (.slice ul a.p.length cul) (ov (a.p.length - 1)) := by
    obtain ⟨vp, vn, e, _, hn⟩ := Hs2.out
    simp only [Value.agg.injEq, Array.mk.injEq, List.cons.injEq, and_true] at e
    rw [← e.2] at hn
    obtain ⟨_, _, e2, _, _, hc⟩ := hn.1.parts
    injection e2 with e3 _ _
    obtain ⟨r, hr⟩ : ∃ r, rs[m]? = some r := ⟨_, List.getElem?_eq_getElem (by omega)⟩
    obtain ⟨g, o, e4, hcc⟩ := hc m r.u (by unfold qwc; rw [List.getElem?_map, hr]; rfl)
    have hl := Hw2.out.wd.last
    rw [HL.out, hm, Nat.add_sub_cancel, List.getElem?_map, hr] at hl
    have hrd := hn.2 r (List.mem_of_getElem? hr)
    rw [Option.some.inj hl] at hrd
    obtain ⟨ul, cul, eu, _, _, _⟩ := hrd.parts
    rw [ov_len, show a.p.length - 1 + 1 = a.p.length by rcases a.pw with e | e <;> rw [e] <;> rfl] at eu
    rw [eu] at hcc hrd
    exact ⟨g, o, ul, cul, e3.trans e4, hcc, hrd⟩
  subst hb2n
  have hdm : b % (rs.length + 1) < rs.length + 1 := Nat.mod_lt _ (by omega)
  have hr1 : ((b : Nat) : Int).tmod ((rs.length : Int) + 1) = ((b % (rs.length + 1) : Nat) : Int) := by rw [Int.tmod_eq_emod_of_nonneg (by omega)]; rfl
  obtain ⟨d, hdd⟩ : ∃ d, d = b % (rs.length + 1) := ⟨_, rfl⟩
  rw [← hdd] at hdm hr1
  obtain ⟨e, hee⟩ : ∃ e, d + e = rs.length := ⟨rs.length - d, by omega⟩
  have hcl := fun (d : Nat) => cls_len (p := a.p) (N := rs.map Qw.x) (d := (d : Int))
  have hcp := Hw2.out.cls_pos (d : Int)
  have hil := cls_inv_len Hw2.out (d := d) (e := e) (by rw [HL.out]; exact hee)
  have hia := fun (i j zz : Nat) (x : List Rat) => cls_inv_at Hw2.out (d := d) (e := e) (i := i) (j := j) (zz := zz) (x := x) (by rw [HL.out]; exact hee)
  have hfm := Hw2.out.full_mem
  rw [HL.out] at hcl hfm
  have Hsz := Lib.hid hsz; have Hsub := Lib.hid hsub; have Hcl := Lib.hid hcl; have Hdd := Lib.hid hdd; have Hul := Lib.hid hul; have Hro := Lib.hid hro; have Hil := Lib.hid hil; have Hia := Lib.hid hia; have Hfm := Lib.hid hfm; clear hsz hsub hcl hdd hul hro hil hia hfm
  clear Hmk1 Hkn Hmk Hrl Hrl1 Hun Hin hpsl
  generalize hN : rs.length = n at *
  subst hm
  have HN := Lib.hid hN
  clear hN
  have hw1 : IntKind.i64.wrap ((b : Nat) : Int) = ((b : Nat) : Int) := IntWalk.i64_in _ (by omega)
  have hw2 : IntKind.i64.wrap (((m + 1 : Nat) : Int) + 1) = ((m + 1 : Nat) : Int) + 1 := IntWalk.i64_in _ (by omega)
  have hw2' : IntKind.i64.wrap ((m : Int) + 1 + 1) = (m : Int) + 1 + 1 := IntWalk.i64_in _ (by omega)
  have hw3 : IntKind.i64.wrap (d : Int) = (d : Int) := IntWalk.i64_in _ (by omega)
  have hw4 : ((b : Nat) : Int) % ((m : Int) + 1 + 1) = (d : Int) := by rw [Hdd.out]; rfl
  have hw5 : IntKind.i64.wrap ((m : Int) + 1 - (d : Int)) = (e : Int) := by rw [IntWalk.i64_in _ (by omega)]; omega
  have hnz : ¬ (m : Int) + 1 + 1 = 0 := by omega
  have hr2 : ((b : Nat) : Int).tmod ((m : Int) + 1 + 1) = (d : Int) := hr1
  clear hr1 hw4
  have Hee := Lib.hid hee
  clear hee
  go_wp2_with fail
  generalize w2.alloc (.cells #[.slice a2 a.p.length c2, .slice (some ⟨g2, o2, none⟩) (m + 1) d2] 32) = W2 at *
  refine (Hsz.out d (by omega) W2 (Ext.refl W2)).mono ?_
  rintro e9 w3 ⟨g3, c3, rfl, hr3, hx3⟩
  have q0 := (Hb2.out.ext hx3).c0
  have q1 := (Hb2.out.ext hx3).c1
  have hs3 := Hsz.out e (by have := Hee.out; omega) w3 hx3
  rw [Hil.out] at hs3
  have hat : ∀ i, i < (cls a.p (rs.map Qw.x) (d : Int)).length → ∃ x, (cls a.p (rs.map Qw.x) (d : Int))[i]? = some x := fun i hi => ⟨_, List.getElem?_eq_getElem hi⟩
  have hlz := Hcl.out d
  have Hia2 := Lib.hid (fun i j zz x h => Hia.out i j zz x h)
  have Hr3 := Lib.hid hr3; have Hs3 := Lib.hid hs3; have Hat := Lib.hid hat; clear hr3 hs3 hat
  have H3 := Lib.hid hx3
  clear hx3 hr2 hnz hw1 hw2 hw2' Hia Hil
  generalize (cls a.p (rs.map Qw.x) (d : Int)).length = z at *
  obtain ⟨zz, rfl⟩ : ∃ zz, z = zz + 1 := ⟨z - 1, by omega⟩
  go_wp2_with fail
  refine Hs3.out.mono ?_
  rintro e9 w4 ⟨g4, c4, rfl, hr4, hx4⟩
  have Hr4 := Lib.hid hr4; have H34 := Lib.hid hx4
  clear hr4 hx4 q0 q1
  have hwm : IntKind.i64.wrap ((m : Int) + 1 - 1) = (m : Int) := by rw [IntWalk.i64_in _ (by omega)]; omega
  have hwm2 : IntKind.i64.wrap (m : Int) = (m : Int) := IntWalk.i64_in _ (by omega)
  have hwz : IntKind.i64.wrap ((zz : Int) + 1 - 1) = (zz : Int) := by rw [IntWalk.i64_in _ (by omega)]; omega
  have hwz2 : IntKind.i64.wrap (zz : Int) = (zz : Int) := IntWalk.i64_in _ (by omega)
  have hm0 : (0 : Int) ≤ (m : Int) := by omega
  have hm1 : (m : Int) < (m : Int) + 1 := by omega
  go_wp2_with fail
  go_loopw [12] (fun v12 wr => ∃ i : Nat, v12 = .int .i64 (i : Int) ∧ i ≤ zz + 1 ∧ Hid (Ext w4 wr)) (fun v12 _ => zz + 2 - (intOf v12).toNat)
  case atStart => exact ⟨0, rfl, Nat.zero_le _, Lib.hid (Ext.refl _)⟩
  case round =>
    obtain ⟨i, rfl, hi, HE⟩ := hrel
    by_cases hiz : i < zz + 1
    · have hiz2 : (i : Int) < (zz : Int) + 1 := by omega
      have hi0 : (0 : Int) ≤ (i : Int) := by omega
      obtain ⟨j, hij⟩ : ∃ j, i + j = zz := ⟨zz - i, by omega⟩
      have hwj : IntKind.i64.wrap ((zz : Int) - (i : Int)) = (j : Int) := by rw [IntWalk.i64_in _ (by omega)]; omega
      have hj0 : (0 : Int) ≤ (j : Int) := by omega
      have hj1 : (j : Int) < (zz : Int) + 1 := by omega
      obtain ⟨x, hx⟩ := Hat.out j (by omega)
      obtain ⟨ax, cx, hcx, hox⟩ := Hr3.out j x hx
      have hiv := Hia2.out i j zz x rfl hij hx
      obtain ⟨ay, cy, hcy, hoy⟩ := Hr4.out i _ hiv
      have h4r := HE.out
      have h3r := H34.out.trans h4r
      have h2r := H3.out.trans h3r
      have hS : ∀ W, Ext wr W → Ext wr W ∧ W.cell? ⟨w2.heap.size, 0, none⟩ = some (.slice a2 a.p.length c2) ∧ W.cell? ⟨w2.heap.size, 1, none⟩ = some (.slice (some ⟨g2, o2, none⟩) (m + 1) d2) ∧ W.cell? ⟨g2, o2 + m, none⟩ = some (.slice ul a.p.length cul) ∧ W.cell? ⟨g3, j, none⟩ = some (.slice ax a.p.length cx) := fun W hW => ⟨hW, (Hb2.out.ext (h2r.trans hW)).c0, (Hb2.out.ext (h2r.trans hW)).c1, (h2r.trans hW).cell Hul.out, (h3r.trans hW).cell hcx⟩
      obtain ⟨_, e0, e1, e2, e3⟩ := hS _ (Ext.refl wr).drew
      have hsub := Hsub.out (m + 1) d (Nat.le_refl _) (by have := Hee.out; omega) (ov (a.p.length - 1)) x (.slice ul a.p.length cul) (.slice ax a.p.length cx) wr.drew h2r.drew Hfm.out (List.mem_of_getElem? hx) (h2r.drew.rd Hro.out) (h3r.drew.ownQ hox).rd
      have hly : (subZ (ov (a.p.length - 1)) x).length ≤ 1000 := by rw [Hw2.out.cls_lt (List.mem_of_getElem? hiv)]; have := Hlp.out.1; omega
      have heq := fun g W (hE : Ext wr W) (ho : Rd W (.slice (some ⟨g, 0, none⟩) a.p.length a.p.length) (subZ (ov (a.p.length - 1)) x)) => sEq_c (.slice (some ⟨g, 0, none⟩) a.p.length a.p.length) (.slice ay a.p.length cy) _ _ W ho ((h4r.trans hE).ownQ hoy).rd hly hly
      simp only [decide_true] at heq
      have q1 := e1
      have HXr : Hid (Ext wr wr) := Lib.hid (Ext.refl wr)
      have HS := Lib.hid hS; have Hsb := Lib.hid hsub; have Heq := Lib.hid heq; have Hcy := Lib.hid (fun W (hE : Ext wr W) => (h4r.trans hE).cell hcy)
      clear hS hsub heq hx hcx hox hiv hcy hoy h4r h3r h2r hly q1
      go_wp2_with fail
      go_region_held3 (fun w' => Ext wr w' ∧ w'.cell? ⟨w2.heap.size, 0, none⟩ = some (.slice a2 a.p.length c2) ∧ w'.cell? ⟨w2.heap.size, 1, none⟩ = some (.slice (some ⟨g2, o2, none⟩) (m + 1) d2) ∧ w'.cell? ⟨g2, o2 + m, none⟩ = some (.slice ul a.p.length cul) ∧ w'.cell? ⟨g3, j, none⟩ = some (.slice ax a.p.length cx))
        (first | (with_reducible assumption) | exact HS.out _ HXr.out.drew | exact HS.out _ HxA.out)
        (first | (go_at_call 20; refine Hsb.out.mono ?_; rintro e9 VA ⟨gA, rfl, hoA, hxa⟩; have HxA := Lib.hid (HXr.out.drew.trans hxa); have HoA := Lib.hid hoA; clear hxa hoA))
      have heqA := Heq.out gA VA HxA.out HoA.out.rd
      have hcyA := Hcy.out VA HxA.out
      have HeqA := Lib.hid heqA
      clear heqA e0 e1 e2 e3
      go_wp2_with fail
      refine HeqA.out.mono ?_
      rintro e9 w6 ⟨rfl, hx6⟩
      have H6 := Lib.hid (HE.out.trans (HxA.out.trans hx6))
      clear hx6 hcyA
      go_wp2_with fail
      go_roundw
      case rel => exact ⟨i + 1, by go_num, by omega, H6⟩
      case measure => simp [intOf]; omega
    · obtain rfl : i = zz + 1 := by omega
      have hiz2 : ¬ ((zz + 1 : Nat) : Int) < (zz : Int) + 1 := by omega
      have Hend := Lib.hid (Hx2.out.trans (H3.out.trans (H34.out.trans HE.out)))
      go_wp2_with fail
      go_ret
      exact ⟨rfl, Hend.out⟩
end Go.Proofs.YtaakmdjicocjpaaGreatDoor
