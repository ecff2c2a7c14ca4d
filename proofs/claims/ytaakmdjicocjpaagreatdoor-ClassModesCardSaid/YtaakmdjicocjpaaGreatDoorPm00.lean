/- Walks: law 32's equal (of clashes that are equal); classes in order from a class on. Walks: scale.mode, scale.Mode. Walks: scale.Mode. -/
import Derived.Test.YtaakmdjicocjpaaGreatDoorPb34
import Derived.Test.YtaakmdjicocjpaaGreatDoorPb21
import Derived.Test.YtaakmdjicocjpaaGreatDoorPb22
set_option maxRecDepth 100000
set_option maxHeartbeats 1000000
namespace Go.Proofs.YtaakmdjicocjpaaGreatDoor
open Go.RowKit Go.Lib Go.Shelf
attribute [local go_sem] Oper.semAt_some
theorem equal32_c (a b : Int) (u1 u2 v1 v2 : Value) (x y : List Rat) (w : World) (h1 : Rd w u1 x) (h2 : Rd w u2 y) (g1 : Rd w v1 x) (g2 : Rd w v2 y) (hx : x.length ≤ 1000) (hy : y.length ≤ 1000) :
    Calls Tryz.prog 23 #[.agg #[.int .i64 a, .int .i64 b, u1, u2], .agg #[.int .i64 a, .int .i64 b, v1, v2]] w fun e w' => e = .returned (.bool true) ∧ Ext w w' := by
  have hs1 := fun W (hE : Ext w W) => lSame24_c u1 v1 x x W (hE.rd h1) (hE.rd g1) hx hx
  have hs2 := fun W (hE : Ext w W) => lSame24_c u2 v2 y y W (hE.rd h2) (hE.rd g2) hy hy
  simp only [decide_true] at hs1 hs2
  obtain ⟨a1, c1, rfl, _, _, _⟩ := h1.parts
  obtain ⟨a2, c2, rfl, _, _, _⟩ := h2.parts
  obtain ⟨a3, c3, rfl, _, _, _⟩ := g1.parts
  obtain ⟨a4, c4, rfl, _, _, _⟩ := g2.parts
  generalize x.length = lx at *
  generalize y.length = ly at *
  have b1 := (Box4.new 47 w (.int .i64 a) (.int .i64 b) (.slice a1 lx c1) (.slice a2 ly c2)).ext ((Ext.refl _).alloc (.cells #[.int .i64 a, .int .i64 b, .slice a3 lx c3, .slice a4 ly c4] 47))
  have b2 := Box4.new 47 (w.alloc (.cells #[.int .i64 a, .int .i64 b, .slice a1 lx c1, .slice a2 ly c2] 47)) (.int .i64 a) (.int .i64 b) (.slice a3 lx c3) (.slice a4 ly c4)
  rw [World.size_alloc] at b2
  have hE0 : Ext w ((w.alloc (.cells #[.int .i64 a, .int .i64 b, .slice a1 lx c1, .slice a2 ly c2] 47)).alloc (.cells #[.int .i64 a, .int .i64 b, .slice a3 lx c3, .slice a4 ly c4] 47)) := ((Ext.refl w).alloc _).alloc _
  have q0 := b1.c0; have q1 := b1.c1; have q2 := b1.c2; have q3 := b1.c3
  have r0 := b2.c0; have r1 := b2.c1; have r2 := b2.c2; have r3 := b2.c3
  have Hs1 := Lib.hid hs1; have Hs2 := Lib.hid hs2; have HE0 := Lib.hid hE0; have B1 := Lib.hid b1; have B2 := Lib.hid b2; clear hs1 hs2 hE0 b1 b2
  clear h1 h2 g1 g2
  go_enter Tryz.func23, Tryz.ntmps23
  go_wp2_with fail
  refine (Hs1.out _ HE0.out).mono ?_
  rintro e w3 ⟨rfl, hx3⟩
  have q3 := (B1.out.ext hx3).c3
  have r3 := (B2.out.ext hx3).c3
  have H3 := Lib.hid (HE0.out.trans hx3)
  clear hx3 q0 q1 q2 r0 r1 r2
  go_wp2_with fail
  refine (Hs2.out _ H3.out).mono ?_
  rintro e w4 ⟨rfl, hx4⟩
  have H4 := Lib.hid (H3.out.trans hx4)
  clear hx4 q3 r3
  go_wp2
  go_ret
  exact ⟨rfl, H4.out⟩
/-- The sizes of a class in memory. -/
theorem cls_row {w : World} {B : Nat} {p : List Int} {N : List (List Rat)} {d : Nat} {u : Value} {out : List Qw} (h : Wc p N) (hq : QwM w B B u out) (hm : out.map Qw.x = cls p N (d : Int)) :
    ∃ g c, u = .slice (some ⟨g, 0, none⟩) (cls p N (d : Int)).length c ∧ ∀ i x, (cls p N (d : Int))[i]? = some x → ∃ ax cx, w.cell? ⟨g, i, none⟩ = some (.slice ax p.length cx) ∧ OwnQ w B (.slice ax p.length cx) x := by
  have hp := h.cls_pos (d : Int)
  have hl : out.length = (cls p N (d : Int)).length := by rw [← hm, List.length_map]
  obtain ⟨g, c, rfl, hc⟩ := own_slice hq.1 (by omega)
  refine ⟨g, c, by rw [hl], fun i x hx => ?_⟩
  have hx' := hx
  rw [← hm, List.getElem?_map] at hx
  obtain ⟨r, hr, e⟩ := Option.map_eq_some_iff.1 hx
  have ho := hq.2 r (List.mem_of_getElem? hr)
  rw [e] at ho
  obtain ⟨ax, cx, eu⟩ := own_shape ho
  rw [h.cls_lt (List.mem_of_getElem? hx')] at eu
  have hcc := hc i r.u (by unfold qwc; rw [List.getElem?_map, hr]; rfl)
  rw [eu] at hcc ho
  exact ⟨ax, cx, hcc, ho⟩
/-- In order from the class k on, or the first class from there that is not. -/
def OrdL (p : List Int) (N : List (List Rat)) (m : Int) (k : Nat) (w : World) (B : Nat) (c : Value) (is : Bool) : Prop :=
  (is = true ∧ c = csh0 ∧ ∀ d, k ≤ d → d < N.length → OrdOk p N m d) ∨ (is = false ∧ ∃ (d : Nat) (x y : List Rat), k ≤ d ∧ d < N.length ∧ (∀ d', k ≤ d' → d' < d → OrdOk p N m d') ∧ Gl p N d x y ∧ ¬ OrdOk p N m d ∧ CshV w B c (d : Int) ((d + 1 : Nat) : Int) y x)
theorem OrdL.start (p : List Int) (N : List (List Rat)) (m : Int) (w : World) (B : Nat) : OrdL p N m N.length w B csh0 true := .inl ⟨rfl, rfl, fun d h1 h2 => by omega⟩
theorem OrdL.keep {p : List Int} {N : List (List Rat)} {m : Int} {k : Nat} {w : World} {B : Nat} {c : Value} {is : Bool} (h : OrdL p N m (k + 1) w B c is) (ho : OrdOk p N m k) : OrdL p N m k w B c is := by
  rcases h with ⟨h1, h2, h3⟩ | ⟨h1, d, x, y, g1, g2, g3, g4⟩
  · refine .inl ⟨h1, h2, fun d a b => ?_⟩
    rcases (by omega : d = k ∨ k + 1 ≤ d) with e | e
    · rw [e]; exact ho
    · exact h3 d e b
  · refine .inr ⟨h1, d, x, y, by omega, g2, fun d' a b => ?_, g4⟩
    rcases (by omega : d' = k ∨ k + 1 ≤ d') with e | e
    · rw [e]; exact ho
    · exact g3 d' e b
theorem OrdL.new {p : List Int} {N : List (List Rat)} {m : Int} {k : Nat} {w : World} {B : Nat} {c : Value} {x y : List Rat} (hk : k < N.length) (hg : Gl p N k x y) (ho : ¬ OrdOk p N m k) (hc : CshV w B c (k : Int) ((k + 1 : Nat) : Int) y x) : OrdL p N m k w B c false :=
  .inr ⟨rfl, k, x, y, Nat.le_refl _, hk, fun d a b => by omega, hg, ho, hc⟩
theorem OrdL.mem {p : List Int} {N : List (List Rat)} {m : Int} {k : Nat} {w w' : World} {B : Nat} {c : Value} {is : Bool} (h : OrdL p N m k w B c is) (hk : ∀ a b x y, CshV w B c a b x y → CshV w' B c a b x y) : OrdL p N m k w' B c is := by
  rcases h with h | ⟨h1, d, x, y, g1, g2, g3, g4, g5, g6⟩
  · exact .inl h
  · exact .inr ⟨h1, d, x, y, g1, g2, g3, g4, g5, hk _ _ _ _ g6⟩
theorem OrdR.shape {p : List Int} {N : List (List Rat)} {m : Int} {w : World} {B : Nat} {c : Value} {is : Bool} (h : OrdR p N m w B c is) : ∃ i1 i2 a1 n1 c1 a2 n2 c2, c = .agg #[.int .i64 i1, .int .i64 i2, .slice a1 n1 c1, .slice a2 n2 c2] := by
  rcases h with ⟨_, h, _⟩ | ⟨_, d, x, y, _, u1, u2, h, h1, h2⟩
  · exact ⟨_, _, _, _, _, _, _, _, h⟩
  · obtain ⟨a1, c1, rfl⟩ := own_shape h1
    obtain ⟨a2, c2, rfl⟩ := own_shape h2
    exact ⟨_, _, _, _, _, _, _, _, h⟩
theorem OrdL.shape {p : List Int} {N : List (List Rat)} {m : Int} {k : Nat} {w : World} {B : Nat} {c : Value} {is : Bool} (h : OrdL p N m k w B c is) : ∃ i1 i2 a1 n1 c1 a2 n2 c2, c = .agg #[.int .i64 i1, .int .i64 i2, .slice a1 n1 c1, .slice a2 n2 c2] := by
  rcases h with ⟨_, h, _⟩ | ⟨_, d, x, y, _, _, _, _, _, u1, u2, h, h1, h2⟩
  · exact ⟨_, _, _, _, _, _, _, _, h⟩
  · obtain ⟨a1, c1, rfl⟩ := own_shape h1
    obtain ⟨a2, c2, rfl⟩ := own_shape h2
    exact ⟨_, _, _, _, _, _, _, _, h⟩
theorem Box4.aside {T : TypeId} {w : World} {b b' : Nat} {u v x y : Value} (h : Box4 T w b u v x y) (hne : b ≠ b') (u' v' x' y' : Value) : Box4 T ((((w.setCell ⟨b', 0, none⟩ u').setCell ⟨b', 1, none⟩ v').setCell ⟨b', 2, none⟩ x').setCell ⟨b', 3, none⟩ y') b u v x y := by
  unfold Box4 at *
  rw [heap_setCell_other _ ⟨b', 3, none⟩ b _ hne, heap_setCell_other _ ⟨b', 2, none⟩ b _ hne, heap_setCell_other _ ⟨b', 1, none⟩ b _ hne, heap_setCell_other _ ⟨b', 0, none⟩ b _ hne]
  exact h
theorem Box4.lt {T : TypeId} {w : World} {b : Nat} {u v x y : Value} (h : Box4 T w b u v x y) : b < w.heap.size := (Array.getElem?_eq_some_iff.1 h).1
/-- Two sizes of classes compare. -/
theorem cless_c (v va vb : Value) (p : List Int) (rs : List Qw) (d e : Nat) (x y : List Rat) (w : World) (he : Env w) (hv : ScV w v p rs) (h : Wc p (rs.map Qw.x)) (hd : d ≤ rs.length) (hde : e ≤ rs.length) (hx : x ∈ cls p (rs.map Qw.x) (d : Int)) (hy : y ∈ cls p (rs.map Qw.x) (e : Int)) (ha : Rd w va x) (hb : Rd w vb y) :
    Calls Tryz.prog 26 #[v, va, vb] w fun e w' => e = .returned (.bool (decide (sF p x < sF p y))) ∧ Ext w w' := by
  have hpe : primesErr p = 0 ∧ p.length ≤ 100 := by rcases h.wd.pr with ⟨e, _⟩ | ⟨e, _⟩ <;> rw [e] <;> decide
  have hL : (rs.map Qw.x).length = rs.length := List.length_map ..
  obtain ⟨i, rfl⟩ := h.cls_mem.1 hx
  obtain ⟨j, rfl⟩ := h.cls_mem.1 hy
  have := less32_c v va vb p rs _ _ w he hv hpe.1 hpe.2 ha hb (h.ivlen _ _) (h.ivlen _ _) (h.iv_quick (by omega) (by rw [hL]; omega)).1 (h.iv_quick (by omega) (by rw [hL]; omega)).1 (h.iv_sub_quick (by omega) (by rw [hL]; omega) (by omega) (by rw [hL]; omega))
  rw [h.iv_sgn, decide_eq_decide.2 (show _ ↔ sF p (iv p (rs.map Qw.x) i (d : Int)) < sF p (iv p (rs.map Qw.x) j (e : Int)) by rw [sgQ_neg_iff]; constructor <;> intro g <;> grind)] at this
  exact this
theorem CstR.shape {p : List Int} {N : List (List Rat)} {w : World} {B : Nat} {c : Value} {is : Bool} (h : CstR p N w B c is) : ∃ i1 i2 a1 n1 c1 a2 n2 c2, c = .agg #[.int .i64 i1, .int .i64 i2, .slice a1 n1 c1, .slice a2 n2 c2] := by
  rcases h with ⟨_, h, _⟩ | ⟨_, d, u, i, x, _, u1, u2, h, h1, h2⟩
  · exact ⟨_, _, _, _, _, _, _, _, h⟩
  · obtain ⟨a1, c1, rfl⟩ := own_shape h1
    obtain ⟨a2, c2, rfl⟩ := own_shape h2
    exact ⟨_, _, _, _, _, _, _, _, h⟩
/-- A clash in its block. -/
def BoxC (w : World) (b : Nat) (c : Value) : Prop := ∃ u v x y, c = .agg #[u, v, x, y] ∧ Box4 47 w b u v x y
theorem BoxC.ext {w w' : World} {b : Nat} {c : Value} (h : BoxC w b c) (hx : Ext w w') : BoxC w' b c := by
  obtain ⟨u, v, x, y, e, h⟩ := h
  exact ⟨u, v, x, y, e, h.ext hx⟩
theorem BoxC.aside {w : World} {b b' : Nat} {c : Value} (h : BoxC w b c) (hne : b ≠ b') (u' v' x' y' : Value) : BoxC ((((w.setCell ⟨b', 0, none⟩ u').setCell ⟨b', 1, none⟩ v').setCell ⟨b', 2, none⟩ x').setCell ⟨b', 3, none⟩ y') b c := by
  obtain ⟨u, v, x, y, e, h⟩ := h
  refine ⟨u, v, x, y, e, ?_⟩
  unfold Box4 at *
  rw [heap_setCell_other _ ⟨b', 3, none⟩ b _ hne, heap_setCell_other _ ⟨b', 2, none⟩ b _ hne, heap_setCell_other _ ⟨b', 1, none⟩ b _ hne, heap_setCell_other _ ⟨b', 0, none⟩ b _ hne]
  exact h
theorem CshV.put4 {w : World} {B c : Nat} {v : Value} {a b : Int} {x y : List Rat} (h : CshV w B v a b x y) (hc : c < B) (u' v' x' y' : Value) : CshV ((((w.setCell ⟨c, 0, none⟩ u').setCell ⟨c, 1, none⟩ v').setCell ⟨c, 2, none⟩ x').setCell ⟨c, 3, none⟩ y') B v a b x y := by
  obtain ⟨u1, u2, e, h1, h2⟩ := h
  exact ⟨u1, u2, e, h1.put4 hc _ _ _ _, h2.put4 hc _ _ _ _⟩
/-- The law's loop: what is true from the class k on. -/
def PrR (p : List Int) (N : List (List Rat)) (Wb : World) (b1 b2 B : Nat) (k : Nat) (i1 i2 : Bool) (wr : World) : Prop :=
  ∃ c1 c2, OrdL p N 1 k wr B c1 i1 ∧ OrdL p N 0 k wr B c2 i2 ∧ BoxC wr b1 c1 ∧ BoxC wr b2 c2 ∧ Ext Wb wr
/-- What two answers on the order have in common. -/
theorem ord_same {p : List Int} {N : List (List Rat)} {m : Int} {w w' : World} {B B' : Nat} {c c' : Value} {is is' : Bool} (h : OrdR p N m w B c is) (k : OrdL p N m 0 w' B' c' is') :
    is = is' ∧ ((c = csh0 ∧ c' = csh0) ∨ ∃ a b x y, CshV w B c a b x y ∧ CshV w' B' c' a b x y ∧ x ∈ cls p N b ∧ y ∈ cls p N a) := by
  rcases h with ⟨rfl, rfl, h⟩ | ⟨rfl, d, x, y, h, hc⟩
  · rcases k with ⟨rfl, rfl, _⟩ | ⟨rfl, d, x, y, _, g2, _, _, g5, _⟩
    · exact ⟨rfl, .inl ⟨rfl, rfl⟩⟩
    · exact absurd (h d g2) g5
  · rcases k with ⟨rfl, rfl, g⟩ | ⟨rfl, d', x', y', _, g2, g3, g4, g5, g6⟩
    · exact absurd (g d (Nat.zero_le _) h.lt) h.no
    · obtain ⟨rfl, rfl, rfl⟩ := h.uniq ⟨g2, fun d h => g3 d (Nat.zero_le _) h, g4, g5⟩
      exact ⟨rfl, .inr ⟨_, _, _, _, hc, g6, List.mem_of_getElem? h.gl.2, List.mem_of_getElem? h.gl.1⟩⟩
theorem clash_eq {p : List Int} {N : List (List Rat)} {w w' W : World} {B B' : Nat} {c c' : Value} (h : Wc p N) (hs : (c = csh0 ∧ c' = csh0) ∨ ∃ a b x y, CshV w B c a b x y ∧ CshV w' B' c' a b x y ∧ x ∈ cls p N b ∧ y ∈ cls p N a) (h1 : Ext w W) (h2 : Ext w' W) :
    Calls Tryz.prog 23 #[c, c'] W fun e w'' => e = .returned (.bool true) ∧ Ext W w'' := by
  have hp : p.length ≤ 100 := by rcases h.wd.pr with ⟨e, _⟩ | ⟨e, _⟩ <;> rw [e] <;> decide
  rcases hs with ⟨rfl, rfl⟩ | ⟨a, b, x, y, ⟨u1, u2, rfl, k1, k2⟩, ⟨v1, v2, rfl, g1, g2⟩, hx, hy⟩
  · have hn : ∀ W : World, Rd W (.slice none 0 0) [] := fun W => .inl ⟨none, 0, rfl, Nat.zero_le _, rfl⟩
    exact equal32_c 0 0 _ _ _ _ [] [] W (hn W) (hn W) (hn W) (hn W) (by simp) (by simp)
  · exact equal32_c a b u1 u2 v1 v2 x y W (h1.ownQ k1).rd (h1.ownQ k2).rd (h2.ownQ g1).rd (h2.ownQ g2).rd (by rw [h.cls_lt hx]; omega) (by rw [h.cls_lt hy]; omega)
theorem ord_one {p : List Int} {N : List (List Rat)} (h : Wc p N) {d : Nat} {x y : List Rat} (hg : Gl p N d x y) : OrdOk p N 1 d ↔ ¬ sF p y < sF p x := by
  have hs := sF_sub p x y (by rw [(h.gl_len hg).1, (h.gl_len hg).2])
  constructor
  · intro ho
    have := ho x y hg
    rw [sgQ_one_iff, hs] at this
    grind
  · intro hn x' y' hg'
    obtain ⟨rfl, rfl⟩ := Gl.uniq hg hg'
    rw [sgQ_one_iff, hs]
    grind
theorem ord_zero {p : List Int} {N : List (List Rat)} (h : Wc p N) {d : Nat} {x y : List Rat} (hg : Gl p N d x y) : OrdOk p N 0 d ↔ sF p x < sF p y := by
  have hs := sF_sub p x y (by rw [(h.gl_len hg).1, (h.gl_len hg).2])
  constructor
  · intro ho
    have := ho x y hg
    rw [sgQ_neg_iff, hs] at this
    grind
  · intro hn x' y' hg'
    obtain ⟨rfl, rfl⟩ := Gl.uniq hg hg'
    rw [sgQ_neg_iff, hs]
    grind
end Go.Proofs.YtaakmdjicocjpaaGreatDoor

namespace Go.Proofs.YtaakmdjicocjpaaGreatDoor
open Go.RowKit Go.Lib Go.Shelf
attribute [local go_sem] Oper.semAt_some
theorem mode_c (v : Value) (p : List Int) (rs : List Qw) (m : Int) (w : World) (he : Env w) (hv : ScV w v p rs) (h : Wd p (rs.map Qw.x)) (hm0 : -500 ≤ m) (hm1 : m ≤ 500) :
    Calls Tryz.prog 78 #[v, .int .i64 m] w fun e w' => ∃ v out, e = .returned (.tuple #[v, .int .i64 0]) ∧ ScO w' w.heap.size v p out ∧ out.map Qw.x = md p (rs.map Qw.x) m ∧ Ext w w' := by
  obtain ⟨j0, hj, hy0, hy1, hy2⟩ := info_parts info_size
  have hpe : primesErr p = 0 ∧ p.length ≤ 100 ∧ 0 < p.length := by rcases h.pr with ⟨e, _⟩ | ⟨e, _⟩ <;> rw [e] <;> decide
  have hnt := fun (k : Int) (h0 : -1000 ≤ k) (h1 : k ≤ 1000) W (hE : Ext w W) => nt_c v p rs k W (he.ext hE) (hv.ext hE) h h0 h1
  have hfew := h.few
  have hL : (rs.map Qw.x).length = rs.length := List.length_map ..
  rw [hL] at hfew
  obtain ⟨vp, vn, rfl, hp, hs, hmr⟩ := hv
  have hsb := fun (k : Int) (h0 : -1000 ≤ k) (h1 : k ≤ 1000) W va vb (hE : Ext w W) (ha : Rd W va (nt p (rs.map Qw.x) k)) (hb : Rd W vb (nt p (rs.map Qw.x) m)) => sSub_c vp va vb p _ _ W (he.ext hE) (hE.sl hp) ha hb hpe.1 (h.ntlen k) (h.ntlen m) (h.nt_quick k h0 h1).1 (h.nt_quick m (by omega) (by omega)).1 (h.nt_sub_quick k m h0 h1 (by omega) (by omega)).1
  have hcp := fun W (hE : Ext w W) => cloneP_c vp p W (hE.sl hp) (by omega) (by intro e; rw [e] at hpe; exact absurd hpe.2.2 (by simp))
  have hmd : ∀ i, i < rs.length → (md p (rs.map Qw.x) m).take (i + 1) = (md p (rs.map Qw.x) m).take i ++ [subZ (nt p (rs.map Qw.x) (m + (i : Int) + 1)) (nt p (rs.map Qw.x) m)] := fun i hi => by
    have := md_at (p := p) (N := rs.map Qw.x) (m := m) (i := i) (by rw [hL]; exact hi)
    obtain ⟨hl, e⟩ := List.getElem?_eq_some_iff.1 this
    rw [List.take_succ_eq_append_getElem hl, e]
  have hmf : (md p (rs.map Qw.x) m).take rs.length = md p (rs.map Qw.x) m := List.take_of_length_le (by rw [md_len, hL]; exact Nat.le_refl _)
  obtain ⟨ap, cp, rfl, _, _, _⟩ := hp.parts
  obtain ⟨an, cn, rfl, _, _, _⟩ := hs.parts
  rw [i64s_length] at *
  rw [qwc_length] at *
  generalize hn : rs.length = n at *
  have hE0 : Ext w ((w.alloc (.cells #[.slice ap p.length cp, .slice an n cn] 32)).alloc (.cells #[.slice none 0 0, .slice none 0 0] 32)) := ((Ext.refl w).alloc _).alloc _
  have b1 := (BoxT.new 32 w (.slice ap p.length cp) (.slice an n cn)).ext ((Ext.refl _).alloc (.cells #[.slice none 0 0, .slice none 0 0] 32))
  have b2 := BoxT.new 32 (w.alloc (.cells #[.slice ap p.length cp, .slice an n cn] 32)) (.slice none 0 0) (.slice none 0 0)
  rw [World.size_alloc] at b2
  have Hnt := Lib.hid hnt; have Hsb := Lib.hid hsb; have Hcp := Lib.hid hcp; have Hmd := Lib.hid hmd; have Hmf := Lib.hid hmf; have HE0 := Lib.hid hE0; have B1 := Lib.hid b1; have B2 := Lib.hid b2; have Hn := Lib.hid hn
  clear hp hs hmr he h hpe hnt hsb hcp hmd hmf hE0 b1 b2 hL hn
  go_enter Tryz.func78, Tryz.ntmps78
  have q0 := B1.out.c0
  have q1 := B1.out.c1
  go_wp2_with fail
  refine (Hnt.out m (by omega) (by omega) _ HE0.out).mono ?_
  rintro e w1 ⟨g1, rfl, ho1, hx1⟩
  have q0 := (B1.out.ext hx1).c0
  have q1 := (B1.out.ext hx1).c1
  have Ho1 := Lib.hid ho1.rd; have Hx1 := Lib.hid hx1
  clear ho1 hx1
  go_wp2_with fail
  refine (Hcp.out w1 (HE0.out.trans Hx1.out)).mono ?_
  rintro e w6 ⟨u6, rfl, ho6, hx6⟩
  obtain ⟨a6, c6, rfl⟩ := own_shape ho6
  have Hx6 := Lib.hid (Hx1.out.trans hx6)
  have Ho6 := Lib.hid (own_mono ho6 (HE0.out.trans Hx1.out).size)
  have Ho16 := Lib.hid (hx6.rd Ho1.out)
  clear ho6 hx6 q0 q1
  have Hb7 := Lib.hid (BoxT.new 32 w6 (.slice a6 p.length c6) (.slice none 0 0))
  have H6x : Hid (Ext w6 (w6.alloc (.cells #[.slice a6 p.length c6, .slice none 0 0] 32))) := Lib.hid ((Ext.refl w6).alloc _)
  go_wp2_with fail
  go_loopw [9, 10, 11] (fun v9 v10 v11 wr => ∃ i : Nat, v9 = .int .i64 ((i : Int) + 1) ∧ i ≤ n ∧ NtR w6.heap.size w6 w6.heap.size (.slice a6 p.length c6) ((md p (rs.map Qw.x) m).take i) wr) (fun v9 _ _ _ => n + 1 - (intOf v9).toNat)
  case atStart => exact ⟨0, rfl, Nat.zero_le _, .slice none 0 0, [], Hb7.out, QwM.nil _ _ _, rfl, H6x.out⟩
  case round =>
    obtain ⟨i, rfl, hi, ⟨vn, nts, hbn, hqn, hmn, hEn⟩⟩ := hrel
    have hE6 := Hx6.out.trans hEn
    have hEw := HE0.out.trans hE6
    have q0 := (B1.out.ext hE6).c0
    have q1 := (B1.out.ext hE6).c1
    by_cases hin : i < n
    · have hik : (i : Int) + 1 ≤ (n : Int) := by omega
      have hnk := Hnt.out (m + ((i : Int) + 1)) (by omega) (by omega) wr hEw
      have hw1 : IntKind.i64.wrap (m + ((i : Int) + 1)) = m + ((i : Int) + 1) := by rw [IntKind.wrap_i64]; omega
      have Hbn := Lib.hid hbn; have Hqn := Lib.hid hqn; have Hmn := Lib.hid hmn; have HEn := Lib.hid hEn; have HE6 := Lib.hid hE6; have HEw := Lib.hid hEw; have Hnk := Lib.hid hnk
      clear hbn hqn hmn hEn hE6 hEw hnk
      go_wp2_with fail
      refine Hnk.out.mono ?_
      rintro e w8 ⟨g8, rfl, ho8, hx8⟩
      have q0 := hx8.cell q0
      have q1 := hx8.cell q1
      have hsk := Hsb.out (m + ((i : Int) + 1)) (by omega) (by omega) w8 _ _ (HEw.out.trans hx8) ho8.rd ((HEn.out.trans hx8).rd Ho16.out)
      have Hsk := Lib.hid hsk; have Hx8 := Lib.hid hx8
      clear hsk hx8 ho8
      go_wp2_with fail
      refine Hsk.out.mono ?_
      rintro e w9 ⟨g9, rfl, ho9, hx9⟩
      have hx89 := Hx8.out.trans hx9
      obtain ⟨avn, cvn, rfl⟩ := own_shape Hqn.out.1
      have hnl : nts.length = i := by
        have := congrArg List.length Hmn.out
        rw [List.length_map, List.length_take, md_len, List.length_map, Hn.out] at this
        omega
      have hbk := Hbn.out.ext hx89
      rw [hnl] at hbk
      have hqk := hx89.qwM Hqn.out
      rw [hnl] at hqk
      have hqo := hx89.own Hqn.out.1
      rw [hnl] at hqo
      have hEk := HEn.out.trans hx89
      have hbase := hEk.size
      have hok := ho9.mono (HEn.out.trans Hx8.out).size
      have hm3 : i + 1 ≤ maxLen := by unfold maxLen; omega
      have hm4 : (i + 1) * 24 ≤ 140737488355328 := by omega
      have r1 := hbk.c1
      have Hbk := Lib.hid hbk; have Hqk := Lib.hid hqk; have Hnl := Lib.hid hnl; have HEk := Lib.hid hEk; have Hok := Lib.hid hok
      clear hbk hqk hnl hEk hok hx89 ho9 hx9 q0 q1
      go_wp2_with (at_builtin; refine wpList_append_own _ rfl _ _ 30 rfl w6.heap.size 41 j0 (.slice none 0 0) 1 24 Tryz.underlying30 hj hy0 hy1 hy2 rfl (by decide) _ _ _ rfl (hqo.alloc _) ⟨w9.heap.size, 0, none⟩ 1 1 [.slice (some ⟨g9, 0, none⟩) p.length p.length] rfl rfl (cell_one_new _ _ _) (by simp [Value.oneCell']) hm3 hm4 (by rw [World.size_alloc]; omega) ?_; intro v7 V7 hown7 hgrow7 _; have hbV : BoxT 32 V7 w6.heap.size (.slice a6 p.length c6) (.slice avn i cvn) := kept_box (((Ext.refl w9).alloc _).heap Hbk.out) (hqo.alloc (.cells #[.slice (some ⟨g9, 0, none⟩) p.length p.length] 41)) (by decide) hgrow7; have d1 := hbV.c1; have e1 := hbV.fz 1; obtain ⟨a7, c7, rfl⟩ := own_shape hown7)
      have hR := NtR.more (W6 := w6) (W := w9) (v7 := .slice a7 (i + 1) c7) (Nat.le_refl _) Hbk.out Hqk.out Hmn.out HEk.out Hok.out (by rw [Hnl.out]; exact hown7) hgrow7
      rw [show m + ((i : Int) + 1) = m + (i : Int) + 1 by omega, ← Hmd.out i hin] at hR
      have HR := Lib.hid hR
      clear hR d1 e1 r1 hgrow7 hown7 hbV
      generalize V7.setCell ⟨w6.heap.size, 1, none⟩ (.slice a7 (i + 1) c7) = V2 at *
      go_roundw
      case rel => exact ⟨i + 1, by go_num, by omega, HR.out⟩
      case measure => simp [intOf]; omega
    · obtain rfl : n = i := by omega
      have hik : ¬ (n : Int) + 1 ≤ (n : Int) := by omega
      have hmn2 := hmn.trans Hmf.out
      obtain ⟨avn, cvn, rfl⟩ := own_shape hqn.1
      have r0 := hbn.c0
      have r1 := hbn.c1
      have hbr := B2.out.ext hE6
      have hK : K0 32 w wr (w.heap.size + 1) := ⟨hEw, _, _, hbr⟩
      have k0 := hK.res.c0; have k1 := hK.res.c1; have z0 := hK.res.fz 0; have z1 := hK.res.fz 1
      have hfin := hK.fin (by omega) (.slice a6 p.length c6) (.slice avn nts.length cvn)
      have hq4 := (hqn.set hbr 0 (.slice a6 p.length c6)).set (BoxT.put0 hbr (.slice a6 p.length c6)) 1 (.slice avn nts.length cvn)
      have ho4 := own_set_apart (BoxT.put0 hbr (.slice a6 p.length c6)) (own_set_apart hbr (hEn.own Ho6.out) (by decide) 0 (.slice a6 p.length c6)) (by decide) 1 (.slice avn nts.length cvn)
      have hlo := (HE0.out.trans Hx6.out).size
      have Hfin := Lib.hid hfin; have Hq4 := Lib.hid hq4; have Ho4 := Lib.hid ho4; have Hmn2 := Lib.hid hmn2
      clear hfin hq4 ho4 hmn2 hK hbr hqn hbn hmn hEn hE6 hEw
      go_wp2_with fail
      obtain ⟨hb5, hx5⟩ := Hfin.out
      have hd0 := hb5.c0
      have hd1 := hb5.c1
      exact bodyPost_ret (v := .tuple #[.agg #[.slice a6 p.length c6, .slice avn nts.length cvn], .int .i64 0]) (by simp [results, Tryz.results78, go_sem, hd0, hd1]) rfl ⟨_, rfl, nts, ⟨_, _, rfl, Ho4.out, Hq4.out.mono hlo hlo⟩, Hmn2.out, hx5⟩
end Go.Proofs.YtaakmdjicocjpaaGreatDoor

namespace Go.Proofs.YtaakmdjicocjpaaGreatDoor
open Go.RowKit Go.Lib Go.Shelf
attribute [local go_sem] Oper.semAt_some
theorem scMode_c (v : Value) (p : List Int) (rs : List Qw) (m : Int) (w : World) (he : Env w) (hv : ScV w v p rs) (h : Wd p (rs.map Qw.x)) :
    Calls Tryz.prog 31 #[v, .int .i64 m] w fun e w' => ∃ u z, e = .returned (.tuple #[u, .int .i64 z]) ∧ ((m < 0 ∨ (rs.length : Int) ≤ m) → z = 3 ∧ u = .agg #[.slice none 0 0, .slice none 0 0]) ∧ (0 ≤ m → m < (rs.length : Int) → z = 0 ∧ ∃ out, ScO w' w.heap.size u p out ∧ out.map Qw.x = md p (rs.map Qw.x) m) ∧ Ext w w' := by
  have hck := fun W (hE : Ext w W) => scCheck_c v p rs W (he.ext hE) (hv.ext hE) h.right
  have hmd := fun (h0 : 0 ≤ m) (h1 : m < (rs.length : Int)) W (hE : Ext w W) => mode_c v p rs m W (he.ext hE) (hv.ext hE) h (by omega) (by have := h.few; rw [List.length_map] at this; omega)
  obtain ⟨vp, vn, rfl, hp, hs, hmr⟩ := hv
  obtain ⟨ap, cp, rfl, _, _, _⟩ := hp.parts
  obtain ⟨an, cn, rfl, _, _, _⟩ := hs.parts
  rw [i64s_length] at *
  rw [qwc_length] at *
  generalize hn : rs.length = n at *
  have hE0 : Ext w ((w.alloc (.cells #[.slice ap p.length cp, .slice an n cn] 32)).alloc (.cells #[.slice none 0 0, .slice none 0 0] 32)) := ((Ext.refl w).alloc _).alloc _
  have b1 := (BoxT.new 32 w (.slice ap p.length cp) (.slice an n cn)).ext ((Ext.refl _).alloc (.cells #[.slice none 0 0, .slice none 0 0] 32))
  have b2 := BoxT.new 32 (w.alloc (.cells #[.slice ap p.length cp, .slice an n cn] 32)) (.slice none 0 0) (.slice none 0 0)
  rw [World.size_alloc] at b2
  have Hck := Lib.hid hck; have Hmd := Lib.hid hmd; have HE0 := Lib.hid hE0; have B1 := Lib.hid b1; have B2 := Lib.hid b2; have Hn := Lib.hid hn
  clear hp hs hmr he h hck hmd hE0 b1 b2 hn
  go_enter Tryz.func31, Tryz.ntmps31
  have q0 := B1.out.c0
  have q1 := B1.out.c1
  go_wp2_with fail
  refine (Hck.out _ HE0.out).mono ?_
  rintro e w1 ⟨rfl, hx1⟩
  have hK1 : K0 32 w w1 (w.heap.size + 1) := ⟨HE0.out.trans hx1, _, _, B2.out.ext hx1⟩
  have q0 := (B1.out.ext hx1).c0
  have q1 := (B1.out.ext hx1).c1
  have k0 := hK1.res.c0; have k1 := hK1.res.c1; have z0 := hK1.res.fz 0; have z1 := hK1.res.fz 1
  have Hx1 := Lib.hid hx1; have HK1 := Lib.hid hK1
  clear hx1 hK1
  by_cases hbad : m < 0 ∨ (n : Int) ≤ m
  · have Hbad := Lib.hid hbad
    rcases hbad with hm0 | hmn
    · go_wp2_with fail
      obtain ⟨hb6, hx6⟩ := HK1.out.fin (Nat.le_succ _) (.slice none 0 0) (.slice none 0 0)
      have hd0 := hb6.c0
      have hd1 := hb6.c1
      exact bodyPost_ret (v := .tuple #[.agg #[.slice none 0 0, .slice none 0 0], .int .i64 3]) (by simp [results, Tryz.results31, go_sem, hd0, hd1]) rfl ⟨_, 3, rfl, fun _ => ⟨rfl, rfl⟩, fun h0 _ => by omega, hx6⟩
    · have hm0 : ¬ m < 0 := by omega
      go_wp2_with fail
      obtain ⟨hb6, hx6⟩ := HK1.out.fin (Nat.le_succ _) (.slice none 0 0) (.slice none 0 0)
      have hd0 := hb6.c0
      have hd1 := hb6.c1
      exact bodyPost_ret (v := .tuple #[.agg #[.slice none 0 0, .slice none 0 0], .int .i64 3]) (by simp [results, Tryz.results31, go_sem, hd0, hd1]) rfl ⟨_, 3, rfl, fun _ => ⟨rfl, rfl⟩, fun _ h1 => by omega, hx6⟩
  · have hm0 : ¬ m < 0 := by omega
    have hmn : ¬ (n : Int) ≤ m := by omega
    have hmd1 := Hmd.out (by omega) (by omega) w1 (HE0.out.trans Hx1.out)
    have Hmd1 := Lib.hid hmd1; have Hbad := Lib.hid hbad
    clear hmd1 hbad k0 k1 z0 z1
    go_wp2_with fail
    refine Hmd1.out.mono ?_
    rintro e w2 ⟨u2, out, rfl, ho2, hm2, hx2⟩
    obtain ⟨vp2, vn2, rfl, hp2, hn2⟩ := ho2
    obtain ⟨a6, c6, rfl⟩ := own_shape hp2
    obtain ⟨avn, cvn, rfl⟩ := own_shape hn2.1
    have hbr := B2.out.ext (Hx1.out.trans hx2)
    have hKk : K0 32 w w2 (w.heap.size + 1) := ⟨HE0.out.trans (Hx1.out.trans hx2), _, _, hbr⟩
    have k0 := hKk.res.c0; have k1 := hKk.res.c1; have z0 := hKk.res.fz 0; have z1 := hKk.res.fz 1
    have hfin := hKk.fin (by omega) (.slice a6 p.length c6) (.slice avn out.length cvn)
    have hq4 := (hn2.set hbr 0 (.slice a6 p.length c6)).set (BoxT.put0 hbr (.slice a6 p.length c6)) 1 (.slice avn out.length cvn)
    have ho4 := own_set_apart (BoxT.put0 hbr (.slice a6 p.length c6)) (own_set_apart hbr hp2 (by decide) 0 (.slice a6 p.length c6)) (by decide) 1 (.slice avn out.length cvn)
    have hlo := (HE0.out.trans Hx1.out).size
    have Hfin := Lib.hid hfin; have Hq4 := Lib.hid hq4; have Ho4 := Lib.hid ho4; have Hm2 := Lib.hid hm2
    clear hfin hq4 ho4 hm2 hKk hbr hn2 hp2 hx2
    go_wp2_with fail
    obtain ⟨hb5, hx5⟩ := Hfin.out
    have hd0 := hb5.c0
    have hd1 := hb5.c1
    exact bodyPost_ret (v := .tuple #[.agg #[.slice a6 p.length c6, .slice avn out.length cvn], .int .i64 0]) (by simp [results, Tryz.results31, go_sem, hd0, hd1]) rfl ⟨_, 0, rfl, fun h => absurd h Hbad.out, fun _ _ => ⟨rfl, out, ⟨_, _, rfl, own_mono Ho4.out hlo, Hq4.out.mono hlo hlo⟩, Hm2.out⟩, hx5⟩
end Go.Proofs.YtaakmdjicocjpaaGreatDoor
