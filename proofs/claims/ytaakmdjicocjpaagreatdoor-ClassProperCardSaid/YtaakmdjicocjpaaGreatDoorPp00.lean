/- Walks: law 32's equal (of clashes that are equal); classes in order from a class on. Walks: the law ClassProper. -/
import Derived.Test.YtaakmdjicocjpaaGreatDoorPb34
import Derived.Test.YtaakmdjicocjpaaGreatDoorPb37
set_option maxRecDepth 100000
set_option maxHeartbeats 4000000
namespace Go.Proofs.YtaakmdjicocjpaaGreatDoor
open Go.RowKit Go.Lib Go.Shelf
attribute [local go_sem] Oper.semAt_some
theorem equal32_c (a b : Int) (u1 u2 v1 v2 : Value) (x y : List Rat) (w : World) (h1 : Rd w u1 x) (h2 : Rd w u2 y) (g1 : Rd w v1 x) (g2 : Rd w v2 y) (hx : x.length ≤ 1000) (hy : y.length ≤ 1000) :
    Calls Tryz.prog 23 #[.agg #[.int .i64 a, .int .i64 b, u1, u2], .agg #[.int .i64 a, .int .i64 b, v1, v2]] w fun e w' => e = .returned (.bool true) ∧ Ext w w' := by
  have hs1 := fun W (hE : Ext w W) => lSame24_c u1 v1 x x W (hE.rd h1) (hE.rd g1) hx hx
  have hs2 := fun W (hE : Ext w W) => lSame24_c u2 v2 y y W (hE.rd h2) (hE.rd g2) hy hy
  simp only [decide_true] at hs1 hs2
  obtain ⟨a1, c1, rfl, _, _, _⟩ := h1.parts
  obtain ⟨a2, c2, rfl, _, _, _⟩ := h2.parts
  obtain ⟨a3, c3, rfl, _, _, _⟩ := g1.parts
  obtain ⟨a4, c4, rfl, _, _, _⟩ := g2.parts
  generalize x.length = lx at *
  generalize y.length = ly at *
  have b1 := (Box4.new 47 w (.int .i64 a) (.int .i64 b) (.slice a1 lx c1) (.slice a2 ly c2)).ext ((Ext.refl _).alloc (.cells #[.int .i64 a, .int .i64 b, .slice a3 lx c3, .slice a4 ly c4] 47))
  have b2 := Box4.new 47 (w.alloc (.cells #[.int .i64 a, .int .i64 b, .slice a1 lx c1, .slice a2 ly c2] 47)) (.int .i64 a) (.int .i64 b) (.slice a3 lx c3) (.slice a4 ly c4)
  rw [World.size_alloc] at b2
  have hE0 : Ext w ((w.alloc (.cells #[.int .i64 a, .int .i64 b, .slice a1 lx c1, .slice a2 ly c2] 47)).alloc (.cells #[.int .i64 a, .int .i64 b, .slice a3 lx c3, .slice a4 ly c4] 47)) := ((Ext.refl w).alloc _).alloc _
  have q0 := b1.c0; have q1 := b1.c1; have q2 := b1.c2; have q3 := b1.c3
  have r0 := b2.c0; have r1 := b2.c1; have r2 := b2.c2; have r3 := b2.c3
  have Hs1 := Lib.hid hs1; have Hs2 := Lib.hid hs2; have HE0 := Lib.hid hE0; have B1 := Lib.hid b1; have B2 := Lib.hid b2; clear hs1 hs2 hE0 b1 b2
  clear h1 h2 g1 g2
  go_enter Tryz.func23, Tryz.ntmps23
  go_wp2_with fail
  refine (Hs1.out _ HE0.out).mono ?_
  rintro e w3 ⟨rfl, hx3⟩
  have q3 := (B1.out.ext hx3).c3
  have r3 := (B2.out.ext hx3).c3
  have H3 := Lib.hid (HE0.out.trans hx3)
  clear hx3 q0 q1 q2 r0 r1 r2
  go_wp2_with fail
  refine (Hs2.out _ H3.out).mono ?_
  rintro e w4 ⟨rfl, hx4⟩
  have H4 := Lib.hid (H3.out.trans hx4)
  clear hx4 q3 r3
  go_wp2
  go_ret
  exact ⟨rfl, H4.out⟩
/-- The sizes of a class in memory. -/
theorem cls_row {w : World} {B : Nat} {p : List Int} {N : List (List Rat)} {d : Nat} {u : Value} {out : List Qw} (h : Wc p N) (hq : QwM w B B u out) (hm : out.map Qw.x = cls p N (d : Int)) :
    ∃ g c, u = .slice (some ⟨g, 0, none⟩) (cls p N (d : Int)).length c ∧ ∀ i x, (cls p N (d : Int))[i]? = some x → ∃ ax cx, w.cell? ⟨g, i, none⟩ = some (.slice ax p.length cx) ∧ OwnQ w B (.slice ax p.length cx) x := by
  have hp := h.cls_pos (d : Int)
  have hl : out.length = (cls p N (d : Int)).length := by rw [← hm, List.length_map]
  obtain ⟨g, c, rfl, hc⟩ := own_slice hq.1 (by omega)
  refine ⟨g, c, by rw [hl], fun i x hx => ?_⟩
  have hx' := hx
  rw [← hm, List.getElem?_map] at hx
  obtain ⟨r, hr, e⟩ := Option.map_eq_some_iff.1 hx
  have ho := hq.2 r (List.mem_of_getElem? hr)
  rw [e] at ho
  obtain ⟨ax, cx, eu⟩ := own_shape ho
  rw [h.cls_lt (List.mem_of_getElem? hx')] at eu
  have hcc := hc i r.u (by unfold qwc; rw [List.getElem?_map, hr]; rfl)
  rw [eu] at hcc ho
  exact ⟨ax, cx, hcc, ho⟩
/-- In order from the class k on, or the first class from there that is not. -/
def OrdL (p : List Int) (N : List (List Rat)) (m : Int) (k : Nat) (w : World) (B : Nat) (c : Value) (is : Bool) : Prop :=
  (is = true ∧ c = csh0 ∧ ∀ d, k ≤ d → d < N.length → OrdOk p N m d) ∨ (is = false ∧ ∃ (d : Nat) (x y : List Rat), k ≤ d ∧ d < N.length ∧ (∀ d', k ≤ d' → d' < d → OrdOk p N m d') ∧ Gl p N d x y ∧ ¬ OrdOk p N m d ∧ CshV w B c (d : Int) ((d + 1 : Nat) : Int) y x)
theorem OrdL.start (p : List Int) (N : List (List Rat)) (m : Int) (w : World) (B : Nat) : OrdL p N m N.length w B csh0 true := .inl ⟨rfl, rfl, fun d h1 h2 => by omega⟩
theorem OrdL.keep {p : List Int} {N : List (List Rat)} {m : Int} {k : Nat} {w : World} {B : Nat} {c : Value} {is : Bool} (h : OrdL p N m (k + 1) w B c is) (ho : OrdOk p N m k) : OrdL p N m k w B c is := by
  rcases h with ⟨h1, h2, h3⟩ | ⟨h1, d, x, y, g1, g2, g3, g4⟩
  · refine .inl ⟨h1, h2, fun d a b => ?_⟩
    rcases (by omega : d = k ∨ k + 1 ≤ d) with e | e
    · rw [e]; exact ho
    · exact h3 d e b
  · refine .inr ⟨h1, d, x, y, by omega, g2, fun d' a b => ?_, g4⟩
    rcases (by omega : d' = k ∨ k + 1 ≤ d') with e | e
    · rw [e]; exact ho
    · exact g3 d' e b
theorem OrdL.new {p : List Int} {N : List (List Rat)} {m : Int} {k : Nat} {w : World} {B : Nat} {c : Value} {x y : List Rat} (hk : k < N.length) (hg : Gl p N k x y) (ho : ¬ OrdOk p N m k) (hc : CshV w B c (k : Int) ((k + 1 : Nat) : Int) y x) : OrdL p N m k w B c false :=
  .inr ⟨rfl, k, x, y, Nat.le_refl _, hk, fun d a b => by omega, hg, ho, hc⟩
theorem OrdL.mem {p : List Int} {N : List (List Rat)} {m : Int} {k : Nat} {w w' : World} {B : Nat} {c : Value} {is : Bool} (h : OrdL p N m k w B c is) (hk : ∀ a b x y, CshV w B c a b x y → CshV w' B c a b x y) : OrdL p N m k w' B c is := by
  rcases h with h | ⟨h1, d, x, y, g1, g2, g3, g4, g5, g6⟩
  · exact .inl h
  · exact .inr ⟨h1, d, x, y, g1, g2, g3, g4, g5, hk _ _ _ _ g6⟩
theorem OrdR.shape {p : List Int} {N : List (List Rat)} {m : Int} {w : World} {B : Nat} {c : Value} {is : Bool} (h : OrdR p N m w B c is) : ∃ i1 i2 a1 n1 c1 a2 n2 c2, c = .agg #[.int .i64 i1, .int .i64 i2, .slice a1 n1 c1, .slice a2 n2 c2] := by
  rcases h with ⟨_, h, _⟩ | ⟨_, d, x, y, _, u1, u2, h, h1, h2⟩
  · exact ⟨_, _, _, _, _, _, _, _, h⟩
  · obtain ⟨a1, c1, rfl⟩ := own_shape h1
    obtain ⟨a2, c2, rfl⟩ := own_shape h2
    exact ⟨_, _, _, _, _, _, _, _, h⟩
theorem OrdL.shape {p : List Int} {N : List (List Rat)} {m : Int} {k : Nat} {w : World} {B : Nat} {c : Value} {is : Bool} (h : OrdL p N m k w B c is) : ∃ i1 i2 a1 n1 c1 a2 n2 c2, c = .agg #[.int .i64 i1, .int .i64 i2, .slice a1 n1 c1, .slice a2 n2 c2] := by
  rcases h with ⟨_, h, _⟩ | ⟨_, d, x, y, _, _, _, _, _, u1, u2, h, h1, h2⟩
  · exact ⟨_, _, _, _, _, _, _, _, h⟩
  · obtain ⟨a1, c1, rfl⟩ := own_shape h1
    obtain ⟨a2, c2, rfl⟩ := own_shape h2
    exact ⟨_, _, _, _, _, _, _, _, h⟩
theorem Box4.aside {T : TypeId} {w : World} {b b' : Nat} {u v x y : Value} (h : Box4 T w b u v x y) (hne : b ≠ b') (u' v' x' y' : Value) : Box4 T ((((w.setCell ⟨b', 0, none⟩ u').setCell ⟨b', 1, none⟩ v').setCell ⟨b', 2, none⟩ x').setCell ⟨b', 3, none⟩ y') b u v x y := by
  unfold Box4 at *
  rw [heap_setCell_other _ ⟨b', 3, none⟩ b _ hne, heap_setCell_other _ ⟨b', 2, none⟩ b _ hne, heap_setCell_other _ ⟨b', 1, none⟩ b _ hne, heap_setCell_other _ ⟨b', 0, none⟩ b _ hne]
  exact h
theorem Box4.lt {T : TypeId} {w : World} {b : Nat} {u v x y : Value} (h : Box4 T w b u v x y) : b < w.heap.size := (Array.getElem?_eq_some_iff.1 h).1
/-- Two sizes of classes compare. -/
theorem cless_c (v va vb : Value) (p : List Int) (rs : List Qw) (d e : Nat) (x y : List Rat) (w : World) (he : Env w) (hv : ScV w v p rs) (h : Wc p (rs.map Qw.x)) (hd : d ≤ rs.length) (hde : e ≤ rs.length) (hx : x ∈ cls p (rs.map Qw.x) (d : Int)) (hy : y ∈ cls p (rs.map Qw.x) (e : Int)) (ha : Rd w va x) (hb : Rd w vb y) :
    Calls Tryz.prog 26 #[v, va, vb] w fun e w' => e = .returned (.bool (decide (sF p x < sF p y))) ∧ Ext w w' := by
  have hpe : primesErr p = 0 ∧ p.length ≤ 100 := by rcases h.wd.pr with ⟨e, _⟩ | ⟨e, _⟩ <;> rw [e] <;> decide
  have hL : (rs.map Qw.x).length = rs.length := List.length_map ..
  obtain ⟨i, rfl⟩ := h.cls_mem.1 hx
  obtain ⟨j, rfl⟩ := h.cls_mem.1 hy
  have := less32_c v va vb p rs _ _ w he hv hpe.1 hpe.2 ha hb (h.ivlen _ _) (h.ivlen _ _) (h.iv_quick (by omega) (by rw [hL]; omega)).1 (h.iv_quick (by omega) (by rw [hL]; omega)).1 (h.iv_sub_quick (by omega) (by rw [hL]; omega) (by omega) (by rw [hL]; omega))
  rw [h.iv_sgn, decide_eq_decide.2 (show _ ↔ sF p (iv p (rs.map Qw.x) i (d : Int)) < sF p (iv p (rs.map Qw.x) j (e : Int)) by rw [sgQ_neg_iff]; constructor <;> intro g <;> grind)] at this
  exact this
/-- A clash in its block. -/
def BoxC (w : World) (b : Nat) (c : Value) : Prop := ∃ u v x y, c = .agg #[u, v, x, y] ∧ Box4 47 w b u v x y
theorem BoxC.ext {w w' : World} {b : Nat} {c : Value} (h : BoxC w b c) (hx : Ext w w') : BoxC w' b c := by
  obtain ⟨u, v, x, y, e, h⟩ := h
  exact ⟨u, v, x, y, e, h.ext hx⟩
theorem BoxC.aside {w : World} {b b' : Nat} {c : Value} (h : BoxC w b c) (hne : b ≠ b') (u' v' x' y' : Value) : BoxC ((((w.setCell ⟨b', 0, none⟩ u').setCell ⟨b', 1, none⟩ v').setCell ⟨b', 2, none⟩ x').setCell ⟨b', 3, none⟩ y') b c := by
  obtain ⟨u, v, x, y, e, h⟩ := h
  refine ⟨u, v, x, y, e, ?_⟩
  unfold Box4 at *
  rw [heap_setCell_other _ ⟨b', 3, none⟩ b _ hne, heap_setCell_other _ ⟨b', 2, none⟩ b _ hne, heap_setCell_other _ ⟨b', 1, none⟩ b _ hne, heap_setCell_other _ ⟨b', 0, none⟩ b _ hne]
  exact h
theorem CshV.put4 {w : World} {B c : Nat} {v : Value} {a b : Int} {x y : List Rat} (h : CshV w B v a b x y) (hc : c < B) (u' v' x' y' : Value) : CshV ((((w.setCell ⟨c, 0, none⟩ u').setCell ⟨c, 1, none⟩ v').setCell ⟨c, 2, none⟩ x').setCell ⟨c, 3, none⟩ y') B v a b x y := by
  obtain ⟨u1, u2, e, h1, h2⟩ := h
  exact ⟨u1, u2, e, h1.put4 hc _ _ _ _, h2.put4 hc _ _ _ _⟩
/-- The law's loop: what is true from the class k on. -/
def PrR (p : List Int) (N : List (List Rat)) (Wb : World) (b1 b2 B : Nat) (k : Nat) (i1 i2 : Bool) (wr : World) : Prop :=
  ∃ c1 c2, OrdL p N 1 k wr B c1 i1 ∧ OrdL p N 0 k wr B c2 i2 ∧ BoxC wr b1 c1 ∧ BoxC wr b2 c2 ∧ Ext Wb wr
/-- What two answers on the order have in common. -/
theorem ord_same {p : List Int} {N : List (List Rat)} {m : Int} {w w' : World} {B B' : Nat} {c c' : Value} {is is' : Bool} (h : OrdR p N m w B c is) (k : OrdL p N m 0 w' B' c' is') :
    is = is' ∧ ((c = csh0 ∧ c' = csh0) ∨ ∃ a b x y, CshV w B c a b x y ∧ CshV w' B' c' a b x y ∧ x ∈ cls p N b ∧ y ∈ cls p N a) := by
  rcases h with ⟨rfl, rfl, h⟩ | ⟨rfl, d, x, y, h, hc⟩
  · rcases k with ⟨rfl, rfl, _⟩ | ⟨rfl, d, x, y, _, g2, _, _, g5, _⟩
    · exact ⟨rfl, .inl ⟨rfl, rfl⟩⟩
    · exact absurd (h d g2) g5
  · rcases k with ⟨rfl, rfl, g⟩ | ⟨rfl, d', x', y', _, g2, g3, g4, g5, g6⟩
    · exact absurd (g d (Nat.zero_le _) h.lt) h.no
    · obtain ⟨rfl, rfl, rfl⟩ := h.uniq ⟨g2, fun d h => g3 d (Nat.zero_le _) h, g4, g5⟩
      exact ⟨rfl, .inr ⟨_, _, _, _, hc, g6, List.mem_of_getElem? h.gl.2, List.mem_of_getElem? h.gl.1⟩⟩
theorem clash_eq {p : List Int} {N : List (List Rat)} {w w' W : World} {B B' : Nat} {c c' : Value} (h : Wc p N) (hs : (c = csh0 ∧ c' = csh0) ∨ ∃ a b x y, CshV w B c a b x y ∧ CshV w' B' c' a b x y ∧ x ∈ cls p N b ∧ y ∈ cls p N a) (h1 : Ext w W) (h2 : Ext w' W) :
    Calls Tryz.prog 23 #[c, c'] W fun e w'' => e = .returned (.bool true) ∧ Ext W w'' := by
  have hp : p.length ≤ 100 := by rcases h.wd.pr with ⟨e, _⟩ | ⟨e, _⟩ <;> rw [e] <;> decide
  rcases hs with ⟨rfl, rfl⟩ | ⟨a, b, x, y, ⟨u1, u2, rfl, k1, k2⟩, ⟨v1, v2, rfl, g1, g2⟩, hx, hy⟩
  · have hn : ∀ W : World, Rd W (.slice none 0 0) [] := fun W => .inl ⟨none, 0, rfl, Nat.zero_le _, rfl⟩
    exact equal32_c 0 0 _ _ _ _ [] [] W (hn W) (hn W) (hn W) (hn W) (by simp) (by simp)
  · exact equal32_c a b u1 u2 v1 v2 x y W (h1.ownQ k1).rd (h1.ownQ k2).rd (h2.ownQ g1).rd (h2.ownQ g2).rd (by rw [h.cls_lt hx]; omega) (by rw [h.cls_lt hy]; omega)
theorem ord_one {p : List Int} {N : List (List Rat)} (h : Wc p N) {d : Nat} {x y : List Rat} (hg : Gl p N d x y) : OrdOk p N 1 d ↔ ¬ sF p y < sF p x := by
  have hs := sF_sub p x y (by rw [(h.gl_len hg).1, (h.gl_len hg).2])
  constructor
  · intro ho
    have := ho x y hg
    rw [sgQ_one_iff, hs] at this
    grind
  · intro hn x' y' hg'
    obtain ⟨rfl, rfl⟩ := Gl.uniq hg hg'
    rw [sgQ_one_iff, hs]
    grind
theorem ord_zero {p : List Int} {N : List (List Rat)} (h : Wc p N) {d : Nat} {x y : List Rat} (hg : Gl p N d x y) : OrdOk p N 0 d ↔ sF p x < sF p y := by
  have hs := sF_sub p x y (by rw [(h.gl_len hg).1, (h.gl_len hg).2])
  constructor
  · intro ho
    have := ho x y hg
    rw [sgQ_neg_iff, hs] at this
    grind
  · intro hn x' y' hg'
    obtain ⟨rfl, rfl⟩ := Gl.uniq hg hg'
    rw [sgQ_neg_iff, hs]
    grind
end Go.Proofs.YtaakmdjicocjpaaGreatDoor

namespace Go.Proofs.YtaakmdjicocjpaaGreatDoor
open Go.RowKit Go.Lib Go.Shelf
attribute [local go_sem] Oper.semAt_some
theorem propers_c (a : Wl) (w : World) (he : Env w) (ha : a.Ok) :
    Calls Tryz.prog 5 #[a.v] w fun e w' => e = .returned (.bool true) ∧ Ext w w' := by
  have hkn := fun W (hE : Ext w W) => known32_c W (he.ext hE)
  have hmk := fun W (hE : Ext w W) => lMake_c a W (he.ext hE) ha
  have hrl := wl_box a w
  have hun := Tryz.underlying26
  have hin := wl_info a
  have hE0 : Ext w (w.alloc (.cells a.cs 26)) := (Ext.refl w).alloc _
  have Hkn := Lib.hid hkn; have Hmk := Lib.hid hmk; have Hrl := Lib.hid hrl; have Hun := Lib.hid hun; have Hin := Lib.hid hin; have HE0 := Lib.hid hE0; clear hkn hmk hrl hun hin hE0
  have He := Lib.hid he; clear he ha
  have hv : a.v = .agg a.cs := rfl
  have Hv := Lib.hid hv
  rw [hv]
  clear hv
  rw [wl_cs]
  go_enter Tryz.func5, Tryz.ntmps5
  rw [← wl_cs]
  go_wp2_with fail
  refine (Hkn.out _ HE0.out).mono ?_
  rintro e w1 ⟨rfl, hx1⟩
  have hrl1 := Hrl.out w1 hx1
  have Hx1 := Lib.hid (HE0.out.trans hx1); have Hrl1 := Lib.hid hrl1
  clear hx1 hrl1
  have Hmk1 := Lib.hid (Hmk.out w1 Hx1.out)
  go_wp2_with (refine wpList_load_mid rfl 26 (.tmp 1) rfl w.heap.size 0 rfl a.cs.toList _ Hrl1.out Hun.out rfl Hin.out ?_)
  rw [← Hv.out]
  refine Hmk1.out.mono ?_
  rintro e w2 ⟨v2, rs, rfl, hs2, hc2, hx2⟩
  have hw2 := wl_wc a hc2
  obtain ⟨a2, c2, b2, d2, rfl, hs2⟩ := scv_cut hs2
  have hL : (rs.map Qw.x).length = rs.length := List.length_map ..
  have hfew := hw2.wd.few
  have hpos := hw2.wd.pos
  rw [hL] at hfew hpos
  have hlp : a.p.length ≤ 100 ∧ primesErr a.p = 0 := by rcases a.pw with e | e <;> rw [e] <;> decide
  have hb2 := BoxT.new 32 w2 (.slice a2 a.p.length c2) (.slice b2 rs.length d2)
  have hE2 := (Ext.refl w2).alloc (.cells #[.slice a2 a.p.length c2, .slice b2 rs.length d2] 32)
  have Hx2 := Lib.hid ((Hx1.out.trans hx2).trans hE2); have Hs2 := Lib.hid (hs2.ext hE2); have Hw2 := Lib.hid hw2; have Hb2 := Lib.hid hb2; have HL := Lib.hid hL; have Hlp := Lib.hid hlp
  have q0 := hb2.c0
  have q1 := hb2.c1
  clear hx2 hs2 hw2 hb2 hE2 hc2 hL hlp
  have hpr := proper_c _ a.p rs _ (He.out.ext Hx2.out) Hs2.out Hw2.out
  have hst := fun W (hE : Ext (w2.alloc (.cells #[.slice a2 a.p.length c2, .slice b2 rs.length d2] 32)) W) => strict_c _ a.p rs W (He.out.ext (Hx2.out.trans hE)) (Hs2.out.ext hE) Hw2.out
  have hsz := fun (d : Nat) (hd : d ≤ rs.length) W (hE : Ext (w2.alloc (.cells #[.slice a2 a.p.length c2, .slice b2 rs.length d2] 32)) W) => lsizes_c _ a.p rs d W (He.out.ext (Hx2.out.trans hE)) (Hs2.out.ext hE) Hw2.out hd
  have hcp := fun (d : Nat) => Hw2.out.cls_pos (d : Int)
  have hcl := fun (d : Nat) => cls_len (p := a.p) (N := rs.map Qw.x) (d := (d : Int))
  rw [HL.out] at hcl
  have Hpr := Lib.hid hpr; have Hst := Lib.hid hst; have Hsz := Lib.hid hsz; have Hcp := Lib.hid hcp; have Hcl := Lib.hid hcl; clear hpr hst hsz hcp hcl
  clear Hmk1 Hkn Hmk Hrl Hrl1 Hun Hin
  generalize hN : rs.length = n at *
  have HN := Lib.hid hN
  clear hN
  go_wp2_with fail
  generalize w2.alloc (.cells #[.slice a2 a.p.length c2, .slice b2 n d2] 32) = W2 at *
  refine Hpr.out.mono ?_
  rintro e w3 ⟨⟨v3, is3, rfl, ho3⟩, hx3⟩
  obtain ⟨i1, i2, a3, n3, c3, a4, n4, c4, rfl⟩ := ho3.shape
  have hb3 := Box4.new 47 w3 (.int .i64 i1) (.int .i64 i2) (.slice a3 n3 c3) (.slice a4 n4 c4)
  have hE3 := (Ext.refl w3).alloc (.cells #[.int .i64 i1, .int .i64 i2, .slice a3 n3 c3, .slice a4 n4 c4] 47)
  have H3 := Lib.hid (hx3.trans hE3)
  have q0 := (Hb2.out.ext H3.out).c0
  have q1 := (Hb2.out.ext H3.out).c1
  have hst3 := Hst.out _ H3.out
  have HO3 := Lib.hid ho3; have HB3 := Lib.hid hb3; have Hst3 := Lib.hid hst3; have HX3 := Lib.hid hx3; have HE3 := Lib.hid hE3
  clear ho3 hb3 hst3 hx3 hE3
  go_wp2_with fail
  generalize w3.alloc (.cells #[.int .i64 i1, .int .i64 i2, .slice a3 n3 c3, .slice a4 n4 c4] 47) = W3 at *
  refine Hst3.out.mono ?_
  rintro e w5 ⟨⟨v5, is5, rfl, ho5⟩, hx5⟩
  obtain ⟨j1, j2, a5, n5, c5, a6, n6, c6, rfl⟩ := ho5.shape
  have hb5 := Box4.new 47 w5 (.int .i64 j1) (.int .i64 j2) (.slice a5 n5 c5) (.slice a6 n6 c6)
  have hE5 := (Ext.refl w5).alloc (.cells #[.int .i64 j1, .int .i64 j2, .slice a5 n5 c5, .slice a6 n6 c6] 47)
  have H5 := Lib.hid (hx5.trans hE5)
  have HO5 := Lib.hid ho5; have HB5 := Lib.hid hb5; have HE5 := Lib.hid hE5
  clear ho5 hb5 hx5 hE5
  obtain ⟨Wb, hWb⟩ : ∃ Wb, Wb = w5.alloc (.cells #[.int .i64 j1, .int .i64 j2, .slice a5 n5 c5, .slice a6 n6 c6] 47) := ⟨_, rfl⟩
  have hszb : Wb.heap.size = w5.heap.size + 1 := by rw [hWb, World.size_alloc]
  rw [← hWb] at H5 HB5 HE5
  have hEb : Ext W2 Wb := H3.out.trans H5.out
  have hEz : Ext Wb ((Wb.alloc (.cells #[.int .i64 0, .int .i64 0, .slice none 0 0, .slice none 0 0] 47)).alloc (.cells #[.int .i64 0, .int .i64 0, .slice none 0 0, .slice none 0 0] 47)) := ((Ext.refl Wb).alloc _).alloc _
  have hz1 : BoxC ((Wb.alloc (.cells #[.int .i64 0, .int .i64 0, .slice none 0 0, .slice none 0 0] 47)).alloc (.cells #[.int .i64 0, .int .i64 0, .slice none 0 0, .slice none 0 0] 47)) (w5.heap.size + 1) csh0 := ⟨_, _, _, _, rfl, by
    rw [← hszb]
    exact ((Ext.refl _).alloc _).heap (World.alloc_heap_new Wb _)⟩
  have hz2 : BoxC ((Wb.alloc (.cells #[.int .i64 0, .int .i64 0, .slice none 0 0, .slice none 0 0] 47)).alloc (.cells #[.int .i64 0, .int .i64 0, .slice none 0 0, .slice none 0 0] 47)) (w5.heap.size + 1 + 1) csh0 := ⟨_, _, _, _, rfl, by
    rw [← hszb, ← World.size_alloc Wb (.cells #[.int .i64 0, .int .i64 0, .slice none 0 0, .slice none 0 0] 47)]
    exact World.alloc_heap_new _ _⟩
  have q1 := (Hb2.out.ext (hEb.trans hEz)).c1
  have hwn : IntKind.i64.wrap ((n : Int) - 1) = (n : Int) - 1 := IntWalk.i64_in _ (by omega)
  have hszz : ((Wb.alloc (.cells #[.int .i64 0, .int .i64 0, .slice none 0 0, .slice none 0 0] 47)).alloc (.cells #[.int .i64 0, .int .i64 0, .slice none 0 0, .slice none 0 0] 47)).heap.size = w5.heap.size + 1 + 1 + 1 := by rw [World.size_alloc, World.size_alloc, hszb]
  have HEb := Lib.hid hEb; have HEz := Lib.hid hEz; have Hz1 := Lib.hid hz1; have Hz2 := Lib.hid hz2; have Hszb := Lib.hid hszb; have Hszz := Lib.hid hszz
  clear hEb hEz hz1 hz2 hszb hszz q0
  rw [hWb] at q1
  go_wp2_with fail
  rw [← hWb]
  clear q1 hWb
  go_loopw [12, 13, 14] (fun v12 v13 v14 wr => ∃ (k : Nat) (i1 i2 : Bool), v12 = .bool i1 ∧ v13 = .bool i2 ∧ v14 = .int .i64 ((k : Int) - 1) ∧ k ≤ n ∧ Hid (PrR a.p (rs.map Qw.x) Wb (w5.heap.size + 1) (w5.heap.size + 1 + 1) (w5.heap.size + 1 + 1 + 1) k i1 i2 wr)) (fun _ _ v14 _ => (intOf v14 + 1).toNat)
  case atStart => exact ⟨n, true, true, rfl, rfl, rfl, Nat.le_refl _, Lib.hid ⟨csh0, csh0, by have := OrdL.start a.p (rs.map Qw.x) 1 ((Wb.alloc (.cells #[.int .i64 0, .int .i64 0, .slice none 0 0, .slice none 0 0] 47)).alloc (.cells #[.int .i64 0, .int .i64 0, .slice none 0 0, .slice none 0 0] 47)) (w5.heap.size + 1 + 1 + 1); rwa [HL.out] at this, by have := OrdL.start a.p (rs.map Qw.x) 0 ((Wb.alloc (.cells #[.int .i64 0, .int .i64 0, .slice none 0 0, .slice none 0 0] 47)).alloc (.cells #[.int .i64 0, .int .i64 0, .slice none 0 0, .slice none 0 0] 47)) (w5.heap.size + 1 + 1 + 1); rwa [HL.out] at this, Hz1.out, Hz2.out, HEz.out⟩⟩
  case round =>
    obtain ⟨k, f1, f2, rfl, rfl, rfl, hk, HR⟩ := hrel
    by_cases hk0 : 0 < k
    · obtain ⟨j, rfl⟩ : ∃ j, k = j + 1 := ⟨k - 1, by omega⟩
      obtain ⟨x1, x2, g1, g2, g3, g4, g5⟩ := HR.out
      have hjj : (((j + 1 : Nat) : Int) - 1) = (j : Int) := by omega
      rw [hjj]
      have hj0 : (0 : Int) ≤ (j : Int) := by omega
      have hwj : IntKind.i64.wrap ((j : Int) + 1) = (j : Int) + 1 := IntWalk.i64_in _ (by omega)
      have hwk : IntKind.i64.wrap ((j : Int) - 1) = (j : Int) - 1 := IntWalk.i64_in _ (by omega)
      have hE2 := HEb.out.trans g5
      have hS : ∀ W, Ext wr W → Ext wr W ∧ W.cell? ⟨w2.heap.size, 0, none⟩ = some (.slice a2 a.p.length c2) ∧ W.cell? ⟨w2.heap.size, 1, none⟩ = some (.slice b2 n d2) := fun W hW => ⟨hW, (Hb2.out.ext (hE2.trans hW)).c0, (Hb2.out.ext (hE2.trans hW)).c1⟩
      have hsA := Hsz.out j (by omega) wr.drew hE2.drew
      have hsB := fun W (hW : Ext wr W) => Hsz.out (j + 1) (by omega) W (hE2.trans hW)
      rw [show ((j + 1 : Nat) : Int) = (j : Int) + 1 by omega] at hsB
      obtain ⟨_, e0, e1⟩ := hS _ (Ext.refl wr).drew
      have HXr : Hid (Ext wr wr) := Lib.hid (Ext.refl wr)
      have HG1 := Lib.hid g1; have HG2 := Lib.hid g2; have HG3 := Lib.hid g3; have HG4 := Lib.hid g4; have HG5 := Lib.hid g5; have HE2 := Lib.hid hE2
      have HS := Lib.hid hS; have HsA := Lib.hid hsA; have HsB := Lib.hid hsB; clear hS hsA hsB
      clear g1 g2 g3 g4 g5 HR hjj hE2
      go_wp2_with fail
      go_region_held3 (fun w' => Ext wr w' ∧ w'.cell? ⟨w2.heap.size, 0, none⟩ = some (.slice a2 a.p.length c2) ∧ w'.cell? ⟨w2.heap.size, 1, none⟩ = some (.slice b2 n d2))
        (first | (with_reducible assumption) | exact HS.out _ HXr.out.drew | exact HS.out _ HxB.out | exact HS.out _ HxA.out)
        (first
          | (have hpv := HxA; clear hpv; go_at_call 19; refine (HsB.out _ HxA.out).mono ?_; rintro e9 VB ⟨uB, rfl, outB, hqB, hmB, hxb⟩; have HxB := Lib.hid (HxA.out.trans hxb); have HqB := Lib.hid hqB; have HmB := Lib.hid hmB; have HqA2 := Lib.hid (hxb.qwM HqA.out); clear hxb hqB hmB)
          | (go_at_call 19; refine HsA.out.mono ?_; rintro e9 VA ⟨uA, rfl, outA, hqA, hmA, hxa⟩; have HxA := Lib.hid (HXr.out.drew.trans hxa); have HqA := Lib.hid hqA; have HmA := Lib.hid hmA; clear hxa hqA hmA))
      obtain ⟨x, y, hg⟩ := Hw2.out.gl j
      have hzA := Hcp.out j
      have hzB := Hcp.out (j + 1)
      have hlA := Hcl.out j
      have hlB := Hcl.out (j + 1)
      obtain ⟨aA, cA, rfl⟩ : ∃ a' c, uA = .slice a' (cls a.p (rs.map Qw.x) (j : Int)).length c := by
        obtain ⟨a', c, e⟩ := own_shape HqA2.out.1
        exact ⟨a', c, by rw [e, ← HmA.out, List.length_map]⟩
      obtain ⟨aB, cB, rfl⟩ : ∃ a' c, uB = .slice a' (cls a.p (rs.map Qw.x) ((j + 1 : Nat) : Int)).length c := by
        obtain ⟨a', c, e⟩ := own_shape HqB.out.1
        exact ⟨a', c, by rw [e, ← List.length_map (f := Qw.x), HmB.out, show ((j + 1 : Nat) : Int) = (j : Int) + 1 by omega]⟩
      obtain ⟨gA, ux, rfl, hcA, hoA⟩ := lqm_in (HqA2.out.mono HXr.out.drew.size HXr.out.drew.size) HmA.out hg.1
      obtain ⟨gB, uy, rfl, hcB, hoB⟩ := lqm_in (HqB.out.mono HxA.out.size HxA.out.size) (by rw [HmB.out, show ((j + 1 : Nat) : Int) = (j : Int) + 1 by omega]) hg.2
      obtain ⟨lx, hlx⟩ : ∃ l, l = x.length := ⟨_, rfl⟩
      obtain ⟨ly, hly⟩ : ∃ l, l = y.length := ⟨_, rfl⟩
      obtain ⟨ax, cx, rfl⟩ := own_shape hoA
      obtain ⟨ay, cy, rfl⟩ := own_shape hoB
      rw [← hlx] at hoA hcA
      rw [← hly] at hoB hcB
      generalize (cls a.p (rs.map Qw.x) (j : Int)).length = zA at *
      generalize (cls a.p (rs.map Qw.x) ((j + 1 : Nat) : Int)).length = zB at *
      obtain ⟨mA, rfl⟩ : ∃ m, zA = m + 1 := ⟨zA - 1, by omega⟩
      rw [Nat.add_sub_cancel] at hcA
      have hwA : IntKind.i64.wrap (((mA + 1 : Nat) : Int) - 1) = (mA : Int) := by rw [IntWalk.i64_in _ (by omega)]; omega
      have hwA2 : IntKind.i64.wrap ((mA : Int) + 1 - 1) = (mA : Int) := by rw [IntWalk.i64_in _ (by omega)]; omega
      have hwA3 : IntKind.i64.wrap (mA : Int) = (mA : Int) := IntWalk.i64_in _ (by omega)
      have k1 : (0 : Int) ≤ (mA : Int) := by omega
      have k2 : (mA : Int) < (mA : Int) + 1 := by omega
      have k3 : (0 : Int) < (zB : Int) := by omega
      have k4 : 0 < zB := by omega
      have hS2 : ∀ W, Ext VB W → Ext VB W ∧ W.cell? ⟨gA, mA, none⟩ = some (.slice ax lx cx) ∧ W.cell? ⟨gB, 0, none⟩ = some (.slice ay ly cy) := fun W hW => ⟨hW, hW.cell hcA, hW.cell hcB⟩
      obtain ⟨_, f3, f4⟩ := hS2 _ (Ext.refl VB).drew
      have HXb : Hid (Ext VB VB) := Lib.hid (Ext.refl VB)
      have HOA := Lib.hid hoA; have HOB := Lib.hid hoB; have HS2 := Lib.hid hS2; have Hgl := Lib.hid hg; have Hlx := Lib.hid hlx; have Hly := Lib.hid hly
      clear hoA hoB hS2 hg hlx hly hcA hcB e0 e1 hzA hzB hlA hlB
      go_wp2_with fail
      go_region_held3 (fun w' => Ext VB w' ∧ w'.cell? ⟨gA, mA, none⟩ = some (.slice ax lx cx) ∧ w'.cell? ⟨gB, 0, none⟩ = some (.slice ay ly cy))
        (first | (with_reducible assumption) | exact HS2.out _ HXb.out.drew | exact HS2.out _ (HXb.out.drew.alloc _)) (fail)
      have hb12 : Box4 47 (VB.alloc (.cells #[.int .i64 (j : Int), .int .i64 ((j : Int) + 1), .slice ay ly cy, .slice ax lx cx] 47)).drew VB.heap.size (.int .i64 (j : Int)) (.int .i64 ((j : Int) + 1)) (.slice ay ly cy) (.slice ax lx cx) := World.alloc_heap_new VB _
      have hE12 : Ext VB (VB.alloc (.cells #[.int .i64 (j : Int), .int .i64 ((j : Int) + 1), .slice ay ly cy, .slice ax lx cx] 47)).drew := ((Ext.refl VB).alloc _).drew
      have Hb12 := Lib.hid hb12; have HE12 := Lib.hid hE12
      clear hb12 hE12 f3 f4
      generalize (VB.alloc (.cells #[.int .i64 (j : Int), .int .i64 ((j : Int) + 1), .slice ay ly cy, .slice ax lx cx] 47)).drew = W12 at *
      have hwr : w5.heap.size + 1 + 1 < wr.heap.size := by
        obtain ⟨_, _, _, _, _, h⟩ := HG4.out
        exact h.lt
      have hEr : Ext wr W12 := HxB.out.trans HE12.out
      have hbE : Ext Wb W12 := HG5.out.trans hEr
      have q0 := (Hb2.out.ext (HEb.out.trans hbE)).c0
      have q1 := (Hb2.out.ext (HEb.out.trans hbE)).c1
      have r2 := Hb12.out.c2
      have r3 := Hb12.out.c3
      have hgx : x ∈ cls a.p (rs.map Qw.x) (j : Int) := List.mem_of_getElem? Hgl.out.1
      have hgy : y ∈ cls a.p (rs.map Qw.x) ((j + 1 : Nat) : Int) := List.mem_of_getElem? Hgl.out.2
      have hl1 := fun W (hE : Ext W2 W) va vb (ha : Rd W va y) (hb : Rd W vb x) => cless_c (.agg #[.slice a2 a.p.length c2, .slice b2 n d2]) va vb a.p rs (j + 1) j y x W (He.out.ext (Hx2.out.trans hE)) (Hs2.out.ext hE) Hw2.out (by rw [HN.out]; omega) (by rw [HN.out]; omega) hgy hgx ha hb
      have hl2 := fun W (hE : Ext W2 W) va vb (ha : Rd W va x) (hb : Rd W vb y) => cless_c (.agg #[.slice a2 a.p.length c2, .slice b2 n d2]) va vb a.p rs j (j + 1) x y W (He.out.ext (Hx2.out.trans hE)) (Hs2.out.ext hE) Hw2.out (by rw [HN.out]; omega) (by rw [HN.out]; omega) hgx hgy ha hb
      have ho1 := ord_one Hw2.out Hgl.out
      have ho0 := ord_zero Hw2.out Hgl.out
      have HoA := Lib.hid (HE12.out.ownQ (HOA.out.mono (show w5.heap.size + 1 + 1 + 1 ≤ _ by omega)))
      have HoB := Lib.hid (HE12.out.ownQ (HOB.out.mono (show w5.heap.size + 1 + 1 + 1 ≤ _ by have := HxA.out.size; omega)))
      have Hwr := Lib.hid hwr; have HEr := Lib.hid hEr; have HbE := Lib.hid hbE; have Hl1 := Lib.hid hl1; have Hl2 := Lib.hid hl2; have Ho1 := Lib.hid ho1; have Ho0 := Lib.hid ho0
      have hjn : j < (rs.map Qw.x).length := by rw [HL.out]; omega
      have Hjn := Lib.hid hjn
      clear hwr hEr hbE hl1 hl2 ho1 ho0 hjn hgx hgy
      by_cases h1 : sF a.p y < sF a.p x
      · have h2 : ¬ sF a.p x < sF a.p y := Rat.not_lt.2 (Rat.le_of_lt h1)
        have hc1 := Hl1.out W12 (HEb.out.trans HbE.out) (.slice ay ly cy) (.slice ax lx cx) HoB.out.rd HoA.out.rd
        rw [decide_eq_true h1] at hc1
        have Hc1 := Lib.hid hc1; have HH1 := Lib.hid h1; have HH2 := Lib.hid h2
        clear hc1 h1 h2
        go_wp2_with fail
        refine Hc1.out.mono ?_
        rintro e W13 ⟨rfl, hx13⟩
        have b12 := Hb12.out.ext hx13
        have t0 := b12.c0; have t1 := b12.c1; have t2 := b12.c2; have t3 := b12.c3
        obtain ⟨p0, p1, p2, p3, hpe, hbx⟩ := HG3.out.ext (HEr.out.trans hx13)
        have s0 := hbx.c0; have s1 := hbx.c1; have s2 := hbx.c2; have s3 := hbx.c3
        have z0 := hbx.fz 0; have z1 := hbx.fz 1; have z2 := hbx.fz 2; have z3 := hbx.fz 3
        have hE14 : Ext Wb ((((W13.setCell ⟨w5.heap.size + 1, 0, none⟩ (.int .i64 (j : Int))).setCell ⟨w5.heap.size + 1, 1, none⟩ (.int .i64 ((j : Int) + 1))).setCell ⟨w5.heap.size + 1, 2, none⟩ (.slice ay ly cy)).setCell ⟨w5.heap.size + 1, 3, none⟩ (.slice ax lx cx)) := (HbE.out.trans hx13).put4 (by have := Hszb.out; omega) _ _ _ _
        have hne : VB.heap.size ≠ w5.heap.size + 1 := by have := Hwr.out; have := HxB.out.size; omega
        have b14 := b12.aside hne (.int .i64 (j : Int)) (.int .i64 ((j : Int) + 1)) (.slice ay ly cy) (.slice ax lx cx)
        have q0 := (Hb2.out.ext (HEb.out.trans hE14)).c0
        have q1 := (Hb2.out.ext (HEb.out.trans hE14)).c1
        have y0 := b14.c0; have y1 := b14.c1; have y2 := b14.c2; have y3 := b14.c3
        have oA := (hx13.ownQ HoA.out).put4 (c := w5.heap.size + 1) (by omega) (.int .i64 (j : Int)) (.int .i64 ((j : Int) + 1)) (.slice ay ly cy) (.slice ax lx cx)
        have oB := (hx13.ownQ HoB.out).put4 (c := w5.heap.size + 1) (by omega) (.int .i64 (j : Int)) (.int .i64 ((j : Int) + 1)) (.slice ay ly cy) (.slice ax lx cx)
        have hc2 := Hl2.out _ (HEb.out.trans hE14) (.slice ax lx cx) (.slice ay ly cy) oA.rd oB.rd
        rw [decide_eq_false HH2.out] at hc2
        have hn1 : BoxC ((((W13.setCell ⟨w5.heap.size + 1, 0, none⟩ (.int .i64 (j : Int))).setCell ⟨w5.heap.size + 1, 1, none⟩ (.int .i64 ((j : Int) + 1))).setCell ⟨w5.heap.size + 1, 2, none⟩ (.slice ay ly cy)).setCell ⟨w5.heap.size + 1, 3, none⟩ (.slice ax lx cx)) (w5.heap.size + 1) (.agg #[.int .i64 (j : Int), .int .i64 ((j : Int) + 1), .slice ay ly cy, .slice ax lx cx]) := ⟨_, _, _, _, rfl, hbx.put (.int .i64 (j : Int)) (.int .i64 ((j : Int) + 1)) (.slice ay ly cy) (.slice ax lx cx)⟩
        have hn2 : BoxC ((((W13.setCell ⟨w5.heap.size + 1, 0, none⟩ (.int .i64 (j : Int))).setCell ⟨w5.heap.size + 1, 1, none⟩ (.int .i64 ((j : Int) + 1))).setCell ⟨w5.heap.size + 1, 2, none⟩ (.slice ay ly cy)).setCell ⟨w5.heap.size + 1, 3, none⟩ (.slice ax lx cx)) (w5.heap.size + 1 + 1) x2 := (HG4.out.ext (HEr.out.trans hx13)).aside (by omega) (.int .i64 (j : Int)) (.int .i64 ((j : Int) + 1)) (.slice ay ly cy) (.slice ax lx cx)
        have Hc2 := Lib.hid hc2; have HE14 := Lib.hid hE14; have B14 := Lib.hid b14; have HoA2 := Lib.hid oA; have HoB2 := Lib.hid oB; have Hn1 := Lib.hid hn1; have Hn2 := Lib.hid hn2
        clear hc2 hE14 b14 oA oB hn1 hn2 b12 hbx hpe hx13
        go_wp2_with fail
        generalize ((((W13.setCell ⟨w5.heap.size + 1, 0, none⟩ (.int .i64 (j : Int))).setCell ⟨w5.heap.size + 1, 1, none⟩ (.int .i64 ((j : Int) + 1))).setCell ⟨w5.heap.size + 1, 2, none⟩ (.slice ay ly cy)).setCell ⟨w5.heap.size + 1, 3, none⟩ (.slice ax lx cx)) = W14 at *
        refine Hc2.out.mono ?_
        rintro e W15 ⟨rfl, hx15⟩
        have b15 := B14.out.ext hx15
        have t0 := b15.c0; have t1 := b15.c1; have t2 := b15.c2; have t3 := b15.c3
        obtain ⟨p0, p1, p2, p3, hpe, hbx⟩ := Hn2.out.ext hx15
        have s0 := hbx.c0; have s1 := hbx.c1; have s2 := hbx.c2; have s3 := hbx.c3
        have z0 := hbx.fz 0; have z1 := hbx.fz 1; have z2 := hbx.fz 2; have z3 := hbx.fz 3
        have hfin : PrR a.p (rs.map Qw.x) Wb (w5.heap.size + 1) (w5.heap.size + 1 + 1) (w5.heap.size + 1 + 1 + 1) j false false ((((W15.setCell ⟨w5.heap.size + 1 + 1, 0, none⟩ (.int .i64 (j : Int))).setCell ⟨w5.heap.size + 1 + 1, 1, none⟩ (.int .i64 ((j : Int) + 1))).setCell ⟨w5.heap.size + 1 + 1, 2, none⟩ (.slice ay ly cy)).setCell ⟨w5.heap.size + 1 + 1, 3, none⟩ (.slice ax lx cx)) :=
          have hcs : CshV ((((W15.setCell ⟨w5.heap.size + 1 + 1, 0, none⟩ (.int .i64 (j : Int))).setCell ⟨w5.heap.size + 1 + 1, 1, none⟩ (.int .i64 ((j : Int) + 1))).setCell ⟨w5.heap.size + 1 + 1, 2, none⟩ (.slice ay ly cy)).setCell ⟨w5.heap.size + 1 + 1, 3, none⟩ (.slice ax lx cx)) (w5.heap.size + 1 + 1 + 1) (.agg #[.int .i64 (j : Int), .int .i64 ((j : Int) + 1), .slice ay ly cy, .slice ax lx cx]) (j : Int) ((j + 1 : Nat) : Int) y x := ⟨_, _, by rw [show ((j + 1 : Nat) : Int) = (j : Int) + 1 by omega], (hx15.ownQ HoB2.out).put4 (by omega) _ _ _ _, (hx15.ownQ HoA2.out).put4 (by omega) _ _ _ _⟩
          ⟨_, _, OrdL.new Hjn.out Hgl.out (fun h => Ho1.out.1 h HH1.out) hcs, OrdL.new Hjn.out Hgl.out (fun h => HH2.out (Ho0.out.1 h)) hcs, (Hn1.out.ext hx15).aside (by omega) _ _ _ _, ⟨_, _, _, _, rfl, hbx.put _ _ _ _⟩, (HE14.out.trans hx15).put4 (by have := Hszb.out; omega) _ _ _ _⟩
        have Hfin := Lib.hid hfin
        clear hfin hbx hpe b15 hx15 q0 q1 y0 y1 y2 y3
        go_wp2_with fail
        go_roundw
        case rel => exact ⟨j, false, false, rfl, rfl, rfl, by omega, Hfin⟩
        case measure => simp [intOf]
      · have hc1 := Hl1.out W12 (HEb.out.trans HbE.out) (.slice ay ly cy) (.slice ax lx cx) HoB.out.rd HoA.out.rd
        rw [decide_eq_false h1] at hc1
        have Hc1 := Lib.hid hc1; have HH1 := Lib.hid h1
        clear hc1 h1
        go_wp2_with fail
        refine Hc1.out.mono ?_
        rintro e W13 ⟨rfl, hx13⟩
        have b12 := Hb12.out.ext hx13
        have t2 := b12.c2; have t3 := b12.c3
        have hE13 := HbE.out.trans hx13
        have q0 := (Hb2.out.ext (HEb.out.trans hE13)).c0
        have q1 := (Hb2.out.ext (HEb.out.trans hE13)).c1
        have hc2 := Hl2.out _ (HEb.out.trans hE13) (.slice ax lx cx) (.slice ay ly cy) (hx13.ownQ HoA.out).rd (hx13.ownQ HoB.out).rd
        have Hb13 := Lib.hid b12; have HE13 := Lib.hid hE13; have Hx13 := Lib.hid hx13
        clear b12 hE13 hx13 r2 r3
        by_cases h2 : sF a.p x < sF a.p y
        · rw [decide_eq_true h2] at hc2
          have Hc2 := Lib.hid hc2; have HH2 := Lib.hid h2
          clear hc2 h2
          go_wp2_with fail
          refine Hc2.out.mono ?_
          rintro e W14 ⟨rfl, hx14⟩
          have hEE := HEr.out.trans (Hx13.out.trans hx14)
          have hfin : PrR a.p (rs.map Qw.x) Wb (w5.heap.size + 1) (w5.heap.size + 1 + 1) (w5.heap.size + 1 + 1 + 1) j f1 f2 W14 :=
            ⟨x1, x2, (HG1.out.keep (Ho1.out.2 HH1.out)).mem (fun _ _ _ _ h => hEE.cshV h), (HG2.out.keep (Ho0.out.2 HH2.out)).mem (fun _ _ _ _ h => hEE.cshV h), HG3.out.ext hEE, HG4.out.ext hEE, HE13.out.trans hx14⟩
          have Hfin := Lib.hid hfin
          clear hfin hEE hx14 q0 q1 t2 t3
          go_wp2_with fail
          go_roundw
          case rel => exact ⟨j, f1, f2, rfl, rfl, rfl, by omega, Hfin⟩
          case measure => simp [intOf]
        · rw [decide_eq_false h2] at hc2
          have Hc2 := Lib.hid hc2; have HH2 := Lib.hid h2
          clear hc2 h2
          go_wp2_with fail
          refine Hc2.out.mono ?_
          rintro e W15 ⟨rfl, hx15⟩
          have b15 := Hb13.out.ext hx15
          have t0 := b15.c0; have t1 := b15.c1; have t2 := b15.c2; have t3 := b15.c3
          have hEE := HEr.out.trans (Hx13.out.trans hx15)
          obtain ⟨p0, p1, p2, p3, hpe, hbx⟩ := HG4.out.ext hEE
          have s0 := hbx.c0; have s1 := hbx.c1; have s2 := hbx.c2; have s3 := hbx.c3
          have z0 := hbx.fz 0; have z1 := hbx.fz 1; have z2 := hbx.fz 2; have z3 := hbx.fz 3
          have hfin : PrR a.p (rs.map Qw.x) Wb (w5.heap.size + 1) (w5.heap.size + 1 + 1) (w5.heap.size + 1 + 1 + 1) j f1 false ((((W15.setCell ⟨w5.heap.size + 1 + 1, 0, none⟩ (.int .i64 (j : Int))).setCell ⟨w5.heap.size + 1 + 1, 1, none⟩ (.int .i64 ((j : Int) + 1))).setCell ⟨w5.heap.size + 1 + 1, 2, none⟩ (.slice ay ly cy)).setCell ⟨w5.heap.size + 1 + 1, 3, none⟩ (.slice ax lx cx)) :=
            have hcs : CshV ((((W15.setCell ⟨w5.heap.size + 1 + 1, 0, none⟩ (.int .i64 (j : Int))).setCell ⟨w5.heap.size + 1 + 1, 1, none⟩ (.int .i64 ((j : Int) + 1))).setCell ⟨w5.heap.size + 1 + 1, 2, none⟩ (.slice ay ly cy)).setCell ⟨w5.heap.size + 1 + 1, 3, none⟩ (.slice ax lx cx)) (w5.heap.size + 1 + 1 + 1) (.agg #[.int .i64 (j : Int), .int .i64 ((j : Int) + 1), .slice ay ly cy, .slice ax lx cx]) (j : Int) ((j + 1 : Nat) : Int) y x := ⟨_, _, by rw [show ((j + 1 : Nat) : Int) = (j : Int) + 1 by omega], ((Hx13.out.trans hx15).ownQ HoB.out).put4 (by omega) _ _ _ _, ((Hx13.out.trans hx15).ownQ HoA.out).put4 (by omega) _ _ _ _⟩
            ⟨x1, _, (HG1.out.keep (Ho1.out.2 HH1.out)).mem (fun _ _ _ _ h => (hEE.cshV h).put4 (by omega) _ _ _ _), OrdL.new Hjn.out Hgl.out (fun h => HH2.out (Ho0.out.1 h)) hcs, (HG3.out.ext hEE).aside (by omega) _ _ _ _, ⟨_, _, _, _, rfl, hbx.put _ _ _ _⟩, (HE13.out.trans hx15).put4 (by have := Hszb.out; omega) _ _ _ _⟩
          have Hfin := Lib.hid hfin
          clear hfin hbx hpe b15 hx15 hEE q0 q1
          go_wp2_with fail
          go_roundw
          case rel => exact ⟨j, f1, false, rfl, rfl, rfl, by omega, Hfin⟩
          case measure => simp [intOf]
    · obtain rfl : k = 0 := by omega
      rw [show (((0 : Nat) : Int) - 1) = -1 from rfl]
      obtain ⟨x1, x2, g1, g2, g3, g4, g5⟩ := HR.out
      obtain ⟨rfl, hs1⟩ := ord_same HO3.out g1
      obtain ⟨rfl, hs2⟩ := ord_same HO5.out g2
      obtain ⟨m1, m2, b1, n7, c7, b3, n8, c8, rfl⟩ := g1.shape
      obtain ⟨m3, m4, b4, n9, c9, b5, n0, c0, rfl⟩ := g2.shape
      obtain ⟨_, _, _, _, e1, hb1⟩ := g3
      simp only [Value.agg.injEq, Array.mk.injEq, List.cons.injEq, and_true] at e1
      obtain ⟨rfl, rfl, rfl, rfl⟩ := e1
      obtain ⟨_, _, _, _, e1, hb6⟩ := g4
      simp only [Value.agg.injEq, Array.mk.injEq, List.cons.injEq, and_true] at e1
      obtain ⟨rfl, rfl, rfl, rfl⟩ := e1
      have hc1 := clash_eq (W := wr) Hw2.out hs1 (HE3.out.trans (H5.out.trans g5)) (Ext.refl wr)
      have hc2 := fun W (hE : Ext wr W) => clash_eq (W := W) Hw2.out hs2 (HE5.out.trans (g5.trans hE)) hE
      have bb3 := HB3.out.ext (H5.out.trans g5)
      have bb5 := HB5.out.ext g5
      have s0 := bb3.c0; have s1 := bb3.c1; have s2 := bb3.c2; have s3 := bb3.c3
      have t0 := hb1.c0; have t1 := hb1.c1; have t2 := hb1.c2; have t3 := hb1.c3
      have Hc1 := Lib.hid hc1; have Hc2 := Lib.hid hc2; have Bb5 := Lib.hid bb5; have Hb6 := Lib.hid hb6; have Hend := Lib.hid (Hx2.out.trans (HEb.out.trans g5))
      clear hc1 hc2 bb3 bb5 hb1 hb6 g1 g2 g5 hs1 hs2 HR
      go_wp2_with fail
      refine Hc1.out.mono ?_
      rintro e W8 ⟨rfl, hx8⟩
      have b5 := Bb5.out.ext hx8
      have b6 := Hb6.out.ext hx8
      have s0 := b5.c0; have s1 := b5.c1; have s2 := b5.c2; have s3 := b5.c3
      have t0 := b6.c0; have t1 := b6.c1; have t2 := b6.c2; have t3 := b6.c3
      have Hc3 := Lib.hid (Hc2.out W8 hx8); have Hx8 := Lib.hid hx8
      clear hx8 b5 b6
      go_wp2_with fail
      refine Hc3.out.mono ?_
      rintro e W9 ⟨rfl, hx9⟩
      have Hx9 := Lib.hid (Hend.out.trans (Hx8.out.trans hx9))
      clear hx9
      go_wp2
      go_ret
      exact ⟨rfl, Hx9.out⟩
end Go.Proofs.YtaakmdjicocjpaaGreatDoor
