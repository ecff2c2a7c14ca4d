/- Walk: law 31's Major. Walk: scale.Steps of a right scale. Plain: the major scale is the collection of seven fifths; what reduces there. -/
import Derived.Test.YtaakmdjicocjpaaGreatDoorPbD
import Derived.Test.YtaakmdjicocjpaaGreatDoorPaX
import Derived.Test.YtaakmdjicocjpaaGreatDoorPbH
import Derived.Test.YtaakmdjicocjpaaGreatDoorPaW
import Derived.Test.YtaakmdjicocjpaaGreatDoorPaT
namespace Go.Proofs.YtaakmdjicocjpaaGreatDoor
open Go.RowKit Go.Lib Go.Shelf

attribute [local go_sem] Oper.semAt_some

theorem sl_other {W : World} {g off n cp : Nat} {us : List Value} {c : Nat} (h : Sl W (.slice (some ⟨g, off, none⟩) n cp) us) (hne : g ≠ c) (k : Nat) (x : Value) : Sl (W.setCell ⟨c, k, none⟩ x) (.slice (some ⟨g, off, none⟩) n cp) us := by
  rcases h with ⟨a, cap, e, hm, h0⟩ | ⟨b, off', cap, e, h1, h2, hc⟩
  · exact .inl ⟨a, cap, e, hm, h0⟩
  · refine .inr ⟨b, off', cap, e, h1, h2, fun i q hq => ?_⟩
    injection e with e1 _ _
    injection e1 with e1
    injection e1 with e1 e2
    subst e1; subst e2
    rw [World.cell?_setCell_other _ _ _ _ (by intro e'; simp only [Addr.mk.injEq] at e'; exact hne e'.1.symm)]
    exact hc i q hq
/-- Fractions do not lie in a block that holds no strings. -/
theorem rd_past {T : TypeId} {W : World} {c : Nat} {u v s : Value} {xs : List Rat} (hs : Rd W s xs) (hb : BoxT T W c u v) (hu : ∀ z, u ≠ .string z) (hv : ∀ z, v ≠ .string z) (x y : Value) : Rd ((W.setCell ⟨c, 0, none⟩ x).setCell ⟨c, 1, none⟩ y) s xs := by
  rcases hs with hn | ⟨b, off, cap, e, h1, h2, hc⟩
  · exact .inl hn
  · have hno : ∀ k z, W.cell? ⟨b, k, none⟩ = some (.string z) → b ≠ c := by
      rintro k z h rfl
      unfold World.cell? at h
      dsimp only at h
      rw [hb] at h
      rcases (by omega : k = 0 ∨ k = 1 ∨ 2 ≤ k) with g | g | g
      · rw [g] at h
        exact hu z (Option.some.inj h)
      · rw [g] at h
        exact hv z (Option.some.inj h)
      · have : (#[u, v] : Array Value)[k]? = none := Array.getElem?_eq_none (by simpa using g)
        simp [this] at h
    have hk : ∀ k z, W.cell? ⟨b, k, none⟩ = some (.string z) → ((W.setCell ⟨c, 0, none⟩ x).setCell ⟨c, 1, none⟩ y).cell? ⟨b, k, none⟩ = some (.string z) := fun k z h => by
      have hbc := hno k z h
      rw [World.cell?_setCell_other _ _ _ _ (by intro e'; simp only [Addr.mk.injEq] at e'; exact hbc e'.1.symm), World.cell?_setCell_other _ _ _ _ (by intro e'; simp only [Addr.mk.injEq] at e'; exact hbc e'.1.symm)]
      exact h
    exact .inr ⟨b, off, cap, e, h1, h2, fun i r hr => ⟨hk _ _ (hc i r hr).1, hk _ _ (hc i r hr).2⟩⟩
def majorZ : List (List Int) := [[-3, 2], [-6, 4], [2, -1], [-1, 1], [-4, 3], [-7, 5], [1, 0]]
def majorQ : List (List Rat) := majorZ.map rats

set_option maxRecDepth 100000 in
set_option maxHeartbeats 1600000 in
theorem major_c (w : World) (he : Env w) :
    Calls Tryz.prog 52 #[] w fun e w' => ∃ v rs, e = .returned v ∧ ScV w' v [2, 3] rs ∧ rs.map Qw.x = majorQ ∧ Ext w w' := by
  have hwh := fun W v (l : List Int) (hE : Ext w W) (hv : Sl W v (i64s l)) (h9 : l.length ≤ 1000) (hl : ∀ z ∈ l, z.natAbs < 1000000000) => whole_c v l W (he.ext hE) hv h9 hl
  have hw2 := fun W (a b : Int) (hE : Ext w W) (ha : a.natAbs < 1000000000) (hb : b.natAbs < 1000000000) => hwh (W.alloc (.cells #[.int .i64 a, .int .i64 b] 3)) (.slice (some ⟨W.heap.size, 0, none⟩) 2 2) [a, b] (hE.alloc _) (sl_cells (us := [.int .i64 a, .int .i64 b]) (World.alloc_heap_new W _) (by unfold maxLen; simp)) (by simp) (fun z hz => by
    simp only [List.mem_cons, List.not_mem_nil, or_false] at hz
    rcases hz with rfl | rfl <;> assumption)
  have hb0 := BoxT.new 32 w (.slice none 0 0) (.slice none 0 0)
  have hE0 : Ext w (w.alloc (.cells #[.slice none 0 0, .slice none 0 0] 32)) := (Ext.refl w).alloc _
  have Hw2 := Lib.hid hw2; have HB0 := Lib.hid hb0; have HE0 := Lib.hid hE0
  clear hwh hw2 hb0 hE0 he
  go_enter Tryz.func52, Tryz.ntmps52
  obtain ⟨W0, hW0⟩ : ∃ W0, W0 = (w.alloc (.cells #[.slice none 0 0, .slice none 0 0] 32)).alloc (.cells #[.int .i64 2, .int .i64 3] 3) := ⟨_, rfl⟩
  have hpr : Sl W0 (.slice (some ⟨w.heap.size + 1, 0, none⟩) 2 2) (i64s [2, 3]) := by
    have := sl_cells (us := [.int .i64 2, .int .i64 3]) (World.alloc_heap_new (w.alloc (.cells #[.slice none 0 0, .slice none 0 0] 32)) (.cells #[.int .i64 2, .int .i64 3] 3)) (by unfold maxLen; simp)
    rw [World.size_alloc] at this
    rw [hW0]
    exact this
  have hxw : Ext (w.alloc (.cells #[.slice none 0 0, .slice none 0 0] 32)) W0 := by rw [hW0]; exact (Ext.refl _).alloc _
  have hsz0 : W0.heap.size = w.heap.size + 1 + 1 := by rw [hW0, World.size_alloc, World.size_alloc]
  have hc1 := Hw2.out W0 (-3) (2) (HE0.out.trans hxw) (by decide) (by decide)
  rw [hsz0] at hc1
  have Hc1 := Lib.hid hc1
  clear hc1 hsz0
  have Hpr := Lib.hid hpr; have Hx0 := Lib.hid hxw
  clear hpr hxw
  go_wp2_with fail
  rw [← hW0]
  clear hW0
  refine Hc1.out.mono ?_
  rintro e w1 ⟨u1, rfl, ho1, hx1⟩
  obtain ⟨a1, c1, rfl, _, _, _⟩ := ho1.rd.parts
  rw [show (rats [-3, 2]).length = 2 from rfl] at *
  have hy1 := ((Ext.refl W0).alloc (.cells #[.int .i64 (-3), .int .i64 (2)] 3)).trans hx1
  have Hx1 := Lib.hid (Hx0.out.trans hy1); have Hr1 := Lib.hid ho1.rd
  have Hpr := Lib.hid (hy1.sl Hpr.out)
  clear ho1 hx1 hy1
  go_wp2_with fail
  refine (Hw2.out w1 (-6) (4) (HE0.out.trans Hx1.out) (by decide) (by decide)).mono ?_
  rintro e w2 ⟨u2, rfl, ho2, hx2⟩
  obtain ⟨a2, c2, rfl, _, _, _⟩ := ho2.rd.parts
  rw [show (rats [-6, 4]).length = 2 from rfl] at *
  have hy2 := ((Ext.refl w1).alloc (.cells #[.int .i64 (-6), .int .i64 (4)] 3)).trans hx2
  have Hx2 := Lib.hid (Hx1.out.trans hy2); have Hr2 := Lib.hid ho2.rd
  have Hr1 := Lib.hid (hy2.rd Hr1.out)
  have Hpr := Lib.hid (hy2.sl Hpr.out)
  clear ho2 hx2 hy2
  go_wp2_with fail
  refine (Hw2.out w2 (2) (-1) (HE0.out.trans Hx2.out) (by decide) (by decide)).mono ?_
  rintro e w3 ⟨u3, rfl, ho3, hx3⟩
  obtain ⟨a3, c3, rfl, _, _, _⟩ := ho3.rd.parts
  rw [show (rats [2, -1]).length = 2 from rfl] at *
  have hy3 := ((Ext.refl w2).alloc (.cells #[.int .i64 (2), .int .i64 (-1)] 3)).trans hx3
  have Hx3 := Lib.hid (Hx2.out.trans hy3); have Hr3 := Lib.hid ho3.rd
  have Hr1 := Lib.hid (hy3.rd Hr1.out)
  have Hr2 := Lib.hid (hy3.rd Hr2.out)
  have Hpr := Lib.hid (hy3.sl Hpr.out)
  clear ho3 hx3 hy3
  go_wp2_with fail
  refine (Hw2.out w3 (-1) (1) (HE0.out.trans Hx3.out) (by decide) (by decide)).mono ?_
  rintro e w4 ⟨u4, rfl, ho4, hx4⟩
  obtain ⟨a4, c4, rfl, _, _, _⟩ := ho4.rd.parts
  rw [show (rats [-1, 1]).length = 2 from rfl] at *
  have hy4 := ((Ext.refl w3).alloc (.cells #[.int .i64 (-1), .int .i64 (1)] 3)).trans hx4
  have Hx4 := Lib.hid (Hx3.out.trans hy4); have Hr4 := Lib.hid ho4.rd
  have Hr1 := Lib.hid (hy4.rd Hr1.out)
  have Hr2 := Lib.hid (hy4.rd Hr2.out)
  have Hr3 := Lib.hid (hy4.rd Hr3.out)
  have Hpr := Lib.hid (hy4.sl Hpr.out)
  clear ho4 hx4 hy4
  go_wp2_with fail
  refine (Hw2.out w4 (-4) (3) (HE0.out.trans Hx4.out) (by decide) (by decide)).mono ?_
  rintro e w5 ⟨u5, rfl, ho5, hx5⟩
  obtain ⟨a5, c5, rfl, _, _, _⟩ := ho5.rd.parts
  rw [show (rats [-4, 3]).length = 2 from rfl] at *
  have hy5 := ((Ext.refl w4).alloc (.cells #[.int .i64 (-4), .int .i64 (3)] 3)).trans hx5
  have Hx5 := Lib.hid (Hx4.out.trans hy5); have Hr5 := Lib.hid ho5.rd
  have Hr1 := Lib.hid (hy5.rd Hr1.out)
  have Hr2 := Lib.hid (hy5.rd Hr2.out)
  have Hr3 := Lib.hid (hy5.rd Hr3.out)
  have Hr4 := Lib.hid (hy5.rd Hr4.out)
  have Hpr := Lib.hid (hy5.sl Hpr.out)
  clear ho5 hx5 hy5
  go_wp2_with fail
  refine (Hw2.out w5 (-7) (5) (HE0.out.trans Hx5.out) (by decide) (by decide)).mono ?_
  rintro e w6 ⟨u6, rfl, ho6, hx6⟩
  obtain ⟨a6, c6, rfl, _, _, _⟩ := ho6.rd.parts
  rw [show (rats [-7, 5]).length = 2 from rfl] at *
  have hy6 := ((Ext.refl w5).alloc (.cells #[.int .i64 (-7), .int .i64 (5)] 3)).trans hx6
  have Hx6 := Lib.hid (Hx5.out.trans hy6); have Hr6 := Lib.hid ho6.rd
  have Hr1 := Lib.hid (hy6.rd Hr1.out)
  have Hr2 := Lib.hid (hy6.rd Hr2.out)
  have Hr3 := Lib.hid (hy6.rd Hr3.out)
  have Hr4 := Lib.hid (hy6.rd Hr4.out)
  have Hr5 := Lib.hid (hy6.rd Hr5.out)
  have Hpr := Lib.hid (hy6.sl Hpr.out)
  clear ho6 hx6 hy6
  go_wp2_with fail
  refine (Hw2.out w6 (1) (0) (HE0.out.trans Hx6.out) (by decide) (by decide)).mono ?_
  rintro e w7 ⟨u7, rfl, ho7, hx7⟩
  obtain ⟨a7, c7, rfl, _, _, _⟩ := ho7.rd.parts
  rw [show (rats [1, 0]).length = 2 from rfl] at *
  have hy7 := ((Ext.refl w6).alloc (.cells #[.int .i64 (1), .int .i64 (0)] 3)).trans hx7
  have Hx7 := Lib.hid (Hx6.out.trans hy7); have Hr7 := Lib.hid ho7.rd
  have Hr1 := Lib.hid (hy7.rd Hr1.out)
  have Hr2 := Lib.hid (hy7.rd Hr2.out)
  have Hr3 := Lib.hid (hy7.rd Hr3.out)
  have Hr4 := Lib.hid (hy7.rd Hr4.out)
  have Hr5 := Lib.hid (hy7.rd Hr5.out)
  have Hr6 := Lib.hid (hy7.rd Hr6.out)
  have Hpr := Lib.hid (hy7.sl Hpr.out)
  clear ho7 hx7 hy7
  have hE9 : Ext w7 (w7.alloc (.cells #[.slice a1 2 c1, .slice a2 2 c2, .slice a3 2 c3, .slice a4 2 c4, .slice a5 2 c5, .slice a6 2 c6, .slice a7 2 c7] 41)) := (Ext.refl w7).alloc _
  have hn9 : Sl (w7.alloc (.cells #[.slice a1 2 c1, .slice a2 2 c2, .slice a3 2 c3, .slice a4 2 c4, .slice a5 2 c5, .slice a6 2 c6, .slice a7 2 c7] 41)) (.slice (some ⟨w7.heap.size, 0, none⟩) 7 7) [.slice a1 2 c1, .slice a2 2 c2, .slice a3 2 c3, .slice a4 2 c4, .slice a5 2 c5, .slice a6 2 c6, .slice a7 2 c7] := sl_cells (us := [.slice a1 2 c1, .slice a2 2 c2, .slice a3 2 c3, .slice a4 2 c4, .slice a5 2 c5, .slice a6 2 c6, .slice a7 2 c7]) (World.alloc_heap_new w7 _) (by unfold maxLen; simp)
  have hk9 : K0 32 w (w7.alloc (.cells #[.slice a1 2 c1, .slice a2 2 c2, .slice a3 2 c3, .slice a4 2 c4, .slice a5 2 c5, .slice a6 2 c6, .slice a7 2 c7] 41)) w.heap.size := ⟨(HE0.out.trans Hx7.out).trans hE9, _, _, HB0.out.ext (Hx7.out.trans hE9)⟩
  have hb9 := HB0.out.ext (Hx7.out.trans hE9)
  have k0 := hk9.res.c0; have k1 := hk9.res.c1; have z0 := hk9.res.fz 0; have z1 := hk9.res.fz 1
  obtain ⟨hb5, hx5⟩ := hk9.fin (Nat.le_refl _) (.slice (some ⟨w.heap.size + 1, 0, none⟩) 2 2) (.slice (some ⟨w7.heap.size, 0, none⟩) 7 7)
  have Hb5 := Lib.hid hb5; have Hx5 := Lib.hid hx5; have HE9 := Lib.hid hE9; have Hn9 := Lib.hid hn9; have Hb9 := Lib.hid hb9
  clear hb5 hx5 hk9 hE9 hn9 hb9
  go_wp2_with fail
  have hd0 := Hb5.out.c0
  have hd1 := Hb5.out.c1
  have hne : w7.heap.size ≠ w.heap.size := by
    have := (HE0.out.trans Hx7.out).size
    have := HB0.out.lt
    have := Hx7.out.size
    omega
  have hp5 := sl_past (HE9.out.sl Hpr.out) Hb9.out (by simp) (by simp) (.slice (some ⟨w.heap.size + 1, 0, none⟩) 2 2) (.slice (some ⟨w7.heap.size, 0, none⟩) 7 7)
  have hn5 := sl_other (sl_other Hn9.out hne 0 (.slice (some ⟨w.heap.size + 1, 0, none⟩) 2 2)) hne 1 (.slice (some ⟨w7.heap.size, 0, none⟩) 7 7)
  have hrp := fun s xs (h : Rd w7 s xs) => rd_past (HE9.out.rd h) Hb9.out (by simp) (by simp) (.slice (some ⟨w.heap.size + 1, 0, none⟩) 2 2) (.slice (some ⟨w7.heap.size, 0, none⟩) 7 7)
  exact bodyPost_ret (v := .agg #[.slice (some ⟨w.heap.size + 1, 0, none⟩) 2 2, .slice (some ⟨w7.heap.size, 0, none⟩) 7 7]) (by simp [results, Tryz.results52, go_sem, hd0, hd1]) rfl ⟨_, [⟨rats [-3, 2], .slice a1 2 c1, rfl⟩, ⟨rats [-6, 4], .slice a2 2 c2, rfl⟩, ⟨rats [2, -1], .slice a3 2 c3, rfl⟩, ⟨rats [-1, 1], .slice a4 2 c4, rfl⟩, ⟨rats [-4, 3], .slice a5 2 c5, rfl⟩, ⟨rats [-7, 5], .slice a6 2 c6, rfl⟩, ⟨rats [1, 0], .slice a7 2 c7, rfl⟩], rfl, ⟨_, _, rfl, hp5, hn5, by
    intro r hr
    simp only [List.mem_cons, List.not_mem_nil, or_false] at hr
    rcases hr with rfl | rfl | rfl | rfl | rfl | rfl | rfl
    · exact hrp _ _ Hr1.out
    · exact hrp _ _ Hr2.out
    · exact hrp _ _ Hr3.out
    · exact hrp _ _ Hr4.out
    · exact hrp _ _ Hr5.out
    · exact hrp _ _ Hr6.out
    · exact hrp _ _ Hr7.out⟩, rfl, Hx5.out⟩
end Go.Proofs.YtaakmdjicocjpaaGreatDoor

namespace Go.Proofs.YtaakmdjicocjpaaGreatDoor
open Go.RowKit Go.Lib

attribute [local go_sem] Oper.semAt_some

/-- The steps of a scale. -/
def stQ (n : Nat) (rs : List Qw) (k : Nat) : List Rat := subZ (((rs[k]?).map Qw.x).getD []) (prevQ n rs k)
def stQs (n : Nat) (rs : List Qw) (k : Nat) : List (List Rat) := (List.range k).map (stQ n rs)
theorem stQs_succ (n : Nat) (rs : List Qw) (k : Nat) : stQs n rs (k + 1) = stQs n rs k ++ [stQ n rs k] := by unfold stQs; rw [List.range_succ, List.map_append]; rfl
theorem stQs_len (n : Nat) (rs : List Qw) (k : Nat) : (stQs n rs k).length = k := by unfold stQs; simp

def StepR (w : World) (n : Nat) (rs : List Qw) (k : Nat) (u : Value) (wr : World) : Prop := ∃ out : List Qw, QwM wr w.heap.size w.heap.size u out ∧ out.map Qw.x = stQs n rs k ∧ out.length = k ∧ Ext w wr
theorem StepR.more {w W V : World} {o : Obj} {n k : Nat} {rs : List Qw} {v5 v7 u : Value} {out : List Qw} (hE : Ext w W) (h : QwM W w.heap.size w.heap.size v5 out) (hm : out.map Qw.x = stQs n rs k) (hl : out.length = k) (hr : OwnQ W w.heap.size u (stQ n rs k)) 
    (hown : V.ownsRow w.heap.size 41 1 v7 (k + 1) (qwc out ++ [u])) (hgrow : (W.alloc o).grownBy V v5.ownBlock) : StepR w n rs (k + 1) v7 V := by
  subst hl
  have := QwM.more (r := ⟨_, u, rd_one hr.rd⟩) hE h hr hown hgrow
  exact ⟨_, this.1, by rw [List.map_append, hm, stQs_succ]; rfl, by rw [List.length_append]; rfl, this.2⟩

set_option maxRecDepth 100000 in
set_option maxHeartbeats 4000000 in
theorem steps_c (v : Value) (p : List Int) (rs : List Qw) (w : World) (he : Env w) (hv : ScV w v p rs) (h : Right p rs) (hp0 : 0 < p.length) (hres : ∀ k, k < rs.length → ∀ q ∈ stQ p.length rs k, Ft 30 q) :
    Calls Tryz.prog 38 #[v] w fun e w' => ∃ u, e = .returned (.tuple #[u, .int .i64 0]) ∧ StepR w p.length rs rs.length u w' := by
  obtain ⟨j0, hj, hy0, hy1, hy2⟩ := info_parts info_size
  have h60 := h.most
  have h1 := fun W (hE : Ext w W) => scCheck_c v p rs W (he.ext hE) (hv.ext hE) h
  have hcl := fun W u x (hx : Rd W u x) (hl : x.length = p.length) => cloneQ_c u x W hx (by have := h.few; omega) (by intro e; rw [e] at hl; simp at hl; omega)
  obtain ⟨vp, vn, rfl, hp, hs, hm⟩ := hv
  have hsub := fun (k : Nat) (r s : Qw) (hr : rs[k + 1]? = some r) (hs : rs[k]? = some s) W (hE : Ext w W) => sSub_c vp r.u s.u p r.x s.x W (he.ext hE) (hE.sl hp) (hE.rd (hm r (List.mem_of_getElem? hr))) (hE.rd (hm s (List.mem_of_getElem? hs))) h.pe (h.len r (List.mem_of_getElem? hr)) (h.len s (List.mem_of_getElem? hs)) (h.ft r (List.mem_of_getElem? hr)) (h.ft s (List.mem_of_getElem? hs)) (by
    have := hres (k + 1) (List.getElem?_eq_some_iff.1 hr).1
    unfold stQ prevQ at this
    rw [if_neg (by omega), hr, Nat.add_sub_cancel, hs] at this
    exact this)
  have hst0 : ∀ r, rs[0]? = some r → stQ p.length rs 0 = r.x := fun r hr => by
    unfold stQ prevQ
    rw [if_pos rfl, hr]
    show subZ r.x (List.replicate p.length 0) = r.x
    rw [← h.len r (List.mem_of_getElem? hr)]
    exact subZ_zer r.x
  have hst1 : ∀ k r s, rs[k + 1]? = some r → rs[k]? = some s → stQ p.length rs (k + 1) = subZ r.x s.x := fun k r s hr hs => by
    unfold stQ prevQ
    rw [if_neg (by omega), hr, Nat.add_sub_cancel, hs]
    rfl
  have hln := h.len
  have hone := fun (r : Qw) (hr : r ∈ rs) => (hm r hr).parts
  have hrd := fun (r : Qw) (hr : r ∈ rs) W (hE : Ext w W) => hE.rd (hm r hr)
  obtain ⟨ap, cp, rfl, _, _, _⟩ := hp.parts
  obtain ⟨an, cn, rfl, _, _, hc⟩ := hs.parts
  rw [i64s_length] at *
  rw [qwc_length] at *
  generalize hn : rs.length = n at *
  have Hn := Lib.hid hn
  have bx : (w.alloc (.cells #[.slice ap p.length cp, .slice an n cn] 32)).heap[w.heap.size]? = some (.cells #[.slice ap p.length cp, .slice an n cn] 32 (0, 0)) := World.alloc_heap_new w _
  have hE0 : Ext w (w.alloc (.cells #[.slice ap p.length cp, .slice an n cn] 32)) := (Ext.refl w).alloc _
  have hbox : ∀ W, Ext (w.alloc (.cells #[.slice ap p.length cp, .slice an n cn] 32)) W → W.cell? ⟨w.heap.size, 0, none⟩ = some (.slice ap p.length cp) ∧ W.cell? ⟨w.heap.size, 1, none⟩ = some (.slice an n cn) := fun W hE => by
    have hb := hE.heap bx
    unfold World.cell?
    dsimp only
    rw [hb]
    exact ⟨rfl, rfl⟩
  clear hp hs hm he h bx hres hn
  have H1 := Lib.hid h1; have Hcl := Lib.hid hcl; have Hsub := Lib.hid hsub; have Hst0 := Lib.hid hst0; have Hst1 := Lib.hid hst1; have Hln := Lib.hid hln; have Hone := Lib.hid hone; have Hrd := Lib.hid hrd; have Hc := Lib.hid hc; have HE0 := Lib.hid hE0; have Hbox := Lib.hid hbox; clear h1 hcl hsub hst0 hst1 hln hone hrd hc hE0 hbox
  go_enter Tryz.func38, Tryz.ntmps38
  go_wp2_with fail
  refine (H1.out _ HE0.out).mono ?_
  rintro e w1 ⟨rfl, hx1⟩
  obtain ⟨q0, q1⟩ := Hbox.out w1 hx1
  have Hx1 := Lib.hid hx1; clear hx1
  go_wp2_with fail
  go_loopw [5, 6, 7, 8, 17] (fun v5 v6 v7 v8 v17 wr => ∃ k : Nat, v17 = .int .i64 k ∧ k ≤ n ∧ StepR w1 p.length rs k v5 wr) (fun _ _ _ _ v17 _ => n - (intOf v17).toNat)
  case atStart => exact ⟨0, rfl, Nat.zero_le _, ⟨[], QwM.nil _ _ _, rfl, rfl, Ext.refl _⟩⟩
  case round =>
    clear q0 q1
    obtain ⟨k, rfl, hk, ⟨out, hq, hmq, hlq, hE⟩⟩ := hrel
    have hEw := (HE0.out.trans Hx1.out).trans hE
    obtain ⟨a5, c5, rfl⟩ := own_shape hq.1
    rw [hlq] at hq
    rw [hlq]
    by_cases hkn : k < n
    · obtain ⟨r, hr⟩ : ∃ r, rs[k]? = some r := ⟨_, List.getElem?_eq_getElem (by rw [Hn.out]; exact hkn)⟩
      have hmem := List.mem_of_getElem? hr
      obtain ⟨b, off, rfl, hc0⟩ := Hc.out k r.u (by unfold qwc; rw [List.getElem?_map, hr]; rfl)
      obtain ⟨ar, cr, hru, _, _, _⟩ := Hone.out r hmem
      have hcu := hEw.cell hc0
      have hrl : r.x.length = p.length := Hln.out r hmem
      rw [hru, hrl] at hcu
      have hrr := Hrd.out r hmem wr hEw
      rw [hru, hrl] at hrr
      have hk0 : (0 : Int) ≤ (k : Int) := by omega
      have hk1 : (k : Int) < (n : Int) := by omega
      have hm3 : k + 1 ≤ maxLen := by unfold maxLen; omega
      have hm4 : (k + 1) * 24 ≤ 140737488355328 := by omega
      have hqo := hq.1
      rw [hlq] at hqo
      obtain ⟨q0, q1⟩ := Hbox.out wr (Hx1.out.trans hE)
      by_cases hkz : 0 < k
      · obtain ⟨j, hkj⟩ : ∃ j, k = j + 1 := ⟨k - 1, by omega⟩
        obtain ⟨s, hs⟩ : ∃ s, rs[j]? = some s := ⟨_, List.getElem?_eq_getElem (by rw [Hn.out]; omega)⟩
        have hsm := List.mem_of_getElem? hs
        obtain ⟨b', off', e', hc2⟩ := Hc.out j s.u (by unfold qwc; rw [List.getElem?_map, hs]; rfl)
        cases e'
        obtain ⟨as', cs, hsu, _, _, _⟩ := Hone.out s hsm
        have hsl : s.x.length = p.length := Hln.out s hsm
        have hcs := hEw.cell hc2
        rw [hsu, hsl] at hcs
        have hst : stQ p.length rs k = subZ r.x s.x := by
          subst hkj
          exact Hst1.out j r s hr hs
        have hsb := fun W (hx : Ext wr W) => Hsub.out j r s (by rw [← hkj]; exact hr) hs W (hEw.trans hx)
        rw [hru, hsu, hrl, hsl] at hsb
        have hsxl : (subZ r.x s.x).length = p.length := (subZ_len (hrl.trans hsl.symm)).trans hrl
        have hclo := fun W g ho => Hcl.out W (.slice (some ⟨g, 0, none⟩) p.length p.length) (subZ r.x s.x) ho hsxl
        have hz1 : (0 : Int) < (k : Int) := by omega
        have hwj : IntKind.i64.wrap ((k : Int) - 1) = (j : Int) := by rw [IntKind.wrap_i64]; omega
        have hj0 : (0 : Int) ≤ (j : Int) := by omega
        have hj1 : (j : Int) < (n : Int) := by omega
        have Hsb := Lib.hid hsb; have Hclo := Lib.hid hclo; have Hst := Lib.hid hst; have Hq := Lib.hid hq; have Hmq := Lib.hid hmq; have Hlq := Lib.hid hlq; have HEw := Lib.hid hEw; have HE := Lib.hid hE; have Hkj := Lib.hid hkj; have Hsxl := Lib.hid hsxl
        clear hsb hclo hst hq hmq hlq hEw hE hrr hc0 hc2 hr hs hmem hsm hrl hsl hru hsu hqo hkj hsxl
        go_wp2_with fail
        go_region_held3 (fun w' => Ext wr w' ∧ w'.cell? ⟨w.heap.size, 0, none⟩ = some (.slice ap p.length cp) ∧ w'.cell? ⟨w.heap.size, 1, none⟩ = some (.slice (some ⟨b, off, none⟩) n cn) ∧ w'.cell? ⟨b, off + j, none⟩ = some (.slice as' p.length cs))
          (first | (with_reducible assumption) | exact ⟨(Ext.refl wr).drew, q0, q1, hcs⟩)
          (first | (go_at_call 20; refine (Hsb.out _ (And.left (by assumption))).mono ?_; rintro e9 VA ⟨g2, rfl, ho2, hxa⟩; have hEA := ((Ext.refl wr).drew).trans hxa; have hS2 : Ext wr VA ∧ VA.cell? ⟨w.heap.size, 0, none⟩ = some (.slice ap p.length cp) ∧ VA.cell? ⟨w.heap.size, 1, none⟩ = some (.slice (some ⟨b, off, none⟩) n cn) ∧ VA.cell? ⟨b, off + j, none⟩ = some (.slice as' p.length cs) := ⟨hEA, hEA.cell q0, hEA.cell q1, hEA.cell hcs⟩; have HEA := Lib.hid hEA; have Ho2 := Lib.hid ho2.rd; clear hxa hEA ho2))
        all_goals
          clear hS2 q0 q1 hcs hcu
          have hcl2 := Hclo.out VA _ Ho2.out
          have Hcl2 := Lib.hid hcl2
          clear hcl2
          go_wp2_with fail
          refine Hcl2.out.mono ?_
          rintro e W3 ⟨u3, rfl, ho3, hx3⟩
          have hrd3 := ho3.rd
          obtain ⟨a3, c3, rfl, _, _, _⟩ := hrd3.parts
          have hx13 := HEA.out.trans hx3
          have hq3 := hx13.qwM Hq.out
          have hE3 := HE.out.trans hx13
          have hqo := hq3.1
          rw [Hlq.out] at hqo
          have hbase := hE3.size
          have ho4 : OwnQ W3 w1.heap.size (.slice a3 (subZ r.x s.x).length c3) (subZ r.x s.x) := ho3.mono (HE.out.trans HEA.out).size
          have Ho3 := Lib.hid ho4; have Hq3 := Lib.hid hq3; have HE3 := Lib.hid hE3
          rw [Hsxl.out] at Ho3
          rw [Hsxl.out]
          clear ho3 ho4 hx3 hx13 hrd3 hq3 hE3
          go_wp2_with (at_builtin; refine wpList_append_own _ rfl _ _ 30 rfl w1.heap.size 41 j0 (.slice none 0 0) 1 24 Tryz.underlying30 hj hy0 hy1 hy2 rfl (by decide) _ _ _ rfl (hqo.alloc _) ⟨W3.heap.size, 0, none⟩ 1 1 [.slice a3 p.length c3] rfl rfl (cell_one_new _ _ _) (by simp [Value.oneCell']) hm3 hm4 (by rw [World.size_alloc]; omega) ?_; intro v7 V7 hown7 hgrow7 _)
          go_roundw
          case rel => exact ⟨k + 1, by go_num, by omega, StepR.more HE3.out Hq3.out Hmq.out Hlq.out (by rw [Hst.out]; exact Ho3.out) hown7 hgrow7⟩
          case measure => simp [intOf]; omega
      · have hst : stQ p.length rs k = r.x := by
          obtain rfl : k = 0 := by omega
          exact Hst0.out r hr
        have hz1 : ¬ (0 : Int) < (k : Int) := by omega
        have hclo := Hcl.out wr _ r.x hrr hrl
        have Hclo := Lib.hid hclo; have Hst := Lib.hid hst; have Hq := Lib.hid hq; have Hmq := Lib.hid hmq; have Hlq := Lib.hid hlq; have HEw := Lib.hid hEw; have HE := Lib.hid hE
        clear hclo hst hq hmq hlq hEw hE hrr hc0 hr hmem hrl hru hqo
        go_wp2_with fail
        refine Hclo.out.mono ?_
        rintro e W3 ⟨u3, rfl, ho3, hx3⟩
        have hrd3 := ho3.rd
        obtain ⟨a3, c3, rfl, _, _, _⟩ := hrd3.parts
        have hq3 := hx3.qwM Hq.out
        have hE3 := HE.out.trans hx3
        have hqo := hq3.1
        rw [Hlq.out] at hqo
        have hbase := hE3.size
        have Ho3 := Lib.hid (ho3.mono HE.out.size); have Hq3 := Lib.hid hq3; have HE3 := Lib.hid hE3
        clear ho3 hx3 hrd3 hq3 hE3 q0 q1 hcu
        go_wp2_with (at_builtin; refine wpList_append_own _ rfl _ _ 30 rfl w1.heap.size 41 j0 (.slice none 0 0) 1 24 Tryz.underlying30 hj hy0 hy1 hy2 rfl (by decide) _ _ _ rfl (hqo.alloc _) ⟨W3.heap.size, 0, none⟩ 1 1 [.slice a3 r.x.length c3] rfl rfl (cell_one_new _ _ _) (by simp [Value.oneCell']) hm3 hm4 (by rw [World.size_alloc]; omega) ?_; intro v7 V7 hown7 hgrow7 _)
        go_roundw
        case rel => exact ⟨k + 1, by go_num, by omega, StepR.more HE3.out Hq3.out Hmq.out Hlq.out (by rw [Hst.out]; exact Ho3.out) hown7 hgrow7⟩
        case measure => simp [intOf]; omega
    · obtain rfl : n = k := by omega
      have Hq := Lib.hid hq; have Hmq := Lib.hid hmq; have Hlq := Lib.hid hlq; have HEw := Lib.hid hEw; clear hq hmq hlq hEw
      go_wp2
      go_ret2
      exact ⟨_, rfl, _, Hq.out.mono (HE0.out.trans Hx1.out).size (HE0.out.trans Hx1.out).size, Hmq.out, Hlq.out, HEw.out⟩
end Go.Proofs.YtaakmdjicocjpaaGreatDoor

namespace Go.Proofs.YtaakmdjicocjpaaGreatDoor
open Go.RowKit Go.Lib

def fifth (k : Int) : List Rat := [((-k : Int) : Rat), (k : Rat)]
theorem maj_list : mulsZ (rats [-1, 1]) (-1) 7 = [fifth (-1), fifth 0, fifth 1, fifth 2, fifth 3, fifth 4, fifth 5] := by decide +kernel
theorem sF_fifth (k : Int) : sF [2, 3] (fifth k) = ((k * 39256168 : Int) : Rat) := by
  unfold fifth
  simp only [sF, lgs.1, lgs.2.1]
  rw [Rat.intCast_mul, Rat.intCast_neg]
  have h1 : ((106365032 : Int) : Rat) = ((67108864 : Int) : Rat) + ((39256168 : Int) : Rat) := by rw [← Rat.intCast_add]; rfl
  rw [h1]
  grind
theorem fifth_sub (k l : Int) : subZ (fifth k) (fifth l) = fifth (k - l) := by
  unfold fifth subZ
  simp only [List.zipWith_cons_cons, List.zipWith_nil_left]
  rw [← Rat.intCast_sub, ← Rat.intCast_sub, show -k - -l = -(k - l) by omega]
theorem fifth_bx {k : Int} (h0 : -100 ≤ k) (h1 : k ≤ 100) : Bx 256 (fifth k) :=
  ⟨-k, 2 * k, rfl, by rw [Rat.intCast_mul, show ((2 : Int) : Rat) = 2 from rfl]; grind, by omega, by omega⟩
theorem lw_fifths (l : List (List Rat)) (h : ∀ x ∈ l, ∃ k : Int, -10 ≤ k ∧ k ≤ 10 ∧ x = fifth k) : Lw [2, 3] 10 l := by
  have hz : zer [(2 : Int), 3].length = fifth 0 := by decide +kernel
  have h2 : ∀ x ∈ zer [(2 : Int), 3].length :: l, ∃ k : Int, -10 ≤ k ∧ k ≤ 10 ∧ x = fifth k := fun x hx => by
    rcases List.mem_cons.1 hx with e | e
    · exact ⟨0, by omega, by omega, by rw [e, hz]⟩
    · exact h x e
  refine ⟨.inl ⟨rfl, rfl⟩, fun x hx => ?_, by omega, by omega, fun x hx => ?_, 0, fun x hx y hy => ?_⟩
  · obtain ⟨k, _, _, rfl⟩ := h x hx
    rfl
  · obtain ⟨k, k0, k1, rfl⟩ := h x hx
    rw [sF_fifth, ← Rat.intCast_neg]
    exact ⟨Rat.intCast_le_intCast.2 (by omega), Rat.intCast_le_intCast.2 (by omega)⟩
  · obtain ⟨k, k0, k1, rfl⟩ := h2 x hx
    obtain ⟨j, j0, j1, rfl⟩ := h2 y hy
    rw [fifth_sub]
    exact .inl ⟨rfl, fifth_bx (by omega) (by omega)⟩
theorem lw_maj : Lw [2, 3] 10 (mulsZ (rats [-1, 1]) (-1) 7) := by
  rw [maj_list]
  refine lw_fifths _ fun x hx => ?_
  simp only [List.mem_cons, List.not_mem_nil, or_false] at hx
  rcases hx with rfl | rfl | rfl | rfl | rfl | rfl | rfl
  · exact ⟨-1, by omega, by omega, rfl⟩
  · exact ⟨0, by omega, by omega, rfl⟩
  · exact ⟨1, by omega, by omega, rfl⟩
  · exact ⟨2, by omega, by omega, rfl⟩
  · exact ⟨3, by omega, by omega, rfl⟩
  · exact ⟨4, by omega, by omega, rfl⟩
  · exact ⟨5, by omega, by omega, rfl⟩
theorem maj_rests : colF [2, 3] [] (mulsZ (rats [-1, 1]) (-1) 7) = [rats [2, -1], rats [-1, 1], rats [-3, 2], rats [-4, 3], rats [-6, 4], rats [-7, 5]] := by decide +kernel
theorem maj_coll : Coll [2, 3] (mulsZ (rats [-1, 1]) (-1) 7) majorQ := by
  have h := coll_prog (N := [rats [-3, 2], rats [-6, 4], rats [2, -1], rats [-1, 1], rats [-4, 3], rats [-7, 5]]) lw_maj (by rw [maj_rests]; decide +kernel) (by decide +kernel)
  have e : majorQ = [rats [-3, 2], rats [-6, 4], rats [2, -1], rats [-1, 1], rats [-4, 3], rats [-7, 5]] ++ [ov ([(2 : Int), 3].length - 1)] := by decide +kernel
  rw [e]
  exact h
theorem maj_wd : Wd [2, 3] majorQ := coll_wd lw_maj maj_coll (by rw [mulsZ_len]; omega)
theorem fl_known : flP [2, 3] (rats [0, -1]) = -2 := by decide +kernel
theorem rst_known : rst [2, 3] (rats [0, -1]) = rats [2, -1] := by decide +kernel
theorem step_known : subZ (rats [2, -1]) (rats [-6, 4]) = rats [8, -5] := by decide +kernel
theorem lw_one : Lw [2, 3] 10 [rats [0, -1]] := by
  have e : rats [0, -1] = [((0 : Int) : Rat), ((-1 : Int) : Rat)] := rfl
  refine ⟨.inl ⟨rfl, rfl⟩, fun x hx => ?_, by omega, by omega, fun x hx => ?_, 0, fun x hx y hy => ?_⟩
  · rw [List.mem_singleton] at hx; subst hx; rfl
  · rw [List.mem_singleton] at hx; subst hx
    decide +kernel
  · have hb : ∀ z ∈ zer [(2 : Int), 3].length :: [rats [0, -1]], ∃ k : Int, -1 ≤ k ∧ k ≤ 0 ∧ z = [((0 : Int) : Rat), (k : Rat)] := fun z hz => by
      rcases List.mem_cons.1 hz with e | e
      · exact ⟨0, by omega, by omega, by rw [e]; rfl⟩
      · rw [List.mem_singleton] at e
        exact ⟨-1, by omega, by omega, by rw [e]; rfl⟩
    obtain ⟨k, k0, k1, rfl⟩ := hb x hx
    obtain ⟨j, j0, j1, rfl⟩ := hb y hy
    refine .inl ⟨rfl, 0, 2 * (k - j), ?_, ?_, by omega, by omega⟩
    · show ((0 : Int) : Rat) - ((0 : Int) : Rat) = _
      grind
    · show ((k : Rat) - (j : Rat)) * 2 = _
      rw [Rat.intCast_mul, Rat.intCast_sub, show ((2 : Int) : Rat) = 2 from rfl]
      grind
/-- The steps of a right scale are short. -/
theorem Wd.step_ft {p : List Int} {rs : List Qw} (h : Wd p (rs.map Qw.x)) : ∀ k, k < rs.length → ∀ q ∈ stQ p.length rs k, Ft 30 q := by
  intro k hk
  have hl : (rs.map Qw.x).length = rs.length := List.length_map ..
  have hf := h.few
  have e : stQ p.length rs k = subZ (nt p (rs.map Qw.x) ((k + 1 : Nat) : Int)) (nt p (rs.map Qw.x) (k : Int)) := by
    rw [h.nt_low (by omega), h.nt_low (by omega)]
    unfold stQ zat prevQ
    rw [List.getElem?_cons_succ, List.getElem?_map]
    cases k with
    | zero => rfl
    | succ j => rw [if_neg (by omega), List.getElem?_cons_succ, List.getElem?_map, Nat.add_sub_cancel]
  rw [e]
  exact (h.nt_sub_quick _ _ (by omega) (by omega) (by omega) (by omega)).1
end Go.Proofs.YtaakmdjicocjpaaGreatDoor
