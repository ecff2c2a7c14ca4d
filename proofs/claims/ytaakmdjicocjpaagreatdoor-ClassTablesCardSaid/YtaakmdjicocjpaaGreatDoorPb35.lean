/- Walk: law 31's Major. Plain: the major scale is the collection of seven fifths; what reduces there. Plain: the scales of worlds, and the major scale, have nice classes. Walks: class.Varieties. Plain: the classes of the major scale. Walks: slices.IndexFunc and slices.ContainsFunc at lists of classes, with a closure that makes memory. -/
import Derived.Test.YtaakmdjicocjpaaGreatDoorPb27
import Derived.Test.YtaakmdjicocjpaaGreatDoorPb22
import Derived.Test.YtaakmdjicocjpaaGreatDoorPb34
import Derived.Test.YtaakmdjicocjpaaGreatDoorPb21
import Derived.Test.YtaakmdjicocjpaaGreatDoorPb31
import Derived.Shelf.Abstract
set_option maxRecDepth 100000
set_option maxHeartbeats 1600000
namespace Go.Proofs.YtaakmdjicocjpaaGreatDoor
open Go.RowKit Go.Lib Go.Shelf
attribute [local go_sem] Oper.semAt_some
theorem sl_other {W : World} {g off n cp : Nat} {us : List Value} {c : Nat} (h : Sl W (.slice (some ⟨g, off, none⟩) n cp) us) (hne : g ≠ c) (k : Nat) (x : Value) : Sl (W.setCell ⟨c, k, none⟩ x) (.slice (some ⟨g, off, none⟩) n cp) us := by
  rcases h with ⟨a, cap, e, hm, h0⟩ | ⟨b, off', cap, e, h1, h2, hc⟩
  · exact .inl ⟨a, cap, e, hm, h0⟩
  · refine .inr ⟨b, off', cap, e, h1, h2, fun i q hq => ?_⟩
    injection e with e1 _ _
    injection e1 with e1
    injection e1 with e1 e2
    subst e1; subst e2
    rw [World.cell?_setCell_other _ _ _ _ (by intro e'; simp only [Addr.mk.injEq] at e'; exact hne e'.1.symm)]
    exact hc i q hq
/-- Fractions do not lie in a block that holds no strings. -/
theorem rd_past {T : TypeId} {W : World} {c : Nat} {u v s : Value} {xs : List Rat} (hs : Rd W s xs) (hb : BoxT T W c u v) (hu : ∀ z, u ≠ .string z) (hv : ∀ z, v ≠ .string z) (x y : Value) : Rd ((W.setCell ⟨c, 0, none⟩ x).setCell ⟨c, 1, none⟩ y) s xs := by
  rcases hs with hn | ⟨b, off, cap, e, h1, h2, hc⟩
  · exact .inl hn
  · have hno : ∀ k z, W.cell? ⟨b, k, none⟩ = some (.string z) → b ≠ c := by
      rintro k z h rfl
      unfold World.cell? at h
      dsimp only at h
      rw [hb] at h
      rcases (by omega : k = 0 ∨ k = 1 ∨ 2 ≤ k) with g | g | g
      · rw [g] at h
        exact hu z (Option.some.inj h)
      · rw [g] at h
        exact hv z (Option.some.inj h)
      · have : (#[u, v] : Array Value)[k]? = none := Array.getElem?_eq_none (by simpa using g)
        simp [this] at h
    have hk : ∀ k z, W.cell? ⟨b, k, none⟩ = some (.string z) → ((W.setCell ⟨c, 0, none⟩ x).setCell ⟨c, 1, none⟩ y).cell? ⟨b, k, none⟩ = some (.string z) := fun k z h => by
      have hbc := hno k z h
      rw [World.cell?_setCell_other _ _ _ _ (by intro e'; simp only [Addr.mk.injEq] at e'; exact hbc e'.1.symm), World.cell?_setCell_other _ _ _ _ (by intro e'; simp only [Addr.mk.injEq] at e'; exact hbc e'.1.symm)]
      exact h
    exact .inr ⟨b, off, cap, e, h1, h2, fun i r hr => ⟨hk _ _ (hc i r hr).1, hk _ _ (hc i r hr).2⟩⟩
def majorZ : List (List Int) := [[-3, 2], [-6, 4], [2, -1], [-1, 1], [-4, 3], [-7, 5], [1, 0]]
def majorQ : List (List Rat) := majorZ.map rats
theorem major_c (w : World) (he : Env w) :
    Calls Tryz.prog 52 #[] w fun e w' => ∃ v rs, e = .returned v ∧ ScV w' v [2, 3] rs ∧ rs.map Qw.x = majorQ ∧ Ext w w' := by
  have hwh := fun W v (l : List Int) (hE : Ext w W) (hv : Sl W v (i64s l)) (h9 : l.length ≤ 1000) (hl : ∀ z ∈ l, z.natAbs < 1000000000) => whole_c v l W (he.ext hE) hv h9 hl
  have hw2 := fun W (a b : Int) (hE : Ext w W) (ha : a.natAbs < 1000000000) (hb : b.natAbs < 1000000000) => hwh (W.alloc (.cells #[.int .i64 a, .int .i64 b] 3)) (.slice (some ⟨W.heap.size, 0, none⟩) 2 2) [a, b] (hE.alloc _) (sl_cells (us := [.int .i64 a, .int .i64 b]) (World.alloc_heap_new W _) (by unfold maxLen; simp)) (by simp) (fun z hz => by
    simp only [List.mem_cons, List.not_mem_nil, or_false] at hz
    rcases hz with rfl | rfl <;> assumption)
  have hb0 := BoxT.new 32 w (.slice none 0 0) (.slice none 0 0)
  have hE0 : Ext w (w.alloc (.cells #[.slice none 0 0, .slice none 0 0] 32)) := (Ext.refl w).alloc _
  have Hw2 := Lib.hid hw2; have HB0 := Lib.hid hb0; have HE0 := Lib.hid hE0
  clear hwh hw2 hb0 hE0 he
  go_enter Tryz.func52, Tryz.ntmps52
  obtain ⟨W0, hW0⟩ : ∃ W0, W0 = (w.alloc (.cells #[.slice none 0 0, .slice none 0 0] 32)).alloc (.cells #[.int .i64 2, .int .i64 3] 3) := ⟨_, rfl⟩
  have hpr : Sl W0 (.slice (some ⟨w.heap.size + 1, 0, none⟩) 2 2) (i64s [2, 3]) := by
    have := sl_cells (us := [.int .i64 2, .int .i64 3]) (World.alloc_heap_new (w.alloc (.cells #[.slice none 0 0, .slice none 0 0] 32)) (.cells #[.int .i64 2, .int .i64 3] 3)) (by unfold maxLen; simp)
    rw [World.size_alloc] at this
    rw [hW0]
    exact this
  have hxw : Ext (w.alloc (.cells #[.slice none 0 0, .slice none 0 0] 32)) W0 := by rw [hW0]; exact (Ext.refl _).alloc _
  have hsz0 : W0.heap.size = w.heap.size + 1 + 1 := by rw [hW0, World.size_alloc, World.size_alloc]
  have hc1 := Hw2.out W0 (-3) (2) (HE0.out.trans hxw) (by decide) (by decide)
  rw [hsz0] at hc1
  have Hc1 := Lib.hid hc1
  clear hc1 hsz0
  have Hpr := Lib.hid hpr; have Hx0 := Lib.hid hxw
  clear hpr hxw
  go_wp2_with fail
  rw [← hW0]
  clear hW0
  refine Hc1.out.mono ?_
  rintro e w1 ⟨u1, rfl, ho1, hx1⟩
  obtain ⟨a1, c1, rfl, _, _, _⟩ := ho1.rd.parts
  rw [show (rats [-3, 2]).length = 2 from rfl] at *
  have hy1 := ((Ext.refl W0).alloc (.cells #[.int .i64 (-3), .int .i64 (2)] 3)).trans hx1
  have Hx1 := Lib.hid (Hx0.out.trans hy1); have Hr1 := Lib.hid ho1.rd
  have Hpr := Lib.hid (hy1.sl Hpr.out)
  clear ho1 hx1 hy1
  go_wp2_with fail
  refine (Hw2.out w1 (-6) (4) (HE0.out.trans Hx1.out) (by decide) (by decide)).mono ?_
  rintro e w2 ⟨u2, rfl, ho2, hx2⟩
  obtain ⟨a2, c2, rfl, _, _, _⟩ := ho2.rd.parts
  rw [show (rats [-6, 4]).length = 2 from rfl] at *
  have hy2 := ((Ext.refl w1).alloc (.cells #[.int .i64 (-6), .int .i64 (4)] 3)).trans hx2
  have Hx2 := Lib.hid (Hx1.out.trans hy2); have Hr2 := Lib.hid ho2.rd
  have Hr1 := Lib.hid (hy2.rd Hr1.out)
  have Hpr := Lib.hid (hy2.sl Hpr.out)
  clear ho2 hx2 hy2
  go_wp2_with fail
  refine (Hw2.out w2 (2) (-1) (HE0.out.trans Hx2.out) (by decide) (by decide)).mono ?_
  rintro e w3 ⟨u3, rfl, ho3, hx3⟩
  obtain ⟨a3, c3, rfl, _, _, _⟩ := ho3.rd.parts
  rw [show (rats [2, -1]).length = 2 from rfl] at *
  have hy3 := ((Ext.refl w2).alloc (.cells #[.int .i64 (2), .int .i64 (-1)] 3)).trans hx3
  have Hx3 := Lib.hid (Hx2.out.trans hy3); have Hr3 := Lib.hid ho3.rd
  have Hr1 := Lib.hid (hy3.rd Hr1.out)
  have Hr2 := Lib.hid (hy3.rd Hr2.out)
  have Hpr := Lib.hid (hy3.sl Hpr.out)
  clear ho3 hx3 hy3
  go_wp2_with fail
  refine (Hw2.out w3 (-1) (1) (HE0.out.trans Hx3.out) (by decide) (by decide)).mono ?_
  rintro e w4 ⟨u4, rfl, ho4, hx4⟩
  obtain ⟨a4, c4, rfl, _, _, _⟩ := ho4.rd.parts
  rw [show (rats [-1, 1]).length = 2 from rfl] at *
  have hy4 := ((Ext.refl w3).alloc (.cells #[.int .i64 (-1), .int .i64 (1)] 3)).trans hx4
  have Hx4 := Lib.hid (Hx3.out.trans hy4); have Hr4 := Lib.hid ho4.rd
  have Hr1 := Lib.hid (hy4.rd Hr1.out)
  have Hr2 := Lib.hid (hy4.rd Hr2.out)
  have Hr3 := Lib.hid (hy4.rd Hr3.out)
  have Hpr := Lib.hid (hy4.sl Hpr.out)
  clear ho4 hx4 hy4
  go_wp2_with fail
  refine (Hw2.out w4 (-4) (3) (HE0.out.trans Hx4.out) (by decide) (by decide)).mono ?_
  rintro e w5 ⟨u5, rfl, ho5, hx5⟩
  obtain ⟨a5, c5, rfl, _, _, _⟩ := ho5.rd.parts
  rw [show (rats [-4, 3]).length = 2 from rfl] at *
  have hy5 := ((Ext.refl w4).alloc (.cells #[.int .i64 (-4), .int .i64 (3)] 3)).trans hx5
  have Hx5 := Lib.hid (Hx4.out.trans hy5); have Hr5 := Lib.hid ho5.rd
  have Hr1 := Lib.hid (hy5.rd Hr1.out)
  have Hr2 := Lib.hid (hy5.rd Hr2.out)
  have Hr3 := Lib.hid (hy5.rd Hr3.out)
  have Hr4 := Lib.hid (hy5.rd Hr4.out)
  have Hpr := Lib.hid (hy5.sl Hpr.out)
  clear ho5 hx5 hy5
  go_wp2_with fail
  refine (Hw2.out w5 (-7) (5) (HE0.out.trans Hx5.out) (by decide) (by decide)).mono ?_
  rintro e w6 ⟨u6, rfl, ho6, hx6⟩
  obtain ⟨a6, c6, rfl, _, _, _⟩ := ho6.rd.parts
  rw [show (rats [-7, 5]).length = 2 from rfl] at *
  have hy6 := ((Ext.refl w5).alloc (.cells #[.int .i64 (-7), .int .i64 (5)] 3)).trans hx6
  have Hx6 := Lib.hid (Hx5.out.trans hy6); have Hr6 := Lib.hid ho6.rd
  have Hr1 := Lib.hid (hy6.rd Hr1.out)
  have Hr2 := Lib.hid (hy6.rd Hr2.out)
  have Hr3 := Lib.hid (hy6.rd Hr3.out)
  have Hr4 := Lib.hid (hy6.rd Hr4.out)
  have Hr5 := Lib.hid (hy6.rd Hr5.out)
  have Hpr := Lib.hid (hy6.sl Hpr.out)
  clear ho6 hx6 hy6
  go_wp2_with fail
  refine (Hw2.out w6 (1) (0) (HE0.out.trans Hx6.out) (by decide) (by decide)).mono ?_
  rintro e w7 ⟨u7, rfl, ho7, hx7⟩
  obtain ⟨a7, c7, rfl, _, _, _⟩ := ho7.rd.parts
  rw [show (rats [1, 0]).length = 2 from rfl] at *
  have hy7 := ((Ext.refl w6).alloc (.cells #[.int .i64 (1), .int .i64 (0)] 3)).trans hx7
  have Hx7 := Lib.hid (Hx6.out.trans hy7); have Hr7 := Lib.hid ho7.rd
  have Hr1 := Lib.hid (hy7.rd Hr1.out)
  have Hr2 := Lib.hid (hy7.rd Hr2.out)
  have Hr3 := Lib.hid (hy7.rd Hr3.out)
  have Hr4 := Lib.hid (hy7.rd Hr4.out)
  have Hr5 := Lib.hid (hy7.rd Hr5.out)
  have Hr6 := Lib.hid (hy7.rd Hr6.out)
  have Hpr := Lib.hid (hy7.sl Hpr.out)
  clear ho7 hx7 hy7
  have hE9 : Ext w7 (w7.alloc (.cells #[.slice a1 2 c1, .slice a2 2 c2, .slice a3 2 c3, .slice a4 2 c4, .slice a5 2 c5, .slice a6 2 c6, .slice a7 2 c7] 41)) := (Ext.refl w7).alloc _
  have hn9 : Sl (w7.alloc (.cells #[.slice a1 2 c1, .slice a2 2 c2, .slice a3 2 c3, .slice a4 2 c4, .slice a5 2 c5, .slice a6 2 c6, .slice a7 2 c7] 41)) (.slice (some ⟨w7.heap.size, 0, none⟩) 7 7) [.slice a1 2 c1, .slice a2 2 c2, .slice a3 2 c3, .slice a4 2 c4, .slice a5 2 c5, .slice a6 2 c6, .slice a7 2 c7] := sl_cells (us := [.slice a1 2 c1, .slice a2 2 c2, .slice a3 2 c3, .slice a4 2 c4, .slice a5 2 c5, .slice a6 2 c6, .slice a7 2 c7]) (World.alloc_heap_new w7 _) (by unfold maxLen; simp)
  have hk9 : K0 32 w (w7.alloc (.cells #[.slice a1 2 c1, .slice a2 2 c2, .slice a3 2 c3, .slice a4 2 c4, .slice a5 2 c5, .slice a6 2 c6, .slice a7 2 c7] 41)) w.heap.size := ⟨(HE0.out.trans Hx7.out).trans hE9, _, _, HB0.out.ext (Hx7.out.trans hE9)⟩
  have hb9 := HB0.out.ext (Hx7.out.trans hE9)
  have k0 := hk9.res.c0; have k1 := hk9.res.c1; have z0 := hk9.res.fz 0; have z1 := hk9.res.fz 1
  obtain ⟨hb5, hx5⟩ := hk9.fin (Nat.le_refl _) (.slice (some ⟨w.heap.size + 1, 0, none⟩) 2 2) (.slice (some ⟨w7.heap.size, 0, none⟩) 7 7)
  have Hb5 := Lib.hid hb5; have Hx5 := Lib.hid hx5; have HE9 := Lib.hid hE9; have Hn9 := Lib.hid hn9; have Hb9 := Lib.hid hb9
  clear hb5 hx5 hk9 hE9 hn9 hb9
  go_wp2_with fail
  have hd0 := Hb5.out.c0
  have hd1 := Hb5.out.c1
  have hne : w7.heap.size ≠ w.heap.size := by
    have := (HE0.out.trans Hx7.out).size
    have := HB0.out.lt
    have := Hx7.out.size
    omega
  have hp5 := sl_past (HE9.out.sl Hpr.out) Hb9.out (by simp) (by simp) (.slice (some ⟨w.heap.size + 1, 0, none⟩) 2 2) (.slice (some ⟨w7.heap.size, 0, none⟩) 7 7)
  have hn5 := sl_other (sl_other Hn9.out hne 0 (.slice (some ⟨w.heap.size + 1, 0, none⟩) 2 2)) hne 1 (.slice (some ⟨w7.heap.size, 0, none⟩) 7 7)
  have hrp := fun s xs (h : Rd w7 s xs) => rd_past (HE9.out.rd h) Hb9.out (by simp) (by simp) (.slice (some ⟨w.heap.size + 1, 0, none⟩) 2 2) (.slice (some ⟨w7.heap.size, 0, none⟩) 7 7)
  exact bodyPost_ret (v := .agg #[.slice (some ⟨w.heap.size + 1, 0, none⟩) 2 2, .slice (some ⟨w7.heap.size, 0, none⟩) 7 7]) (by simp [results, Tryz.results52, go_sem, hd0, hd1]) rfl ⟨_, [⟨rats [-3, 2], .slice a1 2 c1, rfl⟩, ⟨rats [-6, 4], .slice a2 2 c2, rfl⟩, ⟨rats [2, -1], .slice a3 2 c3, rfl⟩, ⟨rats [-1, 1], .slice a4 2 c4, rfl⟩, ⟨rats [-4, 3], .slice a5 2 c5, rfl⟩, ⟨rats [-7, 5], .slice a6 2 c6, rfl⟩, ⟨rats [1, 0], .slice a7 2 c7, rfl⟩], rfl, ⟨_, _, rfl, hp5, hn5, by
    intro r hr
    simp only [List.mem_cons, List.not_mem_nil, or_false] at hr
    rcases hr with rfl | rfl | rfl | rfl | rfl | rfl | rfl
    · exact hrp _ _ Hr1.out
    · exact hrp _ _ Hr2.out
    · exact hrp _ _ Hr3.out
    · exact hrp _ _ Hr4.out
    · exact hrp _ _ Hr5.out
    · exact hrp _ _ Hr6.out
    · exact hrp _ _ Hr7.out⟩, rfl, Hx5.out⟩
end Go.Proofs.YtaakmdjicocjpaaGreatDoor

namespace Go.Proofs.YtaakmdjicocjpaaGreatDoor
open Go.RowKit Go.Lib
def fifth (k : Int) : List Rat := [((-k : Int) : Rat), (k : Rat)]
theorem maj_list : mulsZ (rats [-1, 1]) (-1) 7 = [fifth (-1), fifth 0, fifth 1, fifth 2, fifth 3, fifth 4, fifth 5] := by decide +kernel
theorem sF_fifth (k : Int) : sF [2, 3] (fifth k) = ((k * 39256168 : Int) : Rat) := by
  unfold fifth
  simp only [sF, lgs.1, lgs.2.1]
  rw [Rat.intCast_mul, Rat.intCast_neg]
  have h1 : ((106365032 : Int) : Rat) = ((67108864 : Int) : Rat) + ((39256168 : Int) : Rat) := by rw [← Rat.intCast_add]; rfl
  rw [h1]
  grind
theorem fifth_sub (k l : Int) : subZ (fifth k) (fifth l) = fifth (k - l) := by
  unfold fifth subZ
  simp only [List.zipWith_cons_cons, List.zipWith_nil_left]
  rw [← Rat.intCast_sub, ← Rat.intCast_sub, show -k - -l = -(k - l) by omega]
theorem fifth_bx {k : Int} (h0 : -100 ≤ k) (h1 : k ≤ 100) : Bx 256 (fifth k) :=
  ⟨-k, 2 * k, rfl, by rw [Rat.intCast_mul, show ((2 : Int) : Rat) = 2 from rfl]; grind, by omega, by omega⟩
theorem lw_fifths (l : List (List Rat)) (h : ∀ x ∈ l, ∃ k : Int, -10 ≤ k ∧ k ≤ 10 ∧ x = fifth k) : Lw [2, 3] 10 l := by
  have hz : zer [(2 : Int), 3].length = fifth 0 := by decide +kernel
  have h2 : ∀ x ∈ zer [(2 : Int), 3].length :: l, ∃ k : Int, -10 ≤ k ∧ k ≤ 10 ∧ x = fifth k := fun x hx => by
    rcases List.mem_cons.1 hx with e | e
    · exact ⟨0, by omega, by omega, by rw [e, hz]⟩
    · exact h x e
  refine ⟨.inl ⟨rfl, rfl⟩, fun x hx => ?_, by omega, by omega, fun x hx => ?_, 0, fun x hx y hy => ?_⟩
  · obtain ⟨k, _, _, rfl⟩ := h x hx
    rfl
  · obtain ⟨k, k0, k1, rfl⟩ := h x hx
    rw [sF_fifth, ← Rat.intCast_neg]
    exact ⟨Rat.intCast_le_intCast.2 (by omega), Rat.intCast_le_intCast.2 (by omega)⟩
  · obtain ⟨k, k0, k1, rfl⟩ := h2 x hx
    obtain ⟨j, j0, j1, rfl⟩ := h2 y hy
    rw [fifth_sub]
    exact .inl ⟨rfl, fifth_bx (by omega) (by omega)⟩
theorem lw_maj : Lw [2, 3] 10 (mulsZ (rats [-1, 1]) (-1) 7) := by
  rw [maj_list]
  refine lw_fifths _ fun x hx => ?_
  simp only [List.mem_cons, List.not_mem_nil, or_false] at hx
  rcases hx with rfl | rfl | rfl | rfl | rfl | rfl | rfl
  · exact ⟨-1, by omega, by omega, rfl⟩
  · exact ⟨0, by omega, by omega, rfl⟩
  · exact ⟨1, by omega, by omega, rfl⟩
  · exact ⟨2, by omega, by omega, rfl⟩
  · exact ⟨3, by omega, by omega, rfl⟩
  · exact ⟨4, by omega, by omega, rfl⟩
  · exact ⟨5, by omega, by omega, rfl⟩
theorem maj_rests : colF [2, 3] [] (mulsZ (rats [-1, 1]) (-1) 7) = [rats [2, -1], rats [-1, 1], rats [-3, 2], rats [-4, 3], rats [-6, 4], rats [-7, 5]] := by decide +kernel
theorem maj_coll : Coll [2, 3] (mulsZ (rats [-1, 1]) (-1) 7) majorQ := by
  have h := coll_prog (N := [rats [-3, 2], rats [-6, 4], rats [2, -1], rats [-1, 1], rats [-4, 3], rats [-7, 5]]) lw_maj (by rw [maj_rests]; decide +kernel) (by decide +kernel)
  have e : majorQ = [rats [-3, 2], rats [-6, 4], rats [2, -1], rats [-1, 1], rats [-4, 3], rats [-7, 5]] ++ [ov ([(2 : Int), 3].length - 1)] := by decide +kernel
  rw [e]
  exact h
/-- The steps of a right scale are short. -/
theorem Wd.step_ft {p : List Int} {rs : List Qw} (h : Wd p (rs.map Qw.x)) : ∀ k, k < rs.length → ∀ q ∈ stQ p.length rs k, Ft 30 q := by
  intro k hk
  have hl : (rs.map Qw.x).length = rs.length := List.length_map ..
  have hf := h.few
  have e : stQ p.length rs k = subZ (nt p (rs.map Qw.x) ((k + 1 : Nat) : Int)) (nt p (rs.map Qw.x) (k : Int)) := by
    rw [h.nt_low (by omega), h.nt_low (by omega)]
    unfold stQ zat prevQ
    rw [List.getElem?_cons_succ, List.getElem?_map]
    cases k with
    | zero => rfl
    | succ j => rw [if_neg (by omega), List.getElem?_cons_succ, List.getElem?_map, Nat.add_sub_cancel]
  rw [e]
  exact (h.nt_sub_quick _ _ (by omega) (by omega) (by omega) (by omega)).1
end Go.Proofs.YtaakmdjicocjpaaGreatDoor

namespace Go.Proofs.YtaakmdjicocjpaaGreatDoor
theorem sz_bx2 {p : List Int} (h : Pw p) {A B C : Int} (h1 : -128 ≤ B) (h2 : B ≤ 128) (h3 : -64 ≤ C) (h4 : C ≤ 64) : Bx 128 (sz3 p A B C) := by
  rcases h with rfl | rfl
  · exact ⟨A, B, rfl, half2 B, h1, h2⟩
  · exact ⟨A, B, C, rfl, half2 B, rfl, h1, h2, by omega, by omega⟩
theorem d2_parts {p : List Int} (hp : Pw p) {n : Nat} (hn : 0 < n) (hn9 : n ≤ 9) : Dif2 p (mulsZ (mulZ (ov (p.length - 1)) (mkRat 1 n)) 1 n) := by
  have h2 : ∀ x ∈ zer p.length :: mulsZ (mulZ (ov (p.length - 1)) (mkRat 1 n)) 1 n, ∃ i : Int, x = oc3 p n i := fun x hx => by
    rcases List.mem_cons.1 hx with e | hx
    · exact ⟨0, by rw [e, oc_zer hp n]⟩
    · unfold mulsZ at hx
      obtain ⟨i, _, rfl⟩ := List.mem_map.1 hx
      exact ⟨1 + (i : Int), oc_mul hp n _⟩
  refine ⟨n, fun x hx y hy => ?_⟩
  obtain ⟨i, rfl⟩ := h2 x hx
  obtain ⟨j, rfl⟩ := h2 y hy
  rw [oc3_sub hp]
  exact .inr ⟨hn, hn9, oc_oc hp hn _⟩
theorem d2_mults {p : List Int} (hp : Pw p) (x : I3) {n : Nat} (hn9 : n ≤ 9) : Dif2 p (mulsZ (szW p.length x) 0 n) := by
  obtain ⟨A, B, C, hA, hB, hC, e⟩ := szW_eq hp x
  have h2 : ∀ y ∈ zer p.length :: mulsZ (szW p.length x) 0 n, ∃ k : Int, 0 ≤ k ∧ k ≤ 8 ∧ y = sz3 p (A * k) (B * k) (C * k) := fun y hy => by
    rcases List.mem_cons.1 hy with e | hy
    · exact ⟨0, by omega, by omega, by rw [e, sz_zer hp, Int.mul_zero, Int.mul_zero, Int.mul_zero]⟩
    · unfold mulsZ at hy
      obtain ⟨i, hi, rfl⟩ := List.mem_map.1 hy
      rw [List.mem_range] at hi
      exact ⟨0 + (i : Int), by omega, by omega, by rw [e]; exact sz_mul hp ..⟩
  refine ⟨0, fun y hy z hz => .inl ⟨rfl, ?_⟩⟩
  obtain ⟨k, k0, k1, rfl⟩ := h2 y hy
  obtain ⟨j, j0, j1, rfl⟩ := h2 z hz
  rw [sz_sub hp, ← Int.mul_sub, ← Int.mul_sub, ← Int.mul_sub]
  have hk : -8 ≤ k - j ∧ k - j ≤ 8 := by omega
  generalize k - j = t at *
  have mb : ∀ z b : Int, -b ≤ z → z ≤ b → 0 ≤ b → -(b * 8) ≤ z * t ∧ z * t ≤ b * 8 := fun z b h1 h2 h3 => by
    have h4 : z.natAbs ≤ b.natAbs := by omega
    have h5 : t.natAbs ≤ 8 := by omega
    have h6 := Nat.mul_le_mul h4 h5
    rw [← Int.natAbs_mul] at h6
    omega
  have m2 := mb B 16 hB.1 hB.2 (by omega)
  have m3 := mb C 8 hC.1 hC.2 (by omega)
  exact sz_bx2 hp (by omega) (by omega) (by omega) (by omega)
theorem d2_any {p : List Int} (hp : Pw p) (xs : Nat → I3) (n : Nat) : Dif2 p ((List.range n).map fun i => szW p.length (xs i)) := by
  have h2 : ∀ y ∈ zer p.length :: ((List.range n).map fun i => szW p.length (xs i)), ∃ A B C : Int, (-16 ≤ B ∧ B ≤ 16) ∧ (-8 ≤ C ∧ C ≤ 8) ∧ y = sz3 p A B C := fun y hy => by
    rcases List.mem_cons.1 hy with e | hy
    · exact ⟨0, 0, 0, by omega, by omega, by rw [e, sz_zer hp]⟩
    · obtain ⟨i, _, rfl⟩ := List.mem_map.1 hy
      obtain ⟨A, B, C, hA, hB, hC, e⟩ := szW_eq hp (xs i)
      exact ⟨A, B, C, hB, hC, e⟩
  refine ⟨0, fun y hy z hz => .inl ⟨rfl, ?_⟩⟩
  obtain ⟨A, B, C, hB, hC, rfl⟩ := h2 y hy
  obtain ⟨A', B', C', hB', hC', rfl⟩ := h2 z hz
  rw [sz_sub hp]
  exact sz_bx2 hp (by omega) (by omega) (by omega) (by omega)
theorem wl_d2 (a : Wl) : Dif2 a.p a.sizes := by
  unfold Wl.sizes
  split
  · exact d2_parts a.pw a.n9.1 a.n9.2
  · split
    · exact d2_mults a.pw _ a.n9.2
    · exact d2_any a.pw _ _
theorem wl_wc (a : Wl) {N : List (List Rat)} (h : Coll a.p a.sizes N) : Wc a.p N := coll_wc a.lw (wl_d2 a) h a.few
theorem maj_wc : Wc [2, 3] majorQ := by
  refine coll_wc lw_maj ?_ maj_coll (by rw [mulsZ_len]; omega)
  have hz : zer [(2 : Int), 3].length = fifth 0 := by decide +kernel
  have h2 : ∀ x ∈ zer [(2 : Int), 3].length :: mulsZ (rats [-1, 1]) (-1) 7, ∃ k : Int, -10 ≤ k ∧ k ≤ 10 ∧ x = fifth k := fun x hx => by
    rw [maj_list, hz] at hx
    simp only [List.mem_cons, List.not_mem_nil, or_false] at hx
    rcases hx with rfl | rfl | rfl | rfl | rfl | rfl | rfl | rfl
    · exact ⟨0, by omega, by omega, rfl⟩
    · exact ⟨-1, by omega, by omega, rfl⟩
    · exact ⟨0, by omega, by omega, rfl⟩
    · exact ⟨1, by omega, by omega, rfl⟩
    · exact ⟨2, by omega, by omega, rfl⟩
    · exact ⟨3, by omega, by omega, rfl⟩
    · exact ⟨4, by omega, by omega, rfl⟩
    · exact ⟨5, by omega, by omega, rfl⟩
  refine ⟨0, fun x hx y hy => ?_⟩
  obtain ⟨k, k0, k1, rfl⟩ := h2 x hx
  obtain ⟨j, j0, j1, rfl⟩ := h2 y hy
  rw [fifth_sub]
  refine .inl ⟨rfl, -(k - j), 2 * (k - j), rfl, ?_, by omega, by omega⟩
  rw [Rat.intCast_mul, show ((2 : Int) : Rat) = 2 from rfl]; grind
theorem maj_vars : (List.range 6).map (fun (d : Nat) => (cls [2, 3] majorQ ((d + 1 : Nat) : Int)).length) = [2, 2, 2, 2, 2, 2] := by decide +kernel
theorem maj_len : majorQ.length = 7 := rfl
end Go.Proofs.YtaakmdjicocjpaaGreatDoor

namespace Go.Proofs.YtaakmdjicocjpaaGreatDoor
open Go.RowKit Go.Lib Go.Shelf
attribute [local go_sem] Oper.semAt_some
/-- The numbers of sizes of the classes between. -/
def vrs (p : List Int) (N : List (List Rat)) : List Int := (List.range (N.length - 1)).map fun (d : Nat) => ((cls p N ((d + 1 : Nat) : Int)).length : Int)
theorem vrs_len (p : List Int) (N : List (List Rat)) : (vrs p N).length = N.length - 1 := by unfold vrs; simp
theorem vrs_take {p : List Int} {N : List (List Rat)} {i : Nat} (hi : i < N.length - 1) : (vrs p N).take (i + 1) = (vrs p N).take i ++ [((cls p N ((i + 1 : Nat) : Int)).length : Int)] := by
  have : (vrs p N)[i]? = some ((cls p N ((i + 1 : Nat) : Int)).length : Int) := by
    unfold vrs
    rw [List.getElem?_map, List.getElem?_range hi]
    rfl
  rw [List.take_add_one, this]
  rfl
/-- A class of a list of classes. -/
theorem lqm_at {w : World} {B : Nat} {v : Value} {p : List Int} {N : List (List Rat)} {ls : List Lq} (h : LqM w B B v ls) (hx : lqx ls = clss p N) {d : Nat} (hd : d ≤ N.length) :
    ∃ l a c, ls[d]? = some l ∧ l.u = .slice a (cls p N (d : Int)).length c ∧ QwM w B B (.slice a (cls p N (d : Int)).length c) l.rs ∧ l.rs.map Qw.x = cls p N (d : Int) := by
  have h1 : (clss p N)[d]? = some (cls p N (d : Int)) := by
    unfold clss
    rw [List.getElem?_map, List.getElem?_range (by omega)]
    rfl
  rw [← hx] at h1
  unfold lqx at h1
  rw [List.getElem?_map] at h1
  obtain ⟨l, hl, e⟩ := Option.map_eq_some_iff.1 h1
  have hq := h.2 l (List.mem_of_getElem? hl)
  obtain ⟨a, c, hu⟩ := own_shape hq.1
  have hlen : l.rs.length = (cls p N (d : Int)).length := by rw [← e, List.length_map]
  rw [hlen] at hu
  rw [hu] at hq
  exact ⟨l, a, c, hl, hu, hq, e⟩
theorem vars_c (v : Value) (p : List Int) (rs : List Qw) (w : World) (he : Env w) (hv : ScV w v p rs) (h : Wc p (rs.map Qw.x)) :
    Calls Tryz.prog 17 #[v] w fun e w' => ∃ u, e = .returned (.tuple #[u, .int .i64 0]) ∧ OwnI w' w.heap.size u (vrs p (rs.map Qw.x)) ∧ Ext w w' := by
  obtain ⟨i0, hj, hz0, hz1, hz2⟩ := info_parts info_int
  have hop := fun W (hE : Ext w W) => open_c v p rs W (he.ext hE) (hv.ext hE) h
  have hL : (rs.map Qw.x).length = rs.length := List.length_map ..
  have hfew := h.wd.few
  have hpos := h.wd.pos
  rw [hL] at hfew hpos
  have hvt := fun (i : Nat) (hi : i < rs.length - 1) => vrs_take (p := p) (N := rs.map Qw.x) (i := i) (by rw [hL]; exact hi)
  have hvl : (vrs p (rs.map Qw.x)).length = rs.length - 1 := by rw [vrs_len, hL]
  have hcl := fun (d : Int) => (cls_len (p := p) (N := rs.map Qw.x) (d := d))
  rw [hL] at hcl
  have hat := fun W B vv ls (hq : LqM W B B vv ls) (hx : lqx ls = clss p (rs.map Qw.x)) (d : Nat) (hd : d ≤ rs.length) => lqm_at hq hx (d := d) (by rw [hL]; exact hd)
  have hcs : (clss p (rs.map Qw.x)).length = rs.length + 1 := by rw [clss_len, hL]
  obtain ⟨vp, vn, rfl, hp, hs, hmr⟩ := hv
  obtain ⟨ap, cp, rfl, _, _, _⟩ := hp.parts
  obtain ⟨an, cn, rfl, _, _, _⟩ := hs.parts
  rw [i64s_length] at *
  rw [qwc_length] at *
  generalize rs.length = n at *
  have hE0 : Ext w (w.alloc (.cells #[.slice ap p.length cp, .slice an n cn] 32)) := (Ext.refl w).alloc _
  have b1 := BoxT.new 32 w (.slice ap p.length cp) (.slice an n cn)
  have Hop := Lib.hid hop; have Hvt := Lib.hid hvt; have Hvl := Lib.hid hvl; have Hat := Lib.hid hat; have HE0 := Lib.hid hE0; have Hcs := Lib.hid hcs; have Hcl := Lib.hid hcl
  have q0 := b1.c0
  have q1 := b1.c1
  clear hop hvt hvl hat hE0 hcs hcl b1 hp hs hmr he h hL
  go_enter Tryz.func17, Tryz.ntmps17
  go_wp2_with fail
  refine (Hop.out _ HE0.out).mono ?_
  rintro e w2 ⟨u, v4, ls, rfl, hu, hq, hm, hx2⟩
  have hll : ls.length = n + 1 := by
    have := congrArg List.length hm
    unfold lqx at this
    rwa [List.length_map, Hcs.out] at this
  have hq1 := hq.1
  obtain ⟨g, cap, rfl, hcell⟩ := own_slice hq1 (by omega)
  have hcap : n + 1 ≤ cap ∧ cap ≤ maxLen := by
    rcases hq1.2 with ⟨e, _⟩ | ⟨g', cap', cur, e, _, _, k1, k2, _⟩
    · cases e
    · injection e with _ _ e3
      rw [e3, ← hll]
      exact ⟨k1, k2⟩
  rw [hll]
  obtain ⟨m, hmm⟩ : ∃ m, n = m + 1 := ⟨n - 1, by omega⟩
  have hx := HE0.out.trans hx2
  have hcc : ∀ i : Nat, i < m → ∃ a c, w2.cell? ⟨g, 1 + i, none⟩ = some (.slice a (cls p (rs.map Qw.x) ((i + 1 : Nat) : Int)).length c) := fun i hi => by
    obtain ⟨l, a, c, h1, h2, _, _⟩ := Hat.out w2 _ _ ls hq hm (i + 1) (by omega)
    exact ⟨a, c, by rw [Nat.add_comm 1 i]; exact hcell (i + 1) _ (by unfold lqc; rw [List.getElem?_map, h1, ← h2]; rfl)⟩
  subst hmm
  have hc1 : ¬ cap = 1 := by omega
  have hw1 : IntKind.i64.wrap (((m + 1 + 1 : Nat) : Int) - 1) = (m : Int) + 1 := by rw [IntWalk.i64_in _ (by omega)]; omega
  have Hx := Lib.hid hx; have Hcc := Lib.hid hcc
  clear hx hcc hq hm hu hx2 q0 q1 hq1 hll hcell
  go_wp2_with fail
  go_loopw [7, 25] (fun v7 v25 wr => ∃ i : Nat, v25 = .int .i64 (i : Int) ∧ i ≤ m ∧ OwnI wr w2.heap.size v7 ((vrs p (rs.map Qw.x)).take i) ∧ Ext w2 wr) (fun _ v25 _ => m - (intOf v25).toNat)
  case atStart => exact ⟨0, rfl, Nat.zero_le _, World.ownsRow_nil _ _ _ _, Ext.refl _⟩
  case round =>
    obtain ⟨i, rfl, hi, ho, hE⟩ := hrel
    have hol : ((vrs p (rs.map Qw.x)).take i).length = i := by rw [List.length_take, Hvl.out]; omega
    unfold OwnI at ho
    rw [hol] at ho
    obtain ⟨a7, c7, rfl⟩ := own_shape ho
    by_cases him : i < m
    · have hik : (i : Int) < (m : Int) := by omega
      have hi0 : (0 : Int) ≤ (i : Int) := by omega
      obtain ⟨a5, c5, hc5⟩ := Hcc.out i him
      have k0 := hE.cell hc5
      have hbase := hE.size
      have hvt := Hvt.out i (by omega)
      have hcl := Hcl.out ((i + 1 : Nat) : Int)
      generalize hz : (cls p (rs.map Qw.x) ((i + 1 : Nat) : Int)).length = z at *
      have hm3 : i + 1 ≤ maxLen := by unfold maxLen; omega
      have hm4 : (i + 1) * 8 ≤ 140737488355328 := by omega
      have hzz : (z : Int) ≤ 10 := by omega
      have Ho := Lib.hid ho; have HE := Lib.hid hE; have Hvi := Lib.hid hvt; have Hol := Lib.hid hol
      clear ho hE hvt hol hz hc5
      go_wp2_with (at_builtin; refine wpList_append_own _ rfl _ _ 28 rfl w2.heap.size 3 i0 (.int .i64 0) 1 8 Tryz.underlying28 hj hz0 hz1 hz2 rfl (by decide) _ _ _ rfl (World.ownsRow.alloc Ho.out _) ⟨wr.heap.size, 0, none⟩ 1 1 [.int .i64 (z : Int)] rfl rfl (cell_one_new _ _ _) (by simp [Value.oneCell']) hm3 hm4 (by rw [World.size_alloc]; omega) ?_; intro v7 V7 hown7 hgrow7 _)
      go_roundw
      case rel => exact ⟨i + 1, by go_num, by omega, by rw [Hvi.out]; unfold OwnI; rw [List.length_append, Hol.out, i64s, List.map_append]; exact hown7, (HE.out.alloc _).grown hgrow7 (fun k hk => (World.ownsRow.lt Ho.out k hk).1)⟩
      case measure => simp [intOf]; omega
    · obtain rfl : i = m := by omega
      have hik : ¬ (i : Int) < (i : Int) := by omega
      rw [List.take_of_length_le (by rw [Hvl.out]; exact Nat.le_refl _)] at ho
      have hof : OwnI wr w.heap.size (.slice a7 i c7) (vrs p (rs.map Qw.x)) := by unfold OwnI; rw [Hvl.out]; exact own_mono ho Hx.out.size
      have Ho := Lib.hid hof; have HE := Lib.hid (Hx.out.trans hE); have Hol := Lib.hid hol
      clear ho hE hol hof
      go_wp2_with fail
      exact bodyPost_ret (v := .tuple #[.slice a7 i c7, .int .i64 0]) (by simp [results, Tryz.results17, go_sem]) rfl ⟨_, rfl, Ho.out, HE.out⟩
end Go.Proofs.YtaakmdjicocjpaaGreatDoor

namespace Go.Proofs.YtaakmdjicocjpaaGreatDoor
/-- In order at the class d, decided. -/
def ordB (p : List Int) (N : List (List Rat)) (m : Int) (d : Nat) : Bool :=
  match (cls p N (d : Int))[(cls p N (d : Int)).length - 1]?, (cls p N ((d + 1 : Nat) : Int))[0]? with
  | some x, some y => decide (sgQ (sF p (subZ x y)) < m)
  | _, _ => true
theorem ord_iff {p : List Int} {N : List (List Rat)} (h : Wc p N) (m : Int) (d : Nat) : OrdOk p N m d ↔ ordB p N m d = true := by
  obtain ⟨x, y, hx, hy⟩ := h.gl d
  unfold ordB
  rw [hx, hy]
  simp only [decide_eq_true_eq]
  constructor
  · exact fun ho => ho x y ⟨hx, hy⟩
  · intro hs x' y' hg
    obtain ⟨rfl, rfl⟩ := Gl.uniq ⟨hx, hy⟩ hg
    exact hs
theorem maj_ord : (List.range 7).map (ordB [2, 3] majorQ 1) = [true, true, true, false, true, true, true] := by decide +kernel
theorem maj_vrs : vrs [2, 3] majorQ = [2, 2, 2, 2, 2, 2] := by decide +kernel
theorem maj_kd : kd [2, 3] majorQ = 2 := by decide +kernel
theorem maj_cst : Cst [2, 3] majorQ := by
  have h : ((List.range 8).all fun (u : Nat) => (List.range u).all fun (d : Nat) => (cls [2, 3] majorQ (d : Int)).all fun x => !(cls [2, 3] majorQ (u : Int)).contains x) = true := by decide +kernel
  intro d u hdu hu x hx hm
  rw [maj_len] at hu
  rw [List.all_eq_true] at h
  have h1 := h u (List.mem_range.2 (by omega))
  rw [List.all_eq_true] at h1
  have h2 := h1 d (List.mem_range.2 hdu)
  rw [List.all_eq_true] at h2
  have h3 := h2 x hx
  rw [Bool.not_eq_true', List.contains_eq_mem, decide_eq_false_iff_not] at h3
  exact h3 hm
theorem maj_at {d : Nat} {x y : List Rat} (h : OrdAt [2, 3] majorQ 1 d x y) : d = 3 := by
  have hlt := h.lt
  rw [maj_len] at hlt
  have hb : ∀ e : Nat, e < 7 → ordB [2, 3] majorQ 1 e = ([true, true, true, false, true, true, true])[e]! := fun e he => by
    rw [← maj_ord]
    rw [List.getElem!_eq_getElem?_getD, List.getElem?_map, List.getElem?_range he]
    rfl
  have hno := h.no
  rw [ord_iff maj_wc, hb d hlt] at hno
  rcases (by omega : d = 0 ∨ d = 1 ∨ d = 2 ∨ d = 3 ∨ d = 4 ∨ d = 5 ∨ d = 6) with rfl | rfl | rfl | rfl | rfl | rfl | rfl
  all_goals first | rfl | exact absurd rfl hno
theorem maj_not : ¬ ∀ d < majorQ.length, OrdOk [2, 3] majorQ 1 d := fun h => by
  have := (ord_iff maj_wc 1 3).1 (h 3 (by rw [maj_len]; omega))
  have h2 : ordB [2, 3] majorQ 1 3 = false := by
    have := congrArg (fun l : List Bool => l[3]?) maj_ord
    simpa using this
  rw [h2] at this
  cases this
end Go.Proofs.YtaakmdjicocjpaaGreatDoor

namespace Go.Proofs.YtaakmdjicocjpaaGreatDoor
open Go.RowKit Go.Lib Go.Shelf
theorem lqc_length (ls : List Lq) : (lqc ls).length = ls.length := by unfold lqc; exact List.length_map ..
/-- Where IndexFunc finds the first one. -/
def IdxAtL (P : Lq → Bool) (rs : List Lq) (z : Int) : Prop := (z = -1 ∧ ∀ r ∈ rs, P r = false) ∨ ∃ (k : Nat) (r : Lq), z = k ∧ rs[k]? = some r ∧ P r = true ∧ ∀ s ∈ rs.take k, P s = false
theorem IdxAtL.any {P : Lq → Bool} {rs : List Lq} {z : Int} (h : IdxAtL P rs z) : rs.any (fun r => P r) = decide (0 ≤ z) := by
  rcases h with ⟨rfl, h⟩ | ⟨k, r, rfl, h1, h2, _⟩
  · rw [show decide ((0 : Int) ≤ -1) = false by decide, List.any_eq_false]
    intro r hr
    rw [h r hr]
    simp
  · rw [show decide ((0 : Int) ≤ (k : Int)) = true from decide_eq_true (by omega), List.any_eq_true]
    exact ⟨r, List.mem_of_getElem? h1, h2⟩
theorem idxL_c (g : Nat) (cb : Array Value) (v : Value) (rs : List Lq) (P : Lq → Bool) (w : World) (hv : Sl w v (lqc rs)) (hl : rs.length ≤ 1000)
    (eg : ∀ args w, (callFunc g args).run Tryz.prog w = .ok (.enter g args) w)
    (hp : ∀ W, Ext w W → ∀ r ∈ rs, Calls Tryz.prog g (#[r.u] ++ cb) W fun e w' => e = .returned (.bool (P r)) ∧ Ext W w') :
    Calls Tryz.prog 113 #[v, .func (.func g) #[] cb] w fun e w' => ∃ z : Int, e = .returned (.int .i64 z) ∧ IdxAtL P rs z ∧ Ext w w' := by
  obtain ⟨a, c, rfl, _, _, hc⟩ := hv.parts
  rw [lqc_length]
  have hcell : ∀ k r, rs[k]? = some r → ∃ b off, a = some ⟨b, off, none⟩ ∧ w.cell? ⟨b, off + k, none⟩ = some r.u := fun k r hr => hc k r.u (by unfold lqc; rw [List.getElem?_map, hr]; rfl)
  generalize hn : rs.length = n at *
  have Hn := Lib.hid hn; have Hp := Lib.hid hp; have Hc := Lib.hid hcell
  clear hv hc hn hp hcell
  go_enter Tryz.func113, Tryz.ntmps113
  go_wp2_with fail
  go_loopw [5, 8] (fun v5 v8 wr => ∃ k : Nat, v8 = .int .i64 k ∧ k ≤ n ∧ (∀ s ∈ rs.take k, P s = false) ∧ Ext w wr) (fun _ v8 _ => n - (intOf v8).toNat)
  case atStart => exact ⟨0, rfl, Nat.zero_le _, fun r h => by simp at h, Ext.refl _⟩
  case round =>
    obtain ⟨k, rfl, hk, hall, hE⟩ := hrel
    have Hall := Lib.hid hall
    clear hall
    by_cases hlt : k < n
    · obtain ⟨r, hr⟩ : ∃ r, rs[k]? = some r := ⟨_, List.getElem?_eq_getElem (by rw [Hn.out]; exact hlt)⟩
      obtain ⟨b, off, rfl, h0⟩ := Hc.out k r hr
      have hc0 := hE.cell h0
      have hd := Hp.out wr hE r (List.mem_of_getElem? hr)
      have HE := Lib.hid hE
      have Hr := Lib.hid hr
      clear hr h0 hE
      generalize r.u = u at *
      generalize hdx : P r = dx at *
      have Hd := Lib.hid hd; have Hdx := Lib.hid hdx; clear hd hdx
      have hk0 : (0 : Int) ≤ (k : Int) := by omega
      have hk1 : (k : Int) < (n : Int) := by omega
      go_wp2_with fail
      refine Hd.out.mono ?_
      rintro e W2 ⟨rfl, hx2⟩
      have HE2 := Lib.hid (HE.out.trans hx2); clear hx2
      cases dx with
      | true =>
        go_wp2
        go_ret
        exact ⟨_, rfl, .inr ⟨k, r, rfl, Hr.out, Hdx.out, Hall.out⟩, HE2.out⟩
      | false =>
        go_wp2_with fail
        go_roundw
        case rel => exact ⟨k + 1, by go_num, hlt, fun s hs => by
          obtain ⟨hl2, e⟩ := List.getElem?_eq_some_iff.1 Hr.out
          rw [List.take_succ_eq_append_getElem hl2] at hs
          rcases List.mem_append.1 hs with h | h
          · exact Hall.out s h
          · rw [List.mem_singleton] at h; rw [h, e]; exact Hdx.out, HE2.out⟩
        case measure => simp [intOf]; omega
    · have hkk : ¬ (k : Int) < (n : Int) := by omega
      have hkl : k = n := by omega
      have Hkl := Lib.hid hkl; clear hkl
      have HE := Lib.hid hE
      clear hE
      go_wp2
      go_ret
      exact ⟨-1, rfl, .inl ⟨rfl, fun r hr => Hall.out r (by rw [Hkl.out, ← Hn.out, List.take_length]; exact hr)⟩, HE.out⟩
theorem containsL_c (g : Nat) (cb : Array Value) (v : Value) (rs : List Lq) (P : Lq → Bool) (w : World) (hv : Sl w v (lqc rs)) (hl : rs.length ≤ 1000)
    (eg : ∀ args w, (callFunc g args).run Tryz.prog w = .ok (.enter g args) w)
    (hp : ∀ W, Ext w W → ∀ r ∈ rs, Calls Tryz.prog g (#[r.u] ++ cb) W fun e w' => e = .returned (.bool (P r)) ∧ Ext W w') :
    Calls Tryz.prog 61 #[v, .func (.func g) #[] cb] w fun e w' => e = .returned (.bool (rs.any fun r => P r)) ∧ Ext w w' := by
  have hi := idxL_c g cb v rs P w hv hl eg hp
  obtain ⟨a, c, rfl, _, _, _⟩ := hv.parts
  have Hi := Lib.hid hi
  clear hi hp hv
  go_enter Tryz.func61, Tryz.ntmps61
  go_wp2_with fail
  refine Hi.out.mono ?_
  rintro e w1 ⟨z, rfl, hz, hx⟩
  have Hz := Lib.hid hz.any; have Hx := Lib.hid hx
  clear hz hx
  go_wp2
  go_ret
  exact ⟨by rw [Hz.out]; rfl, Hx.out⟩
end Go.Proofs.YtaakmdjicocjpaaGreatDoor
