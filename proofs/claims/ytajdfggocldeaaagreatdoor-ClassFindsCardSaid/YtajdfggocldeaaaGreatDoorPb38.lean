/- Plain: the major scale is the collection of seven fifths; what reduces there. Plain: the scales of worlds, and the major scale, have nice classes. Plain: the classes of the major scale. Walks: law 32's known. Walks: the law ClassFinds. -/
import Derived.Test.YtajdfggocldeaaaGreatDoorPb37
import Derived.Test.YtajdfggocldeaaaGreatDoorPb27
import Derived.Test.YtajdfggocldeaaaGreatDoorPb22
import Derived.Test.YtajdfggocldeaaaGreatDoorPb33
import Derived.Test.YtajdfggocldeaaaGreatDoorPb32
import Derived.Test.YtajdfggocldeaaaGreatDoorPb34
import Derived.Test.YtajdfggocldeaaaGreatDoorPb35
import Derived.Test.YtajdfggocldeaaaGreatDoorPb20
import Derived.Test.YtajdfggocldeaaaGreatDoorPb03
import Derived.Laws.OwnMore
import Derived.Deep.RegionLaw
import Derived.Deep.AppendLies
set_option maxRecDepth 100000
set_option maxHeartbeats 4000000
namespace Go.Proofs.YtajdfggocldeaaaGreatDoor
open Go.RowKit Go.Lib
def fifth (k : Int) : List Rat := [((-k : Int) : Rat), (k : Rat)]
theorem maj_list : mulsZ (rats [-1, 1]) (-1) 7 = [fifth (-1), fifth 0, fifth 1, fifth 2, fifth 3, fifth 4, fifth 5] := by decide +kernel
theorem sF_fifth (k : Int) : sF [2, 3] (fifth k) = ((k * 39256168 : Int) : Rat) := by
  unfold fifth
  simp only [sF, lgs.1, lgs.2.1]
  rw [Rat.intCast_mul, Rat.intCast_neg]
  have h1 : ((106365032 : Int) : Rat) = ((67108864 : Int) : Rat) + ((39256168 : Int) : Rat) := by rw [← Rat.intCast_add]; rfl
  rw [h1]
  grind
theorem fifth_sub (k l : Int) : subZ (fifth k) (fifth l) = fifth (k - l) := by
  unfold fifth subZ
  simp only [List.zipWith_cons_cons, List.zipWith_nil_left]
  rw [← Rat.intCast_sub, ← Rat.intCast_sub, show -k - -l = -(k - l) by omega]
theorem fifth_bx {k : Int} (h0 : -100 ≤ k) (h1 : k ≤ 100) : Bx 256 (fifth k) :=
  ⟨-k, 2 * k, rfl, by rw [Rat.intCast_mul, show ((2 : Int) : Rat) = 2 from rfl]; grind, by omega, by omega⟩
theorem lw_fifths (l : List (List Rat)) (h : ∀ x ∈ l, ∃ k : Int, -10 ≤ k ∧ k ≤ 10 ∧ x = fifth k) : Lw [2, 3] 10 l := by
  have hz : zer [(2 : Int), 3].length = fifth 0 := by decide +kernel
  have h2 : ∀ x ∈ zer [(2 : Int), 3].length :: l, ∃ k : Int, -10 ≤ k ∧ k ≤ 10 ∧ x = fifth k := fun x hx => by
    rcases List.mem_cons.1 hx with e | e
    · exact ⟨0, by omega, by omega, by rw [e, hz]⟩
    · exact h x e
  refine ⟨.inl ⟨rfl, rfl⟩, fun x hx => ?_, by omega, by omega, fun x hx => ?_, 0, fun x hx y hy => ?_⟩
  · obtain ⟨k, _, _, rfl⟩ := h x hx
    rfl
  · obtain ⟨k, k0, k1, rfl⟩ := h x hx
    rw [sF_fifth, ← Rat.intCast_neg]
    exact ⟨Rat.intCast_le_intCast.2 (by omega), Rat.intCast_le_intCast.2 (by omega)⟩
  · obtain ⟨k, k0, k1, rfl⟩ := h2 x hx
    obtain ⟨j, j0, j1, rfl⟩ := h2 y hy
    rw [fifth_sub]
    exact .inl ⟨rfl, fifth_bx (by omega) (by omega)⟩
theorem lw_maj : Lw [2, 3] 10 (mulsZ (rats [-1, 1]) (-1) 7) := by
  rw [maj_list]
  refine lw_fifths _ fun x hx => ?_
  simp only [List.mem_cons, List.not_mem_nil, or_false] at hx
  rcases hx with rfl | rfl | rfl | rfl | rfl | rfl | rfl
  · exact ⟨-1, by omega, by omega, rfl⟩
  · exact ⟨0, by omega, by omega, rfl⟩
  · exact ⟨1, by omega, by omega, rfl⟩
  · exact ⟨2, by omega, by omega, rfl⟩
  · exact ⟨3, by omega, by omega, rfl⟩
  · exact ⟨4, by omega, by omega, rfl⟩
  · exact ⟨5, by omega, by omega, rfl⟩
theorem maj_rests : colF [2, 3] [] (mulsZ (rats [-1, 1]) (-1) 7) = [rats [2, -1], rats [-1, 1], rats [-3, 2], rats [-4, 3], rats [-6, 4], rats [-7, 5]] := by decide +kernel
theorem maj_coll : Coll [2, 3] (mulsZ (rats [-1, 1]) (-1) 7) majorQ := by
  have h := coll_prog (N := [rats [-3, 2], rats [-6, 4], rats [2, -1], rats [-1, 1], rats [-4, 3], rats [-7, 5]]) lw_maj (by rw [maj_rests]; decide +kernel) (by decide +kernel)
  have e : majorQ = [rats [-3, 2], rats [-6, 4], rats [2, -1], rats [-1, 1], rats [-4, 3], rats [-7, 5]] ++ [ov ([(2 : Int), 3].length - 1)] := by decide +kernel
  rw [e]
  exact h
/-- The steps of a right scale are short. -/
theorem Wd.step_ft {p : List Int} {rs : List Qw} (h : Wd p (rs.map Qw.x)) : ∀ k, k < rs.length → ∀ q ∈ stQ p.length rs k, Ft 30 q := by
  intro k hk
  have hl : (rs.map Qw.x).length = rs.length := List.length_map ..
  have hf := h.few
  have e : stQ p.length rs k = subZ (nt p (rs.map Qw.x) ((k + 1 : Nat) : Int)) (nt p (rs.map Qw.x) (k : Int)) := by
    rw [h.nt_low (by omega), h.nt_low (by omega)]
    unfold stQ zat prevQ
    rw [List.getElem?_cons_succ, List.getElem?_map]
    cases k with
    | zero => rfl
    | succ j => rw [if_neg (by omega), List.getElem?_cons_succ, List.getElem?_map, Nat.add_sub_cancel]
  rw [e]
  exact (h.nt_sub_quick _ _ (by omega) (by omega) (by omega) (by omega)).1
end Go.Proofs.YtajdfggocldeaaaGreatDoor

namespace Go.Proofs.YtajdfggocldeaaaGreatDoor
theorem sz_bx2 {p : List Int} (h : Pw p) {A B C : Int} (h1 : -128 ≤ B) (h2 : B ≤ 128) (h3 : -64 ≤ C) (h4 : C ≤ 64) : Bx 128 (sz3 p A B C) := by
  rcases h with rfl | rfl
  · exact ⟨A, B, rfl, half2 B, h1, h2⟩
  · exact ⟨A, B, C, rfl, half2 B, rfl, h1, h2, by omega, by omega⟩
theorem d2_parts {p : List Int} (hp : Pw p) {n : Nat} (hn : 0 < n) (hn9 : n ≤ 9) : Dif2 p (mulsZ (mulZ (ov (p.length - 1)) (mkRat 1 n)) 1 n) := by
  have h2 : ∀ x ∈ zer p.length :: mulsZ (mulZ (ov (p.length - 1)) (mkRat 1 n)) 1 n, ∃ i : Int, x = oc3 p n i := fun x hx => by
    rcases List.mem_cons.1 hx with e | hx
    · exact ⟨0, by rw [e, oc_zer hp n]⟩
    · unfold mulsZ at hx
      obtain ⟨i, _, rfl⟩ := List.mem_map.1 hx
      exact ⟨1 + (i : Int), oc_mul hp n _⟩
  refine ⟨n, fun x hx y hy => ?_⟩
  obtain ⟨i, rfl⟩ := h2 x hx
  obtain ⟨j, rfl⟩ := h2 y hy
  rw [oc3_sub hp]
  exact .inr ⟨hn, hn9, oc_oc hp hn _⟩
theorem d2_mults {p : List Int} (hp : Pw p) (x : I3) {n : Nat} (hn9 : n ≤ 9) : Dif2 p (mulsZ (szW p.length x) 0 n) := by
  obtain ⟨A, B, C, hA, hB, hC, e⟩ := szW_eq hp x
  have h2 : ∀ y ∈ zer p.length :: mulsZ (szW p.length x) 0 n, ∃ k : Int, 0 ≤ k ∧ k ≤ 8 ∧ y = sz3 p (A * k) (B * k) (C * k) := fun y hy => by
    rcases List.mem_cons.1 hy with e | hy
    · exact ⟨0, by omega, by omega, by rw [e, sz_zer hp, Int.mul_zero, Int.mul_zero, Int.mul_zero]⟩
    · unfold mulsZ at hy
      obtain ⟨i, hi, rfl⟩ := List.mem_map.1 hy
      rw [List.mem_range] at hi
      exact ⟨0 + (i : Int), by omega, by omega, by rw [e]; exact sz_mul hp ..⟩
  refine ⟨0, fun y hy z hz => .inl ⟨rfl, ?_⟩⟩
  obtain ⟨k, k0, k1, rfl⟩ := h2 y hy
  obtain ⟨j, j0, j1, rfl⟩ := h2 z hz
  rw [sz_sub hp, ← Int.mul_sub, ← Int.mul_sub, ← Int.mul_sub]
  have hk : -8 ≤ k - j ∧ k - j ≤ 8 := by omega
  generalize k - j = t at *
  have mb : ∀ z b : Int, -b ≤ z → z ≤ b → 0 ≤ b → -(b * 8) ≤ z * t ∧ z * t ≤ b * 8 := fun z b h1 h2 h3 => by
    have h4 : z.natAbs ≤ b.natAbs := by omega
    have h5 : t.natAbs ≤ 8 := by omega
    have h6 := Nat.mul_le_mul h4 h5
    rw [← Int.natAbs_mul] at h6
    omega
  have m2 := mb B 16 hB.1 hB.2 (by omega)
  have m3 := mb C 8 hC.1 hC.2 (by omega)
  exact sz_bx2 hp (by omega) (by omega) (by omega) (by omega)
theorem d2_any {p : List Int} (hp : Pw p) (xs : Nat → I3) (n : Nat) : Dif2 p ((List.range n).map fun i => szW p.length (xs i)) := by
  have h2 : ∀ y ∈ zer p.length :: ((List.range n).map fun i => szW p.length (xs i)), ∃ A B C : Int, (-16 ≤ B ∧ B ≤ 16) ∧ (-8 ≤ C ∧ C ≤ 8) ∧ y = sz3 p A B C := fun y hy => by
    rcases List.mem_cons.1 hy with e | hy
    · exact ⟨0, 0, 0, by omega, by omega, by rw [e, sz_zer hp]⟩
    · obtain ⟨i, _, rfl⟩ := List.mem_map.1 hy
      obtain ⟨A, B, C, hA, hB, hC, e⟩ := szW_eq hp (xs i)
      exact ⟨A, B, C, hB, hC, e⟩
  refine ⟨0, fun y hy z hz => .inl ⟨rfl, ?_⟩⟩
  obtain ⟨A, B, C, hB, hC, rfl⟩ := h2 y hy
  obtain ⟨A', B', C', hB', hC', rfl⟩ := h2 z hz
  rw [sz_sub hp]
  exact sz_bx2 hp (by omega) (by omega) (by omega) (by omega)
theorem wl_d2 (a : Wl) : Dif2 a.p a.sizes := by
  unfold Wl.sizes
  split
  · exact d2_parts a.pw a.n9.1 a.n9.2
  · split
    · exact d2_mults a.pw _ a.n9.2
    · exact d2_any a.pw _ _
theorem wl_wc (a : Wl) {N : List (List Rat)} (h : Coll a.p a.sizes N) : Wc a.p N := coll_wc a.lw (wl_d2 a) h a.few
theorem maj_wc : Wc [2, 3] majorQ := by
  refine coll_wc lw_maj ?_ maj_coll (by rw [mulsZ_len]; omega)
  have hz : zer [(2 : Int), 3].length = fifth 0 := by decide +kernel
  have h2 : ∀ x ∈ zer [(2 : Int), 3].length :: mulsZ (rats [-1, 1]) (-1) 7, ∃ k : Int, -10 ≤ k ∧ k ≤ 10 ∧ x = fifth k := fun x hx => by
    rw [maj_list, hz] at hx
    simp only [List.mem_cons, List.not_mem_nil, or_false] at hx
    rcases hx with rfl | rfl | rfl | rfl | rfl | rfl | rfl | rfl
    · exact ⟨0, by omega, by omega, rfl⟩
    · exact ⟨-1, by omega, by omega, rfl⟩
    · exact ⟨0, by omega, by omega, rfl⟩
    · exact ⟨1, by omega, by omega, rfl⟩
    · exact ⟨2, by omega, by omega, rfl⟩
    · exact ⟨3, by omega, by omega, rfl⟩
    · exact ⟨4, by omega, by omega, rfl⟩
    · exact ⟨5, by omega, by omega, rfl⟩
  refine ⟨0, fun x hx y hy => ?_⟩
  obtain ⟨k, k0, k1, rfl⟩ := h2 x hx
  obtain ⟨j, j0, j1, rfl⟩ := h2 y hy
  rw [fifth_sub]
  refine .inl ⟨rfl, -(k - j), 2 * (k - j), rfl, ?_, by omega, by omega⟩
  rw [Rat.intCast_mul, show ((2 : Int) : Rat) = 2 from rfl]; grind
theorem maj_len : majorQ.length = 7 := rfl
end Go.Proofs.YtajdfggocldeaaaGreatDoor

namespace Go.Proofs.YtajdfggocldeaaaGreatDoor
/-- In order at the class d, decided. -/
def ordB (p : List Int) (N : List (List Rat)) (m : Int) (d : Nat) : Bool :=
  match (cls p N (d : Int))[(cls p N (d : Int)).length - 1]?, (cls p N ((d + 1 : Nat) : Int))[0]? with
  | some x, some y => decide (sgQ (sF p (subZ x y)) < m)
  | _, _ => true
theorem ord_iff {p : List Int} {N : List (List Rat)} (h : Wc p N) (m : Int) (d : Nat) : OrdOk p N m d ↔ ordB p N m d = true := by
  obtain ⟨x, y, hx, hy⟩ := h.gl d
  unfold ordB
  rw [hx, hy]
  simp only [decide_eq_true_eq]
  constructor
  · exact fun ho => ho x y ⟨hx, hy⟩
  · intro hs x' y' hg
    obtain ⟨rfl, rfl⟩ := Gl.uniq ⟨hx, hy⟩ hg
    exact hs
theorem maj_ord : (List.range 7).map (ordB [2, 3] majorQ 1) = [true, true, true, false, true, true, true] := by decide +kernel
theorem maj_vrs : vrs [2, 3] majorQ = [2, 2, 2, 2, 2, 2] := by decide +kernel
theorem maj_kd : kd [2, 3] majorQ = 2 := by decide +kernel
theorem maj_cst : Cst [2, 3] majorQ := by
  have h : ((List.range 8).all fun (u : Nat) => (List.range u).all fun (d : Nat) => (cls [2, 3] majorQ (d : Int)).all fun x => !(cls [2, 3] majorQ (u : Int)).contains x) = true := by decide +kernel
  intro d u hdu hu x hx hm
  rw [maj_len] at hu
  rw [List.all_eq_true] at h
  have h1 := h u (List.mem_range.2 (by omega))
  rw [List.all_eq_true] at h1
  have h2 := h1 d (List.mem_range.2 hdu)
  rw [List.all_eq_true] at h2
  have h3 := h2 x hx
  rw [Bool.not_eq_true', List.contains_eq_mem, decide_eq_false_iff_not] at h3
  exact h3 hm
theorem maj_at {d : Nat} {x y : List Rat} (h : OrdAt [2, 3] majorQ 1 d x y) : d = 3 := by
  have hlt := h.lt
  rw [maj_len] at hlt
  have hb : ∀ e : Nat, e < 7 → ordB [2, 3] majorQ 1 e = ([true, true, true, false, true, true, true])[e]! := fun e he => by
    rw [← maj_ord]
    rw [List.getElem!_eq_getElem?_getD, List.getElem?_map, List.getElem?_range he]
    rfl
  have hno := h.no
  rw [ord_iff maj_wc, hb d hlt] at hno
  rcases (by omega : d = 0 ∨ d = 1 ∨ d = 2 ∨ d = 3 ∨ d = 4 ∨ d = 5 ∨ d = 6) with rfl | rfl | rfl | rfl | rfl | rfl | rfl
  all_goals first | rfl | exact absurd rfl hno
theorem maj_not : ¬ ∀ d < majorQ.length, OrdOk [2, 3] majorQ 1 d := fun h => by
  have := (ord_iff maj_wc 1 3).1 (h 3 (by rw [maj_len]; omega))
  have h2 : ordB [2, 3] majorQ 1 3 = false := by
    have := congrArg (fun l : List Bool => l[3]?) maj_ord
    simpa using this
  rw [h2] at this
  cases this
end Go.Proofs.YtajdfggocldeaaaGreatDoor

namespace Go.Proofs.YtajdfggocldeaaaGreatDoor
open Go.RowKit Go.Lib Go.Shelf
attribute [local go_sem] Oper.semAt_some
theorem scv_cut {w : World} {v : Value} {p : List Int} {rs : List Qw} (h : ScV w v p rs) : ∃ a c b d, v = .agg #[.slice a p.length c, .slice b rs.length d] ∧ ScV w (.agg #[.slice a p.length c, .slice b rs.length d]) p rs := by
  obtain ⟨vp, vn, rfl, hp, hn⟩ := h
  obtain ⟨a, c, rfl, _, _, _⟩ := hp.parts
  obtain ⟨b, d, rfl, _, _, _⟩ := hn.1.parts
  rw [i64s_length] at *
  rw [qwc_length] at *
  exact ⟨a, c, b, d, rfl, _, _, rfl, hp, hn⟩
theorem known32_c (w : World) (he : Env w) :
    Calls Tryz.prog 4 #[] w fun e w' => e = .returned (.bool true) ∧ Ext w w' := by
  have hmj := major_c w he
  have hva := fun W v rs (hE : Ext w W) (hv : ScV W v [2, 3] rs) (hm : rs.map Qw.x = majorQ) => vars_c v [2, 3] rs W (he.ext hE) hv (by rw [hm]; exact maj_wc)
  have hki := fun W v rs (hE : Ext w W) (hv : ScV W v [2, 3] rs) (hm : rs.map Qw.x = majorQ) => kind_c v [2, 3] rs W (he.ext hE) hv (by rw [hm]; exact maj_wc)
  have hpr := fun W v rs (hE : Ext w W) (hv : ScV W v [2, 3] rs) (hm : rs.map Qw.x = majorQ) => proper_c v [2, 3] rs W (he.ext hE) hv (by rw [hm]; exact maj_wc)
  have hcs := fun W v rs (hE : Ext w W) (hv : ScV W v [2, 3] rs) (hm : rs.map Qw.x = majorQ) => constant_c v [2, 3] rs W (he.ext hE) hv (by rw [hm]; exact maj_wc)
  have Hmj := Lib.hid hmj; have Hva := Lib.hid hva; have Hki := Lib.hid hki; have Hpr := Lib.hid hpr; have Hcs := Lib.hid hcs
  clear hmj hva hki hpr hcs he
  go_enter Tryz.func4, Tryz.ntmps4
  go_wp2_with fail
  refine Hmj.out.mono ?_
  rintro e w1 ⟨v1, rs, rfl, hs1, hm, hx1⟩
  obtain ⟨a1, c1, b1, d1, rfl, hs1⟩ := scv_cut hs1
  have hrl : rs.length = 7 := by rw [← List.length_map (f := Qw.x), hm]; rfl
  rw [hrl, show ([2, 3] : List Int).length = 2 from rfl] at hs1 ⊢
  have hb := BoxT.new 35 w1 (.slice a1 2 c1) (.slice b1 7 d1)
  have hE1 := (Ext.refl w1).alloc (.cells #[.slice a1 2 c1, .slice b1 7 d1] 35)
  have hva := Hva.out _ _ rs (hx1.trans hE1) (hs1.ext hE1) hm
  have q0 := hb.c0
  have q1 := hb.c1
  have Hva1 := Lib.hid hva; have HB := Lib.hid hb; have Hs := Lib.hid (hs1.ext hE1); have Hm := Lib.hid hm; have Hx1 := Lib.hid (hx1.trans hE1)
  clear hva hb hs1 hE1 hm hx1 hrl
  go_wp2_with fail
  generalize w1.alloc (.cells #[.slice a1 2 c1, .slice b1 7 d1] 35) = W1 at *
  refine Hva1.out.mono ?_
  rintro e w2 ⟨u2, rfl, ho2, hx2⟩
  rw [Hm.out, maj_vrs] at ho2
  obtain ⟨g2, k2, rfl, hc2⟩ := own_slice ho2 (by decide)
  have h0 := hc2 0 (.int .i64 2) rfl
  have h5 := hc2 5 (.int .i64 2) rfl
  have q0 := (HB.out.ext hx2).c0
  have q1 := (HB.out.ext hx2).c1
  have hki := Hki.out w2 _ rs (Hx1.out.trans hx2) (Hs.out.ext hx2) Hm.out
  rw [Hm.out, maj_kd] at hki
  have Hki2 := Lib.hid hki; have HE2 := Lib.hid hx2; have H0 := Lib.hid h0; have H5 := Lib.hid h5
  clear hki hx2 h0 h5 hc2 ho2
  go_wp2_with fail
  refine Hki2.out.mono ?_
  rintro e w3 ⟨rfl, hx3⟩
  have HE3 := Lib.hid (HE2.out.trans hx3)
  have H23 := Lib.hid hx3
  have q0 := (HB.out.ext HE3.out).c0
  have q1 := (HB.out.ext HE3.out).c1
  have hpr := Hpr.out w3 _ rs (Hx1.out.trans HE3.out) (Hs.out.ext HE3.out) Hm.out
  have Hpr3 := Lib.hid hpr
  clear hpr hx3
  go_wp2_with fail
  refine Hpr3.out.mono ?_
  rintro e w4 ⟨⟨c4, is4, rfl, hor⟩, hx4⟩
  rw [Hm.out] at hor
  rcases hor with ⟨_, _, hok⟩ | ⟨rfl, d4, x4, y4, hat4, u1, u2, rfl, ho1, ho2⟩
  · exact absurd hok maj_not
  obtain rfl : d4 = 3 := maj_at hat4
  obtain ⟨aA, cA, rfl⟩ := own_shape ho1
  obtain ⟨aB, cB, rfl⟩ := own_shape ho2
  rw [show ((3 + 1 : Nat) : Int) = 4 from rfl, show ((3 : Nat) : Int) = 3 from rfl]
  generalize y4.length = ly at *
  generalize x4.length = lx at *
  have hb4 := Box4.new 50 w4 (.int .i64 3) (.int .i64 4) (.slice aA ly cA) (.slice aB lx cB)
  have hE4 := (Ext.refl w4).alloc (.cells #[.int .i64 3, .int .i64 4, .slice aA ly cA, .slice aB lx cB] 50)
  have HE4 := Lib.hid ((HE3.out.trans hx4).trans hE4)
  have H24 := Lib.hid ((H23.out.trans hx4).trans hE4)
  have q0 := (HB.out.ext HE4.out).c0
  have q1 := (HB.out.ext HE4.out).c1
  have hcs := Hcs.out _ _ rs (Hx1.out.trans HE4.out) (Hs.out.ext HE4.out) Hm.out
  have Hcs4 := Lib.hid hcs; have HB4 := Lib.hid hb4
  clear hcs hb4 hE4 hx4 ho1 ho2 hat4
  go_wp2_with fail
  generalize w4.alloc (.cells #[.int .i64 3, .int .i64 4, .slice aA ly cA, .slice aB lx cB] 50) = W4 at *
  refine Hcs4.out.mono ?_
  rintro e w5 ⟨⟨c5, is5, rfl, hor⟩, hx5⟩
  rw [Hm.out] at hor
  rcases hor with ⟨rfl, rfl, _⟩ | ⟨_, d5, u5, i5, x5, hat5, _⟩
  case inr => exact absurd maj_cst hat5.not
  have hE5 := (Ext.refl w5).alloc (.cells #[.int .i64 0, .int .i64 0, .slice none 0 0, .slice none 0 0] 50)
  have hx6 := hx5.trans hE5
  have r0 := (HB4.out.ext hx6).c0
  have r1 := (HB4.out.ext hx6).c1
  have s0 := hx6.cell (H24.out.cell H0.out)
  have s5 := hx6.cell (H24.out.cell H5.out)
  have Hfin := Lib.hid (Hx1.out.trans (HE4.out.trans hx6))
  clear hx6 hE5 hx5 q0 q1
  unfold csh0
  go_wp2_with fail
  go_ret
  exact ⟨rfl, Hfin.out⟩
end Go.Proofs.YtajdfggocldeaaaGreatDoor

namespace Go.Proofs.YtajdfggocldeaaaGreatDoor
open Go.RowKit Go.Lib Go.Shelf
attribute [local go_sem] Oper.semAt_some
/-- How often a size is among the first k steps of a class. -/
def cnk (p : List Int) (N : List (List Rat)) (d : Int) (x : List Rat) (k : Nat) : Nat := ((List.range k).filter fun (i : Nat) => decide (iv p N (i : Int) d = x)).length
theorem cnk_step (p : List Int) (N : List (List Rat)) (d : Int) (x : List Rat) (k : Nat) : cnk p N d x (k + 1) = cnk p N d x k + if iv p N (k : Int) d = x then 1 else 0 := by
  unfold cnk
  rw [List.range_succ, List.filter_append, List.length_append]
  congr 1
  by_cases h : iv p N (k : Int) d = x <;> simp [h]
theorem cnk_le (p : List Int) (N : List (List Rat)) (d : Int) (x : List Rat) (k : Nat) : cnk p N d x k ≤ k := by
  unfold cnk
  exact Nat.le_trans (List.length_filter_le ..) (by rw [List.length_range]; exact Nat.le_refl _)
theorem cnk_cnt (p : List Int) (N : List (List Rat)) (d : Int) (x : List Rat) : cnk p N d x N.length = cnt p N d x := by
  unfold cnk cnt dfs
  rw [List.filter_map, List.length_map]
  congr 2
  funext i
  exact decide_eq_decide.2 eq_comm
theorem cnk_pos (p : List Int) (N : List (List Rat)) (d : Int) (x : List Rat) : 0 < cnk p N d x N.length ↔ x ∈ cls p N d := by
  unfold cnk cls
  rw [clsN_mem, List.length_pos_iff_exists_mem]
  constructor
  · rintro ⟨i, hi⟩
    rw [List.mem_filter, List.mem_range, decide_eq_true_iff] at hi
    exact ⟨i, hi.1, hi.2.symm⟩
  · rintro ⟨i, hi, e⟩
    exact ⟨i, by rw [List.mem_filter, List.mem_range, decide_eq_true_iff]; exact ⟨hi, e.symm⟩⟩
/-- The count of class 1, once it is met. -/
def own1 (p : List Int) (N : List (List Rat)) (x : List Rat) (d : Nat) : Nat := if d ≤ 1 then 0 else cnt p N 1 x
theorem own1_step (p : List Int) (N : List (List Rat)) (x : List Rat) (d : Nat) : own1 p N x (d + 1) = if d = 1 then cnt p N (d : Int) x else own1 p N x d := by
  unfold own1
  by_cases h1 : d = 1
  · subst h1; rfl
  · rw [if_neg h1]
    by_cases h0 : d = 0
    · subst h0; rfl
    · rw [if_neg (by omega), if_neg (by omega)]
theorem own1_end (p : List Int) (N : List (List Rat)) (x : List Rat) (n : Nat) (h : 0 < n) : own1 p N x (n + 1) = cnt p N 1 x := by
  unfold own1
  rw [if_neg (by omega)]
theorem own1_le (p : List Int) (N : List (List Rat)) (x : List Rat) (d : Nat) : own1 p N x d ≤ N.length := by
  unfold own1
  split
  · exact Nat.zero_le _
  · exact cnt_le ..
theorem ownI_at {w : World} {B : Nat} {a : Option Addr} {c : Nat} {l : List Int} (h : OwnI w B (.slice a l.length c) l) {i : Nat} {z : Int} (hi : l[i]? = some z) : ∃ g, a = some ⟨g, 0, none⟩ ∧ w.cell? ⟨g, i, none⟩ = some (.int .i64 z) := by
  have hlt := (List.getElem?_eq_some_iff.1 hi).1
  unfold OwnI at h
  obtain ⟨g, cap, e, hc⟩ := own_slice h (by omega)
  injection e with e1 e2 e3
  exact ⟨g, e1, hc i _ (by unfold i64s; rw [List.getElem?_map, hi]; rfl)⟩
theorem finds_c (a : Wl) (vx : Value) (l : List (ByteArray × ByteArray)) (w : World) (he : Env w) (ha : a.Ok) (hx : Rb w vx l) (hl : l.length ≤ 9223372036854775807) :
    Calls Tryz.prog 3 #[a.v, vx] w fun e w' => e = .returned (.bool true) ∧ Ext w w' := by
  obtain ⟨i0, hj, hz0, hz1, hz2⟩ := info_parts info_int
  have hkn := fun W (hE : Ext w W) => known32_c W (he.ext hE)
  have hmk := fun W (hE : Ext w W) => lMake_c a W (he.ext hE) ha
  have hsh := fun W (hE : Ext w W) => lShort_c vx l W (hE.rb hx) hl
  have hrl := wl_box a w
  have hun := Tryz.underlying26
  have hin := wl_info a
  have hE0 : Ext w (w.alloc (.cells a.cs 26)) := (Ext.refl w).alloc _
  have Hrb := Lib.hid hx
  have hshp : ∃ ax cx, vx = .slice ax l.length cx := by obtain ⟨ax, cx, e, _⟩ := hx; exact ⟨ax, cx, e⟩
  obtain ⟨ax, cx, rfl⟩ := hshp
  have Hkn := Lib.hid hkn; have Hmk := Lib.hid hmk; have Hsh := Lib.hid hsh; have Hrl := Lib.hid hrl; have Hun := Lib.hid hun; have Hin := Lib.hid hin; have HE0 := Lib.hid hE0; clear hkn hmk hsh hrl hun hin hE0
  have He := Lib.hid he; clear he ha hx
  have hv : a.v = .agg a.cs := rfl
  have Hv := Lib.hid hv
  rw [hv]
  clear hv
  rw [wl_cs]
  have hst : sht l = true → (∀ e ∈ l, e.1.size ≤ 9 ∧ e.2.size ≤ 9) ∧ l.length ≤ 4 := fun h => of_decide_eq_true h
  have Hst := Lib.hid hst
  clear hst
  generalize hS : sht l = S at *
  clear hS
  cases S with
  | false =>
    go_enter Tryz.func3, Tryz.ntmps3
    go_wp2_with fail
    rw [← wl_cs]
    refine (Hkn.out _ HE0.out).mono ?_
    rintro e w1 ⟨rfl, hx1⟩
    have Hx1 := Lib.hid (HE0.out.trans hx1); clear hx1
    go_wp2_with fail
    refine (Hsh.out _ Hx1.out).mono ?_
    rintro e w2 ⟨rfl, hx2⟩
    have Hx2 := Lib.hid (Hx1.out.trans hx2); clear hx2
    go_wp2_with fail
    refine (Hkn.out _ Hx2.out).mono ?_
    rintro e w3 ⟨rfl, hx3⟩
    have Hx3 := Lib.hid (Hx2.out.trans hx3); clear hx3
    go_wp2_with fail
    go_ret
    exact ⟨rfl, Hx3.out⟩
  | true =>
    obtain ⟨h9, h4⟩ := Hst.out rfl
    go_enter Tryz.func3, Tryz.ntmps3
    go_wp2_with fail
    rw [← wl_cs]
    refine (Hkn.out _ HE0.out).mono ?_
    rintro e w1 ⟨rfl, hx1⟩
    have Hx1 := Lib.hid (HE0.out.trans hx1); have HK1 := Lib.hid hx1; clear hx1
    go_wp2_with fail
    refine (Hsh.out _ Hx1.out).mono ?_
    rintro e w2 ⟨rfl, hx2⟩
    have hrl1 := Hrl.out w2 (HK1.out.trans hx2)
    have Hx2 := Lib.hid (Hx1.out.trans hx2); have Hrl1 := Lib.hid hrl1
    clear hx2 hrl1
    have Hmk1 := Lib.hid (Hmk.out w2 Hx2.out)
    go_wp2_with (refine wpList_load_mid rfl 26 (.tmp 2) rfl w.heap.size 0 rfl a.cs.toList _ Hrl1.out Hun.out rfl Hin.out ?_)
    rw [← Hv.out]
    refine Hmk1.out.mono ?_
    rintro e w3 ⟨v2, rs, rfl, hs2, hc2, hx3⟩
    have hw2 := wl_wc a hc2
    obtain ⟨a2, c2, b2, d2, rfl, hs2⟩ := scv_cut hs2
    have hL : (rs.map Qw.x).length = rs.length := List.length_map ..
    have hfew := hw2.wd.few
    have hpos := hw2.wd.pos
    rw [hL] at hfew hpos
    have hlp : a.p.length ≤ 100 ∧ primesErr a.p = 0 := by rcases a.pw with e | e <;> rw [e] <;> decide
    have hsp : Sl w3 (.slice a2 a.p.length c2) (i64s a.p) := by
      obtain ⟨vp, vn, e, g, _⟩ := hs2
      injection e with e
      have h0 := congrArg (fun a : Array Value => a[0]?) e
      simp at h0
      rw [h0]; exact g
    have hb2 := BoxT.new 35 w3 (.slice a2 a.p.length c2) (.slice b2 rs.length d2)
    have hE2 := (Ext.refl w3).alloc (.cells #[.slice a2 a.p.length c2, .slice b2 rs.length d2] 35)
    have hX3 := (Hx2.out.trans hx3).trans hE2
    have Hx3 := Lib.hid hX3; have Hs2 := Lib.hid (hs2.ext hE2); have Hsp := Lib.hid (hE2.sl hsp); have Hw2 := Lib.hid hw2; have Hb2 := Lib.hid hb2; have HL := Lib.hid hL; have Hlp := Lib.hid hlp; have Hrb3 := Lib.hid (hX3.rb Hrb.out)
    have q0 := hb2.c0
    have q1 := hb2.c1
    clear hx3 hs2 hw2 hb2 hE2 hc2 hL hlp hX3 hsp
    generalize hN : rs.length = n at *
    have HN := Lib.hid hN
    clear hN
    by_cases hR : ckR a.p.length l = 0
    · obtain ⟨hll, hfr⟩ := ckR_zero hR
      obtain ⟨x, rfl, hxf⟩ := rps hfr
      have hxl : x.length = a.p.length := by rwa [List.length_map] at hll
      have hxf3 : ∀ r ∈ x, Ft 30 r := fun r hr => (hxf r hr).mono (by omega)
      have hrd := rb_rd Hrb3.out
      have hxs : x.length ≤ 1000 := by have := Hlp.out.1; omega
      have hcs := fun W (hE : Ext (w3.alloc (.cells #[.slice a2 a.p.length c2, .slice b2 n d2] 35)) W) => classes_c _ _ a.p rs x W (He.out.ext (Hx3.out.trans hE)) (Hs2.out.ext hE) Hw2.out (hE.rd hrd) hxl hxf3
      have hNl2 : rs.length = n := HN.out
      simp only [hNl2] at hcs
      clear hNl2
      have hct := fun W (hE : Ext (w3.alloc (.cells #[.slice a2 a.p.length c2, .slice b2 n d2] 35)) W) => count_c _ _ a.p rs x 1 W (He.out.ext (Hx3.out.trans hE)) (Hs2.out.ext hE) Hw2.out (by rw [HN.out]; omega) (hE.rd hrd) hxl hxf3
      have hck := fun W (hE : Ext (w3.alloc (.cells #[.slice a2 a.p.length c2, .slice b2 n d2] 35)) W) => sCheck_c _ _ a.p x W (He.out.ext (Hx3.out.trans hE)) (hE.sl Hsp.out) (hE.rd hrd) Hlp.out.2 hxl hxf3
      have hiv := fun (i d : Nat) (hi : i ≤ 100) (hd : d ≤ 100) W (hE : Ext (w3.alloc (.cells #[.slice a2 a.p.length c2, .slice b2 n d2] 35)) W) => interval_c _ a.p rs i d W (He.out.ext (Hx3.out.trans hE)) (Hs2.out.ext hE) Hw2.out hi hd
      have hsm := fun (i d : Nat) W ui (hE : Ext (w3.alloc (.cells #[.slice a2 a.p.length c2, .slice b2 n d2] 35)) W) (ho : Rd W ui (iv a.p (rs.map Qw.x) (i : Int) (d : Int))) => lSame24_c ui _ _ x W ho (hE.rd hrd) (by rw [Hw2.out.ivlen]; have := Hlp.out.1; omega) hxs
      have hNn : (rs.map Qw.x).length = n := HL.out
      have h1c : ((1 : Nat) : Int) = 1 := rfl
      rw [h1c] at hct
      have hpos2 := fun d => cnk_pos a.p (rs.map Qw.x) d x
      have hcnt2 := fun d => cnk_cnt a.p (rs.map Qw.x) d x
      have hole := fun d => own1_le a.p (rs.map Qw.x) x d
      have hcle := fun d k => cnk_le a.p (rs.map Qw.x) d x k
      have hend := own1_end a.p (rs.map Qw.x) x n hpos
      rw [hNn] at hpos2 hcnt2 hole
      generalize (x.map rp).length = lx at *
      have Hcs := Lib.hid hcs; have Hct := Lib.hid hct; have Hck := Lib.hid hck; have Hiv := Lib.hid hiv; have Hsm := Lib.hid hsm; have Hpos2 := Lib.hid hpos2; have Hcnt2 := Lib.hid hcnt2; have Hole := Lib.hid hole; have Hcle := Lib.hid hcle; have Hend1 := Lib.hid hend
      clear hole hcle hend hcs hct hck hiv hsm hR h9 h4 h1c Hmk1 Hkn Hmk Hrl Hrl1 Hun Hin hpos2 hcnt2 hll hfr hxf hxf3 hrd hxl hxs hNn
      generalize hNl : rs.map Qw.x = N at *
      clear hNl
      go_wp2_with fail
      generalize w3.alloc (.cells #[.slice a2 a.p.length c2, .slice b2 n d2] 35) = W3 at *
      refine (Hcs.out _ (Ext.refl _)).mono ?_
      rintro e w4 ⟨u6, rfl, ho6, hx4⟩
      unfold OwnI at ho6
      obtain ⟨a6, c6, rfl⟩ := own_shape ho6
      have q0 := (Hb2.out.ext hx4).c0
      have q1 := (Hb2.out.ext hx4).c1
      have H4 := Lib.hid hx4; have Ho6 := Lib.hid ho6; clear hx4 ho6
      generalize hcl : (cin a.p N x (n + 1)).length = L at *
      have Hcl := Lib.hid hcl; clear hcl
      go_wp2_with fail
      refine (Hct.out _ H4.out).mono ?_
      rintro e w5 ⟨rfl, hx5⟩
      have H5 := Lib.hid (H4.out.trans hx5); have H45 := Lib.hid hx5; clear hx5
      have q0 := (Hb2.out.ext H5.out).c0
      have q1 := (Hb2.out.ext H5.out).c1
      go_wp2_with fail
      refine (Hck.out _ H5.out).mono ?_
      rintro e w6 ⟨rfl, hx6⟩
      have H6 := Lib.hid (H5.out.trans hx6); have Ho6b := Lib.hid ((H45.out.trans hx6).own Ho6.out); clear hx6
      have q0 := (Hb2.out.ext H6.out).c0
      have q1 := (Hb2.out.ext H6.out).c1
      go_wp2_with fail
      go_loopw [11, 12, 13] (fun v11 v12 v13 wr => ∃ d : Nat, v13 = .int .i64 (d : Int) ∧ d ≤ n + 1 ∧ v12 = .int .i64 ((own1 a.p N x d : Nat) : Int) ∧ Hid (OwnI wr w6.heap.size v11 (cin a.p N x d) ∧ Ext w6 wr)) (fun _ _ v13 _ => n + 2 - (intOf v13).toNat)
      case atStart => exact ⟨0, rfl, Nat.zero_le _, rfl, Lib.hid ⟨World.ownsRow_nil _ _ _ _, Ext.refl _⟩⟩
      case round =>
        obtain ⟨d, rfl, hd, rfl, HR⟩ := hrel
        obtain ⟨ho, hE⟩ := HR.out
        unfold OwnI at ho
        obtain ⟨a11, c11, rfl⟩ := own_shape ho
        have hlen := cin_len a.p N x d
        have hst := cin_step a.p N x d
        have hos := own1_step a.p N x d
        have hol : own1 a.p N x d ≤ n := Hole.out d
        have q0 := (Hb2.out.ext (H6.out.trans hE)).c0
        have q1 := (Hb2.out.ext (H6.out.trans hE)).c1
        generalize hcinl : (cin a.p N x d).length = L1 at *
        generalize hown : own1 a.p N x d = o1 at *
        have Hcl2 := Lib.hid hcinl; have Hst := Lib.hid hst; have Hos := Lib.hid hos; have Hown := Lib.hid hown; have Ho := Lib.hid ho; have HE := Lib.hid hE
        clear hcinl hst hos hown ho hE HR
        by_cases hdn : d < n + 1
        · have hdn2 : (d : Int) ≤ (n : Int) := by omega
          have hd0 : (0 : Int) ≤ (d : Int) := by omega
          go_wp2_with fail
          go_loopw [14, 15] (fun v14 v15 wb => ∃ i : Nat, v15 = .int .i64 (i : Int) ∧ i ≤ n ∧ v14 = .int .i64 ((cnk a.p N (d : Int) x i : Nat) : Int) ∧ Hid (Ext wr wb)) (fun _ v15 _ => n + 1 - (intOf v15).toNat)
          case atStart => exact ⟨0, rfl, Nat.zero_le _, rfl, Lib.hid (Ext.refl _)⟩
          case round =>
            obtain ⟨i, rfl, hi, rfl, HEb⟩ := hrel
            have h6b := H6.out.trans (HE.out.trans HEb.out)
            have q0 := (Hb2.out.ext h6b).c0
            have q1 := (Hb2.out.ext h6b).c1
            have hck1 := Hcle.out (d : Int) i
            have hcs1 := cnk_step a.p N (d : Int) x i
            generalize hck : cnk a.p N (d : Int) x i = k1 at *
            have Hck1 := Lib.hid hck; have Hcs1 := Lib.hid hcs1; clear hck hcs1
            by_cases hin : i < n
            · have hin2 : (i : Int) < (n : Int) := by omega
              have hi0 : (0 : Int) ≤ (i : Int) := by omega
              have hivc := Hiv.out i d (by omega) (by omega) _ h6b
              have Hivc := Lib.hid hivc; have H6b := Lib.hid h6b
              clear hivc h6b
              by_cases hq : iv a.p N (i : Int) (d : Int) = x
              · have hs3 := Hcs1.out
                rw [if_pos hq] at hs3
                have hsm3 := fun W ui hE ho => Hsm.out i d W ui hE ho
                simp only [decide_eq_true hq] at hsm3
                have Hs3 := Lib.hid hs3; have Hsm3 := Lib.hid hsm3
                clear hs3 hsm3 hq
                go_wp2_with fail
                refine Hivc.out.mono ?_
                rintro e w8 ⟨ui, rfl, hou, hx8⟩
                have hsw := Hsm3.out _ ui (H6b.out.trans hx8) hou.rd
                have Hsw := Lib.hid hsw; have H8 := Lib.hid (HEb.out.trans hx8)
                clear hsw hou hx8
                go_wp2_with fail
                refine Hsw.out.mono ?_
                rintro e w9 ⟨rfl, hx9⟩
                have H9 := Lib.hid (H8.out.trans hx9)
                clear hx9
                go_wp2_with fail
                go_roundw
                case rel => exact ⟨i + 1, by go_num, by omega, by rw [Hs3.out]; go_num, H9⟩
                case measure => simp [intOf]; omega
              · have hs3 := Hcs1.out
                rw [if_neg hq] at hs3
                have hsm3 := fun W ui hE ho => Hsm.out i d W ui hE ho
                simp only [decide_eq_false hq] at hsm3
                have Hs3 := Lib.hid hs3; have Hsm3 := Lib.hid hsm3
                clear hs3 hsm3 hq
                go_wp2_with fail
                refine Hivc.out.mono ?_
                rintro e w8 ⟨ui, rfl, hou, hx8⟩
                have hsw := Hsm3.out _ ui (H6b.out.trans hx8) hou.rd
                have Hsw := Lib.hid hsw; have H8 := Lib.hid (HEb.out.trans hx8)
                clear hsw hou hx8
                go_wp2_with fail
                refine Hsw.out.mono ?_
                rintro e w9 ⟨rfl, hx9⟩
                have H9 := Lib.hid (H8.out.trans hx9)
                clear hx9
                go_wp2_with fail
                go_roundw
                case rel => exact ⟨i + 1, by go_num, by omega, by rw [Hs3.out]; rfl, H9⟩
                case measure => simp [intOf]; omega
            · obtain rfl : i = n := by omega
              have hin2 : ¬ (i : Int) < (i : Int) := by omega
              have HEf := Lib.hid (HE.out.trans HEb.out); have Hof := Lib.hid (HEb.out.own Ho.out)
              have Hbase := Lib.hid (HE.out.trans HEb.out).size
              clear h6b
              by_cases hk0 : 0 < k1
              · have hk0i : (0 : Int) < (k1 : Int) := by omega
                have Hmem := Lib.hid ((Hpos2.out (d : Int)).1 (by rw [Hck1.out]; exact hk0))
                have hm3 : L1 + 1 ≤ maxLen := by unfold maxLen; omega
                have hm4 : (L1 + 1) * 8 ≤ 140737488355328 := by omega
                by_cases hd1 : d = 1
                · have hd1i : (d : Int) = 1 := by omega
                  have Ho1 := Lib.hid (show own1 a.p N x (d + 1) = k1 by rw [Hos.out, if_pos hd1, ← Hcnt2.out, Hck1.out])
                  have Hd1 := Lib.hid hd1i
                  go_wp2_with (at_builtin; refine wpList_append_own _ rfl _ _ 31 rfl w6.heap.size 3 i0 (.int .i64 0) 1 8 Tryz.underlying31 hj hz0 hz1 hz2 rfl (by decide) _ _ _ rfl (Hof.out.alloc _) ⟨_, 0, none⟩ 1 1 [.int .i64 1] rfl rfl (cell_one_new _ _ _) (by simp [Value.oneCell']) hm3 hm4 (by rw [World.size_alloc]; have := Hbase.out; omega) ?_; intro v7 V7 hown7 hgrow7 _)
                  go_roundw
                  case rel => exact ⟨d + 1, by go_num, by omega, by rw [Ho1.out], Lib.hid ⟨by rw [Hst.out, if_pos Hmem.out]; unfold OwnI; rw [List.length_append, Hcl2.out, i64s, List.map_append]; rw [Hd1.out]; exact hown7, (HEf.out.alloc _).grown hgrow7 (fun k hk => (World.ownsRow.lt Hof.out k hk).1)⟩⟩
                  case measure => simp [intOf]; omega
                · have hd1i : ¬ (d : Int) = 1 := by omega
                  have Ho1 := Lib.hid (show own1 a.p N x (d + 1) = o1 by rw [Hos.out, if_neg hd1])
                  go_wp2_with (at_builtin; refine wpList_append_own _ rfl _ _ 31 rfl w6.heap.size 3 i0 (.int .i64 0) 1 8 Tryz.underlying31 hj hz0 hz1 hz2 rfl (by decide) _ _ _ rfl (Hof.out.alloc _) ⟨_, 0, none⟩ 1 1 [.int .i64 (d : Int)] rfl rfl (cell_one_new _ _ _) (by simp [Value.oneCell']) hm3 hm4 (by rw [World.size_alloc]; have := Hbase.out; omega) ?_; intro v7 V7 hown7 hgrow7 _)
                  go_roundw
                  case rel => exact ⟨d + 1, by go_num, by omega, by rw [Ho1.out], Lib.hid ⟨by rw [Hst.out, if_pos Hmem.out]; unfold OwnI; rw [List.length_append, Hcl2.out, i64s, List.map_append]; exact hown7, (HEf.out.alloc _).grown hgrow7 (fun k hk => (World.ownsRow.lt Hof.out k hk).1)⟩⟩
                  case measure => simp [intOf]; omega
              · have hk0i : ¬ (0 : Int) < (k1 : Int) := by omega
                have Hmem := Lib.hid (show ¬ x ∈ cls a.p N (d : Int) from fun g => hk0 (by rw [← Hck1.out]; exact (Hpos2.out (d : Int)).2 g))
                by_cases hd1 : d = 1
                · have hd1i : (d : Int) = 1 := by omega
                  have Ho1 := Lib.hid (show own1 a.p N x (d + 1) = k1 by rw [Hos.out, if_pos hd1, ← Hcnt2.out, Hck1.out])
                  go_wp2_with fail
                  go_roundw
                  case rel => exact ⟨d + 1, by go_num, by omega, by rw [Ho1.out], Lib.hid ⟨by rw [Hst.out, if_neg Hmem.out, List.append_nil]; unfold OwnI; rw [Hcl2.out]; exact Hof.out, HEf.out⟩⟩
                  case measure => simp [intOf]; omega
                · have hd1i : ¬ (d : Int) = 1 := by omega
                  have Ho1 := Lib.hid (show own1 a.p N x (d + 1) = o1 by rw [Hos.out, if_neg hd1])
                  go_wp2_with fail
                  go_roundw
                  case rel => exact ⟨d + 1, by go_num, by omega, by rw [Ho1.out], Lib.hid ⟨by rw [Hst.out, if_neg Hmem.out, List.append_nil]; unfold OwnI; rw [Hcl2.out]; exact Hof.out, HEf.out⟩⟩
                  case measure => simp [intOf]; omega
        · obtain rfl : d = n + 1 := by omega
          have hdn2 : ¬ ((n + 1 : Nat) : Int) ≤ (n : Int) := by omega
          have hdn3 : ¬ (n : Int) + 1 ≤ (n : Int) := by omega
          obtain rfl : L1 = L := by rw [← Hcl2.out, Hcl.out]
          obtain rfl : o1 = cnt a.p N 1 x := by rw [← Hown.out, Hend1.out]
          have Ho6c := Lib.hid (HE.out.own Ho6b.out)
          have Hlast := Lib.hid (Hx3.out.trans (H6.out.trans HE.out))
          have hLb : L1 ≤ 1000 := by omega
          generalize hlist : cin a.p N x (n + 1) = K at *
          have Hlist := Lib.hid hlist
          clear hlist
          have hat1 := fun (i : Nat) (z : Int) (h : K[i]? = some z) => ownI_at (w := wr) (a := a11) (c := c11) (l := K) (B := w6.heap.size) (by unfold OwnI; rw [Hcl2.out]; exact Ho.out) h
          have hat6 := fun (i : Nat) (z : Int) (h : K[i]? = some z) => ownI_at (w := wr) (a := a6) (c := c6) (l := K) (B := W3.heap.size) (by unfold OwnI; rw [Hcl2.out]; exact Ho6c.out) h
          have Hat1 := Lib.hid hat1; have Hat6 := Lib.hid hat6
          clear hat1 hat6
          go_wp2_with fail
          go_loopw [16] (fun v16 wb => ∃ i : Nat, v16 = .int .i64 (i : Int) ∧ i ≤ L1 ∧ Hid (Ext wr wb)) (fun v16 _ => L1 + 1 - (intOf v16).toNat)
          case atStart => exact ⟨0, rfl, Nat.zero_le _, Lib.hid (Ext.refl _)⟩
          case round =>
            obtain ⟨i, rfl, hi, HEb⟩ := hrel
            by_cases hin : i < L1
            · have hin2 : (i : Int) < (L1 : Int) := by omega
              have hi0 : (0 : Int) ≤ (i : Int) := by omega
              obtain ⟨z, hz⟩ : ∃ z, K[i]? = some z := ⟨_, List.getElem?_eq_getElem (by rw [Hcl2.out]; exact hin)⟩
              obtain ⟨g1, rfl, k1⟩ := Hat1.out i z hz
              obtain ⟨g6, rfl, k6⟩ := Hat6.out i z hz
              have k1' := HEb.out.cell k1
              have k6' := HEb.out.cell k6
              clear k1 k6 hz
              go_wp2_with fail
              go_quiet (fail)
              go_wp2_with fail
              go_roundw
              case rel => exact ⟨i + 1, by go_num, by omega, Lib.hid (HEb.out.drewN _)⟩
              case measure => simp [intOf]; omega
            · obtain rfl : i = L1 := by omega
              have hin2 : ¬ (i : Int) < (i : Int) := by omega
              have Hfin := Lib.hid (Hlast.out.trans HEb.out)
              go_wp2_with fail
              go_ret
              exact ⟨rfl, Hfin.out⟩
    · have hcs := fun W (hE : Ext (w3.alloc (.cells #[.slice a2 a.p.length c2, .slice b2 n d2] 35)) W) => classesE_c _ _ a.p rs l W (He.out.ext (Hx3.out.trans hE)) (Hs2.out.ext hE) Hw2.out (hE.rb Hrb3.out) (by omega) h9 hR
      have hct := fun W (hE : Ext (w3.alloc (.cells #[.slice a2 a.p.length c2, .slice b2 n d2] 35)) W) => countE_c _ _ a.p rs l 1 W (He.out.ext (Hx3.out.trans hE)) (Hs2.out.ext hE) Hw2.out (by rw [HN.out]; omega) (hE.rb Hrb3.out) (by omega) h9 hR
      have hck := fun W (hE : Ext (w3.alloc (.cells #[.slice a2 a.p.length c2, .slice b2 n d2] 35)) W) => sCheckR_c _ _ a.p l W (He.out.ext (Hx3.out.trans hE)) (hE.sl Hsp.out) (hE.rb Hrb3.out) Hlp.out.2 (by omega) h9
      have hR2 : ckR a.p.length l = 2 ∨ ckR a.p.length l = 5 := (ckR_cases _ _).resolve_left hR
      have h1c : ((1 : Nat) : Int) = 1 := rfl
      rw [h1c] at hct
      generalize ckR a.p.length l = R at *
      have Hcs := Lib.hid hcs; have Hct := Lib.hid hct; have Hck := Lib.hid hck
      clear hcs hct hck hR h9 h4 h1c Hmk1 Hkn Hmk Hrl Hrl1 Hun Hin
      rcases hR2 with rfl | rfl
      all_goals
        go_wp2_with fail
        generalize w3.alloc (.cells #[.slice a2 a.p.length c2, .slice b2 n d2] 35) = W3 at *
        refine (Hcs.out _ (Ext.refl _)).mono ?_
        rintro e w4 ⟨rfl, hx4⟩
        have q0 := (Hb2.out.ext hx4).c0
        have q1 := (Hb2.out.ext hx4).c1
        have H4 := Lib.hid hx4; clear hx4
        go_wp2_with fail
        refine (Hct.out _ H4.out).mono ?_
        rintro e w5 ⟨rfl, hx5⟩
        have H5 := Lib.hid (H4.out.trans hx5); clear hx5
        have q0 := (Hb2.out.ext H5.out).c0
        have q1 := (Hb2.out.ext H5.out).c1
        go_wp2_with fail
        refine (Hck.out _ H5.out).mono ?_
        rintro e w6 ⟨rfl, hx6⟩
        have Hend := Lib.hid (Hx3.out.trans (H5.out.trans hx6)); clear hx6
        go_wp2_with fail
        go_ret
        exact ⟨rfl, Hend.out⟩
end Go.Proofs.YtajdfggocldeaaaGreatDoor
