/- Plain: the scales of worlds, and the major scale, have nice classes. Plain: the classes of the major scale. Walks: law 32's known. What the rows' condition gives the walks, and the last step of a law (the seat of chapters 31 and 32). A world that came in. What the rows ask of the program as a whole (once a seat). -/
import Derived.Test.YtaakmdjicocjpaaGreatDoorPb22
import Derived.Test.YtaakmdjicocjpaaGreatDoorPb36
import Derived.Test.YtaakmdjicocjpaaGreatDoorPb21
import Derived.Test.YtaakmdjicocjpaaGreatDoorPb31
import Derived.Test.YtaakmdjicocjpaaGreatDoorPb35
import Derived.Test.YtaakmdjicocjpaaGreatDoorPb00
import Derived.Below
import Derived.ChangeSame
import Derived.OpenShut
import Derived.LaidMore
import Derived.ProofKit
import Derived.Stop.Joined
import Derived.Laws.IdiomArrays
import Derived.Test.YtaakmdjicocjpaaGreatDoorRows
import Derived.Test.YtaakmdjicocjpaaGreatDoorTie
import Derived.Test.YtaakmdjicocjpaaGreatDoorCards
import Derived.Handy
import Derived.Lay
import Derived.SevenTiedAt
import Derived.Stop.LaidErr
import Derived.Carry
import Derived.Test.YtaakmdjicocjpaaGreatDoorPb32
import Derived.Lib.SmallJoins
set_option maxRecDepth 100000
set_option maxHeartbeats 1600000
namespace Go.Proofs.YtaakmdjicocjpaaGreatDoor
theorem sz_bx2 {p : List Int} (h : Pw p) {A B C : Int} (h1 : -128 ≤ B) (h2 : B ≤ 128) (h3 : -64 ≤ C) (h4 : C ≤ 64) : Bx 128 (sz3 p A B C) := by
  rcases h with rfl | rfl
  · exact ⟨A, B, rfl, half2 B, h1, h2⟩
  · exact ⟨A, B, C, rfl, half2 B, rfl, h1, h2, by omega, by omega⟩
theorem d2_parts {p : List Int} (hp : Pw p) {n : Nat} (hn : 0 < n) (hn9 : n ≤ 9) : Dif2 p (mulsZ (mulZ (ov (p.length - 1)) (mkRat 1 n)) 1 n) := by
  have h2 : ∀ x ∈ zer p.length :: mulsZ (mulZ (ov (p.length - 1)) (mkRat 1 n)) 1 n, ∃ i : Int, x = oc3 p n i := fun x hx => by
    rcases List.mem_cons.1 hx with e | hx
    · exact ⟨0, by rw [e, oc_zer hp n]⟩
    · unfold mulsZ at hx
      obtain ⟨i, _, rfl⟩ := List.mem_map.1 hx
      exact ⟨1 + (i : Int), oc_mul hp n _⟩
  refine ⟨n, fun x hx y hy => ?_⟩
  obtain ⟨i, rfl⟩ := h2 x hx
  obtain ⟨j, rfl⟩ := h2 y hy
  rw [oc3_sub hp]
  exact .inr ⟨hn, hn9, oc_oc hp hn _⟩
theorem d2_mults {p : List Int} (hp : Pw p) (x : I3) {n : Nat} (hn9 : n ≤ 9) : Dif2 p (mulsZ (szW p.length x) 0 n) := by
  obtain ⟨A, B, C, hA, hB, hC, e⟩ := szW_eq hp x
  have h2 : ∀ y ∈ zer p.length :: mulsZ (szW p.length x) 0 n, ∃ k : Int, 0 ≤ k ∧ k ≤ 8 ∧ y = sz3 p (A * k) (B * k) (C * k) := fun y hy => by
    rcases List.mem_cons.1 hy with e | hy
    · exact ⟨0, by omega, by omega, by rw [e, sz_zer hp, Int.mul_zero, Int.mul_zero, Int.mul_zero]⟩
    · unfold mulsZ at hy
      obtain ⟨i, hi, rfl⟩ := List.mem_map.1 hy
      rw [List.mem_range] at hi
      exact ⟨0 + (i : Int), by omega, by omega, by rw [e]; exact sz_mul hp ..⟩
  refine ⟨0, fun y hy z hz => .inl ⟨rfl, ?_⟩⟩
  obtain ⟨k, k0, k1, rfl⟩ := h2 y hy
  obtain ⟨j, j0, j1, rfl⟩ := h2 z hz
  rw [sz_sub hp, ← Int.mul_sub, ← Int.mul_sub, ← Int.mul_sub]
  have hk : -8 ≤ k - j ∧ k - j ≤ 8 := by omega
  generalize k - j = t at *
  have mb : ∀ z b : Int, -b ≤ z → z ≤ b → 0 ≤ b → -(b * 8) ≤ z * t ∧ z * t ≤ b * 8 := fun z b h1 h2 h3 => by
    have h4 : z.natAbs ≤ b.natAbs := by omega
    have h5 : t.natAbs ≤ 8 := by omega
    have h6 := Nat.mul_le_mul h4 h5
    rw [← Int.natAbs_mul] at h6
    omega
  have m2 := mb B 16 hB.1 hB.2 (by omega)
  have m3 := mb C 8 hC.1 hC.2 (by omega)
  exact sz_bx2 hp (by omega) (by omega) (by omega) (by omega)
theorem d2_any {p : List Int} (hp : Pw p) (xs : Nat → I3) (n : Nat) : Dif2 p ((List.range n).map fun i => szW p.length (xs i)) := by
  have h2 : ∀ y ∈ zer p.length :: ((List.range n).map fun i => szW p.length (xs i)), ∃ A B C : Int, (-16 ≤ B ∧ B ≤ 16) ∧ (-8 ≤ C ∧ C ≤ 8) ∧ y = sz3 p A B C := fun y hy => by
    rcases List.mem_cons.1 hy with e | hy
    · exact ⟨0, 0, 0, by omega, by omega, by rw [e, sz_zer hp]⟩
    · obtain ⟨i, _, rfl⟩ := List.mem_map.1 hy
      obtain ⟨A, B, C, hA, hB, hC, e⟩ := szW_eq hp (xs i)
      exact ⟨A, B, C, hB, hC, e⟩
  refine ⟨0, fun y hy z hz => .inl ⟨rfl, ?_⟩⟩
  obtain ⟨A, B, C, hB, hC, rfl⟩ := h2 y hy
  obtain ⟨A', B', C', hB', hC', rfl⟩ := h2 z hz
  rw [sz_sub hp]
  exact sz_bx2 hp (by omega) (by omega) (by omega) (by omega)
theorem wl_d2 (a : Wl) : Dif2 a.p a.sizes := by
  unfold Wl.sizes
  split
  · exact d2_parts a.pw a.n9.1 a.n9.2
  · split
    · exact d2_mults a.pw _ a.n9.2
    · exact d2_any a.pw _ _
theorem wl_wc (a : Wl) {N : List (List Rat)} (h : Coll a.p a.sizes N) : Wc a.p N := coll_wc a.lw (wl_d2 a) h a.few
theorem maj_wc : Wc [2, 3] majorQ := by
  refine coll_wc lw_maj ?_ maj_coll (by rw [mulsZ_len]; omega)
  have hz : zer [(2 : Int), 3].length = fifth 0 := by decide +kernel
  have h2 : ∀ x ∈ zer [(2 : Int), 3].length :: mulsZ (rats [-1, 1]) (-1) 7, ∃ k : Int, -10 ≤ k ∧ k ≤ 10 ∧ x = fifth k := fun x hx => by
    rw [maj_list, hz] at hx
    simp only [List.mem_cons, List.not_mem_nil, or_false] at hx
    rcases hx with rfl | rfl | rfl | rfl | rfl | rfl | rfl | rfl
    · exact ⟨0, by omega, by omega, rfl⟩
    · exact ⟨-1, by omega, by omega, rfl⟩
    · exact ⟨0, by omega, by omega, rfl⟩
    · exact ⟨1, by omega, by omega, rfl⟩
    · exact ⟨2, by omega, by omega, rfl⟩
    · exact ⟨3, by omega, by omega, rfl⟩
    · exact ⟨4, by omega, by omega, rfl⟩
    · exact ⟨5, by omega, by omega, rfl⟩
  refine ⟨0, fun x hx y hy => ?_⟩
  obtain ⟨k, k0, k1, rfl⟩ := h2 x hx
  obtain ⟨j, j0, j1, rfl⟩ := h2 y hy
  rw [fifth_sub]
  refine .inl ⟨rfl, -(k - j), 2 * (k - j), rfl, ?_, by omega, by omega⟩
  rw [Rat.intCast_mul, show ((2 : Int) : Rat) = 2 from rfl]; grind
theorem maj_vars : (List.range 6).map (fun (d : Nat) => (cls [2, 3] majorQ ((d + 1 : Nat) : Int)).length) = [2, 2, 2, 2, 2, 2] := by decide +kernel
theorem maj_len : majorQ.length = 7 := rfl
end Go.Proofs.YtaakmdjicocjpaaGreatDoor

namespace Go.Proofs.YtaakmdjicocjpaaGreatDoor
/-- In order at the class d, decided. -/
def ordB (p : List Int) (N : List (List Rat)) (m : Int) (d : Nat) : Bool :=
  match (cls p N (d : Int))[(cls p N (d : Int)).length - 1]?, (cls p N ((d + 1 : Nat) : Int))[0]? with
  | some x, some y => decide (sgQ (sF p (subZ x y)) < m)
  | _, _ => true
theorem ord_iff {p : List Int} {N : List (List Rat)} (h : Wc p N) (m : Int) (d : Nat) : OrdOk p N m d ↔ ordB p N m d = true := by
  obtain ⟨x, y, hx, hy⟩ := h.gl d
  unfold ordB
  rw [hx, hy]
  simp only [decide_eq_true_eq]
  constructor
  · exact fun ho => ho x y ⟨hx, hy⟩
  · intro hs x' y' hg
    obtain ⟨rfl, rfl⟩ := Gl.uniq ⟨hx, hy⟩ hg
    exact hs
theorem maj_ord : (List.range 7).map (ordB [2, 3] majorQ 1) = [true, true, true, false, true, true, true] := by decide +kernel
theorem maj_vrs : vrs [2, 3] majorQ = [2, 2, 2, 2, 2, 2] := by decide +kernel
theorem maj_kd : kd [2, 3] majorQ = 2 := by decide +kernel
theorem maj_cst : Cst [2, 3] majorQ := by
  have h : ((List.range 8).all fun (u : Nat) => (List.range u).all fun (d : Nat) => (cls [2, 3] majorQ (d : Int)).all fun x => !(cls [2, 3] majorQ (u : Int)).contains x) = true := by decide +kernel
  intro d u hdu hu x hx hm
  rw [maj_len] at hu
  rw [List.all_eq_true] at h
  have h1 := h u (List.mem_range.2 (by omega))
  rw [List.all_eq_true] at h1
  have h2 := h1 d (List.mem_range.2 hdu)
  rw [List.all_eq_true] at h2
  have h3 := h2 x hx
  rw [Bool.not_eq_true', List.contains_eq_mem, decide_eq_false_iff_not] at h3
  exact h3 hm
theorem maj_at {d : Nat} {x y : List Rat} (h : OrdAt [2, 3] majorQ 1 d x y) : d = 3 := by
  have hlt := h.lt
  rw [maj_len] at hlt
  have hb : ∀ e : Nat, e < 7 → ordB [2, 3] majorQ 1 e = ([true, true, true, false, true, true, true])[e]! := fun e he => by
    rw [← maj_ord]
    rw [List.getElem!_eq_getElem?_getD, List.getElem?_map, List.getElem?_range he]
    rfl
  have hno := h.no
  rw [ord_iff maj_wc, hb d hlt] at hno
  rcases (by omega : d = 0 ∨ d = 1 ∨ d = 2 ∨ d = 3 ∨ d = 4 ∨ d = 5 ∨ d = 6) with rfl | rfl | rfl | rfl | rfl | rfl | rfl
  all_goals first | rfl | exact absurd rfl hno
theorem maj_not : ¬ ∀ d < majorQ.length, OrdOk [2, 3] majorQ 1 d := fun h => by
  have := (ord_iff maj_wc 1 3).1 (h 3 (by rw [maj_len]; omega))
  have h2 : ordB [2, 3] majorQ 1 3 = false := by
    have := congrArg (fun l : List Bool => l[3]?) maj_ord
    simpa using this
  rw [h2] at this
  cases this
end Go.Proofs.YtaakmdjicocjpaaGreatDoor

namespace Go.Proofs.YtaakmdjicocjpaaGreatDoor
open Go.RowKit Go.Lib Go.Shelf
attribute [local go_sem] Oper.semAt_some
theorem scv_cut {w : World} {v : Value} {p : List Int} {rs : List Qw} (h : ScV w v p rs) : ∃ a c b d, v = .agg #[.slice a p.length c, .slice b rs.length d] ∧ ScV w (.agg #[.slice a p.length c, .slice b rs.length d]) p rs := by
  obtain ⟨vp, vn, rfl, hp, hn⟩ := h
  obtain ⟨a, c, rfl, _, _, _⟩ := hp.parts
  obtain ⟨b, d, rfl, _, _, _⟩ := hn.1.parts
  rw [i64s_length] at *
  rw [qwc_length] at *
  exact ⟨a, c, b, d, rfl, _, _, rfl, hp, hn⟩
theorem known32_c (w : World) (he : Env w) :
    Calls Tryz.prog 15 #[] w fun e w' => e = .returned (.bool true) ∧ Ext w w' := by
  have hmj := major_c w he
  have hva := fun W v rs (hE : Ext w W) (hv : ScV W v [2, 3] rs) (hm : rs.map Qw.x = majorQ) => vars_c v [2, 3] rs W (he.ext hE) hv (by rw [hm]; exact maj_wc)
  have hki := fun W v rs (hE : Ext w W) (hv : ScV W v [2, 3] rs) (hm : rs.map Qw.x = majorQ) => kind_c v [2, 3] rs W (he.ext hE) hv (by rw [hm]; exact maj_wc)
  have hpr := fun W v rs (hE : Ext w W) (hv : ScV W v [2, 3] rs) (hm : rs.map Qw.x = majorQ) => proper_c v [2, 3] rs W (he.ext hE) hv (by rw [hm]; exact maj_wc)
  have hcs := fun W v rs (hE : Ext w W) (hv : ScV W v [2, 3] rs) (hm : rs.map Qw.x = majorQ) => constant_c v [2, 3] rs W (he.ext hE) hv (by rw [hm]; exact maj_wc)
  have Hmj := Lib.hid hmj; have Hva := Lib.hid hva; have Hki := Lib.hid hki; have Hpr := Lib.hid hpr; have Hcs := Lib.hid hcs
  clear hmj hva hki hpr hcs he
  go_enter Tryz.func15, Tryz.ntmps15
  go_wp2_with fail
  refine Hmj.out.mono ?_
  rintro e w1 ⟨v1, rs, rfl, hs1, hm, hx1⟩
  obtain ⟨a1, c1, b1, d1, rfl, hs1⟩ := scv_cut hs1
  have hrl : rs.length = 7 := by rw [← List.length_map (f := Qw.x), hm]; rfl
  rw [hrl, show ([2, 3] : List Int).length = 2 from rfl] at hs1 ⊢
  have hb := BoxT.new 32 w1 (.slice a1 2 c1) (.slice b1 7 d1)
  have hE1 := (Ext.refl w1).alloc (.cells #[.slice a1 2 c1, .slice b1 7 d1] 32)
  have hva := Hva.out _ _ rs (hx1.trans hE1) (hs1.ext hE1) hm
  have q0 := hb.c0
  have q1 := hb.c1
  have Hva1 := Lib.hid hva; have HB := Lib.hid hb; have Hs := Lib.hid (hs1.ext hE1); have Hm := Lib.hid hm; have Hx1 := Lib.hid (hx1.trans hE1)
  clear hva hb hs1 hE1 hm hx1 hrl
  go_wp2_with fail
  generalize w1.alloc (.cells #[.slice a1 2 c1, .slice b1 7 d1] 32) = W1 at *
  refine Hva1.out.mono ?_
  rintro e w2 ⟨u2, rfl, ho2, hx2⟩
  rw [Hm.out, maj_vrs] at ho2
  obtain ⟨g2, k2, rfl, hc2⟩ := own_slice ho2 (by decide)
  have h0 := hc2 0 (.int .i64 2) rfl
  have h5 := hc2 5 (.int .i64 2) rfl
  have q0 := (HB.out.ext hx2).c0
  have q1 := (HB.out.ext hx2).c1
  have hki := Hki.out w2 _ rs (Hx1.out.trans hx2) (Hs.out.ext hx2) Hm.out
  rw [Hm.out, maj_kd] at hki
  have Hki2 := Lib.hid hki; have HE2 := Lib.hid hx2; have H0 := Lib.hid h0; have H5 := Lib.hid h5
  clear hki hx2 h0 h5 hc2 ho2
  go_wp2_with fail
  refine Hki2.out.mono ?_
  rintro e w3 ⟨rfl, hx3⟩
  have HE3 := Lib.hid (HE2.out.trans hx3)
  have H23 := Lib.hid hx3
  have q0 := (HB.out.ext HE3.out).c0
  have q1 := (HB.out.ext HE3.out).c1
  have hpr := Hpr.out w3 _ rs (Hx1.out.trans HE3.out) (Hs.out.ext HE3.out) Hm.out
  have Hpr3 := Lib.hid hpr
  clear hpr hx3
  go_wp2_with fail
  refine Hpr3.out.mono ?_
  rintro e w4 ⟨⟨c4, is4, rfl, hor⟩, hx4⟩
  rw [Hm.out] at hor
  rcases hor with ⟨_, _, hok⟩ | ⟨rfl, d4, x4, y4, hat4, u1, u2, rfl, ho1, ho2⟩
  · exact absurd hok maj_not
  obtain rfl : d4 = 3 := maj_at hat4
  obtain ⟨aA, cA, rfl⟩ := own_shape ho1
  obtain ⟨aB, cB, rfl⟩ := own_shape ho2
  rw [show ((3 + 1 : Nat) : Int) = 4 from rfl, show ((3 : Nat) : Int) = 3 from rfl]
  generalize y4.length = ly at *
  generalize x4.length = lx at *
  have hb4 := Box4.new 47 w4 (.int .i64 3) (.int .i64 4) (.slice aA ly cA) (.slice aB lx cB)
  have hE4 := (Ext.refl w4).alloc (.cells #[.int .i64 3, .int .i64 4, .slice aA ly cA, .slice aB lx cB] 47)
  have HE4 := Lib.hid ((HE3.out.trans hx4).trans hE4)
  have H24 := Lib.hid ((H23.out.trans hx4).trans hE4)
  have q0 := (HB.out.ext HE4.out).c0
  have q1 := (HB.out.ext HE4.out).c1
  have hcs := Hcs.out _ _ rs (Hx1.out.trans HE4.out) (Hs.out.ext HE4.out) Hm.out
  have Hcs4 := Lib.hid hcs; have HB4 := Lib.hid hb4
  clear hcs hb4 hE4 hx4 ho1 ho2 hat4
  go_wp2_with fail
  generalize w4.alloc (.cells #[.int .i64 3, .int .i64 4, .slice aA ly cA, .slice aB lx cB] 47) = W4 at *
  refine Hcs4.out.mono ?_
  rintro e w5 ⟨⟨c5, is5, rfl, hor⟩, hx5⟩
  rw [Hm.out] at hor
  rcases hor with ⟨rfl, rfl, _⟩ | ⟨_, d5, u5, i5, x5, hat5, _⟩
  case inr => exact absurd maj_cst hat5.not
  have hE5 := (Ext.refl w5).alloc (.cells #[.int .i64 0, .int .i64 0, .slice none 0 0, .slice none 0 0] 47)
  have hx6 := hx5.trans hE5
  have r0 := (HB4.out.ext hx6).c0
  have r1 := (HB4.out.ext hx6).c1
  have s0 := hx6.cell (H24.out.cell H0.out)
  have s5 := hx6.cell (H24.out.cell H5.out)
  have Hfin := Lib.hid (Hx1.out.trans (HE4.out.trans hx6))
  clear hx6 hE5 hx5 q0 q1
  unfold csh0
  go_wp2_with fail
  go_ret
  exact ⟨rfl, Hfin.out⟩
end Go.Proofs.YtaakmdjicocjpaaGreatDoor

namespace Go.Proofs.YtaakmdjicocjpaaGreatDoor
open Go.ChangeShapes Go.WideShapes Go.ChangeAt Go.WideMaps Go.WideElems Go.RowKit
theorem bounds_u8 {n : Int} (h : (Lit.int .u8 n).wf = true) : 0 ≤ n ∧ n ≤ 255 := by
  simp [Lit.wf, IntKind.min, IntKind.max, IntKind.signed, IntKind.bits] at h
  omega
section
variable {H : Type} {enc : TypeId × Value → H} {P : Program}
theorem post_of_below {f : Func} {s : ChangeSpec} {apart fresh handsOn again : Bool} {W W' : World} {args : Array Value} {v : Value} {ds gs : List (DataW H)} {before pa pv : List MemPlace}
    (hW : DataW.Whole enc P f.params.toList s.vars apart W args.toList ds gs before)
    (hres : ∀ (b : Nat) (sp : Nat → Bool) (hd : Bool), DataW.TrodAll enc P W' b sp hd f.resultTypes.toList (v.resultList f.resultTypes.size) (s.fn H (ds ++ gs)).results [])
    (hargs : ∀ sp : Nat → Bool, (∀ p ∈ before, sp p.block = true) → DataW.TrodAll enc P W' 0 sp true f.params.toList args.toList (s.fn H (ds ++ gs)).args pa)
    (hvars : ∀ sp : Nat → Bool, (∀ p ∈ before, sp p.block = true) → DataW.TrodVars enc P W' sp s.vars (s.fn H (ds ++ gs)).vars pv)
    (hps : before = pa ++ pv) (hb : Below W.heap.size W W')
    (hok : ∀ (j : Nat) (t : TypeId) (r : Value), f.resultTypes[j]? = some t → (v.resultList f.resultTypes.size)[j]? = some r → Value.okWide P W' .any 0 t r) :
    s.post enc P f apart fresh handsOn again W args v W' := by
  have hlt : ∀ p ∈ before, p.block < W.heap.size := fun p hp => hW.lt p hp
  have hold : ∀ p ∈ before, (fun b => decide (b < W.heap.size)) p.block = true := fun p hp => by simpa using hlt p hp
  refine ⟨ds, gs, before, [], pa, pv, hW, hres _ _ _, hargs _ hold, hvars _ hold, World.keptBut_mono (fun p hp => ⟨hp, ?_⟩) (hb.frame (· ∈ before)), fun _ => ?_⟩
  · rw [hps, List.mem_append] at hp
    exact Or.inr hp
  · obtain ⟨_, _, _, _, _, hz, hn⟩ := hW
    refine ⟨hok, _, _, ([] ++ pa) ++ pv, ⟨[] ++ pa, pv, trodAll_append (hargs _ (fun _ _ => rfl)) (hres _ _ _), hvars _ (fun _ _ => rfl), rfl, ?_, ?_⟩, ?_⟩
    · intro b off hp
      have hin : MemPlace.cell b off ∈ before := by rw [hps]; simpa using hp
      rw [hb.frozen (hlt _ hin)]
      exact hz b off hin
    · intro ha
      have := hn ha
      rw [hps] at this
      simpa using this
    · intro p hp _
      rw [hps]
      simpa using hp
end
theorem ownKnob_none : ownKnob Tryz.prog.godebug = none := by kernel_rfl
theorem pow10_type : (Tryz.prog.globals[2]?).map (·.type) = some 323 := by kernel_rfl
theorem cells_u64 : Tryz.prog.cellsOf 224 = 1 := by kernel_rfl
theorem cells_pow10 : Tryz.prog.cellsOf 323 = 20 := by kernel_rfl
theorem env_of_laid {W : World} (h : laidMetH Tryz.prog [("math/bits.deBruijn32tab", Rows.laid_math_bits_deBruijn32tab), ("math/bits.deBruijn64tab", Rows.laid_math_bits_deBruijn64tab), ("internal/strconv.uint64pow10", Rows.laid_internal_strconv_uint64pow10), ("strconv.ErrRange", Rows.laid_strconv_ErrRange), ("strconv.ErrSyntax", Rows.laid_strconv_ErrSyntax)] W) : Env W := by
  rw [MakeChecks.laidMetH_plain _ _ _ (by kernel_rfl)] at h
  exact Lib.tabIs_of_head (k := .u64) (zs := Lib.pow10Tab) globalAt pow10_type Tryz.underlying323 Tryz.underlying224 cells_u64 cells_pow10 h.tail.tail
/-- The cells that the rows list. -/
def rowLaid : List (String × DataW Unit) := [("math/bits.deBruijn32tab", Rows.laid_math_bits_deBruijn32tab), ("math/bits.deBruijn64tab", Rows.laid_math_bits_deBruijn64tab), ("internal/strconv.uint64pow10", Rows.laid_internal_strconv_uint64pow10), ("strconv.ErrRange", Rows.laid_strconv_ErrRange), ("strconv.ErrSyntax", Rows.laid_strconv_ErrSyntax)]
theorem rows_shaped (os : Os) (args : Array Value) : ((World.laidAll Tryz.prog os rowLaid).forCall (fun _ _ => 0) ⟨#[], args, []⟩).Shaped Tryz.prog := World.shaped_of_ZipB (by kernel_rfl) (by kernel_rfl)
theorem rows_met (os : Os) (args : Array Value) : laidMetH Tryz.prog rowLaid ((World.laidAll Tryz.prog os rowLaid).forCall (fun _ _ => 0) ⟨#[], args, []⟩).memory := by
  rw [MakeChecks.laidMetH_plain _ _ _ (by kernel_rfl)]; exact laidMet_laidAll _ (by kernel_rfl) (by kernel_rfl)
theorem laidOut_yes : laidOutB Tryz.prog = true := by kernel_rfl
section
variable {H : Type} {enc : TypeId × Value → H} {W W' : World} {sp : Nat → Bool}
theorem trodAll_stays : ∀ {ts : List TypeId} {vs : List Value} {ds : List (DataW H)} {ps : List MemPlace}, (∀ t ∈ ts, Tryz.prog.readableRec t = true ∧ t < Tryz.prog.types.size) →
    DataW.TrodAll enc Tryz.prog W 0 (fun _ => true) true ts vs ds ps → (∀ x ∈ ps, W.sameAt W' x) → (∀ x ∈ ps, sp x.block = true) → DataW.TrodAll enc Tryz.prog W' 0 sp true ts vs ds ps
  | [], _, _, _, _, h, _, _ => by
    obtain ⟨rfl, rfl, rfl⟩ := trodAll_nil h
    exact trodAll_mk0
  | t :: ts, vs, ds, ps, hts, h, hs, hp => by
    obtain ⟨v, vs', d, ds', p, p', rfl, rfl, rfl, h1, h2⟩ := trodAll_cons h
    obtain ⟨hr, hw⟩ := hts t (List.mem_cons_self ..)
    exact trodAll_cons_mk (WideElems.Trod_stays laidOut_yes hr hw h1 (fun x hx => hs x (List.mem_append_left _ hx)) (fun x hx => hp x (List.mem_append_left _ hx)))
      (trodAll_stays (fun t ht => hts t (List.mem_cons_of_mem _ ht)) h2 (fun x hx => hs x (List.mem_append_right _ hx)) (fun x hx => hp x (List.mem_append_right _ hx)))
end
/-- A law that returned true, and laid new blocks alone. -/
theorem law_post {H : Type} {enc : TypeId × Value → H} {f : Func} {s : ChangeSpec} {W W' : World} {args : Array Value} {ds : List (DataW H)} {before : List MemPlace} (hv : s.vars = []) (hts : ∀ t ∈ f.params.toList, Tryz.prog.readableRec t = true ∧ t < Tryz.prog.types.size)
    (hres : f.resultTypes = #[4]) (hfn : s.fn H ds = { results := [.lit (.bool true)], args := ds })
    (hW : DataW.Whole enc Tryz.prog f.params.toList s.vars false W args.toList ds [] before) (hb : Below W.heap.size W W') : s.post enc Tryz.prog f false true false false W args (.bool true) W' := by
  have hW' := hW
  obtain ⟨p, q, hA0, hV, rfl, _, _⟩ := hW
  rw [hv] at hV
  obtain ⟨_, rfl⟩ := trodVars_none hV
  have hlt : ∀ x ∈ p ++ [], x.block < W.heap.size := fun x hx => hW'.lt x hx
  refine post_of_below (pa := p) (pv := []) hW' (fun _ _ _ => ?_) (fun sp hsp => ?_) (fun _ _ => ?_) rfl hb ?_
  · rw [List.append_nil, hfn, hres]
    exact trodAll_mk1 (shut_bool Tryz.underlying4 _)
  · rw [List.append_nil, hfn]
    exact trodAll_stays hts hA0 (fun x hx => hb.same (hlt x (List.mem_append_left _ hx))) (fun x hx => hsp x (List.mem_append_left _ hx))
  · rw [List.append_nil, hfn, hv]; rfl
  · exact ok_one hres rfl (okWide_bool_mk Tryz.underlying4 _)
end Go.Proofs.YtaakmdjicocjpaaGreatDoor

namespace Go.Proofs.YtaakmdjicocjpaaGreatDoor
open Go.ChangeShapes Go.WideShapes Go.ChangeAt Go.WideMaps Go.WideElems Go.RowKit
theorem cellsB : Tryz.prog.cellsOf 4 = 1 := by kernel_rfl
theorem cellsU : Tryz.prog.cellsOf 5 = 1 := by kernel_rfl
theorem cellsI8 : Tryz.prog.cellsOf 22 = 1 := by kernel_rfl
theorem cells3 : Tryz.prog.cellsOf 23 = 3 := by kernel_rfl
theorem cells24 : Tryz.prog.cellsOf 24 = 24 := by kernel_rfl
theorem cells27w : Tryz.prog.cellsOf 26 = 27 := by kernel_rfl
section
variable {H : Type} {enc : TypeId × Value → H} {w : World} {base : Nat} {spare : Nat → Bool} {held : Bool}
theorem open_i3 {fuel : Nat} {c0 c1 c2 : Value} {x : DataW H × List MemPlace} (h : DataW.trod enc Tryz.prog w base spare held fuel 23 [c0, c1, c2] = some x) :
    ∃ z : I3, c0 = .int .i8 z.a ∧ c1 = .int .i8 z.b ∧ c2 = .int .i8 z.c ∧ z.ok := by
  obtain ⟨y0, y1, y2, n, rfl, h0, h1, h2⟩ := trod_array3 Tryz.underlying23 cellsI8 h
  obtain ⟨a, ha, rfl, wa⟩ := DataW.trod_int Tryz.underlying22 h0
  obtain ⟨b, hb, rfl, wb⟩ := DataW.trod_int Tryz.underlying22 h1
  obtain ⟨c, hc, rfl, wc⟩ := DataW.trod_int Tryz.underlying22 h2
  simp only [List.cons.injEq, and_true] at ha hb hc
  have ba := bounds_i8 wa; have bb := bounds_i8 wb; have bc := bounds_i8 wc
  refine ⟨⟨a, b, c⟩, ha, hb, hc, fun i => ?_⟩
  match i with
  | 0 => exact ba
  | 1 => exact bb
  | _ + 2 => exact bc
theorem wf_u8 {n : Int} (h : (Lit.int .u8 n).wf = true) : ∃ k : Nat, n = k ∧ k < 256 := by
  have := bounds_u8 h
  exact ⟨n.toNat, by omega, by omega⟩
/-- Eight triples by their index. -/
def xsOf (z0 z1 z2 z3 z4 z5 z6 z7 : I3) : Nat → I3
  | 0 => z0
  | 1 => z1
  | 2 => z2
  | 3 => z3
  | 4 => z4
  | 5 => z5
  | 6 => z6
  | 7 => z7
  | _ => ⟨0, 0, 0⟩
theorem open_world {r : Reach} {b0 : Nat} {v : Value} {d : DataW H} {p : List MemPlace} (hv : Value.okWide Tryz.prog w r b0 26 v) (h : DataW.Trod enc Tryz.prog w base spare held 26 v d p) :
    ∃ a : Wl, v = a.v ∧ a.Ok := by
  obtain ⟨cs, rfl, hsz⟩ := okWide_struct Tryz.underlying26 hv
  rw [cells27w] at hsz
  obtain ⟨l⟩ := cs
  match l, hsz with
  | [c0, c1, c2, c3, c4, c5, c6, c7, c8, c9, c10, c11, c12, c13, c14, c15, c16, c17, c18, c19, c20, c21, c22, c23, c24, c25, c26], _ =>
    obtain ⟨fuel, hf⟩ := h
    obtain ⟨y0, y1, y2, y3, k, hx, _, h0, h1, h2, h3⟩ := Go.Joins.trod_struct4 Tryz.underlying26 hf
    simp only [Value.cells, cellsB, cellsU, cells24, List.drop_zero, List.take_succ_cons, List.take_zero, List.drop_succ_cons] at h0 h1 h2 h3
    obtain ⟨b, hb, rfl⟩ := DataW.trod_bool Tryz.underlying4 h0
    obtain ⟨n, hn, rfl, wn⟩ := DataW.trod_int Tryz.underlying5 h1
    obtain ⟨m, hm, rfl, wm⟩ := DataW.trod_int Tryz.underlying5 h2
    simp only [List.cons.injEq, and_true] at hb hn hm
    obtain ⟨n', rfl, n1⟩ := wf_u8 wn
    obtain ⟨m', rfl, m1⟩ := wf_u8 wm
    obtain ⟨xs, j, _, _, _, hxl, hg⟩ := DataW.trod_array Tryz.underlying24 h3
    obtain ⟨q0, hq0⟩ : ∃ q, xs[0]? = some q := ⟨_, List.getElem?_eq_getElem (by omega)⟩
    have g0 := hg 0 (by omega)
    rw [hq0, cells3] at g0
    simp only [Nat.reduceMul, List.drop_zero, List.take_succ_cons, List.take_zero] at g0
    obtain ⟨z0, e0a, e0b, e0c, o0⟩ := open_i3 g0
    obtain ⟨q1, hq1⟩ : ∃ q, xs[1]? = some q := ⟨_, List.getElem?_eq_getElem (by omega)⟩
    have g1 := hg 1 (by omega)
    rw [hq1, cells3] at g1
    simp only [Nat.reduceMul, List.drop_zero, List.take_succ_cons, List.take_zero, List.drop_succ_cons] at g1
    obtain ⟨z1, e1a, e1b, e1c, o1⟩ := open_i3 g1
    obtain ⟨q2, hq2⟩ : ∃ q, xs[2]? = some q := ⟨_, List.getElem?_eq_getElem (by omega)⟩
    have g2 := hg 2 (by omega)
    rw [hq2, cells3] at g2
    simp only [Nat.reduceMul, List.drop_zero, List.take_succ_cons, List.take_zero, List.drop_succ_cons] at g2
    obtain ⟨z2, e2a, e2b, e2c, o2⟩ := open_i3 g2
    obtain ⟨q3, hq3⟩ : ∃ q, xs[3]? = some q := ⟨_, List.getElem?_eq_getElem (by omega)⟩
    have g3 := hg 3 (by omega)
    rw [hq3, cells3] at g3
    simp only [Nat.reduceMul, List.drop_zero, List.take_succ_cons, List.take_zero, List.drop_succ_cons] at g3
    obtain ⟨z3, e3a, e3b, e3c, o3⟩ := open_i3 g3
    obtain ⟨q4, hq4⟩ : ∃ q, xs[4]? = some q := ⟨_, List.getElem?_eq_getElem (by omega)⟩
    have g4 := hg 4 (by omega)
    rw [hq4, cells3] at g4
    simp only [Nat.reduceMul, List.drop_zero, List.take_succ_cons, List.take_zero, List.drop_succ_cons] at g4
    obtain ⟨z4, e4a, e4b, e4c, o4⟩ := open_i3 g4
    obtain ⟨q5, hq5⟩ : ∃ q, xs[5]? = some q := ⟨_, List.getElem?_eq_getElem (by omega)⟩
    have g5 := hg 5 (by omega)
    rw [hq5, cells3] at g5
    simp only [Nat.reduceMul, List.drop_zero, List.take_succ_cons, List.take_zero, List.drop_succ_cons] at g5
    obtain ⟨z5, e5a, e5b, e5c, o5⟩ := open_i3 g5
    obtain ⟨q6, hq6⟩ : ∃ q, xs[6]? = some q := ⟨_, List.getElem?_eq_getElem (by omega)⟩
    have g6 := hg 6 (by omega)
    rw [hq6, cells3] at g6
    simp only [Nat.reduceMul, List.drop_zero, List.take_succ_cons, List.take_zero, List.drop_succ_cons] at g6
    obtain ⟨z6, e6a, e6b, e6c, o6⟩ := open_i3 g6
    obtain ⟨q7, hq7⟩ : ∃ q, xs[7]? = some q := ⟨_, List.getElem?_eq_getElem (by omega)⟩
    have g7 := hg 7 (by omega)
    rw [hq7, cells3] at g7
    simp only [Nat.reduceMul, List.drop_zero, List.take_succ_cons, List.take_zero, List.drop_succ_cons] at g7
    obtain ⟨z7, e7a, e7b, e7c, o7⟩ := open_i3 g7
    refine ⟨⟨b, n', m', xsOf z0 z1 z2 z3 z4 z5 z6 z7⟩, ?_, n1, m1, fun i => ?_⟩
    · rw [hb, hn, hm, e0a, e0b, e0c, e1a, e1b, e1c, e2a, e2b, e2c, e3a, e3b, e3c, e4a, e4b, e4c, e5a, e5b, e5c, e6a, e6b, e6c, e7a, e7b, e7c]
      rfl
    · match i with
      | 0 => exact o0
      | 1 => exact o1
      | 2 => exact o2
      | 3 => exact o3
      | 4 => exact o4
      | 5 => exact o5
      | 6 => exact o6
      | 7 => exact o7
      | _ + 8 => exact fun k => (match k with | 0 => (by decide : -128 ≤ (0 : Int) ∧ (0 : Int) ≤ 127) | 1 => (by decide : -128 ≤ (0 : Int) ∧ (0 : Int) ≤ 127) | _ + 2 => (by decide : -128 ≤ (0 : Int) ∧ (0 : Int) ≤ 127) : -128 ≤ (⟨0, 0, 0⟩ : I3).at k ∧ (⟨0, 0, 0⟩ : I3).at k ≤ 127)
end
end Go.Proofs.YtaakmdjicocjpaaGreatDoor

namespace Go.Proofs.YtaakmdjicocjpaaGreatDoor
open Go.ChangeShapes Go.WideShapes Go.ChangeAt Go.WideMaps Go.WideElems Go.RowKit
theorem and_t {a b : Bool} (ha : a = true) (hb : b = true) : (a && b) = true := by rw [ha, hb]; rfl
theorem fct_maps : mapsRowed Tryz.prog = true := by kernel_rfl
theorem fct_stops : (Tryz.prog.stops == []) = true := by kernel_rfl
theorem fct_knobs : (Tryz.prog.stopKnobs == []) = true := by kernel_rfl
theorem fct_keys : (Rows.scaleSubsetsRow.plainKeys == Tryz.prog.plainKeys) = true := by kernel_rfl
theorem fct_heard : Tryz.prog.stopsHeard = true := by kernel_rfl
theorem fct_enter : Tryz.prog.mayEnter = true := by kernel_rfl
theorem fct_lifts : (Rows.scaleSubsetsRow.lifted == Tryz.prog.liftsFinal) = true := by kernel_rfl
theorem fct_make : (Tryz.prog.make == some Rows.scaleSubsetsRow.make) = true := by kernel_rfl
end Go.Proofs.YtaakmdjicocjpaaGreatDoor
