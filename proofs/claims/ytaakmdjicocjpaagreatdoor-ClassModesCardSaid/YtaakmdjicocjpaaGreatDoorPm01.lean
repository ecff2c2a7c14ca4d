/- Walks: the law ClassModes. -/
import Derived.Test.YtaakmdjicocjpaaGreatDoorPm00
import Derived.Test.YtaakmdjicocjpaaGreatDoorPb37
import Derived.Test.YtaakmdjicocjpaaGreatDoorPb34
import Derived.Deep.DeepCutAuto
set_option maxRecDepth 100000
set_option maxHeartbeats 4000000
namespace Go.Proofs.YtaakmdjicocjpaaGreatDoor
open Go.RowKit Go.Lib Go.Shelf
attribute [local go_sem] Oper.semAt_some
/-- Six bools in a block. -/
def Box6 (w : World) (b : Nat) (u0 u1 u2 u3 u4 u5 : Bool) : Prop := w.heap[b]? = some (.cells #[.bool u0, .bool u1, .bool u2, .bool u3, .bool u4, .bool u5] 62 (0, 0))
section
variable {w w' : World} {b : Nat} {u0 u1 u2 u3 u4 u5 : Bool}
theorem Box6.ext (h : Box6 w b u0 u1 u2 u3 u4 u5) (hx : Ext w w') : Box6 w' b u0 u1 u2 u3 u4 u5 := hx.heap h
theorem Box6.cs (h : Box6 w b u0 u1 u2 u3 u4 u5) : w.cell? ⟨b, 0, none⟩ = some (.bool u0) ∧ w.cell? ⟨b, 1, none⟩ = some (.bool u1) ∧ w.cell? ⟨b, 2, none⟩ = some (.bool u2) ∧ w.cell? ⟨b, 3, none⟩ = some (.bool u3) ∧ w.cell? ⟨b, 4, none⟩ = some (.bool u4) ∧ w.cell? ⟨b, 5, none⟩ = some (.bool u5) := by
  unfold World.cell?; dsimp only; rw [h]; exact ⟨rfl, rfl, rfl, rfl, rfl, rfl⟩
theorem Box6.fz (h : Box6 w b u0 u1 u2 u3 u4 u5) (k : Nat) : w.frozen? ⟨b, k, none⟩ = false := frozen_of_row w b k #[.bool u0, .bool u1, .bool u2, .bool u3, .bool u4, .bool u5] _ h
theorem Box6.lo (h : Box6 w b u0 u1 u2 u3 u4 u5) (x y z : Bool) : Box6 (((w.setCell ⟨b, 0, none⟩ (.bool x)).setCell ⟨b, 1, none⟩ (.bool y)).setCell ⟨b, 2, none⟩ (.bool z)) b x y z u3 u4 u5 := heap_setCell_same _ b 2 _ _ _ (heap_setCell_same _ b 1 _ _ _ (heap_setCell_same w b 0 _ _ _ h))
theorem Box6.hi (h : Box6 w b u0 u1 u2 u3 u4 u5) (x y z : Bool) : Box6 (((w.setCell ⟨b, 3, none⟩ (.bool x)).setCell ⟨b, 4, none⟩ (.bool y)).setCell ⟨b, 5, none⟩ (.bool z)) b u0 u1 u2 x y z := heap_setCell_same _ b 5 _ _ _ (heap_setCell_same _ b 4 _ _ _ (heap_setCell_same w b 3 _ _ _ h))
theorem set3_other {c k : Nat} (hne : c ≠ b) (x y z : Value) : (((w.setCell ⟨b, k, none⟩ x).setCell ⟨b, k + 1, none⟩ y).setCell ⟨b, k + 2, none⟩ z).heap[c]? = w.heap[c]? := by
  rw [heap_setCell_other _ ⟨b, k + 2, none⟩ c _ hne, heap_setCell_other _ ⟨b, k + 1, none⟩ c _ hne, heap_setCell_other _ ⟨b, k, none⟩ c _ hne]
theorem Ext.set3 {w0 : World} (h : Ext w0 w) (hb : w0.heap.size ≤ b) (k : Nat) (x y z : Value) : Ext w0 (((w.setCell ⟨b, k, none⟩ x).setCell ⟨b, k + 1, none⟩ y).setCell ⟨b, k + 2, none⟩ z) := ((h.setCell hb _).setCell hb _).setCell hb _
end
/-- A scale's parts that a call made. -/
def ScP (w : World) (B : Nat) (vp vn : Value) (p : List Int) (out : List Qw) : Prop := OwnI w B vp p ∧ w.ownsRow B 41 1 vn out.length (qwc out) ∧ ∀ r ∈ out, OwnQ w B r.u r.x
theorem ScP.asV {w : World} {B : Nat} {vp vn : Value} {p : List Int} {out : List Qw} (h : ScP w B vp vn p out) : ScV w (.agg #[vp, vn]) p out := ⟨vp, vn, rfl, sl_own h.1, sl_own h.2.1, fun r hr => (h.2.2 r hr).rd⟩
def MdCut (W : World) (p : List Int) (n : Nat) (M : List (List Rat)) (v6 v7 : Value) (wx : World) : Prop := ∃ bk a c b d out, v6 = .pointer (some ⟨bk, 0, none⟩) ∧ v7 = .int .i64 0 ∧ BoxT 32 wx bk (.slice a p.length c) (.slice b n d) ∧ ScV wx (.agg #[.slice a p.length c, .slice b n d]) p out ∧ (out : List Qw).length = n ∧ out.map Qw.x = M ∧ Ext W wx
/-- The loop over both scales: what lies behind the first ones. -/
def MdR (w6 : World) (b : Nat) (o1 o2 o3 : Bool) (cs : Array Value) (i : Nat) (wr : World) : Prop := ((i = 0 ∧ Box6 wr b false false false false false false) ∨ (i = 1 ∧ Box6 wr b o1 o2 o3 false false false) ∨ (i = 2 ∧ Box6 wr b o1 o2 o3 o1 o2 o3)) ∧ wr.heap[b + 1]? = some (.cells cs 32 (0, 0)) ∧ Ext w6 wr
theorem eq3b (u0 u1 u2 : Bool) (W : World) : (Op.equalIn 10000 61 (.agg #[.bool u0, .bool u1, .bool u2]) (.agg #[.bool u0, .bool u1, .bool u2])).run Tryz.prog W = .ok true W := by
  cases u0 <;> cases u1 <;> cases u2 <;> kernel_rfl
theorem bool_of (P : Prop) : ∃ b : Bool, b = true ↔ P := by
  classical
  exact ⟨decide P, decide_eq_true_iff⟩
theorem modes32_c (a : Wl) (b : Nat) (w : World) (he : Env w) (ha : a.Ok) (hb : b < 256) :
    Calls Tryz.prog 8 #[a.v, .int .u8 b] w fun e w' => e = .returned (.bool true) ∧ Ext w w' := by
  have hkn := fun W (hE : Ext w W) => known32_c W (he.ext hE)
  have hmk := fun W (hE : Ext w W) => lMake_c a W (he.ext hE) ha
  have hrl := wl_box a w
  have hun := Tryz.underlying26
  have hin := wl_info a
  have hE0 : Ext w (w.alloc (.cells a.cs 26)) := (Ext.refl w).alloc _
  have Hkn := Lib.hid hkn; have Hmk := Lib.hid hmk; have Hrl := Lib.hid hrl; have Hun := Lib.hid hun; have Hin := Lib.hid hin; have HE0 := Lib.hid hE0; clear hkn hmk hrl hun hin hE0
  have He := Lib.hid he; clear he ha
  have hv : a.v = .agg a.cs := rfl
  have Hv := Lib.hid hv
  rw [hv]
  clear hv
  rw [wl_cs]
  go_enter Tryz.func8, Tryz.ntmps8
  rw [← wl_cs]
  go_wp2_with fail
  refine (Hkn.out _ HE0.out).mono ?_
  rintro e w1 ⟨rfl, hx1⟩
  have hrl1 := Hrl.out w1 hx1
  have Hx1 := Lib.hid (HE0.out.trans hx1); have Hrl1 := Lib.hid hrl1
  clear hx1 hrl1
  have Hmk1 := Lib.hid (Hmk.out w1 Hx1.out)
  go_wp2_with (refine wpList_load_mid rfl 26 (.tmp 2) rfl w.heap.size 0 rfl a.cs.toList _ Hrl1.out Hun.out rfl Hin.out ?_)
  rw [← Hv.out]
  refine Hmk1.out.mono ?_
  rintro e w2 ⟨v2, rs, rfl, hs2, hc2, hx2⟩
  have hw2 := wl_wc a hc2
  obtain ⟨a2, c2, b2, d2, rfl, hs2⟩ := scv_cut hs2
  have hL : (rs.map Qw.x).length = rs.length := List.length_map ..
  have hfew := hw2.wd.few
  have hpos := hw2.wd.pos
  rw [hL] at hfew hpos
  have hlp : a.p.length ≤ 100 ∧ primesErr a.p = 0 := by rcases a.pw with e | e <;> rw [e] <;> decide
  have hb2 := BoxT.new 32 w2 (.slice a2 a.p.length c2) (.slice b2 rs.length d2)
  have hE2 := (Ext.refl w2).alloc (.cells #[.slice a2 a.p.length c2, .slice b2 rs.length d2] 32)
  have Hx2 := Lib.hid ((Hx1.out.trans hx2).trans hE2); have Hs2 := Lib.hid (hs2.ext hE2); have Hw2 := Lib.hid hw2; have Hb2 := Lib.hid hb2; have HL := Lib.hid hL; have Hlp := Lib.hid hlp
  have q0 := hb2.c0
  have q1 := hb2.c1
  clear hx2 hs2 hw2 hb2 hE2 hc2 hL hlp
  have hdm : b % rs.length < rs.length := Nat.mod_lt _ hpos
  have hr1 : ((b : Nat) : Int).tmod (rs.length : Int) = ((b % rs.length : Nat) : Int) := by rw [Int.tmod_eq_emod_of_nonneg (by omega)]; rfl
  obtain ⟨d, hdd⟩ : ∃ d, d = b % rs.length := ⟨_, rfl⟩
  rw [← hdd] at hdm hr1
  have hmd := fun W (hE : Ext (w2.alloc (.cells #[.slice a2 a.p.length c2, .slice b2 rs.length d2] 32)) W) => (scMode_c _ a.p rs (d : Int) W (He.out.ext (Hx2.out.trans hE)) (Hs2.out.ext hE) Hw2.out.wd).mono (R' := fun e w' => ∃ am cm bm dm out, e = .returned (.tuple #[.agg #[.slice am a.p.length cm, .slice bm rs.length dm], .int .i64 0]) ∧ ScP w' W.heap.size (.slice am a.p.length cm) (.slice bm rs.length dm) a.p out ∧ out.length = rs.length ∧ out.map Qw.x = md a.p (rs.map Qw.x) (d : Int) ∧ Ext W w') fun e w' ⟨u, z, h1, _, h3, h4⟩ => by
    obtain ⟨rfl, out, ⟨vp, vn, rfl, h7, h8⟩, h6⟩ := h3 (by omega) (by omega)
    have hol : out.length = rs.length := by rw [← List.length_map (f := Qw.x), h6, md_len, HL.out]
    obtain ⟨am, cm, rfl⟩ := own_shape h7
    obtain ⟨bm, dm, rfl⟩ := own_shape h8.1
    rw [hol] at h1
    exact ⟨am, cm, bm, dm, out, h1, ⟨h7, by rw [← hol]; exact h8.1, fun r hr => h8.2 r hr⟩, hol, h6, h4⟩
  have hw1 : IntKind.i64.wrap ((b : Nat) : Int) = ((b : Nat) : Int) := IntWalk.i64_in _ (by omega)
  have hw3 : IntKind.i64.wrap (d : Int) = (d : Int) := IntWalk.i64_in _ (by omega)
  have hnz : ¬ (rs.length : Int) = 0 := by omega
  have hnz2 : ¬ rs.length = 0 := by omega
  have Hmd := Lib.hid hmd; have Hdd := Lib.hid hdd; clear hmd hdd
  clear Hmk1 Hkn Hmk Hrl Hrl1 Hun Hin
  generalize hN : rs.length = n at *
  have HN := Lib.hid hN
  clear hN
  have hS : ∀ W, Ext (w2.alloc (.cells #[.slice a2 a.p.length c2, .slice b2 n d2] 32)) W → Ext (w2.alloc (.cells #[.slice a2 a.p.length c2, .slice b2 n d2] 32)) W ∧ W.cell? ⟨w2.heap.size, 0, none⟩ = some (.slice a2 a.p.length c2) ∧ W.cell? ⟨w2.heap.size, 1, none⟩ = some (.slice b2 n d2) := fun W hW => ⟨hW, (Hb2.out.ext hW).c0, (Hb2.out.ext hW).c1⟩
  have HS := Lib.hid hS
  clear hS
  go_wp2_with fail
  generalize w2.alloc (.cells #[.slice a2 a.p.length c2, .slice b2 n d2] 32) = W2 at *
  have HX2 : Hid (Ext W2 W2) := Lib.hid (Ext.refl W2)
  go_cut [6, 7] (fun v6 v7 wx => MdCut W2 a.p n (md a.p (rs.map Qw.x) (d : Int)) v6 v7 wx)
  case first =>
    obtain ⟨_, e0, e1⟩ := HS.out _ (Ext.refl W2).drew
    go_region_held3 (fun w' => Ext W2 w' ∧ w'.cell? ⟨w2.heap.size, 0, none⟩ = some (.slice a2 a.p.length c2) ∧ w'.cell? ⟨w2.heap.size, 1, none⟩ = some (.slice b2 n d2))
      (first | (with_reducible assumption) | exact HS.out _ ((Ext.refl W2).drew) | exact HS6.out | exact HS.out _ (((Ext.refl W2).drew).alloc _) | exact HS.out _ (HE6.out.alloc _) | exact HS.out _ ((HE6.out.setCell (p := ⟨W2.heap.size, 0, none⟩) (Nat.le_refl _) _).setCell (p := ⟨W2.heap.size, 1, none⟩) (Nat.le_refl _) _) | exact HS.out _ (((HE6.out.alloc _).setCell (p := ⟨V6.heap.size, 0, none⟩) HE6.out.size _).setCell (p := ⟨V6.heap.size, 1, none⟩) HE6.out.size _))
      (first
        | (go_at_call 31
           refine (Hmd.out _ (And.left (by with_reducible assumption))).mono ?_
           rintro e9 V6 ⟨a6, c6, b6, d6, o6, rfl, hp6, hl6, hm6, hx6⟩
           have hE6 : Ext W2 V6 := Ext.trans (And.left (by with_reducible assumption)) hx6
           have hp6 := hp6
           first
             | (have hbz : BoxT 32 V6 W2.heap.size (.slice none 0 0) (.slice none 0 0) := (BoxT.new 32 W2.drew (.slice none 0 0) (.slice none 0 0)).ext hx6
                have k0 := hbz.c0
                have k1 := hbz.c1
                have z0 := hbz.fz 0
                have z1 := hbz.fz 1
                have Hbz := Lib.hid hbz
                clear hbz)
             | (have hbz := BoxT.new 32 V6 (.slice none 0 0) (.slice none 0 0)
                have k0 := hbz.c0
                have k1 := hbz.c1
                have z0 := hbz.fz 0
                have z1 := hbz.fz 1
                have Hby := Lib.hid hbz
                clear hbz)
           have HE6 := Lib.hid hE6
           have Hp6 := Lib.hid hp6
           have Hl6 := Lib.hid hl6
           have Hm6 := Lib.hid hm6
           have HS6 := Lib.hid (HS.out V6 hE6)
           have hs60 := HS6.out.2.1
           have hs61 := HS6.out.2.2
           clear hp6 hl6 hm6 hE6 hx6))
    all_goals
      first
        | have Hfin : Hid (MdCut W2 a.p n (md a.p (rs.map Qw.x) (d : Int)) (.pointer (some ⟨W2.heap.size, 0, none⟩)) (.int .i64 0) ((V6.setCell ⟨W2.heap.size, 0, none⟩ (.slice a6 a.p.length c6)).setCell ⟨W2.heap.size, 1, none⟩ (.slice b6 n d6))) := Lib.hid ⟨W2.heap.size, a6, c6, b6, d6, o6, rfl, rfl, Hbz.out.put _ _, scv_set Hbz.out Hp6.out.1 Hp6.out.2.1 Hp6.out.2.2, Hl6.out, Hm6.out, (HE6.out.setCell (p := ⟨W2.heap.size, 0, none⟩) (Nat.le_refl _) _).setCell (p := ⟨W2.heap.size, 1, none⟩) (Nat.le_refl _) _⟩
        | have Hfin : Hid (MdCut W2 a.p n (md a.p (rs.map Qw.x) (d : Int)) (.pointer (some ⟨V6.heap.size, 0, none⟩)) (.int .i64 0) (V6.alloc (.cells #[.slice a6 a.p.length c6, .slice b6 n d6] 32))) := Lib.hid ⟨V6.heap.size, a6, c6, b6, d6, o6, rfl, rfl, BoxT.new 32 V6 _ _, Hp6.out.asV.ext ((Ext.refl V6).alloc _), Hl6.out, Hm6.out, HE6.out.alloc _⟩
      go_wp2_with fail
      go_meet
      exact Hfin.out
  case rest =>
    obtain ⟨bk, am, cm, bm, dm, om, rfl, rfl, hbm, hsm, hlm, hmm, hx3⟩ := hcut
    have hwm : Wc a.p (md a.p (rs.map Qw.x) (d : Int)) := Hw2.out.mode _
    have hpm := pro_md Hw2.out (d : Int)
    have hkm := kd_md Hw2.out (d : Int)
    have hb5 := Hb2.out.ext hx3
    have hk1 := kind_c _ a.p rs wc (He.out.ext (Hx2.out.trans hx3)) (Hs2.out.ext hx3) Hw2.out
    have hk2 := fun W (hE : Ext wc W) => kind_c _ a.p om W (He.out.ext (Hx2.out.trans (hx3.trans hE))) (hsm.ext hE) (by rw [hmm]; exact hwm)
    simp only [hmm, hkm] at hk2
    have q0 := hb5.c0
    have q1 := hb5.c1
    generalize hkk : kd a.p (rs.map Qw.x) = kk at *
    have Hkk := Lib.hid hkk
    have Hk1 := Lib.hid hk1; have Hk2 := Lib.hid hk2; have Hbm := Lib.hid hbm; have Hsm := Lib.hid hsm; have Hlm := Lib.hid hlm; have Hmm := Lib.hid hmm; have H3 := Lib.hid hx3; have Hb5 := Lib.hid hb5; have Hwm := Lib.hid hwm; have Hpm := Lib.hid hpm
    clear hkk hk1 hk2 hbm hsm hlm hmm hx3 hb5 hwm hpm hkm hr1 hnz hnz2
    go_wp2_with fail
    refine Hk1.out.mono ?_
    rintro e w5 ⟨rfl, hx5⟩
    have q0 := (Hbm.out.ext hx5).c0
    have q1 := (Hbm.out.ext hx5).c1
    have Hk25 := Lib.hid (Hk2.out w5 hx5); have H5 := Lib.hid hx5
    clear hx5
    go_wp2_with fail
    refine Hk25.out.mono ?_
    rintro e w6 ⟨rfl, hx6⟩
    have H6 := Lib.hid (H5.out.trans hx6)
    clear hx6
    have hEa : Ext w6 ((w6.alloc (.cells #[.bool false, .bool false, .bool false, .bool false, .bool false, .bool false] 62)).alloc (.cells #[.slice a2 a.p.length c2, .slice b2 n d2, .slice am a.p.length cm, .slice bm n dm] 32)) := ((Ext.refl w6).alloc _).alloc _
    have hE0 : Ext w6 (w6.alloc (.cells #[.bool false, .bool false, .bool false, .bool false, .bool false, .bool false] 62)) := (Ext.refl w6).alloc _
    have r0 := (Hb5.out.ext (H6.out.trans hE0)).c0
    have r1 := (Hb5.out.ext (H6.out.trans hE0)).c1
    have q0 := (Hbm.out.ext (H6.out.trans hE0)).c0
    have q1 := (Hbm.out.ext (H6.out.trans hE0)).c1
    have hbx0 : Box6 ((w6.alloc (.cells #[.bool false, .bool false, .bool false, .bool false, .bool false, .bool false] 62)).alloc (.cells #[.slice a2 a.p.length c2, .slice b2 n d2, .slice am a.p.length cm, .slice bm n dm] 32)) w6.heap.size false false false false false false := ((Ext.refl _).alloc _).heap (World.alloc_heap_new w6 _)
    have hH0 : ((w6.alloc (.cells #[.bool false, .bool false, .bool false, .bool false, .bool false, .bool false] 62)).alloc (.cells #[.slice a2 a.p.length c2, .slice b2 n d2, .slice am a.p.length cm, .slice bm n dm] 32)).heap[w6.heap.size + 1]? = some (.cells #[.slice a2 a.p.length c2, .slice b2 n d2, .slice am a.p.length cm, .slice bm n dm] 32 (0, 0)) := by
      have := World.alloc_heap_new (w6.alloc (.cells #[.bool false, .bool false, .bool false, .bool false, .bool false, .bool false] 62)) (.cells #[.slice a2 a.p.length c2, .slice b2 n d2, .slice am a.p.length cm, .slice bm n dm] 32)
      rw [World.size_alloc] at this
      exact this
    obtain ⟨o1, ho1⟩ := bool_of (Cst a.p (rs.map Qw.x))
    obtain ⟨o2, ho2⟩ := bool_of (Pro a.p (rs.map Qw.x))
    obtain ⟨o3, ho3⟩ := bool_of (Str a.p (rs.map Qw.x))
    have ho : o3 = (o1 && o2) := by
      rw [Bool.eq_iff_iff, Bool.and_eq_true, ho1, ho2, ho3]
      exact Hw2.out.str_iff
    have hev : kk = 1 → o3 = true := fun hk => by
      rw [ho3]
      rw [← Hkk.out, kd_eq] at hk
      have hl : (cls a.p (rs.map Qw.x) 1).length = 1 := by
        by_cases h : (cls a.p (rs.map Qw.x) 1).length = 1
        · exact h
        · rw [if_neg h] at hk
          split at hk <;> omega
      obtain ⟨s, hs⟩ : ∃ s, cls a.p (rs.map Qw.x) 1 = [s] := List.length_eq_one_iff.1 hl
      exact Hw2.out.even hs
    have hsc : ∀ i : Nat, i < 2 → ∃ av cv bv dv out, (∀ W : World, W.heap[w6.heap.size + 1]? = some (.cells #[.slice a2 a.p.length c2, .slice b2 n d2, .slice am a.p.length cm, .slice bm n dm] 32 (0, 0)) → W.cell? ⟨w6.heap.size + 1, i * 2, none⟩ = some (.slice av a.p.length cv) ∧ W.cell? ⟨w6.heap.size + 1, i * 2 + 1, none⟩ = some (.slice bv n dv)) ∧ out.length = n ∧ ScV w6 (.agg #[.slice av a.p.length cv, .slice bv n dv]) a.p out ∧ Wc a.p (out.map Qw.x) ∧ (o1 = true ↔ Cst a.p (out.map Qw.x)) ∧ (o2 = true ↔ Pro a.p (out.map Qw.x)) ∧ (o3 = true ↔ Str a.p (out.map Qw.x)) := fun i hi => by
      rcases (by omega : i = 0 ∨ i = 1) with rfl | rfl
      · exact ⟨a2, c2, b2, d2, rs, fun W hW => by unfold World.cell?; dsimp only; rw [hW]; exact ⟨rfl, rfl⟩, HN.out, Hs2.out.ext (H3.out.trans H6.out), Hw2.out, ho1, ho2, ho3⟩
      · refine ⟨am, cm, bm, dm, om, fun W hW => by unfold World.cell?; dsimp only; rw [hW]; exact ⟨rfl, rfl⟩, Hlm.out, Hsm.out.ext H6.out, ?_, ?_, ?_, ?_⟩
        · rw [Hmm.out]; exact Hwm.out
        · rw [Hmm.out, ho1]; exact Hpm.out.2.2.symm
        · rw [Hmm.out, ho2]; exact Hpm.out.1.symm
        · rw [Hmm.out, ho3]; exact Hpm.out.2.1.symm
    have Hsc := Lib.hid hsc; have Hev := Lib.hid hev; have Ho := Lib.hid ho; have Hbx0 := Lib.hid hbx0; have HH0 := Lib.hid hH0; have HEa := Lib.hid hEa
    clear hsc hev ho hbx0 hH0 hEa hE0 ho1 ho2 ho3
    go_wp2_with fail
    go_loopw [68] (fun v68 wr => ∃ i : Nat, v68 = .int .i64 (i : Int) ∧ i ≤ 2 ∧ Hid (MdR w6 w6.heap.size o1 o2 o3 #[.slice a2 a.p.length c2, .slice b2 n d2, .slice am a.p.length cm, .slice bm n dm] i wr)) (fun v68 _ => 3 - (intOf v68).toNat)
    case atStart => exact ⟨0, rfl, by omega, Lib.hid ⟨.inl ⟨rfl, Hbx0.out⟩, HH0.out, HEa.out⟩⟩
    case round =>
      obtain ⟨i, rfl, hi, HR⟩ := hrel
      obtain ⟨hbx, hH, hE⟩ := HR.out
      rcases (by omega : i = 0 ∨ i = 1 ∨ i = 2) with rfl | rfl | rfl
      · clear HR
        have hbx : Box6 wr w6.heap.size false false false false false false := by
          rcases hbx with ⟨_, h⟩ | ⟨h, _⟩ | ⟨h, _⟩
          · exact h
          · cases h
          · cases h
        obtain ⟨av, cv, bv, dv, out, hcc, hlo, hsc, hwc, hi1, hi2, hi3⟩ := Hsc.out 0 (by omega)
        have hc0 := (hcc wr hH).1
        have hc1 := (hcc wr hH).2
        have hEb := (Ext.refl wr).alloc (.cells #[.slice av a.p.length cv, .slice bv n dv] 32)
        have hbb := BoxT.new 32 wr (.slice av a.p.length cv) (.slice bv n dv)
        have hs1 := hsc.ext (hE.trans hEb)
        have hen := He.out.ext (Hx2.out.trans (H3.out.trans (H6.out.trans (hE.trans hEb))))
        have hcs := constant_c _ a.p out _ hen hs1 hwc
        have hpr := fun W (hE2 : Ext (wr.alloc (.cells #[.slice av a.p.length cv, .slice bv n dv] 32)) W) => proper_c _ a.p out W (hen.ext hE2) (hs1.ext hE2) hwc
        have hst := fun W (hE2 : Ext (wr.alloc (.cells #[.slice av a.p.length cv, .slice bv n dv] 32)) W) => strict_c _ a.p out W (hen.ext hE2) (hs1.ext hE2) hwc
        have s0 := hbb.c0
        have s1 := hbb.c1
        have Hcs := Lib.hid hcs; have Hpr := Lib.hid hpr; have Hst := Lib.hid hst; have Hbb := Lib.hid hbb; have Hwc := Lib.hid hwc; have Hi1 := Lib.hid hi1; have Hi2 := Lib.hid hi2; have Hi3 := Lib.hid hi3; have Hbx := Lib.hid hbx; have HH := Lib.hid hH; have HE := Lib.hid (hE.trans hEb); have HEb := Lib.hid hEb
        clear hcs hpr hst hbb hwc hi1 hi2 hi3 hbx hH hE hEb hs1 hen hsc hcc hlo
        go_wp2_with fail
        generalize wr.alloc (.cells #[.slice av a.p.length cv, .slice bv n dv] 32) = wd at *
        refine Hcs.out.mono ?_
        rintro e w7 ⟨⟨v7, is7, rfl, h7⟩, hx7⟩
        have e7 : is7 = o1 := Bool.eq_iff_iff.2 ((CstR.is h7).trans Hi1.out.symm)
        obtain ⟨i1, i2, a3, n3, c3, a4, n4, c4, rfl⟩ := CstR.shape h7
        have hE7 := hx7.trans ((Ext.refl w7).alloc (.cells #[.int .i64 i1, .int .i64 i2, .slice a3 n3 c3, .slice a4 n4 c4] 47))
        have s0 := (Hbb.out.ext hE7).c0
        have s1 := (Hbb.out.ext hE7).c1
        have hpr7 := Hpr.out _ hE7
        have Hpr7 := Lib.hid hpr7; have HE7 := Lib.hid hE7; have He7 := Lib.hid e7
        clear hpr7 hE7 e7 h7 hx7 hc0 hc1
        go_wp2_with fail
        generalize w7.alloc (.cells #[.int .i64 i1, .int .i64 i2, .slice a3 n3 c3, .slice a4 n4 c4] 47) = we at *
        refine Hpr7.out.mono ?_
        rintro e w8 ⟨⟨v8, is8, rfl, h8⟩, hx8⟩
        have e8 : is8 = o2 := Bool.eq_iff_iff.2 ((OrdR.is h8).trans (Hwc.out.pro_iff.symm.trans Hi2.out.symm))
        obtain ⟨j1, j2, a5, n5, c5, a6, n6, c6, rfl⟩ := OrdR.shape h8
        have hE8 := HE7.out.trans (hx8.trans ((Ext.refl w8).alloc (.cells #[.int .i64 j1, .int .i64 j2, .slice a5 n5 c5, .slice a6 n6 c6] 47)))
        have s0 := (Hbb.out.ext hE8).c0
        have s1 := (Hbb.out.ext hE8).c1
        have hst8 := Hst.out _ hE8
        have Hst8 := Lib.hid hst8; have HE8 := Lib.hid hE8; have He8 := Lib.hid e8
        clear hst8 hE8 e8 h8 hx8
        go_wp2_with fail
        generalize w8.alloc (.cells #[.int .i64 j1, .int .i64 j2, .slice a5 n5 c5, .slice a6 n6 c6] 47) = wf at *
        refine Hst8.out.mono ?_
        rintro e wg ⟨⟨v9, is9, rfl, h9⟩, hx9⟩
        have e9 : is9 = o3 := Bool.eq_iff_iff.2 ((OrdR.is h9).trans (Hwc.out.str_iff2.symm.trans Hi3.out.symm))
        obtain ⟨l1, l2, a7, n7, c7, a8, n8, c8, rfl⟩ := OrdR.shape h9
        obtain rfl := He7.out
        obtain rfl := He8.out
        obtain rfl := e9
        have hE9 := HE8.out.trans (hx9.trans ((Ext.refl wg).alloc (.cells #[.int .i64 l1, .int .i64 l2, .slice a7 n7 c7, .slice a8 n8 c8] 47)))
        have HE9 := Lib.hid hE9
        clear h9 hx9 hE9 s0 s1
        have hb9 := Hbx.out.ext (HEb.out.trans HE9.out)
        obtain ⟨y0, y1, y2, y3, y4, y5⟩ := hb9.cs
        have z0 := hb9.fz 0; have z1 := hb9.fz 1; have z2 := hb9.fz 2; have z3 := hb9.fz 3; have z4 := hb9.fz 4; have z5 := hb9.fz 5
        have Hfin : Hid (MdR w6 w6.heap.size is7 is8 is9 #[.slice a2 a.p.length c2, .slice b2 n d2, .slice am a.p.length cm, .slice bm n dm] 1 ((((wg.alloc (.cells #[.int .i64 l1, .int .i64 l2, .slice a7 n7 c7, .slice a8 n8 c8] 47)).setCell ⟨w6.heap.size, 0, none⟩ (.bool is7)).setCell ⟨w6.heap.size, 1, none⟩ (.bool is8)).setCell ⟨w6.heap.size, 2, none⟩ (.bool is9))) := Lib.hid ⟨Or.inr (Or.inl ⟨rfl, hb9.lo is7 is8 is9⟩), (set3_other (k := 0) (by omega) _ _ _).trans ((HEb.out.trans HE9.out).heap HH.out), Ext.set3 (HE.out.trans HE9.out) (Nat.le_refl _) 0 _ _ _⟩
        have hof := Ho.out
        clear hb9 Hcs Hpr Hst
        rcases is7 with _ | _ <;> rcases is8 with _ | _ <;> simp only [Bool.and_true, Bool.and_false] at hof <;> subst hof
        all_goals
          go_wp2_with fail
          go_roundw
          case rel => exact ⟨1, by go_num, by omega, Hfin⟩
          case measure => simp [intOf]
      · clear HR
        have hbx : Box6 wr w6.heap.size o1 o2 o3 false false false := by
          rcases hbx with ⟨h, _⟩ | ⟨_, h⟩ | ⟨h, _⟩
          · cases h
          · exact h
          · cases h
        obtain ⟨av, cv, bv, dv, out, hcc, hlo, hsc, hwc, hi1, hi2, hi3⟩ := Hsc.out 1 (by omega)
        have hc0 := (hcc wr hH).1
        have hc1 := (hcc wr hH).2
        have hEb := (Ext.refl wr).alloc (.cells #[.slice av a.p.length cv, .slice bv n dv] 32)
        have hbb := BoxT.new 32 wr (.slice av a.p.length cv) (.slice bv n dv)
        have hs1 := hsc.ext (hE.trans hEb)
        have hen := He.out.ext (Hx2.out.trans (H3.out.trans (H6.out.trans (hE.trans hEb))))
        have hcs := constant_c _ a.p out _ hen hs1 hwc
        have hpr := fun W (hE2 : Ext (wr.alloc (.cells #[.slice av a.p.length cv, .slice bv n dv] 32)) W) => proper_c _ a.p out W (hen.ext hE2) (hs1.ext hE2) hwc
        have hst := fun W (hE2 : Ext (wr.alloc (.cells #[.slice av a.p.length cv, .slice bv n dv] 32)) W) => strict_c _ a.p out W (hen.ext hE2) (hs1.ext hE2) hwc
        have s0 := hbb.c0
        have s1 := hbb.c1
        have Hcs := Lib.hid hcs; have Hpr := Lib.hid hpr; have Hst := Lib.hid hst; have Hbb := Lib.hid hbb; have Hwc := Lib.hid hwc; have Hi1 := Lib.hid hi1; have Hi2 := Lib.hid hi2; have Hi3 := Lib.hid hi3; have Hbx := Lib.hid hbx; have HH := Lib.hid hH; have HE := Lib.hid (hE.trans hEb); have HEb := Lib.hid hEb
        clear hcs hpr hst hbb hwc hi1 hi2 hi3 hbx hH hE hEb hs1 hen hsc hcc hlo
        go_wp2_with fail
        generalize wr.alloc (.cells #[.slice av a.p.length cv, .slice bv n dv] 32) = wd at *
        refine Hcs.out.mono ?_
        rintro e w7 ⟨⟨v7, is7, rfl, h7⟩, hx7⟩
        have e7 : is7 = o1 := Bool.eq_iff_iff.2 ((CstR.is h7).trans Hi1.out.symm)
        obtain ⟨i1, i2, a3, n3, c3, a4, n4, c4, rfl⟩ := CstR.shape h7
        have hE7 := hx7.trans ((Ext.refl w7).alloc (.cells #[.int .i64 i1, .int .i64 i2, .slice a3 n3 c3, .slice a4 n4 c4] 47))
        have s0 := (Hbb.out.ext hE7).c0
        have s1 := (Hbb.out.ext hE7).c1
        have hpr7 := Hpr.out _ hE7
        have Hpr7 := Lib.hid hpr7; have HE7 := Lib.hid hE7; have He7 := Lib.hid e7
        clear hpr7 hE7 e7 h7 hx7 hc0 hc1
        go_wp2_with fail
        generalize w7.alloc (.cells #[.int .i64 i1, .int .i64 i2, .slice a3 n3 c3, .slice a4 n4 c4] 47) = we at *
        refine Hpr7.out.mono ?_
        rintro e w8 ⟨⟨v8, is8, rfl, h8⟩, hx8⟩
        have e8 : is8 = o2 := Bool.eq_iff_iff.2 ((OrdR.is h8).trans (Hwc.out.pro_iff.symm.trans Hi2.out.symm))
        obtain ⟨j1, j2, a5, n5, c5, a6, n6, c6, rfl⟩ := OrdR.shape h8
        have hE8 := HE7.out.trans (hx8.trans ((Ext.refl w8).alloc (.cells #[.int .i64 j1, .int .i64 j2, .slice a5 n5 c5, .slice a6 n6 c6] 47)))
        have s0 := (Hbb.out.ext hE8).c0
        have s1 := (Hbb.out.ext hE8).c1
        have hst8 := Hst.out _ hE8
        have Hst8 := Lib.hid hst8; have HE8 := Lib.hid hE8; have He8 := Lib.hid e8
        clear hst8 hE8 e8 h8 hx8
        go_wp2_with fail
        generalize w8.alloc (.cells #[.int .i64 j1, .int .i64 j2, .slice a5 n5 c5, .slice a6 n6 c6] 47) = wf at *
        refine Hst8.out.mono ?_
        rintro e wg ⟨⟨v9, is9, rfl, h9⟩, hx9⟩
        have e9 : is9 = o3 := Bool.eq_iff_iff.2 ((OrdR.is h9).trans (Hwc.out.str_iff2.symm.trans Hi3.out.symm))
        obtain ⟨l1, l2, a7, n7, c7, a8, n8, c8, rfl⟩ := OrdR.shape h9
        obtain rfl := He7.out
        obtain rfl := He8.out
        obtain rfl := e9
        have hE9 := HE8.out.trans (hx9.trans ((Ext.refl wg).alloc (.cells #[.int .i64 l1, .int .i64 l2, .slice a7 n7 c7, .slice a8 n8 c8] 47)))
        have HE9 := Lib.hid hE9
        clear h9 hx9 hE9 s0 s1
        have hb9 := Hbx.out.ext (HEb.out.trans HE9.out)
        obtain ⟨y0, y1, y2, y3, y4, y5⟩ := hb9.cs
        have z0 := hb9.fz 0; have z1 := hb9.fz 1; have z2 := hb9.fz 2; have z3 := hb9.fz 3; have z4 := hb9.fz 4; have z5 := hb9.fz 5
        have Hfin : Hid (MdR w6 w6.heap.size is7 is8 is9 #[.slice a2 a.p.length c2, .slice b2 n d2, .slice am a.p.length cm, .slice bm n dm] 2 ((((wg.alloc (.cells #[.int .i64 l1, .int .i64 l2, .slice a7 n7 c7, .slice a8 n8 c8] 47)).setCell ⟨w6.heap.size, 3, none⟩ (.bool is7)).setCell ⟨w6.heap.size, 4, none⟩ (.bool is8)).setCell ⟨w6.heap.size, 5, none⟩ (.bool is9))) := Lib.hid ⟨Or.inr (Or.inr ⟨rfl, hb9.hi is7 is8 is9⟩), (set3_other (k := 3) (by omega) _ _ _).trans ((HEb.out.trans HE9.out).heap HH.out), Ext.set3 (HE.out.trans HE9.out) (Nat.le_refl _) 3 _ _ _⟩
        have hof := Ho.out
        clear hb9 Hcs Hpr Hst
        rcases is7 with _ | _ <;> rcases is8 with _ | _ <;> simp only [Bool.and_true, Bool.and_false] at hof <;> subst hof
        all_goals
          go_wp2_with fail
          go_roundw
          case rel => exact ⟨2, by go_num, by omega, Hfin⟩
          case measure => simp [intOf]
      · have hbx : Box6 wr w6.heap.size o1 o2 o3 o1 o2 o3 := by
          rcases hbx with ⟨h, _⟩ | ⟨h, _⟩ | ⟨_, h⟩
          · cases h
          · cases h
          · exact h
        obtain ⟨y0, y1, y2, y3, y4, y5⟩ := hbx.cs
        have hof := Ho.out
        have hev := Hev.out
        have Hend := Lib.hid (Hx2.out.trans (H3.out.trans (H6.out.trans hE)))
        have heq3 := eq3b o1 o2 o3
        clear HR hE hH hbx Hsc Hbx0
        rcases o1 with _ | _ <;> rcases o2 with _ | _ <;> simp only [Bool.and_true, Bool.and_false] at hof <;> subst hof
        all_goals
          by_cases hk1 : kk = 1
          · first
              | exact absurd (hev hk1) (by decide)
              | (subst hk1
                 clear hev
                 go_wp2_with fail
                 go_ret
                 exact ⟨rfl, Hend.out⟩)
          · clear hev
            go_wp2_with fail
            go_ret
            exact ⟨rfl, Hend.out⟩
end Go.Proofs.YtaakmdjicocjpaaGreatDoor
