/- Walks: the law ScaleTurns. -/
import Derived.Test.YtaakmdjicocjpaaGreatDoorPbV
import Derived.Test.YtaakmdjicocjpaaGreatDoorPbW
import Derived.Test.YtaakmdjicocjpaaGreatDoorPcH
import Derived.Test.YtaakmdjicocjpaaGreatDoorPbN
import Derived.Test.YtaakmdjicocjpaaGreatDoorPbJ
import Derived.Deep.DeepCutAuto
namespace Go.Proofs.YtaakmdjicocjpaaGreatDoor
open Go.RowKit Go.Lib Go.Shelf

attribute [local go_sem] Oper.semAt_some

/-- Behind a call that returned a scale: it lies in a box of its own. -/
def ScCut (W : World) (p : List Int) (M : List (List Rat)) (v16 v17 : Value) (wx : World) : Prop := ∃ bk a c b d out, v16 = .pointer (some ⟨bk, 0, none⟩) ∧ v17 = .int .i64 0 ∧ BoxT 32 wx bk (.slice a p.length c) (.slice b (out : List Qw).length d) ∧ ScV wx (.agg #[.slice a p.length c, .slice b out.length d]) p out ∧ out.map Qw.x = M ∧ Ext W wx

set_option maxRecDepth 100000 in
set_option maxHeartbeats 4000000 in
theorem turns_c (a : Wl) (x y : Nat) (w : World) (he : Env w) (ha : a.Ok) (hx : x < 256) (hy : y < 256) :
    Calls Tryz.prog 14 #[a.v, .int .u8 x, .int .u8 y] w fun e w' => e = .returned (.bool true) ∧ Ext w w' := by
  have hkn := fun W (hE : Ext w W) => known31_c W (he.ext hE)
  have hmk := fun W (hE : Ext w W) => lMake_c a W (he.ext hE) ha
  have hrl := wl_box a w
  have hun := Tryz.underlying26
  have hin := wl_info a
  have hE0 : Ext w (w.alloc (.cells a.cs 26)) := (Ext.refl w).alloc _
  have Hkn := Lib.hid hkn; have Hmk := Lib.hid hmk; have Hrl := Lib.hid hrl; have Hun := Lib.hid hun; have Hin := Lib.hid hin; have HE0 := Lib.hid hE0; have He := Lib.hid he
  clear hkn hmk hrl hun hin hE0 he ha
  have hv : a.v = .agg a.cs := rfl
  have Hv := Lib.hid hv
  rw [hv]
  clear hv
  have hcs2 : Wl.cs a = #[.bool a.three, .int .u8 a.kind, .int .u8 a.num, .int .i8 (a.xs 0).a, .int .i8 (a.xs 0).b, .int .i8 (a.xs 0).c, .int .i8 (a.xs 1).a, .int .i8 (a.xs 1).b, .int .i8 (a.xs 1).c, .int .i8 (a.xs 2).a, .int .i8 (a.xs 2).b, .int .i8 (a.xs 2).c, .int .i8 (a.xs 3).a, .int .i8 (a.xs 3).b, .int .i8 (a.xs 3).c, .int .i8 (a.xs 4).a, .int .i8 (a.xs 4).b, .int .i8 (a.xs 4).c, .int .i8 (a.xs 5).a, .int .i8 (a.xs 5).b, .int .i8 (a.xs 5).c, .int .i8 (a.xs 6).a, .int .i8 (a.xs 6).b, .int .i8 (a.xs 6).c, .int .i8 (a.xs 7).a, .int .i8 (a.xs 7).b, .int .i8 (a.xs 7).c] := rfl
  rw [hcs2]
  go_enter Tryz.func14, Tryz.ntmps14
  rw [← hcs2]
  go_wp2_with fail
  refine (Hkn.out _ HE0.out).mono ?_
  rintro e w1 ⟨rfl, hx1⟩
  have hrl1 := Hrl.out w1 hx1
  have hmk1 := Hmk.out w1 (HE0.out.trans hx1)
  have Hx1 := Lib.hid (HE0.out.trans hx1); have Hrl1 := Lib.hid hrl1; have Hmk1 := Lib.hid hmk1
  clear hx1 hrl1 hmk1
  go_wp2_with (refine wpList_load_mid rfl 26 (.tmp 3) rfl w.heap.size 0 rfl a.cs.toList _ Hrl1.out Hun.out rfl Hin.out ?_)
  rw [← hcs2, ← Hv.out]
  refine Hmk1.out.mono ?_
  rintro e w2 ⟨v2, rs, rfl, hs2, hc2, hx2⟩
  have hw2 := wl_wd a hc2
  have hnine := wl_nine a hc2
  have hpos := hw2.pos
  rw [List.length_map] at hnine hpos
  have hlp : a.p.length = 2 ∨ a.p.length = 3 := by rcases a.pw with e | e <;> rw [e] <;> simp
  obtain ⟨a2, c2, b2, d2, rfl, hs2⟩ := scv_let hs2
  have hb2 := BoxT.new 32 w2 (.slice a2 a.p.length c2) (.slice b2 rs.length d2)
  have hE2 := (Ext.refl w2).alloc (.cells #[.slice a2 a.p.length c2, .slice b2 rs.length d2] 32)
  have Hx2 := Lib.hid ((Hx1.out.trans hx2).trans hE2); have Hs2 := Lib.hid (hs2.ext hE2); have Hw2 := Lib.hid hw2; have Hb2 := Lib.hid hb2
  clear hx2 hs2 hw2 hE2 hc2 hcs2
  generalize hN : rs.length = N at *
  have q1 := hb2.c1
  have q0 := hb2.c0
  have hr1 : ((x : Nat) : Int).tmod (N : Int) = ((x % N : Nat) : Int) := by rw [Int.tmod_eq_emod_of_nonneg (by omega)]; rfl
  have hr2 : ((y : Nat) : Int).tmod (N : Int) = ((y % N : Nat) : Int) := by rw [Int.tmod_eq_emod_of_nonneg (by omega)]; rfl
  have hm1 := Nat.mod_lt x hpos
  have hm2 := Nat.mod_lt y hpos
  have hnz : ¬ (N : Int) = 0 := by omega
  have hw1 : IntKind.i64.wrap (x : Int) = (x : Int) := IntWalk.i64_in _ (by omega)
  have hw3 : IntKind.i64.wrap (y : Int) = (y : Int) := IntWalk.i64_in _ (by omega)
  have hw4 : IntKind.i64.wrap ((x % N : Nat) : Int) = ((x % N : Nat) : Int) := IntWalk.i64_in _ (by omega)
  have hw5 : IntKind.i64.wrap ((y % N : Nat) : Int) = ((y % N : Nat) : Int) := IntWalk.i64_in _ (by omega)
  have HN := Lib.hid hN
  clear hN hb2
  go_wp2_with fail
  go_quiet (fail)
  obtain ⟨m, hm, hmN⟩ : ∃ m : Nat, ((x : Nat) : Int) % (N : Int) = m ∧ m < N := ⟨x % N, rfl, hm1⟩
  obtain ⟨n, hn, hnN⟩ : ∃ n : Nat, ((y : Nat) : Int) % (N : Int) = n ∧ n < N := ⟨y % N, rfl, hm2⟩
  rw [hm, hn]
  clear hm hn hm1 hm2 hr1 hr2 hw1 hw3 hw4 hw5
  generalize hV : (w2.alloc (.cells #[.slice a2 a.p.length c2, .slice b2 N d2] 32)).drewN nq = V at *
  have hEV : Ext (w2.alloc (.cells #[.slice a2 a.p.length c2, .slice b2 N d2] 32)) V := by rw [← hV]; exact (Ext.refl _).drewN _
  have hb3 := Hb2.out.ext hEV
  have q0 := hb3.c0
  have q1 := hb3.c1
  have hmo := scMode_c _ a.p rs (m : Int) V (He.out.ext (Hx2.out.trans hEV)) (Hs2.out.ext hEV) Hw2.out
  rw [HN.out] at hmo
  have Hx3 := Lib.hid (Hx2.out.trans hEV); have Hs3 := Lib.hid (Hs2.out.ext hEV); have Hb3 := Lib.hid hb3; have Hmo := Lib.hid hmo
  clear hb3 hmo hV hEV
  go_wp2_with fail
  refine Hmo.out.mono ?_
  rintro e w4 ⟨u4, z4, rfl, _, hok, hx4⟩
  obtain ⟨rfl, o4, ho4, hm4⟩ := hok (by omega) (by omega)
  have hl4 : o4.length = N := by have := congrArg List.length hm4; rw [List.length_map, md_len, List.length_map, HN.out] at this; exact this
  obtain ⟨a4, c4, b4, d4, rfl, hs4⟩ := scv_let ho4.scV
  rw [hl4] at hs4 ⊢
  have hb4 := BoxT.new 32 w4 (.slice a4 a.p.length c4) (.slice b4 N d4)
  have hE4 := (Ext.refl w4).alloc (.cells #[.slice a4 a.p.length c4, .slice b4 N d4] 32)
  have hx4' := Hx3.out.trans (hx4.trans hE4)
  have hmo := scMode_c _ a.p o4 (n : Int) _ (He.out.ext hx4') (hs4.ext hE4) (by rw [hm4]; exact Hw2.out.mode m)
  rw [hl4, hm4, Hw2.out.md_md] at hmo
  have k0 := hb4.c0
  have k1 := hb4.c1
  have Hx4 := Lib.hid hx4'; have H34 := Lib.hid (hx4.trans hE4); have Hmo4 := Lib.hid hmo
  clear hok ho4 hm4 hl4 hs4 hb4 hE4 hx4' hmo hx4 q0 q1
  go_wp2_with fail
  refine Hmo4.out.mono ?_
  rintro e w5 ⟨u5, z5, rfl, _, hok, hx5⟩
  obtain ⟨rfl, o5, ho5, hm5⟩ := hok (by omega) (by omega)
  have hl5 : o5.length = N := by have := congrArg List.length hm5; rw [List.length_map, md_len, List.length_map, HN.out] at this; exact this
  obtain ⟨a5, c5, b5, d5, rfl, hs5⟩ := scv_let ho5.scV
  rw [hl5] at hs5 ⊢
  have hb5 := BoxT.new 32 w5 (.slice a5 a.p.length c5) (.slice b5 N d5)
  have hE5 := (Ext.refl w5).alloc (.cells #[.slice a5 a.p.length c5, .slice b5 N d5] 32)
  have Hx5 := Lib.hid (Hx4.out.trans (hx5.trans hE5)); have H35 := Lib.hid (H34.out.trans (hx5.trans hE5)); have Hb5 := Lib.hid hb5; have Hs5 := Lib.hid (hs5.ext hE5); have Hm5 := Lib.hid hm5; have Hl5 := Lib.hid hl5
  clear hok ho5 hm5 hl5 hs5 hb5 hE5 hx5 k0 k1
  obtain ⟨k, hk, hkN⟩ : ∃ k : Nat, ((m : Int) + (n : Int)) % (N : Int) = k ∧ k < N := ⟨(m + n) % N, by rw [← Int.natCast_add]; rfl, Nat.mod_lt _ (by omega)⟩
  have hr3 : ((m : Int) + (n : Int)).tmod (N : Int) = (k : Int) := by rw [Int.tmod_eq_emod_of_nonneg (by omega), hk]
  have hw6 : IntKind.i64.wrap ((m : Int) + (n : Int)) = (m : Int) + (n : Int) := IntWalk.i64_in _ (by omega)
  have hw7 : IntKind.i64.wrap (k : Int) = (k : Int) := IntWalk.i64_in _ (by omega)
  have hr4 : ((m : Int) + (n : Int)) % (N : Int) = (k : Int) := hk
  have hmn0 : (0 : Int) ≤ (m : Int) + (n : Int) := by omega
  have hnzN : ¬ N = 0 := by omega
  have hmk3 : md a.p (rs.map Qw.x) (k : Int) = md a.p (rs.map Qw.x) ((m : Int) + (n : Int)) := by
    have := Hw2.out.md_rem ((m : Int) + (n : Int))
    rw [List.length_map, HN.out, hk] at this
    exact this
  obtain ⟨W5, hW5⟩ : ∃ W5, W5 = w5.alloc (.cells #[.slice a5 a.p.length c5, .slice b5 N d5] 32) := ⟨_, rfl⟩
  have hmo3 := fun W (hE : Ext W5 W) => scMode_c _ a.p rs (k : Int) W (He.out.ext (Hx5.out.trans (hW5 ▸ hE))) (Hs3.out.ext (H35.out.trans (hW5 ▸ hE))) Hw2.out
  rw [HN.out, hmk3] at hmo3
  have hSQ : ∀ W, Ext W5 W → Ext W5 W ∧ W.cell? ⟨w2.heap.size, 0, none⟩ = some (.slice a2 a.p.length c2) ∧ W.cell? ⟨w2.heap.size, 1, none⟩ = some (.slice b2 N d2) := fun W hE => ⟨hE, (Hb3.out.ext (H35.out.trans (hW5 ▸ hE))).c0, (Hb3.out.ext (H35.out.trans (hW5 ▸ hE))).c1⟩
  have Hmo3 := Lib.hid hmo3; have HSQ := Lib.hid hSQ; have HmkE := Lib.hid hmk3
  clear hmo3 hSQ hmk3
  go_upto_region 8 with (fail)
  rw [← hW5]
  rw [← hW5] at Hx5 H35 Hb5 Hs5
  clear hW5 hk
  go_cut [15, 16] (fun v15 v16 wx => ScCut W5 a.p (md a.p (rs.map Qw.x) ((m : Int) + (n : Int))) v15 v16 wx)
  case first =>
    have hS0 := HSQ.out _ (Ext.refl W5).drew
    go_region_held3 (fun w' => Ext W5 w' ∧ w'.cell? ⟨w2.heap.size, 0, none⟩ = some (.slice a2 a.p.length c2) ∧ w'.cell? ⟨w2.heap.size, 1, none⟩ = some (.slice b2 N d2))
      (first | (with_reducible assumption) | exact HSQ.out _ ((Ext.refl W5).drew) | exact HSQ.out _ (((Ext.refl W5).drew).alloc _) | exact HSQ.out _ (HE6.out.alloc _) | exact HSQ.out _ ((HE6.out.setCell (p := ⟨W5.heap.size, 0, none⟩) (Nat.le_refl _) _).setCell (p := ⟨W5.heap.size, 1, none⟩) (Nat.le_refl _) _) | exact HSQ.out _ (((HE6.out.alloc _).setCell (p := ⟨V6.heap.size, 0, none⟩) HE6.out.size _).setCell (p := ⟨V6.heap.size, 1, none⟩) HE6.out.size _))
      (first
        | (go_at_call 31
           refine (Hmo3.out _ (And.left (by with_reducible assumption))).mono ?_
           rintro e9 V6 ⟨u6, z6, rfl, _, hok, hx6⟩
           obtain ⟨rfl, o6, ho6, hm6⟩ := hok (by omega) (by omega)
           have hl6 : o6.length = N := by
             have := congrArg List.length hm6
             rw [List.length_map, md_len, List.length_map, HN.out] at this
             exact this
           obtain ⟨vp6, vn6, rfl, hp6, hn6⟩ := ho6
           obtain ⟨a6, c6, rfl⟩ := own_shape hp6
           obtain ⟨b6, d6, rfl⟩ := own_shape hn6.1
           have hs6 : ScV V6 (.agg #[.slice a6 a.p.length c6, .slice b6 o6.length d6]) a.p o6 := ⟨_, _, rfl, sl_own hp6, hn6.rd⟩
           have hE6 : Ext W5 V6 := Ext.trans (And.left (by with_reducible assumption)) hx6
           have hS6 := HSQ.out V6 hE6
           first
             | (have hbz : BoxT 32 V6 W5.heap.size (.slice none 0 0) (.slice none 0 0) := (BoxT.new 32 W5.drew (.slice none 0 0) (.slice none 0 0)).ext hx6
                have k0 := hbz.c0
                have k1 := hbz.c1
                have z0 := hbz.fz 0
                have z1 := hbz.fz 1
                have Hbz := Lib.hid hbz
                clear hbz)
             | (have hbz := BoxT.new 32 V6 (.slice none 0 0) (.slice none 0 0)
                have k0 := hbz.c0
                have k1 := hbz.c1
                have z0 := hbz.fz 0
                have z1 := hbz.fz 1
                have Hby := Lib.hid hbz
                clear hbz)
           have HE6 := Lib.hid hE6
           have Hs6 := Lib.hid hs6
           have Hm6 := Lib.hid hm6
           have Hl6 := Lib.hid hl6
           have Hp6 := Lib.hid hp6
           have Hn6 := Lib.hid hn6
           clear hok hp6 hn6 hm6 hl6 hs6 hE6 hx6))
    all_goals
      first
        | have Hfin : Hid (ScCut W5 a.p (md a.p (rs.map Qw.x) ((m : Int) + (n : Int))) (.pointer (some ⟨W5.heap.size, 0, none⟩)) (.int .i64 0) ((V6.setCell ⟨W5.heap.size, 0, none⟩ (.slice a6 a.p.length c6)).setCell ⟨W5.heap.size, 1, none⟩ (.slice b6 o6.length d6))) := Lib.hid ⟨W5.heap.size, a6, c6, b6, d6, o6, rfl, rfl, Hbz.out.put _ _, scv_set Hbz.out Hp6.out Hn6.out.1 Hn6.out.2, Hm6.out, (HE6.out.setCell (p := ⟨W5.heap.size, 0, none⟩) (Nat.le_refl _) _).setCell (p := ⟨W5.heap.size, 1, none⟩) (Nat.le_refl _) _⟩
        | have Hfin : Hid (ScCut W5 a.p (md a.p (rs.map Qw.x) ((m : Int) + (n : Int))) (.pointer (some ⟨V6.heap.size, 0, none⟩)) (.int .i64 0) (V6.alloc (.cells #[.slice a6 a.p.length c6, .slice b6 o6.length d6] 32))) := Lib.hid ⟨V6.heap.size, a6, c6, b6, d6, o6, rfl, rfl, BoxT.new 32 V6 _ _, Hs6.out.ext ((Ext.refl V6).alloc _), Hm6.out, HE6.out.alloc _⟩
      go_wp2_with fail
      go_meet
      exact Hfin.out
  case rest =>
    obtain ⟨bk6, a6, c6, b6, d6, o6, rfl, rfl, hb6, hs6, hm6, hx6⟩ := hcut
    have H36 := Lib.hid (H35.out.trans hx6); have Hx6 := Lib.hid (Hx5.out.trans hx6); have Hb6 := Lib.hid hb6; have Hs6 := Lib.hid hs6; have Hm6 := Lib.hid hm6; have H56 := Lib.hid hx6
    clear hb6 hs6 hm6 hx6 hr3 hr4 hw6 hw7 hmn0
    have q0 := (Hb3.out.ext H36.out).c0
    have q1 := (Hb3.out.ext H36.out).c1
    have hp0 := (pr_one a.pw.pr).2
    have hst := steps_c _ a.p rs wc (He.out.ext Hx6.out) (Hs3.out.ext H36.out) Hw2.out.right hp0 (Wd.step_ft Hw2.out)
    have Hst := Lib.hid hst; have Hp0 := Lib.hid hp0
    clear hst hp0
    go_wp2_with fail
    refine Hst.out.mono ?_
    rintro e w7 ⟨u7, rfl, ⟨out7, hq7, hm7, hl7, hx7⟩⟩
    obtain ⟨a7, c7, rfl⟩ := own_shape hq7.1
    rw [hl7, HN.out]
    rw [HN.out] at hl7 hm7
    have H37 := Lib.hid (H36.out.trans hx7); have Hx7 := Lib.hid (Hx6.out.trans hx7); have H67 := Lib.hid hx7; have Hq7 := Lib.hid hq7; have Hm7 := Lib.hid hm7; have Hl7 := Lib.hid hl7
    clear hq7 hm7 hl7 hx7 q0 q1
    have hre : w7 = w7 := rfl
    clear hre
    obtain ⟨j, hj⟩ : ∃ j : Nat, N = j + 1 := ⟨N - 1, by omega⟩
    have hwj : IntKind.i64.wrap ((N : Int) - 1) = (j : Int) := by rw [show (N : Int) - 1 = (j : Int) by omega]; exact IntWalk.i64_in _ (by omega)
    have hwj2 : IntKind.i64.wrap (j : Int) = (j : Int) := IntWalk.i64_in _ (by omega)
    have hj0 : (0 : Int) ≤ (j : Int) := by omega
    have hj1 : (j : Int) < (N : Int) := by omega
    have hnd : ∀ i, i < N → ∃ r, rs[i]? = some r ∧ r.x = zat a.p (rs.map Qw.x) (i + 1) ∧ r.x.length = a.p.length := fun i hi => by
      obtain ⟨r, hr⟩ : ∃ r, rs[i]? = some r := ⟨_, List.getElem?_eq_getElem (by rw [HN.out]; exact hi)⟩
      refine ⟨r, hr, ?_, Hw2.out.len _ (List.mem_map_of_mem (List.mem_of_getElem? hr))⟩
      unfold zat
      rw [List.getElem?_cons_succ, List.getElem?_map, hr]
      rfl
    obtain ⟨r, hr, hrx, hrl⟩ := hnd j (by omega)
    obtain ⟨r0, hr0, hr0x, hr0l⟩ := hnd 0 (by omega)
    rw [← hj] at hrx
    have hzl := Hw2.out.zlast
    rw [List.length_map, HN.out] at hzl
    rw [hzl] at hrx
    have hcell : ∃ bb oo, b2 = some ⟨bb, oo, none⟩ ∧ V.cell? ⟨bb, oo + j, none⟩ = some r.u ∧ V.cell? ⟨bb, oo, none⟩ = some r0.u ∧ Rd V r.u r.x ∧ Rd V r0.u r0.x ∧ Sl V (.slice a2 a.p.length c2) (i64s a.p) ∧ RdM V (.slice b2 N d2) rs := by
      obtain ⟨vp, vn, e, hp, hn, hmr⟩ := Hs3.out
      simp only [Value.agg.injEq, Array.mk.injEq, List.cons.injEq, and_true] at e
      obtain ⟨rfl, rfl⟩ := e
      obtain ⟨a', c', e1, _, _, hcc⟩ := hn.parts
      have e2 := e1
      injection e2 with e3 _ _
      obtain ⟨bb, oo, e4, hc⟩ := hcc j r.u (by unfold qwc; rw [List.getElem?_map, hr]; rfl)
      obtain ⟨bb', oo', e5, hc'⟩ := hcc 0 r0.u (by unfold qwc; rw [List.getElem?_map, hr0]; rfl)
      rw [e4] at e5
      cases e5
      exact ⟨bb, oo, by rw [e3, e4], hc, by rwa [Nat.add_zero] at hc', hmr r (List.mem_of_getElem? hr), hmr r0 (List.mem_of_getElem? hr0), hp, hn, hmr⟩
    obtain ⟨bb, oo, rfl, hcj, hc0, hrd, hrd0, hpl, hrm⟩ := hcell
    obtain ⟨ra, rc, hru, hrd⟩ := rd_let hrd hrl
    obtain ⟨ra0, rc0, hru0, hrd0⟩ := rd_let hrd0 hr0l
    rw [hru] at hcj
    rw [hru0] at hc0
    have hSQ7 : ∀ W, Ext w7 W → Ext w7 W ∧ W.cell? ⟨w2.heap.size, 0, none⟩ = some (.slice a2 a.p.length c2) ∧ W.cell? ⟨w2.heap.size, 1, none⟩ = some (.slice (some ⟨bb, oo, none⟩) N d2) ∧ W.cell? ⟨bb, oo + j, none⟩ = some (.slice ra a.p.length rc) ∧ W.cell? ⟨bb, oo, none⟩ = some (.slice ra0 a.p.length rc0) := fun W hE => ⟨hE, (Hb3.out.ext (H37.out.trans hE)).c0, (Hb3.out.ext (H37.out.trans hE)).c1, (H37.out.trans hE).cell hcj, (H37.out.trans hE).cell hc0⟩
    rw [hrx] at hrd
    have hof := fun W (hE : Ext w7 W) => scOf_c _ _ _ a.p 1 rs W (He.out.ext (Hx7.out.trans hE)) ((H37.out.trans hE).sl hpl) ((H37.out.trans hE).rd hrd) ((H37.out.trans hE).rdM hrm) Hw2.out.lw (by rw [HN.out]; exact hnine)
    have hown := Hw2.out.own_coll
    have HSQ7 := Lib.hid hSQ7; have Hof := Lib.hid hof; have Hown := Lib.hid hown; have Hrd := Lib.hid hrd; have Hrd0 := Lib.hid hrd0; have Hpl := Lib.hid hpl; have Hrm := Lib.hid hrm; have Hnd := Lib.hid hnd; have Hzl := Lib.hid hzl; have Hr0x := Lib.hid hr0x; have Hj := Lib.hid hj
    clear hSQ7 hof hown hrd hrd0 hpl hrm hnd hzl hr0x hcj hc0 hrl hr0l hr hr0 hru hru0 hrx hj
    go_upto_region 10 with (fail)
    go_cut [19, 20] (fun v19 v20 wx => ScCut w7 a.p (rs.map Qw.x) v19 v20 wx)
    case first =>
      have hS0 := HSQ7.out _ (Ext.refl w7).drew
      go_region_held3 (fun w' => Ext w7 w' ∧ w'.cell? ⟨w2.heap.size, 0, none⟩ = some (.slice a2 a.p.length c2) ∧ w'.cell? ⟨w2.heap.size, 1, none⟩ = some (.slice (some ⟨bb, oo, none⟩) N d2) ∧ w'.cell? ⟨bb, oo + j, none⟩ = some (.slice ra a.p.length rc) ∧ w'.cell? ⟨bb, oo, none⟩ = some (.slice ra0 a.p.length rc0))
        (first | (with_reducible assumption) | exact HSQ7.out _ ((Ext.refl w7).drew) | exact HSQ7.out _ (((Ext.refl w7).drew).alloc _) | exact HSQ7.out _ (HE8.out.alloc _) | exact HSQ7.out _ ((HE8.out.setCell (p := ⟨w7.heap.size, 0, none⟩) (Nat.le_refl _) _).setCell (p := ⟨w7.heap.size, 1, none⟩) (Nat.le_refl _) _) | exact HSQ7.out _ (((HE8.out.alloc _).setCell (p := ⟨V8.heap.size, 0, none⟩) HE8.out.size _).setCell (p := ⟨V8.heap.size, 1, none⟩) HE8.out.size _))
        (first
          | (go_at_call 49
             refine (Hof.out _ (And.left (by with_reducible assumption))).mono ?_
             rintro e9 V8 ⟨u8, o8, rfl, ho8, hc8, hx8⟩
             have hm8 := coll_uniq hc8 Hown.out
             obtain ⟨vp8, vn8, rfl, hp8, hn8⟩ := ho8
             obtain ⟨a8, c8, rfl⟩ := own_shape hp8
             obtain ⟨b8, d8, rfl⟩ := own_shape hn8.1
             have hs8 : ScV V8 (.agg #[.slice a8 a.p.length c8, .slice b8 o8.length d8]) a.p o8 := ⟨_, _, rfl, sl_own hp8, hn8.rd⟩
             have hE8 : Ext w7 V8 := Ext.trans (And.left (by with_reducible assumption)) hx8
             have hS8 := HSQ7.out V8 hE8
             first
               | (have hbz : BoxT 32 V8 w7.heap.size (.slice none 0 0) (.slice none 0 0) := (BoxT.new 32 w7.drew (.slice none 0 0) (.slice none 0 0)).ext hx8
                  have k0 := hbz.c0
                  have k1 := hbz.c1
                  have z0 := hbz.fz 0
                  have z1 := hbz.fz 1
                  have Hbz := Lib.hid hbz
                  clear hbz)
               | (have hbz := BoxT.new 32 V8 (.slice none 0 0) (.slice none 0 0)
                  have k0 := hbz.c0
                  have k1 := hbz.c1
                  have z0 := hbz.fz 0
                  have z1 := hbz.fz 1
                  have Hby := Lib.hid hbz
                  clear hbz)
             have HE8 := Lib.hid hE8
             have Hs8 := Lib.hid hs8
             have Hm8 := Lib.hid hm8
             have Hp8 := Lib.hid hp8
             have Hn8 := Lib.hid hn8
             clear hp8 hn8 hm8 hs8 hE8 hx8 hc8))
      all_goals
        first
          | have Hfin : Hid (ScCut w7 a.p (rs.map Qw.x) (.pointer (some ⟨w7.heap.size, 0, none⟩)) (.int .i64 0) ((V8.setCell ⟨w7.heap.size, 0, none⟩ (.slice a8 a.p.length c8)).setCell ⟨w7.heap.size, 1, none⟩ (.slice b8 o8.length d8))) := Lib.hid ⟨w7.heap.size, a8, c8, b8, d8, o8, rfl, rfl, Hbz.out.put _ _, scv_set Hbz.out Hp8.out Hn8.out.1 Hn8.out.2, Hm8.out, (HE8.out.setCell (p := ⟨w7.heap.size, 0, none⟩) (Nat.le_refl _) _).setCell (p := ⟨w7.heap.size, 1, none⟩) (Nat.le_refl _) _⟩
          | have Hfin : Hid (ScCut w7 a.p (rs.map Qw.x) (.pointer (some ⟨V8.heap.size, 0, none⟩)) (.int .i64 0) (V8.alloc (.cells #[.slice a8 a.p.length c8, .slice b8 o8.length d8] 32))) := Lib.hid ⟨V8.heap.size, a8, c8, b8, d8, o8, rfl, rfl, BoxT.new 32 V8 _ _, Hs8.out.ext ((Ext.refl V8).alloc _), Hm8.out, HE8.out.alloc _⟩
        go_wp2_with fail
        go_meet
        exact Hfin.out
    case rest =>
      obtain ⟨bk8, a8, c8, b8, d8, o8, rfl, rfl, hb8, hs8, hm8, hx8⟩ := hcut
      have H38 := Lib.hid (H37.out.trans hx8); have Hx8 := Lib.hid (Hx7.out.trans hx8); have H78 := Lib.hid hx8; have Hb8 := Lib.hid hb8; have Hs8 := Lib.hid hs8; have Hm8 := Lib.hid hm8
      clear hb8 hs8 hm8 hx8 hwj hwj2
      obtain ⟨wa, hwa⟩ : ∃ wa, wa = wc := ⟨_, rfl⟩
      subst hwa
      obtain ⟨i0, hi, hz0, hz1, hz2⟩ := info_parts info_int
      go_wp2_with fail
      go_loopw [21, 22, 85] (fun v21 v22 v85 wr => ∃ i : Nat, v85 = .int .i64 i ∧ i ≤ N ∧ Hid (wr.ownsRow wa.heap.size 3 1 v21 i (i64s (allI i))) ∧ Ext wa wr) (fun _ _ v85 _ => N - (intOf v85).toNat)
      case atStart => exact ⟨0, rfl, Nat.zero_le _, Lib.hid ⟨rfl, .inl ⟨rfl, rfl⟩⟩, Ext.refl _⟩
      case round =>
        obtain ⟨i, rfl, hiN, Hro, hEr⟩ := hrel
        obtain ⟨a21, c21, rfl⟩ := own_shape Hro.out
        by_cases hin : i < N
        · have hi0 : (0 : Int) ≤ (i : Int) := by omega
          have hi1 : (i : Int) < (N : Int) := by omega
          have hro := Hro.out
          have hm3 : i + 1 ≤ maxLen := by unfold maxLen; omega
          have hm4 : (i + 1) * 8 ≤ 140737488355328 := by omega
          have hbase := hEr.size
          have HEr := Lib.hid hEr
          clear hEr
          go_wp2_with (at_builtin; refine wpList_append_own _ rfl _ _ 28 rfl wa.heap.size 3 i0 (.int .i64 0) 1 8 Tryz.underlying28 hi hz0 hz1 hz2 rfl (by decide) _ _ _ rfl (hro.alloc _) ⟨wr.heap.size, 0, none⟩ 1 1 [.int .i64 i] rfl rfl (cell_one_new _ _ _) (by simp [Value.oneCell']) hm3 hm4 (by rw [World.size_alloc]; omega) ?_; intro v7 V7 hown7 hgrow7 _; have Hown7 := Lib.hid hown7; have hE7 := (HEr.out.alloc (.cells #[.int .i64 i] 3)).grown hgrow7 fun k hk => (World.ownsRow.lt (hro.alloc (.cells #[.int .i64 i] 3)) k hk).1; have HE7 := Lib.hid hE7; clear hE7 hown7 hgrow7)
          go_roundw
          case rel => exact ⟨i + 1, by go_num, by omega, Lib.hid (by have := Hown7.out; rwa [show i64s (allI i) ++ [.int .i64 (i : Int)] = i64s (allI (i + 1)) by unfold i64s allI; rw [List.range_succ, List.map_append, List.map_append]; rfl] at this), HE7.out⟩
          case measure => simp [intOf]; omega
        · obtain rfl : N = i := by omega
          have hsb := subset_c _ (.slice a21 N c21) a.p rs (allI N) wr (He.out.ext (Hx8.out.trans hEr)) (Hs3.out.ext (H38.out.trans hEr)) Hw2.out (sl_own Hro.out) (by rw [allI_len]; omega)
          have hsa := Hw2.out.sub_all
          rw [List.length_map, HN.out] at hsa
          rw [HN.out, subE_all hpos, hsa] at hsb
          have q0 := (Hb3.out.ext (H38.out.trans hEr)).c0
          have q1 := (Hb3.out.ext (H38.out.trans hEr)).c1
          have hp3 : a.p.length ≤ 3 := by omega
          have hsm := fun W v1 v2 rs1 rs2 (M : List (List Rat)) (h1 : ScV W v1 a.p rs1) (h2 : ScV W v2 a.p rs2) (e1 : rs1.map Qw.x = M) (e2 : rs2.map Qw.x = M) (hM : Wd a.p M) => (show Calls Tryz.prog 45 #[v1, v2] W fun e w' => e = .returned (.bool true) ∧ Ext W w' by
            have hf := hM.few
            have := lSame_c v1 v2 a.p a.p rs1 rs2 W h1 h2 (by omega) (by omega) (by rw [← e1, List.length_map] at hf; omega) (by rw [← e2, List.length_map] at hf; omega) (fun r hr => by rw [hM.len _ (by rw [← e1]; exact List.mem_map_of_mem hr)]; omega) (fun r hr => by rw [hM.len _ (by rw [← e2]; exact List.mem_map_of_mem hr)]; omega)
            rw [e1, e2, decide_eq_true rfl, decide_eq_true rfl] at this
            exact this)
          have HEr := Lib.hid hEr; have Hsb := Lib.hid hsb; have Hsm := Lib.hid hsm
          clear hEr hsb hsm hsa
          go_wp2_with fail
          refine Hsb.out.mono ?_
          rintro e w9 ⟨u9, rfl, _, hok, hx9⟩
          obtain ⟨o9, ho9, hm9⟩ := hok trivial
          obtain ⟨a9, c9, b9, d9, rfl, hs9⟩ := scv_let ho9.scV
          have hb9 := BoxT.new 32 w9 (.slice a9 a.p.length c9) (.slice b9 o9.length d9)
          have hE9 := (Ext.refl w9).alloc (.cells #[.slice a9 a.p.length c9, .slice b9 o9.length d9] 32)
          have hx89 := HEr.out.trans (hx9.trans hE9)
          have h79 := H78.out.trans hx89
          have h69 := H67.out.trans h79
          have h59 := H56.out.trans h69
          have k0 := (Hb5.out.ext h59).c0
          have k1 := (Hb5.out.ext h59).c1
          have l0 := (Hb6.out.ext h69).c0
          have l1 := (Hb6.out.ext h69).c1
          have hs1 := Hsm.out _ _ _ o5 o6 _ (Hs5.out.ext h59) (Hs6.out.ext h69) Hm5.out Hm6.out (Hw2.out.mode _)
          have H89 := Lib.hid hx89; have Hb9 := Lib.hid hb9; have Hs9 := Lib.hid (hs9.ext hE9); have Hm9 := Lib.hid hm9; have Hs1 := Lib.hid hs1
          clear hok ho9 hm9 hs9 hb9 hE9 hx89 h79 h69 h59 hs1 hx9 q0 q1
          go_wp2_with fail
          refine Hs1.out.mono ?_
          rintro e w10 ⟨rfl, hx10⟩
          have h8a := H89.out.trans hx10
          have k0 := (Hb8.out.ext h8a).c0
          have k1 := (Hb8.out.ext h8a).c1
          have q0 := (Hb3.out.ext (H38.out.trans h8a)).c0
          have q1 := (Hb3.out.ext (H38.out.trans h8a)).c1
          have hs2' := Hsm.out _ _ _ o8 rs _ (Hs8.out.ext h8a) (Hs3.out.ext (H38.out.trans h8a)) Hm8.out rfl Hw2.out
          have H8a := Lib.hid h8a; have Hs2' := Lib.hid hs2'; have Hx10 := Lib.hid hx10
          clear h8a hs2' hx10 l0 l1
          go_wp2_with fail
          refine Hs2'.out.mono ?_
          rintro e w11 ⟨rfl, hx11⟩
          have h8b := H8a.out.trans hx11
          have k0 := (Hb9.out.ext (Hx10.out.trans hx11)).c0
          have k1 := (Hb9.out.ext (Hx10.out.trans hx11)).c1
          have q0 := (Hb3.out.ext (H38.out.trans h8b)).c0
          have q1 := (Hb3.out.ext (H38.out.trans h8b)).c1
          have hs3' := Hsm.out _ _ _ o9 rs _ (Hs9.out.ext (Hx10.out.trans hx11)) (Hs3.out.ext (H38.out.trans h8b)) Hm9.out rfl Hw2.out
          have H8b := Lib.hid h8b; have Hs3' := Lib.hid hs3'
          clear h8b hs3' hx11
          go_wp2_with fail
          refine Hs3'.out.mono ?_
          rintro e w12 ⟨rfl, hx12⟩
          have H8c := Lib.hid (H8b.out.trans hx12)
          clear hx12 k0 k1 q0 q1
          have H7c := Lib.hid (H78.out.trans H8c.out)
          have hz0 := Hr0x.out
          have hS0 := HSQ7.out _ (H7c.out.drew)
          have hlz := (Hw2.out.zlen (i := 1) (by rw [List.length_map, HN.out]; omega))
          have hsn0 : ∀ q ∈ r0.x, Sn q := by
            rw [Hr0x.out]
            have := Hw2.out.nt_sn 1 (by omega) (by omega)
            rwa [show (1 : Int) = ((1 : Nat) : Int) from rfl, Hw2.out.nt_low (by rw [List.length_map, HN.out]; omega)] at this
          have hr0l : r0.x.length = a.p.length := by rw [Hr0x.out]; exact hlz
          have hle := fun W (hE : Ext w7 W) => lLess_c (.slice ra0 a.p.length rc0) (.slice ra0 a.p.length rc0) r0.x r0.x W (He.out.ext (Hx7.out.trans hE)) ((H37.out.trans hE).rd Hrd0.out) ((H37.out.trans hE).rd Hrd0.out) rfl (by rw [hr0l]; omega) hsn0 hsn0
          rw [subZ_self, hr0l] at hle
          have Hle := Lib.hid hle
          clear hle hz0 hlz hsn0 hr0l
          go_wp2_with fail
          go_region_held3 (fun w' => Ext w7 w' ∧ w'.cell? ⟨w2.heap.size, 0, none⟩ = some (.slice a2 a.p.length c2) ∧ w'.cell? ⟨w2.heap.size, 1, none⟩ = some (.slice (some ⟨bb, oo, none⟩) N d2) ∧ w'.cell? ⟨bb, oo + j, none⟩ = some (.slice ra a.p.length rc) ∧ w'.cell? ⟨bb, oo, none⟩ = some (.slice ra0 a.p.length rc0))
            (first | (with_reducible assumption) | exact HSQ7.out _ H7c.out.drew | exact HSQ7.out _ H7d.out)
            (first
              | (go_at_call 39
                 refine (Hle.out _ H7c.out.drew).mono ?_
                 rintro e9 w13 ⟨u13, rfl, ho13, hx13⟩
                 obtain ⟨az, cz, rfl, hr13⟩ := rd_let ho13.rd (zer_len _)
                 have H7d := Lib.hid (H7c.out.drew.trans hx13)
                 have Hr13 := Lib.hid hr13
                 clear ho13 hx13 hr13))
          all_goals
            have hel : ∀ i, i < N → ∃ bt ot s, a7 = some ⟨bt, ot, none⟩ ∧ w7.cell? ⟨bt, ot + i, none⟩ = some (s : Qw).u ∧ Rd w7 s.u s.x ∧ s.x = stZ a.p (rs.map Qw.x) i ∧ s.x.length = a.p.length := fun i hi => by
              obtain ⟨hsl, hrr⟩ := Hq7.out.rd
              obtain ⟨s, hs⟩ : ∃ s, out7[i]? = some s := ⟨_, List.getElem?_eq_getElem (by rw [Hl7.out]; exact hi)⟩
              obtain ⟨a', c', e1, _, _, hcc⟩ := hsl.parts
              injection e1 with e2 _ _
              obtain ⟨bt, ot, e3, hc⟩ := hcc i s.u (by unfold qwc; rw [List.getElem?_map, hs]; rfl)
              have hx : s.x = stZ a.p (rs.map Qw.x) i := by
                have h1 := congrArg (fun l => l[i]?) Hm7.out
                simp only [List.getElem?_map, hs, Option.map_some] at h1
                unfold stQs at h1
                rw [List.getElem?_map, List.getElem?_range hi] at h1
                rw [Option.some.inj h1]
                exact stQ_eq (by rw [HN.out]; exact hi)
              refine ⟨bt, ot, s, by rw [e2, e3], hc, hrr s (List.mem_of_getElem? hs), hx, ?_⟩
              rw [hx]
              unfold stZ
              rw [subZ_len (by rw [Hw2.out.zlen (by rw [List.length_map, HN.out]; omega), Hw2.out.zlen (by rw [List.length_map, HN.out]; omega)]), Hw2.out.zlen (by rw [List.length_map, HN.out]; omega)]
            have hlaw : ∀ i, i < N → Quick a.p (stZ a.p (rs.map Qw.x) i) ∧ sgnT (tms a.p (dn (stZ a.p (rs.map Qw.x) i)) (stZ a.p (rs.map Qw.x) i)) = 1 ∧ (∀ q ∈ stZ a.p (rs.map Qw.x) i, Sn q) ∧ (∀ q ∈ zat a.p (rs.map Qw.x) i, Sn q) ∧ addZ (zat a.p (rs.map Qw.x) i) (stZ a.p (rs.map Qw.x) i) = zat a.p (rs.map Qw.x) (i + 1) := fun i hi => by
              have hiL : i < (rs.map Qw.x).length := by rw [List.length_map, HN.out]; exact hi
              have hst := Hw2.out.st_nt hiL
              obtain ⟨nn, hnn⟩ := Hw2.out.dif
              have hnic := Hw2.out.nt_nic hnn ((i + 1 : Nat) : Int) (i : Int)
              rw [← hst] at hnic
              have hlen : (stZ a.p (rs.map Qw.x) i).length = a.p.length := by rw [hst, subZ_len (by rw [Hw2.out.ntlen, Hw2.out.ntlen]), Hw2.out.ntlen]
              refine ⟨by rw [hst]; exact Hw2.out.nt_sub_quick _ _ (by omega) (by omega) (by omega) (by omega), ?_, by rw [hst]; exact Hw2.out.nt_sub_sn _ _ (by omega) (by omega) (by omega) (by omega), ?_, Hw2.out.sum_step hiL⟩
              · rw [nice_sgn (by rw [hlen]; exact a.pw.pr) hnic.nice]
                have hpos' := Hw2.out.st_pos hiL
                unfold sgQ
                rw [if_neg (by grind), if_pos hpos']
              · have := Hw2.out.nt_sn (i : Int) (by omega) (by omega)
                rwa [Hw2.out.nt_low (by omega)] at this
            have hpe : primesErr a.p = 0 ∧ a.p.length ≤ 100 := by rcases a.pw with e | e <;> rw [e] <;> decide
            have hzln : ∀ i, i ≤ N → (zat a.p (rs.map Qw.x) i).length = a.p.length := fun i hi => Hw2.out.zlen (by rw [List.length_map, HN.out]; exact hi)
            have hj := Hj.out
            have hwj : IntKind.i64.wrap ((N : Int) - 1) = (j : Int) := by rw [show (N : Int) - 1 = (j : Int) by omega]; exact IntWalk.i64_in _ (by omega)
            have hwj2 : IntKind.i64.wrap (j : Int) = (j : Int) := IntWalk.i64_in _ (by omega)
            have H3d := Lib.hid (H37.out.trans H7d.out)
            have Hel := Lib.hid hel; have Hlaw := Lib.hid hlaw; have Hpe := Lib.hid hpe; have Hzln := Lib.hid hzln; have Hxd := Lib.hid (Hx7.out.trans H7d.out)
            clear hel hlaw hpe hzln hj
            obtain ⟨wb, hwb⟩ : ∃ wb, wb = w13 := ⟨_, rfl⟩
            subst hwb
            go_wp2_with fail
            go_loopw [25, 27, 150] (fun v25 v27 v150 wr => ∃ i : Nat, v150 = .int .i64 i ∧ i ≤ N ∧ (∃ sa sc, v25 = .slice sa a.p.length sc ∧ Rd wr (.slice sa a.p.length sc) (zat a.p (rs.map Qw.x) i)) ∧ Ext wb wr) (fun _ _ v150 _ => N - (intOf v150).toNat)
            case atStart => exact ⟨0, rfl, Nat.zero_le _, ⟨az, cz, rfl, Hr13.out⟩, Ext.refl _⟩
            case round =>
              obtain ⟨i, rfl, hiN, ⟨sa, sc, rfl, hrs⟩, hEr⟩ := hrel
              obtain ⟨_, q0, q1, qj, _⟩ := HSQ7.out wr (H7d.out.trans hEr)
              by_cases hin : i < N
              · obtain ⟨bt, ot, s, rfl, hct, hrd, hsx, hsl⟩ := Hel.out i hin
                obtain ⟨hq, hsg, hsn, hzn, hadd⟩ := Hlaw.out i hin
                obtain ⟨us, cs, hus, hrd⟩ := rd_let hrd hsl
                have h7r := H7d.out.trans hEr
                have hct := h7r.cell hct
                rw [hus] at hct
                have hrd := h7r.rd hrd
                rw [hsx] at hrd
                have hsgn := lSign_c (.slice a2 a.p.length c2) (.slice us a.p.length cs) a.p (stZ a.p (rs.map Qw.x) i) wr (He.out.ext (Hxd.out.trans hEr)) ((H3d.out.trans hEr).sl Hpl.out) hrd Hpe.out.1 Hpe.out.2 (by rw [← hsx]; exact hsl) hq
                rw [hsg] at hsgn
                have hi0 : (0 : Int) ≤ (i : Int) := by omega
                have hi1 : (i : Int) < (N : Int) := by omega
                have Hsgn := Lib.hid hsgn; have HEr := Lib.hid hEr; have Hrs := Lib.hid hrs; have Hrd2 := Lib.hid hrd; have Hsn := Lib.hid hsn; have Hzn := Lib.hid hzn; have Hadd := Lib.hid hadd; have Hsx := Lib.hid hsx; have Hsl := Lib.hid hsl
                clear hsgn hEr hrs hrd hsn hzn hadd hsx hsl hq hsg h7r hus q1 qj
                go_wp2_with fail
                refine Hsgn.out.mono ?_
                rintro e w14 ⟨rfl, hx14⟩
                have had := lAdd_c (.slice sa a.p.length sc) (.slice us a.p.length cs) _ _ w14 (He.out.ext (Hxd.out.trans (HEr.out.trans hx14))) (hx14.rd Hrs.out) (hx14.rd Hrd2.out) (by rw [Hzln.out i hiN, ← Hsx.out]; exact Hsl.out.symm) (by rw [Hzln.out i hiN]; omega) Hzn.out Hsn.out
                rw [Hadd.out] at had
                have Had := Lib.hid had; have HEs := Lib.hid (HEr.out.trans hx14)
                clear had hx14 hct q0
                go_wp2_with fail
                refine Had.out.mono ?_
                rintro e w15 ⟨u15, rfl, ho15, hx15⟩
                obtain ⟨su, sv, rfl, hr15⟩ := rd_let ho15.rd (Hzln.out (i + 1) (by omega))
                have HEt := Lib.hid (HEs.out.trans hx15); have Hr15 := Lib.hid hr15
                clear ho15 hx15 hr15
                go_wp2_with fail
                go_roundw
                case rel => exact ⟨i + 1, by go_num, by omega, ⟨su, sv, rfl, Hr15.out⟩, HEt.out⟩
                case measure => simp [intOf]; omega
              · obtain rfl : N = i := by omega
                rw [Hzl.out] at hrs
                have heq := sEq_c (.slice sa a.p.length sc) (.slice ra a.p.length rc) (ov (a.p.length - 1)) (ov (a.p.length - 1)) wr hrs ((H3d.out.trans hEr).rd Hrd.out) (by rw [ov_len]; omega) (by rw [ov_len]; omega)
                rw [decide_eq_true rfl] at heq
                have Heq := Lib.hid heq; have HEr := Lib.hid hEr
                clear heq hEr hrs
                go_wp2_with fail
                refine Heq.out.mono ?_
                rintro e w16 ⟨rfl, hx16⟩
                have Hx16 := Lib.hid (Hxd.out.trans (HEr.out.trans hx16))
                clear hx16
                go_wp2
                go_ret
                exact ⟨rfl, Hx16.out⟩
end Go.Proofs.YtaakmdjicocjpaaGreatDoor
