/- Walk: law 31's known. What all laws of chapter 31 begin with: a world in its box. -/
import Derived.Test.YtaakmdjicocjpaaGreatDoorPbJ
import Derived.Test.YtaakmdjicocjpaaGreatDoorPbK
import Derived.Test.YtaakmdjicocjpaaGreatDoorPaS
import Derived.Test.YtaakmdjicocjpaaGreatDoorPbI
namespace Go.Proofs.YtaakmdjicocjpaaGreatDoor
open Go.RowKit Go.Lib Go.Shelf

attribute [local go_sem] Oper.semAt_some

theorem rd_letK {w : World} {v : Value} {x : List Rat} {n : Nat} (h : Rd w v x) (hn : x.length = n) : ∃ a c, v = .slice a n c ∧ Rd w (.slice a n c) x := by
  obtain ⟨a, c, rfl, _, _, _⟩ := h.parts
  rw [hn] at *
  exact ⟨a, c, rfl, h⟩
theorem scv_let {w : World} {v : Value} {p : List Int} {rs : List Qw} (h : ScV w v p rs) : ∃ a c b d, v = .agg #[.slice a p.length c, .slice b rs.length d] ∧ ScV w (.agg #[.slice a p.length c, .slice b rs.length d]) p rs := by
  obtain ⟨vp, vn, rfl, hp, hn⟩ := h
  obtain ⟨a, c, rfl, _, _, _⟩ := hp.parts
  obtain ⟨b, d, rfl, _, _, _⟩ := hn.1.parts
  rw [i64s_length] at *
  rw [qwc_length] at *
  exact ⟨a, c, b, d, rfl, _, _, rfl, hp, hn⟩
set_option maxRecDepth 100000 in
set_option maxHeartbeats 1600000 in
theorem known31_c (w : World) (he : Env w) :
    Calls Tryz.prog 37 #[] w fun e w' => e = .returned (.bool true) ∧ Ext w w' := by
  have hwh := fun W v (l : List Int) (hE : Ext w W) (hv : Sl W v (i64s l)) (h9 : l.length ≤ 1000) (hl : ∀ z ∈ l, z.natAbs < 1000000000) => whole_c v l W (he.ext hE) hv h9 hl
  have hw2 := fun W (a b : Int) (hE : Ext w W) (ha : a.natAbs < 1000000000) (hb : b.natAbs < 1000000000) => hwh (W.alloc (.cells #[.int .i64 a, .int .i64 b] 3)) (.slice (some ⟨W.heap.size, 0, none⟩) 2 2) [a, b] (hE.alloc _) (sl_cells (us := [.int .i64 a, .int .i64 b]) (World.alloc_heap_new W _) (by unfold maxLen; simp)) (by simp) (fun z hz => by
    simp only [List.mem_cons, List.not_mem_nil, or_false] at hz
    rcases hz with rfl | rfl <;> assumption)
  have hch := fun W vp vb vg (hE : Ext w W) (hp : Sl W vp (i64s [2, 3])) (hb : Rd W vb (rats [1, 0])) (hg : Rd W vg (rats [-1, 1])) => chain_c vp vb vg [2, 3] 10 (rats [-1, 1]) (-1) 6 W (he.ext hE) hp hb hg rfl (fun q hq => (lw_maj.quick (rats [-1, 1]) (by rw [maj_list]; decide +kernel)).1 q hq) (by omega) (by omega) (by omega) (by omega) lw_maj
  have hst := fun W v rs (hE : Ext w W) (hv : ScV W v [2, 3] rs) (hx : rs.map Qw.x = majorQ) => steps_c v [2, 3] rs W (he.ext hE) hv (Wd.right (by rw [hx]; exact maj_wd)) (by decide) (Wd.step_ft (by rw [hx]; exact maj_wd))
  have hmj := fun W (hE : Ext w W) => major_c W (he.ext hE)
  have hre := fun W v rs va (hE : Ext w W) (hv : ScV W v [2, 3] rs) (hx : rs.map Qw.x = majorQ) (ha : Rd W va (rats [0, -1])) => (show Calls Tryz.prog 87 #[v, va] W fun e w' => ∃ g, e = .returned (.tuple #[.slice (some ⟨g, 0, none⟩) 2 2, .string ⟨#[45, 50]⟩, .int .i64 0]) ∧ Rd w' (.slice (some ⟨g, 0, none⟩) 2 2) (rats [2, -1]) ∧ Ext W w' from by
    have hlen : rs.length = 6 + 1 := by have := congrArg List.length hx; rw [List.length_map] at this; exact this
    obtain ⟨r, hr⟩ : ∃ r, rs[6]? = some r := ⟨_, List.getElem?_eq_getElem (by omega)⟩
    have hro : r.x = ov 1 := by
      have := congrArg (fun l => l[6]?) hx
      simp only [List.getElem?_map, hr, Option.map_some] at this
      exact (Option.some.inj this).trans (by decide +kernel)
    have hred := lw_one.red (x := rats [0, -1]) (by simp)
    obtain ⟨a, tl, e, hk⟩ := hred
    have e2 : a = ((0 : Int) : Rat) ∧ tl = [((-1 : Int) : Rat)] := by
      have : rats [0, -1] = ((0 : Int) : Rat) :: [((-1 : Int) : Rat)] := rfl
      rw [this] at e
      injection e with e3 e4
      exact ⟨e3.symm, e4.symm⟩
    obtain ⟨rfl, rfl⟩ := e2
    have := scReduce_c v va [2, 3] rs 6 r ((0 : Int) : Rat) [((-1 : Int) : Rat)] W (he.ext hE) hv (Wd.right (by rw [hx]; exact maj_wd)) hlen hr hro ha hk.pr hk.ft hk.qf hk.fk hk.fit (by rw [hk.eq]; exact hk.res)
    rw [hk.eq, show flP [2, 3] (((0 : Int) : Rat) :: [((-1 : Int) : Rat)]) = -2 from fl_known, show rst [2, 3] (((0 : Int) : Rat) :: [((-1 : Int) : Rat)]) = rats [2, -1] from rst_known] at this
    refine this.mono ?_
    rintro e w' ⟨g, rfl, ho, hx⟩
    exact ⟨g, by rw [show I (-2) = ⟨#[45, 50]⟩ from by decide +kernel]; rfl, ho.rd, hx⟩)
  have Hw2 := Lib.hid hw2; have Hch := Lib.hid hch; have Hst := Lib.hid hst; have Hmj := Lib.hid hmj; have Hre := Lib.hid hre
  clear hw2 hch hst hmj hre he
  obtain ⟨W0, hW0⟩ : ∃ W0, W0 = w.alloc (.cells #[.int .i64 2, .int .i64 3] 3) := ⟨_, rfl⟩
  have hpr : Sl W0 (.slice (some ⟨w.heap.size, 0, none⟩) 2 2) (i64s [2, 3]) := by
    rw [hW0]
    exact sl_cells (us := [.int .i64 2, .int .i64 3]) (World.alloc_heap_new w _) (by unfold maxLen; simp)
  have hx0 : Ext w W0 := by rw [hW0]; exact (Ext.refl w).alloc _
  have hsz0 : W0.heap.size = w.heap.size + 1 := by rw [hW0, World.size_alloc]
  have hc1 := Hw2.out W0 1 0 hx0 (by decide) (by decide)
  rw [hsz0] at hc1
  have Hc1 := Lib.hid hc1; have Hpr := Lib.hid hpr; have Hx0 := Lib.hid hx0
  clear hc1 hpr hx0 hsz0
  go_enter Tryz.func37, Tryz.ntmps37
  go_wp2_with fail
  rw [← hW0]
  clear hW0
  refine Hc1.out.mono ?_
  rintro e w1 ⟨u1, rfl, ho1, hx1⟩
  obtain ⟨a1, c1, rfl, _, _, _⟩ := ho1.rd.parts
  rw [show (rats [1, 0]).length = 2 from rfl] at *
  have Hx1 := Lib.hid (Hx0.out.trans (((Ext.refl W0).alloc _).trans hx1)); have Hr1 := Lib.hid ho1.rd; have Hpr := Lib.hid ((((Ext.refl W0).alloc (.cells #[.int .i64 1, .int .i64 0] 3)).trans hx1).sl Hpr.out)
  clear ho1 hx1
  go_wp2_with fail
  refine (Hw2.out w1 (-1) 1 Hx1.out (by decide) (by decide)).mono ?_
  rintro e w2 ⟨u2, rfl, ho2, hx2⟩
  obtain ⟨a2, c2, rfl, _, _, _⟩ := ho2.rd.parts
  rw [show (rats [-1, 1]).length = 2 from rfl] at *
  have hy2 := ((Ext.refl w1).alloc (.cells #[.int .i64 (-1), .int .i64 1] 3)).trans hx2
  have hch2 := Hch.out w2 (.slice (some ⟨w.heap.size, 0, none⟩) 2 2) (.slice a1 2 c1) (.slice a2 2 c2) (Hx1.out.trans hy2) (hy2.sl Hpr.out) (hy2.rd Hr1.out) ho2.rd
  rw [show (-1 : Int) + ((6 : Nat) : Int) = 5 from rfl] at hch2
  have Hx2 := Lib.hid (Hx1.out.trans hy2); have Hch2 := Lib.hid hch2
  clear ho2 hx2 hy2 hch2
  go_wp2_with fail
  refine Hch2.out.mono ?_
  rintro e w3 ⟨v3, out3, rfl, hs3, hc3, hx3⟩
  have hm3 := coll_uniq hc3 maj_coll
  obtain ⟨vp3, vn3, rfl, hop3, hqn3⟩ := hs3
  obtain ⟨a3, c3, rfl⟩ := own_shape hop3
  obtain ⟨a4, c4, rfl⟩ := own_shape hqn3.1
  have hl3 : out3.length = 7 := by have := congrArg List.length hm3; rw [List.length_map] at this; exact this
  have hsv3 : ScV w3 (.agg #[.slice a3 2 c3, .slice a4 7 c4]) [2, 3] out3 := by
    refine ⟨_, _, rfl, sl_own hop3, ?_⟩
    have := hqn3.rd
    rw [hl3] at this
    exact this
  rw [hl3] at hqn3 ⊢
  have hb3 := BoxT.new 32 w3 (.slice a3 2 c3) (.slice a4 7 c4)
  have hE3 : Ext w3 (w3.alloc (.cells #[.slice a3 2 c3, .slice a4 7 c4] 32)) := (Ext.refl w3).alloc _
  have hst3 := Hst.out _ _ out3 ((Hx2.out.trans hx3).trans hE3) (hsv3.ext hE3) hm3
  rw [hl3] at hst3
  have Hx3 := Lib.hid ((Hx2.out.trans hx3).trans hE3); have Hsv3 := Lib.hid (hsv3.ext hE3); have Hm3 := Lib.hid hm3; have Hb3 := Lib.hid hb3; have Hst3 := Lib.hid hst3
  clear hx3 hsv3 hm3 hb3 hE3 hst3 hc3 hop3 hqn3 hl3
  go_wp2_with fail
  refine Hst3.out.mono ?_
  rintro e w5 ⟨u5, rfl, ⟨out5, hq5, hm5, hl5, hx5⟩⟩
  obtain ⟨a5, c5, rfl⟩ := own_shape hq5.1
  have hr5 := hq5.rd
  rw [hl5] at hr5 ⊢
  have hb5 := Hb3.out.ext hx5
  have Hx5 := Lib.hid (Hx3.out.trans hx5); have Hsv5 := Lib.hid (Hsv3.out.ext hx5); have Hb5 := Lib.hid hb5; have Hr5 := Lib.hid hr5; have Hm5 := Lib.hid hm5; have Hl5 := Lib.hid hl5
  clear hq5 hm5 hl5 hx5 hr5 hb5
  go_wp2_with fail
  refine (Hmj.out w5 Hx5.out).mono ?_
  rintro e w6 ⟨v6, rs6, rfl, hs6, hm6, hx6⟩
  obtain ⟨vp6, vn6, rfl, hp6, hn6⟩ := hs6
  obtain ⟨a6, c6, rfl, _, _, _⟩ := hp6.parts
  obtain ⟨a7, c7, rfl, _, _, _⟩ := hn6.1.parts
  have hl6 : rs6.length = 7 := by have := congrArg List.length hm6; rw [List.length_map] at this; exact this
  have hq6 : (qwc rs6).length = 7 := by rw [qwc_length]; exact hl6
  rw [hq6] at hn6 ⊢
  rw [show (i64s [2, 3]).length = 2 from rfl] at hp6 ⊢
  clear hq6
  have hsv6 : ScV w6 (.agg #[.slice a6 2 c6, .slice a7 7 c7]) [2, 3] rs6 := ⟨_, _, rfl, hp6, hn6⟩
  have Hx6 := Lib.hid (Hx5.out.trans hx6); have Hsv6 := Lib.hid hsv6; have Hm6 := Lib.hid hm6; have Hy6 := Lib.hid hx6
  clear hp6 hn6 hl6 hsv6 hm6 hx6
  go_wp2_with fail
  refine (Hw2.out w6 0 (-1) Hx6.out (by decide) (by decide)).mono ?_
  rintro e w7 ⟨u7, rfl, ho7, hx7⟩
  obtain ⟨a8, c8, rfl, _, _, _⟩ := ho7.rd.parts
  rw [show (rats [0, -1]).length = 2 from rfl] at *
  have hy7 := ((Ext.refl w6).alloc (.cells #[.int .i64 0, .int .i64 (-1)] 3)).trans hx7
  have hre7 := Hre.out w7 _ rs6 (.slice a8 2 c8) (Hx6.out.trans hy7) (Hsv6.out.ext hy7) Hm6.out ho7.rd
  have Hx7 := Lib.hid (Hx6.out.trans hy7); have Hre7 := Lib.hid hre7; have Hy7 := Lib.hid (Hy6.out.trans hy7)
  clear ho7 hx7 hy7 hre7
  go_wp2_with fail
  refine Hre7.out.mono ?_
  rintro e w9 ⟨g9, rfl, hr9, hx9⟩
  have hy9 := Hy7.out.trans hx9
  have hb9 := Hb5.out.ext hy9
  have hrm9 := hy9.rdM Hr5.out
  obtain ⟨s, hs⟩ : ∃ s, out5[2]? = some s := ⟨_, List.getElem?_eq_getElem (by rw [Hl5.out]; omega)⟩
  have hsx : s.x = rats [8, -5] := by
    have h1 := congrArg (fun l => l[2]?) Hm5.out
    simp only [List.getElem?_map, hs, Option.map_some] at h1
    have h2 : (stQs 2 out3 7)[2]? = some (stQ 2 out3 2) := rfl
    have h3 : stQ 2 out3 2 = rats [8, -5] := by
      have e2 := congrArg (fun l => l[2]?) Hm3.out
      have e1 := congrArg (fun l => l[1]?) Hm3.out
      simp only [List.getElem?_map] at e1 e2
      unfold stQ prevQ
      rw [if_neg (by omega), e2]
      show subZ _ ((Option.map Qw.x out3[1]?).getD []) = _
      rw [e1]
      exact step_known
    rw [← h3]
    exact Option.some.inj (h1.trans h2)
  have hrs := hrm9.2 s (List.mem_of_getElem? hs)
  rw [hsx] at hrs
  obtain ⟨ae, ce, hsu, _, _, _⟩ := hrs.parts
  rw [show (rats [8, -5]).length = 2 from rfl] at hsu
  obtain ⟨_, _, e1, _, _, hcl⟩ := hrm9.1.parts
  injection e1 with e1 e2 e3
  subst e1
  clear e2 e3
  obtain ⟨be, oe, rfl, hce⟩ := hcl 2 s.u (by unfold qwc; rw [List.getElem?_map, hs]; rfl)
  rw [hsu] at hrs hce
  have q0 := hb9.c0; have q1 := hb9.c1
  have hsv9 := Hsv5.out.ext hy9
  have hsame := fun W v rs (hE : Ext w9 W) (hv : ScV W v [2, 3] rs) (hm : rs.map Qw.x = majorQ) => (show Calls Tryz.prog 45 #[.agg #[.slice a3 2 c3, .slice a4 7 c4], v] W fun e w' => e = .returned (.bool true) ∧ Ext W w' from by
    have hlm : ∀ ts : List Qw, ts.map Qw.x = majorQ → ts.length = 7 ∧ ∀ r ∈ ts, r.x.length ≤ 1000 := fun ts h => by
      refine ⟨by have := congrArg List.length h; rw [List.length_map] at this; exact this, fun r hr => ?_⟩
      have := List.mem_map_of_mem (f := Qw.x) hr
      rw [h] at this
      have := maj_wd.len _ this
      rw [this]
      decide
    have h1 := hlm out3 Hm3.out
    have h2 := hlm rs hm
    have := lSame_c (.agg #[.slice a3 2 c3, .slice a4 7 c4]) v [2, 3] [2, 3] out3 rs W (hsv9.ext hE) hv (by decide) (by decide) (by omega) (by omega) h1.2 h2.2
    rw [decide_eq_true rfl, decide_eq_true (Hm3.out.trans hm.symm)] at this
    exact this)
  have heq1 := fun W vb (hE : Ext w9 W) (hb : Rd W vb (rats [8, -5])) => (show Calls Tryz.prog 28 #[.slice ae 2 ce, vb] W fun e w' => e = .returned (.bool true) ∧ Ext W w' from by
    have := sEq_c (.slice ae 2 ce) vb (rats [8, -5]) (rats [8, -5]) W (hE.rd hrs) hb (by decide) (by decide)
    rwa [decide_eq_true rfl] at this)
  have heq2 := fun W vb (hE : Ext w9 W) (hb : Rd W vb (rats [2, -1])) => (show Calls Tryz.prog 28 #[.slice (some ⟨g9, 0, none⟩) 2 2, vb] W fun e w' => e = .returned (.bool true) ∧ Ext W w' from by
    have := sEq_c (.slice (some ⟨g9, 0, none⟩) 2 2) vb (rats [2, -1]) (rats [2, -1]) W (hE.rd hr9) hb (by decide) (by decide)
    rwa [decide_eq_true rfl] at this)
  have hS := fun W (h : Ext w9 W) => (⟨h, h.cell q0, h.cell q1, h.cell hce⟩ : Ext w9 W ∧ W.cell? _ = _ ∧ W.cell? _ = _ ∧ W.cell? _ = _)
  have Hx9 := Lib.hid (Hx7.out.trans hx9); have Hsame := Lib.hid hsame; have Heq1 := Lib.hid heq1; have Heq2 := Lib.hid heq2; have HS := Lib.hid hS; have Hwh := Lib.hid hwh
  clear hx9 hy9 hb9 hrm9 hs hsx hrs hsu hcl hsv9 hsame heq1 heq2 hS hr9 hwh
  go_wp2_with fail
  have H0 : Hid (Ext w9 w9) := Lib.hid (Ext.refl w9)
  go_region_held3 (fun w' => Ext w9 w' ∧ w'.cell? ⟨w3.heap.size, 0, none⟩ = some (.slice a3 2 c3) ∧ w'.cell? ⟨w3.heap.size, 1, none⟩ = some (.slice a4 7 c4) ∧ w'.cell? ⟨be, oe + 2, none⟩ = some (.slice ae 2 ce))
    (first | with_reducible exact HS.out _ HF.out | with_reducible exact HS.out _ HE'.out | with_reducible exact HS.out _ (HD.out.alloc _) | with_reducible exact HS.out _ HD.out | with_reducible exact HS.out _ HC.out | with_reducible exact HS.out _ (HB.out.alloc _) | with_reducible exact HS.out _ HB.out | with_reducible exact HS.out _ HA.out | with_reducible exact HS.out _ (H0.out.drew))
    (first
      | (have hpv := HE'; clear hpv; go_at_call 28; refine (Heq2.out _ _ HE'.out HrE.out).mono ?_; rintro e9 VF ⟨rfl, hxf⟩; have HF := Lib.hid (HE'.out.trans hxf); clear hxf)
      | (have hpv := HD; clear hpv; go_at_call 86; refine (Hw2.out VD 2 (-1) (Hx9.out.trans HD.out) (by decide) (by decide)).mono ?_; rintro e9 VE ⟨uE, rfl, hoE, hxe⟩; obtain ⟨aE, cE, rfl, hrE⟩ := rd_letK hoE.rd rfl; have HE' := Lib.hid ((HD.out.alloc _).trans hxe); have HrE := Lib.hid hrE; clear hxe hoE hrE)
      | (have hpv := HC; clear hpv; go_at_call 28; refine (Heq1.out _ _ HC.out HrC.out).mono ?_; rintro e9 VD ⟨rfl, hxd⟩; have HD := Lib.hid (HC.out.trans hxd); clear hxd)
      | (have hpv := HB; clear hpv; go_at_call 86; refine (Hw2.out VB 8 (-5) (Hx9.out.trans HB.out) (by decide) (by decide)).mono ?_; rintro e9 VC ⟨uC, rfl, hoC, hxc⟩; obtain ⟨aC, cC, rfl, hrC⟩ := rd_letK hoC.rd rfl; have HC := Lib.hid ((HB.out.alloc _).trans hxc); have HrC := Lib.hid hrC; clear hxc hoC hrC)
      | (have hpv := HA; clear hpv; go_at_call 45; refine (Hsame.out _ _ rsA HA.out HsA.out HmA.out).mono ?_; rintro e9 VB ⟨rfl, hxb⟩; have HB := Lib.hid (HA.out.trans hxb); clear hxb)
      | (go_at_call 52; refine (Hmj.out _ Hx9.out.drew).mono ?_; rintro e9 VA ⟨vA, rsA, rfl, hsA, hmA, hxa⟩; obtain ⟨b7, b8, b9, b10, rfl, hsA⟩ := scv_let hsA; have HA := Lib.hid (H0.out.drew.trans hxa); have HsA := Lib.hid hsA; have HmA := Lib.hid hmA; clear hxa hsA hmA))
  all_goals
    go_wp2
    go_ret
    exact ⟨rfl, Hx9.out.trans HF.out⟩
end Go.Proofs.YtaakmdjicocjpaaGreatDoor

namespace Go.Proofs.YtaakmdjicocjpaaGreatDoor
open Go.RowKit Go.Lib Go.Shelf

theorem wl_box (a : Wl) (w W : World) (h : Ext (w.alloc (.cells a.cs 26)) W) : W.rangeAt w.heap.size 0 a.cs.toList := fun j v hj => by
  unfold World.cell?
  dsimp only
  rw [h.heap (World.alloc_heap_new w _), Nat.zero_add]
  show a.cs[j]? = some v
  rw [← Array.getElem?_toList]
  exact hj
theorem wl_info (a : Wl) : (Tryz.prog.info? 26).map (·.size) = some a.cs.toList.length := by
  rw [Array.length_toList]
  kernel_rfl
/-- A world, and the scale that Make makes of it. -/
theorem wl_wd (a : Wl) {N : List (List Rat)} (h : Coll a.p a.sizes N) : Wd a.p N := coll_wd a.lw h a.few
end Go.Proofs.YtaakmdjicocjpaaGreatDoor
