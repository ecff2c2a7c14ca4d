/- Walks: the law ClassKinds. -/
import Derived.Test.YtaakmdjicocjpaaGreatDoorPb34
import Derived.Test.YtaakmdjicocjpaaGreatDoorPb37
import Derived.Test.YtaakmdjicocjpaaGreatDoorPb36
set_option maxRecDepth 100000
set_option maxHeartbeats 4000000
namespace Go.Proofs.YtaakmdjicocjpaaGreatDoor
open Go.RowKit Go.Lib Go.Shelf
attribute [local go_sem] Oper.semAt_some
theorem kinds_c (a : Wl) (w : World) (he : Env w) (ha : a.Ok) :
    Calls Tryz.prog 3 #[a.v] w fun e w' => e = .returned (.bool true) ∧ Ext w w' := by
  have hkn := fun W (hE : Ext w W) => known32_c W (he.ext hE)
  have hmk := fun W (hE : Ext w W) => lMake_c a W (he.ext hE) ha
  have hrl := wl_box a w
  have hun := Tryz.underlying26
  have hin := wl_info a
  have hE0 : Ext w (w.alloc (.cells a.cs 26)) := (Ext.refl w).alloc _
  have Hkn := Lib.hid hkn; have Hmk := Lib.hid hmk; have Hrl := Lib.hid hrl; have Hun := Lib.hid hun; have Hin := Lib.hid hin; have HE0 := Lib.hid hE0; clear hkn hmk hrl hun hin hE0
  have He := Lib.hid he; clear he ha
  have hv : a.v = .agg a.cs := rfl
  have Hv := Lib.hid hv
  rw [hv]
  clear hv
  rw [wl_cs]
  go_enter Tryz.func3, Tryz.ntmps3
  rw [← wl_cs]
  go_wp2_with fail
  refine (Hkn.out _ HE0.out).mono ?_
  rintro e w1 ⟨rfl, hx1⟩
  have hrl1 := Hrl.out w1 hx1
  have Hx1 := Lib.hid (HE0.out.trans hx1); have Hrl1 := Lib.hid hrl1
  clear hx1 hrl1
  have Hmk1 := Lib.hid (Hmk.out w1 Hx1.out)
  go_wp2_with (refine wpList_load_mid rfl 26 (.tmp 1) rfl w.heap.size 0 rfl a.cs.toList _ Hrl1.out Hun.out rfl Hin.out ?_)
  rw [← Hv.out]
  refine Hmk1.out.mono ?_
  rintro e w2 ⟨v2, rs, rfl, hs2, hc2, hx2⟩
  have hw2 := wl_wc a hc2
  obtain ⟨a2, c2, b2, d2, rfl, hs2⟩ := scv_cut hs2
  have hL : (rs.map Qw.x).length = rs.length := List.length_map ..
  have hfew := hw2.wd.few
  have hpos := hw2.wd.pos
  rw [hL] at hfew hpos
  have hlp : a.p.length ≤ 100 ∧ primesErr a.p = 0 := by rcases a.pw with e | e <;> rw [e] <;> decide
  have hb2 := BoxT.new 32 w2 (.slice a2 a.p.length c2) (.slice b2 rs.length d2)
  have hE2 := (Ext.refl w2).alloc (.cells #[.slice a2 a.p.length c2, .slice b2 rs.length d2] 32)
  have Hx2 := Lib.hid ((Hx1.out.trans hx2).trans hE2); have Hs2 := Lib.hid (hs2.ext hE2); have Hw2 := Lib.hid hw2; have Hb2 := Lib.hid hb2; have HL := Lib.hid hL; have Hlp := Lib.hid hlp
  have q0 := hb2.c0
  have q1 := hb2.c1
  clear hx2 hs2 hw2 hb2 hE2 hc2 hL hlp
  have hva := vars_c _ a.p rs _ (He.out.ext Hx2.out) Hs2.out Hw2.out
  have hki := fun W (hE : Ext (w2.alloc (.cells #[.slice a2 a.p.length c2, .slice b2 rs.length d2] 32)) W) => kind_c _ a.p rs W (He.out.ext (Hx2.out.trans hE)) (Hs2.out.ext hE) Hw2.out
  have hsz := fun (d : Nat) (hd : d ≤ rs.length) W (hE : Ext (w2.alloc (.cells #[.slice a2 a.p.length c2, .slice b2 rs.length d2] 32)) W) => lsizes_c _ a.p rs d W (He.out.ext (Hx2.out.trans hE)) (Hs2.out.ext hE) Hw2.out hd
  have hvl : (vrs a.p (rs.map Qw.x)).length = rs.length - 1 := by rw [vrs_len, HL.out]
  have hva2 : ∀ j : Nat, j < rs.length - 1 → (vrs a.p (rs.map Qw.x))[j]? = some (((cls a.p (rs.map Qw.x) ((j + 1 : Nat) : Int)).length : Nat) : Int) := fun j hj => by
    unfold vrs
    rw [List.getElem?_map, List.getElem?_range (by rw [HL.out]; exact hj)]
    rfl
  have hcl := fun (d : Nat) => cls_len (p := a.p) (N := rs.map Qw.x) (d := (d : Int))
  have hcp := fun (d : Nat) => Hw2.out.cls_pos (d : Int)
  have hkd := kd_eq a.p (rs.map Qw.x)
  rw [HL.out] at hcl hkd
  have Hva := Lib.hid hva; have Hki := Lib.hid hki; have Hsz := Lib.hid hsz; have Hvl := Lib.hid hvl; have Hva2 := Lib.hid hva2; have Hcl := Lib.hid hcl; have Hcp := Lib.hid hcp; have Hkd := Lib.hid hkd; clear hva hki hsz hvl hva2 hcl hcp hkd
  clear Hmk1 Hkn Hmk Hrl Hrl1 Hun Hin
  generalize hN : rs.length = n at *
  obtain ⟨m, rfl⟩ : ∃ m, n = m + 1 := ⟨n - 1, by omega⟩
  have HN := Lib.hid hN
  clear hN
  go_wp2_with fail
  generalize w2.alloc (.cells #[.slice a2 a.p.length c2, .slice b2 (m + 1) d2] 32) = W2 at *
  refine Hva.out.mono ?_
  rintro e w3 ⟨u3, rfl, ho3, hx3⟩
  unfold OwnI at ho3
  rw [Hvl.out, Nat.add_sub_cancel] at ho3
  obtain ⟨a3, c3, rfl⟩ := own_shape ho3
  have hcv : ∀ j : Nat, j < m → ∃ g, a3 = some ⟨g, 0, none⟩ ∧ w3.cell? ⟨g, j, none⟩ = some (.int .i64 (((cls a.p (rs.map Qw.x) ((j + 1 : Nat) : Int)).length : Nat) : Int)) := fun j hj => by
    obtain ⟨g, c, e, hc⟩ := own_slice ho3 (by omega)
    injection e with e1 _ _
    exact ⟨g, e1, hc j _ (by unfold i64s; rw [List.getElem?_map, Hva2.out j (by omega)]; rfl)⟩
  have q0 := (Hb2.out.ext hx3).c0
  have q1 := (Hb2.out.ext hx3).c1
  have hki3 := Hki.out w3 hx3
  have Hcv := Lib.hid hcv; have H3 := Lib.hid hx3; have Hki3 := Lib.hid hki3
  clear hcv hx3 hki3 ho3
  generalize hkk : kd a.p (rs.map Qw.x) = kk at *
  have Hkk := Lib.hid hkk; clear hkk
  go_wp2_with fail
  refine Hki3.out.mono ?_
  rintro e w4 ⟨rfl, hx4⟩
  have q0 := (Hb2.out.ext (H3.out.trans hx4)).c0
  have q1 := (Hb2.out.ext (H3.out.trans hx4)).c1
  have H34 := Lib.hid hx4; have H4 := Lib.hid (H3.out.trans hx4)
  clear hx4
  have hwm : IntKind.i64.wrap (((m + 1 : Nat) : Int) - 1) = (m : Int) := by rw [IntWalk.i64_in _ (by omega)]; omega
  have hwm2 : IntKind.i64.wrap ((m : Int) + 1 - 1) = (m : Int) := by rw [IntWalk.i64_in _ (by omega)]; omega
  go_wp2_with fail
  go_loopw [9, 10] (fun v9 v10 wr => ∃ j M : Nat, v9 = .int .i64 (M : Int) ∧ v10 = .int .i64 ((j : Int) + 1) ∧ j ≤ m ∧ M ≤ 100 ∧ Hid (2 < M ↔ ∃ e : Nat, e < j ∧ 2 < (cls a.p (rs.map Qw.x) ((e + 1 : Nat) : Int)).length) ∧ Hid (Ext w4 wr)) (fun _ v10 _ => m + 1 - (intOf v10).toNat)
  case atStart => exact ⟨0, 1, rfl, rfl, Nat.zero_le _, by omega, Lib.hid ⟨fun h => by omega, fun ⟨e, h, _⟩ => by omega⟩, Lib.hid (Ext.refl _)⟩
  case round =>
    obtain ⟨j, M, rfl, rfl, hj, hM, HM, HE⟩ := hrel
    by_cases hjm : j < m
    · obtain ⟨g3, rfl, hc3⟩ := Hcv.out j hjm
      have hlt : (j : Int) + 1 < (m : Int) + 1 := by omega
      have hj0 : (0 : Int) ≤ (j : Int) := by omega
      have hj1 : (j : Int) < (m : Int) := by omega
      have hwj : IntKind.i64.wrap ((j : Int) + 1 - 1) = (j : Int) := by rw [IntWalk.i64_in _ (by omega)]; omega
      have hwj2 : IntKind.i64.wrap (j : Int) = (j : Int) := IntWalk.i64_in _ (by omega)
      have hS : ∀ W, Ext wr W → Ext wr W ∧ W.cell? ⟨w2.heap.size, 0, none⟩ = some (.slice a2 a.p.length c2) ∧ W.cell? ⟨w2.heap.size, 1, none⟩ = some (.slice b2 (m + 1) d2) ∧ W.cell? ⟨g3, j, none⟩ = some (.int .i64 (((cls a.p (rs.map Qw.x) ((j + 1 : Nat) : Int)).length : Nat) : Int)) := fun W hW => ⟨hW, (Hb2.out.ext (H4.out.trans (HE.out.trans hW))).c0, (Hb2.out.ext (H4.out.trans (HE.out.trans hW))).c1, hW.cell (HE.out.cell (H34.out.cell hc3))⟩
      have hcj := Hcl.out (j + 1)
      have hsj := Hsz.out (j + 1) (by omega) wr.drew (H4.out.trans HE.out.drew)
      rw [show (((j + 1 : Nat) : Int)) = (j : Int) + 1 by omega] at hsj hS hcj
      have HMs : Hid (∀ z : Nat, (cls a.p (rs.map Qw.x) ((j : Int) + 1)).length = z → (2 < max M z ↔ ∃ e : Nat, e < j + 1 ∧ 2 < (cls a.p (rs.map Qw.x) ((e + 1 : Nat) : Int)).length)) := Lib.hid (fun z hz => by
        have := HM.out
        constructor
        · intro h
          rcases (by omega : 2 < M ∨ 2 < z) with g | g
          · obtain ⟨e, h1, h2⟩ := this.1 g
            exact ⟨e, by omega, h2⟩
          · exact ⟨j, by omega, by rw [show (((j + 1 : Nat) : Int)) = (j : Int) + 1 by omega, hz]; exact g⟩
        · rintro ⟨e, h1, h2⟩
          rcases (by omega : e < j ∨ e = j) with g | g
          · have := this.2 ⟨e, g, h2⟩; omega
          · subst g
            rw [show (((e + 1 : Nat) : Int)) = (e : Int) + 1 by omega, hz] at h2
            omega)
      have Hlz := Lib.hid (fun (out : List Qw) (h : out.map Qw.x = cls a.p (rs.map Qw.x) ((j : Int) + 1)) => show out.length = (cls a.p (rs.map Qw.x) ((j : Int) + 1)).length by rw [← h, List.length_map])
      generalize hz : (cls a.p (rs.map Qw.x) ((j : Int) + 1)).length = z at *
      have HM1 := Lib.hid (HMs.out z rfl)
      obtain ⟨_, e0, e1, e2⟩ := hS _ (Ext.refl wr).drew
      have HS := Lib.hid hS; have Hsj := Lib.hid hsj; clear hS hsj
      clear hz HMs HM hc3 q0 q1
      go_wp2_with fail
      go_region_held3 (fun w' => Ext wr w' ∧ w'.cell? ⟨w2.heap.size, 0, none⟩ = some (.slice a2 a.p.length c2) ∧ w'.cell? ⟨w2.heap.size, 1, none⟩ = some (.slice b2 (m + 1) d2) ∧ w'.cell? ⟨g3, j, none⟩ = some (.int .i64 (z : Int)))
        (first | (with_reducible assumption) | exact HS.out _ (Ext.refl wr).drew | exact HS.out _ ((Ext.refl wr).drew.trans HxA.out))
        (first
          | (go_at_call 19
             refine Hsj.out.mono ?_
             rintro e9 VA ⟨uA, rfl, outA, hqA, hmA, hxa⟩
             have HxA := Lib.hid hxa
             obtain ⟨aA, cA, rfl⟩ : ∃ a c, uA = .slice a z c := by
               obtain ⟨a, c, e⟩ := own_shape hqA.1
               exact ⟨a, c, by rw [e, Hlz.out outA hmA]⟩
             clear hxa hqA hmA))
      have HEn := Lib.hid (HE.out.trans ((Ext.refl wr).drew.trans HxA.out))
      have ev := (HS.out _ ((Ext.refl wr).drew.trans HxA.out)).2.2.2
      clear e0 e1 e2
      go_wp2_with fail
      go_roundw
      case rel => exact ⟨j + 1, max M z, congrArg (Value.int .i64) (by omega), by go_num, by omega, by omega, HM1, HEn⟩
      case measure => simp [intOf]; omega
    · obtain rfl : j = m := by omega
      have hlt : ¬ (j : Int) + 1 < (j : Int) + 1 := by omega
      have hx4r := H4.out.trans HE.out
      have q0 := (Hb2.out.ext hx4r).c0
      have q1 := (Hb2.out.ext hx4r).c1
      have hs1 := Hsz.out 1 (by omega) wr hx4r
      rw [show ((1 : Nat) : Int) = 1 from rfl] at hs1
      have hcl1 := Hcl.out 1
      have hcp1 := Hcp.out 1
      rw [show ((1 : Nat) : Int) = 1 from rfl] at hcl1 hcp1
      have hany : ((List.range (j + 1 - 1)).any fun (d : Nat) => decide (2 < (cls a.p (rs.map Qw.x) ((d + 1 : Nat) : Int)).length)) = decide (2 < M) := by
        rw [Bool.eq_iff_iff, List.any_eq_true, decide_eq_true_eq, HM.out]
        constructor
        · rintro ⟨e, h1, h2⟩
          exact ⟨e, by have := List.mem_range.1 h1; omega, of_decide_eq_true h2⟩
        · rintro ⟨e, h1, h2⟩
          exact ⟨e, List.mem_range.2 (by omega), decide_eq_true h2⟩
      have hkd := Hkd.out
      rw [hany] at hkd
      have Hmos := Lib.hid (fun (d : Int) (x y s l : List Rat) h1 h2 => Hw2.out.mos (d := d) (a := x) (b := y) (s := s) (l := l) h1 h2)
      have Hlz := Lib.hid (fun (out : List Qw) (h : out.map Qw.x = cls a.p (rs.map Qw.x) 1) => show out.length = (cls a.p (rs.map Qw.x) 1).length by rw [← h, List.length_map])
      generalize hz : (cls a.p (rs.map Qw.x) 1).length = z1 at *
      have Hs1 := Lib.hid hs1; have Hkd2 := Lib.hid hkd; have Hx4r := Lib.hid hx4r; have Hz := Lib.hid hz
      clear hs1 hkd hany hx4r hz
      go_wp2_with fail
      refine Hs1.out.mono ?_
      rintro e w5 ⟨u5, rfl, out5, hq5, hm5, hx5⟩
      obtain ⟨a5, c5, rfl⟩ : ∃ a c, u5 = .slice a z1 c := by
        obtain ⟨a, c, e⟩ := own_shape hq5.1
        exact ⟨a, c, by rw [e, Hlz.out out5 hm5]⟩
      have Hx5 := Lib.hid (Hx4r.out.trans hx5); have Hq5 := Lib.hid hq5; have Hm5 := Lib.hid hm5
      clear hx5 hq5 hm5 q0 q1
      rcases (by omega : z1 = 1 ∨ 2 < z1 ∨ z1 = 2) with rfl | hz2 | rfl
      · obtain rfl : kk = 1 := by rw [Hkd2.out]; rfl
        clear Hkd2 Hkk
        go_wp2_with fail
        go_ret
        exact ⟨rfl, Hx2.out.trans Hx5.out⟩
      · obtain rfl : kk = 3 := by rw [Hkd2.out, if_neg (by omega), if_pos (Or.inl hz2)]
        clear Hkd2 Hkk
        have hz3 : ¬ (z1 : Int) = 1 := by omega
        have hz4 : (2 : Int) < (z1 : Int) := by omega
        go_wp2_with fail
        go_ret
        exact ⟨rfl, Hx2.out.trans Hx5.out⟩
      · by_cases hM2 : 2 < M
        · obtain rfl : kk = 3 := by rw [Hkd2.out, if_neg (by omega), if_pos (Or.inr (decide_eq_true hM2))]
          clear Hkd2 Hkk
          have hM3 : (2 : Int) < (M : Int) := by omega
          go_wp2_with fail
          go_ret
          exact ⟨rfl, Hx2.out.trans Hx5.out⟩
        · obtain rfl : kk = 2 := by rw [Hkd2.out, if_neg (by omega), if_neg (by rintro (h | h); exact absurd h (by omega); exact hM2 (of_decide_eq_true h))]
          clear Hkd2 Hkk
          have hM3 : ¬ (2 : Int) < (M : Int) := by omega
          obtain ⟨r0, r1, rfl⟩ : ∃ r0 r1 : Qw, out5 = [r0, r1] := two_of (Hlz.out out5 Hm5.out)
          have hz1' := Hz.out
          have hc1 : cls a.p (rs.map Qw.x) 1 = [r0.x, r1.x] := Hm5.out.symm
          obtain ⟨g5, k5, e5, hc5⟩ := own_slice Hq5.out.1 (by simp)
          injection e5 with e5 _ e6
          subst e5
          subst e6
          have k0 := hc5 0 r0.u rfl
          have k1 := hc5 1 r1.u rfl
          have o0 := Hq5.out.2 r0 (by simp)
          have o1 := Hq5.out.2 r1 (by simp)
          have l0 : r0.x.length = a.p.length := Hw2.out.cls_lt (d := 1) (by rw [hc1]; simp)
          have l1 : r1.x.length = a.p.length := Hw2.out.cls_lt (d := 1) (by rw [hc1]; simp)
          obtain ⟨b0, f0, h0⟩ : ∃ a' c, r0.u = .slice a' a.p.length c := by
            obtain ⟨a', c, e⟩ := own_shape o0
            exact ⟨a', c, by rw [e, l0]⟩
          obtain ⟨b1, f1, h1⟩ : ∃ a' c, r1.u = .slice a' a.p.length c := by
            obtain ⟨a', c, e⟩ := own_shape o1
            exact ⟨a', c, by rw [e, l1]⟩
          rw [h0] at k0 o0
          rw [h1] at k1 o1
          have hmos2 := fun (d : Int) x y h => Hmos.out d x y r0.x r1.x hc1 h
          have hpsl : ∀ W, Ext (W2) W → Sl W (.slice a2 a.p.length c2) (i64s a.p) := fun W hE => by
            obtain ⟨vp, vn, e, h1, _⟩ := Hs2.out.ext hE
            simp only [Value.agg.injEq, Array.mk.injEq, List.cons.injEq, and_true] at e
            rw [e.1]
            exact h1
          have hsub := fun (d : Nat) (hd : d ≤ j + 1) x y va vb W (hE : Ext W2 W) hx hy ha hb => csub_c (.slice a2 a.p.length c2) va vb a.p (rs.map Qw.x) d x y W (He.out.ext (Hx2.out.trans hE)) (hpsl W hE) Hw2.out (by rw [HL.out]; exact hd) hx hy ha hb
          have hs5 := hsub 1 (by omega) r1.x r0.x (.slice b1 a.p.length f1) (.slice b0 a.p.length f0) w5.drew Hx5.out.drew (by rw [show ((1 : Nat) : Int) = 1 from rfl, hc1]; simp) (by rw [show ((1 : Nat) : Int) = 1 from rfl, hc1]; simp) ((Ext.refl w5).drew.ownQ o1).rd ((Ext.refl w5).drew.ownQ o0).rd
          have hS : ∀ W, Ext w5 W → Ext w5 W ∧ W.cell? ⟨w2.heap.size, 0, none⟩ = some (.slice a2 a.p.length c2) ∧ W.cell? ⟨g5, 0, none⟩ = some (.slice b0 a.p.length f0) ∧ W.cell? ⟨g5, 1, none⟩ = some (.slice b1 a.p.length f1) := fun W hW => ⟨hW, (Hb2.out.ext (Hx5.out.trans hW)).c0, hW.cell k0, hW.cell k1⟩
          obtain ⟨_, e0, e1, e2⟩ := hS _ (Ext.refl w5).drew
          have HX5 : Hid (Ext w5 w5) := Lib.hid (Ext.refl w5)
          have Hl1 := Lib.hid l1; have Hl0 := Lib.hid l0
          have HS := Lib.hid hS; have Hs5 := Lib.hid hs5; have Hsub := Lib.hid hsub; have Hmos2 := Lib.hid hmos2; clear hS hs5 hsub hmos2
          clear hz1' hc1 k0 k1 o0 o1 h0 h1 l0 l1 hc5 hpsl Hmos
          go_wp2_with fail
          go_region_held3 (fun w' => Ext w5 w' ∧ w'.cell? ⟨w2.heap.size, 0, none⟩ = some (.slice a2 a.p.length c2) ∧ w'.cell? ⟨g5, 0, none⟩ = some (.slice b0 a.p.length f0) ∧ w'.cell? ⟨g5, 1, none⟩ = some (.slice b1 a.p.length f1))
            (first | (with_reducible assumption) | exact HS.out _ HX5.out.drew | exact HS.out _ (HX5.out.drew.trans HxA.out))
            (first
              | (go_at_call 20
                 refine Hs5.out.mono ?_
                 rintro e9 VA ⟨gA, rfl, hoA, hxa⟩
                 have HxA := Lib.hid hxa
                 have HoA := Lib.hid hoA
                 clear hxa hoA))
          have H5A := Lib.hid (HX5.out.drew.trans HxA.out)
          clear e0 e1 e2
          go_wp2_with fail
          go_loopw [14] (fun v14 wr => ∃ t : Nat, v14 = .int .i64 ((t : Int) + 1) ∧ t ≤ j ∧ Hid (Ext VA wr)) (fun v14 _ => j + 1 - (intOf v14).toNat)
          case atStart => exact ⟨0, rfl, Nat.zero_le _, Lib.hid (Ext.refl _)⟩
          case round =>
            obtain ⟨t, rfl, ht, HEt⟩ := hrel
            have hVr := Hx5.out.trans (H5A.out.trans HEt.out)
            have q0 := (Hb2.out.ext hVr).c0
            have q1 := (Hb2.out.ext hVr).c1
            by_cases htj : t < j
            · have hlt2 : (t : Int) + 1 < (j : Int) + 1 := by omega
              have hst := Hsz.out (t + 1) (by omega) wr hVr
              rw [show ((t + 1 : Nat) : Int) = (t : Int) + 1 by omega] at hst
              have Hst := Lib.hid hst; have HVr := Lib.hid hVr
              clear hst hVr
              go_wp2_with fail
              refine Hst.out.mono ?_
              rintro e w6 ⟨u6, rfl, out6, hq6, hm6, hx6⟩
              obtain ⟨a6, c6, rfl⟩ := own_shape hq6.1
              have Hx6 := Lib.hid (HVr.out.trans hx6); have HEn := Lib.hid (HEt.out.trans hx6)
              by_cases h2 : out6.length = 2
              · obtain ⟨s0, s1, rfl⟩ := two_of h2
                have hc6 : cls a.p (rs.map Qw.x) ((t : Int) + 1) = [s0.x, s1.x] := hm6.symm
                obtain ⟨g6, _, e6, hcc⟩ := own_slice hq6.1 (by simp)
                injection e6 with e6 _ e7
                subst e6
                subst e7
                have k0 := hcc 0 s0.u rfl
                have k1 := hcc 1 s1.u rfl
                have o0 := hq6.2 s0 (by simp)
                have o1 := hq6.2 s1 (by simp)
                have l0 : s0.x.length = a.p.length := Hw2.out.cls_lt (d := (t : Int) + 1) (by rw [hc6]; simp)
                have l1 : s1.x.length = a.p.length := Hw2.out.cls_lt (d := (t : Int) + 1) (by rw [hc6]; simp)
                obtain ⟨p0, f2, h0⟩ : ∃ a' c, s0.u = .slice a' a.p.length c := by
                  obtain ⟨a', c, e⟩ := own_shape o0
                  exact ⟨a', c, by rw [e, l0]⟩
                obtain ⟨p1, f3, h1⟩ : ∃ a' c, s1.u = .slice a' a.p.length c := by
                  obtain ⟨a', c, e⟩ := own_shape o1
                  exact ⟨a', c, by rw [e, l1]⟩
                rw [h0] at k0 o0
                rw [h1] at k1 o1
                have hs6 := Hsub.out (t + 1) (by omega) s1.x s0.x (.slice p1 a.p.length f3) (.slice p0 a.p.length f2) w6.drew Hx6.out.drew (by rw [show ((t + 1 : Nat) : Int) = (t : Int) + 1 by omega, hc6]; simp) (by rw [show ((t + 1 : Nat) : Int) = (t : Int) + 1 by omega, hc6]; simp) ((Ext.refl w6).drew.ownQ o1).rd ((Ext.refl w6).drew.ownQ o0).rd
                rw [Hmos2.out _ _ _ hc6] at hs6
                have hS : ∀ W, Ext w6 W → Ext w6 W ∧ W.cell? ⟨w2.heap.size, 0, none⟩ = some (.slice a2 a.p.length c2) ∧ W.cell? ⟨g6, 0, none⟩ = some (.slice p0 a.p.length f2) ∧ W.cell? ⟨g6, 1, none⟩ = some (.slice p1 a.p.length f3) := fun W hW => ⟨hW, (Hb2.out.ext (Hx6.out.trans hW)).c0, hW.cell k0, hW.cell k1⟩
                obtain ⟨_, e0, e1, e2⟩ := hS _ (Ext.refl w6).drew
                have hlr : (subZ r1.x r0.x).length = a.p.length := by rw [subZ_len (by rw [Hl1.out, Hl0.out]), Hl1.out]
                have hsm := fun gB W (hE : Ext w6 W) (ho : Rd W (.slice (some ⟨gB, 0, none⟩) a.p.length a.p.length) (subZ r1.x r0.x)) => lSame24_c (.slice (some ⟨gB, 0, none⟩) a.p.length a.p.length) (.slice (some ⟨gA, 0, none⟩) a.p.length a.p.length) (subZ r1.x r0.x) (subZ r1.x r0.x) W ho ((HEn.out.trans hE).rd HoA.out.rd) (by rw [hlr]; have := Hlp.out.1; omega) (by rw [hlr]; have := Hlp.out.1; omega)
                have HX6 : Hid (Ext w6 w6) := Lib.hid (Ext.refl w6)
                have HS6 := Lib.hid hS; have Hs6 := Lib.hid hs6; have Hsm := Lib.hid hsm
                clear hS hs6 hsm hlr k0 k1 o0 o1 h0 h1 l0 l1 hcc hq6 hm6 hx6 hc6 q0 q1 h2
                go_wp2_with fail
                go_region_held3 (fun w' => Ext w6 w' ∧ w'.cell? ⟨w2.heap.size, 0, none⟩ = some (.slice a2 a.p.length c2) ∧ w'.cell? ⟨g6, 0, none⟩ = some (.slice p0 a.p.length f2) ∧ w'.cell? ⟨g6, 1, none⟩ = some (.slice p1 a.p.length f3))
                  (first | (with_reducible assumption) | exact HS6.out _ HX6.out.drew | exact HS6.out _ (HX6.out.drew.trans HxB.out))
                  (first
                    | (go_at_call 20
                       refine Hs6.out.mono ?_
                       rintro e9 VB ⟨gB, rfl, hoB, hxb⟩
                       have HxB := Lib.hid hxb
                       have HoB := Lib.hid hoB
                       clear hxb hoB))
                have H6B := Lib.hid (HX6.out.drew.trans HxB.out)
                have hsm := Hsm.out gB VB H6B.out HoB.out.rd
                simp only [decide_true] at hsm
                have Hsm2 := Lib.hid hsm
                clear hsm e0 e1 e2
                go_wp2_with fail
                refine Hsm2.out.mono ?_
                rintro e w7 ⟨rfl, hx7⟩
                have HE7 := Lib.hid (HEn.out.trans (H6B.out.trans hx7))
                clear hx7
                go_wp2_with fail
                go_roundw
                case rel => exact ⟨t + 1, by go_num, by omega, HE7⟩
                case measure => simp [intOf]; omega
              · have h2i : ¬ (out6.length : Int) = 2 := by omega
                clear hq6 hm6 hx6 q0 q1
                generalize out6.length = z6 at *
                go_wp2_with fail
                go_roundw
                case rel => exact ⟨t + 1, by go_num, by omega, HEn⟩
                case measure => simp [intOf]; omega
            · obtain rfl : t = j := by omega
              have hlt2 : ¬ (t : Int) + 1 < (t : Int) + 1 := by omega
              have HVr := Lib.hid hVr
              clear hVr q0 q1
              go_wp2_with fail
              go_ret
              exact ⟨rfl, Hx2.out.trans HVr.out⟩
end Go.Proofs.YtaakmdjicocjpaaGreatDoor
