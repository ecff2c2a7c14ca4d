/- Walks: the law ScaleSubsets. -/
import Derived.Test.YtaakmdjicocjpaaGreatDoorPbL
import Derived.Test.YtaakmdjicocjpaaGreatDoorPbN
import Derived.Test.YtaakmdjicocjpaaGreatDoorPaK
namespace Go.Proofs.YtaakmdjicocjpaaGreatDoor
open Go.RowKit Go.Lib Go.Shelf

attribute [local go_sem] Oper.semAt_some

set_option maxRecDepth 100000 in
set_option maxHeartbeats 4000000 in
theorem subs_c (a : Wl) (vl : Value) (l : List Int) (w : World) (he : Env w) (ha : a.Ok) (hvl : Sl w vl (i64s l)) :
    Calls Tryz.prog 12 #[a.v, vl] w fun e w' => e = .returned (.bool true) ∧ Ext w w' := by
  have hkn := fun W (hE : Ext w W) => known31_c W (he.ext hE)
  have hmk := fun W (hE : Ext w W) => lMake_c a W (he.ext hE) ha
  have hsb := fun W v rs (hE : Ext w W) (hs : ScV W v a.p rs) (hW : Wd a.p (rs.map Qw.x)) (h10 : l.length ≤ 10) => subset_c v vl a.p rs l W (he.ext hE) hs hW (hE.sl hvl) h10
  have hrl := wl_box a w
  have hun := Tryz.underlying26
  have hin := wl_info a
  have hE0 : Ext w (w.alloc (.cells a.cs 26)) := (Ext.refl w).alloc _
  obtain ⟨al, cl, rfl, hcm, hcl, hlc⟩ := hvl.parts
  have hlat : ∀ W, Ext w W → ∀ k, k < l.length → ∃ b off, al = some ⟨b, off, none⟩ ∧ W.cell? ⟨b, off + k, none⟩ = some (.int .i64 ((l[k]?).getD 0)) := fun W hE k hk => by
    obtain ⟨b, off, e, hc⟩ := hlc k (.int .i64 ((l[k]?).getD 0)) (by unfold i64s; rw [List.getElem?_map, List.getElem?_eq_getElem hk]; rfl)
    exact ⟨b, off, e, hE.cell hc⟩
  rw [i64s_length] at *
  have Hkn := Lib.hid hkn; have Hmk := Lib.hid hmk; have Hsb := Lib.hid hsb; have Hrl := Lib.hid hrl; have Hun := Lib.hid hun; have Hin := Lib.hid hin; have HE0 := Lib.hid hE0; have Hlat := Lib.hid hlat; have Hvl := Lib.hid hvl; have He := Lib.hid he; have Hcl := Lib.hid hcl
  clear hkn hmk hsb hrl hun hin hE0 hlat hvl he hcl hlc ha
  have hv : a.v = .agg a.cs := rfl
  have Hv := Lib.hid hv
  rw [hv]
  clear hv
  have hcs2 : Wl.cs a = #[.bool a.three, .int .u8 a.kind, .int .u8 a.num, .int .i8 (a.xs 0).a, .int .i8 (a.xs 0).b, .int .i8 (a.xs 0).c, .int .i8 (a.xs 1).a, .int .i8 (a.xs 1).b, .int .i8 (a.xs 1).c, .int .i8 (a.xs 2).a, .int .i8 (a.xs 2).b, .int .i8 (a.xs 2).c, .int .i8 (a.xs 3).a, .int .i8 (a.xs 3).b, .int .i8 (a.xs 3).c, .int .i8 (a.xs 4).a, .int .i8 (a.xs 4).b, .int .i8 (a.xs 4).c, .int .i8 (a.xs 5).a, .int .i8 (a.xs 5).b, .int .i8 (a.xs 5).c, .int .i8 (a.xs 6).a, .int .i8 (a.xs 6).b, .int .i8 (a.xs 6).c, .int .i8 (a.xs 7).a, .int .i8 (a.xs 7).b, .int .i8 (a.xs 7).c] := rfl
  generalize hL : l.length = L at *
  have HL := Lib.hid hL
  clear hL
  rw [hcs2]
  go_enter Tryz.func12, Tryz.ntmps12
  rw [← hcs2]
  go_wp2_with fail
  refine (Hkn.out _ HE0.out).mono ?_
  rintro e w1 ⟨rfl, hx1⟩
  have hrl1 := Hrl.out w1 hx1
  have Hx1 := Lib.hid (HE0.out.trans hx1); have Hrl1 := Lib.hid hrl1
  clear hx1 hrl1
  by_cases h10 : L ≤ 10
  case neg =>
    have hd1 : (10 : Int) < (L : Int) := by omega
    have hkn1 := Hkn.out w1 Hx1.out
    have Hkn1 := Lib.hid hkn1
    clear hkn1
    go_wp2_with fail
    refine Hkn1.out.mono ?_
    rintro e w2 ⟨rfl, hx2⟩
    have Hx2 := Lib.hid (Hx1.out.trans hx2)
    clear hx2
    go_wp2
    go_ret
    exact ⟨rfl, Hx2.out⟩
  case pos =>
  have hd1 : ¬ (10 : Int) < (L : Int) := by omega
  have hmk1 := Hmk.out w1 Hx1.out
  have Hmk1 := Lib.hid hmk1
  clear hmk1
  go_wp2_with (refine wpList_load_mid rfl 26 (.tmp 2) rfl w.heap.size 0 rfl a.cs.toList _ Hrl1.out Hun.out rfl Hin.out ?_)
  rw [← hcs2, ← Hv.out]
  refine Hmk1.out.mono ?_
  rintro e w2 ⟨v2, rs, rfl, hs2, hc2, hx2⟩
  have hw2 := wl_wd a hc2
  have hfew := hw2.few
  have hpos := hw2.pos
  rw [List.length_map] at hfew hpos
  have hlp : a.p.length = 2 ∨ a.p.length = 3 := by rcases a.pw with e | e <;> rw [e] <;> simp
  obtain ⟨a2, c2, b2, d2, rfl, hs2⟩ := scv_let hs2
  have hb2 := BoxT.new 32 w2 (.slice a2 a.p.length c2) (.slice b2 rs.length d2)
  have hE2 := (Ext.refl w2).alloc (.cells #[.slice a2 a.p.length c2, .slice b2 rs.length d2] 32)
  have hsb2 := Hsb.out _ _ rs ((Hx1.out.trans hx2).trans hE2) (hs2.ext hE2) hw2 h10
  have Hx2 := Lib.hid ((Hx1.out.trans hx2).trans hE2); have Hs2 := Lib.hid (hs2.ext hE2); have Hw2 := Lib.hid hw2; have Hb2 := Lib.hid hb2; have Hsb2 := Lib.hid hsb2
  clear hx2 hs2 hw2 hb2 hE2 hsb2 hc2 hcs2
  generalize hN : rs.length = N at *
  have HN := Lib.hid hN
  clear hN
  go_wp2_with fail
  refine Hsb2.out.mono ?_
  rintro e w3 ⟨u3, rfl, hbad, hok, hx3⟩
  obtain ⟨x3, n3, c3, y3, m3, d3, rfl, hn3, hok⟩ : ∃ x3 n3 c3 y3 m3 d3, u3 = .agg #[.slice x3 n3 c3, .slice y3 m3 d3] ∧ (subE N l ≠ 0 → m3 = 0) ∧ (subE N l = 0 → ∃ out, ScV w3 (.agg #[.slice x3 n3 c3, .slice y3 m3 d3]) a.p out ∧ out.map Qw.x = subN a.p (rs.map Qw.x) l) := by
    by_cases hs : subE N l = 0
    · obtain ⟨out, ho, hm⟩ := hok hs
      obtain ⟨a5, c5, b5, d5, rfl, hso⟩ := scv_let ho.scV
      exact ⟨_, _, _, _, _, _, rfl, fun h => absurd hs h, fun _ => ⟨out, hso, hm⟩⟩
    · exact ⟨_, _, _, _, _, _, hbad hs, fun _ => rfl, fun h => absurd h hs⟩
  have hb3 := BoxT.new 32 w3 (.slice x3 n3 c3) (.slice y3 m3 d3)
  have hE3 := (Ext.refl w3).alloc (.cells #[.slice x3 n3 c3, .slice y3 m3 d3] 32)
  have q1 := (Hb2.out.ext (hx3.trans hE3)).c1
  have q0 := (Hb2.out.ext (hx3.trans hE3)).c0
  have r1 := hb3.c1
  have Hb3 := Lib.hid hb3; have Hn3 := Lib.hid hn3; have Hok := Lib.hid hok; have Hx3 := Lib.hid (Hx2.out.trans (hx3.trans hE3)); have H23 := Lib.hid (hx3.trans hE3); have HE3 := Lib.hid hE3
  clear hbad hok hn3 hb3 hE3 hx3
  generalize hS : subE N l = S at *
  have HS := Lib.hid hS
  clear hS
  by_cases hl0 : L = 0
  case pos =>
    subst hl0
    have hnil : l = [] := List.length_eq_zero_iff.1 HL.out
    obtain rfl : S = 13 := by rw [← HS.out, hnil]; rfl
    obtain rfl : m3 = 0 := Hn3.out (by decide)
    clear Hok Hn3
    go_wp2_with fail
    generalize w3.alloc (.cells #[.slice x3 n3 c3, .slice y3 0 d3] 32) = W3 at *
    go_loopw [8, 9, 10, 35] (fun v8 v9 v10 v35 wr => v8 = .int .i64 13 ∧ v35 = .int .i64 0 ∧ wr = W3) (fun _ _ _ _ _ => 0)
    case atStart => exact ⟨rfl, rfl, rfl⟩
    case round =>
      obtain ⟨rfl, rfl, rfl⟩ := hrel
      go_wp2_with fail
      go_ret
      exact ⟨rfl, Hx3.out⟩
  case neg =>
    have hne : l ≠ [] := fun e => hl0 (by rw [← HL.out, e]; rfl)
    have hse : S = subFrom N l 0 L := by rw [← HS.out, ← HL.out]; unfold subE; rw [if_neg hne]
    have Hne := Lib.hid hne; have Hse := Lib.hid hse
    clear hne hse
    have hl0i : ((L : Int) == 0) = false := by rw [beq_eq_false_iff_ne]; omega
    go_wp2_with fail
    generalize hW3 : w3.alloc (.cells #[.slice x3 n3 c3, .slice y3 m3 d3] 32) = W3 at *
    go_loopw [8, 9, 10, 35] (fun v8 v9 v10 v35 wr => ∃ (k : Nat) (E : Int), v8 = .int .i64 E ∧ v35 = .int .i64 k ∧ k ≤ L ∧ Hid (E ≠ 0 → S = E) ∧ Hid (E = 0 → S = subFrom N l k (L - k)) ∧ wr = W3) (fun _ _ _ v35 _ => L - (intOf v35).toNat)
    case atStart => exact ⟨0, 0, rfl, rfl, Nat.zero_le _, Lib.hid (fun h => absurd rfl h), Lib.hid (fun _ => Hse.out), rfl⟩
    case round =>
      obtain ⟨k, E, rfl, rfl, hk, HEn, HEz, rfl⟩ := hrel
      by_cases hkl : k < L
      · obtain ⟨b, off, rfl, hc⟩ := Hlat.out wr Hx3.out k hkl
        have hk0 : (0 : Int) ≤ (k : Int) := by omega
        have hk1 : (k : Int) < (L : Int) := by omega
        by_cases hE0 : E = 0
        · subst hE0
          have hSk := HEz.out rfl
          have hgo : stepE N l k = 0 → S = subFrom N l (k + 1) (L - (k + 1)) := fun e => by
            have := sub_go (n := N) (l := l) (k := k) (by rw [HL.out]; exact hkl) e
            rw [HL.out] at this
            exact hSk.trans this
          have hst : stepE N l k ≠ 0 → S = stepE N l k := fun e => by
            have := sub_stop (n := N) (l := l) (k := k) (by rw [HL.out]; exact hkl) e
            rw [HL.out] at this
            exact hSk.trans this
          have hun : stepE N l k = if (l[k]?).getD 0 < 0 ∨ (N : Int) ≤ (l[k]?).getD 0 then 3 else if 0 < k ∧ (l[k]?).getD 0 ≤ (l[k - 1]?).getD 0 then 6 else 0 := rfl
          have hpv := fun (h0 : 0 < k) => Hlat.out wr Hx3.out (k - 1) (by omega)
          generalize (l[k]?).getD 0 = x at *
          generalize (l[k - 1]?).getD 0 = y at *
          have Hgo := Lib.hid hgo; have Hst := Lib.hid hst; have Hun' := Lib.hid hun; have Hpv := Lib.hid hpv
          clear hgo hst hun hpv hSk HEn HEz
          by_cases hbad : x < 0 ∨ (N : Int) ≤ x
          · have hec : S = 3 := by
              have hs : stepE N l k = 3 := by rw [Hun'.out, if_pos hbad]
              exact (Hst.out (by rw [hs]; decide)).trans hs
            have Hec := Lib.hid hec
            clear hec
            rcases hbad with hx0 | hxn
            · go_wp2_with fail
              go_roundw
              case rel => exact ⟨k + 1, 3, rfl, by go_num, by omega, Lib.hid (fun _ => Hec.out), Lib.hid (fun h => absurd h (by decide)), (by first | rfl | trivial)⟩
              case measure => simp [intOf]; omega
            · have hx0 : ¬ x < 0 := by omega
              go_wp2_with fail
              go_roundw
              case rel => exact ⟨k + 1, 3, rfl, by go_num, by omega, Lib.hid (fun _ => Hec.out), Lib.hid (fun h => absurd h (by decide)), (by first | rfl | trivial)⟩
              case measure => simp [intOf]; omega
          · have hx0 : ¬ x < 0 := by omega
            have hxn : ¬ (N : Int) ≤ x := by omega
            rcases Nat.eq_zero_or_pos k with hk00 | hk00
            · subst hk00
              rw [Nat.add_zero] at hc
              have hs : stepE N l 0 = 0 := by rw [Hun'.out, if_neg hbad, if_neg (by omega)]
              have Hnx := Lib.hid (Hgo.out hs)
              clear hs hbad
              go_wp2_with fail
              go_roundw
              case rel => exact ⟨1, 0, rfl, by go_num, by omega, Lib.hid (fun h => absurd rfl h), Lib.hid (fun _ => Hnx.out), (by first | rfl | trivial)⟩
              case measure => simp [intOf]; omega
            · obtain ⟨j, rfl⟩ : ∃ j, k = j + 1 := ⟨k - 1, by omega⟩
              obtain ⟨b', off', e', hc'⟩ := Hpv.out hk00
              cases e'
              rw [Nat.add_sub_cancel] at hc'
              have hwj : IntKind.i64.wrap (((j + 1 : Nat) : Int) - 1) = (j : Int) := by rw [show (((j + 1 : Nat) : Int) - 1) = (j : Int) by omega]; exact IntWalk.i64_in _ (by unfold maxLen at hcm; have := Hcl.out; omega)
              have hwj2 : IntKind.i64.wrap (j : Int) = (j : Int) := IntWalk.i64_in _ (by unfold maxLen at hcm; have := Hcl.out; omega)
              have hj0 : (0 : Int) ≤ (j : Int) := by omega
              have hj1 : (j : Int) < (L : Int) := by omega
              have hjc : ((j + 1 : Nat) : Int) = (j : Int) + 1 := by omega
              have hjp : (0 : Int) < (j : Int) + 1 := by omega
              by_cases hxy : x ≤ y
              · have hec : S = 6 := by
                  have hs : stepE N l (j + 1) = 6 := by rw [Hun'.out, if_neg hbad, if_pos ⟨hk00, hxy⟩]
                  exact (Hst.out (by rw [hs]; decide)).trans hs
                have Hec := Lib.hid hec
                clear hec hbad
                go_wp2_with fail
                go_roundw
                case rel => exact ⟨j + 1 + 1, 6, rfl, by go_num, by omega, Lib.hid (fun _ => Hec.out), Lib.hid (fun h => absurd h (by decide)), (by first | rfl | trivial)⟩
                case measure => simp [intOf]; omega
              · have hs : stepE N l (j + 1) = 0 := by rw [Hun'.out, if_neg hbad, if_neg (fun g => hxy g.2)]
                have Hnx := Lib.hid (Hgo.out hs)
                clear hs hbad
                go_wp2_with fail
                go_roundw
                case rel => exact ⟨j + 1 + 1, 0, rfl, by go_num, by omega, Lib.hid (fun h => absurd rfl h), Lib.hid (fun _ => Hnx.out), (by first | rfl | trivial)⟩
                case measure => simp [intOf]; omega
        · go_wp2_with fail
          go_roundw
          case rel => exact ⟨k + 1, E, rfl, by go_num, by omega, HEn, Lib.hid (fun h => absurd h hE0), (by first | rfl | trivial)⟩
          case measure => simp [intOf]; omega
      · obtain rfl : k = L := by omega
        by_cases hE0 : E = 0
        case neg =>
          have hSE := HEn.out hE0
          subst hSE
          have hm0 := Hn3.out hE0
          subst hm0
          clear Hok Hn3
          go_wp2_with fail
          go_ret
          exact ⟨rfl, Hx3.out⟩
        case pos =>
          subst hE0
          obtain rfl : S = 0 := by rw [HEz.out rfl, Nat.sub_self]; rfl
          obtain ⟨out, hso, hmo⟩ := Hok.out rfl
          have hEc : subFrom N l 0 k = 0 := Hse.out.symm
          obtain ⟨hin, hup⟩ := sub_ok (n := N) (l := l) (by rw [HL.out]; exact hEc)
          obtain ⟨x0, t0, hlx⟩ : ∃ x t, l = x :: t := by cases hl : l with | nil => exact absurd hl Hne.out | cons x t => exact ⟨x, t, rfl⟩
          have hx0b := hin x0 (by rw [hlx]; exact List.mem_cons_self ..)
          obtain ⟨b, off, rfl, hc0⟩ := Hlat.out wr Hx3.out 0 (by omega)
          rw [hlx, List.getElem?_cons_zero, Option.getD_some, Nat.add_zero] at hc0
          have htl : ∀ W, Ext w W → ∀ i z, t0[i]? = some z → W.cell? ⟨b, off + 1 + i, none⟩ = some (.int .i64 z) := fun W hE i z hz => by
            have hik : i + 1 < k := by
              have h1 := (List.getElem?_eq_some_iff.1 hz).1
              rw [← HL.out, hlx, List.length_cons]; omega
            obtain ⟨b', off', e', hc'⟩ := Hlat.out W hE (i + 1) hik
            cases e'
            rw [hlx, List.getElem?_cons_succ, hz, Option.getD_some] at hc'
            rw [show off + 1 + i = off + (i + 1) by omega]
            exact hc'
          have htk : t0.length + 1 = k := by rw [← HL.out, hlx, List.length_cons]
          have hno := fun (m : Int) (h0 : -1000 ≤ m) (h1 : m ≤ 1000) W (hE : Ext wr W) => lNote_c _ a.p rs m W (He.out.ext (Hx3.out.trans hE)) (Hs2.out.ext (H23.out.trans hE)) Hw2.out h0 h1
          have hlt := fun (m : Int) => Hw2.out.ntlen m
          have hle := fun (m q : Int) (h0 : -1000 ≤ m) (h1 : m ≤ 1000) (g0 : -1000 ≤ q) (g1 : q ≤ 1000) W va vb (hE : Ext wr W) (ha : Rd W va (nt a.p (rs.map Qw.x) m)) (hb : Rd W vb (nt a.p (rs.map Qw.x) q)) => lLess_c va vb _ _ W (He.out.ext (Hx3.out.trans hE)) ha hb ((hlt m).trans (hlt q).symm) (by rw [hlt m]; omega) (Hw2.out.nt_sn m h0 h1) (Hw2.out.nt_sn q g0 g1)
          have hls := fun (m q : Int) => (subZ_len (x := nt a.p (rs.map Qw.x) m) (y := nt a.p (rs.map Qw.x) q) ((hlt m).trans (hlt q).symm)).trans (hlt m)
          have hsame := fun W v1 v2 rs1 rs2 (h1 : ScV W v1 a.p rs1) (h2 : ScV W v2 a.p rs2) (e1 : rs1.map Qw.x = subN a.p (rs.map Qw.x) l) (e2 : rs2.map Qw.x = subN a.p (rs.map Qw.x) l) => (show Calls Tryz.prog 45 #[v1, v2] W fun e w' => e = .returned (.bool true) ∧ Ext W w' by
            have hsl : ∀ r : Qw, r.x ∈ subN a.p (rs.map Qw.x) l → r.x.length ≤ 1000 := fun r hr => by
              unfold subN at hr
              obtain ⟨m, _, e⟩ := List.mem_map.1 hr
              rw [← e, hls]
              omega
            have hll : (subN a.p (rs.map Qw.x) l).length ≤ 1000 := by
              unfold subN
              rw [List.length_map, subK_len _ Hne.out, HL.out]
              omega
            have := lSame_c v1 v2 a.p a.p rs1 rs2 W h1 h2 (by omega) (by omega) (by rw [← e1, List.length_map] at hll; exact hll) (by rw [← e2, List.length_map] at hll; exact hll) (fun r hr => hsl r (by rw [← e1]; exact List.mem_map_of_mem hr)) (fun r hr => hsl r (by rw [← e2]; exact List.mem_map_of_mem hr))
            rw [e1, e2, decide_eq_true rfl, decide_eq_true rfl] at this
            exact this)
          have hK : subN a.p (rs.map Qw.x) l = (t0 ++ [x0 + (N : Int)]).map fun k => subZ (nt a.p (rs.map Qw.x) k) (nt a.p (rs.map Qw.x) x0) := by
            rw [hlx]
            unfold subN subK
            rw [List.length_map, HN.out]
            rfl
          obtain ⟨j0, hj, hy0, hy1, hy2⟩ := info_parts info_size
          obtain ⟨i0, hi, hz0, hz1, hz2⟩ := info_parts info_int
          have Hin' := Lib.hid hin; have Hlx := Lib.hid hlx; have Htl := Lib.hid htl; have Hno := Lib.hid hno; have Hle := Lib.hid hle; have Hls := Lib.hid hls; have Hsame := Lib.hid hsame; have HK := Lib.hid hK; have Hso := Lib.hid (HE3.out); have Hso2 := Lib.hid (hso.ext HE3.out); have Hmo := Lib.hid hmo; have Hlt := Lib.hid hlt
          clear hin hup hlx htl hno hle hls hsame hK hso hmo hlt hkl hk HEn HEz hEc hok Hok Hn3
          have hk2 : 0 < k := by omega
          obtain ⟨j, hjk⟩ : ∃ j, k = j + 1 := ⟨k - 1, by omega⟩
          subst hjk
          have hj1' : (1 : Int) ≤ (j : Int) + 1 := by omega
          have hk1 : (0 : Int) < (j : Int) + 1 := by omega
          have htj : t0.length = j := by omega
          obtain ⟨o2, ho2⟩ : ∃ o2, o2 = if cl = 1 then off else off + 1 := ⟨_, rfl⟩
          have hse2 : (if cl = 1 then some (⟨b, off, none⟩ : Addr) else some ⟨b, off + 1, none⟩) = some ⟨b, o2, none⟩ := by rw [ho2]; split <;> rfl
          have hci := fun W (hE : Ext w W) => cloneI_c b o2 (cl - 1) t0 W (by omega) (fun i z hz => by
            have hi := (List.getElem?_eq_some_iff.1 hz).1
            have hcl2 : j + 1 ≤ cl := Hcl.out
            rw [ho2, if_neg (by omega)]
            exact Htl.out W hE i z hz)
          rw [htj] at hci
          have Hci := Lib.hid hci; have Htj := Lib.hid htj
          clear hci ho2 htk htj
          have hcl := Hcl.out
          obtain ⟨wa, hwa⟩ : ∃ wa, wa = wr := ⟨_, rfl⟩
          subst hwa
          have Hb7 := Lib.hid (BoxT.new 32 wa (.slice a2 a.p.length c2) (.slice none 0 0))
          have H6x : Hid (Ext wa (wa.alloc (.cells #[.slice a2 a.p.length c2, .slice none 0 0] 32))) := Lib.hid ((Ext.refl wa).alloc _)
          go_upto_region 19 with (fail)
          have hwx : IntKind.i64.wrap (x0 + (N : Int)) = x0 + (N : Int) := IntWalk.i64_in _ (by omega)
          have hB7 := Hb7.out
          have hE7 := H6x.out
          generalize hW7 : wa.alloc (.cells #[.slice a2 a.p.length c2, .slice none 0 0] 32) = W7 at *
          have hwE7 := Hx3.out.trans hE7
          have hq7 := Hb2.out.ext (H23.out.trans hE7.drew)
          have q0 := hq7.c0
          have q1 := hq7.c1
          have hc0' := hE7.drew.cell hc0
          have hm3 : j + 1 ≤ maxLen := by unfold maxLen; omega
          have hm4 : (j + 1) * 8 ≤ 140737488355328 := by omega
          have HwE7 := Lib.hid hwE7; have HB7 := Lib.hid hB7; have HE7 := Lib.hid hE7
          have HV := Lib.hid (Ext.refl W7).drew
          clear hB7 hE7 hwE7 Hb7 H6x hq7
          go_cut [94, 95, 96] from 83 to 97 (fun v94 v95 v96 wx => SubCut W7 j (t0 ++ [x0 + (N : Int)]) v94 v95 v96 wx)
          case first =>
           go_region_law (first
            | (go_simp; go_at_call 44; refine (Hci.out _ HwE7.out.drew).mono ?_; rintro e V1 ⟨uc, rfl, hoc, hnc, hx⟩; have hoc' := hoc; unfold OwnI at hoc'; rw [Htj.out] at hoc'; obtain ⟨ac, cc, rfl⟩ := own_shape hoc'; have q0 := hx.cell q0; have q1 := hx.cell q1; have hc0' := hx.cell hc0'; have Hoc := Lib.hid hoc'; have Hfirst := Lib.hid hx; have HV1 := Lib.hid (HV.out.trans hx); clear hoc hoc' hx hnc)
            | (go_simp; go_at_call 44; refine (Hci.out _ (HwE7.out.drew.alloc _)).mono ?_; rintro e V1 ⟨uc, rfl, hoc, hnc, hx⟩; have hoc' := hoc; unfold OwnI at hoc'; rw [Htj.out] at hoc'; obtain ⟨ac, cc, rfl⟩ := own_shape hoc'; have Hoc := Lib.hid hoc'; have Hsecond := Lib.hid hx; have HV1 := Lib.hid ((HV.out.alloc _).trans hx); clear hoc hoc' hx hnc)
            | (have _t := Hfirst; refine step_append_lies _ rfl (.tmp 85) (.tmp 93) 28 rfl W7.heap.size 3 i0 (.int .i64 0) 1 8 Tryz.underlying28 hi hz0 hz1 hz2 rfl (by decide) (.slice ac j cc) j (i64s t0) rfl ((own_mono Hoc.out (Nat.le_refl _)).alloc _) ⟨V1.heap.size, 0, none⟩ 1 1 [.int .i64 (x0 + (N : Int))] rfl rfl (cell_one_new V1 _ _) (by simp [Value.oneCell']) (by decide) hm3 hm4 (HV1.out.alloc (.cells #[.int .i64 (x0 + (N : Int))] 3)).size _ rfl ?_; intro g3 c3 V2 hown3 hgrow3 hat3 hlt3; have HV2 := Lib.hid ((HV1.out.alloc (.cells #[.int .i64 (x0 + (N : Int))] 3)).grown hgrow3 fun k hk => (World.ownsRow.lt ((own_mono Hoc.out (Nat.le_refl _)).alloc (.cells #[.int .i64 (x0 + (N : Int))] 3)) k hk).1); have Hown3 := Lib.hid hown3; clear hown3 hgrow3 hat3 hlt3)
            | (have _t := Hsecond; refine step_append_lies _ rfl (.tmp 85) (.tmp 93) 28 rfl W7.heap.size 3 i0 (.int .i64 0) 1 8 Tryz.underlying28 hi hz0 hz1 hz2 rfl (by decide) (.slice ac j cc) j (i64s t0) rfl (own_mono Hoc.out (by rw [World.size_alloc]; exact Nat.le_succ _)) ⟨W7.drew.heap.size, 0, none⟩ 1 1 [.int .i64 (x0 + (N : Int))] rfl rfl (fun j u h => Hsecond.out.cell (cell_one_new W7.drew _ _ j u h)) (by simp [Value.oneCell']) (by decide) hm3 hm4 HV1.out.size _ rfl ?_; intro g3 c3 V2 hown3 hgrow3 hat3 hlt3; have HV2 := Lib.hid (HV1.out.grown hgrow3 fun k hk => (World.ownsRow.lt (own_mono Hoc.out (by rw [World.size_alloc]; exact Nat.le_succ _)) k hk).1); have Hown3 := Lib.hid hown3; clear hown3 hgrow3 hat3 hlt3))
           all_goals
            have Hfin3 : Hid (SubCut W7 j (t0 ++ [x0 + (N : Int)]) (.slice (some ⟨g3, 0, none⟩) (j + 1) c3) (.int .i64 ((j : Int) + 1)) (.int .i64 0) V2) := Lib.hid ⟨g3, c3, rfl, rfl, rfl, (by unfold i64s at *; rw [List.map_append]; exact Hown3.out), HV2.out⟩
            go_wp2_with fail
            go_meet
            exact Hfin3.out
          case rest =>
            obtain ⟨g3, c3, rfl, rfl, rfl, hown3, hV2⟩ := hcut
            have hKl : (t0 ++ [x0 + (N : Int)]).length = j + 1 := by rw [List.length_append, Htj.out]; rfl
            have hKb : ∀ i, i < j + 1 → ∃ z, (t0 ++ [x0 + (N : Int)])[i]? = some z ∧ -1000 ≤ z ∧ z ≤ 1000 := fun i hi => by
              refine ⟨_, List.getElem?_eq_getElem (by rw [hKl]; exact hi), ?_⟩
              have hm := List.getElem_mem (l := t0 ++ [x0 + (N : Int)]) (n := i) (by rw [hKl]; exact hi)
              generalize (t0 ++ [x0 + (N : Int)])[i]'(by rw [hKl]; exact hi) = z at hm ⊢
              rcases List.mem_append.1 hm with e | e
              · have := Hin'.out z (by rw [Hlx.out]; exact List.mem_cons_of_mem _ e)
                omega
              · rw [List.mem_singleton] at e
                omega
            have hKt : ∀ i z, (t0 ++ [x0 + (N : Int)])[i]? = some z → ((t0 ++ [x0 + (N : Int)]).map fun k => subZ (nt a.p (rs.map Qw.x) k) (nt a.p (rs.map Qw.x) x0)).take (i + 1) = ((t0 ++ [x0 + (N : Int)]).map fun k => subZ (nt a.p (rs.map Qw.x) k) (nt a.p (rs.map Qw.x) x0)).take i ++ [subZ (nt a.p (rs.map Qw.x) z) (nt a.p (rs.map Qw.x) x0)] := fun i z hz => by
              obtain ⟨hi, e⟩ := List.getElem?_eq_some_iff.1 hz
              rw [List.take_succ_eq_append_getElem (by rw [List.length_map]; exact hi), List.getElem_map, e]
            have hKf : ((t0 ++ [x0 + (N : Int)]).map fun k => subZ (nt a.p (rs.map Qw.x) k) (nt a.p (rs.map Qw.x) x0)).take (j + 1) = subN a.p (rs.map Qw.x) l := by rw [HK.out]; exact List.take_of_length_le (by rw [List.length_map, hKl]; exact Nat.le_refl _)
            have hKn : ((t0 ++ [x0 + (N : Int)]).map fun k => subZ (nt a.p (rs.map Qw.x) k) (nt a.p (rs.map Qw.x) x0)).length = j + 1 := by rw [List.length_map, hKl]
            have hx01 : -1000 ≤ x0 ∧ x0 ≤ 1000 := by omega
            generalize (t0 ++ [x0 + (N : Int)]).map (fun k => subZ (nt a.p (rs.map Qw.x) k) (nt a.p (rs.map Qw.x) x0)) = FS at *
            generalize t0 ++ [x0 + (N : Int)] = KS at *
            have HKb := Lib.hid hKb; have HKt := Lib.hid hKt; have HKf := Lib.hid hKf; have HKn := Lib.hid hKn; have HV2 := Lib.hid hV2; have Hown3 := Lib.hid hown3; have HE6w := Lib.hid (HE7.out.trans hV2); have HBn := Lib.hid (HB7.out.ext hV2); have Hc0 := Lib.hid hc0
            clear hKl hKb hKt hKf hKn hV2 hown3 hx0b hc0 hc0' hwx hm3 hm4 q0 q1 r1
            go_wp2_with fail
            go_loopw [13, 96] (fun v13 v96 wr => ∃ i : Nat, v96 = .int .i64 i ∧ i ≤ j + 1 ∧ NtR wa.heap.size wa wa.heap.size (.slice a2 a.p.length c2) (FS.take i) wr ∧ Hid (wr.ownsRow W7.heap.size 3 1 (.slice (some ⟨g3, 0, none⟩) (j + 1) c3) (j + 1) (i64s KS))) (fun _ v96 _ => j + 1 - (intOf v96).toNat)
            case atStart => exact ⟨0, rfl, Nat.zero_le _, ⟨.slice none 0 0, [], HBn.out, QwM.nil _ _ _, rfl, HE6w.out⟩, Hown3⟩
            case round =>
              obtain ⟨i, rfl, hi, ⟨vn, nts, hbn, hqn, hmn, hEn⟩, Hrow⟩ := hrel
              by_cases hin : i < j + 1
              · obtain ⟨z, hz, hz0, hz1⟩ := HKb.out i hin
                have hcg : wr.cell? ⟨g3, i, none⟩ = some (.int .i64 z) := row_cellI Hrow.out hz
                have hik : (i : Int) < (j : Int) + 1 := by omega
                have hi0 : (0 : Int) ≤ (i : Int) := by omega
                have hbn1 := hbn
                obtain ⟨avn, cvn, rfl⟩ := own_shape hqn.1
                have hnl : nts.length = i := by
                  have := congrArg List.length hmn
                  rw [List.length_map, List.length_take, HKn.out] at this
                  omega
                have hSQ : ∀ W, Ext wa W → Ext wa W ∧ W.cell? ⟨w2.heap.size, 0, none⟩ = some (.slice a2 a.p.length c2) ∧ W.cell? ⟨w2.heap.size, 1, none⟩ = some (.slice b2 N d2) ∧ W.cell? ⟨b, off, none⟩ = some (.int .i64 x0) := fun W hE => ⟨hE, (Hb2.out.ext (H23.out.trans hE)).c0, (Hb2.out.ext (H23.out.trans hE)).c1, hE.cell Hc0.out⟩
                have hqo := hqn.1
                have r1 := hbn.c1
                rw [hnl] at r1 hqo
                have r1 := ((Ext.refl wr).drew).cell r1
                have hls := Hls.out z x0
                have hlz := Hlt.out z
                have hlx := Hlt.out x0
                have hm3 : i + 1 ≤ maxLen := by unfold maxLen; omega
                have hm4 : (i + 1) * 24 ≤ 140737488355328 := by omega
                have hEd := hEn.drew
                have Hbn := Lib.hid hbn; have Hqn := Lib.hid hqn; have Hmn := Lib.hid hmn; have HEn := Lib.hid hEn; have Hz := Lib.hid hz; have HSQ := Lib.hid hSQ; have Hqo := Lib.hid hqo; have Hnl := Lib.hid hnl; have HEa := Lib.hid hEd; have HYa := Lib.hid ((Ext.refl wr).drew); have Hls0 := Lib.hid hls; have Hlz := Lib.hid hlz; have Hlx0 := Lib.hid hlx
                clear hbn hbn1 hqn hmn hEn hz hSQ hqo hnl hEd hls hlz hlx
                go_wp2_with fail
                refine region_Z 14 (fun w' => Ext wa w' ∧ w'.cell? ⟨w2.heap.size, 0, none⟩ = some (.slice a2 a.p.length c2) ∧ w'.cell? ⟨w2.heap.size, 1, none⟩ = some (.slice b2 N d2) ∧ w'.cell? ⟨b, off, none⟩ = some (.int .i64 x0) ∧ w'.cell? ⟨wa.heap.size, 1, none⟩ = some (.slice avn i cvn)) (by kernel_rfl) (⟨HEa.out, (HSQ.out _ (HEa.out)).2.1, (HSQ.out _ (HEa.out)).2.2.1, (HSQ.out _ (HEa.out)).2.2.2, r1⟩) (fun hHeld => ?_)
                refine anyZ_take (i := 0) (v := ?v0) rfl (by kernel_rfl) (by kernel_rfl) (by kernel_rfl) (by kernel_rfl) (fun _ _ _ h => h) (Or.inl ⟨by rfl, ?y0⟩) hHeld ?r0
                case y0 => (intro w hSw; (try dsimp only at hSw); go_simp; try with_reducible rfl)
                case r0 =>
                refine anyZ_take (i := 1) (v := ?v1) rfl (by kernel_rfl) (by kernel_rfl) (by kernel_rfl) (by kernel_rfl) (fun _ _ _ h => h) (Or.inl ⟨by rfl, ?y1⟩) hHeld ?r1
                case y1 => (intro w hSw; (try dsimp only at hSw); go_simp; try with_reducible rfl)
                case r1 =>
                refine anyZ_take (i := 2) (v := ?v2) rfl (by kernel_rfl) (by kernel_rfl) (by kernel_rfl) (by kernel_rfl) (fun _ _ _ h => h) (Or.inl ⟨by rfl, ?y2⟩) hHeld ?r2
                case y2 => (intro w hSw; (try dsimp only at hSw); go_simp; try with_reducible rfl)
                case r2 =>
                refine anyZ_take (i := 3) (v := ?v3) rfl (by kernel_rfl) (by kernel_rfl) (by kernel_rfl) (by kernel_rfl) (fun _ _ _ h => h) (Or.inl ⟨by rfl, ?y3⟩) hHeld ?r3
                case y3 => (intro w hSw; (try dsimp only at hSw); go_simp; try with_reducible rfl)
                case r3 =>
                refine anyZ_take (i := 5) (v := ?v5) rfl (by kernel_rfl) (by kernel_rfl) (by kernel_rfl) (by kernel_rfl) (fun _ _ _ h => h) (Or.inl ⟨by rfl, ?y5⟩) hHeld ?r5
                case y5 => (intro w hSw; (try dsimp only at hSw); go_simp; try with_reducible rfl)
                case r5 =>
                refine anyZ_take (i := 6) (v := ?v6) rfl (by kernel_rfl) (by kernel_rfl) (by kernel_rfl) (by kernel_rfl) (fun _ _ _ h => h) (Or.inl ⟨by rfl, ?y6⟩) hHeld ?r6
                case y6 => (intro w hSw; (try dsimp only at hSw); go_simp; try with_reducible rfl)
                case r6 =>
                refine anyZ_take (i := 7) (v := ?v7) rfl (by kernel_rfl) (by kernel_rfl) (by kernel_rfl) (by kernel_rfl) (fun _ _ _ h => h) (Or.inl ⟨by rfl, ?y7⟩) hHeld ?r7
                case y7 => (intro w hSw; (try dsimp only at hSw); go_simp; try with_reducible rfl)
                case r7 =>
                refine anyZ_take (i := 8) (v := ?v8) rfl (by kernel_rfl) (by kernel_rfl) (by kernel_rfl) (by kernel_rfl) (fun _ _ _ h => h) (Or.inl ⟨by rfl, ?y8⟩) hHeld ?r8
                case y8 => (intro w hSw; (try dsimp only at hSw); go_simp; try with_reducible rfl)
                case r8 =>
                refine anyZ_step (i := 4) (by kernel_rfl) rfl (fun K hK => ?_)
                go_simp; go_at_call 40; refine (Hno.out z hz0 hz1 _ HEa.out).mono ?_; rintro e9 V1 ⟨u1, rfl, ho, hx⟩; obtain ⟨ap, cp, rfl, hrp⟩ := rd_let ho.rd Hlz.out; have HE1 := Lib.hid (HEa.out.trans hx); have HY1 := Lib.hid (HYa.out.trans hx); have Hr1 := Lib.hid hrp; have r1 := hx.cell r1; clear ho hx hrp
                refine hK.out _ _ (⟨HE1.out, (HSQ.out _ (HE1.out)).2.1, (HSQ.out _ (HE1.out)).2.2.1, (HSQ.out _ (HE1.out)).2.2.2, r1⟩) (fun hHeld => ?_)
                clear hK K
                refine anyZ_step (i := 9) (by kernel_rfl) rfl (fun K hK => ?_)
                go_simp; go_at_call 40; refine (Hno.out x0 hx01.1 hx01.2 V1 HE1.out).mono ?_; rintro e9 V2 ⟨u2, rfl, ho, hx⟩; obtain ⟨aq, cq, rfl, hrq⟩ := rd_let ho.rd Hlx0.out; have HE2 := Lib.hid (HE1.out.trans hx); have HY2 := Lib.hid (HY1.out.trans hx); have Hr2 := Lib.hid hrq; have Hr1b := Lib.hid (hx.rd Hr1.out); have r1 := hx.cell r1; clear ho hx hrq
                refine hK.out _ _ (⟨HE2.out, (HSQ.out _ (HE2.out)).2.1, (HSQ.out _ (HE2.out)).2.2.1, (HSQ.out _ (HE2.out)).2.2.2, r1⟩) (fun hHeld => ?_)
                clear hK K
                refine anyZ_step (i := 10) (by kernel_rfl) rfl (fun K hK => ?_)
                go_simp; go_at_call 39; refine (Hle.out z x0 hz0 hz1 hx01.1 hx01.2 V2 _ _ HE2.out Hr1b.out Hr2.out).mono ?_; rintro e9 V3 ⟨u3, rfl, ho, hx⟩; obtain ⟨au, cu, rfl, _⟩ := rd_let ho.rd Hls0.out; have HE3 := Lib.hid (HE2.out.trans hx); have HY3 := Lib.hid (HY2.out.trans hx); have Ho3 := Lib.hid (ho.mono HE2.out.size); have r1 := hx.cell r1; have HqoV := Lib.hid (HY3.out.own Hqo.out); have HbV3 : Hid (BoxT 32 V3 wa.heap.size (.slice a2 a.p.length c2) (.slice avn i cvn)) := Lib.hid (by have := Hbn.out.ext HY3.out; rw [Hnl.out] at this; exact this); have r1a := ((Ext.refl V3).alloc (.cells #[.slice au a.p.length cu] 41)).cell r1; clear ho hx
                refine hK.out _ _ (⟨HE3.out, (HSQ.out _ (HE3.out)).2.1, (HSQ.out _ (HE3.out)).2.2.1, (HSQ.out _ (HE3.out)).2.2.2, r1⟩) (fun hHeld => ?_)
                clear hK K
                refine anyZ_step (i := 11) (by kernel_rfl) rfl (fun K hK => ?_)
                go_simp
                refine hK.out _ _ (⟨HE3.out.alloc _, (HSQ.out _ (HE3.out.alloc _)).2.1, (HSQ.out _ (HE3.out.alloc _)).2.2.1, (HSQ.out _ (HE3.out.alloc _)).2.2.2, r1a⟩) (fun hHeld => ?_)
                clear hK K
                refine anyZ_step (i := 12) (by kernel_rfl) rfl (fun K hK => ?_)
                refine step_append_lies _ rfl (.tmp 101) (.tmp 111) 30 rfl wa.heap.size 41 j0 (.slice none 0 0) 1 24 Tryz.underlying30 hj hy0 hy1 hy2 rfl (by decide) (.slice avn i cvn) i (qwc nts) (by simp [Act.eval]) (HqoV.out.alloc _) ⟨V3.heap.size, 0, none⟩ 1 1 [.slice au a.p.length cu] (by simp [Act.eval]) rfl (cell_one_new V3 _ _) (by simp [Value.oneCell']) (by decide) hm3 hm4 (HE3.out.alloc (.cells #[.slice au a.p.length cu] 41)).size _ rfl ?_; intro g4 c4 V4 hown4 hgrow4 hat4 hlt4; have hE4 := (HE3.out.alloc (.cells #[.slice au a.p.length cu] 41)).grown hgrow4 fun k hk => (World.ownsRow.lt (HqoV.out.alloc (.cells #[.slice au a.p.length cu] 41)) k hk).1; have hbV : BoxT 32 V4 wa.heap.size (.slice a2 a.p.length c2) (.slice avn i cvn) := kept_box (((Ext.refl V3).alloc _).heap HbV3.out) (HqoV.out.alloc (.cells #[.slice au a.p.length cu] 41)) (by decide) hgrow4; have d1 := hbV.c1; have e1 := hbV.fz 1; have HE4 := Lib.hid hE4; have Hgrow4 := Lib.hid hgrow4; have Hown4 := Lib.hid hown4; have Hbv4 := Lib.hid hbV; clear hE4 hgrow4 hown4 hat4 hlt4 hbV
                refine hK.out _ _ (⟨HE4.out, (HSQ.out _ (HE4.out)).2.1, (HSQ.out _ (HE4.out)).2.2.1, (HSQ.out _ (HE4.out)).2.2.2, d1⟩) (fun hHeld => ?_)
                clear hK K
                refine anyZ_step (i := 13) (by kernel_rfl) rfl (fun K hK => ?_)
                go_simp
                refine hK.out _ _ (⟨HE4.out, (HSQ.out _ (HE4.out)).2.1, (HSQ.out _ (HE4.out)).2.2.1, (HSQ.out _ (HE4.out)).2.2.2, d1⟩) (fun hHeld => ?_)
                clear hK K
                refine anyZ_last (i := 14) (by kernel_rfl) (by decide) rfl (fun K hK => ?_)
                go_simp
                refine hK.out _ _ ?_
                clear hK K
                refine anyZ_done (by kernel_rfl) ?_
                all_goals
                  have hrkal := World.ownsRow.alloc (HY3.out.own Hrow.out) (.cells #[.slice au a.p.length cu] 41)
                  have hrkne := own_ne hrkal (HqoV.out.alloc (.cells #[.slice au a.p.length cu] 41)) (by decide)
                  have hrow7 := World.ownsRow.kept hrkal Hgrow4.out hrkne
                  have hqk := HY3.out.qwM Hqn.out
                  rw [Hnl.out] at hqk
                  have hR := NtR.more (W6 := wa) (W := V3) (v7 := .slice (some ⟨g4, 0, none⟩) (i + 1) c4) (Nat.le_refl _) HbV3.out hqk Hmn.out HE3.out Ho3.out (by rw [Hnl.out]; exact Hown4.out) Hgrow4.out
                  rw [← HKt.out i z Hz.out] at hR
                  have hRr := own_set_apart Hbv4.out hrow7 (by decide) 1 (.slice (some ⟨g4, 0, none⟩) (i + 1) c4)
                  have HR := Lib.hid hR; have HRr := Lib.hid hRr
                  clear hR hRr hrkal hrkne hrow7 hqk d1 e1
                  generalize V4.setCell ⟨wa.heap.size, 1, none⟩ (.slice (some ⟨g4, 0, none⟩) (i + 1) c4) = V5 at *
                  go_wp2_with fail
                  go_roundw
                  case rel => exact ⟨i + 1, by go_num, by omega, HR.out, HRr⟩
                  case measure => simp [intOf]; omega
              · obtain rfl : i = j + 1 := by omega
                have hik : ¬ ((j + 1 : Nat) : Int) < (j : Int) + 1 := by omega
                have hmn2 := hmn.trans HKf.out
                obtain ⟨avn, cvn, rfl⟩ := own_shape hqn.1
                have r0 := hbn.c0
                have r1 := hbn.c1
                have hb3 := Hb3.out.ext hEn
                have k0 := hb3.c0
                have k1 := hb3.c1
                have hpl : Sl wr (.slice a2 a.p.length c2) (i64s a.p) := by
                  obtain ⟨vp, vn, e, h1, _⟩ := Hs2.out.ext (H23.out.trans hEn)
                  simp only [Value.agg.injEq, Array.mk.injEq, List.cons.injEq, and_true] at e
                  rw [e.1]
                  exact h1
                have hsm := Hsame.out wr _ (.agg #[.slice a2 a.p.length c2, .slice avn nts.length cvn]) out nts (Hso2.out.ext hEn) ⟨_, _, rfl, hpl, hqn.rd⟩ Hmo.out hmn2
                have Hsm := Lib.hid hsm; have Hx9 := Lib.hid (Hx3.out.trans hEn)
                clear hsm hmn2 hpl hb3 hqn hbn hmn hEn
                go_wp2_with fail
                refine Hsm.out.mono ?_
                rintro e w9 ⟨rfl, hx9⟩
                have Hxx := Lib.hid (Hx9.out.trans hx9)
                clear hx9
                go_wp2
                go_ret
                exact ⟨rfl, Hxx.out⟩
end Go.Proofs.YtaakmdjicocjpaaGreatDoor
