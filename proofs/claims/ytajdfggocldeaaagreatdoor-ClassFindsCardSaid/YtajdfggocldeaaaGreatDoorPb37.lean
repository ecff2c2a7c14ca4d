/- Walks: law 31's note over a plain right scale. Walks: law 24's Same; law 32's less, same, equal; law 31's Note. Walks: law 32's interval. What the laws of worlds begin with: a world in its box. Walk: scale.Steps of a right scale. Walk: law 31's Major. -/
import Derived.Test.YtajdfggocldeaaaGreatDoorPb36
import Derived.Test.YtajdfggocldeaaaGreatDoorPb22
import Derived.Test.YtajdfggocldeaaaGreatDoorPb33
import Derived.Test.YtajdfggocldeaaaGreatDoorPb20
import Derived.Test.YtajdfggocldeaaaGreatDoorPb27
set_option maxRecDepth 100000
set_option maxHeartbeats 2000000
namespace Go.Proofs.YtajdfggocldeaaaGreatDoor
open Go.RowKit Go.Lib
theorem sn_mulov (n : Nat) {q : Int} (h : q.natAbs ≤ 30000) : ∀ x ∈ mulZ (ov n) (q : Rat), Sn x := by
  rw [mul_ov]
  unfold zer
  rw [List.replicate_succ]
  intro x hx
  simp only [shf, List.mem_cons] at hx
  rcases hx with rfl | hx
  · rw [show (0 : Rat) + (q : Rat) = (q : Rat) by grind]
    exact sn_int h
  · rw [List.eq_of_mem_replicate hx]
    exact sn_zero
/-- The differences of notes are small. -/
theorem Wd.nt_sub_sn {p : List Int} {N : List (List Rat)} (h : Wd p N) (k l : Int) (hk0 : -1000 ≤ k) (hk1 : k ≤ 1000) (hl0 : -1000 ≤ l) (hl1 : l ≤ 1000) : ∀ r ∈ subZ (nt p N k) (nt p N l), Sn r := by
  obtain ⟨n, hn⟩ := h.dif
  have h0 := h.pos
  have hN : (0 : Int) < (N.length : Int) := by omega
  have e1 := div_bd (a := k) (b := (N.length : Int)) (m := 1000) hN hk0 hk1 (by omega)
  have e2 := div_bd (a := l) (b := (N.length : Int)) (m := 1000) hN hl0 hl1 (by omega)
  have b1 := h.nt_bd k
  have b2 := h.nt_bd l
  have c1 : (-1000 : Rat) ≤ ((k / (N.length : Int) : Int) : Rat) := Rat.intCast_le_intCast.2 e1.1
  have c2 : ((k / (N.length : Int) : Int) : Rat) ≤ 1000 := Rat.intCast_le_intCast.2 e1.2
  have c3 : (-1000 : Rat) ≤ ((l / (N.length : Int) : Int) : Rat) := Rat.intCast_le_intCast.2 e2.1
  have c4 : ((l / (N.length : Int) : Int) : Rat) ≤ 1000 := Rat.intCast_le_intCast.2 e2.2
  have hs := sF_sub p (nt p N k) (nt p N l) (by rw [h.ntlen, h.ntlen])
  have hl := (subZ_len (x := nt p N k) (y := nt p N l) (by rw [h.ntlen, h.ntlen])).trans (h.ntlen k)
  have hc : ((2001 * 67108864 : Int) : Rat) = 2001 * 67108864 := by rw [Rat.intCast_mul]; rfl
  exact nic_sn (c := 2001) (by rw [hl]; exact h.pr) (h.nt_nic hn k l) (by omega) (by omega) (by rw [hc]; grind) (by rw [hc]; grind)
theorem Wd.nt_sn {p : List Int} {N : List (List Rat)} (h : Wd p N) (k : Int) (hk0 : -1000 ≤ k) (hk1 : k ≤ 1000) : ∀ r ∈ nt p N k, Sn r := by
  have := h.nt_sub_sn k 0 hk0 hk1 (by omega) (by omega)
  rw [h.nt_zero, ← h.ntlen k, subZ_zer] at this
  exact this
theorem Wd.mem_sn {p : List Int} {N : List (List Rat)} (h : Wd p N) {x : List Rat} (hx : x ∈ N) : ∀ r ∈ x, Sn r := by
  obtain ⟨i, hi, e⟩ := List.mem_iff_getElem.1 hx
  have h10 := h.few
  have hz := h.nt_low (i := i + 1) (by omega)
  have e2 : zat p N (i + 1) = x := by unfold zat; rw [List.getElem?_cons_succ, List.getElem?_eq_getElem hi, e]; rfl
  rw [← e2, ← hz]
  exact h.nt_sn _ (by omega) (by omega)
theorem lNote_c (v : Value) (p : List Int) (rs : List Qw) (k : Int) (w : World) (he : Env w) (hv : ScV w v p rs) (h : Wd p (rs.map Qw.x)) (hk0 : -1000 ≤ k) (hk1 : k ≤ 1000) :
    Calls Tryz.prog 61 #[v, .int .i64 k] w fun e w' => ∃ u, e = .returned u ∧ OwnQ w' w.heap.size u (nt p (rs.map Qw.x) k) ∧ Ext w w' := by
  have hpos := h.pos
  have hfew := h.few
  rw [List.length_map] at hpos hfew
  obtain ⟨n, hn⟩ : ∃ n, rs.length = n + 1 := ⟨rs.length - 1, by omega⟩
  obtain ⟨r, hr⟩ : ∃ r, rs[n]? = some r := ⟨_, List.getElem?_eq_getElem (by omega)⟩
  have hp3 : p.length ≤ 100 ∧ 0 < p.length := by rcases h.pr with ⟨e, _⟩ | ⟨e, _⟩ <;> rw [e] <;> decide
  have hrx : r.x = ov (p.length - 1) := by
    have := h.last
    rw [List.length_map, hn, Nat.add_sub_cancel, List.getElem?_map, hr] at this
    exact Option.some.inj this
  have hnq := h.noteQ hn k
  have hN : (0 : Int) < (n : Int) + 1 := by omega
  have htf := trunc_floor (k := k) hN
  have h3 := Int.emod_nonneg k (show (n : Int) + 1 ≠ 0 by omega)
  have h4 := Int.emod_lt_of_pos k hN
  have hqb := div_bd (a := k) (b := (n : Int) + 1) (m := 1000) hN hk0 hk1 (by omega)
  have hof := fun W (hE : Ext w W) => of_c (k / ((n : Int) + 1)) 1 W (he.ext hE) (by omega) (by decide) (by decide)
  rw [show mkRat (k / ((n : Int) + 1)) 1 = ((k / ((n : Int) + 1) : Int) : Rat) from Rat.mkRat_one _] at hof
  obtain ⟨vp, vn, rfl, hp, hs, hm⟩ := hv
  have hmem := List.mem_of_getElem? hr
  have hmr := hm r hmem
  have hti := fun W (hE : Ext w W) => lTimes_c r.u r.x ((k / ((n : Int) + 1) : Int) : Rat) W (he.ext hE) (hE.rd hmr) (by rw [hrx, ov_len]; omega) (by rw [hrx]; exact ov_sn _) (sn_int (by omega))
  obtain ⟨ap, cp, rfl, _, _, _⟩ := hp.parts
  obtain ⟨an, cn, rfl, _, _, hc⟩ := hs.parts
  rw [i64s_length]
  rw [qwc_length, hn]
  obtain ⟨b, off, rfl, hc0⟩ := hc n r.u (by unfold qwc; rw [List.getElem?_map, hr]; rfl)
  have hzero : k % ((n : Int) + 1) = 0 → nt p (rs.map Qw.x) k = mulZ r.x ((k / ((n : Int) + 1) : Int) : Rat) := fun e => by rw [← hnq]; unfold noteQ; rw [hr]; simp only [e, if_true]; rfl
  have hadd : ¬ k % ((n : Int) + 1) = 0 → ∃ (j : Nat) (s : Qw), (j : Int) = k % ((n : Int) + 1) - 1 ∧ (∃ a c, s.u = .slice a p.length c) ∧ w.cell? ⟨b, off + j, none⟩ = some s.u ∧
      ∀ W vb, Ext w W → Rd W vb (mulZ r.x ((k / ((n : Int) + 1) : Int) : Rat)) → Calls Tryz.prog 67 #[vb, s.u] W fun e w' => ∃ u, e = .returned u ∧ OwnQ w' W.heap.size u (nt p (rs.map Qw.x) k) ∧ Ext W w' := fun e => by
    obtain ⟨j, hj⟩ : ∃ j : Nat, (j : Int) = k % ((n : Int) + 1) - 1 := ⟨(k % ((n : Int) + 1) - 1).toNat, by omega⟩
    obtain ⟨s, hs1⟩ : ∃ s, rs[j]? = some s := ⟨_, List.getElem?_eq_getElem (by omega)⟩
    have hsm := List.mem_of_getElem? hs1
    have hrs := hm s hsm
    obtain ⟨b2, off2, e2, hcs⟩ := hc j s.u (by unfold qwc; rw [List.getElem?_map, hs1]; rfl)
    cases e2
    have hsl : s.x.length = p.length := h.len _ (List.mem_map_of_mem hsm)
    have hnq2 : nt p (rs.map Qw.x) k = addZ (mulZ r.x ((k / ((n : Int) + 1) : Int) : Rat)) s.x := by
      rw [← hnq]
      unfold noteQ
      rw [hr, if_neg e, show (k % ((n : Int) + 1)).toNat - 1 = j by omega, hs1]
      rfl
    refine ⟨j, s, hj, ?_, hcs, fun W vb hE hb => ?_⟩
    · obtain ⟨a, c, hu, _⟩ := hrs.parts
      rw [hsl] at hu
      exact ⟨a, c, hu⟩
    · rw [hnq2]
      exact lAdd_c vb s.u _ s.x W (he.ext hE) hb (hE.rd hrs) (by unfold mulZ; rw [List.length_map, hrx, ov_len, hsl]; omega) (by unfold mulZ; rw [List.length_map, hrx, ov_len]; omega) (by rw [hrx]; exact sn_mulov _ (by omega)) (h.mem_sn (List.mem_map_of_mem hsm))
  have hru : ∃ a c, r.u = .slice a p.length c := by
    obtain ⟨a, c, hu, _⟩ := hmr.parts
    rw [hrx, ov_len, show p.length - 1 + 1 = p.length by omega] at hu
    exact ⟨a, c, hu⟩
  obtain ⟨ra, rc', hru⟩ := hru
  rw [hru] at hc0 hti
  have hml : ((mulZ r.x ((k / ((n : Int) + 1) : Int) : Rat))).length = p.length := by unfold mulZ; rw [List.length_map, hrx, ov_len]; omega
  have hcast : ((n + 1 : Nat) : Int) = (n : Int) + 1 := by omega
  have hnz : ((n : Int) + 1) ≠ 0 := by omega
  have hn0 : (0 : Int) ≤ (n : Int) := by omega
  have hn1 : (n : Int) < (n : Int) + 1 := by omega
  have hn10 : n < 10 := by omega
  have hwn : IntKind.i64.wrap ((n : Int) + 1 - 1) = (n : Int) := by rw [show (n : Int) + 1 - 1 = (n : Int) by omega]; exact IntWalk.i64_in _ (by omega)
  have hwn2 : IntKind.i64.wrap (n : Int) = (n : Int) := IntWalk.i64_in _ (by omega)
  have hwm : wrap64 (k % ((n : Int) + 1)) = k % ((n : Int) + 1) := by unfold wrap64; omega
  have hE0 : Ext w (w.alloc (.cells #[.slice ap p.length cp, .slice (some ⟨b, off, none⟩) (n + 1) cn] 35)) := (Ext.refl w).alloc _
  have b0 := BoxT.new 35 w (.slice ap p.length cp) (.slice (some ⟨b, off, none⟩) (n + 1) cn)
  unfold Rv at hof hti
  generalize I (((k / ((n : Int) + 1) : Int) : Rat)).num = s1 at *
  generalize I (((((k / ((n : Int) + 1) : Int) : Rat)).den : Nat) : Int) = s2 at *
  clear hp hs hm he h hmr hmem hc hnq hn hr hrx hru hfew
  have Hof := Lib.hid hof; have Hti := Lib.hid hti; have Htf := Lib.hid htf; have Hzero := Lib.hid hzero; have Hadd := Lib.hid hadd; have Hml := Lib.hid hml; have HE0 := Lib.hid hE0; have B0 := Lib.hid b0; have Hc0 := Lib.hid hc0
  clear hof hti htf hzero hadd hml hE0 b0 hc0
  have hdec : k.tmod ((n : Int) + 1) < 0 ∨ ¬ k.tmod ((n : Int) + 1) < 0 := by omega
  rcases hdec with hs | hs
  case' inl => obtain ⟨e1, e2⟩ := Htf.out.1 hs
  case' inr => obtain ⟨e1, e2⟩ := Htf.out.2 hs
  all_goals
    go_enter Tryz.func61, Tryz.ntmps61
    go_wp2_with fail
    go_quiet (fail)
    go_wp2_with fail
    generalize hV : (w.alloc (.cells #[.slice ap p.length cp, .slice (some ⟨b, off, none⟩) (n + 1) cn] 35)).drewN nq = V at *
    have hEV : Ext (w.alloc (.cells #[.slice ap p.length cp, .slice (some ⟨b, off, none⟩) (n + 1) cn] 35)) V := by rw [← hV]; exact (Ext.refl _).drewN _
    have q1 := (B0.out.ext hEV).c1
    have hEw := HE0.out.trans hEV
    have qn := hEw.cell Hc0.out
    have HEw := Lib.hid hEw; have HEV := Lib.hid hEV
    clear hV hEV hEw
    have q1 := ((Ext.refl V).drew).cell q1
    have qn := ((Ext.refl V).drew).cell qn
    have HX := Lib.hid (HEw.out.drew)
    have HY := Lib.hid (HEV.out.drew)
    go_region_law (first
      | (go_simp; go_at_call 22; refine (Hof.out _ HX.out).mono ?_; rintro e V1 ⟨rfl, hx⟩; have q1 := hx.cell q1; have qn := hx.cell qn; have HX := Lib.hid (HX.out.trans hx); have HY := Lib.hid (HY.out.trans hx); clear hx)
      | (go_simp; go_at_call 21; refine (Hti.out _ HX.out).mono ?_; rintro e V2 ⟨u2, rfl, ho, hx⟩; have HO := Lib.hid (OwnQ.mono ho HX.out.size); have HX := Lib.hid (HX.out.trans hx); have HY := Lib.hid (HY.out.trans hx); clear ho hx))
    all_goals
      clear q1 qn hwm hwn hwn2 e1 e2 hs
      by_cases hi : k % ((n : Int) + 1) = 0
      · have hnq := Hzero.out hi
        have Hnq := Lib.hid hnq
        clear hnq
        go_wp2
        go_ret
        exact ⟨_, rfl, by rw [Hnq.out]; exact HO.out, HX.out⟩
      · obtain ⟨j, s, hj, ⟨sa, sc, hsu⟩, hcs, had⟩ := Hadd.out hi
        rw [hsu] at hcs had
        have hcs2 := HX.out.cell hcs
        have q1 := (B0.out.ext HY.out).c1
        have haD := had V2 u2 HX.out HO.out.rd
        have hj0 : (0 : Int) ≤ (j : Int) := by omega
        have hj1 : (j : Int) < ((n + 1 : Nat) : Int) := by omega
        clear hcs had
        have hj3 : (j : Int) < (n : Int) + 1 := by omega
        have HaD := Lib.hid haD
        clear haD
        have hjk : k % ((n : Int) + 1) = (j : Int) + 1 := by omega
        clear hj
        generalize k % ((n : Int) + 1) = iv at *
        subst hjk
        have hwj : IntKind.i64.wrap ((j : Int) + 1 - 1) = (j : Int) := by rw [show (j : Int) + 1 - 1 = (j : Int) by omega]; exact IntWalk.i64_in _ (by omega)
        have hwj2 : IntKind.i64.wrap (j : Int) = (j : Int) := IntWalk.i64_in _ (by omega)
        have hjn : j < n + 1 := by omega
        go_wp2_with fail
        refine HaD.out.mono ?_
        rintro e V3 ⟨u3, rfl, ho3, hx3⟩
        have Ho3 := Lib.hid (OwnQ.mono ho3 HX.out.size); have Hx3 := Lib.hid (HX.out.trans hx3)
        clear ho3 hx3 q1 hcs2
        go_wp2
        go_ret
        exact ⟨_, rfl, Ho3.out, Hx3.out⟩
end Go.Proofs.YtajdfggocldeaaaGreatDoor

namespace Go.Proofs.YtajdfggocldeaaaGreatDoor
open Go.RowKit Go.Lib Go.Shelf
attribute [local go_sem] Oper.semAt_some
theorem lSame24_c (va vb : Value) (x y : List Rat) (w : World) (ha : Rd w va x) (hb : Rd w vb y) (hx : x.length ≤ 1000) (hy : y.length ≤ 1000) :
    Calls Tryz.prog 10 #[va, vb] w fun e w' => e = .returned (.bool (decide (x = y))) ∧ Ext w w' := by
  obtain ⟨aa, ca, rfl, _, _, hca⟩ := ha.parts
  obtain ⟨ab, cb, rfl, _, _, hcb⟩ := hb.parts
  clear ha hb
  by_cases hl : x.length = y.length
  · have Hl := Lib.hid hl
    rw [← hl]
    have hfin : (∀ i, i < x.length → x[i]? = y[i]?) → decide (x = y) = true := fun h => by
      rw [decide_eq_true_eq]
      apply List.ext_getElem? 
      intro i
      rcases Nat.lt_or_ge i x.length with g | g
      · exact h i g
      · rw [List.getElem?_eq_none g, List.getElem?_eq_none (by omega)]
    generalize hn : x.length = n at *
    have hbad : ∀ (i : Nat) (q r : Rat), x[i]? = some q → y[i]? = some r → q ≠ r → decide (x = y) = false := fun i q r h1 h2 h3 => by
      rw [decide_eq_false_iff_not]
      rintro rfl
      rw [h1] at h2
      exact h3 (Option.some.inj h2)
    clear hl hy
    have Hca := Lib.hid hca; have Hcb := Lib.hid hcb; have Hfin := Lib.hid hfin; have Hbad := Lib.hid hbad; have Hn := Lib.hid hn; clear hca hcb hfin hbad hn
    go_enter Tryz.func10, Tryz.ntmps10
    go_wp2_with fail
    go_loopw [5] (fun v5 wr => ∃ k : Nat, v5 = .int .i64 k ∧ k ≤ n ∧ (∀ i, i < k → x[i]? = y[i]?) ∧ Ext w wr) (fun v5 _ => n - (intOf v5).toNat)
    case atStart => exact ⟨0, rfl, Nat.zero_le _, fun i h => by omega, Ext.refl _⟩
    case round =>
      obtain ⟨k, rfl, hk, hall, hE⟩ := hrel
      by_cases hkn : k < n
      · obtain ⟨q, hq⟩ : ∃ q, x[k]? = some q := ⟨_, List.getElem?_eq_getElem (by rw [Hn.out]; exact hkn)⟩
        obtain ⟨r, hr⟩ : ∃ r, y[k]? = some r := ⟨_, List.getElem?_eq_getElem (by rw [← Hl.out]; exact hkn)⟩
        obtain ⟨ba, oa, rfl, hx0, hx1⟩ := Hca.out k q hq
        obtain ⟨bb, ob, rfl, hy0, hy1⟩ := Hcb.out k r hr
        have c0 := hE.cell hx0; have c1 := hE.cell hx1
        have e0 := hE.cell hy0; have e1 := hE.cell hy1
        have hk0 : (0 : Int) ≤ (k : Int) := by omega
        have hk1 : (k : Int) < (n : Int) := by omega
        clear hx0 hx1 hy0 hy1
        by_cases hqr : q = r
        · subst hqr
          have hnx : ∀ i, i < k + 1 → x[i]? = y[i]? := fun i hi => by
            rcases Nat.lt_or_ge i k with g | g
            · exact hall i g
            · rw [show i = k by omega, hq, hr]
          generalize I q.num = s1 at *
          generalize I (q.den : Int) = s2 at *
          clear hall hq hr
          have Hnx := Lib.hid hnx; have HE := Lib.hid hE; clear hnx hE
          go_wp2_with fail
          go_quiet (fail)
          go_wp2_with fail
          go_roundw
          case rel => exact ⟨k + 1, by go_num, by omega, Hnx.out, HE.out.drewN _⟩
          case measure => simp [intOf]; omega
        · have hb1 := Hbad.out k q r hq hr hqr
          have hpart : ¬ (I q.num).toList = (I r.num).toList ∨ ((I r.num).toList = (I q.num).toList ∧ ¬ (I (q.den : Int)).toList = (I (r.den : Int)).toList) := by
            by_cases g : (I q.num).toList = (I r.num).toList
            · refine Or.inr ⟨g.symm, fun g2 => hqr (Rv_inj ?_)⟩
              unfold Rv
              rw [toList_inj g, toList_inj g2]
            · exact Or.inl g
          generalize I q.num = s1 at *
          generalize I (q.den : Int) = s2 at *
          generalize I r.num = s3 at *
          generalize I (r.den : Int) = s4 at *
          clear hall hq hr hqr
          have Hb1 := Lib.hid hb1; have HE := Lib.hid hE; clear hb1 hE
          rcases hpart with g | ⟨g, g2⟩
          all_goals
            go_wp2_with fail
            go_quiet (fail)
            go_wp2
            go_ret
            exact ⟨by rw [Hb1.out]; rfl, HE.out.drewN _⟩
      · obtain rfl : n = k := by omega
        have hf := Hfin.out hall
        clear hall
        have Hf := Lib.hid hf; have HE := Lib.hid hE; clear hf hE
        go_wp2
        go_ret
        exact ⟨by rw [Hf.out]; rfl, HE.out⟩
  · have hne : decide (x = y) = false := by
      rw [decide_eq_false_iff_not]
      rintro rfl
      exact hl rfl
    rw [hne]
    clear hca hcb hne
    have hl2 : ¬ (x.length : Int) = (y.length : Int) := by omega
    generalize x.length = n at *
    generalize y.length = m at *
    go_enter Tryz.func10, Tryz.ntmps10
    go_wp2
    go_ret
    exact ⟨rfl, Ext.refl _⟩
theorem lNote2_c (v : Value) (p : List Int) (rs : List Qw) (k : Int) (w : World) (he : Env w) (hv : ScV w v p rs) (h : Wd p (rs.map Qw.x)) (hk0 : -1000 ≤ k) (hk1 : k ≤ 1000) :
    Calls Tryz.prog 35 #[v, .int .i64 k] w fun e w' => ∃ u, e = .returned u ∧ OwnQ w' w.heap.size u (nt p (rs.map Qw.x) k) ∧ Ext w w' := by
  have hnt := fun W (hE : Ext w W) => lNote_c v p rs k W (he.ext hE) (hv.ext hE) h hk0 hk1
  obtain ⟨vp, vn, rfl, hp, hs, hmr⟩ := hv
  obtain ⟨ap, cp, rfl, _, _, _⟩ := hp.parts
  obtain ⟨an, cn, rfl, _, _, _⟩ := hs.parts
  rw [i64s_length] at *
  rw [qwc_length] at *
  generalize rs.length = n at *
  have hE0 : Ext w (w.alloc (.cells #[.slice ap p.length cp, .slice an n cn] 35)) := (Ext.refl w).alloc _
  have b1 := BoxT.new 35 w (.slice ap p.length cp) (.slice an n cn)
  have Hnt := Lib.hid hnt; have HE0 := Lib.hid hE0
  have q0 := b1.c0
  have q1 := b1.c1
  clear hnt hE0 b1 hp hs hmr he h
  go_enter Tryz.func35, Tryz.ntmps35
  go_wp2_with fail
  refine (Hnt.out _ HE0.out).mono ?_
  rintro e w2 ⟨u, rfl, hu, hx2⟩
  have Hu := Lib.hid (hu.mono HE0.out.size); have Hx := Lib.hid (HE0.out.trans hx2)
  clear hu hx2 q0 q1
  go_wp2
  go_ret
  exact ⟨_, rfl, Hu.out, Hx.out⟩
end Go.Proofs.YtajdfggocldeaaaGreatDoor

namespace Go.Proofs.YtajdfggocldeaaaGreatDoor
open Go.RowKit Go.Lib Go.Shelf
attribute [local go_sem] Oper.semAt_some
theorem subZ_take {x y : List Rat} {k : Nat} {a b : Rat} (ha : x[k]? = some a) (hb : y[k]? = some b) : (subZ x y).take (k + 1) = (subZ x y).take k ++ [a - b] := by
  have h : (subZ x y)[k]? = some (a - b) := by
    unfold subZ
    rw [List.getElem?_zipWith, ha, hb]
  obtain ⟨hk, e⟩ := List.getElem?_eq_some_iff.1 h
  rw [List.take_succ_eq_append_getElem hk, e]
theorem interval_c (v : Value) (p : List Int) (rs : List Qw) (i d : Nat) (w : World) (he : Env w) (hv : ScV w v p rs) (h : Wc p (rs.map Qw.x)) (hi1 : i ≤ 100) (hd1 : d ≤ 100) :
    Calls Tryz.prog 11 #[v, .int .i64 (i : Int), .int .i64 (d : Int)] w fun e w' => ∃ u, e = .returned u ∧ OwnQ w' w.heap.size u (iv p (rs.map Qw.x) (i : Int) (d : Int)) ∧ Ext w w' := by
  obtain ⟨i0, hi, hz0, hz1, hz2⟩ := info_parts info_rat
  have hn1 := fun W (hE : Ext w W) => lNote2_c v p rs (i : Int) W (he.ext hE) (hv.ext hE) h.wd (by omega) (by omega)
  have hn2 := fun W (hE : Ext w W) => lNote2_c v p rs ((i : Int) + (d : Int)) W (he.ext hE) (hv.ext hE) h.wd (by omega) (by omega)
  have hqa := (h.wd.nt_quick (i : Int) (by omega) (by omega)).1
  have hqb := (h.wd.nt_quick ((i : Int) + (d : Int)) (by omega) (by omega)).1
  have hla := h.wd.ntlen (i : Int)
  have hlb := h.wd.ntlen ((i : Int) + (d : Int))
  have hp3 : p.length ≤ 100 := by rcases h.wd.pr with ⟨e, _⟩ | ⟨e, _⟩ <;> rw [e] <;> decide
  unfold iv
  generalize hx : nt p (rs.map Qw.x) ((i : Int) + (d : Int)) = x at *
  generalize hy : nt p (rs.map Qw.x) (i : Int) = y at *
  have hsub := fun (a b : Rat) (ha : a ∈ x) (hb : b ∈ y) W (hE : Ext w W) => frSub_c a b W (he.ext hE) ((hqb a ha).mono (by omega)) ((hqa b hb).mono (by omega))
  have hzl : (subZ x y).length = p.length := by rw [subZ_len (by rw [hla, hlb]), hlb]
  have hnx : ∀ k, k < p.length → ∃ a b, x[k]? = some a ∧ y[k]? = some b ∧ a ∈ x ∧ b ∈ y := fun k hk => ⟨_, _, List.getElem?_eq_getElem (by omega), List.getElem?_eq_getElem (by omega), List.getElem_mem _, List.getElem_mem _⟩
  obtain ⟨vp, vn, rfl, hp, hs, hmr⟩ := hv
  obtain ⟨ap, cp, rfl, _, _, _⟩ := hp.parts
  obtain ⟨an, cn, rfl, _, _, _⟩ := hs.parts
  rw [i64s_length] at *
  rw [qwc_length] at *
  generalize rs.length = n at *
  have hwid : IntKind.i64.wrap ((i : Int) + (d : Int)) = (i : Int) + (d : Int) := IntWalk.i64_in _ (by omega)
  have hE0 : Ext w (w.alloc (.cells #[.slice ap p.length cp, .slice an n cn] 35)) := (Ext.refl w).alloc _
  have b1 := BoxT.new 35 w (.slice ap p.length cp) (.slice an n cn)
  have hS : ∀ W, Ext (w.alloc (.cells #[.slice ap p.length cp, .slice an n cn] 35)) W → Ext (w.alloc (.cells #[.slice ap p.length cp, .slice an n cn] 35)) W ∧ W.cell? ⟨w.heap.size, 0, none⟩ = some (.slice ap p.length cp) ∧ W.cell? ⟨w.heap.size, 1, none⟩ = some (.slice an n cn) := fun W hW => ⟨hW, (b1.ext hW).c0, (b1.ext hW).c1⟩
  have Hn1 := Lib.hid hn1; have Hn2 := Lib.hid hn2; have Hsub := Lib.hid hsub; have Hzl := Lib.hid hzl; have Hnx := Lib.hid hnx; have HE0 := Lib.hid hE0; have HS := Lib.hid hS; have Hla := Lib.hid hla; have Hlb := Lib.hid hlb
  clear hn1 hn2 hsub hzl hnx hE0 hS b1 hp hs hmr he h hqa hqb hla hlb hx hy
  go_enter Tryz.func11, Tryz.ntmps11
  go_wp2_with fail
  generalize w.alloc (.cells #[.slice ap p.length cp, .slice an n cn] 35) = W0 at *
  obtain ⟨_, d0, d1⟩ := HS.out _ (Ext.refl W0).drew
  have H00 : Hid (Ext W0 W0) := Lib.hid (Ext.refl W0)
  go_region_held3 (fun w' => Ext W0 w' ∧ w'.cell? ⟨w.heap.size, 0, none⟩ = some (.slice ap p.length cp) ∧ w'.cell? ⟨w.heap.size, 1, none⟩ = some (.slice an n cn))
    (first | (with_reducible assumption) | exact HS.out _ H00.out.drew | exact HS.out _ HB.out | exact HS.out _ HA.out)
    (first
      | (have hpv := HA; clear hpv; go_at_call 35; refine (Hn2.out _ (HE0.out.trans HA.out)).mono ?_; rintro e9 VB ⟨uB, rfl, hoB, hxb⟩; have HB := Lib.hid (HA.out.trans hxb); have HoB := Lib.hid hoB; have HoA2 := Lib.hid (hxb.ownQ HoA.out); clear hxb hoB)
      | (go_at_call 35; refine (Hn1.out _ (HE0.out.trans H00.out.drew)).mono ?_; rintro e9 VA ⟨uA, rfl, hoA, hxa⟩; have HA := Lib.hid (H00.out.drew.trans hxa); have HoA := Lib.hid hoA; clear hxa hoA))
  all_goals
    have hxw := HE0.out.trans HB.out
    obtain ⟨aA, cA, rfl⟩ : ∃ a c, uA = .slice a p.length c := by
      obtain ⟨a, c, e⟩ := own_shape HoA2.out
      exact ⟨a, c, by rw [e, Hla.out]⟩
    obtain ⟨aB, cB, rfl⟩ : ∃ a c, uB = .slice a p.length c := by
      obtain ⟨a, c, e⟩ := own_shape HoB.out
      exact ⟨a, c, by rw [e, Hlb.out]⟩
    obtain ⟨_, _, e1, _, _, hca⟩ := HoA2.out.rd.parts
    injection e1 with e1 e2 e3
    subst e1
    clear e2 e3
    obtain ⟨_, _, e1, _, _, hcb⟩ := HoB.out.rd.parts
    injection e1 with e1 e2 e3
    subst e1
    clear e2 e3
    have Hca := Lib.hid hca; have Hcb := Lib.hid hcb; have Hxw := Lib.hid hxw
    clear hca hcb hxw d0 d1
    go_wp2_with fail
    go_loopw [9, 10] (fun v9 v10 wr => ∃ k : Nat, v10 = .int .i64 k ∧ k ≤ p.length ∧ wr.ownsRow VB.heap.size 55 2 v9 k (rcs ((subZ x y).take k)) ∧ Hid (Ext VB wr)) (fun _ v10 _ => p.length - (intOf v10).toNat)
    case atStart => exact ⟨0, rfl, Nat.zero_le _, World.ownsRow_nil VB _ _ 2, Lib.hid (Ext.refl _)⟩
    case round =>
      obtain ⟨k, rfl, hk, ho, HE⟩ := hrel
      obtain ⟨a9, c9, rfl⟩ := own_shape ho
      by_cases hkn : k < p.length
      · obtain ⟨a, b, hxa, hyb, hma, hmb⟩ := Hnx.out k hkn
        obtain ⟨bb, ob, rfl, h2, h3⟩ := Hcb.out k a hxa
        obtain ⟨ba, oa, rfl, h0, h1⟩ := Hca.out k b hyb
        have htk := subZ_take hxa hyb
        have hcl := fun W (hE : Ext VB W) => Hsub.out a b hma hmb W (Hxw.out.trans hE)
        unfold Rv at hcl
        generalize hs1 : I (a - b).num = s1 at *
        generalize hs2 : I (((a - b).den : Nat) : Int) = s2 at *
        have hrn : rcs ((subZ x y).take (k + 1)) = rcs ((subZ x y).take k) ++ [.string s1, .string s2] := by rw [htk, rcs_snoc, hs1, hs2]
        have Hrn := Lib.hid hrn
        clear hrn hs1 hs2 htk
        generalize I a.num = sa at *
        generalize I (a.den : Int) = sc at *
        generalize I b.num = sb at *
        generalize I (b.den : Int) = sd at *
        have hk0 : (0 : Int) ≤ (k : Int) := by omega
        have hk1 : (k : Int) < (p.length : Int) := by omega
        have c0 := HE.out.cell h0; have c1 := HE.out.cell h1; have c2 := HE.out.cell h2; have c3 := HE.out.cell h3
        have hm3 : k + 1 ≤ maxLen := by unfold maxLen; omega
        have hm4 : (k + 1) * 32 ≤ 140737488355328 := by omega
        have hS := fun W (h : Ext VB W) => (⟨h, h.cell h0, h.cell h1, h.cell h2, h.cell h3⟩ : Ext VB W ∧ W.cell? _ = _ ∧ W.cell? _ = _ ∧ W.cell? _ = _ ∧ W.cell? _ = _)
        have hbs := Hxw.out.size
        have HSc := Lib.hid hS; have Hcl := Lib.hid hcl; have Ho := Lib.hid ho
        clear hS hcl ho h0 h1 h2 h3 hxa hyb hma hmb
        go_wp2_with fail
        go_region_held3 (fun w' => Ext VB w' ∧ w'.cell? ⟨ba, oa + k * 2, none⟩ = some (.string sb) ∧ w'.cell? ⟨ba, oa + k * 2 + 1, none⟩ = some (.string sd) ∧ w'.cell? ⟨bb, ob + k * 2, none⟩ = some (.string sa) ∧ w'.cell? ⟨bb, ob + k * 2 + 1, none⟩ = some (.string sc))
          (first | with_reducible exact HSc.out _ HEV.out | with_reducible exact HSc.out _ (HEA.out.alloc _) | with_reducible exact HSc.out _ HEA.out | with_reducible exact HSc.out _ HE.out.drew)
          (first
            | (have hpv := HEA; clear hpv; refine step_append_lies _ rfl (.tmp 25) (.tmp 35) 28 rfl VB.heap.size 55 i0 (.agg #[.string ByteArray.empty, .string ByteArray.empty]) 2 32 Tryz.underlying28 hi hz0 hz1 hz2 rfl (by decide) (.slice a9 k c9) k (rcs ((subZ x y).take k)) (by simp [Act.eval]) (HoA.out.alloc _) ⟨VA.heap.size, 0, none⟩ 1 1 [.string s1, .string s2] (by simp [Act.eval]) rfl (cell_two VA _ _ _) (by simp [Value.oneCell']) (by decide) hm3 hm4 (HEA.out.alloc (.cells #[.string s1, .string s2] 55)).size _ rfl ?_; intro g1 cc1 V1 hown1 hgrow1 hat1 hlt1; have HEV := Lib.hid ((HEA.out.alloc _).grown hgrow1 fun j hj => (World.ownsRow.lt (HoA.out.alloc (.cells #[.string s1, .string s2] 55)) j hj).1); have Hown1 := Lib.hid hown1; clear hown1 hgrow1 hat1 hlt1)
            | (go_at_call 36; refine (Hcl.out _ HE.out.drew).mono ?_; rintro e9 VA ⟨rfl, hxa⟩; have HEA := Lib.hid (HE.out.drew.trans hxa); have HoA := Lib.hid ((((Ext.refl wr).drew).trans hxa).own Ho.out); clear hxa))
        all_goals
          clear c0 c1 c2 c3
          go_wp2_with fail
          go_roundw
          case rel => first | exact ⟨k + 1, by go_num, by omega, by rw [Hrn.out]; exact Hown1.out, HEV⟩ | ((repeat apply Exists.intro); exact ⟨⟨k + 1, by go_num, by omega, by rw [Hrn.out]; exact Hown1.out, HEV⟩, rfl⟩)
          case measure => simp [intOf]; omega
      · obtain rfl : k = p.length := by omega
        rw [List.take_of_length_le (by rw [Hzl.out]; exact Nat.le_refl _)] at ho
        have Ho := Lib.hid ho
        clear ho
        go_wp2
        go_ret
        exact ⟨_, rfl, by unfold OwnQ; rw [Hzl.out]; exact own_mono Ho.out Hxw.out.size, Hxw.out.trans HE.out⟩
end Go.Proofs.YtajdfggocldeaaaGreatDoor

namespace Go.Proofs.YtajdfggocldeaaaGreatDoor
open Go.RowKit Go.Lib Go.Shelf
theorem wl_box (a : Wl) (w W : World) (h : Ext (w.alloc (.cells a.cs 26)) W) : W.rangeAt w.heap.size 0 a.cs.toList := fun j v hj => by
  unfold World.cell?
  dsimp only
  rw [h.heap (World.alloc_heap_new w _), Nat.zero_add]
  show a.cs[j]? = some v
  rw [← Array.getElem?_toList]
  exact hj
theorem wl_info (a : Wl) : (Tryz.prog.info? 26).map (·.size) = some a.cs.toList.length := by
  rw [Array.length_toList]
  kernel_rfl
theorem wl_cs (a : Wl) : Wl.cs a = #[.bool a.three, .int .u8 a.kind, .int .u8 a.num, .int .i8 (a.xs 0).a, .int .i8 (a.xs 0).b, .int .i8 (a.xs 0).c, .int .i8 (a.xs 1).a, .int .i8 (a.xs 1).b, .int .i8 (a.xs 1).c, .int .i8 (a.xs 2).a, .int .i8 (a.xs 2).b, .int .i8 (a.xs 2).c, .int .i8 (a.xs 3).a, .int .i8 (a.xs 3).b, .int .i8 (a.xs 3).c, .int .i8 (a.xs 4).a, .int .i8 (a.xs 4).b, .int .i8 (a.xs 4).c, .int .i8 (a.xs 5).a, .int .i8 (a.xs 5).b, .int .i8 (a.xs 5).c, .int .i8 (a.xs 6).a, .int .i8 (a.xs 6).b, .int .i8 (a.xs 6).c, .int .i8 (a.xs 7).a, .int .i8 (a.xs 7).b, .int .i8 (a.xs 7).c] := rfl
end Go.Proofs.YtajdfggocldeaaaGreatDoor

namespace Go.Proofs.YtajdfggocldeaaaGreatDoor
open Go.RowKit Go.Lib
attribute [local go_sem] Oper.semAt_some
/-- The steps of a scale. -/
def stQ (n : Nat) (rs : List Qw) (k : Nat) : List Rat := subZ (((rs[k]?).map Qw.x).getD []) (prevQ n rs k)
def stQs (n : Nat) (rs : List Qw) (k : Nat) : List (List Rat) := (List.range k).map (stQ n rs)
theorem stQs_succ (n : Nat) (rs : List Qw) (k : Nat) : stQs n rs (k + 1) = stQs n rs k ++ [stQ n rs k] := by unfold stQs; rw [List.range_succ, List.map_append]; rfl
def StepR (w : World) (n : Nat) (rs : List Qw) (k : Nat) (u : Value) (wr : World) : Prop := ∃ out : List Qw, QwM wr w.heap.size w.heap.size u out ∧ out.map Qw.x = stQs n rs k ∧ out.length = k ∧ Ext w wr
theorem StepR.more {w W V : World} {o : Obj} {n k : Nat} {rs : List Qw} {v5 v7 u : Value} {out : List Qw} (hE : Ext w W) (h : QwM W w.heap.size w.heap.size v5 out) (hm : out.map Qw.x = stQs n rs k) (hl : out.length = k) (hr : OwnQ W w.heap.size u (stQ n rs k)) 
    (hown : V.ownsRow w.heap.size 28 1 v7 (k + 1) (qwc out ++ [u])) (hgrow : (W.alloc o).grownBy V v5.ownBlock) : StepR w n rs (k + 1) v7 V := by
  subst hl
  have := QwM.more (r := ⟨_, u, rd_one hr.rd⟩) hE h hr hown hgrow
  exact ⟨_, this.1, by rw [List.map_append, hm, stQs_succ]; rfl, by rw [List.length_append]; rfl, this.2⟩
end Go.Proofs.YtajdfggocldeaaaGreatDoor

namespace Go.Proofs.YtajdfggocldeaaaGreatDoor
open Go.RowKit Go.Lib Go.Shelf
attribute [local go_sem] Oper.semAt_some
theorem sl_other {W : World} {g off n cp : Nat} {us : List Value} {c : Nat} (h : Sl W (.slice (some ⟨g, off, none⟩) n cp) us) (hne : g ≠ c) (k : Nat) (x : Value) : Sl (W.setCell ⟨c, k, none⟩ x) (.slice (some ⟨g, off, none⟩) n cp) us := by
  rcases h with ⟨a, cap, e, hm, h0⟩ | ⟨b, off', cap, e, h1, h2, hc⟩
  · exact .inl ⟨a, cap, e, hm, h0⟩
  · refine .inr ⟨b, off', cap, e, h1, h2, fun i q hq => ?_⟩
    injection e with e1 _ _
    injection e1 with e1
    injection e1 with e1 e2
    subst e1; subst e2
    rw [World.cell?_setCell_other _ _ _ _ (by intro e'; simp only [Addr.mk.injEq] at e'; exact hne e'.1.symm)]
    exact hc i q hq
/-- Fractions do not lie in a block that holds no strings. -/
theorem rd_past {T : TypeId} {W : World} {c : Nat} {u v s : Value} {xs : List Rat} (hs : Rd W s xs) (hb : BoxT T W c u v) (hu : ∀ z, u ≠ .string z) (hv : ∀ z, v ≠ .string z) (x y : Value) : Rd ((W.setCell ⟨c, 0, none⟩ x).setCell ⟨c, 1, none⟩ y) s xs := by
  rcases hs with hn | ⟨b, off, cap, e, h1, h2, hc⟩
  · exact .inl hn
  · have hno : ∀ k z, W.cell? ⟨b, k, none⟩ = some (.string z) → b ≠ c := by
      rintro k z h rfl
      unfold World.cell? at h
      dsimp only at h
      rw [hb] at h
      rcases (by omega : k = 0 ∨ k = 1 ∨ 2 ≤ k) with g | g | g
      · rw [g] at h
        exact hu z (Option.some.inj h)
      · rw [g] at h
        exact hv z (Option.some.inj h)
      · have : (#[u, v] : Array Value)[k]? = none := Array.getElem?_eq_none (by simpa using g)
        simp [this] at h
    have hk : ∀ k z, W.cell? ⟨b, k, none⟩ = some (.string z) → ((W.setCell ⟨c, 0, none⟩ x).setCell ⟨c, 1, none⟩ y).cell? ⟨b, k, none⟩ = some (.string z) := fun k z h => by
      have hbc := hno k z h
      rw [World.cell?_setCell_other _ _ _ _ (by intro e'; simp only [Addr.mk.injEq] at e'; exact hbc e'.1.symm), World.cell?_setCell_other _ _ _ _ (by intro e'; simp only [Addr.mk.injEq] at e'; exact hbc e'.1.symm)]
      exact h
    exact .inr ⟨b, off, cap, e, h1, h2, fun i r hr => ⟨hk _ _ (hc i r hr).1, hk _ _ (hc i r hr).2⟩⟩
def majorZ : List (List Int) := [[-3, 2], [-6, 4], [2, -1], [-1, 1], [-4, 3], [-7, 5], [1, 0]]
def majorQ : List (List Rat) := majorZ.map rats
theorem major_c (w : World) (he : Env w) :
    Calls Tryz.prog 12 #[] w fun e w' => ∃ v rs, e = .returned v ∧ ScV w' v [2, 3] rs ∧ rs.map Qw.x = majorQ ∧ Ext w w' := by
  have hwh := fun W v (l : List Int) (hE : Ext w W) (hv : Sl W v (i64s l)) (h9 : l.length ≤ 1000) (hl : ∀ z ∈ l, z.natAbs < 1000000000) => whole_c v l W (he.ext hE) hv h9 hl
  have hw2 := fun W (a b : Int) (hE : Ext w W) (ha : a.natAbs < 1000000000) (hb : b.natAbs < 1000000000) => hwh (W.alloc (.cells #[.int .i64 a, .int .i64 b] 3)) (.slice (some ⟨W.heap.size, 0, none⟩) 2 2) [a, b] (hE.alloc _) (sl_cells (us := [.int .i64 a, .int .i64 b]) (World.alloc_heap_new W _) (by unfold maxLen; simp)) (by simp) (fun z hz => by
    simp only [List.mem_cons, List.not_mem_nil, or_false] at hz
    rcases hz with rfl | rfl <;> assumption)
  have hb0 := BoxT.new 35 w (.slice none 0 0) (.slice none 0 0)
  have hE0 : Ext w (w.alloc (.cells #[.slice none 0 0, .slice none 0 0] 35)) := (Ext.refl w).alloc _
  have Hw2 := Lib.hid hw2; have HB0 := Lib.hid hb0; have HE0 := Lib.hid hE0
  clear hwh hw2 hb0 hE0 he
  go_enter Tryz.func12, Tryz.ntmps12
  obtain ⟨W0, hW0⟩ : ∃ W0, W0 = (w.alloc (.cells #[.slice none 0 0, .slice none 0 0] 35)).alloc (.cells #[.int .i64 2, .int .i64 3] 3) := ⟨_, rfl⟩
  have hpr : Sl W0 (.slice (some ⟨w.heap.size + 1, 0, none⟩) 2 2) (i64s [2, 3]) := by
    have := sl_cells (us := [.int .i64 2, .int .i64 3]) (World.alloc_heap_new (w.alloc (.cells #[.slice none 0 0, .slice none 0 0] 35)) (.cells #[.int .i64 2, .int .i64 3] 3)) (by unfold maxLen; simp)
    rw [World.size_alloc] at this
    rw [hW0]
    exact this
  have hxw : Ext (w.alloc (.cells #[.slice none 0 0, .slice none 0 0] 35)) W0 := by rw [hW0]; exact (Ext.refl _).alloc _
  have hsz0 : W0.heap.size = w.heap.size + 1 + 1 := by rw [hW0, World.size_alloc, World.size_alloc]
  have hc1 := Hw2.out W0 (-3) (2) (HE0.out.trans hxw) (by decide) (by decide)
  rw [hsz0] at hc1
  have Hc1 := Lib.hid hc1
  clear hc1 hsz0
  have Hpr := Lib.hid hpr; have Hx0 := Lib.hid hxw
  clear hpr hxw
  go_wp2_with fail
  rw [← hW0]
  clear hW0
  refine Hc1.out.mono ?_
  rintro e w1 ⟨u1, rfl, ho1, hx1⟩
  obtain ⟨a1, c1, rfl, _, _, _⟩ := ho1.rd.parts
  rw [show (rats [-3, 2]).length = 2 from rfl] at *
  have hy1 := ((Ext.refl W0).alloc (.cells #[.int .i64 (-3), .int .i64 (2)] 3)).trans hx1
  have Hx1 := Lib.hid (Hx0.out.trans hy1); have Hr1 := Lib.hid ho1.rd
  have Hpr := Lib.hid (hy1.sl Hpr.out)
  clear ho1 hx1 hy1
  go_wp2_with fail
  refine (Hw2.out w1 (-6) (4) (HE0.out.trans Hx1.out) (by decide) (by decide)).mono ?_
  rintro e w2 ⟨u2, rfl, ho2, hx2⟩
  obtain ⟨a2, c2, rfl, _, _, _⟩ := ho2.rd.parts
  rw [show (rats [-6, 4]).length = 2 from rfl] at *
  have hy2 := ((Ext.refl w1).alloc (.cells #[.int .i64 (-6), .int .i64 (4)] 3)).trans hx2
  have Hx2 := Lib.hid (Hx1.out.trans hy2); have Hr2 := Lib.hid ho2.rd
  have Hr1 := Lib.hid (hy2.rd Hr1.out)
  have Hpr := Lib.hid (hy2.sl Hpr.out)
  clear ho2 hx2 hy2
  go_wp2_with fail
  refine (Hw2.out w2 (2) (-1) (HE0.out.trans Hx2.out) (by decide) (by decide)).mono ?_
  rintro e w3 ⟨u3, rfl, ho3, hx3⟩
  obtain ⟨a3, c3, rfl, _, _, _⟩ := ho3.rd.parts
  rw [show (rats [2, -1]).length = 2 from rfl] at *
  have hy3 := ((Ext.refl w2).alloc (.cells #[.int .i64 (2), .int .i64 (-1)] 3)).trans hx3
  have Hx3 := Lib.hid (Hx2.out.trans hy3); have Hr3 := Lib.hid ho3.rd
  have Hr1 := Lib.hid (hy3.rd Hr1.out)
  have Hr2 := Lib.hid (hy3.rd Hr2.out)
  have Hpr := Lib.hid (hy3.sl Hpr.out)
  clear ho3 hx3 hy3
  go_wp2_with fail
  refine (Hw2.out w3 (-1) (1) (HE0.out.trans Hx3.out) (by decide) (by decide)).mono ?_
  rintro e w4 ⟨u4, rfl, ho4, hx4⟩
  obtain ⟨a4, c4, rfl, _, _, _⟩ := ho4.rd.parts
  rw [show (rats [-1, 1]).length = 2 from rfl] at *
  have hy4 := ((Ext.refl w3).alloc (.cells #[.int .i64 (-1), .int .i64 (1)] 3)).trans hx4
  have Hx4 := Lib.hid (Hx3.out.trans hy4); have Hr4 := Lib.hid ho4.rd
  have Hr1 := Lib.hid (hy4.rd Hr1.out)
  have Hr2 := Lib.hid (hy4.rd Hr2.out)
  have Hr3 := Lib.hid (hy4.rd Hr3.out)
  have Hpr := Lib.hid (hy4.sl Hpr.out)
  clear ho4 hx4 hy4
  go_wp2_with fail
  refine (Hw2.out w4 (-4) (3) (HE0.out.trans Hx4.out) (by decide) (by decide)).mono ?_
  rintro e w5 ⟨u5, rfl, ho5, hx5⟩
  obtain ⟨a5, c5, rfl, _, _, _⟩ := ho5.rd.parts
  rw [show (rats [-4, 3]).length = 2 from rfl] at *
  have hy5 := ((Ext.refl w4).alloc (.cells #[.int .i64 (-4), .int .i64 (3)] 3)).trans hx5
  have Hx5 := Lib.hid (Hx4.out.trans hy5); have Hr5 := Lib.hid ho5.rd
  have Hr1 := Lib.hid (hy5.rd Hr1.out)
  have Hr2 := Lib.hid (hy5.rd Hr2.out)
  have Hr3 := Lib.hid (hy5.rd Hr3.out)
  have Hr4 := Lib.hid (hy5.rd Hr4.out)
  have Hpr := Lib.hid (hy5.sl Hpr.out)
  clear ho5 hx5 hy5
  go_wp2_with fail
  refine (Hw2.out w5 (-7) (5) (HE0.out.trans Hx5.out) (by decide) (by decide)).mono ?_
  rintro e w6 ⟨u6, rfl, ho6, hx6⟩
  obtain ⟨a6, c6, rfl, _, _, _⟩ := ho6.rd.parts
  rw [show (rats [-7, 5]).length = 2 from rfl] at *
  have hy6 := ((Ext.refl w5).alloc (.cells #[.int .i64 (-7), .int .i64 (5)] 3)).trans hx6
  have Hx6 := Lib.hid (Hx5.out.trans hy6); have Hr6 := Lib.hid ho6.rd
  have Hr1 := Lib.hid (hy6.rd Hr1.out)
  have Hr2 := Lib.hid (hy6.rd Hr2.out)
  have Hr3 := Lib.hid (hy6.rd Hr3.out)
  have Hr4 := Lib.hid (hy6.rd Hr4.out)
  have Hr5 := Lib.hid (hy6.rd Hr5.out)
  have Hpr := Lib.hid (hy6.sl Hpr.out)
  clear ho6 hx6 hy6
  go_wp2_with fail
  refine (Hw2.out w6 (1) (0) (HE0.out.trans Hx6.out) (by decide) (by decide)).mono ?_
  rintro e w7 ⟨u7, rfl, ho7, hx7⟩
  obtain ⟨a7, c7, rfl, _, _, _⟩ := ho7.rd.parts
  rw [show (rats [1, 0]).length = 2 from rfl] at *
  have hy7 := ((Ext.refl w6).alloc (.cells #[.int .i64 (1), .int .i64 (0)] 3)).trans hx7
  have Hx7 := Lib.hid (Hx6.out.trans hy7); have Hr7 := Lib.hid ho7.rd
  have Hr1 := Lib.hid (hy7.rd Hr1.out)
  have Hr2 := Lib.hid (hy7.rd Hr2.out)
  have Hr3 := Lib.hid (hy7.rd Hr3.out)
  have Hr4 := Lib.hid (hy7.rd Hr4.out)
  have Hr5 := Lib.hid (hy7.rd Hr5.out)
  have Hr6 := Lib.hid (hy7.rd Hr6.out)
  have Hpr := Lib.hid (hy7.sl Hpr.out)
  clear ho7 hx7 hy7
  have hE9 : Ext w7 (w7.alloc (.cells #[.slice a1 2 c1, .slice a2 2 c2, .slice a3 2 c3, .slice a4 2 c4, .slice a5 2 c5, .slice a6 2 c6, .slice a7 2 c7] 28)) := (Ext.refl w7).alloc _
  have hn9 : Sl (w7.alloc (.cells #[.slice a1 2 c1, .slice a2 2 c2, .slice a3 2 c3, .slice a4 2 c4, .slice a5 2 c5, .slice a6 2 c6, .slice a7 2 c7] 28)) (.slice (some ⟨w7.heap.size, 0, none⟩) 7 7) [.slice a1 2 c1, .slice a2 2 c2, .slice a3 2 c3, .slice a4 2 c4, .slice a5 2 c5, .slice a6 2 c6, .slice a7 2 c7] := sl_cells (us := [.slice a1 2 c1, .slice a2 2 c2, .slice a3 2 c3, .slice a4 2 c4, .slice a5 2 c5, .slice a6 2 c6, .slice a7 2 c7]) (World.alloc_heap_new w7 _) (by unfold maxLen; simp)
  have hk9 : K0 35 w (w7.alloc (.cells #[.slice a1 2 c1, .slice a2 2 c2, .slice a3 2 c3, .slice a4 2 c4, .slice a5 2 c5, .slice a6 2 c6, .slice a7 2 c7] 28)) w.heap.size := ⟨(HE0.out.trans Hx7.out).trans hE9, _, _, HB0.out.ext (Hx7.out.trans hE9)⟩
  have hb9 := HB0.out.ext (Hx7.out.trans hE9)
  have k0 := hk9.res.c0; have k1 := hk9.res.c1; have z0 := hk9.res.fz 0; have z1 := hk9.res.fz 1
  obtain ⟨hb5, hx5⟩ := hk9.fin (Nat.le_refl _) (.slice (some ⟨w.heap.size + 1, 0, none⟩) 2 2) (.slice (some ⟨w7.heap.size, 0, none⟩) 7 7)
  have Hb5 := Lib.hid hb5; have Hx5 := Lib.hid hx5; have HE9 := Lib.hid hE9; have Hn9 := Lib.hid hn9; have Hb9 := Lib.hid hb9
  clear hb5 hx5 hk9 hE9 hn9 hb9
  go_wp2_with fail
  have hd0 := Hb5.out.c0
  have hd1 := Hb5.out.c1
  have hne : w7.heap.size ≠ w.heap.size := by
    have := (HE0.out.trans Hx7.out).size
    have := HB0.out.lt
    have := Hx7.out.size
    omega
  have hp5 := sl_past (HE9.out.sl Hpr.out) Hb9.out (by simp) (by simp) (.slice (some ⟨w.heap.size + 1, 0, none⟩) 2 2) (.slice (some ⟨w7.heap.size, 0, none⟩) 7 7)
  have hn5 := sl_other (sl_other Hn9.out hne 0 (.slice (some ⟨w.heap.size + 1, 0, none⟩) 2 2)) hne 1 (.slice (some ⟨w7.heap.size, 0, none⟩) 7 7)
  have hrp := fun s xs (h : Rd w7 s xs) => rd_past (HE9.out.rd h) Hb9.out (by simp) (by simp) (.slice (some ⟨w.heap.size + 1, 0, none⟩) 2 2) (.slice (some ⟨w7.heap.size, 0, none⟩) 7 7)
  exact bodyPost_ret (v := .agg #[.slice (some ⟨w.heap.size + 1, 0, none⟩) 2 2, .slice (some ⟨w7.heap.size, 0, none⟩) 7 7]) (by simp [results, Tryz.results12, go_sem, hd0, hd1]) rfl ⟨_, [⟨rats [-3, 2], .slice a1 2 c1, rfl⟩, ⟨rats [-6, 4], .slice a2 2 c2, rfl⟩, ⟨rats [2, -1], .slice a3 2 c3, rfl⟩, ⟨rats [-1, 1], .slice a4 2 c4, rfl⟩, ⟨rats [-4, 3], .slice a5 2 c5, rfl⟩, ⟨rats [-7, 5], .slice a6 2 c6, rfl⟩, ⟨rats [1, 0], .slice a7 2 c7, rfl⟩], rfl, ⟨_, _, rfl, hp5, hn5, by
    intro r hr
    simp only [List.mem_cons, List.not_mem_nil, or_false] at hr
    rcases hr with rfl | rfl | rfl | rfl | rfl | rfl | rfl
    · exact hrp _ _ Hr1.out
    · exact hrp _ _ Hr2.out
    · exact hrp _ _ Hr3.out
    · exact hrp _ _ Hr4.out
    · exact hrp _ _ Hr5.out
    · exact hrp _ _ Hr6.out
    · exact hrp _ _ Hr7.out⟩, rfl, Hx5.out⟩
end Go.Proofs.YtajdfggocldeaaaGreatDoor
