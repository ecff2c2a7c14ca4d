/- Walks: law 31's note over a plain right scale. Walks: law 24's Same; law 32's less, same, equal; law 31's Note. Walks: law 32's interval. An append of a slice, nil or not, to a row that the call owns, as one step of a region that draws. -/
import Derived.Test.YtaakmdjicocjpaaGreatDoorPb32
import Derived.Test.YtaakmdjicocjpaaGreatDoorPb21
import Derived.Test.YtaakmdjicocjpaaGreatDoorPb31
import Derived.Test.YtaakmdjicocjpaaGreatDoorPb08
import Derived.Laws.OwnMore
import Derived.Deep.RegionLaw
import Derived.Deep.AppendLies
set_option maxRecDepth 100000
set_option maxHeartbeats 2000000
namespace Go.Proofs.YtaakmdjicocjpaaGreatDoor
open Go.RowKit Go.Lib
theorem sn_mulov (n : Nat) {q : Int} (h : q.natAbs ≤ 30000) : ∀ x ∈ mulZ (ov n) (q : Rat), Sn x := by
  rw [mul_ov]
  unfold zer
  rw [List.replicate_succ]
  intro x hx
  simp only [shf, List.mem_cons] at hx
  rcases hx with rfl | hx
  · rw [show (0 : Rat) + (q : Rat) = (q : Rat) by grind]
    exact sn_int h
  · rw [List.eq_of_mem_replicate hx]
    exact sn_zero
/-- The differences of notes are small. -/
theorem Wd.nt_sub_sn {p : List Int} {N : List (List Rat)} (h : Wd p N) (k l : Int) (hk0 : -1000 ≤ k) (hk1 : k ≤ 1000) (hl0 : -1000 ≤ l) (hl1 : l ≤ 1000) : ∀ r ∈ subZ (nt p N k) (nt p N l), Sn r := by
  obtain ⟨n, hn⟩ := h.dif
  have h0 := h.pos
  have hN : (0 : Int) < (N.length : Int) := by omega
  have e1 := div_bd (a := k) (b := (N.length : Int)) (m := 1000) hN hk0 hk1 (by omega)
  have e2 := div_bd (a := l) (b := (N.length : Int)) (m := 1000) hN hl0 hl1 (by omega)
  have b1 := h.nt_bd k
  have b2 := h.nt_bd l
  have c1 : (-1000 : Rat) ≤ ((k / (N.length : Int) : Int) : Rat) := Rat.intCast_le_intCast.2 e1.1
  have c2 : ((k / (N.length : Int) : Int) : Rat) ≤ 1000 := Rat.intCast_le_intCast.2 e1.2
  have c3 : (-1000 : Rat) ≤ ((l / (N.length : Int) : Int) : Rat) := Rat.intCast_le_intCast.2 e2.1
  have c4 : ((l / (N.length : Int) : Int) : Rat) ≤ 1000 := Rat.intCast_le_intCast.2 e2.2
  have hs := sF_sub p (nt p N k) (nt p N l) (by rw [h.ntlen, h.ntlen])
  have hl := (subZ_len (x := nt p N k) (y := nt p N l) (by rw [h.ntlen, h.ntlen])).trans (h.ntlen k)
  have hc : ((2001 * 67108864 : Int) : Rat) = 2001 * 67108864 := by rw [Rat.intCast_mul]; rfl
  exact nic_sn (c := 2001) (by rw [hl]; exact h.pr) (h.nt_nic hn k l) (by omega) (by omega) (by rw [hc]; grind) (by rw [hc]; grind)
theorem Wd.nt_sn {p : List Int} {N : List (List Rat)} (h : Wd p N) (k : Int) (hk0 : -1000 ≤ k) (hk1 : k ≤ 1000) : ∀ r ∈ nt p N k, Sn r := by
  have := h.nt_sub_sn k 0 hk0 hk1 (by omega) (by omega)
  rw [h.nt_zero, ← h.ntlen k, subZ_zer] at this
  exact this
theorem Wd.mem_sn {p : List Int} {N : List (List Rat)} (h : Wd p N) {x : List Rat} (hx : x ∈ N) : ∀ r ∈ x, Sn r := by
  obtain ⟨i, hi, e⟩ := List.mem_iff_getElem.1 hx
  have h10 := h.few
  have hz := h.nt_low (i := i + 1) (by omega)
  have e2 : zat p N (i + 1) = x := by unfold zat; rw [List.getElem?_cons_succ, List.getElem?_eq_getElem hi, e]; rfl
  rw [← e2, ← hz]
  exact h.nt_sn _ (by omega) (by omega)
theorem lNote_c (v : Value) (p : List Int) (rs : List Qw) (k : Int) (w : World) (he : Env w) (hv : ScV w v p rs) (h : Wd p (rs.map Qw.x)) (hk0 : -1000 ≤ k) (hk1 : k ≤ 1000) :
    Calls Tryz.prog 40 #[v, .int .i64 k] w fun e w' => ∃ u, e = .returned u ∧ OwnQ w' w.heap.size u (nt p (rs.map Qw.x) k) ∧ Ext w w' := by
  have hpos := h.pos
  have hfew := h.few
  rw [List.length_map] at hpos hfew
  obtain ⟨n, hn⟩ : ∃ n, rs.length = n + 1 := ⟨rs.length - 1, by omega⟩
  obtain ⟨r, hr⟩ : ∃ r, rs[n]? = some r := ⟨_, List.getElem?_eq_getElem (by omega)⟩
  have hp3 : p.length ≤ 100 ∧ 0 < p.length := by rcases h.pr with ⟨e, _⟩ | ⟨e, _⟩ <;> rw [e] <;> decide
  have hrx : r.x = ov (p.length - 1) := by
    have := h.last
    rw [List.length_map, hn, Nat.add_sub_cancel, List.getElem?_map, hr] at this
    exact Option.some.inj this
  have hnq := h.noteQ hn k
  have hN : (0 : Int) < (n : Int) + 1 := by omega
  have htf := trunc_floor (k := k) hN
  have h3 := Int.emod_nonneg k (show (n : Int) + 1 ≠ 0 by omega)
  have h4 := Int.emod_lt_of_pos k hN
  have hqb := div_bd (a := k) (b := (n : Int) + 1) (m := 1000) hN hk0 hk1 (by omega)
  have hof := fun W (hE : Ext w W) => of_c (k / ((n : Int) + 1)) 1 W (he.ext hE) (by omega) (by decide) (by decide)
  rw [show mkRat (k / ((n : Int) + 1)) 1 = ((k / ((n : Int) + 1) : Int) : Rat) from Rat.mkRat_one _] at hof
  obtain ⟨vp, vn, rfl, hp, hs, hm⟩ := hv
  have hmem := List.mem_of_getElem? hr
  have hmr := hm r hmem
  have hti := fun W (hE : Ext w W) => lTimes_c r.u r.x ((k / ((n : Int) + 1) : Int) : Rat) W (he.ext hE) (hE.rd hmr) (by rw [hrx, ov_len]; omega) (by rw [hrx]; exact ov_sn _) (sn_int (by omega))
  obtain ⟨ap, cp, rfl, _, _, _⟩ := hp.parts
  obtain ⟨an, cn, rfl, _, _, hc⟩ := hs.parts
  rw [i64s_length]
  rw [qwc_length, hn]
  obtain ⟨b, off, rfl, hc0⟩ := hc n r.u (by unfold qwc; rw [List.getElem?_map, hr]; rfl)
  have hzero : k % ((n : Int) + 1) = 0 → nt p (rs.map Qw.x) k = mulZ r.x ((k / ((n : Int) + 1) : Int) : Rat) := fun e => by rw [← hnq]; unfold noteQ; rw [hr]; simp only [e, if_true]; rfl
  have hadd : ¬ k % ((n : Int) + 1) = 0 → ∃ (j : Nat) (s : Qw), (j : Int) = k % ((n : Int) + 1) - 1 ∧ (∃ a c, s.u = .slice a p.length c) ∧ w.cell? ⟨b, off + j, none⟩ = some s.u ∧
      ∀ W vb, Ext w W → Rd W vb (mulZ r.x ((k / ((n : Int) + 1) : Int) : Rat)) → Calls Tryz.prog 51 #[vb, s.u] W fun e w' => ∃ u, e = .returned u ∧ OwnQ w' W.heap.size u (nt p (rs.map Qw.x) k) ∧ Ext W w' := fun e => by
    obtain ⟨j, hj⟩ : ∃ j : Nat, (j : Int) = k % ((n : Int) + 1) - 1 := ⟨(k % ((n : Int) + 1) - 1).toNat, by omega⟩
    obtain ⟨s, hs1⟩ : ∃ s, rs[j]? = some s := ⟨_, List.getElem?_eq_getElem (by omega)⟩
    have hsm := List.mem_of_getElem? hs1
    have hrs := hm s hsm
    obtain ⟨b2, off2, e2, hcs⟩ := hc j s.u (by unfold qwc; rw [List.getElem?_map, hs1]; rfl)
    cases e2
    have hsl : s.x.length = p.length := h.len _ (List.mem_map_of_mem hsm)
    have hnq2 : nt p (rs.map Qw.x) k = addZ (mulZ r.x ((k / ((n : Int) + 1) : Int) : Rat)) s.x := by
      rw [← hnq]
      unfold noteQ
      rw [hr, if_neg e, show (k % ((n : Int) + 1)).toNat - 1 = j by omega, hs1]
      rfl
    refine ⟨j, s, hj, ?_, hcs, fun W vb hE hb => ?_⟩
    · obtain ⟨a, c, hu, _⟩ := hrs.parts
      rw [hsl] at hu
      exact ⟨a, c, hu⟩
    · rw [hnq2]
      exact lAdd_c vb s.u _ s.x W (he.ext hE) hb (hE.rd hrs) (by unfold mulZ; rw [List.length_map, hrx, ov_len, hsl]; omega) (by unfold mulZ; rw [List.length_map, hrx, ov_len]; omega) (by rw [hrx]; exact sn_mulov _ (by omega)) (h.mem_sn (List.mem_map_of_mem hsm))
  have hru : ∃ a c, r.u = .slice a p.length c := by
    obtain ⟨a, c, hu, _⟩ := hmr.parts
    rw [hrx, ov_len, show p.length - 1 + 1 = p.length by omega] at hu
    exact ⟨a, c, hu⟩
  obtain ⟨ra, rc', hru⟩ := hru
  rw [hru] at hc0 hti
  have hml : ((mulZ r.x ((k / ((n : Int) + 1) : Int) : Rat))).length = p.length := by unfold mulZ; rw [List.length_map, hrx, ov_len]; omega
  have hcast : ((n + 1 : Nat) : Int) = (n : Int) + 1 := by omega
  have hnz : ((n : Int) + 1) ≠ 0 := by omega
  have hn0 : (0 : Int) ≤ (n : Int) := by omega
  have hn1 : (n : Int) < (n : Int) + 1 := by omega
  have hn10 : n < 10 := by omega
  have hwn : IntKind.i64.wrap ((n : Int) + 1 - 1) = (n : Int) := by rw [show (n : Int) + 1 - 1 = (n : Int) by omega]; exact IntWalk.i64_in _ (by omega)
  have hwn2 : IntKind.i64.wrap (n : Int) = (n : Int) := IntWalk.i64_in _ (by omega)
  have hwm : wrap64 (k % ((n : Int) + 1)) = k % ((n : Int) + 1) := by unfold wrap64; omega
  have hE0 : Ext w (w.alloc (.cells #[.slice ap p.length cp, .slice (some ⟨b, off, none⟩) (n + 1) cn] 32)) := (Ext.refl w).alloc _
  have b0 := BoxT.new 32 w (.slice ap p.length cp) (.slice (some ⟨b, off, none⟩) (n + 1) cn)
  unfold Rv at hof hti
  generalize I (((k / ((n : Int) + 1) : Int) : Rat)).num = s1 at *
  generalize I (((((k / ((n : Int) + 1) : Int) : Rat)).den : Nat) : Int) = s2 at *
  clear hp hs hm he h hmr hmem hc hnq hn hr hrx hru hfew
  have Hof := Lib.hid hof; have Hti := Lib.hid hti; have Htf := Lib.hid htf; have Hzero := Lib.hid hzero; have Hadd := Lib.hid hadd; have Hml := Lib.hid hml; have HE0 := Lib.hid hE0; have B0 := Lib.hid b0; have Hc0 := Lib.hid hc0
  clear hof hti htf hzero hadd hml hE0 b0 hc0
  have hdec : k.tmod ((n : Int) + 1) < 0 ∨ ¬ k.tmod ((n : Int) + 1) < 0 := by omega
  rcases hdec with hs | hs
  case' inl => obtain ⟨e1, e2⟩ := Htf.out.1 hs
  case' inr => obtain ⟨e1, e2⟩ := Htf.out.2 hs
  all_goals
    go_enter Tryz.func40, Tryz.ntmps40
    go_wp2_with fail
    go_quiet (fail)
    go_wp2_with fail
    generalize hV : (w.alloc (.cells #[.slice ap p.length cp, .slice (some ⟨b, off, none⟩) (n + 1) cn] 32)).drewN nq = V at *
    have hEV : Ext (w.alloc (.cells #[.slice ap p.length cp, .slice (some ⟨b, off, none⟩) (n + 1) cn] 32)) V := by rw [← hV]; exact (Ext.refl _).drewN _
    have q1 := (B0.out.ext hEV).c1
    have hEw := HE0.out.trans hEV
    have qn := hEw.cell Hc0.out
    have HEw := Lib.hid hEw; have HEV := Lib.hid hEV
    clear hV hEV hEw
    have q1 := ((Ext.refl V).drew).cell q1
    have qn := ((Ext.refl V).drew).cell qn
    have HX := Lib.hid (HEw.out.drew)
    have HY := Lib.hid (HEV.out.drew)
    go_region_law (first
      | (go_simp; go_at_call 58; refine (Hof.out _ HX.out).mono ?_; rintro e V1 ⟨rfl, hx⟩; have q1 := hx.cell q1; have qn := hx.cell qn; have HX := Lib.hid (HX.out.trans hx); have HY := Lib.hid (HY.out.trans hx); clear hx)
      | (go_simp; go_at_call 57; refine (Hti.out _ HX.out).mono ?_; rintro e V2 ⟨u2, rfl, ho, hx⟩; have HO := Lib.hid (OwnQ.mono ho HX.out.size); have HX := Lib.hid (HX.out.trans hx); have HY := Lib.hid (HY.out.trans hx); clear ho hx))
    all_goals
      clear q1 qn hwm hwn hwn2 e1 e2 hs
      by_cases hi : k % ((n : Int) + 1) = 0
      · have hnq := Hzero.out hi
        have Hnq := Lib.hid hnq
        clear hnq
        go_wp2
        go_ret
        exact ⟨_, rfl, by rw [Hnq.out]; exact HO.out, HX.out⟩
      · obtain ⟨j, s, hj, ⟨sa, sc, hsu⟩, hcs, had⟩ := Hadd.out hi
        rw [hsu] at hcs had
        have hcs2 := HX.out.cell hcs
        have q1 := (B0.out.ext HY.out).c1
        have haD := had V2 u2 HX.out HO.out.rd
        have hj0 : (0 : Int) ≤ (j : Int) := by omega
        have hj1 : (j : Int) < ((n + 1 : Nat) : Int) := by omega
        clear hcs had
        have hj3 : (j : Int) < (n : Int) + 1 := by omega
        have HaD := Lib.hid haD
        clear haD
        have hjk : k % ((n : Int) + 1) = (j : Int) + 1 := by omega
        clear hj
        generalize k % ((n : Int) + 1) = iv at *
        subst hjk
        have hwj : IntKind.i64.wrap ((j : Int) + 1 - 1) = (j : Int) := by rw [show (j : Int) + 1 - 1 = (j : Int) by omega]; exact IntWalk.i64_in _ (by omega)
        have hwj2 : IntKind.i64.wrap (j : Int) = (j : Int) := IntWalk.i64_in _ (by omega)
        have hjn : j < n + 1 := by omega
        go_wp2_with fail
        refine HaD.out.mono ?_
        rintro e V3 ⟨u3, rfl, ho3, hx3⟩
        have Ho3 := Lib.hid (OwnQ.mono ho3 HX.out.size); have Hx3 := Lib.hid (HX.out.trans hx3)
        clear ho3 hx3 q1 hcs2
        go_wp2
        go_ret
        exact ⟨_, rfl, Ho3.out, Hx3.out⟩
end Go.Proofs.YtaakmdjicocjpaaGreatDoor

namespace Go.Proofs.YtaakmdjicocjpaaGreatDoor
open Go.RowKit Go.Lib Go.Shelf
attribute [local go_sem] Oper.semAt_some
theorem lSame24_c (va vb : Value) (x y : List Rat) (w : World) (ha : Rd w va x) (hb : Rd w vb y) (hx : x.length ≤ 1000) (hy : y.length ≤ 1000) :
    Calls Tryz.prog 21 #[va, vb] w fun e w' => e = .returned (.bool (decide (x = y))) ∧ Ext w w' := by
  obtain ⟨aa, ca, rfl, _, _, hca⟩ := ha.parts
  obtain ⟨ab, cb, rfl, _, _, hcb⟩ := hb.parts
  clear ha hb
  by_cases hl : x.length = y.length
  · have Hl := Lib.hid hl
    rw [← hl]
    have hfin : (∀ i, i < x.length → x[i]? = y[i]?) → decide (x = y) = true := fun h => by
      rw [decide_eq_true_eq]
      apply List.ext_getElem? 
      intro i
      rcases Nat.lt_or_ge i x.length with g | g
      · exact h i g
      · rw [List.getElem?_eq_none g, List.getElem?_eq_none (by omega)]
    generalize hn : x.length = n at *
    have hbad : ∀ (i : Nat) (q r : Rat), x[i]? = some q → y[i]? = some r → q ≠ r → decide (x = y) = false := fun i q r h1 h2 h3 => by
      rw [decide_eq_false_iff_not]
      rintro rfl
      rw [h1] at h2
      exact h3 (Option.some.inj h2)
    clear hl hy
    have Hca := Lib.hid hca; have Hcb := Lib.hid hcb; have Hfin := Lib.hid hfin; have Hbad := Lib.hid hbad; have Hn := Lib.hid hn; clear hca hcb hfin hbad hn
    go_enter Tryz.func21, Tryz.ntmps21
    go_wp2_with fail
    go_loopw [5] (fun v5 wr => ∃ k : Nat, v5 = .int .i64 k ∧ k ≤ n ∧ (∀ i, i < k → x[i]? = y[i]?) ∧ Ext w wr) (fun v5 _ => n - (intOf v5).toNat)
    case atStart => exact ⟨0, rfl, Nat.zero_le _, fun i h => by omega, Ext.refl _⟩
    case round =>
      obtain ⟨k, rfl, hk, hall, hE⟩ := hrel
      by_cases hkn : k < n
      · obtain ⟨q, hq⟩ : ∃ q, x[k]? = some q := ⟨_, List.getElem?_eq_getElem (by rw [Hn.out]; exact hkn)⟩
        obtain ⟨r, hr⟩ : ∃ r, y[k]? = some r := ⟨_, List.getElem?_eq_getElem (by rw [← Hl.out]; exact hkn)⟩
        obtain ⟨ba, oa, rfl, hx0, hx1⟩ := Hca.out k q hq
        obtain ⟨bb, ob, rfl, hy0, hy1⟩ := Hcb.out k r hr
        have c0 := hE.cell hx0; have c1 := hE.cell hx1
        have e0 := hE.cell hy0; have e1 := hE.cell hy1
        have hk0 : (0 : Int) ≤ (k : Int) := by omega
        have hk1 : (k : Int) < (n : Int) := by omega
        clear hx0 hx1 hy0 hy1
        by_cases hqr : q = r
        · subst hqr
          have hnx : ∀ i, i < k + 1 → x[i]? = y[i]? := fun i hi => by
            rcases Nat.lt_or_ge i k with g | g
            · exact hall i g
            · rw [show i = k by omega, hq, hr]
          generalize I q.num = s1 at *
          generalize I (q.den : Int) = s2 at *
          clear hall hq hr
          have Hnx := Lib.hid hnx; have HE := Lib.hid hE; clear hnx hE
          go_wp2_with fail
          go_quiet (fail)
          go_wp2_with fail
          go_roundw
          case rel => exact ⟨k + 1, by go_num, by omega, Hnx.out, HE.out.drewN _⟩
          case measure => simp [intOf]; omega
        · have hb1 := Hbad.out k q r hq hr hqr
          have hpart : ¬ (I q.num).toList = (I r.num).toList ∨ ((I r.num).toList = (I q.num).toList ∧ ¬ (I (q.den : Int)).toList = (I (r.den : Int)).toList) := by
            by_cases g : (I q.num).toList = (I r.num).toList
            · refine Or.inr ⟨g.symm, fun g2 => hqr (Rv_inj ?_)⟩
              unfold Rv
              rw [toList_inj g, toList_inj g2]
            · exact Or.inl g
          generalize I q.num = s1 at *
          generalize I (q.den : Int) = s2 at *
          generalize I r.num = s3 at *
          generalize I (r.den : Int) = s4 at *
          clear hall hq hr hqr
          have Hb1 := Lib.hid hb1; have HE := Lib.hid hE; clear hb1 hE
          rcases hpart with g | ⟨g, g2⟩
          all_goals
            go_wp2_with fail
            go_quiet (fail)
            go_wp2
            go_ret
            exact ⟨by rw [Hb1.out]; rfl, HE.out.drewN _⟩
      · obtain rfl : n = k := by omega
        have hf := Hfin.out hall
        clear hall
        have Hf := Lib.hid hf; have HE := Lib.hid hE; clear hf hE
        go_wp2
        go_ret
        exact ⟨by rw [Hf.out]; rfl, HE.out⟩
  · have hne : decide (x = y) = false := by
      rw [decide_eq_false_iff_not]
      rintro rfl
      exact hl rfl
    rw [hne]
    clear hca hcb hne
    have hl2 : ¬ (x.length : Int) = (y.length : Int) := by omega
    generalize x.length = n at *
    generalize y.length = m at *
    go_enter Tryz.func21, Tryz.ntmps21
    go_wp2
    go_ret
    exact ⟨rfl, Ext.refl _⟩
theorem lNote2_c (v : Value) (p : List Int) (rs : List Qw) (k : Int) (w : World) (he : Env w) (hv : ScV w v p rs) (h : Wd p (rs.map Qw.x)) (hk0 : -1000 ≤ k) (hk1 : k ≤ 1000) :
    Calls Tryz.prog 75 #[v, .int .i64 k] w fun e w' => ∃ u, e = .returned u ∧ OwnQ w' w.heap.size u (nt p (rs.map Qw.x) k) ∧ Ext w w' := by
  have hnt := fun W (hE : Ext w W) => lNote_c v p rs k W (he.ext hE) (hv.ext hE) h hk0 hk1
  obtain ⟨vp, vn, rfl, hp, hs, hmr⟩ := hv
  obtain ⟨ap, cp, rfl, _, _, _⟩ := hp.parts
  obtain ⟨an, cn, rfl, _, _, _⟩ := hs.parts
  rw [i64s_length] at *
  rw [qwc_length] at *
  generalize rs.length = n at *
  have hE0 : Ext w (w.alloc (.cells #[.slice ap p.length cp, .slice an n cn] 32)) := (Ext.refl w).alloc _
  have b1 := BoxT.new 32 w (.slice ap p.length cp) (.slice an n cn)
  have Hnt := Lib.hid hnt; have HE0 := Lib.hid hE0
  have q0 := b1.c0
  have q1 := b1.c1
  clear hnt hE0 b1 hp hs hmr he h
  go_enter Tryz.func75, Tryz.ntmps75
  go_wp2_with fail
  refine (Hnt.out _ HE0.out).mono ?_
  rintro e w2 ⟨u, rfl, hu, hx2⟩
  have Hu := Lib.hid (hu.mono HE0.out.size); have Hx := Lib.hid (HE0.out.trans hx2)
  clear hu hx2 q0 q1
  go_wp2
  go_ret
  exact ⟨_, rfl, Hu.out, Hx.out⟩
theorem less32_c (v va vb : Value) (p : List Int) (rs : List Qw) (x y : List Rat) (w : World) (he : Env w) (hv : ScV w v p rs) (hpe : primesErr p = 0) (hpl : p.length ≤ 100) (ha : Rd w va x) (hb : Rd w vb y) (hx : x.length = p.length) (hy : y.length = p.length) (hxf : ∀ q ∈ x, Ft 30 q) (hyf : ∀ q ∈ y, Ft 30 q) (hq : Quick p (subZ x y)) :
    Calls Tryz.prog 26 #[v, va, vb] w fun e w' => e = .returned (.bool (decide (sgnT (tms p (dn (subZ x y)) (subZ x y)) < 0))) ∧ Ext w w' := by
  obtain ⟨vp, vn, rfl, hp, hs, hmr⟩ := hv
  have hc := fun W (hE : Ext w W) => sCompare_c vp va vb p x y W (he.ext hE) (hE.sl hp) (hE.rd ha) (hE.rd hb) hpe hpl hx hy hxf hyf hq
  obtain ⟨ap, cp, rfl, _, _, _⟩ := hp.parts
  obtain ⟨an, cn, rfl, _, _, _⟩ := hs.parts
  obtain ⟨a1, c1, rfl, _, _, _⟩ := ha.parts
  obtain ⟨a2, c2, rfl, _, _, _⟩ := hb.parts
  rw [i64s_length] at *
  rw [qwc_length] at *
  generalize sgnT (tms p (dn (subZ x y)) (subZ x y)) = z at *
  generalize rs.length = n at *
  have hE0 : Ext w (w.alloc (.cells #[.slice ap p.length cp, .slice an n cn] 32)) := (Ext.refl w).alloc _
  have b1 := BoxT.new 32 w (.slice ap p.length cp) (.slice an n cn)
  have Hc := Lib.hid hc; have HE0 := Lib.hid hE0
  have q0 := b1.c0
  have q1 := b1.c1
  clear hc hE0 b1 hp hs hmr he ha hb hx hy hxf hyf hq hpe hpl
  go_enter Tryz.func26, Tryz.ntmps26
  go_wp2_with fail
  refine (Hc.out _ HE0.out).mono ?_
  rintro e w2 ⟨rfl, hx2⟩
  have Hx := Lib.hid (HE0.out.trans hx2)
  clear hx2 q0 q1
  go_wp2_with fail
  go_ret
  exact ⟨rfl, Hx.out⟩
theorem lsame32_c (va vb : Value) (rs ts : List Qw) (w : World) (ha : RdM w va rs) (hb : RdM w vb ts) (hr : rs.length ≤ 1000) (_ht : ts.length ≤ 1000) (hr2 : ∀ r ∈ rs, r.x.length ≤ 1000) (ht2 : ∀ r ∈ ts, r.x.length ≤ 1000) :
    Calls Tryz.prog 32 #[va, vb] w fun e w' => e = .returned (.bool (decide (rs.map Qw.x = ts.map Qw.x))) ∧ Ext w w' := by
  have heq := fun (r s : Qw) (h : r ∈ rs) (k : s ∈ ts) W (hE : Ext w W) => lSame24_c r.u s.u r.x s.x W (hE.rd (ha.2 r h)) (hE.rd (hb.2 s k)) (hr2 r h) (ht2 s k)
  obtain ⟨aa, ca, rfl, _, _, hca⟩ := ha.1.parts
  obtain ⟨ab, cb, rfl, _, _, hcb⟩ := hb.1.parts
  rw [qwc_length] at *
  rw [qwc_length] at *
  have h1 : ∀ k r, rs[k]? = some r → ∃ b off, aa = some ⟨b, off, none⟩ ∧ w.cell? ⟨b, off + k, none⟩ = some r.u := fun k x h => hca k _ (by unfold qwc; rw [List.getElem?_map, h]; rfl)
  have h2 : ∀ k r, ts[k]? = some r → ∃ b off, ab = some ⟨b, off, none⟩ ∧ w.cell? ⟨b, off + k, none⟩ = some r.u := fun k x h => hcb k _ (by unfold qwc; rw [List.getElem?_map, h]; rfl)
  clear hca hcb ha hb hr2 ht2
  by_cases hl : rs.length = ts.length
  · have Hl := Lib.hid hl
    rw [← hl]
    have hfin : (∀ i, i < rs.length → (rs.map Qw.x)[i]? = (ts.map Qw.x)[i]?) → decide (rs.map Qw.x = ts.map Qw.x) = true := fun h => by
      rw [decide_eq_true_eq]
      apply List.ext_getElem?
      intro i
      rcases Nat.lt_or_ge i rs.length with g | g
      · exact h i g
      · rw [List.getElem?_eq_none (by rw [List.length_map]; exact g), List.getElem?_eq_none (by rw [List.length_map]; omega)]
    have hbad : ∀ (i : Nat) (r s : Qw), rs[i]? = some r → ts[i]? = some s → r.x ≠ s.x → decide (rs.map Qw.x = ts.map Qw.x) = false := fun i r s h1 h2 h3 => by
      rw [decide_eq_false_iff_not]
      intro e
      have := congrArg (fun l => l[i]?) e
      simp only [List.getElem?_map, h1, h2, Option.map_some, Option.some.injEq] at this
      exact h3 this
    generalize hn : rs.length = n at *
    clear hl _ht
    have H1 := Lib.hid h1; have H2 := Lib.hid h2; have Hfin := Lib.hid hfin; have Hbad := Lib.hid hbad; have Hn := Lib.hid hn; have Heq := Lib.hid heq
    clear h1 h2 hfin hbad hn heq
    go_enter Tryz.func32, Tryz.ntmps32
    go_wp2_with fail
    go_loopw [5] (fun v5 wr => ∃ k : Nat, v5 = .int .i64 k ∧ k ≤ n ∧ Hid (∀ i, i < k → (rs.map Qw.x)[i]? = (ts.map Qw.x)[i]?) ∧ Hid (Ext w wr)) (fun v5 _ => n - (intOf v5).toNat)
    case atStart => exact ⟨0, rfl, Nat.zero_le _, Lib.hid (fun i h => by omega), Lib.hid (Ext.refl _)⟩
    case round =>
      obtain ⟨k, rfl, hk, Hall, HE⟩ := hrel
      by_cases hkn : k < n
      · obtain ⟨r, hx⟩ : ∃ x, rs[k]? = some x := ⟨_, List.getElem?_eq_getElem (by rw [Hn.out]; exact hkn)⟩
        obtain ⟨s, hy⟩ : ∃ y, ts[k]? = some y := ⟨_, List.getElem?_eq_getElem (by rw [← Hl.out]; exact hkn)⟩
        obtain ⟨ba, oa, rfl, c0⟩ := H1.out k r hx
        obtain ⟨bb, ob, rfl, c1⟩ := H2.out k s hy
        have b0 := c0; have b1 := c1
        have hk0 : (0 : Int) ≤ (k : Int) := by omega
        have hk1 : (k : Int) < (n : Int) := by omega
        have hq := Heq.out r s (List.mem_of_getElem? hx) (List.mem_of_getElem? hy) wr.drew HE.out.drew
        by_cases hxy : r.x = s.x
        · have Hnx : Hid (∀ i, i < k + 1 → (rs.map Qw.x)[i]? = (ts.map Qw.x)[i]?) := Lib.hid (fun i hi => by
            rcases Nat.lt_or_ge i k with g | g
            · exact Hall.out i g
            · rw [show i = k by omega, List.getElem?_map, List.getElem?_map, hx, hy, Option.map_some, Option.map_some, hxy])
          rw [decide_eq_true hxy] at hq
          have Hq := Lib.hid hq
          clear hx hy hq hxy
          generalize r.u = ur at *
          generalize s.u = us at *
          have hS : ∀ W, Ext w W → Ext w W ∧ W.cell? ⟨ba, oa + k, none⟩ = some ur ∧ W.cell? ⟨bb, ob + k, none⟩ = some us := fun W hW => ⟨hW, hW.cell b0, hW.cell b1⟩
          obtain ⟨_, d0, d1⟩ := hS _ HE.out.drew
          have HS := Lib.hid hS
          clear hS b0 b1 c0 c1
          go_wp2_with fail
          go_region_held3 (fun w' => Ext w w' ∧ w'.cell? ⟨ba, oa + k, none⟩ = some ur ∧ w'.cell? ⟨bb, ob + k, none⟩ = some us)
            (first | (with_reducible assumption) | exact HS.out _ HE.out.drew | exact HS.out _ (HE.out.drew.trans HxA.out))
            (first
              | (go_at_call 21
                 refine Hq.out.mono ?_
                 rintro e9 VA ⟨rfl, hxa⟩
                 have HxA := Lib.hid hxa
                 clear hxa))
          have HE2 := Lib.hid (HE.out.drew.trans HxA.out)
          go_wp2_with fail
          go_roundw
          case rel => exact ⟨k + 1, by go_num, by omega, Hnx, HE2⟩
          case measure => simp [intOf]; omega
        · have hb1 := Hbad.out k r s hx hy hxy
          rw [decide_eq_false hxy] at hq
          have Hb1 := Lib.hid hb1; have Hq := Lib.hid hq
          clear hb1 hx hy hq hxy
          generalize r.u = ur at *
          generalize s.u = us at *
          have hS : ∀ W, Ext w W → Ext w W ∧ W.cell? ⟨ba, oa + k, none⟩ = some ur ∧ W.cell? ⟨bb, ob + k, none⟩ = some us := fun W hW => ⟨hW, hW.cell b0, hW.cell b1⟩
          obtain ⟨_, d0, d1⟩ := hS _ HE.out.drew
          have HS := Lib.hid hS
          clear hS b0 b1 c0 c1
          go_wp2_with fail
          go_region_held3 (fun w' => Ext w w' ∧ w'.cell? ⟨ba, oa + k, none⟩ = some ur ∧ w'.cell? ⟨bb, ob + k, none⟩ = some us)
            (first | (with_reducible assumption) | exact HS.out _ HE.out.drew | exact HS.out _ (HE.out.drew.trans HxA.out))
            (first
              | (go_at_call 21
                 refine Hq.out.mono ?_
                 rintro e9 VA ⟨rfl, hxa⟩
                 have HxA := Lib.hid hxa
                 clear hxa))
          have HE2 := Lib.hid (HE.out.drew.trans HxA.out)
          go_wp2
          go_ret
          exact ⟨by rw [Hb1.out]; rfl, HE2.out⟩
      · obtain rfl : n = k := by omega
        have Hf := Lib.hid (Hfin.out Hall.out)
        go_wp2
        go_ret
        exact ⟨by rw [Hf.out]; rfl, HE.out⟩
  · have hne : decide (rs.map Qw.x = ts.map Qw.x) = false := by
      rw [decide_eq_false_iff_not]
      intro e
      have := congrArg List.length e
      rw [List.length_map, List.length_map] at this
      exact hl this
    rw [hne]
    have hl2 : ¬ (rs.length : Int) = (ts.length : Int) := by omega
    clear h1 h2 hne heq
    generalize rs.length = n at *
    generalize ts.length = m at *
    go_enter Tryz.func32, Tryz.ntmps32
    go_wp2
    go_ret
    exact ⟨rfl, Ext.refl _⟩
end Go.Proofs.YtaakmdjicocjpaaGreatDoor

namespace Go.Proofs.YtaakmdjicocjpaaGreatDoor
open Go.RowKit Go.Lib Go.Shelf
attribute [local go_sem] Oper.semAt_some
theorem subZ_take {x y : List Rat} {k : Nat} {a b : Rat} (ha : x[k]? = some a) (hb : y[k]? = some b) : (subZ x y).take (k + 1) = (subZ x y).take k ++ [a - b] := by
  have h : (subZ x y)[k]? = some (a - b) := by
    unfold subZ
    rw [List.getElem?_zipWith, ha, hb]
  obtain ⟨hk, e⟩ := List.getElem?_eq_some_iff.1 h
  rw [List.take_succ_eq_append_getElem hk, e]
theorem interval_c (v : Value) (p : List Int) (rs : List Qw) (i d : Nat) (w : World) (he : Env w) (hv : ScV w v p rs) (h : Wc p (rs.map Qw.x)) (hi1 : i ≤ 100) (hd1 : d ≤ 100) :
    Calls Tryz.prog 30 #[v, .int .i64 (i : Int), .int .i64 (d : Int)] w fun e w' => ∃ u, e = .returned u ∧ OwnQ w' w.heap.size u (iv p (rs.map Qw.x) (i : Int) (d : Int)) ∧ Ext w w' := by
  obtain ⟨i0, hi, hz0, hz1, hz2⟩ := info_parts info_rat
  have hn1 := fun W (hE : Ext w W) => lNote2_c v p rs (i : Int) W (he.ext hE) (hv.ext hE) h.wd (by omega) (by omega)
  have hn2 := fun W (hE : Ext w W) => lNote2_c v p rs ((i : Int) + (d : Int)) W (he.ext hE) (hv.ext hE) h.wd (by omega) (by omega)
  have hqa := (h.wd.nt_quick (i : Int) (by omega) (by omega)).1
  have hqb := (h.wd.nt_quick ((i : Int) + (d : Int)) (by omega) (by omega)).1
  have hla := h.wd.ntlen (i : Int)
  have hlb := h.wd.ntlen ((i : Int) + (d : Int))
  have hp3 : p.length ≤ 100 := by rcases h.wd.pr with ⟨e, _⟩ | ⟨e, _⟩ <;> rw [e] <;> decide
  unfold iv
  generalize hx : nt p (rs.map Qw.x) ((i : Int) + (d : Int)) = x at *
  generalize hy : nt p (rs.map Qw.x) (i : Int) = y at *
  have hsub := fun (a b : Rat) (ha : a ∈ x) (hb : b ∈ y) W (hE : Ext w W) => frSub_c a b W (he.ext hE) ((hqb a ha).mono (by omega)) ((hqa b hb).mono (by omega))
  have hzl : (subZ x y).length = p.length := by rw [subZ_len (by rw [hla, hlb]), hlb]
  have hnx : ∀ k, k < p.length → ∃ a b, x[k]? = some a ∧ y[k]? = some b ∧ a ∈ x ∧ b ∈ y := fun k hk => ⟨_, _, List.getElem?_eq_getElem (by omega), List.getElem?_eq_getElem (by omega), List.getElem_mem _, List.getElem_mem _⟩
  obtain ⟨vp, vn, rfl, hp, hs, hmr⟩ := hv
  obtain ⟨ap, cp, rfl, _, _, _⟩ := hp.parts
  obtain ⟨an, cn, rfl, _, _, _⟩ := hs.parts
  rw [i64s_length] at *
  rw [qwc_length] at *
  generalize rs.length = n at *
  have hwid : IntKind.i64.wrap ((i : Int) + (d : Int)) = (i : Int) + (d : Int) := IntWalk.i64_in _ (by omega)
  have hE0 : Ext w (w.alloc (.cells #[.slice ap p.length cp, .slice an n cn] 32)) := (Ext.refl w).alloc _
  have b1 := BoxT.new 32 w (.slice ap p.length cp) (.slice an n cn)
  have hS : ∀ W, Ext (w.alloc (.cells #[.slice ap p.length cp, .slice an n cn] 32)) W → Ext (w.alloc (.cells #[.slice ap p.length cp, .slice an n cn] 32)) W ∧ W.cell? ⟨w.heap.size, 0, none⟩ = some (.slice ap p.length cp) ∧ W.cell? ⟨w.heap.size, 1, none⟩ = some (.slice an n cn) := fun W hW => ⟨hW, (b1.ext hW).c0, (b1.ext hW).c1⟩
  have Hn1 := Lib.hid hn1; have Hn2 := Lib.hid hn2; have Hsub := Lib.hid hsub; have Hzl := Lib.hid hzl; have Hnx := Lib.hid hnx; have HE0 := Lib.hid hE0; have HS := Lib.hid hS; have Hla := Lib.hid hla; have Hlb := Lib.hid hlb
  clear hn1 hn2 hsub hzl hnx hE0 hS b1 hp hs hmr he h hqa hqb hla hlb hx hy
  go_enter Tryz.func30, Tryz.ntmps30
  go_wp2_with fail
  generalize w.alloc (.cells #[.slice ap p.length cp, .slice an n cn] 32) = W0 at *
  obtain ⟨_, d0, d1⟩ := HS.out _ (Ext.refl W0).drew
  have H00 : Hid (Ext W0 W0) := Lib.hid (Ext.refl W0)
  go_region_held3 (fun w' => Ext W0 w' ∧ w'.cell? ⟨w.heap.size, 0, none⟩ = some (.slice ap p.length cp) ∧ w'.cell? ⟨w.heap.size, 1, none⟩ = some (.slice an n cn))
    (first | (with_reducible assumption) | exact HS.out _ H00.out.drew | exact HS.out _ HB.out | exact HS.out _ HA.out)
    (first
      | (have hpv := HA; clear hpv; go_at_call 75; refine (Hn2.out _ (HE0.out.trans HA.out)).mono ?_; rintro e9 VB ⟨uB, rfl, hoB, hxb⟩; have HB := Lib.hid (HA.out.trans hxb); have HoB := Lib.hid hoB; have HoA2 := Lib.hid (hxb.ownQ HoA.out); clear hxb hoB)
      | (go_at_call 75; refine (Hn1.out _ (HE0.out.trans H00.out.drew)).mono ?_; rintro e9 VA ⟨uA, rfl, hoA, hxa⟩; have HA := Lib.hid (H00.out.drew.trans hxa); have HoA := Lib.hid hoA; clear hxa hoA))
  all_goals
    have hxw := HE0.out.trans HB.out
    obtain ⟨aA, cA, rfl⟩ : ∃ a c, uA = .slice a p.length c := by
      obtain ⟨a, c, e⟩ := own_shape HoA2.out
      exact ⟨a, c, by rw [e, Hla.out]⟩
    obtain ⟨aB, cB, rfl⟩ : ∃ a c, uB = .slice a p.length c := by
      obtain ⟨a, c, e⟩ := own_shape HoB.out
      exact ⟨a, c, by rw [e, Hlb.out]⟩
    obtain ⟨_, _, e1, _, _, hca⟩ := HoA2.out.rd.parts
    injection e1 with e1 e2 e3
    subst e1
    clear e2 e3
    obtain ⟨_, _, e1, _, _, hcb⟩ := HoB.out.rd.parts
    injection e1 with e1 e2 e3
    subst e1
    clear e2 e3
    have Hca := Lib.hid hca; have Hcb := Lib.hid hcb; have Hxw := Lib.hid hxw
    clear hca hcb hxw d0 d1
    go_wp2_with fail
    go_loopw [9, 10] (fun v9 v10 wr => ∃ k : Nat, v10 = .int .i64 k ∧ k ≤ p.length ∧ wr.ownsRow VB.heap.size 97 2 v9 k (rcs ((subZ x y).take k)) ∧ Hid (Ext VB wr)) (fun _ v10 _ => p.length - (intOf v10).toNat)
    case atStart => exact ⟨0, rfl, Nat.zero_le _, World.ownsRow_nil VB _ _ 2, Lib.hid (Ext.refl _)⟩
    case round =>
      obtain ⟨k, rfl, hk, ho, HE⟩ := hrel
      obtain ⟨a9, c9, rfl⟩ := own_shape ho
      by_cases hkn : k < p.length
      · obtain ⟨a, b, hxa, hyb, hma, hmb⟩ := Hnx.out k hkn
        obtain ⟨bb, ob, rfl, h2, h3⟩ := Hcb.out k a hxa
        obtain ⟨ba, oa, rfl, h0, h1⟩ := Hca.out k b hyb
        have htk := subZ_take hxa hyb
        have hcl := fun W (hE : Ext VB W) => Hsub.out a b hma hmb W (Hxw.out.trans hE)
        unfold Rv at hcl
        generalize hs1 : I (a - b).num = s1 at *
        generalize hs2 : I (((a - b).den : Nat) : Int) = s2 at *
        have hrn : rcs ((subZ x y).take (k + 1)) = rcs ((subZ x y).take k) ++ [.string s1, .string s2] := by rw [htk, rcs_snoc, hs1, hs2]
        have Hrn := Lib.hid hrn
        clear hrn hs1 hs2 htk
        generalize I a.num = sa at *
        generalize I (a.den : Int) = sc at *
        generalize I b.num = sb at *
        generalize I (b.den : Int) = sd at *
        have hk0 : (0 : Int) ≤ (k : Int) := by omega
        have hk1 : (k : Int) < (p.length : Int) := by omega
        have c0 := HE.out.cell h0; have c1 := HE.out.cell h1; have c2 := HE.out.cell h2; have c3 := HE.out.cell h3
        have hm3 : k + 1 ≤ maxLen := by unfold maxLen; omega
        have hm4 : (k + 1) * 32 ≤ 140737488355328 := by omega
        have hS := fun W (h : Ext VB W) => (⟨h, h.cell h0, h.cell h1, h.cell h2, h.cell h3⟩ : Ext VB W ∧ W.cell? _ = _ ∧ W.cell? _ = _ ∧ W.cell? _ = _ ∧ W.cell? _ = _)
        have hbs := Hxw.out.size
        have HSc := Lib.hid hS; have Hcl := Lib.hid hcl; have Ho := Lib.hid ho
        clear hS hcl ho h0 h1 h2 h3 hxa hyb hma hmb
        go_wp2_with fail
        go_region_held3 (fun w' => Ext VB w' ∧ w'.cell? ⟨ba, oa + k * 2, none⟩ = some (.string sb) ∧ w'.cell? ⟨ba, oa + k * 2 + 1, none⟩ = some (.string sd) ∧ w'.cell? ⟨bb, ob + k * 2, none⟩ = some (.string sa) ∧ w'.cell? ⟨bb, ob + k * 2 + 1, none⟩ = some (.string sc))
          (first | with_reducible exact HSc.out _ HEV.out | with_reducible exact HSc.out _ (HEA.out.alloc _) | with_reducible exact HSc.out _ HEA.out | with_reducible exact HSc.out _ HE.out.drew)
          (first
            | (have hpv := HEA; clear hpv; refine step_append_lies _ rfl (.tmp 25) (.tmp 35) 41 rfl VB.heap.size 97 i0 (.agg #[.string ByteArray.empty, .string ByteArray.empty]) 2 32 Tryz.underlying41 hi hz0 hz1 hz2 rfl (by decide) (.slice a9 k c9) k (rcs ((subZ x y).take k)) (by simp [Act.eval]) (HoA.out.alloc _) ⟨VA.heap.size, 0, none⟩ 1 1 [.string s1, .string s2] (by simp [Act.eval]) rfl (cell_two VA _ _ _) (by simp [Value.oneCell']) (by decide) hm3 hm4 (HEA.out.alloc (.cells #[.string s1, .string s2] 97)).size _ rfl ?_; intro g1 cc1 V1 hown1 hgrow1 hat1 hlt1; have HEV := Lib.hid ((HEA.out.alloc _).grown hgrow1 fun j hj => (World.ownsRow.lt (HoA.out.alloc (.cells #[.string s1, .string s2] 97)) j hj).1); have Hown1 := Lib.hid hown1; clear hown1 hgrow1 hat1 hlt1)
            | (go_at_call 76; refine (Hcl.out _ HE.out.drew).mono ?_; rintro e9 VA ⟨rfl, hxa⟩; have HEA := Lib.hid (HE.out.drew.trans hxa); have HoA := Lib.hid ((((Ext.refl wr).drew).trans hxa).own Ho.out); clear hxa))
        all_goals
          clear c0 c1 c2 c3
          go_wp2_with fail
          go_roundw
          case rel => first | exact ⟨k + 1, by go_num, by omega, by rw [Hrn.out]; exact Hown1.out, HEV⟩ | ((repeat apply Exists.intro); exact ⟨⟨k + 1, by go_num, by omega, by rw [Hrn.out]; exact Hown1.out, HEV⟩, rfl⟩)
          case measure => simp [intOf]; omega
      · obtain rfl : k = p.length := by omega
        rw [List.take_of_length_le (by rw [Hzl.out]; exact Nat.le_refl _)] at ho
        have Ho := Lib.hid ho
        clear ho
        go_wp2
        go_ret
        exact ⟨_, rfl, by unfold OwnQ; rw [Hzl.out]; exact own_mono Ho.out Hxw.out.size, Hxw.out.trans HE.out⟩
end Go.Proofs.YtaakmdjicocjpaaGreatDoor

namespace Go.Proofs.YtaakmdjicocjpaaGreatDoor
open Go.RowKit Go.Lib
theorem step_append_any {P : Program} (w : World) {ops : Array Oper} {o : Oper} {a : Act} {K : Act → World → Prop} {Q : Exit → Act → World → Prop} {E : Prop} (hgd : o.guard = none) (s x : Operand) (t : TypeId)
    (ho : o.op = .call { callee := .builtin .append, args := #[s, x], argTypes := #[t, t] })
    (base : Nat) (e : TypeId) (i : TypeInfo) (z : Value) (size bytes : Nat) (ht : P.underlying t = some (.slice e)) (hi : P.info? e = some i) (hz : i.zero = some z)
    (hsize : i.size = size) (hby : i.bytes = bytes) (hzs : z.cells.size = size) (hsz : 0 < size)
    (v : Value) (n : Nat) (xs : List Value) (hs : a.eval s = v) (hown : w.ownsRow base e size v n xs)
    (ao : Option Addr) (m c : Nat) (news : List Value) (hx : a.eval x = .slice ao m c) (hnone : ao = none → m = 0 ∧ c = 0) (hl : news.length = m * size) (hnews : ∀ ad, ao = some ad → ∀ j u, news[j]? = some u → w.cell? (ad.add j) = some u) (h1 : ∀ u ∈ news, u.oneCell' = true)
    (h63 : n + m ≤ maxLen) (hbytes : (n + m) * bytes ≤ 140737488355328) (hbase : base ≤ w.heap.size)
    (h : ∀ v' w', w'.ownsRow base e size v' (n + m) (xs ++ news) → w.grownBy w' v.ownBlock → K (a.put o.dst v') w') :
    if Region.wanted o (yielded ops a.tmps) = true then Oper.wp P o a w K Q else E := by
  have hw : Region.wanted o (yielded ops a.tmps) = true := by simp [Region.wanted, hgd]
  rw [if_pos hw]
  cases ao with
  | none =>
    obtain ⟨rfl, rfl⟩ := hnone rfl
    obtain rfl : news = [] := List.eq_nil_of_length_eq_zero (by simpa using hl)
    have hr := run_append_owned_none (P := P) (w := w) base t o.type e i size ht hi v n xs hown
    unfold Oper.wp
    simp [execOp, ho, resolve, invoke, builtin, hs, hx, hr, Result.andThen]
    exact h v w (by rw [List.append_nil]; exact hown) ⟨rfl, rfl, rfl, Nat.le_refl _, fun _ _ _ => rfl⟩
  | some ad =>
    obtain ⟨v', w', hr, h2, h3, _⟩ := run_append_own (P := P) w base t o.type e i z size bytes ht hi hz hsize hby hzs hsz v n xs hown ad m c news hl (hnews ad rfl) h1 h63 hbytes hbase
    unfold Oper.wp
    simp [execOp, ho, resolve, invoke, builtin, hs, hx, hr, Result.andThen]
    exact h v' w' h2 h3
end Go.Proofs.YtaakmdjicocjpaaGreatDoor
