/- Walks: law 31's note over a plain right scale. -/
import Derived.Test.YtaakmdjicocjpaaGreatDoorPbG
import Derived.Test.YtaakmdjicocjpaaGreatDoorPbH
namespace Go.Proofs.YtaakmdjicocjpaaGreatDoor
open Go.RowKit Go.Lib

theorem sn_mulov (n : Nat) {q : Int} (h : q.natAbs ≤ 30000) : ∀ x ∈ mulZ (ov n) (q : Rat), Sn x := by
  rw [mul_ov]
  unfold zer
  rw [List.replicate_succ]
  intro x hx
  simp only [shf, List.mem_cons] at hx
  rcases hx with rfl | hx
  · rw [show (0 : Rat) + (q : Rat) = (q : Rat) by grind]
    exact sn_int h
  · rw [List.eq_of_mem_replicate hx]
    exact sn_zero
/-- The differences of notes are small. -/
theorem Wd.nt_sub_sn {p : List Int} {N : List (List Rat)} (h : Wd p N) (k l : Int) (hk0 : -1000 ≤ k) (hk1 : k ≤ 1000) (hl0 : -1000 ≤ l) (hl1 : l ≤ 1000) : ∀ r ∈ subZ (nt p N k) (nt p N l), Sn r := by
  obtain ⟨n, hn⟩ := h.dif
  have h0 := h.pos
  have hN : (0 : Int) < (N.length : Int) := by omega
  have e1 := div_bd (a := k) (b := (N.length : Int)) (m := 1000) hN hk0 hk1 (by omega)
  have e2 := div_bd (a := l) (b := (N.length : Int)) (m := 1000) hN hl0 hl1 (by omega)
  have b1 := h.nt_bd k
  have b2 := h.nt_bd l
  have c1 : (-1000 : Rat) ≤ ((k / (N.length : Int) : Int) : Rat) := Rat.intCast_le_intCast.2 e1.1
  have c2 : ((k / (N.length : Int) : Int) : Rat) ≤ 1000 := Rat.intCast_le_intCast.2 e1.2
  have c3 : (-1000 : Rat) ≤ ((l / (N.length : Int) : Int) : Rat) := Rat.intCast_le_intCast.2 e2.1
  have c4 : ((l / (N.length : Int) : Int) : Rat) ≤ 1000 := Rat.intCast_le_intCast.2 e2.2
  have hs := sF_sub p (nt p N k) (nt p N l) (by rw [h.ntlen, h.ntlen])
  have hl := (subZ_len (x := nt p N k) (y := nt p N l) (by rw [h.ntlen, h.ntlen])).trans (h.ntlen k)
  have hc : ((2001 * 67108864 : Int) : Rat) = 2001 * 67108864 := by rw [Rat.intCast_mul]; rfl
  exact nic_sn (c := 2001) (by rw [hl]; exact h.pr) (h.nt_nic hn k l) (by omega) (by omega) (by rw [hc]; grind) (by rw [hc]; grind)
theorem Wd.nt_sn {p : List Int} {N : List (List Rat)} (h : Wd p N) (k : Int) (hk0 : -1000 ≤ k) (hk1 : k ≤ 1000) : ∀ r ∈ nt p N k, Sn r := by
  have := h.nt_sub_sn k 0 hk0 hk1 (by omega) (by omega)
  rw [h.nt_zero, ← h.ntlen k, subZ_zer] at this
  exact this
theorem Wd.mem_sn {p : List Int} {N : List (List Rat)} (h : Wd p N) {x : List Rat} (hx : x ∈ N) : ∀ r ∈ x, Sn r := by
  obtain ⟨i, hi, e⟩ := List.mem_iff_getElem.1 hx
  have h10 := h.few
  have hz := h.nt_low (i := i + 1) (by omega)
  have e2 : zat p N (i + 1) = x := by unfold zat; rw [List.getElem?_cons_succ, List.getElem?_eq_getElem hi, e]; rfl
  rw [← e2, ← hz]
  exact h.nt_sn _ (by omega) (by omega)

set_option maxRecDepth 100000 in
set_option maxHeartbeats 800000 in
theorem lNote_c (v : Value) (p : List Int) (rs : List Qw) (k : Int) (w : World) (he : Env w) (hv : ScV w v p rs) (h : Wd p (rs.map Qw.x)) (hk0 : -1000 ≤ k) (hk1 : k ≤ 1000) :
    Calls Tryz.prog 40 #[v, .int .i64 k] w fun e w' => ∃ u, e = .returned u ∧ OwnQ w' w.heap.size u (nt p (rs.map Qw.x) k) ∧ Ext w w' := by
  have hpos := h.pos
  have hfew := h.few
  rw [List.length_map] at hpos hfew
  obtain ⟨n, hn⟩ : ∃ n, rs.length = n + 1 := ⟨rs.length - 1, by omega⟩
  obtain ⟨r, hr⟩ : ∃ r, rs[n]? = some r := ⟨_, List.getElem?_eq_getElem (by omega)⟩
  have hp3 : p.length ≤ 100 ∧ 0 < p.length := by rcases h.pr with ⟨e, _⟩ | ⟨e, _⟩ <;> rw [e] <;> decide
  have hrx : r.x = ov (p.length - 1) := by
    have := h.last
    rw [List.length_map, hn, Nat.add_sub_cancel, List.getElem?_map, hr] at this
    exact Option.some.inj this
  have hnq := h.noteQ hn k
  have hN : (0 : Int) < (n : Int) + 1 := by omega
  have htf := trunc_floor (k := k) hN
  have h3 := Int.emod_nonneg k (show (n : Int) + 1 ≠ 0 by omega)
  have h4 := Int.emod_lt_of_pos k hN
  have hqb := div_bd (a := k) (b := (n : Int) + 1) (m := 1000) hN hk0 hk1 (by omega)
  have hof := fun W (hE : Ext w W) => of_c (k / ((n : Int) + 1)) 1 W (he.ext hE) (by omega) (by decide) (by decide)
  rw [show mkRat (k / ((n : Int) + 1)) 1 = ((k / ((n : Int) + 1) : Int) : Rat) from Rat.mkRat_one _] at hof
  obtain ⟨vp, vn, rfl, hp, hs, hm⟩ := hv
  have hmem := List.mem_of_getElem? hr
  have hmr := hm r hmem
  have hti := fun W (hE : Ext w W) => lTimes_c r.u r.x ((k / ((n : Int) + 1) : Int) : Rat) W (he.ext hE) (hE.rd hmr) (by rw [hrx, ov_len]; omega) (by rw [hrx]; exact ov_sn _) (sn_int (by omega))
  obtain ⟨ap, cp, rfl, _, _, _⟩ := hp.parts
  obtain ⟨an, cn, rfl, _, _, hc⟩ := hs.parts
  rw [i64s_length]
  rw [qwc_length, hn]
  obtain ⟨b, off, rfl, hc0⟩ := hc n r.u (by unfold qwc; rw [List.getElem?_map, hr]; rfl)
  have hzero : k % ((n : Int) + 1) = 0 → nt p (rs.map Qw.x) k = mulZ r.x ((k / ((n : Int) + 1) : Int) : Rat) := fun e => by rw [← hnq]; unfold noteQ; rw [hr]; simp only [e, if_true]; rfl
  have hadd : ¬ k % ((n : Int) + 1) = 0 → ∃ (j : Nat) (s : Qw), (j : Int) = k % ((n : Int) + 1) - 1 ∧ (∃ a c, s.u = .slice a p.length c) ∧ w.cell? ⟨b, off + j, none⟩ = some s.u ∧
      ∀ W vb, Ext w W → Rd W vb (mulZ r.x ((k / ((n : Int) + 1) : Int) : Rat)) → Calls Tryz.prog 51 #[vb, s.u] W fun e w' => ∃ u, e = .returned u ∧ OwnQ w' W.heap.size u (nt p (rs.map Qw.x) k) ∧ Ext W w' := fun e => by
    obtain ⟨j, hj⟩ : ∃ j : Nat, (j : Int) = k % ((n : Int) + 1) - 1 := ⟨(k % ((n : Int) + 1) - 1).toNat, by omega⟩
    obtain ⟨s, hs1⟩ : ∃ s, rs[j]? = some s := ⟨_, List.getElem?_eq_getElem (by omega)⟩
    have hsm := List.mem_of_getElem? hs1
    have hrs := hm s hsm
    obtain ⟨b2, off2, e2, hcs⟩ := hc j s.u (by unfold qwc; rw [List.getElem?_map, hs1]; rfl)
    cases e2
    have hsl : s.x.length = p.length := h.len _ (List.mem_map_of_mem hsm)
    have hnq2 : nt p (rs.map Qw.x) k = addZ (mulZ r.x ((k / ((n : Int) + 1) : Int) : Rat)) s.x := by
      rw [← hnq]
      unfold noteQ
      rw [hr, if_neg e, show (k % ((n : Int) + 1)).toNat - 1 = j by omega, hs1]
      rfl
    refine ⟨j, s, hj, ?_, hcs, fun W vb hE hb => ?_⟩
    · obtain ⟨a, c, hu, _⟩ := hrs.parts
      rw [hsl] at hu
      exact ⟨a, c, hu⟩
    · rw [hnq2]
      exact lAdd_c vb s.u _ s.x W (he.ext hE) hb (hE.rd hrs) (by unfold mulZ; rw [List.length_map, hrx, ov_len, hsl]; omega) (by unfold mulZ; rw [List.length_map, hrx, ov_len]; omega) (by rw [hrx]; exact sn_mulov _ (by omega)) (h.mem_sn (List.mem_map_of_mem hsm))
  have hru : ∃ a c, r.u = .slice a p.length c := by
    obtain ⟨a, c, hu, _⟩ := hmr.parts
    rw [hrx, ov_len, show p.length - 1 + 1 = p.length by omega] at hu
    exact ⟨a, c, hu⟩
  obtain ⟨ra, rc', hru⟩ := hru
  rw [hru] at hc0 hti
  have hml : ((mulZ r.x ((k / ((n : Int) + 1) : Int) : Rat))).length = p.length := by unfold mulZ; rw [List.length_map, hrx, ov_len]; omega
  have hcast : ((n + 1 : Nat) : Int) = (n : Int) + 1 := by omega
  have hnz : ((n : Int) + 1) ≠ 0 := by omega
  have hn0 : (0 : Int) ≤ (n : Int) := by omega
  have hn1 : (n : Int) < (n : Int) + 1 := by omega
  have hn10 : n < 10 := by omega
  have hwn : IntKind.i64.wrap ((n : Int) + 1 - 1) = (n : Int) := by rw [show (n : Int) + 1 - 1 = (n : Int) by omega]; exact IntWalk.i64_in _ (by omega)
  have hwn2 : IntKind.i64.wrap (n : Int) = (n : Int) := IntWalk.i64_in _ (by omega)
  have hwm : wrap64 (k % ((n : Int) + 1)) = k % ((n : Int) + 1) := by unfold wrap64; omega
  have hE0 : Ext w (w.alloc (.cells #[.slice ap p.length cp, .slice (some ⟨b, off, none⟩) (n + 1) cn] 32)) := (Ext.refl w).alloc _
  have b0 := BoxT.new 32 w (.slice ap p.length cp) (.slice (some ⟨b, off, none⟩) (n + 1) cn)
  unfold Rv at hof hti
  generalize I (((k / ((n : Int) + 1) : Int) : Rat)).num = s1 at *
  generalize I (((((k / ((n : Int) + 1) : Int) : Rat)).den : Nat) : Int) = s2 at *
  clear hp hs hm he h hmr hmem hc hnq hn hr hrx hru hfew
  have Hof := Lib.hid hof; have Hti := Lib.hid hti; have Htf := Lib.hid htf; have Hzero := Lib.hid hzero; have Hadd := Lib.hid hadd; have Hml := Lib.hid hml; have HE0 := Lib.hid hE0; have B0 := Lib.hid b0; have Hc0 := Lib.hid hc0
  clear hof hti htf hzero hadd hml hE0 b0 hc0
  have hdec : k.tmod ((n : Int) + 1) < 0 ∨ ¬ k.tmod ((n : Int) + 1) < 0 := by omega
  rcases hdec with hs | hs
  case' inl => obtain ⟨e1, e2⟩ := Htf.out.1 hs
  case' inr => obtain ⟨e1, e2⟩ := Htf.out.2 hs
  all_goals
    go_enter Tryz.func40, Tryz.ntmps40
    go_wp2_with fail
    go_quiet (fail)
    go_wp2_with fail
    generalize hV : (w.alloc (.cells #[.slice ap p.length cp, .slice (some ⟨b, off, none⟩) (n + 1) cn] 32)).drewN nq = V at *
    have hEV : Ext (w.alloc (.cells #[.slice ap p.length cp, .slice (some ⟨b, off, none⟩) (n + 1) cn] 32)) V := by rw [← hV]; exact (Ext.refl _).drewN _
    have q1 := (B0.out.ext hEV).c1
    have hEw := HE0.out.trans hEV
    have qn := hEw.cell Hc0.out
    have HEw := Lib.hid hEw; have HEV := Lib.hid hEV
    clear hV hEV hEw
    have q1 := ((Ext.refl V).drew).cell q1
    have qn := ((Ext.refl V).drew).cell qn
    have HX := Lib.hid (HEw.out.drew)
    have HY := Lib.hid (HEV.out.drew)
    go_region_law (first
      | (go_simp; go_at_call 58; refine (Hof.out _ HX.out).mono ?_; rintro e V1 ⟨rfl, hx⟩; have q1 := hx.cell q1; have qn := hx.cell qn; have HX := Lib.hid (HX.out.trans hx); have HY := Lib.hid (HY.out.trans hx); clear hx)
      | (go_simp; go_at_call 57; refine (Hti.out _ HX.out).mono ?_; rintro e V2 ⟨u2, rfl, ho, hx⟩; have HO := Lib.hid (OwnQ.mono ho HX.out.size); have HX := Lib.hid (HX.out.trans hx); have HY := Lib.hid (HY.out.trans hx); clear ho hx))
    all_goals
      clear q1 qn hwm hwn hwn2 e1 e2 hs
      by_cases hi : k % ((n : Int) + 1) = 0
      · have hnq := Hzero.out hi
        have Hnq := Lib.hid hnq
        clear hnq
        go_wp2
        go_ret
        exact ⟨_, rfl, by rw [Hnq.out]; exact HO.out, HX.out⟩
      · obtain ⟨j, s, hj, ⟨sa, sc, hsu⟩, hcs, had⟩ := Hadd.out hi
        rw [hsu] at hcs had
        have hcs2 := HX.out.cell hcs
        have q1 := (B0.out.ext HY.out).c1
        have haD := had V2 u2 HX.out HO.out.rd
        have hj0 : (0 : Int) ≤ (j : Int) := by omega
        have hj1 : (j : Int) < ((n + 1 : Nat) : Int) := by omega
        clear hcs had
        have hj3 : (j : Int) < (n : Int) + 1 := by omega
        have HaD := Lib.hid haD
        clear haD
        have hjk : k % ((n : Int) + 1) = (j : Int) + 1 := by omega
        clear hj
        generalize k % ((n : Int) + 1) = iv at *
        subst hjk
        have hwj : IntKind.i64.wrap ((j : Int) + 1 - 1) = (j : Int) := by rw [show (j : Int) + 1 - 1 = (j : Int) by omega]; exact IntWalk.i64_in _ (by omega)
        have hwj2 : IntKind.i64.wrap (j : Int) = (j : Int) := IntWalk.i64_in _ (by omega)
        have hjn : j < n + 1 := by omega
        go_wp2_with fail
        refine HaD.out.mono ?_
        rintro e V3 ⟨u3, rfl, ho3, hx3⟩
        have Ho3 := Lib.hid (OwnQ.mono ho3 HX.out.size); have Hx3 := Lib.hid (HX.out.trans hx3)
        clear ho3 hx3 q1 hcs2
        go_wp2
        go_ret
        exact ⟨_, rfl, Ho3.out, Hx3.out⟩
end Go.Proofs.YtaakmdjicocjpaaGreatDoor
