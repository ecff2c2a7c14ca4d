/- Walks: slices.Equal at primes, slices.EqualFunc at sizes; law 31's same, scale.same. -/
import Derived.Test.YtaakmdjicocjpaaGreatDoorPaW
import Derived.Test.YtaakmdjicocjpaaGreatDoorPaS
import Derived.Test.YtaakmdjicocjpaaGreatDoorPaF
namespace Go.Proofs.YtaakmdjicocjpaaGreatDoor
open Go.RowKit Go.Lib Go.Shelf

attribute [local go_sem] Oper.semAt_some

set_option maxRecDepth 100000 in
set_option maxHeartbeats 800000 in
theorem eqP_c (va vb : Value) (p q : List Int) (w : World) (ha : Sl w va (i64s p)) (hb : Sl w vb (i64s q)) (hp : p.length ≤ 1000) (hq : q.length ≤ 1000) :
    Calls Tryz.prog 97 #[va, vb] w fun e w' => e = .returned (.bool (decide (p = q))) ∧ Ext w w' := by
  obtain ⟨aa, ca, rfl, _, _, hca⟩ := ha.parts
  obtain ⟨ab, cb, rfl, _, _, hcb⟩ := hb.parts
  rw [i64s_length] at *
  rw [i64s_length] at *
  have h1 : ∀ k x, p[k]? = some x → ∃ b off, aa = some ⟨b, off, none⟩ ∧ w.cell? ⟨b, off + k, none⟩ = some (.int .i64 x) := fun k x h => hca k _ (by unfold i64s; rw [List.getElem?_map, h]; rfl)
  have h2 : ∀ k x, q[k]? = some x → ∃ b off, ab = some ⟨b, off, none⟩ ∧ w.cell? ⟨b, off + k, none⟩ = some (.int .i64 x) := fun k x h => hcb k _ (by unfold i64s; rw [List.getElem?_map, h]; rfl)
  clear hca hcb ha hb
  by_cases hl : p.length = q.length
  · have Hl := Lib.hid hl
    rw [← hl]
    have hfin : (∀ i, i < p.length → p[i]? = q[i]?) → decide (p = q) = true := fun h => by
      rw [decide_eq_true_eq]
      apply List.ext_getElem?
      intro i
      rcases Nat.lt_or_ge i p.length with g | g
      · exact h i g
      · rw [List.getElem?_eq_none g, List.getElem?_eq_none (by omega)]
    have hbad : ∀ (i : Nat) (x y : Int), p[i]? = some x → q[i]? = some y → x ≠ y → decide (p = q) = false := fun i x y h1 h2 h3 => by
      rw [decide_eq_false_iff_not]
      rintro rfl
      rw [h1] at h2
      exact h3 (Option.some.inj h2)
    generalize hn : p.length = n at *
    clear hl hq
    have H1 := Lib.hid h1; have H2 := Lib.hid h2; have Hfin := Lib.hid hfin; have Hbad := Lib.hid hbad; have Hn := Lib.hid hn
    clear h1 h2 hfin hbad hn
    go_enter Tryz.func97, Tryz.ntmps97
    go_wp2_with fail
    go_loopw [5, 13] (fun v5 v13 wr => ∃ k : Nat, v13 = .int .i64 k ∧ k ≤ n ∧ Hid (∀ i, i < k → p[i]? = q[i]?) ∧ Hid (Ext w wr)) (fun _ v13 _ => n - (intOf v13).toNat)
    case atStart => exact ⟨0, rfl, Nat.zero_le _, Lib.hid (fun i h => by omega), Lib.hid (Ext.refl _)⟩
    case round =>
      obtain ⟨k, rfl, hk, Hall, HE⟩ := hrel
      by_cases hkn : k < n
      · obtain ⟨x, hx⟩ : ∃ x, p[k]? = some x := ⟨_, List.getElem?_eq_getElem (by rw [Hn.out]; exact hkn)⟩
        obtain ⟨y, hy⟩ : ∃ y, q[k]? = some y := ⟨_, List.getElem?_eq_getElem (by rw [← Hl.out]; exact hkn)⟩
        obtain ⟨ba, oa, rfl, c0⟩ := H1.out k x hx
        obtain ⟨bb, ob, rfl, c1⟩ := H2.out k y hy
        have c0 := HE.out.cell c0; have c1 := HE.out.cell c1
        have hk0 : (0 : Int) ≤ (k : Int) := by omega
        have hk1 : (k : Int) < (n : Int) := by omega
        by_cases hxy : x = y
        · subst hxy
          have Hnx : Hid (∀ i, i < k + 1 → p[i]? = q[i]?) := Lib.hid (fun i hi => by
            rcases Nat.lt_or_ge i k with g | g
            · exact Hall.out i g
            · rw [show i = k by omega, hx, hy])
          clear hx hy
          go_wp2_with fail
          go_quiet (fail)
          go_wp2_with fail
          go_roundw
          case rel => exact ⟨k + 1, by go_num, by omega, Hnx, Lib.hid (HE.out.drewN _)⟩
          case measure => simp [intOf]; omega
        · have hb1 := Hbad.out k x y hx hy hxy
          have hxb : (x == y) = false := beq_eq_false_iff_ne.2 hxy
          have Hb1 := Lib.hid hb1
          clear hb1 hx hy
          go_wp2_with fail
          go_quiet (fail)
          go_wp2
          go_ret
          exact ⟨by rw [Hb1.out]; rfl, HE.out.drewN _⟩
      · obtain rfl : n = k := by omega
        have Hf := Lib.hid (Hfin.out Hall.out)
        go_wp2
        go_ret
        exact ⟨by rw [Hf.out]; rfl, HE.out⟩
  · have hne : decide (p = q) = false := by
      rw [decide_eq_false_iff_not]
      rintro rfl
      exact hl rfl
    rw [hne]
    have hl2 : ¬ (p.length : Int) = (q.length : Int) := by omega
    clear h1 h2 hne
    generalize p.length = n at *
    generalize q.length = m at *
    go_enter Tryz.func97, Tryz.ntmps97
    go_wp2
    go_ret
    exact ⟨rfl, Ext.refl _⟩

set_option maxRecDepth 100000 in
set_option maxHeartbeats 800000 in
theorem eqFn_c (va vb : Value) (rs ts : List Qw) (w : World) (ha : RdM w va rs) (hb : RdM w vb ts) (hr : rs.length ≤ 1000) (_ht : ts.length ≤ 1000) (hr2 : ∀ r ∈ rs, r.x.length ≤ 1000) (ht2 : ∀ r ∈ ts, r.x.length ≤ 1000) :
    Calls Tryz.prog 98 #[va, vb, .func (.func 28) #[] #[]] w fun e w' => e = .returned (.bool (decide (rs.map Qw.x = ts.map Qw.x))) ∧ Ext w w' := by
  have heq := fun (r s : Qw) (h : r ∈ rs) (k : s ∈ ts) W (hE : Ext w W) => sEq_c r.u s.u r.x s.x W (hE.rd (ha.2 r h)) (hE.rd (hb.2 s k)) (hr2 r h) (ht2 s k)
  obtain ⟨aa, ca, rfl, _, _, hca⟩ := ha.1.parts
  obtain ⟨ab, cb, rfl, _, _, hcb⟩ := hb.1.parts
  rw [qwc_length] at *
  rw [qwc_length] at *
  have h1 : ∀ k r, rs[k]? = some r → ∃ b off, aa = some ⟨b, off, none⟩ ∧ w.cell? ⟨b, off + k, none⟩ = some r.u := fun k x h => hca k _ (by unfold qwc; rw [List.getElem?_map, h]; rfl)
  have h2 : ∀ k r, ts[k]? = some r → ∃ b off, ab = some ⟨b, off, none⟩ ∧ w.cell? ⟨b, off + k, none⟩ = some r.u := fun k x h => hcb k _ (by unfold qwc; rw [List.getElem?_map, h]; rfl)
  clear hca hcb ha hb hr2 ht2
  by_cases hl : rs.length = ts.length
  · have Hl := Lib.hid hl
    rw [← hl]
    have hfin : (∀ i, i < rs.length → (rs.map Qw.x)[i]? = (ts.map Qw.x)[i]?) → decide (rs.map Qw.x = ts.map Qw.x) = true := fun h => by
      rw [decide_eq_true_eq]
      apply List.ext_getElem?
      intro i
      rcases Nat.lt_or_ge i rs.length with g | g
      · exact h i g
      · rw [List.getElem?_eq_none (by rw [List.length_map]; exact g), List.getElem?_eq_none (by rw [List.length_map]; omega)]
    have hbad : ∀ (i : Nat) (r s : Qw), rs[i]? = some r → ts[i]? = some s → r.x ≠ s.x → decide (rs.map Qw.x = ts.map Qw.x) = false := fun i r s h1 h2 h3 => by
      rw [decide_eq_false_iff_not]
      intro e
      have := congrArg (fun l => l[i]?) e
      simp only [List.getElem?_map, h1, h2, Option.map_some, Option.some.injEq] at this
      exact h3 this
    generalize hn : rs.length = n at *
    clear hl _ht
    have H1 := Lib.hid h1; have H2 := Lib.hid h2; have Hfin := Lib.hid hfin; have Hbad := Lib.hid hbad; have Hn := Lib.hid hn; have Heq := Lib.hid heq
    clear h1 h2 hfin hbad hn heq
    go_enter Tryz.func98, Tryz.ntmps98
    go_wp2_with fail
    go_loopw [7, 8, 9, 17] (fun v7 v8 v9 v17 wr => ∃ k : Nat, v17 = .int .i64 k ∧ k ≤ n ∧ Hid (∀ i, i < k → (rs.map Qw.x)[i]? = (ts.map Qw.x)[i]?) ∧ Hid (Ext w wr)) (fun _ _ _ v17 _ => n - (intOf v17).toNat)
    case atStart => exact ⟨0, rfl, Nat.zero_le _, Lib.hid (fun i h => by omega), Lib.hid (Ext.refl _)⟩
    case round =>
      obtain ⟨k, rfl, hk, Hall, HE⟩ := hrel
      by_cases hkn : k < n
      · obtain ⟨r, hx⟩ : ∃ x, rs[k]? = some x := ⟨_, List.getElem?_eq_getElem (by rw [Hn.out]; exact hkn)⟩
        obtain ⟨s, hy⟩ : ∃ y, ts[k]? = some y := ⟨_, List.getElem?_eq_getElem (by rw [← Hl.out]; exact hkn)⟩
        obtain ⟨ba, oa, rfl, c0⟩ := H1.out k r hx
        obtain ⟨bb, ob, rfl, c1⟩ := H2.out k s hy
        have c0 := HE.out.cell c0; have c1 := HE.out.cell c1
        have hk0 : (0 : Int) ≤ (k : Int) := by omega
        have hk1 : (k : Int) < (n : Int) := by omega
        have hq := Heq.out r s (List.mem_of_getElem? hx) (List.mem_of_getElem? hy) wr HE.out
        by_cases hxy : r.x = s.x
        · have Hnx : Hid (∀ i, i < k + 1 → (rs.map Qw.x)[i]? = (ts.map Qw.x)[i]?) := Lib.hid (fun i hi => by
            rcases Nat.lt_or_ge i k with g | g
            · exact Hall.out i g
            · rw [show i = k by omega, List.getElem?_map, List.getElem?_map, hx, hy, Option.map_some, Option.map_some, hxy])
          rw [decide_eq_true hxy] at hq
          have Hq := Lib.hid hq
          clear hx hy hq hxy
          generalize r.u = ur at *
          generalize s.u = us at *
          go_wp2_with fail
          refine Hq.out.mono ?_
          rintro e w2 ⟨rfl, hx2⟩
          have HE2 := Lib.hid (HE.out.trans hx2)
          clear hx2
          go_wp2_with fail
          go_roundw
          case rel => exact ⟨k + 1, by go_num, by omega, Hnx, HE2⟩
          case measure => simp [intOf]; omega
        · have hb1 := Hbad.out k r s hx hy hxy
          rw [decide_eq_false hxy] at hq
          have Hb1 := Lib.hid hb1; have Hq := Lib.hid hq
          clear hb1 hx hy hq hxy
          generalize r.u = ur at *
          generalize s.u = us at *
          go_wp2_with fail
          refine Hq.out.mono ?_
          rintro e w2 ⟨rfl, hx2⟩
          have HE2 := Lib.hid (HE.out.trans hx2)
          clear hx2
          go_wp2
          go_ret
          exact ⟨by rw [Hb1.out]; rfl, HE2.out⟩
      · obtain rfl : n = k := by omega
        have Hf := Lib.hid (Hfin.out Hall.out)
        go_wp2
        go_ret
        exact ⟨by rw [Hf.out]; rfl, HE.out⟩
  · have hne : decide (rs.map Qw.x = ts.map Qw.x) = false := by
      rw [decide_eq_false_iff_not]
      intro e
      have := congrArg List.length e
      rw [List.length_map, List.length_map] at this
      exact hl this
    rw [hne]
    have hl2 : ¬ (rs.length : Int) = (ts.length : Int) := by omega
    clear h1 h2 hne heq
    generalize rs.length = n at *
    generalize ts.length = m at *
    go_enter Tryz.func98, Tryz.ntmps98
    go_wp2
    go_ret
    exact ⟨rfl, Ext.refl _⟩

set_option maxRecDepth 100000 in
set_option maxHeartbeats 800000 in
theorem lSame_c (v1 v2 : Value) (p q : List Int) (rs ts : List Qw) (w : World) (h1 : ScV w v1 p rs) (h2 : ScV w v2 q ts) (hp : p.length ≤ 1000) (hq : q.length ≤ 1000) (hr : rs.length ≤ 1000) (ht : ts.length ≤ 1000) (hr2 : ∀ r ∈ rs, r.x.length ≤ 1000) (ht2 : ∀ r ∈ ts, r.x.length ≤ 1000) :
    Calls Tryz.prog 45 #[v1, v2] w fun e w' => e = .returned (.bool (decide (p = q) && decide (rs.map Qw.x = ts.map Qw.x))) ∧ Ext w w' := by
  obtain ⟨vp, vn, rfl, hp1, hn1⟩ := h1
  obtain ⟨vq, vm, rfl, hq1, hm1⟩ := h2
  have he1 := fun W (hE : Ext w W) => eqP_c vp vq p q W (hE.sl hp1) (hE.sl hq1) hp hq
  have he2 := fun W (hE : Ext w W) => eqFn_c vn vm rs ts W (hE.rdM hn1) (hE.rdM hm1) hr ht hr2 ht2
  obtain ⟨ap, cp, rfl, _, _, _⟩ := hp1.parts
  obtain ⟨aq, cq, rfl, _, _, _⟩ := hq1.parts
  obtain ⟨an, cn, rfl, _, _, _⟩ := hn1.1.parts
  obtain ⟨am, cm, rfl, _, _, _⟩ := hm1.1.parts
  generalize (i64s p).length = lp at *
  generalize (i64s q).length = lq at *
  generalize (qwc rs).length = ln at *
  generalize (qwc ts).length = lm at *
  generalize decide (p = q) = b1 at *
  generalize decide (rs.map Qw.x = ts.map Qw.x) = b2 at *
  have hE0 : Ext w ((w.alloc (.cells #[.slice ap lp cp, .slice an ln cn] 32)).alloc (.cells #[.slice aq lq cq, .slice am lm cm] 32)) := ((Ext.refl w).alloc _).alloc _
  have k1 := (BoxT.new 32 w (.slice ap lp cp) (.slice an ln cn)).ext ((Ext.refl _).alloc (.cells #[.slice aq lq cq, .slice am lm cm] 32))
  have k2 := BoxT.new 32 (w.alloc (.cells #[.slice ap lp cp, .slice an ln cn] 32)) (.slice aq lq cq) (.slice am lm cm)
  rw [World.size_alloc] at k2
  have q0 := k1.c0; have q2 := k2.c0
  have He1 := Lib.hid he1; have He2 := Lib.hid he2; have HE0 := Lib.hid hE0; have K1 := Lib.hid k1; have K2' := Lib.hid k2
  clear hp1 hq1 hn1 hm1 he1 he2 hE0 k1 k2 hr2 ht2
  cases b1
  · go_enter Tryz.func45, Tryz.ntmps45
    go_wp2_with fail
    refine (He1.out _ HE0.out).mono ?_
    rintro e w1 ⟨rfl, hx1⟩
    have Hx1 := Lib.hid (HE0.out.trans hx1)
    clear hx1
    go_wp2
    go_ret
    exact ⟨rfl, Hx1.out⟩
  · go_enter Tryz.func45, Tryz.ntmps45
    go_wp2_with fail
    refine (He1.out _ HE0.out).mono ?_
    rintro e w1 ⟨rfl, hx1⟩
    have q1 := (K1.out.ext hx1).c1; have q3 := (K2'.out.ext hx1).c1
    have Hx1 := Lib.hid (HE0.out.trans hx1)
    clear hx1 q0 q2
    go_wp2_with fail
    refine (He2.out _ Hx1.out).mono ?_
    rintro e w2 ⟨rfl, hx2⟩
    have Hx2 := Lib.hid (Hx1.out.trans hx2)
    clear hx2 q1 q3
    go_wp2
    go_ret
    exact ⟨rfl, Hx2.out⟩

set_option maxRecDepth 100000 in
set_option maxHeartbeats 800000 in
theorem scSame_c (v1 v2 : Value) (p q : List Int) (rs ts : List Qw) (w : World) (h1 : ScV w v1 p rs) (h2 : ScV w v2 q ts) (hp : p.length ≤ 1000) (hq : q.length ≤ 1000) (hr : rs.length ≤ 1000) (ht : ts.length ≤ 1000) (hr2 : ∀ r ∈ rs, r.x.length ≤ 1000) (ht2 : ∀ r ∈ ts, r.x.length ≤ 1000) :
    Calls Tryz.prog 100 #[v1, v2] w fun e w' => e = .returned (.bool (decide (p = q) && decide (rs.map Qw.x = ts.map Qw.x))) ∧ Ext w w' := by
  obtain ⟨vp, vn, rfl, hp1, hn1⟩ := h1
  obtain ⟨vq, vm, rfl, hq1, hm1⟩ := h2
  have he1 := fun W (hE : Ext w W) => eqP_c vp vq p q W (hE.sl hp1) (hE.sl hq1) hp hq
  have he2 := fun W (hE : Ext w W) => eqFn_c vn vm rs ts W (hE.rdM hn1) (hE.rdM hm1) hr ht hr2 ht2
  obtain ⟨ap, cp, rfl, _, _, _⟩ := hp1.parts
  obtain ⟨aq, cq, rfl, _, _, _⟩ := hq1.parts
  obtain ⟨an, cn, rfl, _, _, _⟩ := hn1.1.parts
  obtain ⟨am, cm, rfl, _, _, _⟩ := hm1.1.parts
  generalize (i64s p).length = lp at *
  generalize (i64s q).length = lq at *
  generalize (qwc rs).length = ln at *
  generalize (qwc ts).length = lm at *
  generalize decide (p = q) = b1 at *
  generalize decide (rs.map Qw.x = ts.map Qw.x) = b2 at *
  have hE0 : Ext w ((w.alloc (.cells #[.slice ap lp cp, .slice an ln cn] 32)).alloc (.cells #[.slice aq lq cq, .slice am lm cm] 32)) := ((Ext.refl w).alloc _).alloc _
  have k1 := (BoxT.new 32 w (.slice ap lp cp) (.slice an ln cn)).ext ((Ext.refl _).alloc (.cells #[.slice aq lq cq, .slice am lm cm] 32))
  have k2 := BoxT.new 32 (w.alloc (.cells #[.slice ap lp cp, .slice an ln cn] 32)) (.slice aq lq cq) (.slice am lm cm)
  rw [World.size_alloc] at k2
  have q0 := k1.c0; have q2 := k2.c0
  have He1 := Lib.hid he1; have He2 := Lib.hid he2; have HE0 := Lib.hid hE0; have K1 := Lib.hid k1; have K2' := Lib.hid k2
  clear hp1 hq1 hn1 hm1 he1 he2 hE0 k1 k2 hr2 ht2
  cases b1
  · go_enter Tryz.func100, Tryz.ntmps100
    go_wp2_with fail
    refine (He1.out _ HE0.out).mono ?_
    rintro e w1 ⟨rfl, hx1⟩
    have Hx1 := Lib.hid (HE0.out.trans hx1)
    clear hx1
    go_wp2
    go_ret
    exact ⟨rfl, Hx1.out⟩
  · go_enter Tryz.func100, Tryz.ntmps100
    go_wp2_with fail
    refine (He1.out _ HE0.out).mono ?_
    rintro e w1 ⟨rfl, hx1⟩
    have q1 := (K1.out.ext hx1).c1; have q3 := (K2'.out.ext hx1).c1
    have Hx1 := Lib.hid (HE0.out.trans hx1)
    clear hx1 q0 q2
    go_wp2_with fail
    refine (He2.out _ Hx1.out).mono ?_
    rintro e w2 ⟨rfl, hx2⟩
    have Hx2 := Lib.hid (Hx1.out.trans hx2)
    clear hx2 q1 q3
    go_wp2
    go_ret
    exact ⟨rfl, Hx2.out⟩
end Go.Proofs.YtaakmdjicocjpaaGreatDoor
