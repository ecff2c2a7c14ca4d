/- Walks: schismaref03's plus, above, minus at one digit. Walks: schismaref03's AddW and SignW at one digit. -/
import Derived.Test.YtajdfggocldeaaaGreatDoorPb23
import Derived.Deep.QuietTactic
import Derived.Deep.RegionHeld3
set_option maxRecDepth 100000
set_option maxHeartbeats 800000
namespace Go.Proofs.YtajdfggocldeaaaGreatDoor
open Go.RowKit Go.Lib Go.Shelf
attribute [local go_sem] Oper.semAt_some
theorem dg_cases {w : World} {v : Value} {m : Nat} (h : Sl w v (i64s (dg (m : Int)))) : (m = 0 ∧ ∃ a c, v = .slice a 0 c ∧ c ≤ maxLen) ∨ (0 < m ∧ ∃ b off c, v = .slice (some ⟨b, off, none⟩) 1 c ∧ w.cell? ⟨b, off, none⟩ = some (.int .i64 (m : Int)) ∧ 1 ≤ c ∧ c ≤ maxLen) := by
  rcases Nat.eq_zero_or_pos m with rfl | hm
  · obtain ⟨a, c, rfl, hc, _, _⟩ := h.parts
    exact .inl ⟨rfl, a, c, rfl, hc⟩
  · have e : dg (m : Int) = [(m : Int)] := by unfold dg; rw [if_neg (by omega), Int.natAbs_natCast]
    rw [e] at h
    obtain ⟨a, c, rfl, hc, h1, h2⟩ := h.parts
    obtain ⟨b, off, rfl, h3⟩ := h2 0 (.int .i64 (m : Int)) rfl
    exact .inr ⟨hm, b, off, c, rfl, h3, h1, hc⟩
/-- No digit, or one. -/
def optD (c : Prop) [Decidable c] (k : Nat) : List Int := if c then [] else [(k : Int)]
theorem optD_pos {c : Prop} [Decidable c] {k : Nat} (h : c) : optD c k = [] := if_pos h
theorem optD_neg {c : Prop} [Decidable c] {k : Nat} (h : ¬ c) : optD c k = [(k : Int)] := if_neg h
theorem one_sl {w : World} {B : Nat} {v : Value} {m : Int} (h : w.ownsRow B 3 1 v (0 + 1) ([] ++ [.int .i64 m])) : Sl w v (i64s [m]) := sl_own h
theorem plus_c (va vb : Value) (m n : Nat) (w : World) (ha : Sl w va (i64s (dg (m : Int)))) (hb : Sl w vb (i64s (dg (n : Int)))) (hmn : m + n < 1000000000) :
    Calls Tryz.prog 184 #[va, vb] w fun e w' => ∃ u, e = .returned u ∧ Sl w' u (i64s (optD (m = 0 ∧ n = 0) (m + n))) ∧ Ext w w' := by
  obtain ⟨i0, hi, hz0, hz1, hz2⟩ := info_parts info_int
  rcases dg_cases ha with ⟨rfl, aa, ca, rfl, _⟩ | ⟨hm, b, off, ca, rfl, h1, _, _⟩
  · rcases dg_cases hb with ⟨rfl, ab, cb, rfl, _⟩ | ⟨hn, b', off', cb, rfl, h2, _, _⟩
    · rw [optD_pos ⟨rfl, rfl⟩]
      clear ha hb
      go_enter Tryz.func184, Tryz.ntmps184
      go_wp2_with fail
      refine wp_loop_rounds 2 ?_
      rw [rounds_succ]
      go_wp2
      go_ret
      exact ⟨_, rfl, .inl ⟨none, 0, rfl, Nat.zero_le _, rfl⟩, Ext.refl w⟩
    · rw [optD_neg (by omega)]
      have e1 : (((0 + n : Nat)) : Int) = (n : Int) := by omega
      rw [e1]
      have hr : (n : Int).tmod 1000000000 = (n : Int) := Int.tmod_eq_of_lt (by omega) (by omega)
      have hq : (n : Int).tdiv 1000000000 = 0 := Int.tdiv_eq_zero_of_lt (by omega) (by omega)
      have hb1 : -9223372036854775808 ≤ (n : Int) ∧ (n : Int) ≤ 9223372036854775807 := by omega
      clear ha hb e1
      go_enter Tryz.func184, Tryz.ntmps184
      go_wp2_with fail
      refine wp_loop_rounds 2 ?_
      rw [rounds_succ]
      go_wp2_with (at_builtin; refine wpList_append_own _ rfl _ _ 31 rfl w.heap.size 3 i0 (.int .i64 0) 1 8 Tryz.underlying31 hi hz0 hz1 hz2 rfl (by decide) _ _ _ rfl ((World.ownsRow_nil w _ _ 1).alloc _) ⟨w.heap.size, 0, none⟩ 1 1 [.int .i64 ((n : Int))] rfl rfl (cell_one_new _ _ _) (by simp [Value.oneCell']) (by decide) (by decide) (by rw [World.size_alloc]; omega) ?_; intro v7 V7 hown7 hgrow7 _; obtain ⟨a7, c7, rfl⟩ := own_shape hown7)
      have hEV : Ext w V7 := ((Ext.refl w).alloc _).grown hgrow7 (fun k hk => (World.ownsRow.lt ((World.ownsRow_nil w w.heap.size 3 1).alloc (.cells #[.int .i64 ((n : Int))] 3)) k hk).1)
      have HEV := Lib.hid hEV; have Hs7 := Lib.hid (one_sl hown7)
      clear hEV hown7 hgrow7
      rw [rounds_succ]
      go_wp2
      go_ret
      exact ⟨_, rfl, Hs7.out, HEV.out⟩
  · rcases dg_cases hb with ⟨rfl, ab, cb, rfl, _⟩ | ⟨hn, b', off', cb, rfl, h2, _, _⟩
    · rw [optD_neg (by omega)]
      have e1 : (((m + 0 : Nat)) : Int) = (m : Int) := by omega
      rw [e1]
      have hr : (m : Int).tmod 1000000000 = (m : Int) := Int.tmod_eq_of_lt (by omega) (by omega)
      have hq : (m : Int).tdiv 1000000000 = 0 := Int.tdiv_eq_zero_of_lt (by omega) (by omega)
      clear ha hb e1
      go_enter Tryz.func184, Tryz.ntmps184
      go_wp2_with fail
      refine wp_loop_rounds 2 ?_
      rw [rounds_succ]
      go_wp2_with (at_builtin; refine wpList_append_own _ rfl _ _ 31 rfl w.heap.size 3 i0 (.int .i64 0) 1 8 Tryz.underlying31 hi hz0 hz1 hz2 rfl (by decide) _ _ _ rfl ((World.ownsRow_nil w _ _ 1).alloc _) ⟨w.heap.size, 0, none⟩ 1 1 [.int .i64 ((m : Int))] rfl rfl (cell_one_new _ _ _) (by simp [Value.oneCell']) (by decide) (by decide) (by rw [World.size_alloc]; omega) ?_; intro v7 V7 hown7 hgrow7 _; obtain ⟨a7, c7, rfl⟩ := own_shape hown7)
      have hEV : Ext w V7 := ((Ext.refl w).alloc _).grown hgrow7 (fun k hk => (World.ownsRow.lt ((World.ownsRow_nil w w.heap.size 3 1).alloc (.cells #[.int .i64 ((m : Int))] 3)) k hk).1)
      have HEV := Lib.hid hEV; have Hs7 := Lib.hid (one_sl hown7)
      clear hEV hown7 hgrow7
      rw [rounds_succ]
      go_wp2
      go_ret
      exact ⟨_, rfl, Hs7.out, HEV.out⟩
    · rw [optD_neg (by omega)]
      have e1 : (((m + n : Nat)) : Int) = (m : Int) + (n : Int) := by omega
      rw [e1]
      have hr : ((m : Int) + (n : Int)).tmod 1000000000 = (m : Int) + (n : Int) := Int.tmod_eq_of_lt (by omega) (by omega)
      have hq : ((m : Int) + (n : Int)).tdiv 1000000000 = 0 := Int.tdiv_eq_zero_of_lt (by omega) (by omega)
      clear ha hb e1
      go_enter Tryz.func184, Tryz.ntmps184
      go_wp2_with fail
      refine wp_loop_rounds 2 ?_
      rw [rounds_succ]
      go_wp2_with (at_builtin; refine wpList_append_own _ rfl _ _ 31 rfl w.heap.size 3 i0 (.int .i64 0) 1 8 Tryz.underlying31 hi hz0 hz1 hz2 rfl (by decide) _ _ _ rfl ((World.ownsRow_nil w _ _ 1).alloc _) ⟨w.heap.size, 0, none⟩ 1 1 [.int .i64 ((m : Int) + (n : Int))] rfl rfl (cell_one_new _ _ _) (by simp [Value.oneCell']) (by decide) (by decide) (by rw [World.size_alloc]; omega) ?_; intro v7 V7 hown7 hgrow7 _; obtain ⟨a7, c7, rfl⟩ := own_shape hown7)
      have hEV : Ext w V7 := ((Ext.refl w).alloc _).grown hgrow7 (fun k hk => (World.ownsRow.lt ((World.ownsRow_nil w w.heap.size 3 1).alloc (.cells #[.int .i64 ((m : Int) + (n : Int))] 3)) k hk).1)
      have HEV := Lib.hid hEV; have Hs7 := Lib.hid (one_sl hown7)
      clear hEV hown7 hgrow7
      rw [rounds_succ]
      go_wp2
      go_ret
      exact ⟨_, rfl, Hs7.out, HEV.out⟩
theorem minus_c (va vb : Value) (m n : Nat) (w : World) (ha : Sl w va (i64s (dg (m : Int)))) (hb : Sl w vb (i64s (dg (n : Int)))) (hmn : n ≤ m) (hm9 : m < 1000000000) :
    Calls Tryz.prog 154 #[va, vb] w fun e w' => ∃ u, e = .returned u ∧ Sl w' u (i64s (optD (m = 0) (m - n))) ∧ Ext w w' := by
  obtain ⟨i0, hi, hz0, hz1, hz2⟩ := info_parts info_int
  rcases dg_cases ha with ⟨rfl, aa, ca, rfl, _⟩ | ⟨hm, b, off, ca, rfl, h1, _, _⟩
  · rw [optD_pos rfl]
    obtain ⟨ab, cb, rfl, _, _, _⟩ := hb.parts
    generalize (i64s (dg (n : Int))).length = lb at *
    clear ha hb
    go_enter Tryz.func154, Tryz.ntmps154
    go_wp2_with fail
    refine wp_loop_rounds 2 ?_
    rw [rounds_succ]
    go_wp2
    go_ret
    exact ⟨_, rfl, .inl ⟨none, 0, rfl, Nat.zero_le _, rfl⟩, Ext.refl w⟩
  · rcases dg_cases hb with ⟨rfl, ab, cb, rfl, _⟩ | ⟨hn, b', off', cb, rfl, h2, _, _⟩
    · rw [optD_neg (by omega)]
      have e1 : (((m - 0 : Nat)) : Int) = (m : Int) := by omega
      rw [e1]
      have hlt : ¬ (m : Int) < 0 := by omega
      clear ha hb e1
      go_enter Tryz.func154, Tryz.ntmps154
      go_wp2_with fail
      refine wp_loop_rounds 2 ?_
      rw [rounds_succ]
      go_wp2_with (at_builtin; refine wpList_append_own _ rfl _ _ 31 rfl w.heap.size 3 i0 (.int .i64 0) 1 8 Tryz.underlying31 hi hz0 hz1 hz2 rfl (by decide) _ _ _ rfl ((World.ownsRow_nil w _ _ 1).alloc _) ⟨w.heap.size, 0, none⟩ 1 1 [.int .i64 ((m : Int))] rfl rfl (cell_one_new _ _ _) (by simp [Value.oneCell']) (by decide) (by decide) (by rw [World.size_alloc]; omega) ?_; intro v7 V7 hown7 hgrow7 _; obtain ⟨a7, c7, rfl⟩ := own_shape hown7)
      have hEV : Ext w V7 := ((Ext.refl w).alloc _).grown hgrow7 (fun k hk => (World.ownsRow.lt ((World.ownsRow_nil w w.heap.size 3 1).alloc (.cells #[.int .i64 ((m : Int))] 3)) k hk).1)
      have HEV := Lib.hid hEV; have Hs7 := Lib.hid (one_sl hown7)
      clear hEV hown7 hgrow7
      rw [rounds_succ]
      go_wp2
      go_ret
      exact ⟨_, rfl, Hs7.out, HEV.out⟩
    · rw [optD_neg (by omega)]
      have e1 : (((m - n : Nat)) : Int) = (m : Int) - (n : Int) := by omega
      rw [e1]
      have hlt : ¬ (m : Int) - (n : Int) < 0 := by omega
      clear ha hb e1
      go_enter Tryz.func154, Tryz.ntmps154
      go_wp2_with fail
      refine wp_loop_rounds 2 ?_
      rw [rounds_succ]
      go_wp2_with (at_builtin; refine wpList_append_own _ rfl _ _ 31 rfl w.heap.size 3 i0 (.int .i64 0) 1 8 Tryz.underlying31 hi hz0 hz1 hz2 rfl (by decide) _ _ _ rfl ((World.ownsRow_nil w _ _ 1).alloc _) ⟨w.heap.size, 0, none⟩ 1 1 [.int .i64 ((m : Int) - (n : Int))] rfl rfl (cell_one_new _ _ _) (by simp [Value.oneCell']) (by decide) (by decide) (by rw [World.size_alloc]; omega) ?_; intro v7 V7 hown7 hgrow7 _; obtain ⟨a7, c7, rfl⟩ := own_shape hown7)
      have hEV : Ext w V7 := ((Ext.refl w).alloc _).grown hgrow7 (fun k hk => (World.ownsRow.lt ((World.ownsRow_nil w w.heap.size 3 1).alloc (.cells #[.int .i64 ((m : Int) - (n : Int))] 3)) k hk).1)
      have HEV := Lib.hid hEV; have Hs7 := Lib.hid (one_sl hown7)
      clear hEV hown7 hgrow7
      rw [rounds_succ]
      go_wp2
      go_ret
      exact ⟨_, rfl, Hs7.out, HEV.out⟩
theorem above_c (va vb : Value) (m n : Nat) (w : World) (ha : Sl w va (i64s (dg (m : Int)))) (hb : Sl w vb (i64s (dg (n : Int)))) (hm9 : m < 1000000000) (hn9 : n < 1000000000) :
    Calls Tryz.prog 152 #[va, vb] w fun e w' => ∃ z : Int, e = .returned (.int .i64 z) ∧ (0 ≤ z ↔ n ≤ m) ∧ Ext w w' := by
  rcases dg_cases ha with ⟨rfl, aa, ca, rfl, _⟩ | ⟨hm, b, off, ca, rfl, h1, _, _⟩
  · rcases dg_cases hb with ⟨rfl, ab, cb, rfl, _⟩ | ⟨hn, b', off', cb, rfl, h2, _, _⟩
    · clear ha hb
      go_enter Tryz.func152, Tryz.ntmps152
      go_wp2_with fail
      refine wp_loop_rounds 2 ?_
      rw [rounds_succ]
      go_wp2
      go_ret
      exact ⟨_, rfl, by omega, Ext.refl w⟩
    · clear ha hb
      go_enter Tryz.func152, Tryz.ntmps152
      go_wp2
      go_ret
      exact ⟨_, rfl, by omega, Ext.refl w⟩
  · rcases dg_cases hb with ⟨rfl, ab, cb, rfl, _⟩ | ⟨hn, b', off', cb, rfl, h2, _, _⟩
    · clear ha hb
      go_enter Tryz.func152, Tryz.ntmps152
      go_wp2
      go_ret
      exact ⟨_, rfl, by omega, Ext.refl w⟩
    · clear ha hb
      rcases (by omega : m < n ∨ (¬ m < n ∧ n < m) ∨ (¬ m < n ∧ ¬ n < m)) with g | ⟨g, g2⟩ | ⟨g, g2⟩
      · have gi : (m : Int) < (n : Int) := by omega
        go_enter Tryz.func152, Tryz.ntmps152
        go_wp2_with fail
        refine wp_loop_rounds 2 ?_
        rw [rounds_succ]
        go_wp2_with fail
        go_quiet (fail)
        go_wp2
        go_ret
        first | exact ⟨_, rfl, by omega, ((Ext.refl w).drewN _).drewN _⟩ | exact ⟨_, rfl, by omega, (Ext.refl w).drewN _⟩
      · have gi : ¬ (m : Int) < (n : Int) := by omega
        have gj : (n : Int) < (m : Int) := by omega
        go_enter Tryz.func152, Tryz.ntmps152
        go_wp2_with fail
        refine wp_loop_rounds 2 ?_
        rw [rounds_succ]
        go_wp2_with fail
        go_quiet (fail)
        go_wp2_with fail
        go_quiet (fail)
        go_wp2
        go_ret
        first | exact ⟨_, rfl, by omega, ((Ext.refl w).drewN _).drewN _⟩ | exact ⟨_, rfl, by omega, (Ext.refl w).drewN _⟩
      · have gi : ¬ (m : Int) < (n : Int) := by omega
        have gj : ¬ (n : Int) < (m : Int) := by omega
        go_enter Tryz.func152, Tryz.ntmps152
        go_wp2_with fail
        refine wp_loop_rounds 2 ?_
        rw [rounds_succ]
        go_wp2_with fail
        go_quiet (fail)
        go_wp2_with fail
        go_quiet (fail)
        go_wp2_with fail
        rw [rounds_succ]
        go_wp2
        go_ret
        first | exact ⟨_, rfl, by omega, ((Ext.refl w).drewN _).drewN _⟩ | exact ⟨_, rfl, by omega, (Ext.refl w).drewN _⟩
end Go.Proofs.YtajdfggocldeaaaGreatDoor

namespace Go.Proofs.YtajdfggocldeaaaGreatDoor
open Go.RowKit Go.Lib Go.Shelf
attribute [local go_sem] Oper.semAt_some
theorem dg_abs (x : Int) : dg x = dg ((x.natAbs : Nat) : Int) := by
  unfold dg
  by_cases h : x = 0
  · subst h; rfl
  · rw [if_neg h, if_neg (by omega), Int.natAbs_natCast]
theorem rtrimD_c (u : Value) (b : Bool) (c : Prop) [Decidable c] (k : Nat) (w : World) (hu : Sl w u (i64s (optD c k))) (hc : c → k = 0) :
    Calls Tryz.prog 111 #[.agg #[.bool b, u]] w fun e w' => ∃ v, e = .returned v ∧ W1 w' v (sgn1 b k) ∧ Ext w w' := by
  by_cases h : c
  · rw [optD_pos h] at hu
    rw [hc h]
    have : sgn1 b 0 = 0 := by cases b <;> rfl
    rw [this]
    exact rtrim0_c u b w hu
  · rw [optD_neg h] at hu
    exact rtrim1_c u b k 0 w hu (by omega)
theorem sl_let {w : World} {v : Value} {xs : List Int} (h : Sl w v (i64s xs)) : ∃ a l c, v = .slice a l c ∧ Sl w (.slice a l c) (i64s xs) := by
  obtain ⟨a, c, rfl, _, _, _⟩ := h.parts
  exact ⟨a, _, c, rfl, h⟩
theorem w1_let {w : World} {v : Value} {z : Int} (h : W1 w v z) : ∃ b a l c, v = .agg #[.bool b, .slice a l c] ∧ W1 w (.agg #[.bool b, .slice a l c]) z := by
  obtain ⟨u, rfl, hs⟩ := h
  obtain ⟨a, l, c, rfl, hs⟩ := sl_let hs
  exact ⟨_, a, l, c, rfl, _, rfl, hs⟩
theorem w1_past {w : World} {v : Value} {z : Int} (h : W1 w v z) {T : TypeId} {c : Nat} {p q : Value} (hb : BoxT T w c p q) (hu : ∀ z, p ≠ .int .i64 z) (hv : ∀ z, q ≠ .int .i64 z) (x y : Value) : W1 ((w.setCell ⟨c, 0, none⟩ x).setCell ⟨c, 1, none⟩ y) v z := by
  obtain ⟨u, e, hs⟩ := h
  exact ⟨u, e, sl_past hs hb hu hv x y⟩
theorem addW_c (va vb : Value) (x y : Int) (w : World) (ha : W1 w va x) (hb : W1 w vb y) (hxy : x.natAbs + y.natAbs < 1000000000) :
    Calls Tryz.prog 145 #[va, vb] w fun e w' => ∃ v, e = .returned v ∧ W1 w' v (x + y) ∧ Ext w w' := by
  obtain ⟨ua, rfl, hsa⟩ := ha
  obtain ⟨ub, rfl, hsb⟩ := hb
  rw [dg_abs] at hsa hsb
  have hpl := fun W (hE : Ext w W) => plus_c ua ub x.natAbs y.natAbs W (hE.sl hsa) (hE.sl hsb) hxy
  have hab := fun W (hE : Ext w W) => above_c ua ub x.natAbs y.natAbs W (hE.sl hsa) (hE.sl hsb) (by omega) (by omega)
  have hm1 := fun W (hE : Ext w W) (h : y.natAbs ≤ x.natAbs) => minus_c ua ub x.natAbs y.natAbs W (hE.sl hsa) (hE.sl hsb) h (by omega)
  have hm2 := fun W (hE : Ext w W) (h : x.natAbs ≤ y.natAbs) => minus_c ub ua y.natAbs x.natAbs W (hE.sl hsb) (hE.sl hsa) h (by omega)
  obtain ⟨aa, ca, rfl, _, _, _⟩ := hsa.parts
  obtain ⟨ab, cb, rfl, _, _, _⟩ := hsb.parts
  generalize (i64s (dg ((x.natAbs : Nat) : Int))).length = la at *
  generalize (i64s (dg ((y.natAbs : Nat) : Int))).length = lb at *
  have hbx : decide (x < 0) = true ↔ x < 0 := decide_eq_true_iff
  have hby : decide (y < 0) = true ↔ y < 0 := decide_eq_true_iff
  generalize hbx0 : decide (x < 0) = bx at *
  generalize hby0 : decide (y < 0) = by1 at *
  have Hpl := Lib.hid hpl; have Hab := Lib.hid hab; have Hm1 := Lib.hid hm1; have Hm2 := Lib.hid hm2
  clear hpl hab hm1 hm2 hbx0 hby0
  have hk2 := k2_new 110 110 110 w (.bool bx) (.slice aa la ca) (.bool by1) (.slice ab lb cb) (.bool false) (.slice none 0 0)
  have Hsa := Lib.hid hsa; have Hsb := Lib.hid hsb
  clear hsa hsb
  generalize hV : ((w.alloc (.cells #[.bool bx, .slice aa la ca] 110)).alloc (.cells #[.bool by1, .slice ab lb cb] 110)).alloc (.cells #[.bool false, .slice none 0 0] 110) = V at *
  obtain ⟨hk, hr⟩ := hk2
  have Hk := Lib.hid hk; have Hr := Lib.hid hr
  have p0 := hk.a.c0; have p1 := hk.a.c1; have q0 := hk.b.c0; have q1 := hk.b.c1
  clear hk hr
  by_cases hs : bx = by1
  · have hsum : sgn1 bx (x.natAbs + y.natAbs) = x + y := by
      unfold sgn1
      subst hs
      cases bx
      · have h1 : ¬ x < 0 := fun h => by have := hbx.2 h; cases this
        have h2 : ¬ y < 0 := fun h => by have := hby.2 h; cases this
        simp; omega
      · have h1 := hbx.1 rfl
        have h2 := hby.1 rfl
        simp; omega
    have Hsum := Lib.hid hsum
    have HcA : Hid ((x.natAbs = 0 ∧ y.natAbs = 0) → x.natAbs + y.natAbs = 0) := Lib.hid (fun h => by omega)
    clear hsum hbx hby hxy
    subst hs
    cases bx
    · go_enter Tryz.func145, Tryz.ntmps145
      go_wp2_with fail
      have HkV := Hk
      go_region_held3 (fun w' => K2 110 110 110 w w' w.heap.size (.bool false) (.slice aa la ca) (w.heap.size + 1) (.bool false) (.slice ab lb cb) (w.heap.size + 1 + 1) ∧ w'.cell? ⟨w.heap.size, 0, none⟩ = some (.bool false) ∧ w'.cell? ⟨w.heap.size, 1, none⟩ = some (.slice aa la ca) ∧ w'.cell? ⟨w.heap.size + 1, 0, none⟩ = some (.bool false) ∧ w'.cell? ⟨w.heap.size + 1, 1, none⟩ = some (.slice ab lb cb) ∧ w'.cell? ⟨w.heap.size + 1 + 1, 0, none⟩ = some (valAt w' (w.heap.size + 1 + 1) 0) ∧ w'.cell? ⟨w.heap.size + 1 + 1, 1, none⟩ = some (valAt w' (w.heap.size + 1 + 1) 1) ∧ w'.frozen? ⟨w.heap.size + 1 + 1, 0, none⟩ = false ∧ w'.frozen? ⟨w.heap.size + 1 + 1, 1, none⟩ = false)
        (first | exact HkB.out.all | exact HkA.out.all | exact (K2.ext HkV.out ((Ext.refl V).drew)).all | exact (K2.put HkB.out (by omega) (by omega) (by omega) _ _).all)
        (first
          | (go_at_call 111; refine (rtrimD_c _ false _ _ VA HuA.out HcA.out).mono ?_; rintro e9 VB ⟨v9, rfl, hw9, hxb⟩; obtain ⟨b9, a9, l9, c9, rfl, hw9⟩ := w1_let hw9; have HkB := Lib.hid (K2.ext HkA.out hxb); have HrB := Lib.hid ((HrA.out).ext hxb); have Hw9 := Lib.hid hw9; clear hxb hw9)
          | (go_at_call 184; refine (Hpl.out _ ((Hk.out.x).drew)).mono ?_; rintro e9 VA ⟨u8, rfl, hu8, hxa⟩; obtain ⟨a8, l8, c8, rfl, hu8⟩ := sl_let hu8; have HkA := Lib.hid (K2.ext HkV.out (((Ext.refl V).drew).trans hxa)); have HrA := Lib.hid ((Hr.out).ext (((Ext.refl V).drew).trans hxa)); have HuA := Lib.hid hu8; clear hxa hu8))
      all_goals
        obtain ⟨hb, hfx⟩ := HkB.out.fin (by omega) (.bool b9) (.slice a9 l9 c9)
        have hs5 := w1_past Hw9.out HrB.out (by simp) (by simp) (.bool b9) (.slice a9 l9 c9)
        have Hfx := Lib.hid hfx; have Hs5 := Lib.hid hs5
        clear hfx hs5
        generalize (VB.setCell ⟨w.heap.size + 1 + 1, 0, none⟩ (.bool b9)).setCell ⟨w.heap.size + 1 + 1, 1, none⟩ (.slice a9 l9 c9) = W5 at *
        have hd0 := hb.c0
        have hd1 := hb.c1
        go_wp2_with fail
        exact bodyPost_ret (v := .agg #[.bool b9, .slice a9 l9 c9]) (by simp [results, Tryz.results145, go_sem, hd0, hd1]) rfl ⟨_, rfl, by rw [← Hsum.out]; exact Hs5.out, Hfx.out⟩
    · go_enter Tryz.func145, Tryz.ntmps145
      go_wp2_with fail
      have HkV := Hk
      go_region_held3 (fun w' => K2 110 110 110 w w' w.heap.size (.bool true) (.slice aa la ca) (w.heap.size + 1) (.bool true) (.slice ab lb cb) (w.heap.size + 1 + 1) ∧ w'.cell? ⟨w.heap.size, 0, none⟩ = some (.bool true) ∧ w'.cell? ⟨w.heap.size, 1, none⟩ = some (.slice aa la ca) ∧ w'.cell? ⟨w.heap.size + 1, 0, none⟩ = some (.bool true) ∧ w'.cell? ⟨w.heap.size + 1, 1, none⟩ = some (.slice ab lb cb) ∧ w'.cell? ⟨w.heap.size + 1 + 1, 0, none⟩ = some (valAt w' (w.heap.size + 1 + 1) 0) ∧ w'.cell? ⟨w.heap.size + 1 + 1, 1, none⟩ = some (valAt w' (w.heap.size + 1 + 1) 1) ∧ w'.frozen? ⟨w.heap.size + 1 + 1, 0, none⟩ = false ∧ w'.frozen? ⟨w.heap.size + 1 + 1, 1, none⟩ = false)
        (first | exact HkB.out.all | exact HkA.out.all | exact (K2.ext HkV.out ((Ext.refl V).drew)).all | exact (K2.put HkB.out (by omega) (by omega) (by omega) _ _).all)
        (first
          | (go_at_call 111; refine (rtrimD_c _ true _ _ VA HuA.out HcA.out).mono ?_; rintro e9 VB ⟨v9, rfl, hw9, hxb⟩; obtain ⟨b9, a9, l9, c9, rfl, hw9⟩ := w1_let hw9; have HkB := Lib.hid (K2.ext HkA.out hxb); have HrB := Lib.hid ((HrA.out).ext hxb); have Hw9 := Lib.hid hw9; clear hxb hw9)
          | (go_at_call 184; refine (Hpl.out _ ((Hk.out.x).drew)).mono ?_; rintro e9 VA ⟨u8, rfl, hu8, hxa⟩; obtain ⟨a8, l8, c8, rfl, hu8⟩ := sl_let hu8; have HkA := Lib.hid (K2.ext HkV.out (((Ext.refl V).drew).trans hxa)); have HrA := Lib.hid ((Hr.out).ext (((Ext.refl V).drew).trans hxa)); have HuA := Lib.hid hu8; clear hxa hu8))
      all_goals
        obtain ⟨hb, hfx⟩ := HkB.out.fin (by omega) (.bool b9) (.slice a9 l9 c9)
        have hs5 := w1_past Hw9.out HrB.out (by simp) (by simp) (.bool b9) (.slice a9 l9 c9)
        have Hfx := Lib.hid hfx; have Hs5 := Lib.hid hs5
        clear hfx hs5
        generalize (VB.setCell ⟨w.heap.size + 1 + 1, 0, none⟩ (.bool b9)).setCell ⟨w.heap.size + 1 + 1, 1, none⟩ (.slice a9 l9 c9) = W5 at *
        have hd0 := hb.c0
        have hd1 := hb.c1
        go_wp2_with fail
        exact bodyPost_ret (v := .agg #[.bool b9, .slice a9 l9 c9]) (by simp [results, Tryz.results145, go_sem, hd0, hd1]) rfl ⟨_, rfl, by rw [← Hsum.out]; exact Hs5.out, Hfx.out⟩
  · have hcs : (bx = false ∧ by1 = true) ∨ (bx = true ∧ by1 = false) := by cases bx <;> cases by1 <;> simp_all
    rcases hcs with ⟨rfl, rfl⟩ | ⟨rfl, rfl⟩
    · have hsx : 0 ≤ x ∧ y < 0 := by
        have := (show ¬ x < 0 from fun h => by have := hbx.2 h; cases this)
        have h2 := hby.1 rfl
        omega
      clear hbx hby hs
      go_enter Tryz.func145, Tryz.ntmps145
      go_wp2_with fail
      refine (Hab.out V Hk.out.x).mono ?_
      rintro e V1 ⟨z, rfl, hz, hx1⟩
      have hk1 := Hk.out.ext hx1
      have hr1 := Hr.out.ext hx1
      have p0 := hk1.a.c0; have p1 := hk1.a.c1; have q0 := hk1.b.c0; have q1 := hk1.b.c1
      have Hk := Lib.hid hk1; have Hr := Lib.hid hr1
      clear hk1 hr1 hx1
      obtain ⟨V, hVV⟩ : ∃ V, V = V1 := ⟨_, rfl⟩
      subst hVV
      by_cases hge : y.natAbs ≤ x.natAbs
      · have hz0 : 0 ≤ z := hz.2 hge
        have Hsum : Hid (sgn1 false (x.natAbs - y.natAbs) = x + y) := Lib.hid (by unfold sgn1; simp; omega)
        have HcA : Hid (x.natAbs = 0 → x.natAbs - y.natAbs = 0) := Lib.hid (fun h => by omega)
        clear hz hsx
        go_wp2_with fail
        have HkV := Hk
        go_region_held3 (fun w' => K2 110 110 110 w w' w.heap.size (.bool false) (.slice aa la ca) (w.heap.size + 1) (.bool true) (.slice ab lb cb) (w.heap.size + 1 + 1) ∧ w'.cell? ⟨w.heap.size, 0, none⟩ = some (.bool false) ∧ w'.cell? ⟨w.heap.size, 1, none⟩ = some (.slice aa la ca) ∧ w'.cell? ⟨w.heap.size + 1, 0, none⟩ = some (.bool true) ∧ w'.cell? ⟨w.heap.size + 1, 1, none⟩ = some (.slice ab lb cb) ∧ w'.cell? ⟨w.heap.size + 1 + 1, 0, none⟩ = some (valAt w' (w.heap.size + 1 + 1) 0) ∧ w'.cell? ⟨w.heap.size + 1 + 1, 1, none⟩ = some (valAt w' (w.heap.size + 1 + 1) 1) ∧ w'.frozen? ⟨w.heap.size + 1 + 1, 0, none⟩ = false ∧ w'.frozen? ⟨w.heap.size + 1 + 1, 1, none⟩ = false)
          (first | exact HkB.out.all | exact HkA.out.all | exact (K2.ext HkV.out ((Ext.refl V).drew)).all | exact (K2.put HkB.out (by omega) (by omega) (by omega) _ _).all)
          (first
            | (go_at_call 111; refine (rtrimD_c _ false _ _ VA HuA.out HcA.out).mono ?_; rintro e9 VB ⟨v9, rfl, hw9, hxb⟩; obtain ⟨b9, a9, l9, c9, rfl, hw9⟩ := w1_let hw9; have HkB := Lib.hid (K2.ext HkA.out hxb); have HrB := Lib.hid ((HrA.out).ext hxb); have Hw9 := Lib.hid hw9; clear hxb hw9)
            | (go_at_call 154; refine (Hm1.out _ ((Hk.out.x).drew) hge).mono ?_; rintro e9 VA ⟨u8, rfl, hu8, hxa⟩; obtain ⟨a8, l8, c8, rfl, hu8⟩ := sl_let hu8; have HkA := Lib.hid (K2.ext HkV.out (((Ext.refl V).drew).trans hxa)); have HrA := Lib.hid ((Hr.out).ext (((Ext.refl V).drew).trans hxa)); have HuA := Lib.hid hu8; clear hxa hu8))
        all_goals
          obtain ⟨hb, hfx⟩ := HkB.out.fin (by omega) (.bool b9) (.slice a9 l9 c9)
          have hs5 := w1_past Hw9.out HrB.out (by simp) (by simp) (.bool b9) (.slice a9 l9 c9)
          have Hfx := Lib.hid hfx; have Hs5 := Lib.hid hs5
          clear hfx hs5
          generalize (VB.setCell ⟨w.heap.size + 1 + 1, 0, none⟩ (.bool b9)).setCell ⟨w.heap.size + 1 + 1, 1, none⟩ (.slice a9 l9 c9) = W5 at *
          have hd0 := hb.c0
          have hd1 := hb.c1
          go_wp2_with fail
          exact bodyPost_ret (v := .agg #[.bool b9, .slice a9 l9 c9]) (by simp [results, Tryz.results145, go_sem, hd0, hd1]) rfl ⟨_, rfl, by rw [← Hsum.out]; exact Hs5.out, Hfx.out⟩
      · have hz0 : ¬ 0 ≤ z := fun h => hge (hz.1 h)
        have hle : x.natAbs ≤ y.natAbs := by omega
        have Hsum : Hid (sgn1 true (y.natAbs - x.natAbs) = x + y) := Lib.hid (by unfold sgn1; simp; omega)
        have HcA : Hid (y.natAbs = 0 → y.natAbs - x.natAbs = 0) := Lib.hid (fun h => by omega)
        clear hz hsx
        go_wp2_with fail
        have HkV := Hk
        go_region_held3 (fun w' => K2 110 110 110 w w' w.heap.size (.bool false) (.slice aa la ca) (w.heap.size + 1) (.bool true) (.slice ab lb cb) (w.heap.size + 1 + 1) ∧ w'.cell? ⟨w.heap.size, 0, none⟩ = some (.bool false) ∧ w'.cell? ⟨w.heap.size, 1, none⟩ = some (.slice aa la ca) ∧ w'.cell? ⟨w.heap.size + 1, 0, none⟩ = some (.bool true) ∧ w'.cell? ⟨w.heap.size + 1, 1, none⟩ = some (.slice ab lb cb) ∧ w'.cell? ⟨w.heap.size + 1 + 1, 0, none⟩ = some (valAt w' (w.heap.size + 1 + 1) 0) ∧ w'.cell? ⟨w.heap.size + 1 + 1, 1, none⟩ = some (valAt w' (w.heap.size + 1 + 1) 1) ∧ w'.frozen? ⟨w.heap.size + 1 + 1, 0, none⟩ = false ∧ w'.frozen? ⟨w.heap.size + 1 + 1, 1, none⟩ = false)
          (first | exact HkB.out.all | exact HkA.out.all | exact (K2.ext HkV.out ((Ext.refl V).drew)).all | exact (K2.put HkB.out (by omega) (by omega) (by omega) _ _).all)
          (first
            | (go_at_call 111; refine (rtrimD_c _ true _ _ VA HuA.out HcA.out).mono ?_; rintro e9 VB ⟨v9, rfl, hw9, hxb⟩; obtain ⟨b9, a9, l9, c9, rfl, hw9⟩ := w1_let hw9; have HkB := Lib.hid (K2.ext HkA.out hxb); have HrB := Lib.hid ((HrA.out).ext hxb); have Hw9 := Lib.hid hw9; clear hxb hw9)
            | (go_at_call 154; refine (Hm2.out _ ((Hk.out.x).drew) hle).mono ?_; rintro e9 VA ⟨u8, rfl, hu8, hxa⟩; obtain ⟨a8, l8, c8, rfl, hu8⟩ := sl_let hu8; have HkA := Lib.hid (K2.ext HkV.out (((Ext.refl V).drew).trans hxa)); have HrA := Lib.hid ((Hr.out).ext (((Ext.refl V).drew).trans hxa)); have HuA := Lib.hid hu8; clear hxa hu8))
        all_goals
          obtain ⟨hb, hfx⟩ := HkB.out.fin (by omega) (.bool b9) (.slice a9 l9 c9)
          have hs5 := w1_past Hw9.out HrB.out (by simp) (by simp) (.bool b9) (.slice a9 l9 c9)
          have Hfx := Lib.hid hfx; have Hs5 := Lib.hid hs5
          clear hfx hs5
          generalize (VB.setCell ⟨w.heap.size + 1 + 1, 0, none⟩ (.bool b9)).setCell ⟨w.heap.size + 1 + 1, 1, none⟩ (.slice a9 l9 c9) = W5 at *
          have hd0 := hb.c0
          have hd1 := hb.c1
          go_wp2_with fail
          exact bodyPost_ret (v := .agg #[.bool b9, .slice a9 l9 c9]) (by simp [results, Tryz.results145, go_sem, hd0, hd1]) rfl ⟨_, rfl, by rw [← Hsum.out]; exact Hs5.out, Hfx.out⟩
    · have hsx : x < 0 ∧ 0 ≤ y := by
        have := (show ¬ y < 0 from fun h => by have := hby.2 h; cases this)
        have h2 := hbx.1 rfl
        omega
      clear hbx hby hs
      go_enter Tryz.func145, Tryz.ntmps145
      go_wp2_with fail
      refine (Hab.out V Hk.out.x).mono ?_
      rintro e V1 ⟨z, rfl, hz, hx1⟩
      have hk1 := Hk.out.ext hx1
      have hr1 := Hr.out.ext hx1
      have p0 := hk1.a.c0; have p1 := hk1.a.c1; have q0 := hk1.b.c0; have q1 := hk1.b.c1
      have Hk := Lib.hid hk1; have Hr := Lib.hid hr1
      clear hk1 hr1 hx1
      obtain ⟨V, hVV⟩ : ∃ V, V = V1 := ⟨_, rfl⟩
      subst hVV
      by_cases hge : y.natAbs ≤ x.natAbs
      · have hz0 : 0 ≤ z := hz.2 hge
        have Hsum : Hid (sgn1 true (x.natAbs - y.natAbs) = x + y) := Lib.hid (by unfold sgn1; simp; omega)
        have HcA : Hid (x.natAbs = 0 → x.natAbs - y.natAbs = 0) := Lib.hid (fun h => by omega)
        clear hz hsx
        go_wp2_with fail
        have HkV := Hk
        go_region_held3 (fun w' => K2 110 110 110 w w' w.heap.size (.bool true) (.slice aa la ca) (w.heap.size + 1) (.bool false) (.slice ab lb cb) (w.heap.size + 1 + 1) ∧ w'.cell? ⟨w.heap.size, 0, none⟩ = some (.bool true) ∧ w'.cell? ⟨w.heap.size, 1, none⟩ = some (.slice aa la ca) ∧ w'.cell? ⟨w.heap.size + 1, 0, none⟩ = some (.bool false) ∧ w'.cell? ⟨w.heap.size + 1, 1, none⟩ = some (.slice ab lb cb) ∧ w'.cell? ⟨w.heap.size + 1 + 1, 0, none⟩ = some (valAt w' (w.heap.size + 1 + 1) 0) ∧ w'.cell? ⟨w.heap.size + 1 + 1, 1, none⟩ = some (valAt w' (w.heap.size + 1 + 1) 1) ∧ w'.frozen? ⟨w.heap.size + 1 + 1, 0, none⟩ = false ∧ w'.frozen? ⟨w.heap.size + 1 + 1, 1, none⟩ = false)
          (first | exact HkB.out.all | exact HkA.out.all | exact (K2.ext HkV.out ((Ext.refl V).drew)).all | exact (K2.put HkB.out (by omega) (by omega) (by omega) _ _).all)
          (first
            | (go_at_call 111; refine (rtrimD_c _ true _ _ VA HuA.out HcA.out).mono ?_; rintro e9 VB ⟨v9, rfl, hw9, hxb⟩; obtain ⟨b9, a9, l9, c9, rfl, hw9⟩ := w1_let hw9; have HkB := Lib.hid (K2.ext HkA.out hxb); have HrB := Lib.hid ((HrA.out).ext hxb); have Hw9 := Lib.hid hw9; clear hxb hw9)
            | (go_at_call 154; refine (Hm1.out _ ((Hk.out.x).drew) hge).mono ?_; rintro e9 VA ⟨u8, rfl, hu8, hxa⟩; obtain ⟨a8, l8, c8, rfl, hu8⟩ := sl_let hu8; have HkA := Lib.hid (K2.ext HkV.out (((Ext.refl V).drew).trans hxa)); have HrA := Lib.hid ((Hr.out).ext (((Ext.refl V).drew).trans hxa)); have HuA := Lib.hid hu8; clear hxa hu8))
        all_goals
          obtain ⟨hb, hfx⟩ := HkB.out.fin (by omega) (.bool b9) (.slice a9 l9 c9)
          have hs5 := w1_past Hw9.out HrB.out (by simp) (by simp) (.bool b9) (.slice a9 l9 c9)
          have Hfx := Lib.hid hfx; have Hs5 := Lib.hid hs5
          clear hfx hs5
          generalize (VB.setCell ⟨w.heap.size + 1 + 1, 0, none⟩ (.bool b9)).setCell ⟨w.heap.size + 1 + 1, 1, none⟩ (.slice a9 l9 c9) = W5 at *
          have hd0 := hb.c0
          have hd1 := hb.c1
          go_wp2_with fail
          exact bodyPost_ret (v := .agg #[.bool b9, .slice a9 l9 c9]) (by simp [results, Tryz.results145, go_sem, hd0, hd1]) rfl ⟨_, rfl, by rw [← Hsum.out]; exact Hs5.out, Hfx.out⟩
      · have hz0 : ¬ 0 ≤ z := fun h => hge (hz.1 h)
        have hle : x.natAbs ≤ y.natAbs := by omega
        have Hsum : Hid (sgn1 false (y.natAbs - x.natAbs) = x + y) := Lib.hid (by unfold sgn1; simp; omega)
        have HcA : Hid (y.natAbs = 0 → y.natAbs - x.natAbs = 0) := Lib.hid (fun h => by omega)
        clear hz hsx
        go_wp2_with fail
        have HkV := Hk
        go_region_held3 (fun w' => K2 110 110 110 w w' w.heap.size (.bool true) (.slice aa la ca) (w.heap.size + 1) (.bool false) (.slice ab lb cb) (w.heap.size + 1 + 1) ∧ w'.cell? ⟨w.heap.size, 0, none⟩ = some (.bool true) ∧ w'.cell? ⟨w.heap.size, 1, none⟩ = some (.slice aa la ca) ∧ w'.cell? ⟨w.heap.size + 1, 0, none⟩ = some (.bool false) ∧ w'.cell? ⟨w.heap.size + 1, 1, none⟩ = some (.slice ab lb cb) ∧ w'.cell? ⟨w.heap.size + 1 + 1, 0, none⟩ = some (valAt w' (w.heap.size + 1 + 1) 0) ∧ w'.cell? ⟨w.heap.size + 1 + 1, 1, none⟩ = some (valAt w' (w.heap.size + 1 + 1) 1) ∧ w'.frozen? ⟨w.heap.size + 1 + 1, 0, none⟩ = false ∧ w'.frozen? ⟨w.heap.size + 1 + 1, 1, none⟩ = false)
          (first | exact HkB.out.all | exact HkA.out.all | exact (K2.ext HkV.out ((Ext.refl V).drew)).all | exact (K2.put HkB.out (by omega) (by omega) (by omega) _ _).all)
          (first
            | (go_at_call 111; refine (rtrimD_c _ false _ _ VA HuA.out HcA.out).mono ?_; rintro e9 VB ⟨v9, rfl, hw9, hxb⟩; obtain ⟨b9, a9, l9, c9, rfl, hw9⟩ := w1_let hw9; have HkB := Lib.hid (K2.ext HkA.out hxb); have HrB := Lib.hid ((HrA.out).ext hxb); have Hw9 := Lib.hid hw9; clear hxb hw9)
            | (go_at_call 154; refine (Hm2.out _ ((Hk.out.x).drew) hle).mono ?_; rintro e9 VA ⟨u8, rfl, hu8, hxa⟩; obtain ⟨a8, l8, c8, rfl, hu8⟩ := sl_let hu8; have HkA := Lib.hid (K2.ext HkV.out (((Ext.refl V).drew).trans hxa)); have HrA := Lib.hid ((Hr.out).ext (((Ext.refl V).drew).trans hxa)); have HuA := Lib.hid hu8; clear hxa hu8))
        all_goals
          obtain ⟨hb, hfx⟩ := HkB.out.fin (by omega) (.bool b9) (.slice a9 l9 c9)
          have hs5 := w1_past Hw9.out HrB.out (by simp) (by simp) (.bool b9) (.slice a9 l9 c9)
          have Hfx := Lib.hid hfx; have Hs5 := Lib.hid hs5
          clear hfx hs5
          generalize (VB.setCell ⟨w.heap.size + 1 + 1, 0, none⟩ (.bool b9)).setCell ⟨w.heap.size + 1 + 1, 1, none⟩ (.slice a9 l9 c9) = W5 at *
          have hd0 := hb.c0
          have hd1 := hb.c1
          go_wp2_with fail
          exact bodyPost_ret (v := .agg #[.bool b9, .slice a9 l9 c9]) (by simp [results, Tryz.results145, go_sem, hd0, hd1]) rfl ⟨_, rfl, by rw [← Hsum.out]; exact Hs5.out, Hfx.out⟩
end Go.Proofs.YtajdfggocldeaaaGreatDoor
