/- Walks: schismaref03's plus, above, minus at one digit. -/
import Derived.Test.YtaakmdjicocjpaaGreatDoorPaY
import Derived.Deep.QuietTactic
namespace Go.Proofs.YtaakmdjicocjpaaGreatDoor
open Go.RowKit Go.Lib Go.Shelf

attribute [local go_sem] Oper.semAt_some

theorem dg_cases {w : World} {v : Value} {m : Nat} (h : Sl w v (i64s (dg (m : Int)))) : (m = 0 ∧ ∃ a c, v = .slice a 0 c ∧ c ≤ maxLen) ∨ (0 < m ∧ ∃ b off c, v = .slice (some ⟨b, off, none⟩) 1 c ∧ w.cell? ⟨b, off, none⟩ = some (.int .i64 (m : Int)) ∧ 1 ≤ c ∧ c ≤ maxLen) := by
  rcases Nat.eq_zero_or_pos m with rfl | hm
  · obtain ⟨a, c, rfl, hc, _, _⟩ := h.parts
    exact .inl ⟨rfl, a, c, rfl, hc⟩
  · have e : dg (m : Int) = [(m : Int)] := by unfold dg; rw [if_neg (by omega), Int.natAbs_natCast]
    rw [e] at h
    obtain ⟨a, c, rfl, hc, h1, h2⟩ := h.parts
    obtain ⟨b, off, rfl, h3⟩ := h2 0 (.int .i64 (m : Int)) rfl
    exact .inr ⟨hm, b, off, c, rfl, h3, h1, hc⟩
/-- No digit, or one. -/
def optD (c : Prop) [Decidable c] (k : Nat) : List Int := if c then [] else [(k : Int)]
theorem optD_pos {c : Prop} [Decidable c] {k : Nat} (h : c) : optD c k = [] := if_pos h
theorem optD_neg {c : Prop} [Decidable c] {k : Nat} (h : ¬ c) : optD c k = [(k : Int)] := if_neg h
theorem one_sl {w : World} {B : Nat} {v : Value} {m : Int} (h : w.ownsRow B 3 1 v (0 + 1) ([] ++ [.int .i64 m])) : Sl w v (i64s [m]) := sl_own h

set_option maxRecDepth 100000 in
set_option maxHeartbeats 800000 in
theorem plus_c (va vb : Value) (m n : Nat) (w : World) (ha : Sl w va (i64s (dg (m : Int)))) (hb : Sl w vb (i64s (dg (n : Int)))) (hmn : m + n < 1000000000) :
    Calls Tryz.prog 179 #[va, vb] w fun e w' => ∃ u, e = .returned u ∧ Sl w' u (i64s (optD (m = 0 ∧ n = 0) (m + n))) ∧ Ext w w' := by
  obtain ⟨i0, hi, hz0, hz1, hz2⟩ := info_parts info_int
  rcases dg_cases ha with ⟨rfl, aa, ca, rfl, _⟩ | ⟨hm, b, off, ca, rfl, h1, _, _⟩
  · rcases dg_cases hb with ⟨rfl, ab, cb, rfl, _⟩ | ⟨hn, b', off', cb, rfl, h2, _, _⟩
    · rw [optD_pos ⟨rfl, rfl⟩]
      clear ha hb
      go_enter Tryz.func179, Tryz.ntmps179
      go_wp2_with fail
      refine wp_loop_rounds 2 ?_
      rw [rounds_succ]
      go_wp2
      go_ret
      exact ⟨_, rfl, .inl ⟨none, 0, rfl, Nat.zero_le _, rfl⟩, Ext.refl w⟩
    · rw [optD_neg (by omega)]
      have e1 : (((0 + n : Nat)) : Int) = (n : Int) := by omega
      rw [e1]
      have hr : (n : Int).tmod 1000000000 = (n : Int) := Int.tmod_eq_of_lt (by omega) (by omega)
      have hq : (n : Int).tdiv 1000000000 = 0 := Int.tdiv_eq_zero_of_lt (by omega) (by omega)
      have hb1 : -9223372036854775808 ≤ (n : Int) ∧ (n : Int) ≤ 9223372036854775807 := by omega
      clear ha hb e1
      go_enter Tryz.func179, Tryz.ntmps179
      go_wp2_with fail
      refine wp_loop_rounds 2 ?_
      rw [rounds_succ]
      go_wp2_with (at_builtin; refine wpList_append_own _ rfl _ _ 28 rfl w.heap.size 3 i0 (.int .i64 0) 1 8 Tryz.underlying28 hi hz0 hz1 hz2 rfl (by decide) _ _ _ rfl ((World.ownsRow_nil w _ _ 1).alloc _) ⟨w.heap.size, 0, none⟩ 1 1 [.int .i64 ((n : Int))] rfl rfl (cell_one_new _ _ _) (by simp [Value.oneCell']) (by decide) (by decide) (by rw [World.size_alloc]; omega) ?_; intro v7 V7 hown7 hgrow7 _; obtain ⟨a7, c7, rfl⟩ := own_shape hown7)
      have hEV : Ext w V7 := ((Ext.refl w).alloc _).grown hgrow7 (fun k hk => (World.ownsRow.lt ((World.ownsRow_nil w w.heap.size 3 1).alloc (.cells #[.int .i64 ((n : Int))] 3)) k hk).1)
      have HEV := Lib.hid hEV; have Hs7 := Lib.hid (one_sl hown7)
      clear hEV hown7 hgrow7
      rw [rounds_succ]
      go_wp2
      go_ret
      exact ⟨_, rfl, Hs7.out, HEV.out⟩
  · rcases dg_cases hb with ⟨rfl, ab, cb, rfl, _⟩ | ⟨hn, b', off', cb, rfl, h2, _, _⟩
    · rw [optD_neg (by omega)]
      have e1 : (((m + 0 : Nat)) : Int) = (m : Int) := by omega
      rw [e1]
      have hr : (m : Int).tmod 1000000000 = (m : Int) := Int.tmod_eq_of_lt (by omega) (by omega)
      have hq : (m : Int).tdiv 1000000000 = 0 := Int.tdiv_eq_zero_of_lt (by omega) (by omega)
      clear ha hb e1
      go_enter Tryz.func179, Tryz.ntmps179
      go_wp2_with fail
      refine wp_loop_rounds 2 ?_
      rw [rounds_succ]
      go_wp2_with (at_builtin; refine wpList_append_own _ rfl _ _ 28 rfl w.heap.size 3 i0 (.int .i64 0) 1 8 Tryz.underlying28 hi hz0 hz1 hz2 rfl (by decide) _ _ _ rfl ((World.ownsRow_nil w _ _ 1).alloc _) ⟨w.heap.size, 0, none⟩ 1 1 [.int .i64 ((m : Int))] rfl rfl (cell_one_new _ _ _) (by simp [Value.oneCell']) (by decide) (by decide) (by rw [World.size_alloc]; omega) ?_; intro v7 V7 hown7 hgrow7 _; obtain ⟨a7, c7, rfl⟩ := own_shape hown7)
      have hEV : Ext w V7 := ((Ext.refl w).alloc _).grown hgrow7 (fun k hk => (World.ownsRow.lt ((World.ownsRow_nil w w.heap.size 3 1).alloc (.cells #[.int .i64 ((m : Int))] 3)) k hk).1)
      have HEV := Lib.hid hEV; have Hs7 := Lib.hid (one_sl hown7)
      clear hEV hown7 hgrow7
      rw [rounds_succ]
      go_wp2
      go_ret
      exact ⟨_, rfl, Hs7.out, HEV.out⟩
    · rw [optD_neg (by omega)]
      have e1 : (((m + n : Nat)) : Int) = (m : Int) + (n : Int) := by omega
      rw [e1]
      have hr : ((m : Int) + (n : Int)).tmod 1000000000 = (m : Int) + (n : Int) := Int.tmod_eq_of_lt (by omega) (by omega)
      have hq : ((m : Int) + (n : Int)).tdiv 1000000000 = 0 := Int.tdiv_eq_zero_of_lt (by omega) (by omega)
      clear ha hb e1
      go_enter Tryz.func179, Tryz.ntmps179
      go_wp2_with fail
      refine wp_loop_rounds 2 ?_
      rw [rounds_succ]
      go_wp2_with (at_builtin; refine wpList_append_own _ rfl _ _ 28 rfl w.heap.size 3 i0 (.int .i64 0) 1 8 Tryz.underlying28 hi hz0 hz1 hz2 rfl (by decide) _ _ _ rfl ((World.ownsRow_nil w _ _ 1).alloc _) ⟨w.heap.size, 0, none⟩ 1 1 [.int .i64 ((m : Int) + (n : Int))] rfl rfl (cell_one_new _ _ _) (by simp [Value.oneCell']) (by decide) (by decide) (by rw [World.size_alloc]; omega) ?_; intro v7 V7 hown7 hgrow7 _; obtain ⟨a7, c7, rfl⟩ := own_shape hown7)
      have hEV : Ext w V7 := ((Ext.refl w).alloc _).grown hgrow7 (fun k hk => (World.ownsRow.lt ((World.ownsRow_nil w w.heap.size 3 1).alloc (.cells #[.int .i64 ((m : Int) + (n : Int))] 3)) k hk).1)
      have HEV := Lib.hid hEV; have Hs7 := Lib.hid (one_sl hown7)
      clear hEV hown7 hgrow7
      rw [rounds_succ]
      go_wp2
      go_ret
      exact ⟨_, rfl, Hs7.out, HEV.out⟩

set_option maxRecDepth 100000 in
set_option maxHeartbeats 800000 in
theorem minus_c (va vb : Value) (m n : Nat) (w : World) (ha : Sl w va (i64s (dg (m : Int)))) (hb : Sl w vb (i64s (dg (n : Int)))) (hmn : n ≤ m) (hm9 : m < 1000000000) :
    Calls Tryz.prog 181 #[va, vb] w fun e w' => ∃ u, e = .returned u ∧ Sl w' u (i64s (optD (m = 0) (m - n))) ∧ Ext w w' := by
  obtain ⟨i0, hi, hz0, hz1, hz2⟩ := info_parts info_int
  rcases dg_cases ha with ⟨rfl, aa, ca, rfl, _⟩ | ⟨hm, b, off, ca, rfl, h1, _, _⟩
  · rw [optD_pos rfl]
    obtain ⟨ab, cb, rfl, _, _, _⟩ := hb.parts
    generalize (i64s (dg (n : Int))).length = lb at *
    clear ha hb
    go_enter Tryz.func181, Tryz.ntmps181
    go_wp2_with fail
    refine wp_loop_rounds 2 ?_
    rw [rounds_succ]
    go_wp2
    go_ret
    exact ⟨_, rfl, .inl ⟨none, 0, rfl, Nat.zero_le _, rfl⟩, Ext.refl w⟩
  · rcases dg_cases hb with ⟨rfl, ab, cb, rfl, _⟩ | ⟨hn, b', off', cb, rfl, h2, _, _⟩
    · rw [optD_neg (by omega)]
      have e1 : (((m - 0 : Nat)) : Int) = (m : Int) := by omega
      rw [e1]
      have hlt : ¬ (m : Int) < 0 := by omega
      clear ha hb e1
      go_enter Tryz.func181, Tryz.ntmps181
      go_wp2_with fail
      refine wp_loop_rounds 2 ?_
      rw [rounds_succ]
      go_wp2_with (at_builtin; refine wpList_append_own _ rfl _ _ 28 rfl w.heap.size 3 i0 (.int .i64 0) 1 8 Tryz.underlying28 hi hz0 hz1 hz2 rfl (by decide) _ _ _ rfl ((World.ownsRow_nil w _ _ 1).alloc _) ⟨w.heap.size, 0, none⟩ 1 1 [.int .i64 ((m : Int))] rfl rfl (cell_one_new _ _ _) (by simp [Value.oneCell']) (by decide) (by decide) (by rw [World.size_alloc]; omega) ?_; intro v7 V7 hown7 hgrow7 _; obtain ⟨a7, c7, rfl⟩ := own_shape hown7)
      have hEV : Ext w V7 := ((Ext.refl w).alloc _).grown hgrow7 (fun k hk => (World.ownsRow.lt ((World.ownsRow_nil w w.heap.size 3 1).alloc (.cells #[.int .i64 ((m : Int))] 3)) k hk).1)
      have HEV := Lib.hid hEV; have Hs7 := Lib.hid (one_sl hown7)
      clear hEV hown7 hgrow7
      rw [rounds_succ]
      go_wp2
      go_ret
      exact ⟨_, rfl, Hs7.out, HEV.out⟩
    · rw [optD_neg (by omega)]
      have e1 : (((m - n : Nat)) : Int) = (m : Int) - (n : Int) := by omega
      rw [e1]
      have hlt : ¬ (m : Int) - (n : Int) < 0 := by omega
      clear ha hb e1
      go_enter Tryz.func181, Tryz.ntmps181
      go_wp2_with fail
      refine wp_loop_rounds 2 ?_
      rw [rounds_succ]
      go_wp2_with (at_builtin; refine wpList_append_own _ rfl _ _ 28 rfl w.heap.size 3 i0 (.int .i64 0) 1 8 Tryz.underlying28 hi hz0 hz1 hz2 rfl (by decide) _ _ _ rfl ((World.ownsRow_nil w _ _ 1).alloc _) ⟨w.heap.size, 0, none⟩ 1 1 [.int .i64 ((m : Int) - (n : Int))] rfl rfl (cell_one_new _ _ _) (by simp [Value.oneCell']) (by decide) (by decide) (by rw [World.size_alloc]; omega) ?_; intro v7 V7 hown7 hgrow7 _; obtain ⟨a7, c7, rfl⟩ := own_shape hown7)
      have hEV : Ext w V7 := ((Ext.refl w).alloc _).grown hgrow7 (fun k hk => (World.ownsRow.lt ((World.ownsRow_nil w w.heap.size 3 1).alloc (.cells #[.int .i64 ((m : Int) - (n : Int))] 3)) k hk).1)
      have HEV := Lib.hid hEV; have Hs7 := Lib.hid (one_sl hown7)
      clear hEV hown7 hgrow7
      rw [rounds_succ]
      go_wp2
      go_ret
      exact ⟨_, rfl, Hs7.out, HEV.out⟩

set_option maxRecDepth 100000 in
set_option maxHeartbeats 800000 in
theorem above_c (va vb : Value) (m n : Nat) (w : World) (ha : Sl w va (i64s (dg (m : Int)))) (hb : Sl w vb (i64s (dg (n : Int)))) (hm9 : m < 1000000000) (hn9 : n < 1000000000) :
    Calls Tryz.prog 180 #[va, vb] w fun e w' => ∃ z : Int, e = .returned (.int .i64 z) ∧ (0 ≤ z ↔ n ≤ m) ∧ Ext w w' := by
  rcases dg_cases ha with ⟨rfl, aa, ca, rfl, _⟩ | ⟨hm, b, off, ca, rfl, h1, _, _⟩
  · rcases dg_cases hb with ⟨rfl, ab, cb, rfl, _⟩ | ⟨hn, b', off', cb, rfl, h2, _, _⟩
    · clear ha hb
      go_enter Tryz.func180, Tryz.ntmps180
      go_wp2_with fail
      refine wp_loop_rounds 2 ?_
      rw [rounds_succ]
      go_wp2
      go_ret
      exact ⟨_, rfl, by omega, Ext.refl w⟩
    · clear ha hb
      go_enter Tryz.func180, Tryz.ntmps180
      go_wp2
      go_ret
      exact ⟨_, rfl, by omega, Ext.refl w⟩
  · rcases dg_cases hb with ⟨rfl, ab, cb, rfl, _⟩ | ⟨hn, b', off', cb, rfl, h2, _, _⟩
    · clear ha hb
      go_enter Tryz.func180, Tryz.ntmps180
      go_wp2
      go_ret
      exact ⟨_, rfl, by omega, Ext.refl w⟩
    · clear ha hb
      rcases (by omega : m < n ∨ (¬ m < n ∧ n < m) ∨ (¬ m < n ∧ ¬ n < m)) with g | ⟨g, g2⟩ | ⟨g, g2⟩
      · have gi : (m : Int) < (n : Int) := by omega
        go_enter Tryz.func180, Tryz.ntmps180
        go_wp2_with fail
        refine wp_loop_rounds 2 ?_
        rw [rounds_succ]
        go_wp2_with fail
        go_quiet (fail)
        go_wp2
        go_ret
        first | exact ⟨_, rfl, by omega, ((Ext.refl w).drewN _).drewN _⟩ | exact ⟨_, rfl, by omega, (Ext.refl w).drewN _⟩
      · have gi : ¬ (m : Int) < (n : Int) := by omega
        have gj : (n : Int) < (m : Int) := by omega
        go_enter Tryz.func180, Tryz.ntmps180
        go_wp2_with fail
        refine wp_loop_rounds 2 ?_
        rw [rounds_succ]
        go_wp2_with fail
        go_quiet (fail)
        go_wp2_with fail
        go_quiet (fail)
        go_wp2
        go_ret
        first | exact ⟨_, rfl, by omega, ((Ext.refl w).drewN _).drewN _⟩ | exact ⟨_, rfl, by omega, (Ext.refl w).drewN _⟩
      · have gi : ¬ (m : Int) < (n : Int) := by omega
        have gj : ¬ (n : Int) < (m : Int) := by omega
        go_enter Tryz.func180, Tryz.ntmps180
        go_wp2_with fail
        refine wp_loop_rounds 2 ?_
        rw [rounds_succ]
        go_wp2_with fail
        go_quiet (fail)
        go_wp2_with fail
        go_quiet (fail)
        go_wp2_with fail
        rw [rounds_succ]
        go_wp2
        go_ret
        first | exact ⟨_, rfl, by omega, ((Ext.refl w).drewN _).drewN _⟩ | exact ⟨_, rfl, by omega, (Ext.refl w).drewN _⟩

end Go.Proofs.YtaakmdjicocjpaaGreatDoor
