/- The walk of comma.Combine: the errors. -/
import Derived.Test.YtkamjjjimbbdmaaGreatDoorCombP
namespace Go.Proofs.YtkamjjjimbbdmaaGreatDoor
open Go.RowKit Go.Lib Go.Shelf Go.Sort

set_option maxRecDepth 100000 in
set_option maxHeartbeats 1000000 in
theorem combErr_c (vp vl : Value) (p : List Int) (l : List (List Int)) (m : Int) (w : World) (hp : Sl w vp (i64s p)) (hl : Mat w vl l) (hlp : p.length ≤ 1000000) (hll : l.length ≤ 1000000) (hrow : ∀ i, (l.getD i []).length ≤ 1000000) (hc : allErr p l ≠ 0) :
    Calls Tryz.prog 21 #[vp, vl, .int .i64 m] w fun e w' => e = .returned (.tuple #[.slice none 0 0, .int .i64 (allErr p l)]) ∧ w = w' := by
  have hck := checkAll_c vp vl p l w hp hl hlp hll hrow
  have ht : (allErr p l != 0) = true := by rw [bne_iff_ne]; exact hc
  generalize allErr p l = r at *
  have Hck := Lib.hid hck; clear hck hc hrow
  obtain ⟨ap, cp, rfl, _, _, _⟩ := hp.parts
  obtain ⟨vs, hvs, hsl, _⟩ := hl
  obtain ⟨al, cl, rfl, _, _, _⟩ := hsl.parts
  clear hp hsl hvs
  go_enter Tryz.func21, Tryz.ntmps21
  go_wp2_with fail
  refine Hck.out.mono ?_
  rintro e w1 ⟨rfl, rfl⟩
  go_wp2
  go_ret2
  exact ⟨rfl, rfl⟩

set_option maxRecDepth 100000 in
set_option maxHeartbeats 1000000 in
theorem combNeg_c (vp vl : Value) (p : List Int) (l : List (List Int)) (m : Int) (w : World) (hp : Sl w vp (i64s p)) (hl : Mat w vl l) (hlp : p.length ≤ 1000000) (hll : l.length ≤ 1000000) (hrow : ∀ i, (l.getD i []).length ≤ 1000000) (hc : allErr p l = 0) (hm : m < 0) :
    Calls Tryz.prog 21 #[vp, vl, .int .i64 m] w fun e w' => e = .returned (.tuple #[.slice none 0 0, .int .i64 3]) ∧ w = w' := by
  have hck := checkAll_c vp vl p l w hp hl hlp hll hrow
  rw [hc] at hck
  have Hck := Lib.hid hck; clear hck hc hrow
  obtain ⟨ap, cp, rfl, _, _, _⟩ := hp.parts
  obtain ⟨vs, hvs, hsl, _⟩ := hl
  obtain ⟨al, cl, rfl, _, _, _⟩ := hsl.parts
  clear hp hsl hvs
  go_enter Tryz.func21, Tryz.ntmps21
  go_wp2_with fail
  refine Hck.out.mono ?_
  rintro e w1 ⟨rfl, rfl⟩
  go_wp2
  go_ret2
  exact ⟨rfl, rfl⟩

/-- Counting the sums. -/
def pw (m k : Nat) : Nat := (2 * m + 1) ^ k
theorem pw_zero (m : Nat) : pw m 0 = 1 := rfl
theorem pw_succ (m k : Nat) : pw m (k + 1) = pw m k * (2 * m + 1) := Nat.pow_succ (2 * m + 1) k
theorem pw_mono (m : Nat) {i j : Nat} (h : i ≤ j) : pw m i ≤ pw m j := Nat.pow_le_pow_right (by omega) h
def CntRel (m n : Nat) (v9 v34 : Value) : Prop := ∃ k : Nat, v34 = .int .i64 k ∧ k ≤ n ∧ v9 = .int .i64 ((pw m k : Nat) : Int) ∧ pw m k ≤ 10000
theorem cnt_mul (m k : Nat) : ((pw m k : Nat) : Int) * (2 * (m : Int) + 1) = ((pw m (k + 1) : Nat) : Int) := by
  rw [pw_succ, Int.natCast_mul]; congr 1
theorem cnt_le {m k : Nat} (hm : m ≤ 10000) (h : pw m k ≤ 10000) : pw m (k + 1) ≤ 200010000 := by
  rw [pw_succ]; exact Nat.mul_le_mul h (show 2 * m + 1 ≤ 20001 by omega)

set_option maxRecDepth 100000 in
set_option maxHeartbeats 1000000 in
theorem combLim_c (vp vl : Value) (p : List Int) (l : List (List Int)) (m i : Nat) (w : World) (hp : Sl w vp (i64s p)) (hl : Mat w vl l) (hlp : p.length ≤ 1000000) (hll : l.length ≤ 1000000) (hrow : ∀ i, (l.getD i []).length ≤ 1000000) (hc : allErr p l = 0) (hm : m ≤ 10000) (hi : i ≤ l.length) (hx : 10000 < pw m i) :
    Calls Tryz.prog 21 #[vp, vl, .int .i64 m] w fun e w' => e = .returned (.tuple #[.slice none 0 0, .int .i64 4]) ∧ w = w' := by
  have hck := checkAll_c vp vl p l w hp hl hlp hll hrow
  rw [hc] at hck
  obtain ⟨ap, cp, rfl, _, _, _⟩ := hp.parts
  obtain ⟨vs, hvs, hsl, _⟩ := hl
  obtain ⟨al, cl, rfl, _, _, _⟩ := hsl.parts
  rw [hvs] at *
  have Hck := Lib.hid hck; clear hck hc hrow
  clear hp hsl hvs
  have Hx := Lib.hid hx; clear hx
  go_enter Tryz.func21, Tryz.ntmps21
  go_wp2_with fail
  refine Hck.out.mono ?_
  rintro e w1 ⟨rfl, rfl⟩
  go_wp2_with fail
  go_loop [9, 34] (fun v9 v34 => CntRel m l.length v9 v34) (fun _ v34 => l.length - (intOf v34).toNat)
  case atStart => exact ⟨0, rfl, Nat.zero_le _, by rw [pw_zero]; rfl, by rw [pw_zero]; omega⟩
  case round =>
    obtain ⟨k, rfl, hk, rfl, hpw⟩ := hrel
    by_cases hlt : k < l.length
    · have hmul := cnt_mul m k
      have hle := cnt_le hm hpw
      by_cases hbig : pw m (k + 1) ≤ 10000
      · have hb := hbig
        have hn1 : ¬ (10000 : Int) < (m : Int) := by omega
        go_wp2
        go_round
        case rel => exact ⟨k + 1, by go_num, by omega, by rfl, by omega⟩
        case measure => simp [intOf]; omega
      · generalize pw m (k + 1) = c2 at *
        generalize pw m k = c1 at *
        have hn1 : ¬ (10000 : Int) < (m : Int) := by omega
        have hn2 : (10000 : Int) < (c2 : Int) := by omega
        go_wp2
        go_ret2
        exact ⟨rfl, rfl⟩
    · exfalso
      obtain rfl : k = l.length := by omega
      have h1 : pw m i ≤ pw m l.length := pw_mono m hi
      have := Hx.out
      omega

end Go.Proofs.YtkamjjjimbbdmaaGreatDoor
