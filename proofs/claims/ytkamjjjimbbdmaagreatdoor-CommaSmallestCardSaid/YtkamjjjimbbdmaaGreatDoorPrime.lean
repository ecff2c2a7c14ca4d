/- Walks: prime's IsPrime and Check, monzo's CheckAll and Check. -/
import Derived.Test.YtkamjjjimbbdmaaGreatDoorCmp
namespace Go.Proofs.YtkamjjjimbbdmaaGreatDoor
open Go.RowKit Go.Lib

/-- A prime number up to 97. -/
def isPrime (n : Int) : Bool := decide (2 ≤ n ∧ n ≤ 97) && (List.range 10).all fun d => decide (d < 2) || decide (n < (d * d : Nat)) || decide (n % (d : Int) ≠ 0)

theorem isPrime_no {n : Int} (h : ¬ (2 ≤ n ∧ n ≤ 97)) : isPrime n = false := by
  unfold isPrime; rw [decide_eq_false h]; rfl
theorem isPrime_div {n : Int} {d : Nat} (h2 : 2 ≤ d) (h3 : (d * d : Nat) ≤ n) (h4 : d < 10) (h : n % (d : Int) = 0) : isPrime n = false := by
  unfold isPrime
  rw [Bool.and_eq_false_iff]
  refine .inr ?_
  rw [List.all_eq_false]
  refine ⟨d, List.mem_range.2 h4, ?_⟩
  rw [decide_eq_false (p := d < 2) (by omega), decide_eq_false (p := n < (d * d : Nat)) (by omega), decide_eq_false (p := n % (d : Int) ≠ 0) (by simpa using h)]
  simp
theorem isPrime_yes {n : Int} {d : Nat} (h : 2 ≤ n ∧ n ≤ 97) (h3 : n < (d * d : Nat)) (hd : ∀ e : Nat, 2 ≤ e → e < d → n % (e : Int) ≠ 0) : isPrime n = true := by
  unfold isPrime
  rw [decide_eq_true h, Bool.true_and, List.all_eq_true]
  intro e _
  by_cases h1 : e < 2
  · rw [decide_eq_true h1]; simp
  · by_cases h2 : e < d
    · rw [decide_eq_true (p := n % (e : Int) ≠ 0) (hd e (by omega) h2)]; simp
    · have : d * d ≤ e * e := Nat.mul_le_mul (by omega) (by omega)
      rw [decide_eq_true (p := n < (e * e : Nat)) (by omega)]; simp

set_option maxHeartbeats 400000 in
theorem isPrime_c (n : Int) (w : World) :
    Calls Tryz.prog 92 #[.int .i64 n] w fun e w' => e = .returned (.bool (isPrime n)) ∧ w = w' := by
  by_cases h : 2 ≤ n ∧ n ≤ 97
  · obtain ⟨hA, hB⟩ := h
    go_enter Tryz.func92, Tryz.ntmps92
    go_wp2
    go_loop [3] (fun v => ∃ d : Nat, v = .int .i64 d ∧ 2 ≤ d ∧ d ≤ 10 ∧ ∀ e : Nat, 2 ≤ e → e < d → n % (e : Int) ≠ 0) (fun v => 10 - (intOf v).toNat)
    case atStart => exact ⟨2, rfl, by omega, by omega, fun e h1 h2 => by omega⟩
    case round =>
      obtain ⟨d, rfl, h2, h10, hd⟩ := hrel
      have Hd := Lib.hid hd; clear hd
      have hdd : (d : Int) * d ≤ 100 := by rw [← Int.natCast_mul]; have := Nat.mul_le_mul h10 h10; omega
      have hdd0 : 0 ≤ (d : Int) * d := by rw [← Int.natCast_mul]; omega
      by_cases hle : (d : Int) * d ≤ n
      · have h9 : d ≤ 9 := by
          refine Nat.le_of_not_lt fun hh => ?_
          have := Nat.mul_le_mul (show 10 ≤ d by omega) (show 10 ≤ d by omega)
          rw [← Int.natCast_mul] at hle
          omega
        by_cases hz : n % (d : Int) = 0
        · have ht : (n % (d : Int) == 0) = true := beq_iff_eq.2 hz
          have hp := isPrime_div h2 (by rw [← Int.natCast_mul] at hle; omega) (by omega) hz
          have Hp := Lib.hid hp; clear hp hz
          go_wp2
          go_ret
          exact ⟨by rw [Hp.out]; rfl, rfl⟩
        · have ht : (n % (d : Int) == 0) = false := beq_eq_false_iff_ne.2 hz
          have Hz := Lib.hid hz; clear hz
          go_wp2
          go_round
          case rel => exact ⟨d + 1, by go_num, by omega, by omega, fun e h3 h4 => by
            rcases Nat.lt_or_ge e d with g | g
            · exact Hd.out e h3 g
            · rw [show e = d by omega]; exact Hz.out⟩
          case measure => simp [intOf]; omega
      · have hp := isPrime_yes ⟨hA, hB⟩ (d := d) (by rw [Int.natCast_mul]; omega) Hd.out
        have Hp := Lib.hid hp; clear hp
        go_wp2
        go_ret
        exact ⟨by rw [Hp.out]; rfl, rfl⟩
  · rw [isPrime_no h]
    rcases (by omega : n < 2 ∨ (2 ≤ n ∧ 97 < n)) with g | ⟨g1, g2⟩
    · clear h
      go_enter Tryz.func92, Tryz.ntmps92
      go_wp2
      go_ret
      exact ⟨rfl, rfl⟩
    · clear h
      go_enter Tryz.func92, Tryz.ntmps92
      go_wp2
      go_ret
      exact ⟨rfl, rfl⟩

/-- The error of the primes from place k on. -/
def primesFrom (p : List Int) (k : Nat) : Nat → Int
  | 0 => 0
  | f + 1 => if !isPrime (nthI p k) then 25 else if 0 < k ∧ nthI p k ≤ nthI p (k - 1) then 6 else primesFrom p (k + 1) f
/-- The error of a list of primes. -/
def primesErr (p : List Int) : Int := if p.length = 0 then 13 else if 6 < p.length then 4 else primesFrom p 0 p.length

set_option maxHeartbeats 400000 in
theorem primes_c (v : Value) (p : List Int) (w : World) (hv : Sl w v (i64s p)) (hl : p.length ≤ 1000000) :
    Calls Tryz.prog 58 #[v] w fun e w' => e = .returned (.int .i64 (primesErr p)) ∧ w = w' := by
  obtain ⟨a, cap, rfl, _, _, hc⟩ := hv.parts
  rw [i64s_length]
  have Hc := Lib.hid hc; clear hc
  unfold primesErr
  by_cases h0 : p.length = 0
  · rw [if_pos h0]
    have ht : ((p.length : Int) == 0) = true := by rw [h0]; rfl
    clear h0
    go_enter Tryz.func58, Tryz.ntmps58
    go_wp2
    go_ret
    exact ⟨rfl, rfl⟩
  · rw [if_neg h0]
    have ht : ((p.length : Int) == 0) = false := beq_eq_false_iff_ne.2 (by omega)
    by_cases h6 : 6 < p.length
    · rw [if_pos h6]
      clear h0
      go_enter Tryz.func58, Tryz.ntmps58
      go_wp2
      go_ret
      exact ⟨rfl, rfl⟩
    · rw [if_neg h6]
      clear h0
      obtain ⟨r, hr⟩ : ∃ r, r = primesFrom p 0 p.length := ⟨_, rfl⟩
      rw [← hr]
      have Hr := Lib.hid hr; clear hr
      go_enter Tryz.func58, Tryz.ntmps58
      go_wp2
      go_loop [15] (fun i => ∃ k : Nat, i = .int .i64 k ∧ k ≤ p.length ∧ r = primesFrom p k (p.length - k)) (fun i => p.length - (intOf i).toNat)
      case atStart => exact ⟨0, rfl, Nat.zero_le _, Hr.out⟩
      case round =>
        obtain ⟨k, rfl, hk, hr⟩ := hrel
        by_cases hlt : k < p.length
        · obtain ⟨b, off, rfl, hcell⟩ := Hc.out k _ (i64s_at hlt)
          have hf : p.length - k = (p.length - (k + 1)) + 1 := by omega
          rw [hf, primesFrom] at hr
          have hip := isPrime_c (nthI p k) w
          have Hip := Lib.hid hip; clear hip hf
          by_cases hpr : isPrime (nthI p k) = true
          · rw [hpr] at Hip hr
            rw [if_neg (by simp)] at hr
            by_cases hk0 : 0 < k
            · obtain ⟨b2, off2, e2, hcell2⟩ := Hc.out (k - 1) _ (i64s_at (show k - 1 < p.length by omega))
              simp only [Option.some.injEq, Addr.mk.injEq, and_true] at e2
              obtain ⟨rfl, rfl⟩ := e2
              by_cases hle : nthI p k ≤ nthI p (k - 1)
              · rw [if_pos ⟨hk0, hle⟩] at hr
                have Hr2 := Lib.hid hr; clear hr hpr
                generalize nthI p k = x at *
                generalize nthI p (k - 1) = y at *
                go_wp2_with fail
                refine Hip.out.mono ?_
                rintro e w1 ⟨rfl, rfl⟩
                go_wp2
                go_ret
                exact ⟨ret_int Hr2.out.symm, rfl⟩
              · rw [if_neg (fun hh => hle hh.2)] at hr
                have Hr2 := Lib.hid hr; clear hr hpr
                generalize nthI p k = x at *
                generalize nthI p (k - 1) = y at *
                go_wp2_with fail
                refine Hip.out.mono ?_
                rintro e w1 ⟨rfl, rfl⟩
                go_wp2
                go_round
                case rel => exact ⟨k + 1, by go_num, by omega, Hr2.out⟩
                case measure => simp [intOf]; omega
            · rw [if_neg (fun hh => hk0 hh.1)] at hr
              have Hr2 := Lib.hid hr; clear hr hpr
              generalize nthI p k = x at *
              go_wp2_with fail
              refine Hip.out.mono ?_
              rintro e w1 ⟨rfl, rfl⟩
              go_wp2
              go_round
              case rel => exact ⟨k + 1, by go_num, by omega, Hr2.out⟩
              case measure => simp [intOf]; omega
          · have hpf : isPrime (nthI p k) = false := by simpa using hpr
            rw [hpf] at Hip hr
            rw [if_pos (by simp)] at hr
            have Hr2 := Lib.hid hr; clear hr hpr hpf
            generalize nthI p k = x at *
            go_wp2_with fail
            refine Hip.out.mono ?_
            rintro e w1 ⟨rfl, rfl⟩
            go_wp2
            go_ret
            exact ⟨ret_int Hr2.out.symm, rfl⟩
        · have hr0 : r = 0 := by rw [hr, show p.length - k = 0 by omega, primesFrom]
          have Hr2 := Lib.hid hr0; clear hr hr0
          go_wp2
          go_ret
          exact ⟨ret_int Hr2.out.symm, rfl⟩

end Go.Proofs.YtkamjjjimbbdmaaGreatDoor
