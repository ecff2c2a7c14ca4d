/- Walks: prime's IsPrime and Check, monzo's CheckAll and Check. Walks: monzo's CheckAll and Check. Walks: numerator and denominator of an interval, in monzo and in comma; monzo's Sign. Walks: row's fits, Check, both, result. The walk of row.Sub: a range over the pairs of two rows. Walks: comma.Check, apart, numbers$1. -/
import Derived.Test.YtkamjjjimbbdmaaGreatDoorNumA
import Derived.Test.YtkamjjjimbbdmaaGreatDoorShelfA
import Derived.RangeFuncNested
import Derived.RangeFuncBound
import Derived.RangeFuncCalls
import Derived.RangeFuncLeaves
import Derived.RangeFuncBox
import Derived.RangeFuncWrites
import Derived.Shelf.Abstract
import Derived.OwnWalkIn
import Derived.TacticsInMore
import Derived.LoopNIn
import Derived.LoopIn
import Derived.Maps.AppendAt
namespace Go.Proofs.YtkamjjjimbbdmaaGreatDoor
open Go.RowKit Go.Lib

/-- A prime number up to 97. -/
def isPrime (n : Int) : Bool := decide (2 ≤ n ∧ n ≤ 97) && (List.range 10).all fun d => decide (d < 2) || decide (n < (d * d : Nat)) || decide (n % (d : Int) ≠ 0)

theorem isPrime_no {n : Int} (h : ¬ (2 ≤ n ∧ n ≤ 97)) : isPrime n = false := by
  unfold isPrime; rw [decide_eq_false h]; rfl
theorem isPrime_div {n : Int} {d : Nat} (h2 : 2 ≤ d) (h3 : (d * d : Nat) ≤ n) (h4 : d < 10) (h : n % (d : Int) = 0) : isPrime n = false := by
  unfold isPrime
  rw [Bool.and_eq_false_iff]
  refine .inr ?_
  rw [List.all_eq_false]
  refine ⟨d, List.mem_range.2 h4, ?_⟩
  rw [decide_eq_false (p := d < 2) (by omega), decide_eq_false (p := n < (d * d : Nat)) (by omega), decide_eq_false (p := n % (d : Int) ≠ 0) (by simpa using h)]
  simp
theorem isPrime_yes {n : Int} {d : Nat} (h : 2 ≤ n ∧ n ≤ 97) (h3 : n < (d * d : Nat)) (hd : ∀ e : Nat, 2 ≤ e → e < d → n % (e : Int) ≠ 0) : isPrime n = true := by
  unfold isPrime
  rw [decide_eq_true h, Bool.true_and, List.all_eq_true]
  intro e _
  by_cases h1 : e < 2
  · rw [decide_eq_true h1]; simp
  · by_cases h2 : e < d
    · rw [decide_eq_true (p := n % (e : Int) ≠ 0) (hd e (by omega) h2)]; simp
    · have : d * d ≤ e * e := Nat.mul_le_mul (by omega) (by omega)
      rw [decide_eq_true (p := n < (e * e : Nat)) (by omega)]; simp

set_option maxHeartbeats 400000 in
theorem isPrime_c (n : Int) (w : World) :
    Calls Tryz.prog 92 #[.int .i64 n] w fun e w' => e = .returned (.bool (isPrime n)) ∧ w = w' := by
  by_cases h : 2 ≤ n ∧ n ≤ 97
  · obtain ⟨hA, hB⟩ := h
    go_enter Tryz.func92, Tryz.ntmps92
    go_wp2
    go_loop [3] (fun v => ∃ d : Nat, v = .int .i64 d ∧ 2 ≤ d ∧ d ≤ 10 ∧ ∀ e : Nat, 2 ≤ e → e < d → n % (e : Int) ≠ 0) (fun v => 10 - (intOf v).toNat)
    case atStart => exact ⟨2, rfl, by omega, by omega, fun e h1 h2 => by omega⟩
    case round =>
      obtain ⟨d, rfl, h2, h10, hd⟩ := hrel
      have Hd := Lib.hid hd; clear hd
      have hdd : (d : Int) * d ≤ 100 := by rw [← Int.natCast_mul]; have := Nat.mul_le_mul h10 h10; omega
      have hdd0 : 0 ≤ (d : Int) * d := by rw [← Int.natCast_mul]; omega
      by_cases hle : (d : Int) * d ≤ n
      · have h9 : d ≤ 9 := by
          refine Nat.le_of_not_lt fun hh => ?_
          have := Nat.mul_le_mul (show 10 ≤ d by omega) (show 10 ≤ d by omega)
          rw [← Int.natCast_mul] at hle
          omega
        by_cases hz : n % (d : Int) = 0
        · have ht : (n % (d : Int) == 0) = true := beq_iff_eq.2 hz
          have hp := isPrime_div h2 (by rw [← Int.natCast_mul] at hle; omega) (by omega) hz
          have Hp := Lib.hid hp; clear hp hz
          go_wp2
          go_ret
          exact ⟨by rw [Hp.out]; rfl, rfl⟩
        · have ht : (n % (d : Int) == 0) = false := beq_eq_false_iff_ne.2 hz
          have Hz := Lib.hid hz; clear hz
          go_wp2
          go_round
          case rel => exact ⟨d + 1, by go_num, by omega, by omega, fun e h3 h4 => by
            rcases Nat.lt_or_ge e d with g | g
            · exact Hd.out e h3 g
            · rw [show e = d by omega]; exact Hz.out⟩
          case measure => simp [intOf]; omega
      · have hp := isPrime_yes ⟨hA, hB⟩ (d := d) (by rw [Int.natCast_mul]; omega) Hd.out
        have Hp := Lib.hid hp; clear hp
        go_wp2
        go_ret
        exact ⟨by rw [Hp.out]; rfl, rfl⟩
  · rw [isPrime_no h]
    rcases (by omega : n < 2 ∨ (2 ≤ n ∧ 97 < n)) with g | ⟨g1, g2⟩
    · clear h
      go_enter Tryz.func92, Tryz.ntmps92
      go_wp2
      go_ret
      exact ⟨rfl, rfl⟩
    · clear h
      go_enter Tryz.func92, Tryz.ntmps92
      go_wp2
      go_ret
      exact ⟨rfl, rfl⟩

/-- The error of the primes from place k on. -/
def primesFrom (p : List Int) (k : Nat) : Nat → Int
  | 0 => 0
  | f + 1 => if !isPrime (nthI p k) then 25 else if 0 < k ∧ nthI p k ≤ nthI p (k - 1) then 6 else primesFrom p (k + 1) f
/-- The error of a list of primes. -/
def primesErr (p : List Int) : Int := if p.length = 0 then 13 else if 6 < p.length then 4 else primesFrom p 0 p.length

set_option maxHeartbeats 400000 in
theorem primes_c (v : Value) (p : List Int) (w : World) (hv : Sl w v (i64s p)) (hl : p.length ≤ 1000000) :
    Calls Tryz.prog 58 #[v] w fun e w' => e = .returned (.int .i64 (primesErr p)) ∧ w = w' := by
  obtain ⟨a, cap, rfl, _, _, hc⟩ := hv.parts
  rw [i64s_length]
  have Hc := Lib.hid hc; clear hc
  unfold primesErr
  by_cases h0 : p.length = 0
  · rw [if_pos h0]
    have ht : ((p.length : Int) == 0) = true := by rw [h0]; rfl
    clear h0
    go_enter Tryz.func58, Tryz.ntmps58
    go_wp2
    go_ret
    exact ⟨rfl, rfl⟩
  · rw [if_neg h0]
    have ht : ((p.length : Int) == 0) = false := beq_eq_false_iff_ne.2 (by omega)
    by_cases h6 : 6 < p.length
    · rw [if_pos h6]
      clear h0
      go_enter Tryz.func58, Tryz.ntmps58
      go_wp2
      go_ret
      exact ⟨rfl, rfl⟩
    · rw [if_neg h6]
      clear h0
      obtain ⟨r, hr⟩ : ∃ r, r = primesFrom p 0 p.length := ⟨_, rfl⟩
      rw [← hr]
      have Hr := Lib.hid hr; clear hr
      go_enter Tryz.func58, Tryz.ntmps58
      go_wp2
      go_loop [15] (fun i => ∃ k : Nat, i = .int .i64 k ∧ k ≤ p.length ∧ r = primesFrom p k (p.length - k)) (fun i => p.length - (intOf i).toNat)
      case atStart => exact ⟨0, rfl, Nat.zero_le _, Hr.out⟩
      case round =>
        obtain ⟨k, rfl, hk, hr⟩ := hrel
        by_cases hlt : k < p.length
        · obtain ⟨b, off, rfl, hcell⟩ := Hc.out k _ (i64s_at hlt)
          have hf : p.length - k = (p.length - (k + 1)) + 1 := by omega
          rw [hf, primesFrom] at hr
          have hip := isPrime_c (nthI p k) w
          have Hip := Lib.hid hip; clear hip hf
          by_cases hpr : isPrime (nthI p k) = true
          · rw [hpr] at Hip hr
            rw [if_neg (by simp)] at hr
            by_cases hk0 : 0 < k
            · obtain ⟨b2, off2, e2, hcell2⟩ := Hc.out (k - 1) _ (i64s_at (show k - 1 < p.length by omega))
              simp only [Option.some.injEq, Addr.mk.injEq, and_true] at e2
              obtain ⟨rfl, rfl⟩ := e2
              by_cases hle : nthI p k ≤ nthI p (k - 1)
              · rw [if_pos ⟨hk0, hle⟩] at hr
                have Hr2 := Lib.hid hr; clear hr hpr
                generalize nthI p k = x at *
                generalize nthI p (k - 1) = y at *
                go_wp2_with fail
                refine Hip.out.mono ?_
                rintro e w1 ⟨rfl, rfl⟩
                go_wp2
                go_ret
                exact ⟨ret_int Hr2.out.symm, rfl⟩
              · rw [if_neg (fun hh => hle hh.2)] at hr
                have Hr2 := Lib.hid hr; clear hr hpr
                generalize nthI p k = x at *
                generalize nthI p (k - 1) = y at *
                go_wp2_with fail
                refine Hip.out.mono ?_
                rintro e w1 ⟨rfl, rfl⟩
                go_wp2
                go_round
                case rel => exact ⟨k + 1, by go_num, by omega, Hr2.out⟩
                case measure => simp [intOf]; omega
            · rw [if_neg (fun hh => hk0 hh.1)] at hr
              have Hr2 := Lib.hid hr; clear hr hpr
              generalize nthI p k = x at *
              go_wp2_with fail
              refine Hip.out.mono ?_
              rintro e w1 ⟨rfl, rfl⟩
              go_wp2
              go_round
              case rel => exact ⟨k + 1, by go_num, by omega, Hr2.out⟩
              case measure => simp [intOf]; omega
          · have hpf : isPrime (nthI p k) = false := by simpa using hpr
            rw [hpf] at Hip hr
            rw [if_pos (by simp)] at hr
            have Hr2 := Lib.hid hr; clear hr hpr hpf
            generalize nthI p k = x at *
            go_wp2_with fail
            refine Hip.out.mono ?_
            rintro e w1 ⟨rfl, rfl⟩
            go_wp2
            go_ret
            exact ⟨ret_int Hr2.out.symm, rfl⟩
        · have hr0 : r = 0 := by rw [hr, show p.length - k = 0 by omega, primesFrom]
          have Hr2 := Lib.hid hr0; clear hr hr0
          go_wp2
          go_ret
          exact ⟨ret_int Hr2.out.symm, rfl⟩

end Go.Proofs.YtkamjjjimbbdmaaGreatDoor

namespace Go.Proofs.YtkamjjjimbbdmaaGreatDoor
open Go.RowKit Go.Lib

/-- A slice of rows reads as a list of rows. -/
def Mat (w : World) (v : Value) (l : List (List Int)) : Prop :=
  ∃ vs : List Value, vs.length = l.length ∧ Sl w v vs ∧ ∀ i u, vs[i]? = some u → Sl w u (i64s (l.getD i []))
theorem Ext.mat {w w' : World} (h : Ext w w') {v : Value} {l : List (List Int)} (hm : Mat w v l) : Mat w' v l := by
  obtain ⟨vs, h1, h2, h3⟩ := hm
  exact ⟨vs, h1, h.sl h2, fun i u hu => h.sl (h3 i u hu)⟩

/-- Is an exponent too great? -/
def far (z : Int) : Bool := decide (1000 < z) || decide (z < -1000)
def rowErr (n : Nat) (x : List Int) : Int := if x.length ≠ n then 5 else if x.any far then 4 else 0
def rowsErr (n : Nat) : List (List Int) → Int
  | [] => 0
  | x :: r => if rowErr n x ≠ 0 then rowErr n x else rowsErr n r
/-- The first error of primes with rows. -/
def allErr (p : List Int) (l : List (List Int)) : Int := if primesErr p ≠ 0 then primesErr p else rowsErr p.length l

theorem far_yes1 {z : Int} (h : 1000 < z) : far z = true := by unfold far; rw [decide_eq_true h]; rfl
theorem far_yes2 {z : Int} (h : z < -1000) : far z = true := by unfold far; rw [decide_eq_true h]; simp
theorem far_no {z : Int} (h1 : ¬ 1000 < z) (h2 : ¬ z < -1000) : far z = false := by unfold far; rw [decide_eq_false h1, decide_eq_false h2]; rfl
theorem any_far_at {x : List Int} {k : Nat} (hk : k < x.length) (h : far (nthI x k) = true) : x.any far = true :=
  List.any_eq_true.2 ⟨_, nthI_mem hk, h⟩
theorem any_far_no {x : List Int} (h : ∀ k, k < x.length → far (nthI x k) = false) : x.any far = false := by
  rw [List.any_eq_false]
  intro z hz
  obtain ⟨k, hk, rfl⟩ := List.getElem_of_mem hz
  have := h k hk
  unfold nthI at this
  rw [List.getD_eq_getElem?_getD, List.getElem?_eq_getElem hk] at this
  simpa using this
theorem rowsErr_drop {n : Nat} {l : List (List Int)} {k : Nat} (hk : k < l.length) : rowsErr n (l.drop k) = if rowErr n (l.getD k []) ≠ 0 then rowErr n (l.getD k []) else rowsErr n (l.drop (k + 1)) := by
  rw [List.drop_eq_getElem_cons hk, rowsErr]
  rw [List.getD_eq_getElem?_getD, List.getElem?_eq_getElem hk]
  rfl

set_option maxRecDepth 100000 in
set_option maxHeartbeats 1000000 in
theorem checkAll_c (vp vl : Value) (p : List Int) (l : List (List Int)) (w : World) (hp : Sl w vp (i64s p)) (hl : Mat w vl l) (hlp : p.length ≤ 1000000) (hll : l.length ≤ 1000000) (hrow : ∀ i, (l.getD i []).length ≤ 1000000) :
    Calls Tryz.prog 24 #[vp, vl] w fun e w' => e = .returned (.int .i64 (allErr p l)) ∧ w = w' := by
  have hpc := primes_c vp p w hp hlp
  obtain ⟨ap, cp, rfl, _, _, _⟩ := hp.parts
  rw [i64s_length] at *
  have Hpc := Lib.hid hpc; clear hpc
  obtain ⟨vs, hvs, hsl, hrows⟩ := hl
  obtain ⟨a, cap, rfl, _, _, hc⟩ := hsl.parts
  rw [hvs]
  have Hc := Lib.hid hc; clear hc hsl
  have Hrows := Lib.hid hrows; clear hrows
  have Hvs := Lib.hid hvs; clear hvs
  have Hrow := Lib.hid hrow; clear hrow
  unfold allErr
  generalize hpe : primesErr p = pe at *
  have Hpe := Lib.hid hpe; clear hpe
  by_cases hp0 : pe = 0
  · subst hp0
    rw [if_neg (by simp)]
    obtain ⟨r, hr⟩ : ∃ r, r = rowsErr p.length l := ⟨_, rfl⟩
    rw [← hr]
    have Hr := Lib.hid hr; clear hr
    go_enter Tryz.func24, Tryz.ntmps24
    go_wp2_with fail
    refine Hpc.out.mono ?_
    rintro e w1 ⟨rfl, rfl⟩
    go_wp2
    go_loop [17] (fun i => ∃ k : Nat, i = .int .i64 k ∧ k ≤ l.length ∧ r = rowsErr p.length (l.drop k)) (fun i => l.length - (intOf i).toNat)
    case atStart => exact ⟨0, rfl, Nat.zero_le _, by rw [List.drop_zero]; exact Hr.out⟩
    case round =>
      obtain ⟨k, rfl, hk, hr⟩ := hrel
      by_cases hlt : k < l.length
      · obtain ⟨u, hu⟩ : ∃ u, vs[k]? = some u := ⟨_, List.getElem?_eq_getElem (by rw [Hvs.out]; exact hlt)⟩
        obtain ⟨b, off, rfl, hcell⟩ := Hc.out k u hu
        have hrk := Hrows.out k u hu
        have hxl := Hrow.out k
        rw [rowsErr_drop hlt] at hr
        generalize hx : l.getD k [] = x at *
        have Hx := Lib.hid hx; clear hx hu
        obtain ⟨ax, cx, rfl, _, _, hcx⟩ := hrk.parts
        rw [i64s_length] at hcell
        have Hcx := Lib.hid hcx; clear hcx hrk
        by_cases hne : x.length = p.length
        · have ht : ((x.length : Int) != (p.length : Int)) = false := by rw [bne_eq_false_iff_eq]; omega
          have hre : rowErr p.length x = if x.any far then 4 else 0 := by unfold rowErr; rw [if_neg (by simpa using hne)]
          rw [hre] at hr
          have Hr2 := Lib.hid hr; clear hr hre hne
          go_wp2
          go_loop [28] (fun i => ∃ j : Nat, i = .int .i64 j ∧ j ≤ x.length ∧ ∀ t, t < j → far (nthI x t) = false) (fun i => x.length - (intOf i).toNat)
          case atStart => exact ⟨0, rfl, Nat.zero_le _, fun t ht => by omega⟩
          case round =>
            obtain ⟨j, rfl, hj, hfar⟩ := hrel
            have Hfar := Lib.hid hfar; clear hfar
            by_cases hjl : j < x.length
            · obtain ⟨b2, off2, rfl, hcell2⟩ := Hcx.out j _ (i64s_at hjl)
              have h3 : (1000 < nthI x j) ∨ (¬ 1000 < nthI x j ∧ nthI x j < -1000) ∨ (¬ 1000 < nthI x j ∧ ¬ nthI x j < -1000) := by omega
              rcases h3 with g | ⟨g, g2⟩ | ⟨g, g2⟩
              · have hr4 : r = 4 := by rw [Hr2.out, if_pos (any_far_at hjl (far_yes1 g)), if_pos (by simp)]
                have Hr4 := Lib.hid hr4; clear hr4
                generalize nthI x j = z at *
                go_wp2
                go_ret
                exact ⟨ret_int Hr4.out.symm, rfl⟩
              · have hr4 : r = 4 := by rw [Hr2.out, if_pos (any_far_at hjl (far_yes2 g2)), if_pos (by simp)]
                have Hr4 := Lib.hid hr4; clear hr4
                generalize nthI x j = z at *
                go_wp2
                go_ret
                exact ⟨ret_int Hr4.out.symm, rfl⟩
              · have hfj := far_no g g2
                have Hfj := Lib.hid hfj; clear hfj
                generalize hz : nthI x j = z at *
                have Hz := Lib.hid hz; clear hz
                go_wp2
                go_round
                case rel => exact ⟨j + 1, by go_num, by omega, fun t h4 => by
                  rcases Nat.lt_or_ge t j with g3 | g3
                  · exact Hfar.out t g3
                  · rw [show t = j by omega, Hz.out]; exact Hfj.out⟩
                case measure => simp [intOf]; omega
            · have hall : x.any far = false := any_far_no fun t ht => Hfar.out t (by omega)
              have hr5 : r = rowsErr p.length (l.drop (k + 1)) := by
                have := Hr2.out
                rw [hall] at this
                rw [this]; simp
              have Hr5 := Lib.hid hr5; clear hr5 hall
              go_wp2
              go_round
              case rel => exact ⟨k + 1, by go_num, by omega, Hr5.out⟩
              case measure => simp [intOf]; omega
        · have ht : ((x.length : Int) != (p.length : Int)) = true := by rw [bne_iff_ne]; omega
          have hr5 : r = 5 := by
            rw [hr]
            unfold rowErr
            rw [if_pos hne, if_pos (by simp)]
          have Hr5 := Lib.hid hr5; clear hr5 hr hne
          go_wp2
          go_ret
          exact ⟨ret_int Hr5.out.symm, rfl⟩
      · have hr0 : r = 0 := by rw [hr, List.drop_eq_nil_of_le (by omega)]; rfl
        have Hr0 := Lib.hid hr0; clear hr0 hr
        go_wp2
        go_ret
        exact ⟨ret_int Hr0.out.symm, rfl⟩
  · rw [if_pos hp0]
    have ht : (pe != 0) = true := by rw [bne_iff_ne]; exact hp0
    clear hp0
    go_enter Tryz.func24, Tryz.ntmps24
    go_wp2_with fail
    refine Hpc.out.mono ?_
    rintro e w1 ⟨rfl, rfl⟩
    go_wp2
    go_ret
    exact ⟨rfl, rfl⟩

/-- The error of primes with one row. -/
def oneErr (p x : List Int) : Int := allErr p [x]

set_option maxHeartbeats 400000 in
theorem check_c (vp vx : Value) (p x : List Int) (w : World) (hp : Sl w vp (i64s p)) (hx : Sl w vx (i64s x)) (hlp : p.length ≤ 1000000) (hlx : x.length ≤ 1000000) :
    Calls Tryz.prog 55 #[vp, vx] w fun e w' => e = .returned (.int .i64 (oneErr p x)) ∧ Ext w w' := by
  have hext : Ext w (w.alloc (.cells #[vx] 30)) := (Ext.refl w).alloc _
  have hm : Mat (w.alloc (.cells #[vx] 30)) (.slice (some ⟨w.heap.size, 0, none⟩) 1 1) [x] := by
    refine ⟨[vx], rfl, .inr ⟨w.heap.size, 0, 1, rfl, Nat.le_refl _, by unfold maxLen; omega, ?_⟩, ?_⟩
    · intro i u hu
      cases i with
      | zero => simp at hu; subst hu; rw [World.cell?_alloc_new]; rfl
      | succ i => simp at hu
    · intro i u hu
      cases i with
      | zero => simp at hu; subst hu; exact hext.sl hx
      | succ i => simp at hu
  have hc := checkAll_c vp (.slice (some ⟨w.heap.size, 0, none⟩) 1 1) p [x] _ (hext.sl hp) hm hlp (by simp) (fun i => by cases i <;> simp [hlx])
  have Hc := Lib.hid hc; clear hc hm
  have Hext := Lib.hid hext; clear hext
  obtain ⟨ap, cp, rfl, _, _, _⟩ := hp.parts
  obtain ⟨ax, cx, rfl, _, _, _⟩ := hx.parts
  clear hp hx
  go_enter Tryz.func55, Tryz.ntmps55
  go_wp2_with fail
  refine Hc.out.mono ?_
  rintro e w1 ⟨rfl, rfl⟩
  go_wp2
  go_ret
  exact ⟨rfl, Hext.out⟩

end Go.Proofs.YtkamjjjimbbdmaaGreatDoor

namespace Go.Proofs.YtkamjjjimbbdmaaGreatDoor
open Go.RowKit Go.Lib

/-- The product of the first k powers whose exponents are greater than 0, and of the others. -/
def sideN (p x : List Int) : Nat → Nat
  | 0 => 1
  | k + 1 => if 0 < nthI x k then sideN p x k * (nthI p k).toNat ^ (nthI x k).natAbs else sideN p x k
def sideD (p x : List Int) : Nat → Nat
  | 0 => 1
  | k + 1 => if 0 < nthI x k then sideD p x k else sideD p x k * (nthI p k).toNat ^ (nthI x k).natAbs
def numP (p x : List Int) : Nat := sideN p x x.length
def denP (p x : List Int) : Nat := sideD p x x.length

/-- Small numbers, small exponents. -/
def Nice (p x : List Int) : Prop := x.length ≤ p.length ∧ x.length ≤ 64 ∧ ∀ i, i < x.length → 0 ≤ nthI p i ∧ nthI p i < 10000 ∧ -1000 ≤ nthI x i ∧ nthI x i ≤ 1000

theorem nDigits_lt {n k : Nat} (hk : 0 < k) (h : n < 10 ^ k) : nDigits n ≤ k := Dec.nDigits_le hk h
theorem nDigits_pow4 {a n : Nat} (ha : a < 10000) (hn : n ≤ 1000) : nDigits (a ^ n) ≤ 4000 := by
  by_cases h : n = 0
  · subst h; rw [Nat.pow_zero]; exact Nat.le_trans (Dec.nDigits_le (n := 1) (k := 1) (by omega) (by omega)) (by omega)
  · have h1 := nDigits_pow a n (by omega)
    have h2 : nDigits a ≤ 4 := Dec.nDigits_le (by omega) (by omega)
    have h3 : n * nDigits a ≤ 1000 * 4 := Nat.mul_le_mul hn h2
    omega

theorem sideN_digits {p x : List Int} (h : Nice p x) : ∀ k, k ≤ x.length → nDigits (sideN p x k) ≤ 1 + 4000 * k
  | 0, _ => Dec.nDigits_le (by omega) (by simp [sideN])
  | k + 1, hk => by
    have ih := sideN_digits h k (by omega)
    have h2 := h.2.2 k (by omega)
    rw [sideN]
    split
    · have := nDigits_mul (sideN p x k) ((nthI p k).toNat ^ (nthI x k).natAbs)
      have := nDigits_pow4 (a := (nthI p k).toNat) (n := (nthI x k).natAbs) (by omega) (by omega)
      omega
    · omega
theorem sideD_digits {p x : List Int} (h : Nice p x) : ∀ k, k ≤ x.length → nDigits (sideD p x k) ≤ 1 + 4000 * k
  | 0, _ => Dec.nDigits_le (by omega) (by simp [sideD])
  | k + 1, hk => by
    have ih := sideD_digits h k (by omega)
    have h2 := h.2.2 k (by omega)
    rw [sideD]
    split
    · omega
    · have := nDigits_mul (sideD p x k) ((nthI p k).toNat ^ (nthI x k).natAbs)
      have := nDigits_pow4 (a := (nthI p k).toNat) (n := (nthI x k).natAbs) (by omega) (by omega)
      omega

def SideRel (p x : List Int) (w0 : World) (n d i : Value) (wr : World) : Prop :=
  ∃ k : Nat, i = .int .i64 k ∧ k ≤ x.length ∧ n = .string (D (sideN p x k)) ∧ d = .string (D (sideD p x k)) ∧ Ext w0 wr

set_option maxRecDepth 100000 in
set_option maxHeartbeats 1000000 in
theorem msides_c (vp vx : Value) (p x : List Int) (w : World) (he : Env w) (hp : Sl w vp (i64s p)) (hx : Sl w vx (i64s x)) (hn : Nice p x) :
    Calls Tryz.prog 57 #[vp, vx] w fun e w' => e = .returned (.tuple #[.string (D (numP p x)), .string (D (denP p x))]) ∧ Ext w w' := by
  obtain ⟨ap, cp, rfl, _, _, hcp⟩ := hp.parts
  obtain ⟨ax, cx, rfl, _, _, hcx⟩ := hx.parts
  rw [i64s_length, i64s_length]
  have Hcp := Lib.hid hcp; clear hcp hp
  have Hcx := Lib.hid hcx; clear hcx hx
  have hl1 := hn.1
  have hl2 := hn.2.1
  have Hn := Lib.hid hn; clear hn
  have He := Lib.hid he; clear he
  go_enter Tryz.func57, Tryz.ntmps57
  go_wp2
  go_loopw [4, 5, 12] (fun n d i wr => SideRel p x w n d i wr) (fun _ _ i _ => x.length - (intOf i).toNat)
  case atStart => exact ⟨0, rfl, Nat.zero_le _, by rw [sideN, D_one], by rw [sideD, D_one], Ext.refl _⟩
  case round =>
    obtain ⟨k, rfl, hk, rfl, rfl, hext⟩ := hrel
    have Hext := Lib.hid hext; clear hext
    by_cases hlt : k < x.length
    · obtain ⟨bp, op, rfl, hcellp0⟩ := Hcp.out k _ (i64s_at (by omega))
      obtain ⟨bx, ox, rfl, hcellx0⟩ := Hcx.out k _ (i64s_at hlt)
      have hcellp := Hext.out.cell hcellp0
      have hcellx := Hext.out.cell hcellx0
      clear hcellp0 hcellx0
      have hb := Hn.out.2.2 k hlt
      have hdN := sideN_digits Hn.out k (by omega)
      have hdD := sideD_digits Hn.out k (by omega)
      have HdN := Lib.hid hdN; clear hdN
      have HdD := Lib.hid hdD; clear hdD
      have hsN : sideN p x (k + 1) = if 0 < nthI x k then sideN p x k * (nthI p k).toNat ^ (nthI x k).natAbs else sideN p x k := rfl
      have hsD : sideD p x (k + 1) = if 0 < nthI x k then sideD p x k else sideD p x k * (nthI p k).toNat ^ (nthI x k).natAbs := rfl
      obtain ⟨q, hq⟩ : ∃ q : Nat, nthI p k = q := ⟨(nthI p k).toNat, by omega⟩
      have hq4 : q < 10000 := by omega
      rw [hq] at hcellp hsN hsD
      rw [Int.toNat_natCast] at hsN hsD
      have hcase : (∃ e : Nat, 0 < e ∧ e ≤ 1000 ∧ nthI x k = e) ∨ (∃ e : Nat, e ≤ 1000 ∧ nthI x k = -(e : Int)) := by
        by_cases g : 0 < nthI x k
        · exact .inl ⟨(nthI x k).toNat, by omega, by omega, by omega⟩
        · exact .inr ⟨(-(nthI x k)).toNat, by omega, by omega⟩
      rcases hcase with ⟨e, he0, he1, hz⟩ | ⟨e, he1, hz⟩
      · rw [hz] at hcellx hsN hsD
        rw [Int.natAbs_natCast, if_pos (by omega)] at hsN hsD
        have hmax : max (e : Int) (-(e : Int)) = e := by omega
        clear hb hq hz
        have hpow : nDigits (q ^ e) ≤ 4000 := nDigits_pow4 hq4 he1
        have Hpow := Lib.hid hpow; clear hpow
        have HsN := Lib.hid hsN; clear hsN
        have HsD := Lib.hid hsD; clear hsD
        generalize sideN p x k = N at *
        generalize sideD p x k = M at *
        go_wp2_with fail
        refine (decOf_c q (by omega) wr (He.out.ext Hext.out)).mono ?_
        rintro e1 w1 ⟨rfl, hx1⟩
        have Hx1 := Lib.hid hx1; clear hx1
        go_wp2_with fail
        refine (decPow_c q e w1 ((He.out.ext Hext.out).ext Hx1.out) (Dec.nDigits_le (by omega) (by omega)) (by omega) (by have := Hpow.out; omega)).mono ?_
        rintro e1 w2 ⟨rfl, hx2⟩
        have Hx2 := Lib.hid hx2; clear hx2
        go_wp2_with fail
        refine (decMul_c N (q ^ e) w2 (((He.out.ext Hext.out).ext Hx1.out).ext Hx2.out) (by have := HdN.out; omega) (by have := Hpow.out; omega)).mono ?_
        rintro e1 w3 ⟨rfl, hx3⟩
        have Hx3 := Lib.hid hx3; clear hx3
        go_wp2
        go_roundw
        case rel => exact ⟨k + 1, by go_num, by omega, by rw [HsN.out], by rw [HsD.out], ((Hext.out.trans Hx1.out).trans Hx2.out).trans Hx3.out⟩
        case measure => simp [intOf]; omega
      · rw [hz] at hcellx hsN hsD
        rw [Int.natAbs_neg, Int.natAbs_natCast, if_neg (by omega)] at hsN hsD
        have hmax : max (-(e : Int)) e = e := by omega
        clear hb hq hz
        have hpow : nDigits (q ^ e) ≤ 4000 := nDigits_pow4 hq4 he1
        have Hpow := Lib.hid hpow; clear hpow
        have HsN := Lib.hid hsN; clear hsN
        have HsD := Lib.hid hsD; clear hsD
        generalize sideN p x k = N at *
        generalize sideD p x k = M at *
        go_wp2_with fail
        refine (decOf_c q (by omega) wr (He.out.ext Hext.out)).mono ?_
        rintro e1 w1 ⟨rfl, hx1⟩
        have Hx1 := Lib.hid hx1; clear hx1
        go_wp2_with fail
        refine (decPow_c q e w1 ((He.out.ext Hext.out).ext Hx1.out) (Dec.nDigits_le (by omega) (by omega)) (by omega) (by have := Hpow.out; omega)).mono ?_
        rintro e1 w2 ⟨rfl, hx2⟩
        have Hx2 := Lib.hid hx2; clear hx2
        go_wp2_with fail
        refine (decMul_c M (q ^ e) w2 (((He.out.ext Hext.out).ext Hx1.out).ext Hx2.out) (by have := HdD.out; omega) (by have := Hpow.out; omega)).mono ?_
        rintro e1 w3 ⟨rfl, hx3⟩
        have Hx3 := Lib.hid hx3; clear hx3
        go_wp2
        go_roundw
        case rel => exact ⟨k + 1, by go_num, by omega, by rw [HsN.out], by rw [HsD.out], ((Hext.out.trans Hx1.out).trans Hx2.out).trans Hx3.out⟩
        case measure => simp [intOf]; omega
    · obtain rfl : k = x.length := by omega
      go_wp2
      go_ret2
      exact ⟨rfl, Hext.out⟩

def SideRelI (p x : List Int) (w0 : World) (n d i : Value) (wr : World) : Prop :=
  ∃ k : Nat, i = .int .i64 k ∧ k ≤ x.length ∧ n = .string (I (sideN p x k : Nat)) ∧ d = .string (I (sideD p x k : Nat)) ∧ Ext w0 wr

set_option maxRecDepth 100000 in
set_option maxHeartbeats 1000000 in
theorem csides_c (vp vx : Value) (p x : List Int) (w : World) (he : Env w) (hp : Sl w vp (i64s p)) (hx : Sl w vx (i64s x)) (hn : Nice p x) :
    Calls Tryz.prog 38 #[vp, vx] w fun e w' => e = .returned (.tuple #[.string (I (numP p x : Nat)), .string (I (denP p x : Nat))]) ∧ Ext w w' := by
  obtain ⟨ap, cp, rfl, _, _, hcp⟩ := hp.parts
  obtain ⟨ax, cx, rfl, _, _, hcx⟩ := hx.parts
  rw [i64s_length, i64s_length]
  have Hcp := Lib.hid hcp; clear hcp hp
  have Hcx := Lib.hid hcx; clear hcx hx
  have hl1 := hn.1
  have hl2 := hn.2.1
  have Hn := Lib.hid hn; clear hn
  have He := Lib.hid he; clear he
  go_enter Tryz.func38, Tryz.ntmps38
  go_wp2
  go_loopw [4, 5, 12] (fun n d i wr => SideRelI p x w n d i wr) (fun _ _ i _ => x.length - (intOf i).toNat)
  case atStart => exact ⟨0, rfl, Nat.zero_le _, by rw [sideN, I_nat, D_one], by rw [sideD, I_nat, D_one], Ext.refl _⟩
  case round =>
    obtain ⟨k, rfl, hk, rfl, rfl, hext⟩ := hrel
    have Hext := Lib.hid hext; clear hext
    by_cases hlt : k < x.length
    · obtain ⟨bp, op, rfl, hcellp0⟩ := Hcp.out k _ (i64s_at (by omega))
      obtain ⟨bx, ox, rfl, hcellx0⟩ := Hcx.out k _ (i64s_at hlt)
      have hcellp := Hext.out.cell hcellp0
      have hcellx := Hext.out.cell hcellx0
      clear hcellp0 hcellx0
      have hb := Hn.out.2.2 k hlt
      have hdN := sideN_digits Hn.out k (by omega)
      have hdD := sideD_digits Hn.out k (by omega)
      have HdN := Lib.hid hdN; clear hdN
      have HdD := Lib.hid hdD; clear hdD
      have hsN : sideN p x (k + 1) = if 0 < nthI x k then sideN p x k * (nthI p k).toNat ^ (nthI x k).natAbs else sideN p x k := rfl
      have hsD : sideD p x (k + 1) = if 0 < nthI x k then sideD p x k else sideD p x k * (nthI p k).toNat ^ (nthI x k).natAbs := rfl
      obtain ⟨q, hq⟩ : ∃ q : Nat, nthI p k = q := ⟨(nthI p k).toNat, by omega⟩
      have hq4 : q < 10000 := by omega
      rw [hq] at hcellp hsN hsD
      rw [Int.toNat_natCast] at hsN hsD
      have hcase : (∃ e : Nat, 0 < e ∧ e ≤ 1000 ∧ nthI x k = e) ∨ (∃ e : Nat, e ≤ 1000 ∧ nthI x k = -(e : Int)) := by
        by_cases g : 0 < nthI x k
        · exact .inl ⟨(nthI x k).toNat, by omega, by omega, by omega⟩
        · exact .inr ⟨(-(nthI x k)).toNat, by omega, by omega⟩
      rcases hcase with ⟨e, he0, he1, hz⟩ | ⟨e, he1, hz⟩
      · rw [hz] at hcellx hsN hsD
        rw [Int.natAbs_natCast, if_pos (by omega)] at hsN hsD
        have hmax : max (e : Int) (-(e : Int)) = e := by omega
        clear hb hq hz
        have hpow : nDigits (q ^ e) ≤ 4000 := nDigits_pow4 hq4 he1
        have Hpow := Lib.hid hpow; clear hpow
        have HsN := Lib.hid hsN; clear hsN
        have HsD := Lib.hid hsD; clear hsD
        generalize sideN p x k = N at *
        generalize sideD p x k = M at *
        go_wp2_with fail
        refine (wholeOf_c (q : Int) (by omega) (by omega) wr (He.out.ext Hext.out)).mono ?_
        rintro e1 w1 ⟨rfl, hx1⟩
        have Hx1 := Lib.hid hx1; clear hx1
        go_wp2_with fail
        refine (pow_c q e w1 ((He.out.ext Hext.out).ext Hx1.out) (Dec.nDigits_le (by omega) (by omega)) he1).mono ?_
        rintro e1 w2 ⟨rfl, hx2⟩
        have Hx2 := Lib.hid hx2; clear hx2
        go_wp2_with fail
        refine (mul_c (N : Int) ((q ^ e : Nat) : Int) w2 (((He.out.ext Hext.out).ext Hx1.out).ext Hx2.out) (show nDigits _ ≤ _ by rw [Int.natAbs_natCast]; have := HdN.out; omega) (show nDigits _ ≤ _ by rw [Int.natAbs_natCast]; have := Hpow.out; omega)).mono ?_
        rintro e1 w3 ⟨rfl, hx3⟩
        rw [← Int.natCast_mul]
        have Hx3 := Lib.hid hx3; clear hx3
        go_wp2
        go_roundw
        case rel => exact ⟨k + 1, by go_num, by omega, by rw [HsN.out, Int.natCast_mul, Int.natCast_pow], by rw [HsD.out], ((Hext.out.trans Hx1.out).trans Hx2.out).trans Hx3.out⟩
        case measure => simp [intOf]; omega
      · rw [hz] at hcellx hsN hsD
        rw [Int.natAbs_neg, Int.natAbs_natCast, if_neg (by omega)] at hsN hsD
        have hmax : max (-(e : Int)) e = e := by omega
        clear hb hq hz
        have hpow : nDigits (q ^ e) ≤ 4000 := nDigits_pow4 hq4 he1
        have Hpow := Lib.hid hpow; clear hpow
        have HsN := Lib.hid hsN; clear hsN
        have HsD := Lib.hid hsD; clear hsD
        generalize sideN p x k = N at *
        generalize sideD p x k = M at *
        go_wp2_with fail
        refine (wholeOf_c (q : Int) (by omega) (by omega) wr (He.out.ext Hext.out)).mono ?_
        rintro e1 w1 ⟨rfl, hx1⟩
        have Hx1 := Lib.hid hx1; clear hx1
        go_wp2_with fail
        refine (pow_c q e w1 ((He.out.ext Hext.out).ext Hx1.out) (Dec.nDigits_le (by omega) (by omega)) he1).mono ?_
        rintro e1 w2 ⟨rfl, hx2⟩
        have Hx2 := Lib.hid hx2; clear hx2
        go_wp2_with fail
        refine (mul_c (M : Int) ((q ^ e : Nat) : Int) w2 (((He.out.ext Hext.out).ext Hx1.out).ext Hx2.out) (show nDigits _ ≤ _ by rw [Int.natAbs_natCast]; have := HdD.out; omega) (show nDigits _ ≤ _ by rw [Int.natAbs_natCast]; have := Hpow.out; omega)).mono ?_
        rintro e1 w3 ⟨rfl, hx3⟩
        rw [← Int.natCast_mul]
        have Hx3 := Lib.hid hx3; clear hx3
        go_wp2
        go_roundw
        case rel => exact ⟨k + 1, by go_num, by omega, by rw [HsN.out], by rw [HsD.out, Int.natCast_mul, Int.natCast_pow], ((Hext.out.trans Hx1.out).trans Hx2.out).trans Hx3.out⟩
        case measure => simp [intOf]; omega
    · obtain rfl : k = x.length := by omega
      go_wp2
      go_ret2
      exact ⟨rfl, Hext.out⟩

theorem primesFrom_zero (p : List Int) : ∀ (f k : Nat), primesFrom p k f = 0 → ∀ i, k ≤ i → i < k + f → isPrime (nthI p i) = true
  | 0, k, _, i, h1, h2 => by omega
  | f + 1, k, h, i, h1, h2 => by
    rw [primesFrom] at h
    by_cases hp : isPrime (nthI p k) = true
    · rw [if_neg (by rw [hp]; simp)] at h
      by_cases hk : 0 < k ∧ nthI p k ≤ nthI p (k - 1)
      · rw [if_pos hk] at h; omega
      · rw [if_neg hk] at h
        rcases Nat.eq_or_lt_of_le h1 with e | e
        · rw [← e]; exact hp
        · exact primesFrom_zero p f (k + 1) h i e (by omega)
    · rw [if_pos (by simpa using hp)] at h; omega
theorem isPrime_bounds {n : Int} (h : isPrime n = true) : 2 ≤ n ∧ n ≤ 97 := by
  unfold isPrime at h
  rw [Bool.and_eq_true] at h
  simpa using h.1
theorem primesErr_zero {p : List Int} (h : primesErr p = 0) : 0 < p.length ∧ p.length ≤ 6 ∧ ∀ i, i < p.length → 2 ≤ nthI p i ∧ nthI p i ≤ 97 := by
  unfold primesErr at h
  by_cases h0 : p.length = 0
  · rw [if_pos h0] at h; omega
  · rw [if_neg h0] at h
    by_cases h6 : 6 < p.length
    · rw [if_pos h6] at h; omega
    · rw [if_neg h6] at h
      exact ⟨by omega, by omega, fun i hi => isPrime_bounds (primesFrom_zero p _ 0 h i (by omega) (by omega))⟩
theorem rowErr_zero {n : Nat} {x : List Int} (h : rowErr n x = 0) : x.length = n ∧ ∀ i, i < x.length → -1000 ≤ nthI x i ∧ nthI x i ≤ 1000 := by
  unfold rowErr at h
  by_cases h0 : x.length = n
  · rw [if_neg (by simpa using h0)] at h
    by_cases hf : x.any far = true
    · rw [if_pos hf] at h; omega
    · refine ⟨h0, fun i hi => ?_⟩
      by_cases g1 : 1000 < nthI x i
      · exact absurd (any_far_at hi (far_yes1 g1)) hf
      · by_cases g2 : nthI x i < -1000
        · exact absurd (any_far_at hi (far_yes2 g2)) hf
        · omega
  · rw [if_pos h0] at h; omega
theorem oneErr_zero {p x : List Int} (h : oneErr p x = 0) : primesErr p = 0 ∧ rowErr p.length x = 0 := by
  unfold oneErr allErr at h
  by_cases h0 : primesErr p = 0
  · rw [if_neg (by simpa using h0)] at h
    refine ⟨h0, ?_⟩
    rw [rowsErr] at h
    by_cases h1 : rowErr p.length x = 0
    · exact h1
    · rw [if_pos h1] at h; exact h
  · rw [if_pos h0] at h; exact absurd h h0
theorem nice_of {p x : List Int} (h1 : primesErr p = 0) (h2 : rowErr p.length x = 0) : Nice p x := by
  obtain ⟨a, b, c⟩ := primesErr_zero h1
  obtain ⟨d, e⟩ := rowErr_zero h2
  refine ⟨by omega, by omega, fun i hi => ?_⟩
  have := c i (by omega)
  have := e i hi
  omega
theorem numP_digits {p x : List Int} (h : Nice p x) : nDigits (numP p x) ≤ 256001 := by
  have := sideN_digits h x.length (Nat.le_refl _)
  have := h.2.1
  unfold numP; omega
theorem denP_digits {p x : List Int} (h : Nice p x) : nDigits (denP p x) ≤ 256001 := by
  have := sideD_digits h x.length (Nat.le_refl _)
  have := h.2.1
  unfold denP; omega

/-- The sign of an interval, with the error. -/
def signP (p x : List Int) : Int := if oneErr p x ≠ 0 then 0 else cmpI (numP p x : Nat) (denP p x : Nat)

set_option maxHeartbeats 400000 in
theorem msign_c (vp vx : Value) (p x : List Int) (w : World) (he : Env w) (hp : Sl w vp (i64s p)) (hx : Sl w vx (i64s x)) (hlp : p.length ≤ 1000000) (hlx : x.length ≤ 1000000) :
    Calls Tryz.prog 22 #[vp, vx] w fun e w' => e = .returned (.tuple #[.int .i64 (signP p x), .int .i64 (oneErr p x)]) ∧ Ext w w' := by
  have hc := check_c vp vx p x w hp hx hlp hlx
  have Hc := Lib.hid hc; clear hc
  have He := Lib.hid he; clear he
  have Hp := Lib.hid hp; have Hx := Lib.hid hx
  obtain ⟨ap, cp, rfl, _, _, _⟩ := hp.parts
  obtain ⟨ax, cx, rfl, _, _, _⟩ := hx.parts
  clear hp hx
  unfold signP
  by_cases h0 : oneErr p x = 0
  · rw [if_neg (by simpa using h0), h0]
    have hn := nice_of (oneErr_zero h0).1 (oneErr_zero h0).2
    rw [h0] at Hc
    have Hn := Lib.hid hn; clear hn h0
    go_enter Tryz.func22, Tryz.ntmps22
    go_wp2_with fail
    refine Hc.out.mono ?_
    rintro e w1 ⟨rfl, hx1⟩
    have Hx1 := Lib.hid hx1; clear hx1
    go_wp2_with fail
    refine (msides_c _ _ p x w1 (He.out.ext Hx1.out) (Hx1.out.sl Hp.out) (Hx1.out.sl Hx.out) Hn.out).mono ?_
    rintro e w2 ⟨rfl, hx2⟩
    have Hx2 := Lib.hid hx2; clear hx2
    go_wp2_with fail
    refine (decCmp_c (numP p x) (denP p x) w2 (by have := numP_digits Hn.out; omega) (by have := denP_digits Hn.out; omega)).mono ?_
    rintro e w3 ⟨rfl, rfl⟩
    go_wp2
    go_ret2
    exact ⟨rfl, Hx1.out.trans Hx2.out⟩
  · rw [if_pos h0]
    have ht : (oneErr p x != 0) = true := by rw [bne_iff_ne]; exact h0
    generalize oneErr p x = r at *
    clear h0
    go_enter Tryz.func22, Tryz.ntmps22
    go_wp2_with fail
    refine Hc.out.mono ?_
    rintro e w1 ⟨rfl, hx1⟩
    have Hx1 := Lib.hid hx1; clear hx1
    go_wp2
    go_ret2
    exact ⟨rfl, Hx1.out⟩

end Go.Proofs.YtkamjjjimbbdmaaGreatDoor

namespace Go.Proofs.YtkamjjjimbbdmaaGreatDoor
open Go.RowKit Go.Lib

def fitsI (n : Int) : Bool := decide (-1000000000 ≤ n ∧ n ≤ 1000000000)

set_option maxHeartbeats 400000 in
theorem fits_c (n : Int) (w : World) : Calls Tryz.prog 151 #[.int .i64 n] w fun e w' => e = .returned (.bool (fitsI n)) ∧ w = w' := by
  unfold fitsI
  by_cases h1 : -1000000000 ≤ n
  · by_cases h2 : n ≤ 1000000000
    · rw [decide_eq_true ⟨h1, h2⟩]
      go_enter Tryz.func151, Tryz.ntmps151
      go_wp2
      go_ret
      exact ⟨rfl, rfl⟩
    · rw [decide_eq_false (fun h => h2 h.2)]
      have hd : decide (n ≤ 1000000000) = false := decide_eq_false h2
      go_enter Tryz.func151, Tryz.ntmps151
      go_wp2
      go_ret
      exact ⟨rfl, rfl⟩
  · rw [decide_eq_false (fun h => h1 h.1)]
    have hd : decide (-1000000000 ≤ n) = false := decide_eq_false h1
    go_enter Tryz.func151, Tryz.ntmps151
    go_wp2
    go_ret
    exact ⟨rfl, rfl⟩

set_option maxHeartbeats 400000 in
theorem notFits_c (n : Int) (w : World) : Calls Tryz.prog 150 #[.int .i64 n] w fun e w' => e = .returned (.bool (!fitsI n)) ∧ ∃ q, w' = w.drewN q := by
  have hf := fits_c n w
  have Hf := Lib.hid hf; clear hf
  generalize fitsI n = b at *
  go_enter Tryz.func150, Tryz.ntmps150
  go_wp2_with fail
  refine Hf.out.mono ?_
  rintro e w1 ⟨rfl, rfl⟩
  go_wp2
  go_ret
  exact ⟨rfl, 0, rfl⟩

theorem notFits_pred (w : World) : Go.Proofs.PredAt Tryz.prog 150 #[] (Value.int .i64) (fun n => !fitsI n) w := fun W x _ => notFits_c x W
theorem notFits_enters : ∀ args w, (callFunc 150 args).run Tryz.prog w = .ok (.enter 150 args) w := enters_of Tryz.func150 (by kernel_rfl) rfl

/-- The error of a row. -/
def rowChk (x : List Int) : Int := if 64 < x.length ∨ x.any (fun n => !fitsI n) = true then 4 else 0

theorem contains_c (a : Option Addr) (cap : Nat) (x : List Int) (w : World) (hl : x.length ≤ 1000000)
    (hc : ∀ i u, (i64s x)[i]? = some u → ∃ b off, a = some ⟨b, off, none⟩ ∧ w.cell? ⟨b, off + i, none⟩ = some u) :
    Calls Tryz.prog 63 #[.slice a x.length cap, .func (.func 150) #[] #[]] w fun e w' => e = .returned (.bool (x.any fun n => !fitsI n)) ∧ Ext w w' := by
  cases x with
  | nil => exact (AnyE.slices_ContainsFunc_empty Tryz.lContainsR a cap _ w).mono fun e w' ⟨h, hw⟩ => ⟨h, by rw [hw]; exact Ext.refl _⟩
  | cons z r =>
    obtain ⟨b, off, rfl, _⟩ := hc 0 _ (i64s_at (l := z :: r) (by simp))
    have h := AnyE.slices_ContainsFunc Tryz.lContainsR (Value.int .i64) (fun n => !fitsI n) 150 #[] notFits_enters b off (z :: r).length cap (z :: r) w (notFits_pred w) (Nat.le_refl _) (by omega) (fun j hj => by
      obtain ⟨b2, off2, e2, hcell⟩ := hc j _ (i64s_at hj)
      simp only [Option.some.injEq, Addr.mk.injEq, and_true] at e2
      obtain ⟨rfl, rfl⟩ := e2
      rw [hcell]
      unfold nthI
      rw [List.getD_eq_getElem?_getD, List.getElem?_eq_getElem hj, getElem!_pos _ j hj]
      rfl)
    rw [List.take_length] at h
    exact h.mono fun e w' ⟨he, q, hw⟩ => ⟨he, by rw [hw]; exact (Ext.refl w).drewN q⟩

set_option maxHeartbeats 400000 in
theorem rcheck_c (v : Value) (x : List Int) (w : World) (hv : Sl w v (i64s x)) (hl : x.length ≤ 1000000) :
    Calls Tryz.prog 105 #[v] w fun e w' => e = .returned (.int .i64 (rowChk x)) ∧ Ext w w' := by
  obtain ⟨a, cap, rfl, _, _, hc⟩ := hv.parts
  rw [i64s_length]
  have hcon := contains_c a cap x w hl hc
  clear hc hv
  unfold rowChk
  by_cases h64 : 64 < x.length
  · rw [if_pos (.inl h64)]
    clear hcon
    go_enter Tryz.func105, Tryz.ntmps105
    go_wp2
    go_ret
    exact ⟨rfl, Ext.refl _⟩
  · by_cases hb : x.any (fun n => !fitsI n) = true
    · rw [if_pos (.inr hb)]
      rw [hb] at hcon
      have Hcon := Lib.hid hcon; clear hcon hb
      go_enter Tryz.func105, Tryz.ntmps105
      go_wp2_with fail
      refine Hcon.out.mono ?_
      rintro e w1 ⟨rfl, hx1⟩
      have Hx1 := Lib.hid hx1; clear hx1
      go_wp2
      go_ret
      exact ⟨rfl, Hx1.out⟩
    · rw [if_neg (fun h => h.elim h64 hb)]
      rw [show x.any (fun n => !fitsI n) = false by simpa using hb] at hcon
      have Hcon := Lib.hid hcon; clear hcon hb
      go_enter Tryz.func105, Tryz.ntmps105
      go_wp2_with fail
      refine Hcon.out.mono ?_
      rintro e w1 ⟨rfl, hx1⟩
      have Hx1 := Lib.hid hx1; clear hx1
      go_wp2
      go_ret
      exact ⟨rfl, Hx1.out⟩

/-- The error of two rows. -/
def bothErr (x y : List Int) : Int := if rowChk x ≠ 0 then rowChk x else if rowChk y ≠ 0 then rowChk y else if x.length ≠ y.length then 5 else 0

set_option maxHeartbeats 800000 in
theorem rboth_c (v u : Value) (x y : List Int) (w : World) (hv : Sl w v (i64s x)) (hu : Sl w u (i64s y)) (hlx : x.length ≤ 1000000) (hly : y.length ≤ 1000000) :
    Calls Tryz.prog 82 #[v, u] w fun e w' => e = .returned (.int .i64 (bothErr x y)) ∧ Ext w w' := by
  have h1 := rcheck_c v x w hv hlx
  have H1 := Lib.hid h1; clear h1
  have h2 : ∀ w', Ext w w' → Calls Tryz.prog 105 #[u] w' fun e w'' => e = .returned (.int .i64 (rowChk y)) ∧ Ext w' w'' := fun w' hx => rcheck_c u y w' (hx.sl hu) hly
  have H2 := Lib.hid h2; clear h2
  obtain ⟨a, cap, rfl, _, _, _⟩ := hv.parts
  obtain ⟨b, cap', rfl, _, _, _⟩ := hu.parts
  rw [i64s_length] at *
  rw [i64s_length] at *
  clear hv hu
  unfold bothErr
  generalize rowChk x = r at *
  generalize rowChk y = s at *
  by_cases hr : r = 0
  · subst hr
    rw [if_neg (by simp)]
    by_cases hs : s = 0
    · subst hs
      rw [if_neg (by simp)]
      by_cases hl : x.length = y.length
      · rw [if_neg (by simpa using hl)]
        have ht : ((x.length : Int) != (y.length : Int)) = false := by rw [bne_eq_false_iff_eq]; omega
        clear hl
        go_enter Tryz.func82, Tryz.ntmps82
        go_wp2_with fail
        refine H1.out.mono ?_
        rintro e w1 ⟨rfl, hx1⟩
        have Hx1 := Lib.hid hx1; clear hx1
        go_wp2_with fail
        refine (H2.out w1 Hx1.out).mono ?_
        rintro e w2 ⟨rfl, hx2⟩
        have Hx2 := Lib.hid hx2; clear hx2
        go_wp2
        go_ret
        exact ⟨rfl, Hx1.out.trans Hx2.out⟩
      · rw [if_pos hl]
        have ht : ((x.length : Int) != (y.length : Int)) = true := by rw [bne_iff_ne]; omega
        clear hl
        go_enter Tryz.func82, Tryz.ntmps82
        go_wp2_with fail
        refine H1.out.mono ?_
        rintro e w1 ⟨rfl, hx1⟩
        have Hx1 := Lib.hid hx1; clear hx1
        go_wp2_with fail
        refine (H2.out w1 Hx1.out).mono ?_
        rintro e w2 ⟨rfl, hx2⟩
        have Hx2 := Lib.hid hx2; clear hx2
        go_wp2
        go_ret
        exact ⟨rfl, Hx1.out.trans Hx2.out⟩
    · rw [if_pos hs]
      have ht : (s != 0) = true := by rw [bne_iff_ne]; exact hs
      clear hs
      go_enter Tryz.func82, Tryz.ntmps82
      go_wp2_with fail
      refine H1.out.mono ?_
      rintro e w1 ⟨rfl, hx1⟩
      have Hx1 := Lib.hid hx1; clear hx1
      go_wp2_with fail
      refine (H2.out w1 Hx1.out).mono ?_
      rintro e w2 ⟨rfl, hx2⟩
      have Hx2 := Lib.hid hx2; clear hx2
      go_wp2
      go_ret
      exact ⟨rfl, Hx1.out.trans Hx2.out⟩
  · rw [if_pos hr]
    have ht : (r != 0) = true := by rw [bne_iff_ne]; exact hr
    clear hr
    go_enter Tryz.func82, Tryz.ntmps82
    go_wp2_with fail
    refine H1.out.mono ?_
    rintro e w1 ⟨rfl, hx1⟩
    have Hx1 := Lib.hid hx1; clear hx1
    go_wp2
    go_ret
    exact ⟨rfl, Hx1.out⟩

set_option maxHeartbeats 400000 in
theorem rresult_c (v : Value) (x : List Int) (w : World) (hv : Sl w v (i64s x)) (hl : x.length ≤ 1000000) (h0 : rowChk x = 0) :
    Calls Tryz.prog 84 #[v] w fun e w' => e = .returned (.tuple #[v, .int .i64 0]) ∧ Ext w w' := by
  have h1 := rcheck_c v x w hv hl
  rw [h0] at h1
  have H1 := Lib.hid h1; clear h1 h0
  go_enter Tryz.func84, Tryz.ntmps84
  go_wp2_with fail
  refine H1.out.mono ?_
  rintro e w1 ⟨rfl, hx1⟩
  have Hx1 := Lib.hid hx1; clear hx1
  go_wp2
  go_ret2
  exact ⟨rfl, Hx1.out⟩

end Go.Proofs.YtkamjjjimbbdmaaGreatDoor

namespace Go.Proofs.YtkamjjjimbbdmaaGreatDoor
open Go.RowKit Go.Lib

attribute [local go_sem] Oper.semAt_some

/-- What the rounds keep: what lay below n₀, and block Bb. -/
def KeepB (n₀ Bb : Nat) (W W' : World) : Prop := Below n₀ W W' ∧ W'.heap[Bb]? = W.heap[Bb]?

set_option maxRecDepth 100000 in
set_option maxHeartbeats 2000000 in
theorem pairs1_in (F : Fence) (n : Nat) (h8 : F.fn 116) (hro : F.round = none) (hn : 1 ≤ n) (l Ba Bb n₀ : Nat) (aa ab : Option Addr) (ca cb : Nat) (x y : List Int) (hlen : x.length = y.length) (hreach : x.length ≤ 1000000) (J Jx : List Nat → World → Prop)
    (hY : ∀ pre p W, J pre W → pre.length < x.length → YieldAt F (n - 1) Tryz.prog l #[.int .i64 (nthI x p), .int .i64 (nthI y p)] W fun e W' =>
      (e = .returned (.bool true) ∧ J (pre ++ [p]) W' ∧ KeepB n₀ Bb W W') ∨ (e = .returned (.bool false) ∧ Jx (pre ++ [p]) W'))
    (W : World) (hBa : W.cell? ⟨Ba, 0, none⟩ = some (.slice aa x.length ca)) (hBb : W.cell? ⟨Bb, 0, none⟩ = some (.slice ab y.length cb))
    (hx : ∀ i, i < x.length → ∃ b off, aa = some ⟨b, off, none⟩ ∧ b < n₀ ∧ W.cell? ⟨b, off + i, none⟩ = some (.int .i64 (nthI x i)))
    (hy : ∀ i, i < y.length → ∃ b off, ab = some ⟨b, off, none⟩ ∧ b < n₀ ∧ W.cell? ⟨b, off + i, none⟩ = some (.int .i64 (nthI y i))) (h0 : J [] W) :
    CallsIn F n Tryz.prog 116 #[.func (.yield l) #[] #[], .pointer (some ⟨Ba, 0, none⟩), .pointer (some ⟨Bb, 0, none⟩)] W fun e W' => (∃ v, e = .returned v) ∧
      ((∃ ys, ys = List.range x.length ∧ J ys W') ∨ (∃ pre, True ∧ Jx pre W')) := by
  have Hx := Lib.hid hx; clear hx
  have Hy := Lib.hid hy; clear hy
  have Hlen := Lib.hid hlen; clear hlen
  refine callsIn_of_wp Tryz.func116 rfl h8 ?_ hro
  simp only [Tryz.ntmps116, List.size_toArray, List.length_cons, List.length_nil, Nat.reduceAdd, Nat.reduceSub, Array.replicate_succ, Array.replicate_zero, List.push_toArray, List.append_toArray, List.nil_append, List.cons_append]
  gi_wp2
  gi_loopw [8] (fun i wr => ∃ k : Nat, k ≤ x.length ∧ i = .int .i64 k ∧ J (List.range k) wr ∧ KeepB n₀ Bb W wr)
    (fun i _ => x.length - (intOf i).toNat)
  case atStart => exact ⟨0, Nat.zero_le _, rfl, h0, Below.refl _ _, rfl⟩
  case round =>
    obtain ⟨k, hk, rfl, hJs, hnx⟩ := hrel
    by_cases hlt : k < x.length
    · obtain ⟨bx, ox, rfl, hbx, hcx0⟩ := Hx.out k hlt
      have hky : k < y.length := by rw [← Hlen.out]; exact hlt
      obtain ⟨by_, oy, rfl, hby, hcy0⟩ := Hy.out k hky
      have hcx : wr.cell? ⟨bx, ox + k, none⟩ = some (.int .i64 (nthI x k)) := (hnx.1.cell (p := ⟨bx, ox + k, none⟩) hbx).trans hcx0
      have hBbr : wr.cell? ⟨Bb, 0, none⟩ = some (.slice (some ⟨by_, oy, none⟩) y.length cb) := (World.cell?_of_block (a := ⟨Bb, 0, none⟩) hnx.2).trans hBb
      have hcy : wr.cell? ⟨by_, oy + k, none⟩ = some (.int .i64 (nthI y k)) := (hnx.1.cell (p := ⟨by_, oy + k, none⟩) hby).trans hcy0
      have hup : List.range (k + 1) = List.range k ++ [k] := List.range_succ
      have Hup := Lib.hid hup; clear hup hcx0 hcy0
      have Hnx := Lib.hid hnx; clear hnx
      obtain ⟨fn, tmps, assign, body, hy1, hR⟩ := hY _ k wr hJs (by rw [List.length_range]; exact hlt)
      have HR := Lib.hid hR; clear hR
      clear hY
      gi_wp2
      refine HR.out.mono ?_
      rintro e W3 (⟨rfl, hJ3, hk3⟩ | ⟨rfl, hJx3⟩)
      · gi_wp2
        go_roundw
        case rel => exact ⟨k + 1, by omega, by simp, by rw [Hup.out]; exact hJ3, Hnx.out.1.trans hk3.1, hk3.2.trans Hnx.out.2⟩
        case measure => simp [intOf]; omega
      · gi_wp2
        refine bodyPost_ret (results_none rfl _ _ _) rfl ?_
        exact ⟨⟨_, rfl⟩, .inr ⟨_, trivial, hJx3⟩⟩
    · obtain rfl : k = x.length := by omega
      clear hY
      gi_wp2
      go_end0
      exact ⟨⟨_, rfl⟩, .inl ⟨_, rfl, hJs⟩⟩

set_option maxHeartbeats 1000000 in
theorem pairs_in (F : Fence) (n : Nat) (h5 : F.fn 83) (hro : F.round = none) (aa ab : Option Addr) (la ca lb cb : Nat) (w : World) :
    CallsIn F n Tryz.prog 83 #[.slice aa la ca, .slice ab lb cb] w fun e w' => e = .returned (.func (.func 116) #[] #[.pointer (some ⟨w.heap.size, 0, none⟩), .pointer (some ⟨w.heap.size + 1, 0, none⟩)]) ∧
      w' = (w.alloc (.cells #[.slice aa la ca] 30)).alloc (.cells #[.slice ab lb cb] 30) := by
  refine callsIn_of_wp Tryz.func83 rfl h5 ?_ hro
  simp only [Tryz.ntmps83, List.size_toArray, List.length_cons, List.length_nil, Nat.reduceAdd, Nat.reduceSub, Array.replicate_succ, Array.replicate_zero, List.push_toArray, List.append_toArray, List.nil_append, List.cons_append]
  gi_wp2
  go_ret
  exact ⟨rfl, rfl⟩

theorem pairs_stops (F : Fence) (n : Nat) (h8 : F.fn 116) (hro : F.round = none) (hn : 1 ≤ n) (Ba Bb n₀ : Nat) (aa ab : Option Addr) (ca cb : Nat) (x y : List Int) (hlen : x.length = y.length) (hreach : x.length ≤ 1000000) (w : World)
    (hBa : w.cell? ⟨Ba, 0, none⟩ = some (.slice aa x.length ca)) (hBb : w.cell? ⟨Bb, 0, none⟩ = some (.slice ab y.length cb))
    (hx : ∀ i, i < x.length → ∃ b off, aa = some ⟨b, off, none⟩ ∧ b < n₀ ∧ w.cell? ⟨b, off + i, none⟩ = some (.int .i64 (nthI x i)))
    (hy : ∀ i, i < y.length → ∃ b off, ab = some ⟨b, off, none⟩ ∧ b < n₀ ∧ w.cell? ⟨b, off + i, none⟩ = some (.int .i64 (nthI y i))) :
    SeqStopsK F n Tryz.prog 116 #[.pointer (some ⟨Ba, 0, none⟩), .pointer (some ⟨Bb, 0, none⟩)] (fun p : Nat => #[Value.int .i64 (nthI x p), Value.int .i64 (nthI y p)]) (KeepB n₀ Bb) (fun ys => ys = List.range x.length) (fun _ => True) x.length w := fun l J Jx W hW _ _ hY h0 => by
  have hext : Ext w W := hW
  exact pairs1_in F n h8 hro hn l Ba Bb n₀ aa ab ca cb x y hlen hreach J Jx hY W (hext.cell hBa) (hext.cell hBb)
    (fun i hi => by obtain ⟨b, off, e, hb, hc⟩ := hx i hi; exact ⟨b, off, e, hb, hext.cell hc⟩)
    (fun i hi => by obtain ⟨b, off, e, hb, hc⟩ := hy i hi; exact ⟨b, off, e, hb, hext.cell hc⟩) h0

theorem info_int : (Tryz.prog.info? 3).map (fun i => (i.zero, i.size, i.bytes)) = some (some (.int .i64 0), 1, 8) := by kernel_rfl

/-- A row that a call made. -/
def OwnI (w : World) (B : Nat) (v : Value) (l : List Int) : Prop := w.ownsRow B 3 1 v l.length (i64s l)
theorem Ext.ownI {w w' : World} (h : Ext w w') {B : Nat} {v : Value} {l : List Int} (ho : OwnI w B v l) : OwnI w' B v l := h.own ho
theorem OwnI.sl {w : World} {B : Nat} {v : Value} {l : List Int} (ho : OwnI w B v l) : Sl w v (i64s l) := sl_own ho

theorem boxed_own {β : Type} {B : Nat} {t : TypeId} {v : Value} : Go.Own (fun (_ : β) W => Boxed W B t v) := by
  intro s X Y row hv hg hrow
  refine hv.kept hg (fun e' => ?_)
  obtain ⟨o, ho, hc⟩ := hrow B e'.symm
  rw [show X.heap[B]? = _ from hv] at ho; cases ho; cases hc

/-- The differences. -/
def diff (x y : List Int) : List Int := (List.range x.length).map fun p => nthI x p - nthI y p

set_option maxRecDepth 100000 in
set_option maxHeartbeats 2000000 in
theorem sub_c (vx vy : Value) (x y : List Int) (w : World) (hx : Sl w vx (i64s x)) (hy : Sl w vy (i64s y)) (hlen : x.length = y.length) (hl : x.length ≤ 64) (hb : bothErr x y = 0) (hd : rowChk (diff x y) = 0)
    (hin : ∀ i, i < x.length → -1000000000000 ≤ nthI x i - nthI y i ∧ nthI x i - nthI y i ≤ 1000000000000) :
    Calls Tryz.prog 43 #[vx, vy] w fun e w' => ∃ v, e = .returned (.tuple #[v, .int .i64 0]) ∧ OwnI w' w.heap.size v (diff x y) ∧ Ext w w' := by
  obtain ⟨i0, hi, hz0, hz1, hz2⟩ := info_parts info_int
  have hboth := rboth_c vx vy x y w hx hy (by omega) (by omega)
  rw [hb] at hboth
  have Hboth := Lib.hid hboth; clear hboth hb
  have Hd := Lib.hid hd; clear hd
  have hall : ∀ i, -1000000000000 ≤ nthI x i - nthI y i ∧ nthI x i - nthI y i ≤ 1000000000000 := fun i => by
    rcases Nat.lt_or_ge i x.length with h | h
    · exact hin i h
    · have e1 : nthI x i = 0 := by unfold nthI; rw [List.getD_eq_getElem?_getD, List.getElem?_eq_none h]; rfl
      have e2 : nthI y i = 0 := by unfold nthI; rw [List.getD_eq_getElem?_getD, List.getElem?_eq_none (by omega)]; rfl
      rw [e1, e2]; omega
  have Hall := Lib.hid hall; clear hall hin
  have Hlen := Lib.hid hlen; clear hlen
  obtain ⟨aa, ca, rfl, _, _, hcx⟩ := hx.parts
  obtain ⟨ab, cb, rfl, _, _, hcy⟩ := hy.parts
  rw [i64s_length] at *
  rw [i64s_length] at *
  have Hcx := Lib.hid hcx; clear hcx hx
  have Hcy := Lib.hid hcy; clear hcy hy
  refine (callsIn_wide (n := 3)).1 ?_
  refine callsIn_of_wp_marks Tryz.func43 rfl trivial ?_ rfl
  simp only [Tryz.ntmps43, List.size_toArray, List.length_cons, List.length_nil, Nat.reduceAdd, Nat.reduceSub, Array.replicate_succ, Array.replicate_zero, List.push_toArray, List.append_toArray, List.nil_append, List.cons_append]
  gi_wp2_with fail
  refine ⟨trivial, ?_⟩
  refine (callsIn_wide.2 Hboth.out).mono ?_
  rintro e w1 ⟨rfl, hx1⟩
  have hs1 := hx1.size
  have Hx1 := Lib.hid hx1; clear hx1
  gi_wp2_with (gi_at_make; refine wpListIn_make_own _ rfl _ _ 30 rfl w.heap.size 3 i0 (.int .i64 0) 1 Tryz.underlying30 hi hz0 hz1 .i64 .i64 x.length x.length rfl rfl rfl (by rw [hz2]; omega) (by unfold maxLen; omega) hs1 ?_; intro w2 hown2 hgrow2)
  refine ⟨trivial, ?_⟩
  refine (pairs_in Fence.wide _ trivial rfl _ _ _ _ _ _ _).mono ?_
  rintro e w' ⟨rfl, rfl⟩
  have hs2 := hgrow2.size
  have bO := Boxed.new w2 30 (.slice (some ⟨w1.heap.size, 0, none⟩) 0 x.length)
  have bA := Boxed.new (w2.alloc (.cells #[.slice (some ⟨w1.heap.size, 0, none⟩) 0 x.length] 30)) 30 (.slice aa x.length ca)
  have bB := Boxed.new ((w2.alloc (.cells #[.slice (some ⟨w1.heap.size, 0, none⟩) 0 x.length] 30)).alloc (.cells #[.slice aa x.length ca] 30)) 30 (.slice ab y.length cb)
  simp only [World.size_alloc] at bO bA bB
  have hE2 : Ext w w2 := Hx1.out.grown hgrow2 (fun k e => by cases e)
  have hE5 := ((hE2.alloc (.cells #[.slice (some ⟨w1.heap.size, 0, none⟩) 0 x.length] 30)).alloc (.cells #[.slice aa x.length ca] 30)).alloc (.cells #[.slice ab y.length cb] 30)
  have hrow5 := ((hown2.alloc (.cells #[.slice (some ⟨w1.heap.size, 0, none⟩) 0 x.length] 30)).alloc (.cells #[.slice aa x.length ca] 30)).alloc (.cells #[.slice ab y.length cb] 30)
  have HE5 := Lib.hid hE5; clear hE5
  gi_wp2_with fail
  refine wpIn_rangeFunc_ownG (n := 3) rfl (by omega) (gf := 116) (lb := #[.pointer (some ⟨w2.heap.size + 1, 0, none⟩), .pointer (some ⟨w2.heap.size + 1 + 1, 0, none⟩)]) rfl trivial (enters_of Tryz.func116 (by kernel_rfl) rfl)
    (pairs_stops Fence.wide (3 - 1) trivial rfl (by omega) (w2.heap.size + 1) (w2.heap.size + 1 + 1) w.heap.size aa ab ca cb x y Hlen.out (by omega) _ (bA.alloc _).cell bB.cell
      (fun i hi => by obtain ⟨b, off, e, hc⟩ := Hcx.out i _ (i64s_at hi); exact ⟨b, off, e, World.block_lt_of_cell? _ _ hc, HE5.out.cell hc⟩)
      (fun i hi => by obtain ⟨b, off, e, hc⟩ := Hcy.out i _ (i64s_at hi); exact ⟨b, off, e, World.block_lt_of_cell? _ _ hc, HE5.out.cell hc⟩))
    (fun h k => ⟨h.1.trans k.1, k.2.trans h.2⟩) (fun W l o o' hl h hc hw => ⟨belowK_b HE5.out.size W l o o' hl h hc hw, World.putObj_heap_other (by simp [World.size_alloc] at hl; omega)⟩) (Below.refl _ _) (fun _ => rfl)
    (fun pre W => (∃ v, Boxed W w2.heap.size 30 v ∧ W.ownsRow w.heap.size 3 1 v pre.length (i64s (pre.map fun p => nthI x p - nthI y p)) ∧ True) ∧ Boxed W (w2.heap.size + 1 + 1) 30 (.slice ab y.length cb) ∧ Below w.heap.size w W)
    (fun _ _ _ => False)
    (OwnFrom.and (Go.Own.from (holdsRow_own w.heap.size w2.heap.size 30 3 1 (fun pre : List Nat => pre.length) (fun pre => i64s (pre.map fun p => nthI x p - nthI y p)) (fun pre v => True)) _) (OwnFrom.and (Go.Own.from boxed_own _) (ownFrom_below (Nat.le_refl _) HE5.out.size)))
    (fun _ _ _ _ _ hs _ _ => hs)
    ⟨⟨_, (bO.alloc _).alloc _, hrow5, trivial⟩, bB, HE5.out⟩
    (fun p => { tmps := #[.slice aa x.length ca, .slice ab y.length cb, undef, undef, .slice none 0 0, .int .i64 0, .int .i64 0, .pointer (some ⟨w2.heap.size, 0, none⟩),
          .int .i64 (nthI x p), .int .i64 (nthI y p), .slice aa x.length ca, .slice ab y.length cb, .int .i64 0, .int .i64 0, .bool false, undef, .slice aa x.length ca, .int .i64 x.length,
          .slice (some ⟨w1.heap.size, 0, none⟩) 0 x.length, .slice aa x.length ca, .slice ab y.length cb,
          .func (.func 116) #[] #[.pointer (some ⟨w2.heap.size + 1, 0, none⟩), .pointer (some ⟨w2.heap.size + 1 + 1, 0, none⟩)],
          .int .i64 (nthI x p), .int .i64 (nthI y p), undef, undef, undef, undef, undef, undef, undef, undef, undef, undef], defers := [] }) ?assign ?body ?done ?stop
  case assign =>
    intro l p W K hK
    gi_wp2
    exact hK
  case body =>
    rintro l pre p W ⟨⟨v, hv, hrow, _⟩, hvb, hB⟩ hlt
    have hc := hv.cell
    have hpb := Hall.out p
    have hlt2 : pre.length < 64 := by omega
    clear hlt
    gi_wp2_with (gi_at_builtin; refine wpListIn_append_own _ rfl _ _ 30 rfl w.heap.size 3 i0 (.int .i64 0) 1 8 Tryz.underlying30 hi hz0 hz1 hz2 rfl (by decide) _ _ _ rfl (hrow.alloc _) ⟨W.heap.size, 0, none⟩ 1 1 [.int .i64 (nthI x p - nthI y p)] rfl rfl (cell_one_new _ _ _) (by simp [Value.oneCell']) (by unfold maxLen; omega) (by omega) (by have := hB.size; simp; omega) ?_; intro v' w6 hown' hgrow _; obtain ⟨g', cap', rfl⟩ := ownsRow_succ hown'; obtain ⟨hv1, hv2, hr2, hk2, hb2⟩ := hv.appended (by decide) hrow hB.size (by omega) hown' hgrow; have hc1 := hv1.cell; have hf1 := hv1.frozen)
    have hvb2 : Boxed w6 (w2.heap.size + 1 + 1) 30 (.slice ab y.length cb) := (hvb.alloc _).kept hgrow (hvb.not_row (by decide) hrow)
    have hvb3 : Boxed (w6.setCell ⟨w2.heap.size, 0, none⟩ (.slice (some ⟨g', 0, none⟩) (pre.length + 1) cap')) (w2.heap.size + 1 + 1) 30 (.slice ab y.length cb) := (Below.heap_setCell w6 ⟨w2.heap.size, 0, none⟩ _ (w2.heap.size + 1 + 1) (by dsimp only; omega)).trans hvb2
    exact ⟨hk2.from _, ⟨hb2, hvb3.trans hvb.symm⟩, ⟨_, hv2, by simpa [i64s] using hr2, trivial⟩, hvb3, Below.trans hB hb2⟩
  case done =>
    rintro D ys W hD rfl ⟨⟨v, hv, hrow, _⟩, hvb, hB⟩ hK
    have hc := hv.cell
    rw [List.length_range] at hrow
    have hrow' : OwnI W w.heap.size v (diff x y) := by
      have e : (diff x y).length = x.length := by unfold diff; rw [List.length_map, List.length_range]
      show W.ownsRow _ _ 1 v (diff x y).length _
      rw [e]; exact hrow
    have hrc := rresult_c v (diff x y) W hrow'.sl (by unfold diff; rw [List.length_map, List.length_range]; omega) Hd.out
    have Hrc := Lib.hid hrc; clear hrc
    gi_wp2_with fail
    refine ⟨trivial, ?_⟩
    refine (callsIn_wide.2 Hrc.out).mono ?_
    rintro e w9 ⟨rfl, hx9⟩
    have hs9 := hx9.size
    have hs5 := HE5.out.size
    have hK9 := hx9.heap hK
    have hE9 : Ext w w9 := Ext.trans hB hx9
    have hrow9 := hx9.ownI hrow'
    gi_wp2
    refine ⟨by simp, .inl ⟨_, _, rfl, run_takeDeferred hK9, ?_⟩⟩
    refine ⟨_, results_tmp2 rfl _ _ _, v, rfl, ?_, ?_⟩
    · exact ownsRow_putObj hrow9 _ hK9 rfl
    · exact Below.trans hE9 (belowK_b (w := w) (Nat.le_refl _) w9 D _ _ (by omega) hK9 rfl rfl)
  case stop =>
    rintro D c pre W _ _ h _
    exact h.elim

end Go.Proofs.YtkamjjjimbbdmaaGreatDoor

namespace Go.Proofs.YtkamjjjimbbdmaaGreatDoor
open Go.RowKit Go.Lib

theorem two_new0 (w : World) (a b : Value) (t : TypeId) : (w.alloc (.cells #[a, b] t)).cell? ⟨w.heap.size, 0, none⟩ = some a := by
  have h := World.alloc_heap_new w (.cells #[a, b] t)
  unfold World.cell?; rw [h]; rfl
theorem two_new1 (w : World) (a b : Value) (t : TypeId) : (w.alloc (.cells #[a, b] t)).cell? ⟨w.heap.size, 1, none⟩ = some b := by
  have h := World.alloc_heap_new w (.cells #[a, b] t)
  unfold World.cell?; rw [h]; rfl
theorem three_new (w : World) (a b c : Value) (t : TypeId) : (w.alloc (.cells #[a, b, c] t)).cell? ⟨w.heap.size, 0, none⟩ = some a ∧ (w.alloc (.cells #[a, b, c] t)).cell? ⟨w.heap.size, 1, none⟩ = some b ∧ (w.alloc (.cells #[a, b, c] t)).cell? ⟨w.heap.size, 2, none⟩ = some c := by
  have h := World.alloc_heap_new w (.cells #[a, b, c] t)
  refine ⟨?_, ?_, ?_⟩ <;> (unfold World.cell?; rw [h]; rfl)

/-- Is there a prime in both? -/
def shares (x y : List Int) (k : Nat) : Bool := (List.range k).any fun i => decide (0 < nthI x i) && decide (0 < nthI y i)
theorem shares_succ (x y : List Int) (k : Nat) : shares x y (k + 1) = (shares x y k || (decide (0 < nthI x k) && decide (0 < nthI y k))) := by
  unfold shares; rw [List.range_succ, List.any_append]; simp
theorem shares_mono (x y : List Int) (k : Nat) (h : shares x y k = true) : ∀ j, shares x y (k + j) = true
  | 0 => h
  | j + 1 => by rw [← Nat.add_assoc, shares_succ, shares_mono x y k h j]; rfl

set_option maxRecDepth 100000 in
set_option maxHeartbeats 1000000 in
theorem apart_c (vx vy : Value) (n m : Int) (x y : List Int) (w : World) (hx : Sl w vx (i64s x)) (hy : Sl w vy (i64s y)) (hlen : x.length = y.length) (hl : x.length ≤ 1000000) :
    Calls Tryz.prog 42 #[.agg #[.int .i64 n, vx], .agg #[.int .i64 m, vy]] w fun e w' => e = .returned (.bool (!shares x y x.length)) ∧ Ext w w' := by
  obtain ⟨aa, ca, rfl, _, _, hcx⟩ := hx.parts
  obtain ⟨ab, cb, rfl, _, _, hcy⟩ := hy.parts
  rw [i64s_length] at *
  rw [i64s_length] at *
  have Hcx := Lib.hid hcx; clear hcx hx
  have Hcy := Lib.hid hcy; clear hcy hy
  have Hlen := Lib.hid hlen; clear hlen
  go_enter Tryz.func42, Tryz.ntmps42
  go_wp2
  have hE : Ext w ((w.alloc (.cells #[.int .i64 n, .slice aa x.length ca] 83)).alloc (.cells #[.int .i64 m, .slice ab y.length cb] 83)) := ((Ext.refl w).alloc _).alloc _
  have hc1 : ((w.alloc (.cells #[.int .i64 n, .slice aa x.length ca] 83)).alloc (.cells #[.int .i64 m, .slice ab y.length cb] 83)).cell? ⟨w.heap.size, 1, none⟩ = some (.slice aa x.length ca) :=
    ((Ext.refl _).alloc _).cell (two_new1 _ _ _ _)
  have hc2 : ((w.alloc (.cells #[.int .i64 n, .slice aa x.length ca] 83)).alloc (.cells #[.int .i64 m, .slice ab y.length cb] 83)).cell? ⟨w.heap.size + 1, 1, none⟩ = some (.slice ab y.length cb) := by
    have h := two_new1 (w.alloc (.cells #[.int .i64 n, .slice aa x.length ca] 83)) (.int .i64 m) (.slice ab y.length cb) 83
    rwa [World.size_alloc] at h
  generalize ((w.alloc (.cells #[.int .i64 n, .slice aa x.length ca] 83)).alloc (.cells #[.int .i64 m, .slice ab y.length cb] 83)) = W at *
  have HE := Lib.hid hE; clear hE
  go_loop [9] (fun i => ∃ k : Nat, k ≤ x.length ∧ i = .int .i64 k ∧ shares x y k = false) (fun i => x.length - (intOf i).toNat)
  case atStart => exact ⟨0, Nat.zero_le _, rfl, rfl⟩
  case round =>
    obtain ⟨k, hk, rfl, hs⟩ := hrel
    by_cases hlt : k < x.length
    · have hky : k < y.length := by rw [← Hlen.out]; exact hlt
      obtain ⟨bx, ox, rfl, hcx0⟩ := Hcx.out k _ (i64s_at hlt)
      obtain ⟨by_, oy, rfl, hcy0⟩ := Hcy.out k _ (i64s_at hky)
      have hcx := HE.out.cell hcx0
      have hcy := HE.out.cell hcy0
      have hup := shares_succ x y k
      rw [hs, Bool.false_or] at hup
      have Hs := Lib.hid hs; clear hs hcx0 hcy0
      by_cases g1 : 0 < nthI x k
      · by_cases g2 : 0 < nthI y k
        · rw [decide_eq_true g1, decide_eq_true g2] at hup
          have hall := shares_mono x y (k + 1) hup (x.length - (k + 1))
          rw [Nat.add_sub_cancel' (by omega)] at hall
          have Hall := Lib.hid hall; clear hall hup
          go_wp2
          go_ret
          exact ⟨by rw [Hall.out]; rfl, HE.out⟩
        · rw [decide_eq_true g1, decide_eq_false g2] at hup
          have Hup := Lib.hid hup; clear hup
          go_wp2
          go_round
          case rel => exact ⟨k + 1, by omega, by simp, Hup.out⟩
          case measure => simp [intOf]; omega
      · rw [decide_eq_false g1, Bool.false_and] at hup
        have Hup := Lib.hid hup; clear hup
        go_wp2
        go_round
        case rel => exact ⟨k + 1, by omega, by simp, Hup.out⟩
        case measure => simp [intOf]; omega
    · obtain rfl : k = x.length := by omega
      have Hs := Lib.hid hs; clear hs
      go_wp2
      go_ret
      exact ⟨by rw [Hs.out]; rfl, HE.out⟩


/-- The error of a question. -/
def askErr (p : List Int) (h : Int) (x : List Int) : Int := if oneErr p x ≠ 0 then oneErr p x else if h < 1 ∨ 5000 < h then 3 else if signP p x ≤ 0 then 3 else 0

set_option maxHeartbeats 1000000 in
theorem ask_c (vp vx : Value) (h : Int) (p x : List Int) (w : World) (he : Env w) (hp : Sl w vp (i64s p)) (hx : Sl w vx (i64s x)) (hlp : p.length ≤ 1000000) (hlx : x.length ≤ 1000000) :
    Calls Tryz.prog 33 #[.agg #[vp, .int .i64 h, vx]] w fun e w' => e = .returned (.int .i64 (askErr p h x)) ∧ Ext w w' := by
  have hc := fun W (hE : Ext w W) => msign_c vp vx p x W (he.ext hE) (hE.sl hp) (hE.sl hx) hlp hlx
  have Hc := Lib.hid hc; clear hc he
  obtain ⟨aa, ca, rfl, _, _, _⟩ := hp.parts
  obtain ⟨ab, cb, rfl, _, _, _⟩ := hx.parts
  clear hp hx
  rw [i64s_length] at *
  rw [i64s_length] at *
  have hbox := three_new w (.slice aa p.length ca) (.int .i64 h) (.slice ab x.length cb) 32
  have hE0 : Ext w (w.alloc (.cells #[.slice aa p.length ca, .int .i64 h, .slice ab x.length cb] 32)) := (Ext.refl w).alloc _
  have Hbox := Lib.hid hbox; clear hbox
  have HE0 := Lib.hid hE0; clear hE0
  unfold askErr
  generalize hE1 : oneErr p x = e1 at *
  generalize hE2 : signP p x = e2 at *
  clear hE1 hE2
  suffices hw : ∀ r, (e1 = 0 → h < 1 → r = 3) → (e1 = 0 → ¬ h < 1 → 5000 < h → r = 3) → (e1 = 0 → ¬ h < 1 → ¬ 5000 < h → e2 ≤ 0 → r = 3) → (e1 = 0 → ¬ h < 1 → ¬ 5000 < h → ¬ e2 ≤ 0 → r = 0) → (¬ e1 = 0 → r = e1) →
      Calls Tryz.prog 33 #[.agg #[.slice aa p.length ca, .int .i64 h, .slice ab x.length cb]] w fun e w' => e = .returned (.int .i64 r) ∧ Ext w w' by
    refine hw _ ?_ ?_ ?_ ?_ ?_ <;> intros <;> simp_all <;> omega
  intro r r1 r2 r3 r4 r5
  have R1 := Lib.hid r1; have R2 := Lib.hid r2; have R3 := Lib.hid r3; have R4 := Lib.hid r4; have R5 := Lib.hid r5
  clear r1 r2 r3 r4 r5
  go_enter Tryz.func33, Tryz.ntmps33
  go_wp2_with fail
  refine (Hc.out _ HE0.out).mono ?_
  rintro e w1 ⟨rfl, hx1⟩
  have hb1 := hx1.cell Hbox.out.2.1
  have Hx1 := Lib.hid (HE0.out.trans hx1); clear hx1
  by_cases h0 : e1 = 0
  · subst h0
    by_cases h1 : h < 1
    · obtain rfl := R1.out rfl h1
      go_wp2
      go_ret
      exact ⟨rfl, Hx1.out⟩
    · by_cases h2 : 5000 < h
      · obtain rfl := R2.out rfl (by omega) (by omega)
        go_wp2
        go_ret
        exact ⟨rfl, Hx1.out⟩
      · by_cases h3 : e2 ≤ 0
        · obtain rfl := R3.out rfl (by omega) (by omega) (by omega)
          go_wp2
          go_ret
          exact ⟨rfl, Hx1.out⟩
        · obtain rfl := R4.out rfl (by omega) (by omega) (by omega)
          go_wp2
          go_ret
          exact ⟨rfl, Hx1.out⟩
  · obtain rfl := R5.out h0
    have ht : (r != 0) = true := by rw [bne_iff_ne]; exact h0
    clear h0
    go_wp2
    go_ret
    exact ⟨rfl, Hx1.out⟩

set_option maxHeartbeats 400000 in
theorem byNumber_c (vx vy : Value) (n m : Int) (w : World) (h1 : 0 ≤ n) (h2 : n ≤ 1000000) (h3 : 0 ≤ m) (h4 : m ≤ 1000000) :
    Calls Tryz.prog 77 #[.agg #[.int .i64 n, vx], .agg #[.int .i64 m, vy]] w fun e w' => e = .returned (.int .i64 (n - m)) ∧ w' = (w.alloc (.cells #[.int .i64 n, vx] 83)).alloc (.cells #[.int .i64 m, vy] 83) := by
  have hc1 : ((w.alloc (.cells #[.int .i64 n, vx] 83)).alloc (.cells #[.int .i64 m, vy] 83)).cell? ⟨w.heap.size, 0, none⟩ = some (.int .i64 n) :=
    ((Ext.refl _).alloc _).cell (two_new0 _ _ _ _)
  have hc2 : ((w.alloc (.cells #[.int .i64 n, vx] 83)).alloc (.cells #[.int .i64 m, vy] 83)).cell? ⟨w.heap.size + 1, 0, none⟩ = some (.int .i64 m) := by
    have h := two_new0 (w.alloc (.cells #[.int .i64 n, vx] 83)) (.int .i64 m) vy 83
    rwa [World.size_alloc] at h
  go_enter Tryz.func77, Tryz.ntmps77
  go_wp2
  go_ret
  exact ⟨rfl, rfl⟩

end Go.Proofs.YtkamjjjimbbdmaaGreatDoor
