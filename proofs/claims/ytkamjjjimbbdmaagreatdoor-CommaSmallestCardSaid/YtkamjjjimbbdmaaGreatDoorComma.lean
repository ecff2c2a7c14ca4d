/- Walks: comma.Check, apart, numbers$1. -/
import Derived.Test.YtkamjjjimbbdmaaGreatDoorSub
import Derived.Test.YtkamjjjimbbdmaaGreatDoorSides
namespace Go.Proofs.YtkamjjjimbbdmaaGreatDoor
open Go.RowKit Go.Lib

theorem two_new0 (w : World) (a b : Value) (t : TypeId) : (w.alloc (.cells #[a, b] t)).cell? ⟨w.heap.size, 0, none⟩ = some a := by
  have h := World.alloc_heap_new w (.cells #[a, b] t)
  unfold World.cell?; rw [h]; rfl
theorem two_new1 (w : World) (a b : Value) (t : TypeId) : (w.alloc (.cells #[a, b] t)).cell? ⟨w.heap.size, 1, none⟩ = some b := by
  have h := World.alloc_heap_new w (.cells #[a, b] t)
  unfold World.cell?; rw [h]; rfl
theorem three_new (w : World) (a b c : Value) (t : TypeId) : (w.alloc (.cells #[a, b, c] t)).cell? ⟨w.heap.size, 0, none⟩ = some a ∧ (w.alloc (.cells #[a, b, c] t)).cell? ⟨w.heap.size, 1, none⟩ = some b ∧ (w.alloc (.cells #[a, b, c] t)).cell? ⟨w.heap.size, 2, none⟩ = some c := by
  have h := World.alloc_heap_new w (.cells #[a, b, c] t)
  refine ⟨?_, ?_, ?_⟩ <;> (unfold World.cell?; rw [h]; rfl)

/-- Is there a prime in both? -/
def shares (x y : List Int) (k : Nat) : Bool := (List.range k).any fun i => decide (0 < nthI x i) && decide (0 < nthI y i)
theorem shares_succ (x y : List Int) (k : Nat) : shares x y (k + 1) = (shares x y k || (decide (0 < nthI x k) && decide (0 < nthI y k))) := by
  unfold shares; rw [List.range_succ, List.any_append]; simp
theorem shares_mono (x y : List Int) (k : Nat) (h : shares x y k = true) : ∀ j, shares x y (k + j) = true
  | 0 => h
  | j + 1 => by rw [← Nat.add_assoc, shares_succ, shares_mono x y k h j]; rfl

set_option maxRecDepth 100000 in
set_option maxHeartbeats 1000000 in
theorem apart_c (vx vy : Value) (n m : Int) (x y : List Int) (w : World) (hx : Sl w vx (i64s x)) (hy : Sl w vy (i64s y)) (hlen : x.length = y.length) (hl : x.length ≤ 1000000) :
    Calls Tryz.prog 42 #[.agg #[.int .i64 n, vx], .agg #[.int .i64 m, vy]] w fun e w' => e = .returned (.bool (!shares x y x.length)) ∧ Ext w w' := by
  obtain ⟨aa, ca, rfl, _, _, hcx⟩ := hx.parts
  obtain ⟨ab, cb, rfl, _, _, hcy⟩ := hy.parts
  rw [i64s_length] at *
  rw [i64s_length] at *
  have Hcx := Lib.hid hcx; clear hcx hx
  have Hcy := Lib.hid hcy; clear hcy hy
  have Hlen := Lib.hid hlen; clear hlen
  go_enter Tryz.func42, Tryz.ntmps42
  go_wp2
  have hE : Ext w ((w.alloc (.cells #[.int .i64 n, .slice aa x.length ca] 83)).alloc (.cells #[.int .i64 m, .slice ab y.length cb] 83)) := ((Ext.refl w).alloc _).alloc _
  have hc1 : ((w.alloc (.cells #[.int .i64 n, .slice aa x.length ca] 83)).alloc (.cells #[.int .i64 m, .slice ab y.length cb] 83)).cell? ⟨w.heap.size, 1, none⟩ = some (.slice aa x.length ca) :=
    ((Ext.refl _).alloc _).cell (two_new1 _ _ _ _)
  have hc2 : ((w.alloc (.cells #[.int .i64 n, .slice aa x.length ca] 83)).alloc (.cells #[.int .i64 m, .slice ab y.length cb] 83)).cell? ⟨w.heap.size + 1, 1, none⟩ = some (.slice ab y.length cb) := by
    have h := two_new1 (w.alloc (.cells #[.int .i64 n, .slice aa x.length ca] 83)) (.int .i64 m) (.slice ab y.length cb) 83
    rwa [World.size_alloc] at h
  generalize ((w.alloc (.cells #[.int .i64 n, .slice aa x.length ca] 83)).alloc (.cells #[.int .i64 m, .slice ab y.length cb] 83)) = W at *
  have HE := Lib.hid hE; clear hE
  go_loop [9] (fun i => ∃ k : Nat, k ≤ x.length ∧ i = .int .i64 k ∧ shares x y k = false) (fun i => x.length - (intOf i).toNat)
  case atStart => exact ⟨0, Nat.zero_le _, rfl, rfl⟩
  case round =>
    obtain ⟨k, hk, rfl, hs⟩ := hrel
    by_cases hlt : k < x.length
    · have hky : k < y.length := by rw [← Hlen.out]; exact hlt
      obtain ⟨bx, ox, rfl, hcx0⟩ := Hcx.out k _ (i64s_at hlt)
      obtain ⟨by_, oy, rfl, hcy0⟩ := Hcy.out k _ (i64s_at hky)
      have hcx := HE.out.cell hcx0
      have hcy := HE.out.cell hcy0
      have hup := shares_succ x y k
      rw [hs, Bool.false_or] at hup
      have Hs := Lib.hid hs; clear hs hcx0 hcy0
      by_cases g1 : 0 < nthI x k
      · by_cases g2 : 0 < nthI y k
        · rw [decide_eq_true g1, decide_eq_true g2] at hup
          have hall := shares_mono x y (k + 1) hup (x.length - (k + 1))
          rw [Nat.add_sub_cancel' (by omega)] at hall
          have Hall := Lib.hid hall; clear hall hup
          go_wp2
          go_ret
          exact ⟨by rw [Hall.out]; rfl, HE.out⟩
        · rw [decide_eq_true g1, decide_eq_false g2] at hup
          have Hup := Lib.hid hup; clear hup
          go_wp2
          go_round
          case rel => exact ⟨k + 1, by omega, by simp, Hup.out⟩
          case measure => simp [intOf]; omega
      · rw [decide_eq_false g1, Bool.false_and] at hup
        have Hup := Lib.hid hup; clear hup
        go_wp2
        go_round
        case rel => exact ⟨k + 1, by omega, by simp, Hup.out⟩
        case measure => simp [intOf]; omega
    · obtain rfl : k = x.length := by omega
      have Hs := Lib.hid hs; clear hs
      go_wp2
      go_ret
      exact ⟨by rw [Hs.out]; rfl, HE.out⟩


/-- The error of a question. -/
def askErr (p : List Int) (h : Int) (x : List Int) : Int := if oneErr p x ≠ 0 then oneErr p x else if h < 1 ∨ 5000 < h then 3 else if signP p x ≤ 0 then 3 else 0

set_option maxHeartbeats 1000000 in
theorem ask_c (vp vx : Value) (h : Int) (p x : List Int) (w : World) (he : Env w) (hp : Sl w vp (i64s p)) (hx : Sl w vx (i64s x)) (hlp : p.length ≤ 1000000) (hlx : x.length ≤ 1000000) :
    Calls Tryz.prog 33 #[.agg #[vp, .int .i64 h, vx]] w fun e w' => e = .returned (.int .i64 (askErr p h x)) ∧ Ext w w' := by
  have hc := fun W (hE : Ext w W) => msign_c vp vx p x W (he.ext hE) (hE.sl hp) (hE.sl hx) hlp hlx
  have Hc := Lib.hid hc; clear hc he
  obtain ⟨aa, ca, rfl, _, _, _⟩ := hp.parts
  obtain ⟨ab, cb, rfl, _, _, _⟩ := hx.parts
  clear hp hx
  rw [i64s_length] at *
  rw [i64s_length] at *
  have hbox := three_new w (.slice aa p.length ca) (.int .i64 h) (.slice ab x.length cb) 32
  have hE0 : Ext w (w.alloc (.cells #[.slice aa p.length ca, .int .i64 h, .slice ab x.length cb] 32)) := (Ext.refl w).alloc _
  have Hbox := Lib.hid hbox; clear hbox
  have HE0 := Lib.hid hE0; clear hE0
  unfold askErr
  generalize hE1 : oneErr p x = e1 at *
  generalize hE2 : signP p x = e2 at *
  clear hE1 hE2
  suffices hw : ∀ r, (e1 = 0 → h < 1 → r = 3) → (e1 = 0 → ¬ h < 1 → 5000 < h → r = 3) → (e1 = 0 → ¬ h < 1 → ¬ 5000 < h → e2 ≤ 0 → r = 3) → (e1 = 0 → ¬ h < 1 → ¬ 5000 < h → ¬ e2 ≤ 0 → r = 0) → (¬ e1 = 0 → r = e1) →
      Calls Tryz.prog 33 #[.agg #[.slice aa p.length ca, .int .i64 h, .slice ab x.length cb]] w fun e w' => e = .returned (.int .i64 r) ∧ Ext w w' by
    refine hw _ ?_ ?_ ?_ ?_ ?_ <;> intros <;> simp_all <;> omega
  intro r r1 r2 r3 r4 r5
  have R1 := Lib.hid r1; have R2 := Lib.hid r2; have R3 := Lib.hid r3; have R4 := Lib.hid r4; have R5 := Lib.hid r5
  clear r1 r2 r3 r4 r5
  go_enter Tryz.func33, Tryz.ntmps33
  go_wp2_with fail
  refine (Hc.out _ HE0.out).mono ?_
  rintro e w1 ⟨rfl, hx1⟩
  have hb1 := hx1.cell Hbox.out.2.1
  have Hx1 := Lib.hid (HE0.out.trans hx1); clear hx1
  by_cases h0 : e1 = 0
  · subst h0
    by_cases h1 : h < 1
    · obtain rfl := R1.out rfl h1
      go_wp2
      go_ret
      exact ⟨rfl, Hx1.out⟩
    · by_cases h2 : 5000 < h
      · obtain rfl := R2.out rfl (by omega) (by omega)
        go_wp2
        go_ret
        exact ⟨rfl, Hx1.out⟩
      · by_cases h3 : e2 ≤ 0
        · obtain rfl := R3.out rfl (by omega) (by omega) (by omega)
          go_wp2
          go_ret
          exact ⟨rfl, Hx1.out⟩
        · obtain rfl := R4.out rfl (by omega) (by omega) (by omega)
          go_wp2
          go_ret
          exact ⟨rfl, Hx1.out⟩
  · obtain rfl := R5.out h0
    have ht : (r != 0) = true := by rw [bne_iff_ne]; exact h0
    clear h0
    go_wp2
    go_ret
    exact ⟨rfl, Hx1.out⟩

set_option maxHeartbeats 400000 in
theorem byNumber_c (vx vy : Value) (n m : Int) (w : World) (h1 : 0 ≤ n) (h2 : n ≤ 1000000) (h3 : 0 ≤ m) (h4 : m ≤ 1000000) :
    Calls Tryz.prog 77 #[.agg #[.int .i64 n, vx], .agg #[.int .i64 m, vy]] w fun e w' => e = .returned (.int .i64 (n - m)) ∧ w' = (w.alloc (.cells #[.int .i64 n, vx] 83)).alloc (.cells #[.int .i64 m, vy] 83) := by
  have hc1 : ((w.alloc (.cells #[.int .i64 n, vx] 83)).alloc (.cells #[.int .i64 m, vy] 83)).cell? ⟨w.heap.size, 0, none⟩ = some (.int .i64 n) :=
    ((Ext.refl _).alloc _).cell (two_new0 _ _ _ _)
  have hc2 : ((w.alloc (.cells #[.int .i64 n, vx] 83)).alloc (.cells #[.int .i64 m, vy] 83)).cell? ⟨w.heap.size + 1, 0, none⟩ = some (.int .i64 m) := by
    have h := two_new0 (w.alloc (.cells #[.int .i64 n, vx] 83)) (.int .i64 m) vy 83
    rwa [World.size_alloc] at h
  go_enter Tryz.func77, Tryz.ntmps77
  go_wp2
  go_ret
  exact ⟨rfl, rfl⟩

end Go.Proofs.YtkamjjjimbbdmaaGreatDoor
