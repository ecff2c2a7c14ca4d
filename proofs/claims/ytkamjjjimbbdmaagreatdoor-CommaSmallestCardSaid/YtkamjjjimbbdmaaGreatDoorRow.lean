/- Walks: row's fits, Check, both, result. -/
import Derived.Test.YtkamjjjimbbdmaaGreatDoorMonzo
import Derived.Test.YtkamjjjimbbdmaaGreatDoorShelfA
namespace Go.Proofs.YtkamjjjimbbdmaaGreatDoor
open Go.RowKit Go.Lib

def fitsI (n : Int) : Bool := decide (-1000000000 ≤ n ∧ n ≤ 1000000000)

set_option maxHeartbeats 400000 in
theorem fits_c (n : Int) (w : World) : Calls Tryz.prog 151 #[.int .i64 n] w fun e w' => e = .returned (.bool (fitsI n)) ∧ w = w' := by
  unfold fitsI
  by_cases h1 : -1000000000 ≤ n
  · by_cases h2 : n ≤ 1000000000
    · rw [decide_eq_true ⟨h1, h2⟩]
      go_enter Tryz.func151, Tryz.ntmps151
      go_wp2
      go_ret
      exact ⟨rfl, rfl⟩
    · rw [decide_eq_false (fun h => h2 h.2)]
      have hd : decide (n ≤ 1000000000) = false := decide_eq_false h2
      go_enter Tryz.func151, Tryz.ntmps151
      go_wp2
      go_ret
      exact ⟨rfl, rfl⟩
  · rw [decide_eq_false (fun h => h1 h.1)]
    have hd : decide (-1000000000 ≤ n) = false := decide_eq_false h1
    go_enter Tryz.func151, Tryz.ntmps151
    go_wp2
    go_ret
    exact ⟨rfl, rfl⟩

set_option maxHeartbeats 400000 in
theorem notFits_c (n : Int) (w : World) : Calls Tryz.prog 150 #[.int .i64 n] w fun e w' => e = .returned (.bool (!fitsI n)) ∧ ∃ q, w' = w.drewN q := by
  have hf := fits_c n w
  have Hf := Lib.hid hf; clear hf
  generalize fitsI n = b at *
  go_enter Tryz.func150, Tryz.ntmps150
  go_wp2_with fail
  refine Hf.out.mono ?_
  rintro e w1 ⟨rfl, rfl⟩
  go_wp2
  go_ret
  exact ⟨rfl, 0, rfl⟩

theorem notFits_pred (w : World) : Go.Proofs.PredAt Tryz.prog 150 #[] (Value.int .i64) (fun n => !fitsI n) w := fun W x _ => notFits_c x W
theorem notFits_enters : ∀ args w, (callFunc 150 args).run Tryz.prog w = .ok (.enter 150 args) w := enters_of Tryz.func150 (by kernel_rfl) rfl

/-- The error of a row. -/
def rowChk (x : List Int) : Int := if 64 < x.length ∨ x.any (fun n => !fitsI n) = true then 4 else 0

theorem contains_c (a : Option Addr) (cap : Nat) (x : List Int) (w : World) (hl : x.length ≤ 1000000)
    (hc : ∀ i u, (i64s x)[i]? = some u → ∃ b off, a = some ⟨b, off, none⟩ ∧ w.cell? ⟨b, off + i, none⟩ = some u) :
    Calls Tryz.prog 63 #[.slice a x.length cap, .func (.func 150) #[] #[]] w fun e w' => e = .returned (.bool (x.any fun n => !fitsI n)) ∧ Ext w w' := by
  cases x with
  | nil => exact (AnyE.slices_ContainsFunc_empty Tryz.lContainsR a cap _ w).mono fun e w' ⟨h, hw⟩ => ⟨h, by rw [hw]; exact Ext.refl _⟩
  | cons z r =>
    obtain ⟨b, off, rfl, _⟩ := hc 0 _ (i64s_at (l := z :: r) (by simp))
    have h := AnyE.slices_ContainsFunc Tryz.lContainsR (Value.int .i64) (fun n => !fitsI n) 150 #[] notFits_enters b off (z :: r).length cap (z :: r) w (notFits_pred w) (Nat.le_refl _) (by omega) (fun j hj => by
      obtain ⟨b2, off2, e2, hcell⟩ := hc j _ (i64s_at hj)
      simp only [Option.some.injEq, Addr.mk.injEq, and_true] at e2
      obtain ⟨rfl, rfl⟩ := e2
      rw [hcell]
      unfold nthI
      rw [List.getD_eq_getElem?_getD, List.getElem?_eq_getElem hj, getElem!_pos _ j hj]
      rfl)
    rw [List.take_length] at h
    exact h.mono fun e w' ⟨he, q, hw⟩ => ⟨he, by rw [hw]; exact (Ext.refl w).drewN q⟩

set_option maxHeartbeats 400000 in
theorem rcheck_c (v : Value) (x : List Int) (w : World) (hv : Sl w v (i64s x)) (hl : x.length ≤ 1000000) :
    Calls Tryz.prog 105 #[v] w fun e w' => e = .returned (.int .i64 (rowChk x)) ∧ Ext w w' := by
  obtain ⟨a, cap, rfl, _, _, hc⟩ := hv.parts
  rw [i64s_length]
  have hcon := contains_c a cap x w hl hc
  clear hc hv
  unfold rowChk
  by_cases h64 : 64 < x.length
  · rw [if_pos (.inl h64)]
    clear hcon
    go_enter Tryz.func105, Tryz.ntmps105
    go_wp2
    go_ret
    exact ⟨rfl, Ext.refl _⟩
  · by_cases hb : x.any (fun n => !fitsI n) = true
    · rw [if_pos (.inr hb)]
      rw [hb] at hcon
      have Hcon := Lib.hid hcon; clear hcon hb
      go_enter Tryz.func105, Tryz.ntmps105
      go_wp2_with fail
      refine Hcon.out.mono ?_
      rintro e w1 ⟨rfl, hx1⟩
      have Hx1 := Lib.hid hx1; clear hx1
      go_wp2
      go_ret
      exact ⟨rfl, Hx1.out⟩
    · rw [if_neg (fun h => h.elim h64 hb)]
      rw [show x.any (fun n => !fitsI n) = false by simpa using hb] at hcon
      have Hcon := Lib.hid hcon; clear hcon hb
      go_enter Tryz.func105, Tryz.ntmps105
      go_wp2_with fail
      refine Hcon.out.mono ?_
      rintro e w1 ⟨rfl, hx1⟩
      have Hx1 := Lib.hid hx1; clear hx1
      go_wp2
      go_ret
      exact ⟨rfl, Hx1.out⟩

/-- The error of two rows. -/
def bothErr (x y : List Int) : Int := if rowChk x ≠ 0 then rowChk x else if rowChk y ≠ 0 then rowChk y else if x.length ≠ y.length then 5 else 0

set_option maxHeartbeats 800000 in
theorem rboth_c (v u : Value) (x y : List Int) (w : World) (hv : Sl w v (i64s x)) (hu : Sl w u (i64s y)) (hlx : x.length ≤ 1000000) (hly : y.length ≤ 1000000) :
    Calls Tryz.prog 82 #[v, u] w fun e w' => e = .returned (.int .i64 (bothErr x y)) ∧ Ext w w' := by
  have h1 := rcheck_c v x w hv hlx
  have H1 := Lib.hid h1; clear h1
  have h2 : ∀ w', Ext w w' → Calls Tryz.prog 105 #[u] w' fun e w'' => e = .returned (.int .i64 (rowChk y)) ∧ Ext w' w'' := fun w' hx => rcheck_c u y w' (hx.sl hu) hly
  have H2 := Lib.hid h2; clear h2
  obtain ⟨a, cap, rfl, _, _, _⟩ := hv.parts
  obtain ⟨b, cap', rfl, _, _, _⟩ := hu.parts
  rw [i64s_length] at *
  rw [i64s_length] at *
  clear hv hu
  unfold bothErr
  generalize rowChk x = r at *
  generalize rowChk y = s at *
  by_cases hr : r = 0
  · subst hr
    rw [if_neg (by simp)]
    by_cases hs : s = 0
    · subst hs
      rw [if_neg (by simp)]
      by_cases hl : x.length = y.length
      · rw [if_neg (by simpa using hl)]
        have ht : ((x.length : Int) != (y.length : Int)) = false := by rw [bne_eq_false_iff_eq]; omega
        clear hl
        go_enter Tryz.func82, Tryz.ntmps82
        go_wp2_with fail
        refine H1.out.mono ?_
        rintro e w1 ⟨rfl, hx1⟩
        have Hx1 := Lib.hid hx1; clear hx1
        go_wp2_with fail
        refine (H2.out w1 Hx1.out).mono ?_
        rintro e w2 ⟨rfl, hx2⟩
        have Hx2 := Lib.hid hx2; clear hx2
        go_wp2
        go_ret
        exact ⟨rfl, Hx1.out.trans Hx2.out⟩
      · rw [if_pos hl]
        have ht : ((x.length : Int) != (y.length : Int)) = true := by rw [bne_iff_ne]; omega
        clear hl
        go_enter Tryz.func82, Tryz.ntmps82
        go_wp2_with fail
        refine H1.out.mono ?_
        rintro e w1 ⟨rfl, hx1⟩
        have Hx1 := Lib.hid hx1; clear hx1
        go_wp2_with fail
        refine (H2.out w1 Hx1.out).mono ?_
        rintro e w2 ⟨rfl, hx2⟩
        have Hx2 := Lib.hid hx2; clear hx2
        go_wp2
        go_ret
        exact ⟨rfl, Hx1.out.trans Hx2.out⟩
    · rw [if_pos hs]
      have ht : (s != 0) = true := by rw [bne_iff_ne]; exact hs
      clear hs
      go_enter Tryz.func82, Tryz.ntmps82
      go_wp2_with fail
      refine H1.out.mono ?_
      rintro e w1 ⟨rfl, hx1⟩
      have Hx1 := Lib.hid hx1; clear hx1
      go_wp2_with fail
      refine (H2.out w1 Hx1.out).mono ?_
      rintro e w2 ⟨rfl, hx2⟩
      have Hx2 := Lib.hid hx2; clear hx2
      go_wp2
      go_ret
      exact ⟨rfl, Hx1.out.trans Hx2.out⟩
  · rw [if_pos hr]
    have ht : (r != 0) = true := by rw [bne_iff_ne]; exact hr
    clear hr
    go_enter Tryz.func82, Tryz.ntmps82
    go_wp2_with fail
    refine H1.out.mono ?_
    rintro e w1 ⟨rfl, hx1⟩
    have Hx1 := Lib.hid hx1; clear hx1
    go_wp2
    go_ret
    exact ⟨rfl, Hx1.out⟩

set_option maxHeartbeats 400000 in
theorem rresult_c (v : Value) (x : List Int) (w : World) (hv : Sl w v (i64s x)) (hl : x.length ≤ 1000000) (h0 : rowChk x = 0) :
    Calls Tryz.prog 84 #[v] w fun e w' => e = .returned (.tuple #[v, .int .i64 0]) ∧ Ext w w' := by
  have h1 := rcheck_c v x w hv hl
  rw [h0] at h1
  have H1 := Lib.hid h1; clear h1 h0
  go_enter Tryz.func84, Tryz.ntmps84
  go_wp2_with fail
  refine H1.out.mono ?_
  rintro e w1 ⟨rfl, hx1⟩
  have Hx1 := Lib.hid hx1; clear hx1
  go_wp2
  go_ret2
  exact ⟨rfl, Hx1.out⟩

end Go.Proofs.YtkamjjjimbbdmaaGreatDoor
