/- Walks: monzo's CheckAll and Check. -/
import Derived.Test.YtkamjjjimbbdmaaGreatDoorPrime
namespace Go.Proofs.YtkamjjjimbbdmaaGreatDoor
open Go.RowKit Go.Lib

/-- A slice of rows reads as a list of rows. -/
def Mat (w : World) (v : Value) (l : List (List Int)) : Prop :=
  ∃ vs : List Value, vs.length = l.length ∧ Sl w v vs ∧ ∀ i u, vs[i]? = some u → Sl w u (i64s (l.getD i []))
theorem Ext.mat {w w' : World} (h : Ext w w') {v : Value} {l : List (List Int)} (hm : Mat w v l) : Mat w' v l := by
  obtain ⟨vs, h1, h2, h3⟩ := hm
  exact ⟨vs, h1, h.sl h2, fun i u hu => h.sl (h3 i u hu)⟩

/-- Is an exponent too great? -/
def far (z : Int) : Bool := decide (1000 < z) || decide (z < -1000)
def rowErr (n : Nat) (x : List Int) : Int := if x.length ≠ n then 5 else if x.any far then 4 else 0
def rowsErr (n : Nat) : List (List Int) → Int
  | [] => 0
  | x :: r => if rowErr n x ≠ 0 then rowErr n x else rowsErr n r
/-- The first error of primes with rows. -/
def allErr (p : List Int) (l : List (List Int)) : Int := if primesErr p ≠ 0 then primesErr p else rowsErr p.length l

theorem far_yes1 {z : Int} (h : 1000 < z) : far z = true := by unfold far; rw [decide_eq_true h]; rfl
theorem far_yes2 {z : Int} (h : z < -1000) : far z = true := by unfold far; rw [decide_eq_true h]; simp
theorem far_no {z : Int} (h1 : ¬ 1000 < z) (h2 : ¬ z < -1000) : far z = false := by unfold far; rw [decide_eq_false h1, decide_eq_false h2]; rfl
theorem any_far_at {x : List Int} {k : Nat} (hk : k < x.length) (h : far (nthI x k) = true) : x.any far = true :=
  List.any_eq_true.2 ⟨_, nthI_mem hk, h⟩
theorem any_far_no {x : List Int} (h : ∀ k, k < x.length → far (nthI x k) = false) : x.any far = false := by
  rw [List.any_eq_false]
  intro z hz
  obtain ⟨k, hk, rfl⟩ := List.getElem_of_mem hz
  have := h k hk
  unfold nthI at this
  rw [List.getD_eq_getElem?_getD, List.getElem?_eq_getElem hk] at this
  simpa using this
theorem rowsErr_drop {n : Nat} {l : List (List Int)} {k : Nat} (hk : k < l.length) : rowsErr n (l.drop k) = if rowErr n (l.getD k []) ≠ 0 then rowErr n (l.getD k []) else rowsErr n (l.drop (k + 1)) := by
  rw [List.drop_eq_getElem_cons hk, rowsErr]
  rw [List.getD_eq_getElem?_getD, List.getElem?_eq_getElem hk]
  rfl

set_option maxRecDepth 100000 in
set_option maxHeartbeats 1000000 in
theorem checkAll_c (vp vl : Value) (p : List Int) (l : List (List Int)) (w : World) (hp : Sl w vp (i64s p)) (hl : Mat w vl l) (hlp : p.length ≤ 1000000) (hll : l.length ≤ 1000000) (hrow : ∀ i, (l.getD i []).length ≤ 1000000) :
    Calls Tryz.prog 24 #[vp, vl] w fun e w' => e = .returned (.int .i64 (allErr p l)) ∧ w = w' := by
  have hpc := primes_c vp p w hp hlp
  obtain ⟨ap, cp, rfl, _, _, _⟩ := hp.parts
  rw [i64s_length] at *
  have Hpc := Lib.hid hpc; clear hpc
  obtain ⟨vs, hvs, hsl, hrows⟩ := hl
  obtain ⟨a, cap, rfl, _, _, hc⟩ := hsl.parts
  rw [hvs]
  have Hc := Lib.hid hc; clear hc hsl
  have Hrows := Lib.hid hrows; clear hrows
  have Hvs := Lib.hid hvs; clear hvs
  have Hrow := Lib.hid hrow; clear hrow
  unfold allErr
  generalize hpe : primesErr p = pe at *
  have Hpe := Lib.hid hpe; clear hpe
  by_cases hp0 : pe = 0
  · subst hp0
    rw [if_neg (by simp)]
    obtain ⟨r, hr⟩ : ∃ r, r = rowsErr p.length l := ⟨_, rfl⟩
    rw [← hr]
    have Hr := Lib.hid hr; clear hr
    go_enter Tryz.func24, Tryz.ntmps24
    go_wp2_with fail
    refine Hpc.out.mono ?_
    rintro e w1 ⟨rfl, rfl⟩
    go_wp2
    go_loop [17] (fun i => ∃ k : Nat, i = .int .i64 k ∧ k ≤ l.length ∧ r = rowsErr p.length (l.drop k)) (fun i => l.length - (intOf i).toNat)
    case atStart => exact ⟨0, rfl, Nat.zero_le _, by rw [List.drop_zero]; exact Hr.out⟩
    case round =>
      obtain ⟨k, rfl, hk, hr⟩ := hrel
      by_cases hlt : k < l.length
      · obtain ⟨u, hu⟩ : ∃ u, vs[k]? = some u := ⟨_, List.getElem?_eq_getElem (by rw [Hvs.out]; exact hlt)⟩
        obtain ⟨b, off, rfl, hcell⟩ := Hc.out k u hu
        have hrk := Hrows.out k u hu
        have hxl := Hrow.out k
        rw [rowsErr_drop hlt] at hr
        generalize hx : l.getD k [] = x at *
        have Hx := Lib.hid hx; clear hx hu
        obtain ⟨ax, cx, rfl, _, _, hcx⟩ := hrk.parts
        rw [i64s_length] at hcell
        have Hcx := Lib.hid hcx; clear hcx hrk
        by_cases hne : x.length = p.length
        · have ht : ((x.length : Int) != (p.length : Int)) = false := by rw [bne_eq_false_iff_eq]; omega
          have hre : rowErr p.length x = if x.any far then 4 else 0 := by unfold rowErr; rw [if_neg (by simpa using hne)]
          rw [hre] at hr
          have Hr2 := Lib.hid hr; clear hr hre hne
          go_wp2
          go_loop [28] (fun i => ∃ j : Nat, i = .int .i64 j ∧ j ≤ x.length ∧ ∀ t, t < j → far (nthI x t) = false) (fun i => x.length - (intOf i).toNat)
          case atStart => exact ⟨0, rfl, Nat.zero_le _, fun t ht => by omega⟩
          case round =>
            obtain ⟨j, rfl, hj, hfar⟩ := hrel
            have Hfar := Lib.hid hfar; clear hfar
            by_cases hjl : j < x.length
            · obtain ⟨b2, off2, rfl, hcell2⟩ := Hcx.out j _ (i64s_at hjl)
              have h3 : (1000 < nthI x j) ∨ (¬ 1000 < nthI x j ∧ nthI x j < -1000) ∨ (¬ 1000 < nthI x j ∧ ¬ nthI x j < -1000) := by omega
              rcases h3 with g | ⟨g, g2⟩ | ⟨g, g2⟩
              · have hr4 : r = 4 := by rw [Hr2.out, if_pos (any_far_at hjl (far_yes1 g)), if_pos (by simp)]
                have Hr4 := Lib.hid hr4; clear hr4
                generalize nthI x j = z at *
                go_wp2
                go_ret
                exact ⟨ret_int Hr4.out.symm, rfl⟩
              · have hr4 : r = 4 := by rw [Hr2.out, if_pos (any_far_at hjl (far_yes2 g2)), if_pos (by simp)]
                have Hr4 := Lib.hid hr4; clear hr4
                generalize nthI x j = z at *
                go_wp2
                go_ret
                exact ⟨ret_int Hr4.out.symm, rfl⟩
              · have hfj := far_no g g2
                have Hfj := Lib.hid hfj; clear hfj
                generalize hz : nthI x j = z at *
                have Hz := Lib.hid hz; clear hz
                go_wp2
                go_round
                case rel => exact ⟨j + 1, by go_num, by omega, fun t h4 => by
                  rcases Nat.lt_or_ge t j with g3 | g3
                  · exact Hfar.out t g3
                  · rw [show t = j by omega, Hz.out]; exact Hfj.out⟩
                case measure => simp [intOf]; omega
            · have hall : x.any far = false := any_far_no fun t ht => Hfar.out t (by omega)
              have hr5 : r = rowsErr p.length (l.drop (k + 1)) := by
                have := Hr2.out
                rw [hall] at this
                rw [this]; simp
              have Hr5 := Lib.hid hr5; clear hr5 hall
              go_wp2
              go_round
              case rel => exact ⟨k + 1, by go_num, by omega, Hr5.out⟩
              case measure => simp [intOf]; omega
        · have ht : ((x.length : Int) != (p.length : Int)) = true := by rw [bne_iff_ne]; omega
          have hr5 : r = 5 := by
            rw [hr]
            unfold rowErr
            rw [if_pos hne, if_pos (by simp)]
          have Hr5 := Lib.hid hr5; clear hr5 hr hne
          go_wp2
          go_ret
          exact ⟨ret_int Hr5.out.symm, rfl⟩
      · have hr0 : r = 0 := by rw [hr, List.drop_eq_nil_of_le (by omega)]; rfl
        have Hr0 := Lib.hid hr0; clear hr0 hr
        go_wp2
        go_ret
        exact ⟨ret_int Hr0.out.symm, rfl⟩
  · rw [if_pos hp0]
    have ht : (pe != 0) = true := by rw [bne_iff_ne]; exact hp0
    clear hp0
    go_enter Tryz.func24, Tryz.ntmps24
    go_wp2_with fail
    refine Hpc.out.mono ?_
    rintro e w1 ⟨rfl, rfl⟩
    go_wp2
    go_ret
    exact ⟨rfl, rfl⟩

/-- The error of primes with one row. -/
def oneErr (p x : List Int) : Int := allErr p [x]

set_option maxHeartbeats 400000 in
theorem check_c (vp vx : Value) (p x : List Int) (w : World) (hp : Sl w vp (i64s p)) (hx : Sl w vx (i64s x)) (hlp : p.length ≤ 1000000) (hlx : x.length ≤ 1000000) :
    Calls Tryz.prog 55 #[vp, vx] w fun e w' => e = .returned (.int .i64 (oneErr p x)) ∧ Ext w w' := by
  have hext : Ext w (w.alloc (.cells #[vx] 30)) := (Ext.refl w).alloc _
  have hm : Mat (w.alloc (.cells #[vx] 30)) (.slice (some ⟨w.heap.size, 0, none⟩) 1 1) [x] := by
    refine ⟨[vx], rfl, .inr ⟨w.heap.size, 0, 1, rfl, Nat.le_refl _, by unfold maxLen; omega, ?_⟩, ?_⟩
    · intro i u hu
      cases i with
      | zero => simp at hu; subst hu; rw [World.cell?_alloc_new]; rfl
      | succ i => simp at hu
    · intro i u hu
      cases i with
      | zero => simp at hu; subst hu; exact hext.sl hx
      | succ i => simp at hu
  have hc := checkAll_c vp (.slice (some ⟨w.heap.size, 0, none⟩) 1 1) p [x] _ (hext.sl hp) hm hlp (by simp) (fun i => by cases i <;> simp [hlx])
  have Hc := Lib.hid hc; clear hc hm
  have Hext := Lib.hid hext; clear hext
  obtain ⟨ap, cp, rfl, _, _, _⟩ := hp.parts
  obtain ⟨ax, cx, rfl, _, _, _⟩ := hx.parts
  clear hp hx
  go_enter Tryz.func55, Tryz.ntmps55
  go_wp2_with fail
  refine Hc.out.mono ?_
  rintro e w1 ⟨rfl, rfl⟩
  go_wp2
  go_ret
  exact ⟨rfl, Hext.out⟩

end Go.Proofs.YtkamjjjimbbdmaaGreatDoor
