/- The order of rows: slices.Compare, slices.Equal, the sort of rows. -/
import Derived.Test.YtkamjjjimbbdmaaGreatDoorRevs
import Derived.Shelf.SlSortCmp.Whole1
import Derived.Shelf.SlSortCmp.NoneTotal
import Derived.Shelf.SlicesG.Cmp
namespace Go.Proofs.YtkamjjjimbbdmaaGreatDoor
open Go.RowKit Go.Lib Go.Shelf Go.Sort

/-- The order by the first difference. -/
def cmpL : List Int → List Int → Int
  | [], [] => 0
  | [], _ :: _ => -1
  | _ :: _, [] => 1
  | a :: x, b :: y => if a < b then -1 else if b < a then 1 else cmpL x y
theorem cmpL_refl : ∀ x, cmpL x x = 0
  | [] => rfl
  | a :: x => by rw [cmpL, if_neg (by omega), if_neg (by omega)]; exact cmpL_refl x
theorem cmpL_range : ∀ x y, cmpL x y = -1 ∨ cmpL x y = 0 ∨ cmpL x y = 1
  | [], [] => by simp [cmpL]
  | [], _ :: _ => by simp [cmpL]
  | _ :: _, [] => by simp [cmpL]
  | a :: x, b :: y => by
    rw [cmpL]
    split
    · simp
    · split
      · simp
      · exact cmpL_range x y
theorem cmpL_swap : ∀ x y, cmpL y x = - cmpL x y
  | [], [] => rfl
  | [], _ :: _ => rfl
  | _ :: _, [] => rfl
  | a :: x, b :: y => by
    rw [cmpL, cmpL]
    by_cases h1 : a < b
    · rw [if_neg (by omega), if_pos h1, if_pos h1]; rfl
    · by_cases h2 : b < a
      · rw [if_pos h2, if_neg h1, if_pos h2]
      · rw [if_neg h2, if_neg h1, if_neg h1, if_neg h2]; exact cmpL_swap x y
theorem cmpL_eq : ∀ {x y}, cmpL x y = 0 → x = y
  | [], [], _ => rfl
  | [], _ :: _, h => by simp [cmpL] at h
  | _ :: _, [], h => by simp [cmpL] at h
  | a :: x, b :: y, h => by
    rw [cmpL] at h
    split at h
    · cases h
    · split at h
      · cases h
      · rw [cmpL_eq h, show a = b by omega]
theorem cmpL_trans : ∀ {x y z}, cmpL x y < 0 → cmpL y z < 0 → cmpL x z < 0
  | [], [], _, h, _ => by simp [cmpL] at h
  | [], _ :: _, [], _, h => by simp [cmpL] at h
  | [], _ :: _, _ :: _, _, _ => by simp [cmpL]
  | _ :: _, [], _, h, _ => by simp [cmpL] at h
  | _ :: _, _ :: _, [], _, h => by simp [cmpL] at h
  | a :: x, b :: y, c :: z, h1, h2 => by
    rw [cmpL] at h1 h2 ⊢
    by_cases e1 : a < b
    · by_cases e2 : b < c
      · rw [if_pos (by omega)]; omega
      · by_cases e3 : c < b
        · rw [if_neg e2, if_pos e3] at h2; omega
        · rw [if_pos (by omega)]; omega
    · by_cases e2 : b < a
      · rw [if_neg e1, if_pos e2] at h1; omega
      · rw [if_neg e1, if_neg e2] at h1
        by_cases e3 : b < c
        · rw [if_pos (by omega)]; omega
        · by_cases e4 : c < b
          · rw [if_neg e3, if_pos e4] at h2; omega
          · rw [if_neg e3, if_neg e4] at h2
            rw [if_neg (by omega), if_neg (by omega)]
            exact cmpL_trans h1 h2

theorem cmpL_cons {x y : List Int} {k : Nat} (h1 : k < x.length) (h2 : k < y.length) : cmpL (x.drop k) (y.drop k) = if nthI x k < nthI y k then -1 else if nthI y k < nthI x k then 1 else cmpL (x.drop (k + 1)) (y.drop (k + 1)) := by
  have e : ∀ {l : List Int} (h : k < l.length), l.drop k = nthI l k :: l.drop (k + 1) := fun {l} h => by
    rw [List.drop_eq_getElem_cons h]
    congr 1
    unfold nthI
    rw [List.getD_eq_getElem?_getD, List.getElem?_eq_getElem h]; rfl
  rw [e h1, e h2, cmpL]

set_option maxRecDepth 100000 in
set_option maxHeartbeats 1000000 in
theorem compare_c (va vb : Value) (x y : List Int) (w : World) (hx : Sl w va (i64s x)) (hy : Sl w vb (i64s y)) (hl : x.length ≤ 1000000) (hl2 : y.length ≤ 1000000) :
    Calls Tryz.prog 88 #[va, vb] w fun e w' => e = .returned (.int .i64 (cmpL x y)) ∧ w = w' := by
  obtain ⟨aa, ca, rfl, _, _, hcx⟩ := hx.parts
  obtain ⟨ab, cb, rfl, _, _, hcy⟩ := hy.parts
  rw [i64s_length] at *
  rw [i64s_length] at *
  have Hcx := Lib.hid hcx; clear hcx hx
  have Hcy := Lib.hid hcy; clear hcy hy
  obtain ⟨r, hr⟩ : ∃ r, r = cmpL x y := ⟨_, rfl⟩
  rw [← hr]
  have Hr := Lib.hid hr; clear hr
  go_enter Tryz.func88, Tryz.ntmps88
  go_wp2
  go_loop [11] (fun i => ∃ k : Nat, i = .int .i64 k ∧ k ≤ x.length ∧ k ≤ y.length ∧ r = cmpL (x.drop k) (y.drop k)) (fun i => x.length - (intOf i).toNat)
  case atStart => exact ⟨0, rfl, Nat.zero_le _, Nat.zero_le _, by rw [List.drop_zero, List.drop_zero]; exact Hr.out⟩
  case round =>
    obtain ⟨k, rfl, hk, hky0, hrk⟩ := hrel
    by_cases hlt : k < x.length
    · obtain ⟨bx, ox, rfl, hcx⟩ := Hcx.out k _ (i64s_at hlt)
      by_cases hky : k < y.length
      · obtain ⟨b2, oy, rfl, hcy⟩ := Hcy.out k _ (i64s_at hky)
        rw [cmpL_cons hlt hky] at hrk
        have hnk : ¬ (y.length : Int) ≤ (k : Int) := by omega
        generalize nthI x k = a at *
        generalize nthI y k = b at *
        have hcmp := fun w => AnyG.cmp_Compare_int Tryz.lCompare a b w
        have hci : compareInt a b = if a < b then -1 else if b < a then 1 else 0 := rfl
        by_cases h1 : a < b
        · rw [if_pos h1] at hrk hci
          rw [hci] at hcmp
          have Hcmp := Lib.hid hcmp; have Hrk := Lib.hid hrk; clear hcmp hrk hci h1
          go_wp2_with fail
          refine (Hcmp.out w).mono ?_
          rintro e w1 ⟨rfl, rfl⟩
          go_wp2
          go_ret
          exact ⟨ret_int Hrk.out.symm, rfl⟩
        · by_cases h2 : b < a
          · rw [if_neg h1, if_pos h2] at hrk hci
            rw [hci] at hcmp
            have Hcmp := Lib.hid hcmp; have Hrk := Lib.hid hrk; clear hcmp hrk hci h1 h2
            go_wp2_with fail
            refine (Hcmp.out w).mono ?_
            rintro e w1 ⟨rfl, rfl⟩
            go_wp2
            go_ret
            exact ⟨ret_int Hrk.out.symm, rfl⟩
          · rw [if_neg h1, if_neg h2] at hrk hci
            rw [hci] at hcmp
            have Hcmp := Lib.hid hcmp; have Hrk := Lib.hid hrk; clear hcmp hrk hci h1 h2
            go_wp2_with fail
            refine (Hcmp.out w).mono ?_
            rintro e w1 ⟨rfl, rfl⟩
            go_wp2
            go_round
            case rel => exact ⟨k + 1, by go_num, by omega, by omega, Hrk.out⟩
            case measure => simp [intOf]; omega
      · obtain rfl : k = y.length := by omega
        have hr1 : r = 1 := by
          rw [hrk, List.drop_length]
          rw [List.drop_eq_getElem_cons hlt]; rfl
        have Hr1 := Lib.hid hr1; clear hr1 hrk
        have hle : (y.length : Int) ≤ (y.length : Int) := by omega
        go_wp2
        go_ret
        exact ⟨ret_int Hr1.out.symm, rfl⟩
    · obtain rfl : k = x.length := by omega
      by_cases hxy : x.length < y.length
      · have hr1 : r = -1 := by
          rw [hrk, List.drop_length, List.drop_eq_getElem_cons hxy]; rfl
        have Hr1 := Lib.hid hr1; clear hr1 hrk
        go_wp2
        go_ret
        exact ⟨ret_int Hr1.out.symm, rfl⟩
      · have hr1 : r = 0 := by
          rw [hrk, List.drop_length, List.drop_eq_nil_of_le (by omega)]; rfl
        have Hr1 := Lib.hid hr1; clear hr1 hrk
        go_wp2
        go_ret
        exact ⟨ret_int Hr1.out.symm, rfl⟩

theorem rcompare_c (va vb : Value) (x y : List Int) (w : World) (hx : Sl w va (i64s x)) (hy : Sl w vb (i64s y)) (hl : x.length ≤ 1000000) (hl2 : y.length ≤ 1000000) :
    Calls Tryz.prog 52 #[va, vb] w fun e w' => e = .returned (.int .i64 (cmpL x y)) ∧ w = w' := by
  have hc := compare_c va vb x y w hx hy hl hl2
  have Hc := Lib.hid hc; clear hc
  obtain ⟨aa, ca, rfl, _, _, _⟩ := hx.parts
  obtain ⟨ab, cb, rfl, _, _, _⟩ := hy.parts
  rw [i64s_length] at *
  rw [i64s_length] at *
  clear hx hy
  go_enter Tryz.func52, Tryz.ntmps52
  go_wp2_with fail
  refine Hc.out.mono ?_
  rintro e w1 ⟨rfl, rfl⟩
  go_wp2
  go_ret
  exact ⟨rfl, rfl⟩

set_option maxRecDepth 100000 in
set_option maxHeartbeats 1000000 in
theorem equal_c (va vb : Value) (x y : List Int) (w : World) (hx : Sl w va (i64s x)) (hy : Sl w vb (i64s y)) (hl : x.length ≤ 1000000) (hl2 : y.length ≤ 1000000) :
    Calls Tryz.prog 89 #[va, vb] w fun e w' => e = .returned (.bool (decide (x = y))) ∧ Qu w w' := by
  obtain ⟨aa, ca, rfl, _, _, hcx⟩ := hx.parts
  obtain ⟨ab, cb, rfl, _, _, hcy⟩ := hy.parts
  rw [i64s_length] at *
  rw [i64s_length] at *
  have Hcx := Lib.hid hcx; clear hcx hx
  have Hcy := Lib.hid hcy; clear hcy hy
  obtain ⟨r, hr⟩ : ∃ r, r = decide (x = y) := ⟨_, rfl⟩
  rw [← hr]
  by_cases hne : x.length = y.length
  · have ht : ((x.length : Int) != (y.length : Int)) = false := by rw [bne_eq_false_iff_eq]; omega
    have Hne := Lib.hid hne; clear hne
    have Hr := Lib.hid hr; clear hr
    go_enter Tryz.func89, Tryz.ntmps89
    go_wp2
    go_loopw [13] (fun i wr => ∃ k : Nat, i = .int .i64 k ∧ k ≤ x.length ∧ Qu w wr ∧ ∀ t, t < k → nthI x t = nthI y t) (fun i _ => x.length - (intOf i).toNat)
    case atStart => exact ⟨0, rfl, Nat.zero_le _, Qu.refl w, fun t ht => by omega⟩
    case round =>
      obtain ⟨k, rfl, hk, hqu, hs⟩ := hrel
      have Hqu := Lib.hid hqu; clear hqu
      have Hs := Lib.hid hs; clear hs
      by_cases hlt : k < x.length
      · have hky : k < y.length := by rw [← Hne.out]; exact hlt
        obtain ⟨bx, ox, rfl, hcx0⟩ := Hcx.out k _ (i64s_at hlt)
        obtain ⟨b2, oy, rfl, hcy0⟩ := Hcy.out k _ (i64s_at hky)
        have hcx := Hqu.out.ext.cell hcx0
        have hcy := Hqu.out.ext.cell hcy0
        clear hcx0 hcy0
        have hk0 : (0 : Int) ≤ (k : Int) := by omega
        have hk1 : (k : Int) < (x.length : Int) := by omega
        have hk2 : (k : Int) < (y.length : Int) := by omega
        by_cases hxy : nthI x k = nthI y k
        · have h3 : ((nthI x k) != (nthI y k)) = false := by rw [bne_eq_false_iff_eq]; exact hxy
          have Hxy := Lib.hid hxy; clear hxy
          go_wp2
          go_quiet (fail)
          go_wp2
          go_roundw
          case rel => exact ⟨k + 1, by go_num, by omega, Hqu.out.drewN _, fun t ht => by
            rcases Nat.lt_or_ge t k with h | h
            · exact Hs.out t h
            · obtain rfl : t = k := by omega
              exact Hxy.out⟩
          case measure => simp [intOf]; omega
        · have h3 : ((nthI x k) != (nthI y k)) = true := by rw [bne_iff_ne]; exact hxy
          have hf : r = false := by rw [Hr.out]; exact decide_eq_false (by rintro rfl; exact hxy rfl)
          have Hf := Lib.hid hf; clear hxy hf
          go_wp2
          go_quiet (fail)
          go_wp2
          go_ret
          exact ⟨ret_bool Hf.out.symm, by first | exact Hqu.out | exact Hqu.out.drewN _⟩
      · obtain rfl : k = x.length := by omega
        have hf : r = true := by
          rw [Hr.out]
          refine decide_eq_true ?_
          refine Classical.byContradiction fun h => ?_
          obtain ⟨i, hi, hn⟩ := ne_at Hne.out h
          exact hn (Hs.out i hi)
        have Hf := Lib.hid hf; clear hf
        go_wp2
        go_ret
        exact ⟨ret_bool Hf.out.symm, by first | exact Hqu.out | exact Hqu.out.drewN _⟩
  · have ht : ((x.length : Int) != (y.length : Int)) = true := by rw [bne_iff_ne]; omega
    have hf : r = false := by rw [hr]; exact decide_eq_false (by rintro rfl; exact hne rfl)
    clear hne hr
    subst hf
    go_enter Tryz.func89, Tryz.ntmps89
    go_wp2
    go_ret
    exact ⟨rfl, Qu.refl w⟩

theorem requal_c (va vb : Value) (x y : List Int) (w : World) (hx : Sl w va (i64s x)) (hy : Sl w vb (i64s y)) (hl : x.length ≤ 1000000) (hl2 : y.length ≤ 1000000) :
    Calls Tryz.prog 54 #[va, vb] w fun e w' => e = .returned (.bool (decide (x = y))) ∧ Qu w w' := by
  have hc := equal_c va vb x y w hx hy hl hl2
  have Hc := Lib.hid hc; clear hc
  obtain ⟨aa, ca, rfl, _, _, _⟩ := hx.parts
  obtain ⟨ab, cb, rfl, _, _, _⟩ := hy.parts
  rw [i64s_length] at *
  rw [i64s_length] at *
  clear hx hy
  go_enter Tryz.func54, Tryz.ntmps54
  go_wp2_with fail
  refine Hc.out.mono ?_
  rintro e w1 ⟨rfl, hq⟩
  have Hq := Lib.hid hq; clear hq
  go_wp2
  go_ret
  exact ⟨rfl, Hq.out⟩

/-- Rows that stand in a world. -/
structure RwAt (W : World) (B : Nat) where
  r : Rw
  h : OwnI W B r.u r.x ∧ r.x.length ≤ 1000000
instance (W : World) (B : Nat) : Inhabited (RwAt W B) := ⟨⟨⟨[], .slice none 0 0, rfl⟩, World.ownsRow_nil W _ _ 1, by show 0 ≤ _; omega⟩⟩
def RwAt.enc {W : World} {B : Nat} (r : RwAt W B) : Value := r.1.u
def cfR {W : World} {B : Nat} (r s : RwAt W B) : Int := cmpL r.1.x s.1.x
theorem swoR {W : World} {B : Nat} : SWO (ltOf (cfR (W := W) (B := B))) where
  irrefl x := by unfold ltOf cfR; rw [cmpL_refl]; rfl
  trans x y z h1 h2 := by
    unfold ltOf cfR at *
    exact decide_eq_true (cmpL_trans (of_decide_eq_true h1) (of_decide_eq_true h2))
  ntrans x y z h1 h2 := by
    unfold ltOf cfR at *
    refine decide_eq_false fun h3 => ?_
    have h1 := of_decide_eq_false h1
    have h2 := of_decide_eq_false h2
    have e1 := cmpL_swap x.1.x y.1.x
    have e2 := cmpL_swap y.1.x z.1.x
    rcases cmpL_range y.1.x x.1.x with g | g | g
    · rcases cmpL_range z.1.x y.1.x with k | k | k
      · have := cmpL_trans (x := z.1.x) (y := y.1.x) (z := x.1.x) (by omega) (by omega)
        have e3 := cmpL_swap x.1.x z.1.x
        omega
      · have e4 := cmpL_eq k
        rw [← e4] at e1 h1
        omega
      · omega
    · have e4 := cmpL_eq g
      rw [e4] at h2
      omega
    · omega

end Go.Proofs.YtkamjjjimbbdmaaGreatDoor
