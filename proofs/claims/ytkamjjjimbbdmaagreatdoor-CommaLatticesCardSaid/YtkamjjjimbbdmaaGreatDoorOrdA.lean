/- The order of rows: slices.Compare, slices.Equal, the sort of rows. slices.CompactFunc at rows, and their sort. The sort of rows, by its contract. Plain words for comma.Combine. The walk of comma.Combine: the errors. The walk of comma.Combine: all sums. -/
import Derived.Test.YtkamjjjimbbdmaaGreatDoorLstA
import Derived.Shelf.SlSortCmp.Whole1
import Derived.Shelf.SlSortCmp.NoneTotal
import Derived.Shelf.SlicesG.Cmp
import Derived.Lib.SliceRun
import Derived.Test.YtkamjjjimbbdmaaGreatDoorLawA
import Derived.RegionTactic
import Derived.ChangeAlike
namespace Go.Proofs.YtkamjjjimbbdmaaGreatDoor
open Go.RowKit Go.Lib Go.Shelf Go.Sort

/-- The order by the first difference. -/
def cmpL : List Int → List Int → Int
  | [], [] => 0
  | [], _ :: _ => -1
  | _ :: _, [] => 1
  | a :: x, b :: y => if a < b then -1 else if b < a then 1 else cmpL x y
theorem cmpL_refl : ∀ x, cmpL x x = 0
  | [] => rfl
  | a :: x => by rw [cmpL, if_neg (by omega), if_neg (by omega)]; exact cmpL_refl x
theorem cmpL_range : ∀ x y, cmpL x y = -1 ∨ cmpL x y = 0 ∨ cmpL x y = 1
  | [], [] => by simp [cmpL]
  | [], _ :: _ => by simp [cmpL]
  | _ :: _, [] => by simp [cmpL]
  | a :: x, b :: y => by
    rw [cmpL]
    split
    · simp
    · split
      · simp
      · exact cmpL_range x y
theorem cmpL_swap : ∀ x y, cmpL y x = - cmpL x y
  | [], [] => rfl
  | [], _ :: _ => rfl
  | _ :: _, [] => rfl
  | a :: x, b :: y => by
    rw [cmpL, cmpL]
    by_cases h1 : a < b
    · rw [if_neg (by omega), if_pos h1, if_pos h1]; rfl
    · by_cases h2 : b < a
      · rw [if_pos h2, if_neg h1, if_pos h2]
      · rw [if_neg h2, if_neg h1, if_neg h1, if_neg h2]; exact cmpL_swap x y
theorem cmpL_eq : ∀ {x y}, cmpL x y = 0 → x = y
  | [], [], _ => rfl
  | [], _ :: _, h => by simp [cmpL] at h
  | _ :: _, [], h => by simp [cmpL] at h
  | a :: x, b :: y, h => by
    rw [cmpL] at h
    split at h
    · cases h
    · split at h
      · cases h
      · rw [cmpL_eq h, show a = b by omega]
theorem cmpL_trans : ∀ {x y z}, cmpL x y < 0 → cmpL y z < 0 → cmpL x z < 0
  | [], [], _, h, _ => by simp [cmpL] at h
  | [], _ :: _, [], _, h => by simp [cmpL] at h
  | [], _ :: _, _ :: _, _, _ => by simp [cmpL]
  | _ :: _, [], _, h, _ => by simp [cmpL] at h
  | _ :: _, _ :: _, [], _, h => by simp [cmpL] at h
  | a :: x, b :: y, c :: z, h1, h2 => by
    rw [cmpL] at h1 h2 ⊢
    by_cases e1 : a < b
    · by_cases e2 : b < c
      · rw [if_pos (by omega)]; omega
      · by_cases e3 : c < b
        · rw [if_neg e2, if_pos e3] at h2; omega
        · rw [if_pos (by omega)]; omega
    · by_cases e2 : b < a
      · rw [if_neg e1, if_pos e2] at h1; omega
      · rw [if_neg e1, if_neg e2] at h1
        by_cases e3 : b < c
        · rw [if_pos (by omega)]; omega
        · by_cases e4 : c < b
          · rw [if_neg e3, if_pos e4] at h2; omega
          · rw [if_neg e3, if_neg e4] at h2
            rw [if_neg (by omega), if_neg (by omega)]
            exact cmpL_trans h1 h2

theorem cmpL_cons {x y : List Int} {k : Nat} (h1 : k < x.length) (h2 : k < y.length) : cmpL (x.drop k) (y.drop k) = if nthI x k < nthI y k then -1 else if nthI y k < nthI x k then 1 else cmpL (x.drop (k + 1)) (y.drop (k + 1)) := by
  have e : ∀ {l : List Int} (h : k < l.length), l.drop k = nthI l k :: l.drop (k + 1) := fun {l} h => by
    rw [List.drop_eq_getElem_cons h]
    congr 1
    unfold nthI
    rw [List.getD_eq_getElem?_getD, List.getElem?_eq_getElem h]; rfl
  rw [e h1, e h2, cmpL]

set_option maxRecDepth 100000 in
set_option maxHeartbeats 1000000 in
theorem compare_c (va vb : Value) (x y : List Int) (w : World) (hx : Sl w va (i64s x)) (hy : Sl w vb (i64s y)) (hl : x.length ≤ 1000000) (_hl2 : y.length ≤ 1000000) :
    Calls Tryz.prog 88 #[va, vb] w fun e w' => e = .returned (.int .i64 (cmpL x y)) ∧ w = w' := by
  obtain ⟨aa, ca, rfl, _, _, hcx⟩ := hx.parts
  obtain ⟨ab, cb, rfl, _, _, hcy⟩ := hy.parts
  rw [i64s_length] at *
  rw [i64s_length] at *
  have Hcx := Lib.hid hcx; clear hcx hx
  have Hcy := Lib.hid hcy; clear hcy hy
  obtain ⟨r, hr⟩ : ∃ r, r = cmpL x y := ⟨_, rfl⟩
  rw [← hr]
  have Hr := Lib.hid hr; clear hr
  go_enter Tryz.func88, Tryz.ntmps88
  go_wp2
  go_loop [11] (fun i => ∃ k : Nat, i = .int .i64 k ∧ k ≤ x.length ∧ k ≤ y.length ∧ r = cmpL (x.drop k) (y.drop k)) (fun i => x.length - (intOf i).toNat)
  case atStart => exact ⟨0, rfl, Nat.zero_le _, Nat.zero_le _, by rw [List.drop_zero, List.drop_zero]; exact Hr.out⟩
  case round =>
    obtain ⟨k, rfl, hk, hky0, hrk⟩ := hrel
    by_cases hlt : k < x.length
    · obtain ⟨bx, ox, rfl, hcx⟩ := Hcx.out k _ (i64s_at hlt)
      by_cases hky : k < y.length
      · obtain ⟨b2, oy, rfl, hcy⟩ := Hcy.out k _ (i64s_at hky)
        rw [cmpL_cons hlt hky] at hrk
        have hnk : ¬ (y.length : Int) ≤ (k : Int) := by omega
        generalize nthI x k = a at *
        generalize nthI y k = b at *
        have hcmp := fun w => AnyG.cmp_Compare_int Tryz.lCompare a b w
        have hci : compareInt a b = if a < b then -1 else if b < a then 1 else 0 := rfl
        by_cases h1 : a < b
        · rw [if_pos h1] at hrk hci
          rw [hci] at hcmp
          have Hcmp := Lib.hid hcmp; have Hrk := Lib.hid hrk; clear hcmp hrk hci h1
          go_wp2_with fail
          refine (Hcmp.out w).mono ?_
          rintro e w1 ⟨rfl, rfl⟩
          go_wp2
          go_ret
          exact ⟨ret_int Hrk.out.symm, rfl⟩
        · by_cases h2 : b < a
          · rw [if_neg h1, if_pos h2] at hrk hci
            rw [hci] at hcmp
            have Hcmp := Lib.hid hcmp; have Hrk := Lib.hid hrk; clear hcmp hrk hci h1 h2
            go_wp2_with fail
            refine (Hcmp.out w).mono ?_
            rintro e w1 ⟨rfl, rfl⟩
            go_wp2
            go_ret
            exact ⟨ret_int Hrk.out.symm, rfl⟩
          · rw [if_neg h1, if_neg h2] at hrk hci
            rw [hci] at hcmp
            have Hcmp := Lib.hid hcmp; have Hrk := Lib.hid hrk; clear hcmp hrk hci h1 h2
            go_wp2_with fail
            refine (Hcmp.out w).mono ?_
            rintro e w1 ⟨rfl, rfl⟩
            go_wp2
            go_round
            case rel => exact ⟨k + 1, by go_num, by omega, by omega, Hrk.out⟩
            case measure => simp [intOf]; omega
      · obtain rfl : k = y.length := by omega
        have hr1 : r = 1 := by
          rw [hrk, List.drop_length]
          rw [List.drop_eq_getElem_cons hlt]; rfl
        have Hr1 := Lib.hid hr1; clear hr1 hrk
        have hle : (y.length : Int) ≤ (y.length : Int) := by omega
        go_wp2
        go_ret
        exact ⟨ret_int Hr1.out.symm, rfl⟩
    · obtain rfl : k = x.length := by omega
      by_cases hxy : x.length < y.length
      · have hr1 : r = -1 := by
          rw [hrk, List.drop_length, List.drop_eq_getElem_cons hxy]; rfl
        have Hr1 := Lib.hid hr1; clear hr1 hrk
        go_wp2
        go_ret
        exact ⟨ret_int Hr1.out.symm, rfl⟩
      · have hr1 : r = 0 := by
          rw [hrk, List.drop_length, List.drop_eq_nil_of_le (by omega)]; rfl
        have Hr1 := Lib.hid hr1; clear hr1 hrk
        go_wp2
        go_ret
        exact ⟨ret_int Hr1.out.symm, rfl⟩

theorem rcompare_c (va vb : Value) (x y : List Int) (w : World) (hx : Sl w va (i64s x)) (hy : Sl w vb (i64s y)) (hl : x.length ≤ 1000000) (hl2 : y.length ≤ 1000000) :
    Calls Tryz.prog 52 #[va, vb] w fun e w' => e = .returned (.int .i64 (cmpL x y)) ∧ w = w' := by
  have hc := compare_c va vb x y w hx hy hl hl2
  have Hc := Lib.hid hc; clear hc
  obtain ⟨aa, ca, rfl, _, _, _⟩ := hx.parts
  obtain ⟨ab, cb, rfl, _, _, _⟩ := hy.parts
  rw [i64s_length] at *
  rw [i64s_length] at *
  clear hx hy
  go_enter Tryz.func52, Tryz.ntmps52
  go_wp2_with fail
  refine Hc.out.mono ?_
  rintro e w1 ⟨rfl, rfl⟩
  go_wp2
  go_ret
  exact ⟨rfl, rfl⟩

set_option maxRecDepth 100000 in
set_option maxHeartbeats 1000000 in
theorem equal_c (va vb : Value) (x y : List Int) (w : World) (hx : Sl w va (i64s x)) (hy : Sl w vb (i64s y)) (hl : x.length ≤ 1000000) (hl2 : y.length ≤ 1000000) :
    Calls Tryz.prog 89 #[va, vb] w fun e w' => e = .returned (.bool (decide (x = y))) ∧ Qu w w' := by
  obtain ⟨aa, ca, rfl, _, _, hcx⟩ := hx.parts
  obtain ⟨ab, cb, rfl, _, _, hcy⟩ := hy.parts
  rw [i64s_length] at *
  rw [i64s_length] at *
  have Hcx := Lib.hid hcx; clear hcx hx
  have Hcy := Lib.hid hcy; clear hcy hy
  obtain ⟨r, hr⟩ : ∃ r, r = decide (x = y) := ⟨_, rfl⟩
  rw [← hr]
  by_cases hne : x.length = y.length
  · have ht : ((x.length : Int) != (y.length : Int)) = false := by rw [bne_eq_false_iff_eq]; omega
    have Hne := Lib.hid hne; clear hne
    have Hr := Lib.hid hr; clear hr
    go_enter Tryz.func89, Tryz.ntmps89
    go_wp2
    go_loopw [13] (fun i wr => ∃ k : Nat, i = .int .i64 k ∧ k ≤ x.length ∧ Qu w wr ∧ ∀ t, t < k → nthI x t = nthI y t) (fun i _ => x.length - (intOf i).toNat)
    case atStart => exact ⟨0, rfl, Nat.zero_le _, Qu.refl w, fun t ht => by omega⟩
    case round =>
      obtain ⟨k, rfl, hk, hqu, hs⟩ := hrel
      have Hqu := Lib.hid hqu; clear hqu
      have Hs := Lib.hid hs; clear hs
      by_cases hlt : k < x.length
      · have hky : k < y.length := by rw [← Hne.out]; exact hlt
        obtain ⟨bx, ox, rfl, hcx0⟩ := Hcx.out k _ (i64s_at hlt)
        obtain ⟨b2, oy, rfl, hcy0⟩ := Hcy.out k _ (i64s_at hky)
        have hcx := Hqu.out.ext.cell hcx0
        have hcy := Hqu.out.ext.cell hcy0
        clear hcx0 hcy0
        have hk0 : (0 : Int) ≤ (k : Int) := by omega
        have hk1 : (k : Int) < (x.length : Int) := by omega
        have hk2 : (k : Int) < (y.length : Int) := by omega
        by_cases hxy : nthI x k = nthI y k
        · have h3 : ((nthI x k) != (nthI y k)) = false := by rw [bne_eq_false_iff_eq]; exact hxy
          have Hxy := Lib.hid hxy; clear hxy
          go_wp2
          go_quiet (fail)
          go_wp2
          go_roundw
          case rel => exact ⟨k + 1, by go_num, by omega, Hqu.out.drewN _, fun t ht => by
            rcases Nat.lt_or_ge t k with h | h
            · exact Hs.out t h
            · obtain rfl : t = k := by omega
              exact Hxy.out⟩
          case measure => simp [intOf]; omega
        · have h3 : ((nthI x k) != (nthI y k)) = true := by rw [bne_iff_ne]; exact hxy
          have hf : r = false := by rw [Hr.out]; exact decide_eq_false (by rintro rfl; exact hxy rfl)
          have Hf := Lib.hid hf; clear hxy hf
          go_wp2
          go_quiet (fail)
          go_wp2
          go_ret
          exact ⟨ret_bool Hf.out.symm, by first | exact Hqu.out | exact Hqu.out.drewN _⟩
      · obtain rfl : k = x.length := by omega
        have hf : r = true := by
          rw [Hr.out]
          refine decide_eq_true ?_
          refine Classical.byContradiction fun h => ?_
          obtain ⟨i, hi, hn⟩ := ne_at Hne.out h
          exact hn (Hs.out i hi)
        have Hf := Lib.hid hf; clear hf
        go_wp2
        go_ret
        exact ⟨ret_bool Hf.out.symm, by first | exact Hqu.out | exact Hqu.out.drewN _⟩
  · have ht : ((x.length : Int) != (y.length : Int)) = true := by rw [bne_iff_ne]; omega
    have hf : r = false := by rw [hr]; exact decide_eq_false (by rintro rfl; exact hne rfl)
    clear hne hr
    subst hf
    go_enter Tryz.func89, Tryz.ntmps89
    go_wp2
    go_ret
    exact ⟨rfl, Qu.refl w⟩

theorem requal_c (va vb : Value) (x y : List Int) (w : World) (hx : Sl w va (i64s x)) (hy : Sl w vb (i64s y)) (hl : x.length ≤ 1000000) (hl2 : y.length ≤ 1000000) :
    Calls Tryz.prog 54 #[va, vb] w fun e w' => e = .returned (.bool (decide (x = y))) ∧ Qu w w' := by
  have hc := equal_c va vb x y w hx hy hl hl2
  have Hc := Lib.hid hc; clear hc
  obtain ⟨aa, ca, rfl, _, _, _⟩ := hx.parts
  obtain ⟨ab, cb, rfl, _, _, _⟩ := hy.parts
  rw [i64s_length] at *
  rw [i64s_length] at *
  clear hx hy
  go_enter Tryz.func54, Tryz.ntmps54
  go_wp2_with fail
  refine Hc.out.mono ?_
  rintro e w1 ⟨rfl, hq⟩
  have Hq := Lib.hid hq; clear hq
  go_wp2
  go_ret
  exact ⟨rfl, Hq.out⟩

/-- Rows that stand in a world. -/
structure RwAt (W : World) (B : Nat) where
  r : Rw
  h : OwnI W B r.u r.x ∧ r.x.length ≤ 1000000
instance (W : World) (B : Nat) : Inhabited (RwAt W B) := ⟨⟨⟨[], .slice none 0 0, rfl⟩, World.ownsRow_nil W _ _ 1, by show 0 ≤ _; omega⟩⟩
def RwAt.enc {W : World} {B : Nat} (r : RwAt W B) : Value := r.1.u
def cfR {W : World} {B : Nat} (r s : RwAt W B) : Int := cmpL r.1.x s.1.x
theorem swoR {W : World} {B : Nat} : SWO (ltOf (cfR (W := W) (B := B))) where
  irrefl x := by unfold ltOf cfR; rw [cmpL_refl]; rfl
  trans x y z h1 h2 := by
    unfold ltOf cfR at *
    exact decide_eq_true (cmpL_trans (of_decide_eq_true h1) (of_decide_eq_true h2))
  ntrans x y z h1 h2 := by
    unfold ltOf cfR at *
    refine decide_eq_false fun h3 => ?_
    have h1 := of_decide_eq_false h1
    have h2 := of_decide_eq_false h2
    have e1 := cmpL_swap x.1.x y.1.x
    have e2 := cmpL_swap y.1.x z.1.x
    rcases cmpL_range y.1.x x.1.x with g | g | g
    · rcases cmpL_range z.1.x y.1.x with k | k | k
      · have := cmpL_trans (x := z.1.x) (y := y.1.x) (z := x.1.x) (by omega) (by omega)
        have e3 := cmpL_swap x.1.x z.1.x
        omega
      · have e4 := cmpL_eq k
        rw [← e4] at e1 h1
        omega
      · omega
    · have e4 := cmpL_eq g
      rw [e4] at h2
      omega
    · omega

end Go.Proofs.YtkamjjjimbbdmaaGreatDoor

namespace Go.Proofs.YtkamjjjimbbdmaaGreatDoor
open Go.RowKit Go.Lib Go.Shelf Go.Sort

/-- Rows at one base, their list at another. -/
def RwM (w : World) (b B : Nat) (v : Value) (rs : List Rw) : Prop :=
  w.ownsRow B 30 1 v rs.length (rwc rs) ∧ ∀ r ∈ rs, OwnI w b r.u r.x ∧ r.x.length ≤ 1000000
theorem Ext.rwM {w w' : World} (h : Ext w w') {b B : Nat} {v : Value} {rs : List Rw} (hs : RwM w b B v rs) : RwM w' b B v rs := ⟨h.own hs.1, fun e he => ⟨h.ownI (hs.2 e he).1, (hs.2 e he).2⟩⟩

theorem only_refl (a : World) (row : Option Nat) : a.grownBy a row := ⟨rfl, rfl, rfl, Nat.le_refl _, fun _ _ _ => rfl⟩
theorem only_drewN {a w : World} {row : Option Nat} (h : a.grownBy w row) (n : Nat) : a.grownBy (w.drewN n) row := ⟨h.os, h.tape, h.output, h.size, h.block⟩
theorem only_setCell {a w : World} {g : Nat} (h : a.grownBy w (some g)) {p : Addr} (hp : p.block = g) (u : Value) : a.grownBy (w.setCell p u) (some g) :=
  ⟨h.os, h.tape, h.output, by simpa [World.setCell] using h.size, fun i hi hne => (Below.heap_setCell w p u i (by
    rintro rfl
    exact hne (by rw [hp]))).trans (h.block i hi hne)⟩
theorem only_setCells {a w : World} {g : Nat} (h : a.grownBy w (some g)) : ∀ (us : List Value) (o : Nat), a.grownBy (w.setCells g o us) (some g) := by
  intro us
  induction us generalizing w with
  | nil => intro o; exact h
  | cons u us ih => intro o; exact ih (only_setCell h rfl u) (o + 1)

def xAt (rs : List Rw) (j : Nat) : List Int := (rs.map Rw.x).getD j []
def keepAt (l : List (List Int)) (j : Nat) : Bool := j == 0 || decide (l.getD j [] ≠ l.getD (j - 1) [])
/-- Without what follows an equal one. -/
def cpTo {α : Type} (f : α → List Int) (l : List α) : Nat → List α
  | 0 => []
  | m + 1 => cpTo f l m ++ (if keepAt (l.map f) m then (l.drop m).take 1 else [])
theorem cpTo_map {α : Type} (f : α → List Int) (l : List α) : ∀ m, (cpTo f l m).map f = cpTo id (l.map f) m
  | 0 => rfl
  | m + 1 => by
    rw [cpTo, cpTo, List.map_append, cpTo_map f l m, List.map_id]
    congr 1
    split
    · rw [List.map_take, List.map_drop]
    · rfl
theorem cpTo_le {α : Type} (f : α → List Int) (l : List α) : ∀ m, (cpTo f l m).length ≤ m
  | 0 => Nat.le_refl _
  | m + 1 => by
    have := cpTo_le f l m
    rw [cpTo, List.length_append]
    split
    · simp; omega
    · simp; omega
theorem cpTo_all {α : Type} (f : α → List Int) (l : List α) : ∀ m, m ≤ l.length → (∀ j, j < m → keepAt (l.map f) j = true) → cpTo f l m = l.take m
  | 0, _, _ => by simp [cpTo]
  | m + 1, h, hk => by
    have hm : m < l.length := h
    rw [cpTo, cpTo_all f l m (by omega) (fun j hj => hk j (by omega)), hk m (by omega), if_pos rfl]
    rw [show (l.drop m).take 1 = [l[m]] by rw [List.drop_eq_getElem_cons hm]; rfl]
    exact (List.take_succ_eq_append_getElem hm).symm
theorem cpTo_mem {α : Type} (f : α → List Int) (l : List α) : ∀ m {a}, a ∈ cpTo f l m → a ∈ l
  | 0, _, h => by simp [cpTo] at h
  | m + 1, a, h => by
    rw [cpTo] at h
    rcases List.mem_append.1 h with h | h
    · exact cpTo_mem f l m h
    · split at h
      · exact List.mem_of_mem_drop (List.mem_of_mem_take h)
      · simp at h

theorem own_cut {w : World} {B E g n cap k : Nat} {xs : List Value} (h : w.ownsRow B E 1 (.slice (some ⟨g, 0, none⟩) n cap) n xs) (hk : k ≤ n) : w.ownsRow B E 1 (.slice (some ⟨g, 0, none⟩) k cap) k (xs.take k) := by
  have hxl : xs.length = n := by simpa using h.1
  rcases h.2 with ⟨e0, _⟩ | ⟨g', cap', cur, e0, hb, hg, hn, hm, hs, ht⟩
  · cases e0
  · injection e0 with e1 _ e3
    injection e1 with e1
    injection e1 with e1
    subst e1; subst e3
    refine ⟨by simp; omega, .inr ⟨g, cap, cur, rfl, hb, hg, by omega, hm, hs, ?_⟩⟩
    rw [← ht, List.take_take]
    congr 1
    omega
theorem own_cells {B E g n cap : Nat} : ∀ (us : List Value) (o : Nat) {w : World} {xs : List Value}, w.ownsRow B E 1 (.slice (some ⟨g, 0, none⟩) n cap) n xs → o + us.length ≤ n → (w.setCells g o us).ownsRow B E 1 (.slice (some ⟨g, 0, none⟩) n cap) n (xs.take o ++ us ++ xs.drop (o + us.length))
  | [], o, w, xs, h, _ => by
    simp only [List.append_nil, List.length_nil, Nat.add_zero, List.take_append_drop]
    exact h
  | u :: us, o, w, xs, h, hl => by
    have hxl : xs.length = n := by simpa using h.1
    simp only [List.length_cons] at hl
    have h1 := (World.ownsRow.stored h o u).1
    have h2 := own_cells us (o + 1) h1 (by omega)
    have e1 : (xs.set o u).take (o + 1) = xs.take o ++ [u] := by
      rw [List.take_add_one, List.take_set, List.getElem?_set_self (by omega), List.set_eq_of_length_le (by rw [List.length_take]; exact Nat.min_le_left _ _)]
      rfl
    have e2 : (xs.set o u).drop (o + 1 + us.length) = xs.drop (o + (us.length + 1)) := by
      rw [List.drop_set_of_lt (by omega)]
      congr 1
      omega
    rw [e1, e2] at h2
    show ((w.setCell ⟨g, o, none⟩ u).setCells g (o + 1) us).ownsRow _ _ _ _ _ _
    rw [show xs.take o ++ u :: us ++ xs.drop (o + (u :: us).length) = xs.take o ++ [u] ++ us ++ xs.drop (o + (us.length + 1)) by simp]
    exact h2
theorem cpTo_step {rs : List Rw} {m : Nat} {r : Rw} (h : rs[m]? = some r) : cpTo Rw.x rs (m + 1) = cpTo Rw.x rs m ++ (if keepAt (rs.map Rw.x) m then [r] else []) := by
  have hm := (List.getElem?_eq_some_iff.1 h).1
  rw [cpTo, List.drop_eq_getElem_cons hm]
  have e := (List.getElem?_eq_some_iff.1 h).2
  simp [e]
theorem keepAt_two {rs : List Rw} {m : Nat} {r s : Rw} (h1 : rs[m + 1]? = some r) (h0 : rs[m]? = some s) : keepAt (rs.map Rw.x) (m + 1) = !decide (r.x = s.x) := by
  unfold keepAt
  rw [Nat.add_sub_cancel, List.getD_eq_getElem?_getD, List.getD_eq_getElem?_getD, List.getElem?_map, List.getElem?_map, h1, h0]
  simp
theorem mid_at {rs C : List Rw} {m : Nat} {r : Rw} (h : rs[m]? = some r) (hC : C.length ≤ m) : (rwc (C ++ rs.drop C.length))[m]? = some r.u := by
  unfold rwc
  rw [List.getElem?_map, List.getElem?_append_right hC, List.getElem?_drop, show C.length + (m - C.length) = m by omega, h]
  rfl
theorem mid_set {rs C : List Rw} {r : Rw} (hC : C.length < rs.length) : (rwc (C ++ rs.drop C.length)).set C.length r.u = rwc ((C ++ [r]) ++ rs.drop (C ++ [r]).length) := by
  unfold rwc
  rw [List.drop_eq_getElem_cons hC, List.map_append, List.set_append_right _ _ (by simp), List.length_map, Nat.sub_self, List.map_cons, List.set_cons_zero]
  simp
theorem own_cellAt {w : World} {B E g n cap : Nat} {xs : List Value} (h : w.ownsRow B E 1 (.slice (some ⟨g, 0, none⟩) n cap) n xs) {j : Nat} {u : Value} (hj : xs[j]? = some u) : w.cell? ⟨g, j, none⟩ = some u := by
  have := h.cells (g := g) rfl j u hj
  rwa [show ((⟨g, 0, none⟩ : Addr).add j) = ⟨g, j, none⟩ by unfold Addr.add; split <;> simp_all] at this
/-- The second loop of CompactFunc. -/
def CpRel (W : World) (B g cap k : Nat) (rs : List Rw) (v5 v7 : Value) (wr : World) : Prop :=
  ∃ j c : Nat, v5 = .int .i64 c ∧ v7 = .int .i64 ((j : Int) + 1) ∧ k + 2 + j ≤ rs.length ∧ (cpTo Rw.x rs (k + 2 + j)).length = c ∧ c ≤ k + 1 + j ∧ wr.ownsRow B 30 1 (.slice (some ⟨g, 0, none⟩) rs.length cap) rs.length (rwc (cpTo Rw.x rs (k + 2 + j) ++ rs.drop c)) ∧ W.grownBy wr (some g)
theorem cp_skip {W wr : World} {B g cap k j c : Nat} {rs : List Rw} {r : Rw} (hr : rs[k + 2 + j]? = some r) (hk : keepAt (rs.map Rw.x) (k + 2 + j) = false) (hC : (cpTo Rw.x rs (k + 2 + j)).length = c) (hc : c ≤ k + 1 + j)
    (ho : wr.ownsRow B 30 1 (.slice (some ⟨g, 0, none⟩) rs.length cap) rs.length (rwc (cpTo Rw.x rs (k + 2 + j) ++ rs.drop c))) (hg : W.grownBy wr (some g)) (n : Nat) : CpRel W B g cap k rs (.int .i64 c) (.int .i64 ((j : Int) + 1 + 1)) (wr.drewN n) := by
  have e : cpTo Rw.x rs (k + 2 + (j + 1)) = cpTo Rw.x rs (k + 2 + j) := by
    rw [show k + 2 + (j + 1) = k + 2 + j + 1 by omega, cpTo_step hr, hk]; simp
  have hl := (List.getElem?_eq_some_iff.1 hr).1
  refine ⟨j + 1, c, rfl, by simp, by omega, by rw [e]; exact hC, by omega, ?_, only_drewN hg n⟩
  rw [e]
  exact ((Ext.refl wr).drewN n).own ho
theorem cp_keep {W wr : World} {B g cap k j c : Nat} {rs : List Rw} {r : Rw} (hr : rs[k + 2 + j]? = some r) (hk : keepAt (rs.map Rw.x) (k + 2 + j) = true) (hC : (cpTo Rw.x rs (k + 2 + j)).length = c) (hc : c ≤ k + 1 + j)
    (ho : wr.ownsRow B 30 1 (.slice (some ⟨g, 0, none⟩) rs.length cap) rs.length (rwc (cpTo Rw.x rs (k + 2 + j) ++ rs.drop c))) (hg : W.grownBy wr (some g)) (n : Nat) : CpRel W B g cap k rs (.int .i64 ((c : Int) + 1)) (.int .i64 ((j : Int) + 1 + 1)) ((wr.drewN n).setCell ⟨g, c, none⟩ r.u) := by
  have e : cpTo Rw.x rs (k + 2 + (j + 1)) = cpTo Rw.x rs (k + 2 + j) ++ [r] := by
    rw [show k + 2 + (j + 1) = k + 2 + j + 1 by omega, cpTo_step hr, hk]; simp
  have hl := (List.getElem?_eq_some_iff.1 hr).1
  have ho2 := (World.ownsRow.stored (((Ext.refl wr).drewN n).own ho) c r.u).1
  refine ⟨j + 1, c + 1, by simp, by simp, by omega, by rw [e, List.length_append, hC]; rfl, by omega, ?_, only_setCell (only_drewN hg n) rfl _⟩
  rw [e]
  subst hC
  rw [mid_set (by omega)] at ho2
  rw [List.length_append] at ho2
  exact ho2

theorem kept_rows {W wr : World} {b B g n cap : Nat} {rs ss : List Rw} {xs : List Value} (hg : W.grownBy wr (some g)) (hs : W.ownsRow B 30 1 (.slice (some ⟨g, 0, none⟩) n cap) n xs) (hr : ∀ r ∈ rs, OwnI W b r.u r.x ∧ r.x.length ≤ 1000000) (hm : ∀ r, r ∈ ss → r ∈ rs) : ∀ r ∈ ss, OwnI wr b r.u r.x ∧ r.x.length ≤ 1000000 := fun r h =>
  ⟨World.ownsRow.kept (hr r (hm r h)).1 hg (own_ne (hr r (hm r h)).1 hs (by decide)), (hr r (hm r h)).2⟩

set_option maxRecDepth 100000 in
set_option maxHeartbeats 4000000 in
theorem compact_c {W : World} {b B : Nat} {a : Option Addr} {cap : Nat} {rs : List Rw} (hs : RwM W b B (.slice a rs.length cap) rs) (hl : rs.length ≤ 1000000) :
    Calls Tryz.prog 53 #[.slice a rs.length cap, .func (.func 54) #[] #[]] W fun e w' => ∃ v, e = .returned v ∧ RwM w' b B v (cpTo Rw.x rs rs.length) ∧ ∀ w0 : World, Ext w0 W → w0.heap.size = B → Ext w0 w' := by
  by_cases h2 : rs.length < 2
  · have hall : cpTo Rw.x rs rs.length = rs := by
      rw [cpTo_all Rw.x rs rs.length (Nat.le_refl _), List.take_length]
      intro j hj
      have : j = 0 := by omega
      subst this; rfl
    rw [hall]
    have Hs := Lib.hid hs; clear hs hall
    go_enter Tryz.func53, Tryz.ntmps53
    go_wp2
    go_ret
    exact ⟨_, rfl, Hs.out, fun w0 h _ => h⟩
  · obtain ⟨g, cap', e0, hcells⟩ := own_slice hs.1 (by omega)
    injection e0 with e1 _ e3
    subst e1; subst e3
    obtain ⟨n, hn⟩ : ∃ n, n = rs.length := ⟨_, rfl⟩
    have hcap : rs.length ≤ cap := (own_cap hs.1).1
    have hgB : B ≤ g := by
      rcases hs.1.2 with ⟨e0, _⟩ | ⟨g', cap', cur, e0, hb, _⟩
      · cases e0
      · injection e0 with e1 _ _
        injection e1 with e1
        injection e1 with e1
        omega
    have hcell : ∀ j, j < rs.length → ∃ r, r ∈ rs ∧ rs[j]? = some r ∧ W.cell? ⟨g, j, none⟩ = some r.u := fun j hj => by
      obtain ⟨r, hr⟩ : ∃ r, rs[j]? = some r := ⟨_, List.getElem?_eq_getElem hj⟩
      exact ⟨r, List.mem_of_getElem? hr, hr, hcells j r.u (by simp [rwc, hr])⟩
    have Hs := Lib.hid hs; have Hcell := Lib.hid hcell; clear hs hcell hcells hn
    go_enter Tryz.func53, Tryz.ntmps53
    go_wp2
    go_loopw [5] (fun i wr => ∃ k : Nat, i = .int .i64 ((k : Int) + 1) ∧ k + 1 ≤ rs.length ∧ Qu W wr ∧ ∀ j, j < k + 1 → keepAt (rs.map Rw.x) j = true) (fun i _ => rs.length - (intOf i).toNat)
    case atStart => exact ⟨0, rfl, by omega, Qu.refl W, fun j hj => by
      obtain rfl : j = 0 := by omega
      rfl⟩
    case round =>
      obtain ⟨k, rfl, hk, hqu, hkeep⟩ := hrel
      have Hqu := Lib.hid hqu; have Hkeep := Lib.hid hkeep; clear hqu hkeep
      by_cases hlt : k + 1 < rs.length
      · obtain ⟨r1, hm1, hr1, hc1⟩ := Hcell.out (k + 1) hlt
        obtain ⟨r0, hm0, hr0, hc0⟩ := Hcell.out k (by omega)
        have hd1 := Hqu.out.ext.cell hc1
        have hd0 := Hqu.out.ext.cell hc0
        obtain ⟨ho1, hl1⟩ := Hs.out.2 r1 hm1
        obtain ⟨ho0, hl0⟩ := Hs.out.2 r0 hm0
        have hkk : keepAt (rs.map Rw.x) (k + 1) = !decide (r1.x = r0.x) := by
          unfold keepAt
          rw [Nat.add_sub_cancel, List.getD_eq_getElem?_getD, List.getD_eq_getElem?_getD, List.getElem?_map, List.getElem?_map, hr1, hr0]
          simp
        have heq := fun n => requal_c r1.u r0.u r1.x r0.x (wr.drewN n) ((Hqu.out.drewN n).ext.ownI ho1).sl ((Hqu.out.drewN n).ext.ownI ho0).sl hl1 hl0
        generalize decide (r1.x = r0.x) = eqb at *
        have hw1 : IntKind.i64.wrap ((k : Int) + 1 - 1) = (k : Int) := by rw [IntWalk.i64_in _ (by omega)]; omega
        have hk1 : (0 : Int) ≤ (k : Int) + 1 := by omega
        have hk2 : (k : Int) + 1 < (rs.length : Int) := by omega
        have hk3 : (0 : Int) ≤ (k : Int) := by omega
        have hk4 : (k : Int) < (rs.length : Int) := by omega
        have hk5 : ((k : Int) + 1).toNat = k + 1 := by omega
        have Heq := Lib.hid heq; have Hkk := Lib.hid hkk; clear heq hkk hc1 hc0 ho1 ho0 hm1 hm0 hr1 hr0
        obtain ⟨x1, u1, hu1⟩ := r1
        obtain ⟨x0, u0, hu0⟩ := r0
        dsimp only at hd1 hd0
        cases eqb with
        | false =>
          go_wp2
          go_quiet ((go_at_call 54; exact Calls.quiet_of (Heq.out _)))
          clear hw1 hk5
          go_wp2
          go_roundw
          case rel => exact ⟨k + 1, by go_num, by omega, Hqu.out.drewN _, fun j hj => by
            rcases Nat.lt_or_ge j (k + 1) with h | h
            · exact Hkeep.out j h
            · obtain rfl : j = k + 1 := by omega
              exact Hkk.out⟩
          case measure => simp [intOf]; omega
        | true =>
          go_wp2
          go_quiet ((go_at_call 54; exact Calls.quiet_of (Heq.out _)))
          clear hw1 hk5
          obtain ⟨L2, hL2⟩ : ∃ L2, rs.length - (k + 1) = L2 := ⟨_, rfl⟩
          have hL3 : k + 1 + L2 = rs.length := by omega
          have hcc : k + 1 < cap := by omega
          have hcap2 : cap ≤ maxLen := by
            rcases Hs.out.1.2 with ⟨e0, _⟩ | ⟨g', cap', cur, e0, _, _, _, hm, _⟩
            · cases e0
            · injection e0 with _ _ e3; omega
          unfold maxLen at hcap2
          have hown0 : wr.ownsRow B 30 1 (.slice (some ⟨g, 0, none⟩) rs.length cap) rs.length (rwc (cpTo Rw.x rs (k + 2) ++ rs.drop (cpTo Rw.x rs (k + 2)).length)) := by
            obtain ⟨r, hr⟩ : ∃ r, rs[k + 1]? = some r := ⟨_, List.getElem?_eq_getElem hlt⟩
            have e : cpTo Rw.x rs (k + 2) = rs.take (k + 1) := by
              rw [cpTo_step hr, Hkk.out, cpTo_all Rw.x rs (k + 1) (by omega) Hkeep.out]; simp
            rw [e, List.length_take, Nat.min_eq_left (by omega), List.take_append_drop]
            exact Hqu.out.ext.own Hs.out.1
          have hcl0 : (cpTo Rw.x rs (k + 2)).length = k + 1 := by
            obtain ⟨r, hr⟩ : ∃ r, rs[k + 1]? = some r := ⟨_, List.getElem?_eq_getElem hlt⟩
            rw [cpTo_step hr, Hkk.out, cpTo_all Rw.x rs (k + 1) (by omega) Hkeep.out]
            simp; omega
          rw [hcl0] at hown0
          have hgr0 : W.grownBy wr (some g) := by
            obtain ⟨q, rfl⟩ := Hqu.out
            exact only_drewN (only_refl W _) q
          have Hown0 := Lib.hid hown0; have Hcl0 := Lib.hid hcl0; have Hgr0 := Lib.hid hgr0; have HL2 := Lib.hid hL2; have HL3 := Lib.hid hL3
          clear hown0 hcl0 hgr0 hL3
          go_wp2_with fail
          clear hL2
          go_loopw [5, 7] (fun v5 v7 wr => CpRel W B g cap k rs v5 v7 wr) (fun _ v7 _ => rs.length - (intOf v7).toNat)
          case atStart => 
            refine ⟨0, k + 1, by simp, rfl, by omega, Hcl0.out, by omega, Hown0.out, only_drewN Hgr0.out _⟩
          case round =>
            obtain ⟨j, c, rfl, rfl, hj, hC, hc, ho, hg⟩ := hrel
            have hL3 := HL3.out
            by_cases hlt2 : k + 2 + j < rs.length
            · obtain ⟨r, hr⟩ : ∃ r, rs[k + 1 + j + 1]? = some r := ⟨_, List.getElem?_eq_getElem (by omega)⟩
              obtain ⟨s, hs0⟩ : ∃ r, rs[k + 1 + j]? = some r := ⟨_, List.getElem?_eq_getElem (by omega)⟩
              have hkk2 := keepAt_two hr hs0
              have hr2 : rs[k + 2 + j]? = some r := by rw [← hr]; congr 1; omega
              have hkk3 : keepAt (rs.map Rw.x) (k + 2 + j) = !decide (r.x = s.x) := by rw [← hkk2]; congr 1; omega
              have hmid := fun {m : Nat} {r : Rw} (h : rs[m]? = some r) (hm : c ≤ m) => own_cellAt ho (by have := mid_at (C := cpTo Rw.x rs (k + 2 + j)) h (by rw [hC]; exact hm); rw [hC] at this; exact this)
              have hcm : wr.cell? ⟨g, k + 1 + (j + 1), none⟩ = some r.u := hmid (show rs[k + 1 + (j + 1)]? = some r from hr) (by omega)
              have hcp : wr.cell? ⟨g, k + 1 + j, none⟩ = some s.u := hmid hs0 (by omega)
              obtain ⟨t, ht⟩ : ∃ r, rs[c]? = some r := ⟨_, List.getElem?_eq_getElem (by omega)⟩
              have hck : wr.cell? ⟨g, c, none⟩ = some t.u := hmid ht (Nat.le_refl _)
              have hfk : wr.frozen? ⟨g, c, none⟩ = false := World.ownsRow.frozenAt ho c
              have hkr := kept_rows (ss := rs) hg Hs.out.1 Hs.out.2 (fun r h => h)
              obtain ⟨ho1, hl1⟩ := hkr r (List.mem_of_getElem? hr)
              obtain ⟨ho0, hl0⟩ := hkr s (List.mem_of_getElem? hs0)
              have heq := fun n => requal_c r.u s.u r.x s.x (wr.drewN n) (((Ext.refl wr).drewN n).ownI ho1).sl (((Ext.refl wr).drewN n).ownI ho0).sl hl1 hl0
              have hskip := fun (e : decide (r.x = s.x) = true) n => cp_skip hr2 (by rw [hkk3, e]; rfl) hC hc ho hg n
              have hkeep2 := fun (e : decide (r.x = s.x) = false) n => cp_keep hr2 (by rw [hkk3, e]; rfl) hC hc ho hg n
              generalize decide (r.x = s.x) = eqb at *
              have hw1 : IntKind.i64.wrap ((j : Int) + 1 - 1) = (j : Int) := by rw [IntWalk.i64_in _ (by omega)]; omega
              have hj1 : (0 : Int) ≤ (j : Int) + 1 := by omega
              have hj2 : (j : Int) + 1 < (L2 : Int) := by omega
              have hj3 : (0 : Int) ≤ (j : Int) := by omega
              have hj4 : (j : Int) < (L2 : Int) := by omega
              have hj5 : ((j : Int) + 1).toNat = j + 1 := by omega
              have hc1 : (c : Int) < (rs.length : Int) := by omega
              have hc0 : (0 : Int) ≤ (c : Int) := by omega
              have Heq := Lib.hid heq; have Hskip := Lib.hid hskip; have Hkeep2 := Lib.hid hkeep2; have Ho1 := Lib.hid ho1
              clear heq hskip hkeep2 hkk2 hkk3 hr2 hmid hkr ho1 ho0 hr hs0 ht ho hg hC hl1 hl0 hL3
              obtain ⟨x1, u1, hu1⟩ := r
              obtain ⟨x0, u0, hu0⟩ := s
              dsimp only at hcm hcp
              generalize t.u = tu at *
              have ho1 := Ho1.out
              dsimp only at ho1
              obtain ⟨a1, c1, rfl⟩ := own_shape ho1
              clear ho1 Ho1
              cases eqb with
              | false =>
                go_wp2
                go_quiet ((go_at_call 54; exact Calls.quiet_of (Heq.out _)))
                clear hw1 hj5
                go_wp2
                go_roundw
                case rel => exact Hkeep2.out (by first | rfl | trivial) _
                case measure => simp [intOf]; omega
              | true =>
                go_wp2
                go_quiet ((go_at_call 54; exact Calls.quiet_of (Heq.out _)))
                clear hw1 hj5
                go_wp2
                go_roundw
                case rel => exact Hskip.out (by first | rfl | trivial) _
                case measure => simp [intOf]; omega
            · have hmn : k + 2 + j = rs.length := by omega
              rw [hmn] at hC ho
              have hjn : ¬ (j : Int) + 1 < (L2 : Int) := by omega
              have hcn : c < rs.length := by omega
              have hcap3 : c < cap := by omega
              have hnil : ∀ w, (zeroValue 30).run Tryz.prog w = .ok (.slice none 0 0) w := fun w => by kernel_rfl
              have hcl : ∀ ty, (Builtin.clear_ #[36] ty #[.slice (some ⟨g, c, none⟩) (rs.length - c) (cap - c)]).run Tryz.prog wr = .ok (.tuple #[]) (wr.setCells g c (List.replicate (rs.length - c) (.slice none 0 0))) := fun ty =>
                Lib.run_clear_slice wr _ _ ty _ Tryz.underlying36 hnil rfl rfl g c _ _ (by omega) (fun t ht => by
                  obtain ⟨r, hr⟩ : ∃ r, rs[c + t]? = some r := ⟨_, List.getElem?_eq_getElem (by omega)⟩
                  have := own_cellAt ho (by have := mid_at (C := cpTo Rw.x rs rs.length) hr (by omega); rw [hC] at this; exact this)
                  rw [this]; rfl) (fun t _ => World.ownsRow.frozenAt ho (c + t))
              have hE9 : W.grownBy (wr.setCells g c (List.replicate (rs.length - c) (.slice none 0 0))) (some g) := only_setCells hg _ _
              have ho9 := own_cut (own_cells (List.replicate (rs.length - c) (.slice none 0 0)) c ho (by simp; omega)) (Nat.le_of_lt hcn)
              have hrow9 : (wr.setCells g c (List.replicate (rs.length - c) (.slice none 0 0))).ownsRow B 30 1 (.slice (some ⟨g, 0, none⟩) c cap) c (rwc (cpTo Rw.x rs rs.length)) := by
                have e : ((rwc (cpTo Rw.x rs rs.length ++ rs.drop c)).take c ++ List.replicate (rs.length - c) (Value.slice none 0 0) ++ (rwc (cpTo Rw.x rs rs.length ++ rs.drop c)).drop (c + (List.replicate (rs.length - c) (Value.slice none 0 0)).length)).take c = rwc (cpTo Rw.x rs rs.length) := by
                  have hl : (rwc (cpTo Rw.x rs rs.length)).length = c := by rw [rwc_length, hC]
                  rw [show rwc (cpTo Rw.x rs rs.length ++ rs.drop c) = rwc (cpTo Rw.x rs rs.length) ++ rwc (rs.drop c) by simp [rwc]]
                  rw [List.append_assoc, List.take_left' (by rw [List.length_take, List.length_append]; omega), List.take_left' hl]
                rw [e] at ho9
                exact ho9
              have hr9 := kept_rows (ss := cpTo Rw.x rs rs.length) hE9 Hs.out.1 Hs.out.2 (fun r h => cpTo_mem _ _ _ h)
              have HC := Lib.hid hC; have Hrow9 := Lib.hid hrow9; have Hr9 := Lib.hid hr9; have HE9 := Lib.hid hE9
              clear hC hrow9 hr9 hE9 ho9 ho hg hnil hmn hL3
              go_wp2
              go_ret
              exact ⟨_, rfl, ⟨by rw [HC.out]; exact Hrow9.out, Hr9.out⟩, fun w0 h hB => h.grown HE9.out fun k hk => by cases hk; omega⟩
      · obtain hkn : k + 1 = rs.length := by omega
        have hall : cpTo Rw.x rs rs.length = rs := by
          rw [cpTo_all Rw.x rs rs.length (Nat.le_refl _) (by rw [← hkn]; exact Hkeep.out), List.take_length]
        have Hall := Lib.hid hall; have Hkn := Lib.hid hkn; clear hall hkn
        have hk1 : ¬ (k : Int) + 1 < (rs.length : Int) := by omega
        go_wp2
        go_ret
        exact ⟨_, rfl, by rw [Hall.out]; exact Hqu.out.ext.rwM Hs.out, fun w0 h _ => h.trans Hqu.out.ext⟩

end Go.Proofs.YtkamjjjimbbdmaaGreatDoor

namespace Go.Proofs.YtkamjjjimbbdmaaGreatDoor
open Go.RowKit Go.Lib Go.Shelf Go.Sort

theorem put_mapG {α : Type} [Inhabited α] (f : α → Value) (w : World) (g q off : Nat) (ys : Array α) : putRow f (Sort.ahead w q) g off ys = putRow id (Sort.ahead w q) g off (ys.map f) := by
  unfold putRow
  congr 1
  funext cur
  unfold putCells
  apply Array.ext
  · simp
  · intro i h1 h2
    simp only [Array.getElem_mapIdx, Array.size_map]
    by_cases h : off ≤ i ∧ i < off + ys.size
    · rw [if_pos h, if_pos h]
      have hj : i - off < ys.size := by omega
      simp [getElem!_pos, hj]
    · rw [if_neg h, if_neg h]
theorem lift_rows {W : World} {b : Nat} : ∀ rs : List Rw, (∀ r ∈ rs, OwnI W b r.u r.x ∧ r.x.length ≤ 1000000) → ∃ d : List (RwAt W b), d.map RwAt.r = rs
  | [], _ => ⟨[], rfl⟩
  | r :: rs, h => by
    obtain ⟨d, hd⟩ := lift_rows rs fun s hs => h s (List.mem_cons_of_mem _ hs)
    exact ⟨⟨r, h r (List.mem_cons_self ..)⟩ :: d, by rw [List.map_cons, hd]⟩
theorem grown_sort {W : World} {b g n : Nat} (d : Array (RwAt W b)) (os : Array Obj) : W.grownBy (sortWorld RwAt.enc W g 0 n d os) (some g) := by
  unfold sortWorld
  rw [put_mapG]
  exact grownBy_put W g n _ os

set_option maxHeartbeats 1000000 in
theorem sortR_c {W : World} {b B : Nat} {a : Option Addr} {cap : Nat} {rs : List Rw} (hs : RwM W b B (.slice a rs.length cap) rs) (hl : rs.length ≤ 1000000) :
    Calls Tryz.prog 51 #[.slice a rs.length cap, .func (.func 52) #[] #[]] W fun e w' => e = .returned (.tuple #[]) ∧ ∃ rs' : List Rw, RwM w' b B (.slice a rs.length cap) rs' ∧ rs'.Perm rs ∧ rs'.Pairwise (fun a b => cmpL a.x b.x ≤ 0) ∧ ∀ w0 : World, Ext w0 W → w0.heap.size = B → Ext w0 w' := by
  rcases Nat.eq_zero_or_pos rs.length with h0 | hpos
  · obtain rfl := List.eq_nil_of_length_eq_zero h0
    have L0 : SlLaysF0.n6 Tryz.prog Tryz.lSortRow_ren := { Tryz.lSortRow with }
    exact (AnyF.slices_SortFunc_none L0 a cap _ W).mono fun e w' ⟨h1, h2⟩ => ⟨h1, [], by rw [h2]; exact hs, List.Perm.refl _, List.Pairwise.nil, fun w0 h0 _ => by rw [h2]; exact h0⟩
  · obtain ⟨g, cap', e0, hcells⟩ := own_slice hs.1 hpos
    injection e0 with e1 _ e3
    subst e1; subst e3
    obtain ⟨d, hd⟩ := lift_rows rs hs.2
    have hdl : d.length = rs.length := by rw [← hd, List.length_map]
    have hgB : B ≤ g := by
      rcases hs.1.2 with ⟨e0, _⟩ | ⟨g', cap', cur, e0, hb, _⟩
      · cases e0
      · injection e0 with e1 _ _
        injection e1 with e1
        injection e1 with e1
        omega
    have hat : ∀ j, (h : j < d.length) → W.cell? ⟨g, j, none⟩ = some (RwAt.enc d[j]) := fun j h => by
      refine hcells j _ ?_
      rw [← hd]
      simp [rwc, RwAt.enc, h]
    have hH : Holds RwAt.enc W g 0 d.toArray := by
      intro j hj
      have hj' : j < d.length := by simpa using hj
      refine ⟨?_, ?_⟩
      · rw [Nat.zero_add, hat j hj']
        simp [getElem!_pos, hj']
      · rw [Nat.zero_add]; exact World.ownsRow.frozenAt hs.1 j
    have hg : g < W.heap.size := World.block_lt_of_cell? _ _ (hat 0 (by omega))
    have eg : ∀ args w, (callFunc 52 args).run Tryz.prog w = .ok (.enter 52 args) w := enters_of Tryz.func52 (by kernel_rfl) rfl
    have hcmp : CmpLays1 Tryz.prog 52 #[] RwAt.enc (cfR (W := W) (B := b)) g 0 d.toArray.size W := by
      intro m os dk _ x y
      have hgr := grown_sort (g := g) (n := m) dk os
      have k1 : OwnI (sortWorld RwAt.enc W g 0 m dk os) b x.1.u x.1.x := World.ownsRow.kept x.2.1 hgr (own_ne x.2.1 hs.1 (by decide))
      have k2 : OwnI (sortWorld RwAt.enc W g 0 m dk os) b y.1.u y.1.x := World.ownsRow.kept y.2.1 hgr (own_ne y.2.1 hs.1 (by decide))
      refine (rcompare_c x.1.u y.1.u x.1.x y.1.x (sortWorld RwAt.enc W g 0 m dk os) k1.sl k2.sl x.2.2 y.2.2).mono ?_
      rintro e w' ⟨rfl, rfl⟩
      exact ⟨rfl, 0, #[], by rw [grow_empty]; rfl⟩
    have hone : OneCell (RwAt.enc (W := W) (B := b)) := fun r => r.1.hu
    have hcon := Any.slices_SortFunc Tryz.lSortRow RwAt.enc hone cfR swoR 52 #[] g 0 cap d.toArray W eg hcmp hH hg (by simp; omega)
    rw [List.size_toArray, hdl] at hcon
    refine Calls.mono hcon ?_
    rintro e w' ⟨rfl, d', n, os, hp, hso, rfl⟩
    obtain ⟨hd1, _, hd3⟩ := hp
    have hsz : d'.size = rs.length := by rw [hd1]; simpa using hdl
    have hperm : d'.toList.Perm d := by
      have : (d'.extract 0 rs.length).toList.Perm (d.toArray.extract 0 rs.length).toList := hd3
      simpa [hsz, hdl, List.take_of_length_le] using this
    have hgrow := grown_sort (g := g) (n := n) d' os
    have hperm2 : (d'.toList.map RwAt.r).Perm rs := by rw [← hd]; exact hperm.map _
    refine ⟨rfl, d'.toList.map RwAt.r, ⟨?_, ?_⟩, hperm2, ?_, ?_⟩
    · have h1 := own_put (q := n) (ys := rwc (d'.toList.map RwAt.r)) hs.1 (by rw [rwc_length]; simp [hsz])
      have h2 : (grow (putRow id (Sort.ahead W n) g 0 (rwc (d'.toList.map RwAt.r)).toArray) os).ownsRow B 30 1 (.slice (some ⟨g, 0, none⟩) rs.length cap) rs.length (rwc (d'.toList.map RwAt.r)) := ((Ext.refl _).grow os).own h1
      unfold sortWorld
      rw [put_mapG, show d'.map RwAt.enc = (rwc (d'.toList.map RwAt.r)).toArray by apply Array.toList_inj.1; simp [rwc, RwAt.enc]]
      rw [show (d'.toList.map RwAt.r).length = rs.length by simpa using hsz]
      exact h2
    · exact kept_rows hgrow hs.1 hs.2 (fun r h => hperm2.mem_iff.1 h)
    · rw [List.pairwise_map, List.pairwise_iff_getElem]
      intro i j hi hj hij
      have := hso i j (Nat.zero_le _) hij (by simpa [hsz] using hj)
      have hi' : i < d'.size := by simpa using hi
      have hj' : j < d'.size := by simpa using hj
      rw [getElem!_pos d' j hj', getElem!_pos d' i hi'] at this
      unfold ltOf cfR at this
      have h3 := of_decide_eq_false this
      have h4 := cmpL_swap (d'[i]).1.x (d'[j]).1.x
      have h5 : cmpL (d'[i]).1.x (d'[j]).1.x ≤ 0 := by omega
      simpa using h5
    · intro w0 h0 hB0
      exact h0.grown hgrow fun k hk => by cases hk; omega

end Go.Proofs.YtkamjjjimbbdmaaGreatDoor

namespace Go.Proofs.YtkamjjjimbbdmaaGreatDoor
open Go.RowKit Go.Lib Go.Shelf Go.Sort

/-- A row and a multiple of another one. -/
def addK (y x : List Int) (k : Int) : List Int := (List.range y.length).map fun i => nthI y i + k * nthI x i
def addTo (y x : List Int) (k : Int) (t : Nat) : List Int := (List.range y.length).map fun i => if i < t then nthI y i + k * nthI x i else nthI y i
theorem addK_length (y x : List Int) (k : Int) : (addK y x k).length = y.length := by simp [addK]
theorem addTo_length (y x : List Int) (k : Int) (t : Nat) : (addTo y x k t).length = y.length := by simp [addTo]
theorem nthI_range {f : Nat → Int} {n i : Nat} (h : i < n) : nthI ((List.range n).map f) i = f i := by
  unfold nthI
  rw [List.getD_eq_getElem?_getD, List.getElem?_map, List.getElem?_range h]; rfl
theorem nthI_out {l : List Int} {i : Nat} (h : l.length ≤ i) : nthI l i = 0 := by
  unfold nthI
  rw [List.getD_eq_getElem?_getD, List.getElem?_eq_none h]; rfl
theorem ext_nth {a b : List Int} (hl : a.length = b.length) (h : ∀ i, i < a.length → nthI a i = nthI b i) : a = b := by
  refine Classical.byContradiction fun hn => ?_
  obtain ⟨i, hi, hne⟩ := ne_at hl hn
  exact hne (h i hi)
theorem addTo_zero (y x : List Int) (k : Int) : addTo y x k 0 = y := by
  refine ext_nth (addTo_length ..) fun i hi => ?_
  rw [addTo_length] at hi
  unfold addTo
  rw [nthI_range hi, if_neg (by omega)]
theorem addTo_full (y x : List Int) (k : Int) : addTo y x k y.length = addK y x k := by
  refine ext_nth (by rw [addTo_length, addK_length]) fun i hi => ?_
  rw [addTo_length] at hi
  unfold addTo addK
  rw [nthI_range hi, nthI_range hi, if_pos hi]
theorem nthI_set' (l : List Int) (i j : Nat) (z : Int) : nthI (l.set i z) j = if i = j ∧ i < l.length then z else nthI l j := by
  unfold nthI
  rw [List.getD_eq_getElem?_getD, List.getD_eq_getElem?_getD, List.getElem?_set]
  by_cases h : i = j
  · subst h
    by_cases g : i < l.length
    · simp [g]
    · simp [g]
  · simp [h]
theorem addTo_set (y x : List Int) (k : Int) {t : Nat} (ht : t < y.length) : (addTo y x k t).set t (nthI y t + k * nthI x t) = addTo y x k (t + 1) := by
  refine ext_nth (by rw [List.length_set, addTo_length, addTo_length]) fun i hi => ?_
  rw [List.length_set, addTo_length] at hi
  rw [nthI_set']
  by_cases h : t = i
  · subst h
    rw [if_pos ⟨rfl, by rw [addTo_length]; exact ht⟩]
    unfold addTo
    rw [nthI_range hi, if_pos (by omega)]
  · rw [if_neg (fun g => h g.1)]
    unfold addTo
    rw [nthI_range hi, nthI_range hi]
    by_cases g : i < t
    · rw [if_pos g, if_pos (by omega)]
    · rw [if_neg g, if_neg (by omega)]
theorem nthI_addTo (y x : List Int) (k : Int) {t i : Nat} (hi : i < y.length) (ht : t ≤ i) : nthI (addTo y x k t) i = nthI y i := by
  unfold addTo
  rw [nthI_range hi, if_neg (by omega)]

def fan (m : Nat) (x y : List Int) (t : Nat) : List (List Int) := (List.range t).map fun (s : Nat) => addK y x ((s : Int) - (m : Int))
theorem fan_succ (m : Nat) (x y : List Int) (t : Nat) : fan m x y (t + 1) = fan m x y t ++ [addK y x ((t : Int) - (m : Int))] := by
  unfold fan; rw [List.range_succ, List.map_append]; rfl
theorem fan_length (m : Nat) (x y : List Int) (t : Nat) : (fan m x y t).length = t := by simp [fan]
def spread (m : Nat) (x : List Int) (all : List (List Int)) : List (List Int) := all.flatMap fun y => fan m x y (2 * m + 1)
theorem spread_snoc (m : Nat) (x : List Int) (all : List (List Int)) (y : List Int) : spread m x (all ++ [y]) = spread m x all ++ fan m x y (2 * m + 1) := by
  simp [spread]
theorem spread_length (m : Nat) (x : List Int) (all : List (List Int)) : (spread m x all).length = all.length * (2 * m + 1) := by
  induction all with
  | nil => simp [spread]
  | cons y r ih =>
    rw [spread, List.flatMap_cons, List.length_append, fan_length, List.length_cons, Nat.add_mul]
    have : (List.flatMap (fun y => fan m x y (2 * m + 1)) r).length = r.length * (2 * m + 1) := ih
    omega
def combAll (m : Nat) (l : List (List Int)) (all : List (List Int)) : List (List Int) := l.foldl (fun a x => spread m x a) all
theorem combAll_snoc (m : Nat) (l : List (List Int)) (x : List Int) (all : List (List Int)) : combAll m (l ++ [x]) all = spread m x (combAll m l all) := by
  unfold combAll; rw [List.foldl_append]; rfl

/-- Rows of one length with small elements. -/
def Tame (L : Nat) (c : Int) (l : List (List Int)) : Prop := ∀ y ∈ l, y.length = L ∧ ∀ i, -c ≤ nthI y i ∧ nthI y i ≤ c
theorem mul_bd {k z m : Int} (h1 : -m ≤ k) (h2 : k ≤ m) (hz1 : -1000 ≤ z) (hz2 : z ≤ 1000) (h0 : 0 ≤ m) : -(m * 1000) ≤ k * z ∧ k * z ≤ m * 1000 := by
  have h3 : (k * z).natAbs ≤ m.natAbs * 1000 := by rw [Int.natAbs_mul]; exact Nat.mul_le_mul (by omega) (by omega)
  omega
theorem fan_tame {m L : Nat} {c : Int} {x y : List Int} (hm : m ≤ 10000) (hy : y.length = L ∧ ∀ i, -c ≤ nthI y i ∧ nthI y i ≤ c) (hx : ∀ i, -1000 ≤ nthI x i ∧ nthI x i ≤ 1000) (hc : 0 ≤ c) (t : Nat) (ht : t ≤ 2 * m + 1) : Tame L (c + 10000000) (fan m x y t) := by
  intro z hz
  unfold fan at hz
  obtain ⟨s, hs, rfl⟩ := List.mem_map.1 hz
  have hs := List.mem_range.1 hs
  refine ⟨by rw [addK_length]; exact hy.1, fun i => ?_⟩
  rcases Nat.lt_or_ge i y.length with h | h
  · unfold addK
    rw [nthI_range h]
    have h1 := hy.2 i
    have h2 := hx i
    have h3 := mul_bd (k := (s : Int) - (m : Int)) (z := nthI x i) (m := m) (by omega) (by omega) h2.1 h2.2 (by omega)
    omega
  · rw [nthI_out (by rw [addK_length]; exact h)]; omega
theorem spread_tame {m L : Nat} {c : Int} {x : List Int} {all : List (List Int)} (hm : m ≤ 10000) (hy : Tame L c all) (hx : ∀ i, -1000 ≤ nthI x i ∧ nthI x i ≤ 1000) (hc : 0 ≤ c) : Tame L (c + 10000000) (spread m x all) := by
  intro z hz
  obtain ⟨y, hy1, hz⟩ := List.mem_flatMap.1 hz
  exact fan_tame hm (hy y hy1) hx hc _ (Nat.le_refl _) z hz

theorem rowsErr_zero {n : Nat} : ∀ {l : List (List Int)}, rowsErr n l = 0 → ∀ x ∈ l, rowErr n x = 0
  | [], _, _, h => by cases h
  | a :: l, h, x, hx => by
    rw [rowsErr] at h
    by_cases g : rowErr n a = 0
    · rw [if_neg (by simpa using g)] at h
      rcases List.mem_cons.1 hx with rfl | hx
      · exact g
      · exact rowsErr_zero h x hx
    · rw [if_pos g] at h; exact absurd h g
theorem allErr_zero {p : List Int} {l : List (List Int)} (h : allErr p l = 0) : primesErr p = 0 ∧ ∀ x ∈ l, x.length = p.length ∧ ∀ i, -1000 ≤ nthI x i ∧ nthI x i ≤ 1000 := by
  unfold allErr at h
  by_cases h0 : primesErr p = 0
  · rw [if_neg (by simpa using h0)] at h
    refine ⟨h0, fun x hx => ?_⟩
    obtain ⟨h1, h2⟩ := rowErr_zero (rowsErr_zero h x hx)
    refine ⟨h1, fun i => ?_⟩
    rcases Nat.lt_or_ge i x.length with g | g
    · exact h2 i g
    · rw [nthI_out g]; omega
  · rw [if_pos h0] at h; exact absurd h h0

/-- What Combine makes of all sums. -/
def posOf (p : List Int) (all : List (List Int)) : List (List Int) := all.filter fun z => decide (0 < signP p z)
def CombOf (p : List Int) (all : List (List Int)) (out : List (List Int)) : Prop :=
  ∃ s : List (List Int), s.Perm (posOf p all) ∧ s.Pairwise (fun a b => cmpL a b ≤ 0) ∧ out = cpTo id s s.length

end Go.Proofs.YtkamjjjimbbdmaaGreatDoor

namespace Go.Proofs.YtkamjjjimbbdmaaGreatDoor
open Go.RowKit Go.Lib Go.Shelf Go.Sort

set_option maxRecDepth 100000 in
set_option maxHeartbeats 1000000 in
theorem combErr_c (vp vl : Value) (p : List Int) (l : List (List Int)) (m : Int) (w : World) (hp : Sl w vp (i64s p)) (hl : Mat w vl l) (hlp : p.length ≤ 1000000) (hll : l.length ≤ 1000000) (hrow : ∀ i, (l.getD i []).length ≤ 1000000) (hc : allErr p l ≠ 0) :
    Calls Tryz.prog 21 #[vp, vl, .int .i64 m] w fun e w' => e = .returned (.tuple #[.slice none 0 0, .int .i64 (allErr p l)]) ∧ w = w' := by
  have hck := checkAll_c vp vl p l w hp hl hlp hll hrow
  have ht : (allErr p l != 0) = true := by rw [bne_iff_ne]; exact hc
  generalize allErr p l = r at *
  have Hck := Lib.hid hck; clear hck hc hrow
  obtain ⟨ap, cp, rfl, _, _, _⟩ := hp.parts
  obtain ⟨vs, hvs, hsl, _⟩ := hl
  obtain ⟨al, cl, rfl, _, _, _⟩ := hsl.parts
  clear hp hsl hvs
  go_enter Tryz.func21, Tryz.ntmps21
  go_wp2_with fail
  refine Hck.out.mono ?_
  rintro e w1 ⟨rfl, rfl⟩
  go_wp2
  go_ret2
  exact ⟨rfl, rfl⟩

set_option maxRecDepth 100000 in
set_option maxHeartbeats 1000000 in
theorem combNeg_c (vp vl : Value) (p : List Int) (l : List (List Int)) (m : Int) (w : World) (hp : Sl w vp (i64s p)) (hl : Mat w vl l) (hlp : p.length ≤ 1000000) (hll : l.length ≤ 1000000) (hrow : ∀ i, (l.getD i []).length ≤ 1000000) (hc : allErr p l = 0) (hm : m < 0) :
    Calls Tryz.prog 21 #[vp, vl, .int .i64 m] w fun e w' => e = .returned (.tuple #[.slice none 0 0, .int .i64 3]) ∧ w = w' := by
  have hck := checkAll_c vp vl p l w hp hl hlp hll hrow
  rw [hc] at hck
  have Hck := Lib.hid hck; clear hck hc hrow
  obtain ⟨ap, cp, rfl, _, _, _⟩ := hp.parts
  obtain ⟨vs, hvs, hsl, _⟩ := hl
  obtain ⟨al, cl, rfl, _, _, _⟩ := hsl.parts
  clear hp hsl hvs
  go_enter Tryz.func21, Tryz.ntmps21
  go_wp2_with fail
  refine Hck.out.mono ?_
  rintro e w1 ⟨rfl, rfl⟩
  go_wp2
  go_ret2
  exact ⟨rfl, rfl⟩

/-- Counting the sums. -/
def pw (m k : Nat) : Nat := (2 * m + 1) ^ k
theorem pw_zero (m : Nat) : pw m 0 = 1 := rfl
theorem pw_succ (m k : Nat) : pw m (k + 1) = pw m k * (2 * m + 1) := Nat.pow_succ (2 * m + 1) k
theorem pw_mono (m : Nat) {i j : Nat} (h : i ≤ j) : pw m i ≤ pw m j := Nat.pow_le_pow_right (by omega) h
def CntRel (m n : Nat) (v9 v34 : Value) : Prop := ∃ k : Nat, v34 = .int .i64 k ∧ k ≤ n ∧ v9 = .int .i64 ((pw m k : Nat) : Int) ∧ pw m k ≤ 10000
theorem cnt_mul (m k : Nat) : ((pw m k : Nat) : Int) * (2 * (m : Int) + 1) = ((pw m (k + 1) : Nat) : Int) := by
  rw [pw_succ, Int.natCast_mul]; congr 1
theorem cnt_le {m k : Nat} (hm : m ≤ 10000) (h : pw m k ≤ 10000) : pw m (k + 1) ≤ 200010000 := by
  rw [pw_succ]; exact Nat.mul_le_mul h (show 2 * m + 1 ≤ 20001 by omega)

set_option maxRecDepth 100000 in
set_option maxHeartbeats 1000000 in
theorem combLim_c (vp vl : Value) (p : List Int) (l : List (List Int)) (m i : Nat) (w : World) (hp : Sl w vp (i64s p)) (hl : Mat w vl l) (hlp : p.length ≤ 1000000) (hll : l.length ≤ 1000000) (hrow : ∀ i, (l.getD i []).length ≤ 1000000) (hc : allErr p l = 0) (hm : m ≤ 10000) (hi : i ≤ l.length) (hx : 10000 < pw m i) :
    Calls Tryz.prog 21 #[vp, vl, .int .i64 m] w fun e w' => e = .returned (.tuple #[.slice none 0 0, .int .i64 4]) ∧ w = w' := by
  have hck := checkAll_c vp vl p l w hp hl hlp hll hrow
  rw [hc] at hck
  obtain ⟨ap, cp, rfl, _, _, _⟩ := hp.parts
  obtain ⟨vs, hvs, hsl, _⟩ := hl
  obtain ⟨al, cl, rfl, _, _, _⟩ := hsl.parts
  rw [hvs] at *
  have Hck := Lib.hid hck; clear hck hc hrow
  clear hp hsl hvs
  have Hx := Lib.hid hx; clear hx
  go_enter Tryz.func21, Tryz.ntmps21
  go_wp2_with fail
  refine Hck.out.mono ?_
  rintro e w1 ⟨rfl, rfl⟩
  go_wp2_with fail
  go_loop [9, 34] (fun v9 v34 => CntRel m l.length v9 v34) (fun _ v34 => l.length - (intOf v34).toNat)
  case atStart => exact ⟨0, rfl, Nat.zero_le _, by rw [pw_zero]; rfl, by rw [pw_zero]; omega⟩
  case round =>
    obtain ⟨k, rfl, hk, rfl, hpw⟩ := hrel
    by_cases hlt : k < l.length
    · have hmul := cnt_mul m k
      have hle := cnt_le hm hpw
      by_cases hbig : pw m (k + 1) ≤ 10000
      · have hb := hbig
        have hn1 : ¬ (10000 : Int) < (m : Int) := by omega
        go_wp2
        go_round
        case rel => exact ⟨k + 1, by go_num, by omega, by rfl, by omega⟩
        case measure => simp [intOf]; omega
      · generalize pw m (k + 1) = c2 at *
        generalize pw m k = c1 at *
        have hn1 : ¬ (10000 : Int) < (m : Int) := by omega
        have hn2 : (10000 : Int) < (c2 : Int) := by omega
        go_wp2
        go_ret2
        exact ⟨rfl, rfl⟩
    · exfalso
      obtain rfl : k = l.length := by omega
      have h1 : pw m i ≤ pw m l.length := pw_mono m hi
      have := Hx.out
      omega

end Go.Proofs.YtkamjjjimbbdmaaGreatDoor

namespace Go.Proofs.YtkamjjjimbbdmaaGreatDoor
open Go.RowKit Go.Lib Go.Shelf Go.Sort

theorem rwm_mono {w : World} {b b' B B' : Nat} {v : Value} {rs : List Rw} (h : RwM w b B v rs) (hb : b' ≤ b) (hB : B' ≤ B) : RwM w b' B' v rs := ⟨own_mono h.1 hB, fun r hr => ⟨own_mono (h.2 r hr).1 hb, (h.2 r hr).2⟩⟩
theorem rwm_nil (w : World) (b B : Nat) : RwM w b B (.slice none 0 0) [] := ⟨World.ownsRow_nil w _ _ 1, fun _ h => by cases h⟩

/-- One more row at the end of a list. -/
theorem rwm_more {b : Nat} {W2 W6 W7 : World} {v v7 : Value} {rs : List Rw} {r : Rw} {tmp : Obj} (hr : RwM W6 b W2.heap.size v rs) (hu : OwnI W6 b r.u r.x) (hl : r.x.length ≤ 1000000) (hE : Ext W2 W6)
    (hown7 : W7.ownsRow W2.heap.size 30 1 v7 (rs.length + 1) (rwc rs ++ [r.u])) (hg7 : (W6.alloc tmp).grownBy W7 v.ownBlock) : RwM W7 b W2.heap.size v7 (rs ++ [r]) ∧ Ext W2 W7 := by
  have keep : ∀ {a x}, OwnI W6 b a x → OwnI W7 b a x := fun ho => World.ownsRow.kept (((Ext.refl W6).alloc tmp).ownI ho) hg7 (own_ne ho hr.1 (by decide))
  refine ⟨⟨?_, ?_⟩, ext_grown hE hr.1 hg7⟩
  · rw [List.length_append, show rwc (rs ++ [r]) = rwc rs ++ [r.u] by simp [rwc]]
    exact hown7
  · intro s hs
    rcases List.mem_append.1 hs with h | h
    · exact ⟨keep (hr.2 s h).1, (hr.2 s h).2⟩
    · simp only [List.mem_singleton] at h
      subst h
      exact ⟨keep hu, hl⟩

def CbOut (m L B : Nat) (l : List (List Int)) (w : World) (v i : Value) (wr : World) : Prop :=
  ∃ (k : Nat) (rs : List Rw), i = .int .i64 k ∧ k ≤ l.length ∧ RwM wr B B v rs ∧ rs.map Rw.x = combAll m (l.take k) [List.replicate L 0] ∧ rs.length = pw m k ∧ Tame L ((k : Int) * 10000000) (rs.map Rw.x) ∧ Ext w wr
def CbMid (m B : Nat) (x : List Int) (rs : List Rw) (W2 : World) (v j : Value) (wr : World) : Prop :=
  ∃ (k : Nat) (rs2 : List Rw), j = .int .i64 k ∧ k ≤ rs.length ∧ RwM wr B W2.heap.size v rs2 ∧ rs2.map Rw.x = spread m x ((rs.map Rw.x).take k) ∧ Ext W2 wr
def CbIn (m B k : Nat) (x y : List Int) (rs : List Rw) (W2 : World) (v t : Value) (wr : World) : Prop :=
  ∃ (s : Nat) (rs2 : List Rw), t = .int .i64 ((s : Int) - (m : Int)) ∧ s ≤ 2 * m + 1 ∧ RwM wr B W2.heap.size v rs2 ∧ rs2.map Rw.x = spread m x ((rs.map Rw.x).take k) ++ fan m x y s ∧ Ext W2 wr

def CombPost (p : List Int) (all : List (List Int)) (w : World) (e : Ending) (w' : World) : Prop :=
  ((∃ z ∈ all, oneErr p z ≠ 0) ∧ e = .returned (.tuple #[.slice none 0 0, .int .i64 4]) ∧ Ext w w') ∨
  ((∀ z ∈ all, oneErr p z = 0) ∧ ∃ v rs, e = .returned (.tuple #[v, .int .i64 0]) ∧ RwM w' w.heap.size w.heap.size v rs ∧ CombOf p all (rs.map Rw.x) ∧ Ext w w')
def CbPos (p : List Int) (B : Nat) (rs : List Rw) (W5 : World) (v i : Value) (wr : World) : Prop :=
  ∃ (k : Nat) (rs2 : List Rw), i = .int .i64 k ∧ k ≤ rs.length ∧ RwM wr B W5.heap.size v rs2 ∧ rs2 = (rs.take k).filter (fun r => decide (0 < signP p r.x)) ∧ (∀ r ∈ rs.take k, oneErr p r.x = 0) ∧ Ext W5 wr
theorem filter_more {rs : List Rw} {k : Nat} {r : Rw} (f : Rw → Bool) (h : rs[k]? = some r) : (rs.take (k + 1)).filter f = (rs.take k).filter f ++ (if f r then [r] else []) := by
  rw [List.take_add_one, h, List.filter_append]
  cases hf : f r <;> simp [hf]

set_option maxRecDepth 100000 in
set_option maxHeartbeats 8000000 in
theorem combine_w (vp vl : Value) (p : List Int) (l : List (List Int)) (m : Nat) (w : World) (he : Env w) (hp : Sl w vp (i64s p)) (hl : Mat w vl l) (hll : l.length ≤ 100) (hrow : ∀ i, (l.getD i []).length ≤ 1000000) (hc : allErr p l = 0) (hm : l = [] ∨ m ≤ 10000) (hm2 : m ≤ 4611686018427387904) (hx : pw m l.length ≤ 10000) :
    Calls Tryz.prog 21 #[vp, vl, .int .i64 m] w fun e w' => CombPost p (combAll m l [List.replicate p.length 0]) w e w' := by
  obtain ⟨i0, hi, hz0, hz1, hz2⟩ := info_parts info_int
  obtain ⟨j0, hjr, hy0, hy1, hy2⟩ := info_parts info_row
  obtain ⟨hpe, hlx⟩ := allErr_zero hc
  have hlp : p.length ≤ 6 := (primesErr_zero hpe).2.1
  have hck := checkAll_c vp vl p l w hp hl (by omega) (by omega) hrow
  rw [hc] at hck
  have hsg := fun W (hE : Ext w W) v z (hv : Sl W v (i64s z)) (hzl : z.length ≤ 1000000) => msign_c vp v p z W (he.ext hE) (hE.sl hp) hv (by omega) hzl
  have hrw : ∀ i, i < l.length → ∃ x, l[i]? = some x ∧ x.length = p.length ∧ ∀ j, -1000 ≤ nthI x j ∧ nthI x j ≤ 1000 := fun i hi => by
    refine ⟨l[i], List.getElem?_eq_getElem hi, hlx _ (List.getElem_mem hi)⟩
  obtain ⟨ap, cp, rfl, _, _, _⟩ := hp.parts
  obtain ⟨vs, hvs, hsl, hrows⟩ := hl
  obtain ⟨al, cl, rfl, _, _, hcl⟩ := hsl.parts
  have hlr : ∀ i x, l[i]? = some x → ∃ u b off, vs[i]? = some u ∧ al = some ⟨b, off, none⟩ ∧ w.cell? ⟨b, off + i, none⟩ = some u ∧ Sl w u (i64s x) := fun i x hx => by
    have hi := (List.getElem?_eq_some_iff.1 hx).1
    obtain ⟨u, hu⟩ : ∃ u, vs[i]? = some u := ⟨_, List.getElem?_eq_getElem (by omega)⟩
    obtain ⟨b, off, h1, h2⟩ := hcl i u hu
    refine ⟨u, b, off, hu, h1, h2, ?_⟩
    have := hrows i u hu
    rw [List.getD_eq_getElem?_getD, hx] at this
    exact this
  rw [i64s_length] at *
  rw [hvs] at *
  have hxp : ∀ i, i ≤ l.length → pw m i ≤ 10000 := fun i h => Nat.le_trans (pw_mono m h) hx
  have Hxp := Lib.hid hxp; clear hxp
  have hp0 : 0 < p.length := (primesErr_zero hpe).1
  have Hck := Lib.hid hck; have Hsg := Lib.hid hsg; have Hrw := Lib.hid hrw; have Hlr := Lib.hid hlr; have Hx := Lib.hid hx; have He := Lib.hid he; have Hm := Lib.hid hm
  clear hck hsg hrw hlr hx he hc hpe hlx hp hsl hrows hcl hrow hvs hm
  go_enter Tryz.func21, Tryz.ntmps21
  go_wp2_with fail
  refine Hck.out.mono ?_
  rintro e w1 ⟨rfl, rfl⟩
  go_wp2_with fail
  go_loop [9, 34] (fun v9 v34 => CntRel m l.length v9 v34) (fun _ v34 => l.length - (intOf v34).toNat)
  case atStart => exact ⟨0, rfl, Nat.zero_le _, by rw [pw_zero]; rfl, by rw [pw_zero]; omega⟩
  case round =>
    obtain ⟨k, rfl, hk, rfl, hpw⟩ := hrel
    by_cases hlt : k < l.length
    · have hm10 : m ≤ 10000 := by
        rcases Hm.out with h | h
        · rw [h] at hlt; simp at hlt
        · exact h
      have hmul := cnt_mul m k
      have hle := cnt_le hm10 hpw
      have hb : pw m (k + 1) ≤ 10000 := Nat.le_trans (pw_mono m hlt) Hx.out
      have hn1 : ¬ (10000 : Int) < (m : Int) := by omega
      go_wp2
      go_round
      case rel => exact ⟨k + 1, by go_num, by omega, by rfl, by omega⟩
      case measure => simp [intOf]; omega
    · obtain rfl : k = l.length := by omega
      generalize pw m l.length = pc at *
      go_wp2_with (at_make; refine wpList_make_full _ rfl _ _ 30 rfl w.heap.size 3 i0 (.int .i64 0) 1 Tryz.underlying30 hi hz0 hz1 _ _ _ _ p.length rfl rfl rfl rfl (by rw [hz2]; omega) (by unfold maxLen; omega) (Nat.le_refl _) ?_; intro W1 hown1 hgrow1)
      have hownz : OwnI W1 w.heap.size (.slice (some ⟨w.heap.size, 0, none⟩) p.length p.length) (List.replicate p.length 0) := by
        unfold OwnI
        rw [List.length_replicate]
        have e : i64s (List.replicate p.length 0) = (madeCells #[Value.int .i64 0] (p.length * 1)).toList := by
          rw [Nat.mul_one, toList_madeCells_one]; simp [i64s]
        rw [e]; exact hown1
      have hE1 : Ext w W1 := (Ext.refl w).grown hgrow1 (by simp)
      have hE2 : Ext w (W1.alloc (.cells #[.slice (some ⟨w.heap.size, 0, none⟩) p.length p.length] 30)) := hE1.alloc _
      have hrw2 : RwM (W1.alloc (.cells #[.slice (some ⟨w.heap.size, 0, none⟩) p.length p.length] 30)) w.heap.size w.heap.size (.slice (some ⟨W1.heap.size, 0, none⟩) 1 1) [⟨List.replicate p.length 0, .slice (some ⟨w.heap.size, 0, none⟩) p.length p.length, rfl⟩] := by
        refine ⟨own_block (xs := [.slice (some ⟨w.heap.size, 0, none⟩) p.length p.length]) (World.alloc_heap_new W1 _) hE1.size (by simp [maxLen]), fun r hr => ?_⟩
        simp only [List.mem_singleton] at hr
        subst hr
        exact ⟨((Ext.refl W1).alloc _).ownI hownz, by simp; omega⟩
      have htame0 : Tame p.length ((0 : Nat) * 10000000 : Int) [List.replicate p.length 0] := by
        intro y hy
        simp only [List.mem_singleton] at hy
        subst hy
        refine ⟨by simp, fun i => ?_⟩
        have : nthI (List.replicate p.length 0) i = 0 := by
          unfold nthI
          rw [List.getD_eq_getElem?_getD, List.getElem?_replicate]
          split <;> rfl
        rw [this]; omega
      generalize W1.alloc (.cells #[.slice (some ⟨w.heap.size, 0, none⟩) p.length p.length] 30) = W1a at *
      have HE2 := Lib.hid hE2; have Hrw2 := Lib.hid hrw2; have Htame0 := Lib.hid htame0
      clear hownz hown1 hgrow1 hE1 hE2 hrw2 htame0
      go_loopw [10, 58] (fun v i wr => CbOut m p.length w.heap.size l w v i wr) (fun _ i _ => l.length - (intOf i).toNat)
      case atStart => exact ⟨0, _, rfl, Nat.zero_le _, Hrw2.out, by simp [combAll], by rw [pw_zero]; rfl, by simpa using Htame0.out, HE2.out⟩
      case round =>
        obtain ⟨k, rs, rfl, hk, hrs, hmap, hlen, htame, hext⟩ := hrel
        obtain ⟨av, cv, rfl⟩ := own_shape hrs.1
        have hlen2 : rs.length ≤ 10000 := by rw [hlen]; exact Hxp.out k hk
        have Hrs := Lib.hid hrs; have Hmap := Lib.hid hmap; have Hlen := Lib.hid hlen; have Htame := Lib.hid htame; have Hext := Lib.hid hext
        clear hrs hmap hlen htame hext
        by_cases hlt : k < l.length
        · have hm10 : m ≤ 10000 := by
            rcases Hm.out with h | h
            · rw [h] at hlt; simp at hlt
            · exact h
          obtain ⟨x, hxk, hxl, hxb⟩ := Hrw.out k hlt
          obtain ⟨u, b, off, _, rfl, hcu, hslu⟩ := Hlr.out k x hxk
          have hcu2 := Hext.out.cell hcu
          have hslu2 := Hext.out.sl hslu
          obtain ⟨axx, cxx, rfl, _, _, hcxx⟩ := hslu2.parts
          rw [i64s_length, hxl] at hcu2
          have Hxk := Lib.hid hxk; have Hxl := Lib.hid hxl; have Hxb := Lib.hid hxb; have Hcxx := Lib.hid hcxx
          clear hxk hxl hxb hcu hslu hslu2 hcxx
          obtain ⟨wo, hwo⟩ : ∃ wo : World, wo = wr := ⟨_, rfl⟩
          subst hwo
          go_wp2_with fail
          go_loopw [13, 64] (fun v j wr => CbMid m w.heap.size x rs wo v j wr) (fun _ j _ => rs.length - (intOf j).toNat)
          case atStart => exact ⟨0, [], rfl, Nat.zero_le _, rwm_nil _ _ _, by simp [spread], Ext.refl _⟩
          case round =>
            obtain ⟨j, rs2, rfl, hj, hrs2, hmap2, hext2⟩ := hrel
            obtain ⟨av2, cv2, rfl⟩ := own_shape hrs2.1
            have Hrs2 := Lib.hid hrs2; have Hmap2 := Lib.hid hmap2; have Hext2 := Lib.hid hext2
            clear hrs2 hmap2 hext2
            by_cases hjl : j < rs.length
            · obtain ⟨y, hy⟩ : ∃ y, rs[j]? = some y := ⟨_, List.getElem?_eq_getElem hjl⟩
              have hymem := List.mem_of_getElem? hy
              obtain ⟨g, cap, e0, hcells⟩ := own_slice Hrs.out.1 (by omega)
              injection e0 with e1 _ e3
              subst e1; subst e3
              have hcy0 := hcells j y.u (by simp [rwc, hy])
              have hcy := Hext2.out.cell hcy0
              obtain ⟨hoy, _⟩ := Hrs.out.2 y hymem
              have hty := Htame.out y.x (List.mem_map_of_mem hymem)
              have hyx : (rs.map Rw.x)[j]? = some y.x := by rw [List.getElem?_map, hy]; rfl
              have Hyr := Lib.hid hy
              obtain ⟨yx, yu, hyu⟩ := y
              dsimp only at hcy hoy hty hyx
              have hoy2 := Hext2.out.ownI hoy
              obtain ⟨ay, cy, rfl⟩ := own_shape hoy2
              have Hoy := Lib.hid hoy; have Hty := Lib.hid hty; have Hyx := Lib.hid hyx
              clear hy hymem hcells hcy0 hoy hoy2 hty hyx
              obtain ⟨wm, hwm⟩ : ∃ wm : World, wm = wr := ⟨_, rfl⟩
              subst hwm
              have hjm : j * (2 * m + 1) ≤ 10000 * 20001 := Nat.mul_le_mul (by omega) (by omega)
              have hlr2 := congrArg List.length Hmap2.out
              rw [List.length_map, spread_length, List.length_take, List.length_map, Nat.min_eq_left (Nat.le_of_lt hjl)] at hlr2
              have hlr3 : rs2.length ≤ 200010000 := by omega
              clear hlr2 hjm
              go_wp2_with fail
              go_loopw [13, 16] (fun v t wr => CbIn m w.heap.size j x yx rs wo v t wr) (fun _ t _ => (2 * m + 1) - (intOf t + m).toNat)
              case atStart => exact ⟨0, rs2, by simp, Nat.zero_le _, Hrs2.out, by rw [Hmap2.out]; simp [fan], Hext2.out⟩
              case round =>
                obtain ⟨s, rs3, rfl, hs, hrs3, hmap3, hext3⟩ := hrel
                obtain ⟨av3, cv3, rfl⟩ := own_shape hrs3.1
                have hl3 := congrArg List.length hmap3
                rw [List.length_append, List.length_map, spread_length, List.length_take, List.length_map, Nat.min_eq_left (Nat.le_of_lt hjl), fan_length] at hl3
                have hjm : j * (2 * m + 1) ≤ 10000 * 20001 := Nat.mul_le_mul (by omega) (by omega)
                have hl4 : rs3.length ≤ 300000000 := by omega
                have Hrs3 := Lib.hid hrs3; have Hmap3 := Lib.hid hmap3; have Hext3 := Lib.hid hext3
                clear hrs3 hmap3 hext3 hl3 hjm
                by_cases hsl : s < 2 * m + 1
                · obtain ⟨wk, hwk⟩ : ∃ wk : World, wk = wr := ⟨_, rfl⟩
                  subst hwk
                  have hst : (s : Int) - (m : Int) ≤ (m : Int) := by omega
                  have hyl : yx.length = p.length := Hty.out.1
                  have hcl := clone_c (.slice ay yx.length cy) yx wk (Hext3.out.ownI (own_mono (Hrs.out.2 _ (List.mem_of_getElem? (show rs[j]? = some _ from Hyr.out))).1 (Nat.le_refl _))) (by omega)
                  have Hcl := Lib.hid hcl; have Hyl := Lib.hid hyl; clear hcl hyl
                  have hk1 : -(m : Int) ≤ (s : Int) - (m : Int) := by omega
                  obtain ⟨kk, hkk⟩ : ∃ kk : Int, (s : Int) - (m : Int) = kk := ⟨_, rfl⟩
                  have Hkk := Lib.hid hkk
                  have hkk1 : -(m : Int) ≤ kk := by omega
                  have hkk2 : kk ≤ (m : Int) := by omega
                  rw [hkk]
                  clear hkk hst hk1
                  have hwo3 := Hext3.out.size
                  have Hwo3 := Lib.hid hwo3; clear hwo3
                  go_wp2_with fail
                  refine Hcl.out.mono ?_
                  rintro e W5 ⟨zv, rfl, hzv, hx5⟩
                  obtain ⟨az, cz, rfl⟩ := own_shape hzv
                  obtain ⟨gz, capz, e0, hgz, _⟩ := row_at hzv (k := 0) (by have := Hyl.out; omega)
                  injection e0 with e1 e2 e3
                  subst e1
                  clear e2 e3
                  have Hzv := Lib.hid hzv; have Hx5 := Lib.hid hx5; clear hzv hx5
                  go_wp2_with fail
                  go_loopw [79] (fun t wr => ∃ i : Nat, t = .int .i64 i ∧ i ≤ yx.length ∧ OwnI wr wk.heap.size (.slice (some ⟨gz, 0, none⟩) yx.length cz) (addTo yx x kk i) ∧ Ext wk wr) (fun t _ => yx.length - (intOf t).toNat)
                  case atStart => exact ⟨0, rfl, Nat.zero_le _, by rw [addTo_zero]; exact Hzv.out, Hx5.out⟩
                  case round =>
                    obtain ⟨i, rfl, hil, hoz, hez⟩ := hrel
                    have Hoz := Lib.hid hoz; have Hez := Lib.hid hez; clear hoz hez
                    by_cases hiL : i < yx.length
                    · have hix : i < x.length := by have := Hxl.out; have := Hyl.out; omega
                      obtain ⟨bx, ox, rfl, hcx0⟩ := Hcxx.out i _ (i64s_at hix)
                      have hcx := (Hext3.out.trans Hez.out).cell hcx0
                      have hoz' : OwnI wr wk.heap.size (.slice (some ⟨gz, 0, none⟩) (addTo yx x kk i).length cz) (addTo yx x kk i) := by rw [addTo_length]; exact Hoz.out
                      have hcz := ownI_cell hoz' i (by rw [addTo_length]; exact hiL)
                      rw [nthI_addTo yx x kk hiL (Nat.le_refl _)] at hcz
                      have hfz : wr.frozen? ⟨gz, i, none⟩ = false := World.ownsRow.frozenAt hoz' i
                      have hset := ownI_set hoz' i (nthI yx i + kk * nthI x i)
                      rw [addTo_set yx x kk hiL, addTo_length] at hset
                      have hb1 := Hty.out.2 i
                      have hb2 := Hxb.out i
                      have hb3 := mul_bd hkk1 hkk2 hb2.1 hb2.2 (by omega)
                      have hEz : Ext wk (wr.setCell ⟨gz, i, none⟩ (.int .i64 (nthI yx i + kk * nthI x i))) := Hez.out.setCell hgz _
                      have Hset := Lib.hid hset; have HEz := Lib.hid hEz
                      clear hoz' hset hEz hcx0
                      have hi0 : (0 : Int) ≤ (i : Int) := by omega
                      have hi1 : (i : Int) < (yx.length : Int) := by omega
                      have hi2 : (i : Int) < (p.length : Int) := by have := Hyl.out; omega
                      obtain ⟨hb11, hb12⟩ := hb1
                      obtain ⟨hb31, hb32⟩ := hb3
                      have hb13 : -1000000000 ≤ nthI yx i := by omega
                      have hb14 : nthI yx i ≤ 1000000000 := by omega
                      have hb33 : -10000000 ≤ kk * nthI x i := by omega
                      have hb34 : kk * nthI x i ≤ 10000000 := by omega
                      clear hb2 hb11 hb12 hb31 hb32
                      generalize nthI yx i = zy at *
                      generalize nthI x i = zx at *
                      go_wp2_with fail
                      go_region
                      go_wp2
                      go_roundw
                      case rel => exact ⟨i + 1, by go_num, by omega, ((Ext.refl _).drew).ownI Hset.out, HEz.out.drew⟩
                      case measure => simp [intOf]; omega
                    · obtain rfl : i = yx.length := by omega
                      have hoz := Hoz.out
                      rw [addTo_full] at hoz
                      have hzz : OwnI wr w.heap.size (.slice (some ⟨gz, 0, none⟩) yx.length cz) (addK yx x kk) := own_mono hoz (Nat.le_trans Hext.out.size Hwo3.out)
                      have hownr := (Hez.out.rwM Hrs3.out).1
                      have hrz := Hez.out.rwM Hrs3.out
                      have hEz := Hext3.out.trans Hez.out
                      have hszz := hEz.size
                      have Hzz := Lib.hid hzz; have Hrz := Lib.hid hrz; have HEz := Lib.hid hEz
                      clear hoz hzz hrz
                      have hm3 : rs3.length + 1 ≤ maxLen := by unfold maxLen; omega
                      have hm4 : (rs3.length + 1) * 24 ≤ 140737488355328 := by omega
                      go_wp2_with (at_builtin; refine wpList_append_own _ rfl _ _ 36 rfl wo.heap.size 30 j0 (.slice none 0 0) 1 24 Tryz.underlying36 hjr hy0 hy1 hy2 rfl (by decide) _ _ _ rfl (hownr.alloc _) ⟨wr.heap.size, 0, none⟩ 1 1 [.slice (some ⟨gz, 0, none⟩) yx.length cz] rfl rfl (cell_one_new _ _ _) (by simp [Value.oneCell']) hm3 hm4 (by rw [World.size_alloc]; omega) ?_; intro v7 W7 hown7 hgrow7 _)
                      have hfin := rwm_more (r := ⟨addK yx x kk, .slice (some ⟨gz, 0, none⟩) yx.length cz, rfl⟩) Hrz.out Hzz.out (by rw [addK_length]; have := Hyl.out; omega) HEz.out hown7 hgrow7
                      have hmapE : (rs3 ++ [(⟨addK yx x kk, .slice (some ⟨gz, 0, none⟩) yx.length cz, rfl⟩ : Rw)]).map Rw.x = spread m x ((rs.map Rw.x).take j) ++ fan m x yx (s + 1) := by
                        rw [List.map_append, Hmap3.out, fan_succ, ← List.append_assoc, Hkk.out]; rfl
                      have HmapE := Lib.hid hmapE; have Hfin := Lib.hid hfin; clear hmapE hfin hown7 hgrow7 hownr hEz
                      have hks : kk + 1 = ((s + 1 : Nat) : Int) - (m : Int) := by have := Hkk.out; omega
                      go_wp2
                      go_roundw
                      case rel => exact ⟨s + 1, _, by rw [← hks], by omega, Hfin.out.1, HmapE.out, Hfin.out.2⟩
                      case measure => simp [intOf]; omega
                · obtain rfl : s = 2 * m + 1 := by omega
                  have hns : ¬ (((2 * m + 1 : Nat) : Int) - (m : Int) ≤ (m : Int)) := by omega
                  have hmapE : rs3.map Rw.x = spread m x ((rs.map Rw.x).take (j + 1)) := by
                    rw [Hmap3.out, List.take_add_one, Hyx.out]
                    exact (spread_snoc m x _ yx).symm
                  have HmapE := Lib.hid hmapE; clear hmapE
                  go_wp2
                  go_roundw
                  case rel => exact ⟨j + 1, rs3, by go_num, by omega, Hrs3.out, HmapE.out, Hext3.out⟩
                  case measure => simp [intOf]; omega
            · obtain rfl : j = rs.length := by omega
              have hmapE : rs2.map Rw.x = combAll m (l.take (k + 1)) [List.replicate p.length 0] := by
                rw [Hmap2.out, List.take_of_length_le (by rw [List.length_map]; exact Nat.le_refl _), Hmap.out, List.take_add_one, Hxk.out]
                exact (combAll_snoc m _ x _).symm
              have hlenE : rs2.length = pw m (k + 1) := by
                have h1 := congrArg List.length Hmap2.out
                rw [List.length_map, spread_length, List.take_of_length_le (by rw [List.length_map]; exact Nat.le_refl _), List.length_map, Hlen.out] at h1
                rw [h1, pw_succ]
              have htameE : Tame p.length (((k + 1 : Nat) : Int) * 10000000) (rs2.map Rw.x) := by
                rw [Hmap2.out, List.take_of_length_le (by rw [List.length_map]; exact Nat.le_refl _)]
                have h1 := spread_tame (m := m) (x := x) hm10 Htame.out Hxb.out (by omega)
                have e : ((k : Int) * 10000000 + 10000000) = (((k + 1 : Nat) : Int) * 10000000) := by omega
                rw [← e]; exact h1
              have HmapE := Lib.hid hmapE; have HlenE := Lib.hid hlenE; have HtameE := Lib.hid htameE; clear hmapE hlenE htameE
              go_wp2
              go_roundw
              case rel => exact ⟨k + 1, rs2, by go_num, by omega, rwm_mono Hrs2.out (Nat.le_refl _) Hext.out.size, HmapE.out, HlenE.out, HtameE.out, Hext.out.trans Hext2.out⟩
              case measure => simp [intOf]; omega
        · obtain rfl : k = l.length := by omega
          have hall : rs.map Rw.x = combAll m l [List.replicate p.length 0] := by rw [Hmap.out, List.take_length]
          have hrl : ∀ r ∈ rs, r.x.length ≤ 1000000 := fun r hr => (Hrs.out.2 r hr).2
          have Hall := Lib.hid hall; have Hrl := Lib.hid hrl; clear hall hrl
          obtain ⟨w5, hw5⟩ : ∃ w5 : World, w5 = wr := ⟨_, rfl⟩
          subst hw5
          go_wp2_with fail
          go_loopw [19, 104] (fun v i wr => CbPos p w.heap.size rs w5 v i wr) (fun _ i _ => rs.length - (intOf i).toNat)
          case atStart => exact ⟨0, [], rfl, Nat.zero_le _, rwm_nil _ _ _, by simp, by simp, Ext.refl _⟩
          case round =>
            obtain ⟨k, rs2, rfl, hk2, hrs2, hf2, he2, hext2⟩ := hrel
            obtain ⟨av2, cv2, rfl⟩ := own_shape hrs2.1
            have hl2 : rs2.length ≤ 10000 := by
              rw [hf2]; exact Nat.le_trans (List.length_filter_le _ _) (by rw [List.length_take]; omega)
            have Hrs2 := Lib.hid hrs2; have Hf2 := Lib.hid hf2; have He2 := Lib.hid he2; have Hext2 := Lib.hid hext2
            clear hrs2 hf2 he2 hext2
            by_cases hkl : k < rs.length
            · obtain ⟨r, hr⟩ : ∃ r, rs[k]? = some r := ⟨_, List.getElem?_eq_getElem hkl⟩
              have hrm := List.mem_of_getElem? hr
              obtain ⟨g, cap, e0, hcells⟩ := own_slice Hrs.out.1 (by omega)
              injection e0 with e1 _ e3
              subst e1; subst e3
              have hcr := Hext2.out.cell (hcells k r.u (by simp [rwc, hr]))
              have hor := Hext2.out.ownI (Hrs.out.2 r hrm).1
              have hsgn := Hsg.out wr (Hext.out.trans Hext2.out) r.u r.x hor.sl (Hrl.out r hrm)
              have hmore := filter_more (fun r : Rw => decide (0 < signP p r.x)) hr
              have hin : r.x ∈ combAll m l [List.replicate p.length 0] := by rw [← Hall.out]; exact List.mem_map_of_mem hrm
              have hee : oneErr p r.x = 0 → ∀ s ∈ rs.take (k + 1), oneErr p s.x = 0 := fun h0 s hs => by
                rw [List.take_add_one, hr] at hs
                rcases List.mem_append.1 hs with h | h
                · exact He2.out s h
                · simp only [Option.toList_some, List.mem_singleton] at h
                  rw [h]; exact h0
              have hbad : oneErr p r.x ≠ 0 → ∃ z ∈ combAll m l [List.replicate p.length 0], oneErr p z ≠ 0 := fun h => ⟨_, hin, h⟩
              have hrl := Hrl.out r hrm
              obtain ⟨rx, ru, hru⟩ := r
              dsimp only at hcr hor hsgn hmore hee hbad hrl
              obtain ⟨aru, cru, rfl⟩ := own_shape hor
              generalize hsp : signP p rx = sg at *
              generalize hop : oneErr p rx = er at *
              have Hor := Lib.hid hor; have Hsgn := Lib.hid hsgn; have Hmore := Lib.hid hmore; have Hee := Lib.hid hee; have Hbad := Lib.hid hbad; have Hsp := Lib.hid hsp
              clear hor hsgn hmore hee hbad hin hrm hr hcells hsp hop
              by_cases her : er = 0
              · subst her
                go_wp2_with fail
                refine Hsgn.out.mono ?_
                rintro e W6 ⟨rfl, hx6⟩
                have hE6 := Hext2.out.trans hx6
                have hr6 := hx6.rwM Hrs2.out
                have hu6 := hx6.ownI Hor.out
                by_cases hsg : 0 < sg
                · have hownr := hr6.1
                  have hszz := hE6.size
                  have Hr6 := Lib.hid hr6; have Hu6 := Lib.hid hu6; have HE6 := Lib.hid hE6; clear hr6 hu6 hx6
                  have hm3 : rs2.length + 1 ≤ maxLen := by unfold maxLen; omega
                  have hm4 : (rs2.length + 1) * 24 ≤ 140737488355328 := by omega
                  go_wp2_with (at_builtin; refine wpList_append_own _ rfl _ _ 36 rfl w5.heap.size 30 j0 (.slice none 0 0) 1 24 Tryz.underlying36 hjr hy0 hy1 hy2 rfl (by decide) _ _ _ rfl (hownr.alloc _) ⟨W6.heap.size, 0, none⟩ 1 1 [.slice aru rx.length cru] rfl rfl (cell_one_new _ _ _) (by simp [Value.oneCell']) hm3 hm4 (by rw [World.size_alloc]; omega) ?_; intro v7 W7 hown7 hgrow7 _)
                  have hfin := rwm_more (r := ⟨rx, .slice aru rx.length cru, hru⟩) Hr6.out Hu6.out hrl HE6.out hown7 hgrow7
                  have hmoreE : rs2 ++ [(⟨rx, .slice aru rx.length cru, hru⟩ : Rw)] = (rs.take (k + 1)).filter (fun r : Rw => decide (0 < signP p r.x)) := by
                    rw [Hmore.out, ← Hf2.out, if_pos (decide_eq_true hsg)]
                  have Hfin := Lib.hid hfin; have HmoreE := Lib.hid hmoreE; clear hfin hmoreE hown7 hgrow7 hownr hE6
                  go_wp2
                  go_roundw
                  case rel => exact ⟨k + 1, _, by go_num, by omega, Hfin.out.1, HmoreE.out, Hee.out (by first | rfl | trivial), Hfin.out.2⟩
                  case measure => simp [intOf]; omega
                · have hmoreE : rs2 = (rs.take (k + 1)).filter (fun r : Rw => decide (0 < signP p r.x)) := by
                    rw [Hmore.out, ← Hf2.out, if_neg (by rw [decide_eq_true_eq]; exact hsg), List.append_nil]
                  have Hr6 := Lib.hid hr6; have HE6 := Lib.hid hE6; have HmoreE := Lib.hid hmoreE; clear hr6 hu6 hx6 hE6 hmoreE
                  go_wp2
                  go_roundw
                  case rel => exact ⟨k + 1, rs2, by go_num, by omega, Hr6.out, HmoreE.out, Hee.out (by first | rfl | trivial), HE6.out⟩
                  case measure => simp [intOf]; omega
              · have hne : (er != 0) = true := by rw [bne_iff_ne]; exact her
                have hbz := Hbad.out her
                have Hbz := Lib.hid hbz; clear hbz her
                go_wp2_with fail
                refine Hsgn.out.mono ?_
                rintro e W6 ⟨rfl, hx6⟩
                have hE6 := (Hext.out.trans Hext2.out).trans hx6
                have HE6 := Lib.hid hE6; clear hx6 hE6
                go_wp2
                go_ret2
                exact .inl ⟨Hbz.out, rfl, HE6.out⟩
            · obtain rfl : k = rs.length := by omega
              have hgood : ∀ z ∈ combAll m l [List.replicate p.length 0], oneErr p z = 0 := by
                intro z hz
                rw [← Hall.out] at hz
                obtain ⟨r, hr, rfl⟩ := List.mem_map.1 hz
                exact He2.out r (by rw [List.take_length]; exact hr)
              have hpos : rs2.map Rw.x = posOf p (combAll m l [List.replicate p.length 0]) := by
                rw [Hf2.out, List.take_length, ← Hall.out]
                unfold posOf
                rw [List.filter_map]
                rfl
              have hsort := sortR_c Hrs2.out (by omega)
              have Hsort := Lib.hid hsort; have Hgood := Lib.hid hgood; have Hpos := Lib.hid hpos; clear hsort hgood hpos
              go_wp2_with fail
              refine Hsort.out.mono ?_
              rintro e W8 ⟨rfl, rs8, hrs8, hperm, hpw, hx8⟩
              have hE8 := hx8 w5 Hext2.out rfl
              have hl8 := hperm.length_eq
              have hcmp := compact_c (a := av2) (cap := cv2) (by rw [hl8]; exact hrs8) (by omega)
              rw [hl8] at hcmp
              have Hcmp := Lib.hid hcmp; have HE8 := Lib.hid hE8; have Hperm := Lib.hid hperm; have Hpw := Lib.hid hpw; have Hl8 := Lib.hid hl8
              clear hcmp hE8 hperm hpw hrs8 hx8 hl8
              go_wp2_with fail
              refine Hcmp.out.mono ?_
              rintro e W9 ⟨v9, rfl, hrs9, hx9⟩
              have hE9 := hx9 w5 HE8.out rfl
              obtain ⟨a9, c9, rfl⟩ := own_shape hrs9.1
              have Hrs9 := Lib.hid hrs9; have HE9 := Lib.hid hE9; clear hrs9 hE9 hx9
              go_wp2
              go_ret2
              refine .inr ⟨Hgood.out, _, cpTo Rw.x rs8 rs2.length, rfl, rwm_mono Hrs9.out (Nat.le_refl _) Hext.out.size, ⟨rs8.map Rw.x, ?_, ?_, ?_⟩, Hext.out.trans HE9.out⟩
              · rw [← Hpos.out]; exact Hperm.out.map _
              · rw [List.pairwise_map]; exact Hpw.out
              · rw [cpTo_map, List.length_map, Hl8.out]

end Go.Proofs.YtkamjjjimbbdmaaGreatDoor
