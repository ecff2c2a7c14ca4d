/- Walk: table's Check. Walk: hermite's pivot, isForm, IsForm. Walk: hermite's isForm, IsForm. slices.Repeat at a slice of one string. Walk: hermite's lines. Plain: every row of a form has a pivot. -/
import Derived.Test.YtkamjjjimbbdmaaGreatDoorIvlA
import Derived.Test.YtkamjjjimbbdmaaGreatDoorShelfC
import Derived.BigQuiet
import Derived.Laws.CopyOwn
import Derived.Deep.RegionLaw
import Derived.Test.YtkamjjjimbbdmaaGreatDoorLstA
import Derived.Deep.AppendLies
namespace Go.Proofs.YtkamjjjimbbdmaaGreatDoor
open Go.RowKit Go.Lib

set_option maxHeartbeats 400000 in
theorem great_c (n : Int) (w : World) : Calls Tryz.prog 64 #[.int .i64 n] w fun e w' => e = .returned (.bool (!fitsI n)) ∧ ∃ q, w' = w.drewN q := by
  unfold fitsI
  by_cases h1 : 1000000000 < n
  · rw [decide_eq_false (fun h => by omega)]
    have hd : decide (1000000000 < n) = true := decide_eq_true h1
    go_enter Tryz.func64, Tryz.ntmps64
    go_wp2
    go_ret
    exact ⟨rfl, 0, rfl⟩
  · have hd : decide (1000000000 < n) = false := decide_eq_false h1
    by_cases h2 : n < -1000000000
    · rw [decide_eq_false (fun h => by omega)]
      have hd2 : decide (n < -1000000000) = true := decide_eq_true h2
      go_enter Tryz.func64, Tryz.ntmps64
      go_wp2
      go_ret
      exact ⟨rfl, 0, rfl⟩
    · rw [decide_eq_true ⟨by omega, by omega⟩]
      have hd2 : decide (n < -1000000000) = false := decide_eq_false h2
      go_enter Tryz.func64, Tryz.ntmps64
      go_wp2
      go_ret
      exact ⟨rfl, 0, rfl⟩
theorem great_pred (w : World) : Go.Proofs.PredAt Tryz.prog 64 #[] (Value.int .i64) (fun n => !fitsI n) w := fun W x _ => great_c x W
theorem great_enters : ∀ args w, (callFunc 64 args).run Tryz.prog w = .ok (.enter 64 args) w := enters_of Tryz.func64 (by kernel_rfl) rfl
theorem containsG_c (a : Option Addr) (cap : Nat) (x : List Int) (w : World) (hl : x.length ≤ 1000000)
    (hc : ∀ i u, (i64s x)[i]? = some u → ∃ b off, a = some ⟨b, off, none⟩ ∧ w.cell? ⟨b, off + i, none⟩ = some u) :
    Calls Tryz.prog 63 #[.slice a x.length cap, .func (.func 64) #[] #[]] w fun e w' => e = .returned (.bool (x.any fun n => !fitsI n)) ∧ Ext w w' := by
  cases x with
  | nil => exact (AnyE.slices_ContainsFunc_empty Tryz.lContainsR a cap _ w).mono fun e w' ⟨h, hw⟩ => ⟨h, by rw [hw]; exact Ext.refl _⟩
  | cons z r =>
    obtain ⟨b, off, rfl, _⟩ := hc 0 _ (i64s_at (l := z :: r) (by simp))
    have h := AnyE.slices_ContainsFunc Tryz.lContainsR (Value.int .i64) (fun n => !fitsI n) 64 #[] great_enters b off (z :: r).length cap (z :: r) w (great_pred w) (Nat.le_refl _) (by omega) (fun j hj => by
      obtain ⟨b2, off2, e2, hcell⟩ := hc j _ (i64s_at hj)
      simp only [Option.some.injEq, Addr.mk.injEq, and_true] at e2
      obtain ⟨rfl, rfl⟩ := e2
      rw [hcell]
      unfold nthI
      rw [List.getD_eq_getElem?_getD, List.getElem?_eq_getElem hj, getElem!_pos _ j hj]
      rfl)
    rw [List.take_length] at h
    exact h.mono fun e w' ⟨he, q, hw⟩ => ⟨he, by rw [hw]; exact (Ext.refl w).drewN q⟩

/-- The error of a matrix. -/
def tRow (n : Nat) (x : List Int) : Int := if 12 < x.length then 4 else if x.length ≠ n then 5 else if x.any (fun z => !fitsI z) = true then 4 else 0
def tRows (n : Nat) : List (List Int) → Int
  | [] => 0
  | x :: r => if tRow n x ≠ 0 then tRow n x else tRows n r
def tChk (m : List (List Int)) : Int := if 12 < m.length then 4 else tRows (m.getD 0 []).length m
theorem tRows_drop {n : Nat} {l : List (List Int)} {k : Nat} (hk : k < l.length) : tRows n (l.drop k) = if tRow n (l.getD k []) ≠ 0 then tRow n (l.getD k []) else tRows n (l.drop (k + 1)) := by
  rw [List.drop_eq_getElem_cons hk, tRows]
  rw [List.getD_eq_getElem?_getD, List.getElem?_eq_getElem hk]
  rfl
theorem tRow_zero {n : Nat} {x : List Int} (h : tRow n x = 0) : x.length = n ∧ n ≤ 12 ∧ ∀ z ∈ x, -1000000000 ≤ z ∧ z ≤ 1000000000 := by
  unfold tRow at h
  split at h
  · cases h
  · split at h
    · cases h
    · split at h
      · cases h
      · rename_i h1 h2 h3
        have h2 := Classical.not_not.1 h2
        refine ⟨h2, by omega, fun z hz => ?_⟩
        have h3 : x.any (fun z => !fitsI z) = false := by simpa using h3
        have := List.any_eq_false.1 h3 z hz
        unfold fitsI at this
        simpa using this
theorem tRows_zero {n : Nat} : ∀ {m : List (List Int)}, tRows n m = 0 → ∀ x ∈ m, tRow n x = 0
  | [], _, _, h => by cases h
  | a :: m, h, x, hx => by
    rw [tRows] at h
    by_cases g : tRow n a = 0
    · rw [if_neg (by simpa using g)] at h
      rcases List.mem_cons.1 hx with rfl | hx
      · exact g
      · exact tRows_zero h x hx
    · rw [if_pos g] at h; exact absurd h g

set_option maxRecDepth 100000 in
set_option maxHeartbeats 2000000 in
theorem tcheck_c (vm : Value) (m : List (List Int)) (w : World) (hm : Mat w vm m) (hrow : ∀ i, (m.getD i []).length ≤ 1000000) (hml : m.length ≤ 1000000) :
    Calls Tryz.prog 28 #[vm] w fun e w' => e = .returned (.int .i64 (tChk m)) ∧ Ext w w' := by
  obtain ⟨vs, hvs, hsl, hr⟩ := hm
  obtain ⟨am, cm, rfl, _, _, hcm⟩ := hsl.parts
  rw [hvs]
  by_cases h12 : 12 < m.length
  · have ht : tChk m = 4 := by unfold tChk; rw [if_pos h12]
    rw [ht]
    clear ht hcm hsl hr hrow hvs
    go_enter Tryz.func28, Tryz.ntmps28
    go_wp2
    go_ret
    exact ⟨rfl, Ext.refl _⟩
  · obtain ⟨r, hr0⟩ : ∃ r, r = tChk m := ⟨_, rfl⟩
    rw [← hr0]
    have ht : r = tRows (m.getD 0 []).length m := by rw [hr0]; unfold tChk; rw [if_neg h12]
    obtain ⟨n0, hn0⟩ : ∃ n0, n0 = (m.getD 0 []).length := ⟨_, rfl⟩
    rw [← hn0] at ht
    have hn0b : n0 ≤ 1000000 := by rw [hn0]; exact hrow 0
    have Ht := Lib.hid ht; have Hcm := Lib.hid hcm; have Hr := Lib.hid hr; have Hrow := Lib.hid hrow; have Hvs := Lib.hid hvs; have Hn0 := Lib.hid hn0
    clear ht hcm hsl hr hrow hvs hr0 hn0
    go_enter Tryz.func28, Tryz.ntmps28
    go_wp2_with fail
    go_loopw [10] (fun i wr => ∃ k : Nat, i = .int .i64 k ∧ k ≤ m.length ∧ r = tRows n0 (m.drop k) ∧ Ext w wr) (fun i _ => m.length - (intOf i).toNat)
    case atStart => exact ⟨0, rfl, Nat.zero_le _, Ht.out, Ext.refl _⟩
    case round =>
      obtain ⟨k, rfl, hk, hrk, hext⟩ := hrel
      have Hrk := Lib.hid hrk; have Hext := Lib.hid hext; clear hrk hext
      by_cases hkl : k < m.length
      · obtain ⟨u, hu⟩ : ∃ u, vs[k]? = some u := ⟨_, List.getElem?_eq_getElem (by rw [Hvs.out]; exact hkl)⟩
        obtain ⟨u0, hu0⟩ : ∃ u, vs[0]? = some u := ⟨_, List.getElem?_eq_getElem (by rw [Hvs.out]; omega)⟩
        obtain ⟨b, off, e1, hcu⟩ := Hcm.out k u hu
        obtain ⟨b2, off2, e2, hcu0⟩ := Hcm.out 0 u0 hu0
        subst e1
        injection e2 with e2
        injection e2 with e3 e4 _
        subst e3; subst e4
        have hs := Hr.out k u hu
        have hs0 := Hr.out 0 u0 hu0
        have hxl := Hrow.out k
        have hrd := tRows_drop (n := n0) hkl
        rw [← Hrk.out] at hrd
        generalize m.getD k [] = x at *
        obtain ⟨a0, c0, rfl, _, _, _⟩ := hs0.parts
        rw [i64s_length, ← Hn0.out] at hcu0
        obtain ⟨ax, cx, rfl, _, _, hcx⟩ := hs.parts
        rw [i64s_length] at hcu
        have h1 := Hext.out.cell hcu
        have h2 := Hext.out.cell hcu0
        have hcon := fun W (h : Ext w W) => containsG_c ax cx x W hxl (fun i u hu => by
          obtain ⟨b, off, e, hc⟩ := hcx i u hu
          exact ⟨b, off, e, h.cell hc⟩)
        have Hcon := Lib.hid hcon
        clear hcu hcu0 hs hs0 hcx hcon hu hu0
        rw [Nat.add_zero] at h2
        have hk0 : (0 : Int) ≤ (k : Int) := by omega
        have hk1 : (k : Int) < (m.length : Int) := by omega
        have hm0 : (0 : Int) < (m.length : Int) := by omega
        by_cases hx12 : 12 < x.length
        · have ht : tRow n0 x = 4 := by unfold tRow; rw [if_pos hx12]
          rw [ht, if_pos (by decide)] at hrd
          subst hrd
          go_wp2
          go_ret
          exact ⟨rfl, Hext.out⟩
        · by_cases hxn : x.length = n0
          · have ht : tRow n0 x = if x.any (fun z => !fitsI z) = true then 4 else 0 := by unfold tRow; rw [if_neg hx12, if_neg (by simpa using hxn)]
            have hne : ((x.length : Int) != (n0 : Int)) = false := by rw [bne_eq_false_iff_eq]; omega
            rw [ht] at hrd
            clear ht
            generalize x.any (fun z => !fitsI z) = bb at *
            have Hrd := Lib.hid hrd; have Hxn := Lib.hid hxn; clear hrd hxn
            cases bb with
            | true =>
              have hr4 : r = 4 := by have := Hrd.out; simpa using this
              subst hr4
              go_wp2_with fail
              refine (Hcon.out wr Hext.out).mono ?_
              rintro e w1 ⟨rfl, hx1⟩
              have Hx1 := Lib.hid hx1; clear hx1
              go_wp2
              go_ret
              exact ⟨rfl, Hext.out.trans Hx1.out⟩
            | false =>
              have hr5 : r = tRows n0 (m.drop (k + 1)) := by have := Hrd.out; simpa using this
              have Hr5 := Lib.hid hr5; clear hr5
              go_wp2_with fail
              refine (Hcon.out wr Hext.out).mono ?_
              rintro e w1 ⟨rfl, hx1⟩
              have Hx1 := Lib.hid hx1; clear hx1
              go_wp2
              go_roundw
              case rel => exact ⟨k + 1, by go_num, by omega, Hr5.out, Hext.out.trans Hx1.out⟩
              case measure => simp [intOf]; omega
          · have ht : tRow n0 x = 5 := by unfold tRow; rw [if_neg hx12, if_pos hxn]
            have hne : ((x.length : Int) != (n0 : Int)) = true := by rw [bne_iff_ne]; omega
            rw [ht, if_pos (by decide)] at hrd
            subst hrd
            clear hxn
            go_wp2
            go_ret
            exact ⟨rfl, Hext.out⟩
      · have hr0 : r = 0 := by rw [Hrk.out, List.drop_of_length_le (by omega)]; rfl
        subst hr0
        go_wp2
        go_ret
        exact ⟨rfl, Hext.out⟩

end Go.Proofs.YtkamjjjimbbdmaaGreatDoor

namespace Go.Proofs.YtkamjjjimbbdmaaGreatDoor
open Go.RowKit Go.Lib

theorem idxFrom_ge {α : Type} (eq : α → α → Bool) (x : α) : ∀ (l : List α) (i : Nat), Lib.idxByFrom eq x l i = -1 ∨ ((i : Int) ≤ Lib.idxByFrom eq x l i ∧ Lib.idxByFrom eq x l i < (i + l.length : Nat))
  | [], _ => .inl rfl
  | y :: r, i => by
    unfold Lib.idxByFrom
    split
    · exact .inr ⟨Int.le_refl _, by simp only [List.length_cons]; omega⟩
    · rcases idxFrom_ge eq x r (i + 1) with h | ⟨h1, h2⟩
      · exact .inl h
      · exact .inr ⟨by omega, by simp only [List.length_cons]; omega⟩
theorem idxFrom_at {α : Type} (eq : α → α → Bool) (x d : α) : ∀ (l : List α) (i k : Nat), Lib.idxByFrom eq x l i = ((i + k : Nat) : Int) → eq x (l.getD k d) = true
  | [], i, k, h => by unfold Lib.idxByFrom at h; omega
  | y :: r, i, k, h => by
    unfold Lib.idxByFrom at h
    split at h
    · rename_i hh
      obtain rfl : k = 0 := by omega
      exact hh
    · rcases idxFrom_ge eq x r (i + 1) with g | ⟨g1, g2⟩
      · omega
      · obtain ⟨j, rfl⟩ : ∃ j, k = j + 1 := ⟨k - 1, by omega⟩
        rw [List.getD_cons_succ]
        exact idxFrom_at eq x d r (i + 1) j (by rw [h]; congr 1; omega)

/-- The place of the first number of a row that is not 0, or -1. -/
def piv (x : List Int) : Int := Lib.idxBy (fun _ y => y != 0) x default
theorem piv_cases (x : List Int) : piv x = -1 ∨ ∃ k : Nat, piv x = k ∧ k < x.length ∧ x.getD k 0 ≠ 0 := by
  rcases idxFrom_ge (fun _ y : Int => y != 0) default x 0 with h | ⟨h1, h2⟩
  · exact .inl h
  · obtain ⟨k, hk⟩ : ∃ k : Nat, piv x = k := ⟨(piv x).toNat, by have : (0 : Int) ≤ piv x := h1; omega⟩
    refine .inr ⟨k, hk, ?_, ?_⟩
    · have h2 : piv x < ((0 + x.length : Nat) : Int) := h2
      omega
    · have := idxFrom_at (fun _ y : Int => y != 0) default 0 x 0 k (by rw [Nat.zero_add]; exact hk)
      simpa using this

set_option maxHeartbeats 400000 in
theorem pivot1_c (n : Int) (w : World) : Calls Tryz.prog 140 #[.int .i64 n] w fun e w' => e = .returned (.bool (n != 0)) ∧ ∃ q, w' = w.drewN q := by
  go_enter Tryz.func140, Tryz.ntmps140
  go_wp2
  go_ret
  exact ⟨rfl, 0, rfl⟩
theorem pivot1_pred (w : World) : Go.Proofs.PredAt Tryz.prog 140 #[] (Value.int .i64) (fun n => n != 0) w := fun W x _ => pivot1_c x W
theorem pivot1_enters : ∀ args w, (callFunc 140 args).run Tryz.prog w = .ok (.enter 140 args) w := enters_of Tryz.func140 (by kernel_rfl) rfl
theorem indexP_c (a : Option Addr) (cap : Nat) (x : List Int) (w : World) (hl : x.length ≤ 1000000)
    (hc : ∀ i u, (i64s x)[i]? = some u → ∃ b off, a = some ⟨b, off, none⟩ ∧ w.cell? ⟨b, off + i, none⟩ = some u) :
    Calls Tryz.prog 95 #[.slice a x.length cap, .func (.func 140) #[] #[]] w fun e w' => e = .returned (.int .i64 (piv x)) ∧ Ext w w' := by
  cases x with
  | nil => exact (AnyE.slices_IndexFunc_empty Tryz.lIndexR a cap _ w).mono fun e w' ⟨h, hw⟩ => ⟨h, by rw [hw]; exact Ext.refl _⟩
  | cons z r =>
    obtain ⟨b, off, rfl, _⟩ := hc 0 _ (i64s_at (l := z :: r) (by simp))
    have h := AnyE.slices_IndexFunc Tryz.lIndexR (Value.int .i64) (fun n => n != 0) 140 #[] pivot1_enters b off (z :: r).length cap (z :: r) w (pivot1_pred w) (Nat.le_refl _) (by omega) (fun j hj => by
      obtain ⟨b2, off2, e2, hcell⟩ := hc j _ (i64s_at hj)
      simp only [Option.some.injEq, Addr.mk.injEq, and_true] at e2
      obtain ⟨rfl, rfl⟩ := e2
      rw [hcell]
      unfold nthI
      rw [List.getD_eq_getElem?_getD, List.getElem?_eq_getElem hj, getElem!_pos _ j hj]
      rfl)
    rw [List.take_length] at h
    exact h.mono fun e w' ⟨he, q, hw⟩ => ⟨he, by rw [hw]; exact (Ext.refl w).drewN q⟩
set_option maxHeartbeats 400000 in
theorem pivot_c (v : Value) (x : List Int) (w : World) (hx : Sl w v (i64s x)) (hl : x.length ≤ 1000000) :
    Calls Tryz.prog 96 #[v] w fun e w' => e = .returned (.int .i64 (piv x)) ∧ Ext w w' := by
  obtain ⟨a, c, rfl, _, _, hc⟩ := hx.parts
  rw [i64s_length]
  have h := indexP_c a c x w hl hc
  have H := Lib.hid h
  clear h hc hx
  go_enter Tryz.func96, Tryz.ntmps96
  go_wp2_with fail
  refine H.out.mono ?_
  rintro e w1 ⟨rfl, hx1⟩
  have Hx1 := Lib.hid hx1; clear hx1
  go_wp2
  go_ret
  exact ⟨rfl, Hx1.out⟩


/-- An element above a pivot that is out of its bounds. -/
def offP (p : Nat) (r x : List Int) : Bool := decide (x.getD p 0 < 0) || decide (r.getD p 0 ≤ x.getD p 0)
set_option maxHeartbeats 1000000 in
theorem isform1_c (bp br : Nat) (vr vx : Value) (p : Nat) (r x : List Int) (w : World) (hp : w.cell? ⟨bp, 0, none⟩ = some (.int .i64 p)) (hr : w.cell? ⟨br, 0, none⟩ = some vr) (hsr : Sl w vr (i64s r)) (hsx : Sl w vx (i64s x)) (hpr : p < r.length) (hpx : p < x.length) (hl : r.length ≤ 1000000) (hlx : x.length ≤ 1000000) :
    Calls Tryz.prog 98 #[vx, .pointer (some ⟨bp, 0, none⟩), .pointer (some ⟨br, 0, none⟩)] w fun e w' => e = .returned (.bool (offP p r x)) ∧ ∃ q, w' = w.drewN q := by
  obtain ⟨ar, cr, rfl, _, _, hcr⟩ := hsr.parts
  obtain ⟨ax, cx, rfl, _, _, hcx⟩ := hsx.parts
  obtain ⟨b1, o1, rfl, h1⟩ := hcr p _ (i64s_at hpr)
  obtain ⟨b2, o2, rfl, h2⟩ := hcx p _ (i64s_at hpx)
  unfold offP
  have e1 : nthI r p = r.getD p 0 := rfl
  have e2 : nthI x p = x.getD p 0 := rfl
  rw [e1] at h1
  rw [e2] at h2
  generalize r.getD p 0 = z at *
  generalize x.getD p 0 = y at *
  rw [i64s_length] at hr ⊢
  clear hsr hsx hcr hcx e1 e2
  generalize r.length = n at *
  generalize x.length = m at *
  have h0 : (0 : Int) ≤ (p : Int) := by omega
  have hn : (p : Int) < (n : Int) := by omega
  have hm : (p : Int) < (m : Int) := by omega
  by_cases g : y < 0
  · have hd : decide (y < 0) = true := decide_eq_true g
    go_enter Tryz.func98, Tryz.ntmps98
    go_wp2_with fail
    go_quiet (fail)
    go_wp2_with fail
    go_ret
    refine ⟨?_, _, rfl⟩
    rw [hd]; rfl
  · have hd : decide (y < 0) = false := decide_eq_false g
    go_enter Tryz.func98, Tryz.ntmps98
    go_wp2_with fail
    go_quiet (fail)
    go_wp2_with fail
    go_ret
    refine ⟨?_, _, rfl⟩
    rw [hd]
    rfl

end Go.Proofs.YtkamjjjimbbdmaaGreatDoor

namespace Go.Proofs.YtkamjjjimbbdmaaGreatDoor
open Go.RowKit Go.Lib

theorem box_new (w : World) (v : Value) (t : TypeId) : (w.alloc (.cells #[v] t)).cell? ⟨w.heap.size, 0, none⟩ = some v := by
  have h := World.alloc_heap_new w (.cells #[v] t)
  unfold World.cell?; rw [h]; rfl
theorem isform1_enters : ∀ args w, (callFunc 98 args).run Tryz.prog w = .ok (.enter 98 args) w := enters_of Tryz.func98 (by kernel_rfl) rfl
theorem containsB_c (am : Option Addr) (cm : Nat) (vs : List Value) (m : List (List Int)) (k : Nat) (bp br p : Nat) (vr : Value) (r : List Int) (w : World) (hk : k ≤ m.length) (hml : m.length ≤ 1000000) (hvs : vs.length = m.length)
    (hcm : ∀ i u, vs[i]? = some u → ∃ b off, am = some ⟨b, off, none⟩ ∧ w.cell? ⟨b, off + i, none⟩ = some u) (hrow : ∀ i u, vs[i]? = some u → Sl w u (i64s (m.getD i [])))
    (hp : w.cell? ⟨bp, 0, none⟩ = some (.int .i64 p)) (hr : w.cell? ⟨br, 0, none⟩ = some vr) (hsr : Sl w vr (i64s r)) (hpr : p < r.length) (hl : r.length ≤ 1000000) (hlen : ∀ x ∈ m, x.length = r.length) :
    Calls Tryz.prog 97 #[.slice am k cm, .func (.func 98) #[] #[.pointer (some ⟨bp, 0, none⟩), .pointer (some ⟨br, 0, none⟩)]] w fun e w' => e = .returned (.bool ((m.take k).any (offP p r))) ∧ Ext w w' := by
  rcases Nat.eq_zero_or_pos k with rfl | hk0
  · exact (AnyE.slices_ContainsFunc_empty Tryz.lContainsM am cm _ w).mono fun e w' ⟨h, hw⟩ => ⟨by rw [h]; rfl, by rw [hw]; exact Ext.refl _⟩
  · have hm0 : 0 < m.length := by omega
    haveI : Inhabited (Fin m.length) := ⟨⟨0, hm0⟩⟩
    obtain ⟨b, off, rfl, _⟩ := hcm 0 _ (List.getElem?_eq_getElem (by omega))
    have hat : ∀ j : Fin m.length, vs[j.1]? = some (vs.getD j.1 (.bool false)) := fun j => by
      rw [List.getD_eq_getElem?_getD, List.getElem?_eq_getElem (by rw [hvs]; exact j.2)]; rfl
    have hpred : Go.Proofs.PredAt Tryz.prog 98 #[.pointer (some ⟨bp, 0, none⟩), .pointer (some ⟨br, 0, none⟩)] (fun j : Fin m.length => vs.getD j.1 (.bool false)) (fun j => offP p r (m.getD j.1 [])) w := fun W x hB => by
      have hE : Ext w W := hB
      have hlx : (m.getD x.1 []).length = r.length := hlen _ (by rw [List.getD_eq_getElem?_getD, List.getElem?_eq_getElem x.2]; exact List.getElem_mem x.2)
      exact isform1_c bp br vr _ p r (m.getD x.1 []) W (hE.cell hp) (hE.cell hr) (hE.sl hsr) (hE.sl (hrow x.1 _ (hat x))) hpr (by rw [hlx]; exact hpr) hl (by rw [hlx]; exact hl)
    have h := AnyE.slices_ContainsFunc Tryz.lContainsM (fun j : Fin m.length => vs.getD j.1 (.bool false)) (fun j => offP p r (m.getD j.1 [])) 98 #[.pointer (some ⟨bp, 0, none⟩), .pointer (some ⟨br, 0, none⟩)] isform1_enters b off k cm (List.ofFn (fun j : Fin m.length => j)) w hpred (by rw [List.length_ofFn]; exact hk) (by omega) (fun j hj => by
      rw [List.length_ofFn] at hj
      obtain ⟨b2, off2, e2, hcell⟩ := hcm j _ (hat ⟨j, hj⟩)
      simp only [Option.some.injEq, Addr.mk.injEq, and_true] at e2
      obtain ⟨rfl, rfl⟩ := e2
      rw [hcell, getElem!_pos _ j (by rw [List.length_ofFn]; exact hj), List.getElem_ofFn])
    have e : ((List.ofFn (fun j : Fin m.length => j)).take k).any (fun j => offP p r (m.getD j.1 [])) = (m.take k).any (offP p r) := by
      have e1 : m.take k = ((List.ofFn (fun j : Fin m.length => j)).take k).map (fun j => m.getD j.1 []) := by
        apply List.ext_getElem
        · simp
        · intro i h1 h2
          simp at h1
          simp [List.getD_eq_getElem?_getD]
      rw [e1, List.any_map]; rfl
    rw [e] at h
    exact h.mono fun e w' ⟨he, q, hw⟩ => ⟨he, by rw [hw]; exact (Ext.refl w).drewN q⟩

/-- Whether the rows behind some others, with the last pivot b, go on with a form. -/
def fmRest (pre : List (List Int)) (b : Int) : List (List Int) → Bool
  | [] => true
  | r :: t => if piv r ≤ b then false else if r.getD (piv r).toNat 0 < 0 then false else if pre.any (offP (piv r).toNat r) = true then false else fmRest (pre ++ [r]) (piv r) t
def isFm (m : List (List Int)) : Bool := fmRest [] (-1) m
theorem fmRest_drop {m : List (List Int)} {b : Int} {k : Nat} (hk : k < m.length) : fmRest (m.take k) b (m.drop k) = if piv (m.getD k []) ≤ b then false else if (m.getD k []).getD (piv (m.getD k [])).toNat 0 < 0 then false else if (m.take k).any (offP (piv (m.getD k [])).toNat (m.getD k [])) = true then false else fmRest (m.take (k + 1)) (piv (m.getD k [])) (m.drop (k + 1)) := by
  have e : m.getD k [] = m[k] := by rw [List.getD_eq_getElem?_getD, List.getElem?_eq_getElem hk]; rfl
  rw [List.drop_eq_getElem_cons hk, fmRest, List.take_succ_eq_append_getElem hk, e]

set_option maxRecDepth 100000 in
set_option maxHeartbeats 2000000 in
theorem isform_c (vm : Value) (m : List (List Int)) (n : Nat) (w : World) (hm : Mat w vm m) (hlen : ∀ x ∈ m, x.length = n) (hn : n ≤ 1000) (hml : m.length ≤ 1000) :
    Calls Tryz.prog 65 #[vm] w fun e w' => e = .returned (.bool (isFm m)) ∧ Ext w w' := by
  obtain ⟨vs, hvs, hsl, hr⟩ := hm
  obtain ⟨am, cm, rfl, _, hlc, hcm⟩ := hsl.parts
  rw [hvs] at hlc ⊢
  obtain ⟨res, hr0⟩ : ∃ r, r = isFm m := ⟨_, rfl⟩
  rw [← hr0]
  have ht : res = fmRest (m.take 0) (-1) (m.drop 0) := hr0
  have hcont := fun W (hE : Ext w W) (k bp br p : Nat) vr (r : List Int) (hk : k ≤ m.length) hp hr0 hsr hpr hl hlr => containsB_c am cm vs m k bp br p vr r W hk (by omega) hvs (fun i u hu => by
    obtain ⟨b, off, e, hc⟩ := hcm i u hu
    exact ⟨b, off, e, hE.cell hc⟩) (fun i u hu => hE.sl (hr i u hu)) hp hr0 hsr hpr hl hlr
  have Ht := Lib.hid ht; have Hcm := Lib.hid hcm; have Hr := Lib.hid hr; have Hlen := Lib.hid hlen; have Hvs := Lib.hid hvs; have Hcont := Lib.hid hcont
  clear ht hcm hsl hr hlen hvs hr0 hcont
  go_enter Tryz.func65, Tryz.ntmps65
  go_wp2_with fail
  go_loopw [3, 9] (fun v3 v9 wr => ∃ (k : Nat) (b : Int), v9 = .int .i64 k ∧ v3 = .int .i64 b ∧ -1 ≤ b ∧ b ≤ 1000 ∧ k ≤ m.length ∧ res = fmRest (m.take k) b (m.drop k) ∧ Ext w wr) (fun _ v9 _ => m.length - (intOf v9).toNat)
  case atStart => exact ⟨0, -1, rfl, rfl, by omega, by omega, Nat.zero_le _, Ht.out, Ext.refl _⟩
  case round =>
    obtain ⟨k, b, rfl, rfl, hb, hb2, hk, hrk, hext⟩ := hrel
    have Hrk := Lib.hid hrk; have Hext := Lib.hid hext; clear hrk hext
    by_cases hkl : k < m.length
    · obtain ⟨u, hu⟩ : ∃ u, vs[k]? = some u := ⟨_, List.getElem?_eq_getElem (by rw [Hvs.out]; exact hkl)⟩
      obtain ⟨bm, om, e1, hcu⟩ := Hcm.out k u hu
      subst e1
      have hs := Hr.out k u hu
      have hxl := Hlen.out _ (show m.getD k [] ∈ m by rw [List.getD_eq_getElem?_getD, List.getElem?_eq_getElem hkl]; exact List.getElem_mem hkl)
      have hrd := fmRest_drop (b := b) hkl
      rw [← Hrk.out] at hrd
      generalize m.getD k [] = x at *
      obtain ⟨ax, cx, rfl, _, _, hcx⟩ := hs.parts
      rw [i64s_length] at hcu hs
      have Hs := Lib.hid hs
      have h1 := Hext.out.cell hcu
      have Hrd := Lib.hid hrd; have Hxl := Lib.hid hxl; have Hcx := Lib.hid hcx
      clear hcu hs hcx hu hrd hxl
      have hk0 : (0 : Int) ≤ (k : Int) := by omega
      have hk1 : (k : Int) < (m.length : Int) := by omega
      have hkc : k ≤ cm := by omega
      have hpv := fun W (hE : Ext w W) => pivot_c (.slice ax x.length cx) x W (hE.sl Hs.out) (by rw [Hxl.out]; omega)
      have Hpv := Lib.hid hpv
      have hE1 : Ext w (wr.alloc (.cells #[.slice ax x.length cx] 30)) := Hext.out.alloc _
      have HE1 := Lib.hid hE1
      have Hb1 := Lib.hid (box_new wr (.slice ax x.length cx) 30)
      clear hpv hE1
      rcases piv_cases x with hp1 | ⟨q, hpq, hq1, hq0⟩
      · rw [hp1] at Hpv Hrd
        have hdb : decide ((-1 : Int) ≤ b) = true := decide_eq_true hb
        have hrr : res = false := by have := Hrd.out; rwa [if_pos hb] at this
        subst hrr
        clear hp1
        go_wp2_with fail
        refine (Hpv.out _ HE1.out).mono ?_
        rintro e w2 ⟨rfl, hx2⟩
        have HE2 := Lib.hid (HE1.out.trans hx2)
        have Hb2 := Lib.hid (hx2.cell Hb1.out)
        clear hx2
        go_wp2
        go_ret
        exact ⟨rfl, HE2.out.alloc _⟩
      · rw [hpq] at Hpv Hrd
        rw [show ((q : Int)).toNat = q by omega] at Hrd
        obtain ⟨b3, o3, e3, hcq⟩ := Hcx.out q _ (i64s_at hq1)
        subst e3
        have e4 : nthI x q = x.getD q 0 := rfl
        rw [e4] at hcq
        generalize x.getD q 0 = z at *
        have Hcq := Lib.hid hcq
        clear hcq e4 hpq
        by_cases hqb : (q : Int) ≤ b
        · have hdb : decide ((q : Int) ≤ b) = true := decide_eq_true hqb
          have hrr : res = false := by have := Hrd.out; rwa [if_pos hqb] at this
          subst hrr
          go_wp2_with fail
          refine (Hpv.out _ HE1.out).mono ?_
          rintro e w2 ⟨rfl, hx2⟩
          have HE2 := Lib.hid (HE1.out.trans hx2)
          have Hb2 := Lib.hid (hx2.cell Hb1.out)
          clear hx2
          go_wp2
          go_ret
          exact ⟨rfl, HE2.out.alloc _⟩
        · have hdb : decide ((q : Int) ≤ b) = false := decide_eq_false hqb
          have Hq1 := Lib.hid hq1
          have hqi : (q : Int) < (x.length : Int) := by omega
          have hqj : (0 : Int) ≤ (q : Int) := by omega
          by_cases hz : z < 0
          · have hdz : decide (z < 0) = true := decide_eq_true hz
            have hrr : res = false := by have := Hrd.out; rwa [if_neg hqb, if_pos hz] at this
            subst hrr
            go_wp2_with fail
            refine (Hpv.out _ HE1.out).mono ?_
            rintro e w2 ⟨rfl, hx2⟩
            have HE2 := Lib.hid (HE1.out.trans hx2)
            have hcz := (HE1.out.trans hx2).cell Hcq.out
            have hczz := ((Ext.refl w2).alloc (.cells #[.int .i64 q] 3)).cell hcz
            have hcb := ((Ext.refl w2).alloc (.cells #[.int .i64 q] 3)).cell (hx2.cell Hb1.out)
            have hcp := box_new w2 (.int .i64 q) 3
            have HE3 := Lib.hid (HE2.out.alloc (.cells #[.int .i64 q] 3))
            clear hx2 hcz
            generalize hw3 : w2.alloc (.cells #[.int .i64 q] 3) = w3 at *
            go_wp2
            go_ret
            exact ⟨rfl, HE3.out⟩
          · have hdz : decide (z < 0) = false := decide_eq_false hz
            have hrr : res = if (m.take k).any (offP q x) = true then false else fmRest (m.take (k + 1)) (q : Int) (m.drop (k + 1)) := by have := Hrd.out; rwa [if_neg hqb, if_neg hz] at this
            have Hrr := Lib.hid hrr
            clear hrr Hrd
            go_wp2_with fail
            refine (Hpv.out _ HE1.out).mono ?_
            rintro e w2 ⟨rfl, hx2⟩
            have HE2 := Lib.hid (HE1.out.trans hx2)
            have hcz := (HE1.out.trans hx2).cell Hcq.out
            have hczz := ((Ext.refl w2).alloc (.cells #[.int .i64 q] 3)).cell hcz
            have hcb := ((Ext.refl w2).alloc (.cells #[.int .i64 q] 3)).cell (hx2.cell Hb1.out)
            have hcp := box_new w2 (.int .i64 q) 3
            have HE3 := Lib.hid (HE2.out.alloc (.cells #[.int .i64 q] 3))
            clear hx2 hcz
            generalize hw3 : w2.alloc (.cells #[.int .i64 q] 3) = w3 at *
            have hct := Hcont.out w3 HE3.out k w2.heap.size wr.heap.size q _ x hk hcp hcb (HE3.out.sl Hs.out) Hq1.out (by rw [Hxl.out]; omega) (fun y hy => by rw [Hxl.out]; exact Hlen.out y hy)
            have Hct := Lib.hid hct; have Hcp := Lib.hid hcp
            clear hct
            generalize hbb : (m.take k).any (offP q x) = bb at *
            clear hbb
            cases bb with
            | true =>
              have hrr : res = false := by have := Hrr.out; simpa using this
              subst hrr
              go_wp2_with fail
              refine Hct.out.mono ?_
              rintro e w4 ⟨rfl, hx4⟩
              have HE4 := Lib.hid (HE3.out.trans hx4); clear hx4
              go_wp2
              go_ret
              exact ⟨rfl, HE4.out⟩
            | false =>
              have hrr : res = fmRest (m.take (k + 1)) (q : Int) (m.drop (k + 1)) := by have := Hrr.out; simpa using this
              have Hr5 := Lib.hid hrr; clear hrr
              have Hqx : Hid ((q : Int) ≤ 1000) := Lib.hid (by have := Hq1.out; have := Hxl.out; omega)
              go_wp2_with fail
              refine Hct.out.mono ?_
              rintro e w4 ⟨rfl, hx4⟩
              have HE4 := Lib.hid (HE3.out.trans hx4)
              have hcp4 := hx4.cell Hcp.out
              clear hx4
              go_wp2
              go_roundw
              case rel => exact ⟨k + 1, (q : Int), by go_num, rfl, by omega, Hqx.out, by omega, Hr5.out, HE4.out⟩
              case measure => simp [intOf]; omega
    · have hr0 : res = true := by rw [Hrk.out, List.drop_of_length_le (by omega)]; rfl
      subst hr0
      go_wp2
      go_ret
      exact ⟨rfl, Hext.out⟩

theorem tChk_zero {m : List (List Int)} (h : tChk m = 0) : m.length ≤ 12 ∧ (m.getD 0 []).length ≤ 12 ∧ ∀ x ∈ m, x.length = (m.getD 0 []).length ∧ ∀ z ∈ x, -1000000000 ≤ z ∧ z ≤ 1000000000 := by
  unfold tChk at h
  by_cases h12 : 12 < m.length
  · rw [if_pos h12] at h; cases h
  · rw [if_neg h12] at h
    have h2 := tRows_zero h
    refine ⟨by omega, ?_, fun x hx => ?_⟩
    · cases m with
      | nil => simp
      | cons a r => exact (tRow_zero (h2 a (List.mem_cons_self))).2.1
    · obtain ⟨g1, _, g3⟩ := tRow_zero (h2 x hx)
      exact ⟨g1, g3⟩
/-- What IsForm says. -/
def isFmE (m : List (List Int)) : Bool := if tChk m ≠ 0 then false else isFm m
set_option maxHeartbeats 1000000 in
theorem isformE_c (vm : Value) (m : List (List Int)) (w : World) (hm : Mat w vm m) (hrow : ∀ i, (m.getD i []).length ≤ 1000000) (hml : m.length ≤ 1000000) :
    Calls Tryz.prog 29 #[vm] w fun e w' => e = .returned (.tuple #[.bool (isFmE m), .int .i64 (tChk m)]) ∧ Ext w w' := by
  have hc := tcheck_c vm m w hm hrow hml
  have Hc := Lib.hid hc; have Hm := Lib.hid hm
  obtain ⟨vs, hvs, hsl, _⟩ := hm
  obtain ⟨am, cm, rfl, _, _, _⟩ := hsl.parts
  clear hc hsl
  unfold isFmE
  by_cases h0 : tChk m = 0
  · rw [if_neg (by simpa using h0)]
    obtain ⟨z1, z2, z3⟩ := tChk_zero h0
    have hf := fun W (h : Ext w W) => isform_c _ m _ W (h.mat Hm.out) (fun x hx => (z3 x hx).1) (by omega) (by omega)
    have Hf := Lib.hid hf
    rw [h0] at Hc ⊢
    rw [hvs] at *
    clear hf z1 z2 z3 h0 hvs hml
    go_enter Tryz.func29, Tryz.ntmps29
    go_wp2_with fail
    refine Hc.out.mono ?_
    rintro e w1 ⟨rfl, hx1⟩
    have Hx1 := Lib.hid hx1; clear hx1
    go_wp2_with fail
    refine (Hf.out w1 Hx1.out).mono ?_
    rintro e w2 ⟨rfl, hx2⟩
    have Hx2 := Lib.hid (Hx1.out.trans hx2); clear hx2
    go_wp2
    go_ret2
    exact ⟨rfl, Hx2.out⟩
  · rw [if_pos h0]
    have ht : (tChk m != 0) = true := by rw [bne_iff_ne]; exact h0
    rw [hvs] at *
    generalize tChk m = r at *
    clear h0 hvs hml
    go_enter Tryz.func29, Tryz.ntmps29
    go_wp2_with fail
    refine Hc.out.mono ?_
    rintro e w1 ⟨rfl, hx1⟩
    have Hx1 := Lib.hid hx1; clear hx1
    go_wp2
    go_ret2
    exact ⟨rfl, Hx1.out⟩

end Go.Proofs.YtkamjjjimbbdmaaGreatDoor

namespace Go.Proofs.YtkamjjjimbbdmaaGreatDoor
open Go.RowKit Go.Lib Go.Shelf

def repRow (k n : Nat) (v z : Value) : List Value := List.replicate k v ++ List.replicate (n - k) z
theorem repRow_splice {k n : Nat} (v z : Value) : splice (repRow k n v z) k (List.replicate (Nat.min k (n - k)) v) = repRow (k + Nat.min k (n - k)) n v z := by
  have hm : Nat.min k (n - k) ≤ n - k := Nat.min_le_right _ _
  unfold splice repRow
  rw [List.take_append_of_le_length (by simp), List.take_of_length_le (by simp), List.length_replicate, List.drop_append, List.drop_of_length_le (by simp), List.nil_append, List.length_replicate, ← List.append_assoc, List.drop_replicate, List.replicate_append_replicate]
  congr 2
  omega

theorem repRow_length {k n : Nat} (v z : Value) (h : k ≤ n) : (repRow k n v z).length = n := by unfold repRow; simp; omega
theorem info_string : (Tryz.prog.info? 76).map (fun i => (i.zero, i.size, i.bytes)) = some (some (.string ByteArray.empty), 1, 16) := by kernel_rfl
theorem size_string : (Tryz.prog.info? 76).map (·.size) = some 1 := by kernel_rfl
theorem make_strings (n : Nat) (v z : Value) (hz : z = .string ByteArray.empty) (w : World) (h : n ≤ 1000) : (Instr.makeSlice 116 (.int .i64 (n : Int)) (.int .i64 (n : Int))).run Tryz.prog w = .ok (.slice (some ⟨w.heap.size, 0, none⟩) n n) (w.alloc (.cells (repRow 0 n v z).toArray 76)) := by
  subst hz
  obtain ⟨i0, hi, hz0, hz1, hz2⟩ := info_parts info_string
  have h1 := run_make (P := Tryz.prog) w 116 76 i0 (.string ByteArray.empty) Tryz.underlying116 hi hz0 .i64 .i64 (n : Int) (n : Int) (by omega) (Int.le_refl _) (by rw [hz2]; omega) (by omega)
  rw [h1, hz1, Int.toNat_natCast, Nat.mul_one]
  have h2 : madeCells (Value.string ByteArray.empty).cells n = (repRow 0 n v (.string ByteArray.empty)).toArray := by
    apply Array.ext'
    show (madeCells #[Value.string ByteArray.empty] n).toList = _
    rw [toList_madeCells_one]
    unfold repRow; simp
  rw [h2]
theorem rep_first {n : Nat} (v z : Value) : splice (repRow 0 n v z) 0 [v] = repRow 1 n v z := by
  unfold splice repRow
  simp
theorem bitsMul_c (x y : Nat) (hx : x < 18446744073709551616) (hy : y < 18446744073709551616) (w : World) :
    Calls Tryz.prog 142 #[.int .u64 x, .int .u64 y] w fun e w' => e = .returned (.tuple #[.int .u64 ((x * y / 18446744073709551616 : Nat) : Int), .int .u64 ((x * y % 18446744073709551616 : Nat) : Int)]) ∧ w' = w := Any.bits_Mul Tryz.lBitsMul x y hx hy w

set_option maxRecDepth 100000 in
set_option maxHeartbeats 400000 in
theorem repeat_c (b : Nat) (v z : Value) (hz : z = .string ByteArray.empty) (hv : v.oneCell' = true) (n : Nat) (w : World) (hn : n ≤ 1000) (hnp : 0 < n) (hc : w.cell? ⟨b, 0, none⟩ = some v) :
    Calls Tryz.prog 99 #[.slice (some ⟨b, 0, none⟩) 1 1, .int .i64 n] w fun e w' => e = .returned (.slice (some ⟨w.heap.size, 0, none⟩) n n) ∧ w'.heap[w.heap.size]? = some (.cells (repRow n n v z).toArray 76 (0, 0)) ∧ Ext w w' := by
  have hmul := bitsMul_c 1 n (by omega) (by omega) w
  rw [show 1 * n / 18446744073709551616 = 0 by omega, show 1 * n % 18446744073709551616 = n by omega] at hmul
  have Hmul := Lib.hid hmul
  have hmk := make_strings n v z hz w hn
  clear hmul
  have hn0 : (0 : Int) ≤ (n : Int) := by omega
  have hn1 : (n : Int) ≤ 1000 := by omega
  have hw1 : IntKind.u64.wrap (n : Int) = (n : Int) := by rw [IntKind.wrap_u64]; omega
  have hw2 : IntKind.i64.wrap (n : Int) = (n : Int) := by rw [IntKind.wrap_i64]; omega
  go_enter Tryz.func99, Tryz.ntmps99
  go_wp2_with fail
  refine Hmul.out.mono ?_
  rintro e w1 ⟨rfl, hw1⟩
  rw [hw1]
  clear hw1 w1
  have hE0 : Ext w (w.alloc (.cells (repRow 0 n v z).toArray 76)) := (Ext.refl w).alloc _
  have hg0 : (w.alloc (.cells (repRow 0 n v z).toArray 76)).heap[w.heap.size]? = some (.cells (repRow 0 n v z).toArray 76 (0, 0)) := World.alloc_heap_new w _
  have hc0 := hE0.cell hc
  generalize hw0 : w.alloc (.cells (repRow 0 n v z).toArray 76) = W0 at *
  have HE0 := Lib.hid hE0; have Hg0 := Lib.hid hg0; have Hc0 := Lib.hid hc0
  clear hE0 hg0 hc0 hc Hmul
  have Hv1 := Lib.hid hv
  clear hv hz
  have k1 : [v].length = Nat.min 1 n := by rw [show Nat.min 1 n = 1 from Nat.min_eq_left hnp]; rfl
  have k2 : ∀ j u, [v][j]? = some u → W0.cell? (Addr.add ⟨b, 0, none⟩ j) = some u := fun j u hu => by
    cases j with
    | zero => injection hu with hu; subst hu; exact Hc0.out
    | succ j => simp at hu
  have k3 : 0 + [v].length ≤ (repRow 0 n v z).length := by rw [repRow_length v z (Nat.zero_le _)]; simp; omega
  have k4 : ∀ u ∈ [v], u.oneCell' = true := fun u hu => by
    have := List.mem_singleton.1 hu; subst this; exact Hv1.out
  have K1 := Lib.hid k1; have K2 := Lib.hid k2; have K3 := Lib.hid k3; have K4 := Lib.hid k4
  clear k1 k2 k3 k4
  go_wp2_with ((with_reducible show wpList _ _ _ (⟨some 33, _, _, _, _, _⟩ :: _) _ _); (refine wpList_copy_splice (o := ⟨some 33, _, _, _, _, _⟩) rfl (.tmp 31) (.tmp 32) 116 116 rfl 76 Tryz.underlying116 size_string _ _ _ _ _ _ rfl rfl w.heap.size 0 (repRow 0 n v z) 76 Hg0.out [v] K1.out (fun _ => ⟨rfl, _, rfl, K2.out⟩) K3.out K4.out w.heap.size w HE0.out (Nat.le_refl _) ?_); intro w1 hg1 hb1)
  rw [rep_first] at hg1
  have HE1 : Hid (Ext w w1) := Lib.hid hb1
  have Hg1 := hg1
  clear hb1 hg1 K1 K2 K3 K4
  go_loopw [8] (fun v8 wr => ∃ k : Nat, v8 = .int .i64 k ∧ 0 < k ∧ k ≤ n ∧ wr.heap[w.heap.size]? = some (.cells (repRow k n v z).toArray 76 (0, 0)) ∧ Ext w wr) (fun v8 _ => n - (intOf v8).toNat)
  case atStart => exact ⟨1, rfl, by omega, hnp, Hg1.out, HE1.out⟩
  case round =>
    obtain ⟨k, rfl, hk0, hk, hg, hE⟩ := hrel
    have Hg := Lib.hid hg; have HE := Lib.hid hE
    clear hg hE
    by_cases hkn : k < n
    · have k1 : (List.replicate (Nat.min k (n - k)) v).length = Nat.min k (n - k) := List.length_replicate
      have k2 : ∀ j u, (List.replicate (Nat.min k (n - k)) v)[j]? = some u → wr.drew.cell? (Addr.add ⟨w.heap.size, 0, none⟩ j) = some u := fun j u hu => by
        have hj : j < Nat.min k (n - k) := by
          have := (List.getElem?_eq_some_iff.1 hu).1
          rwa [List.length_replicate] at this
        have hjk : j < k := Nat.lt_of_lt_of_le hj (Nat.min_le_left _ _)
        have e : (repRow k n v z)[j]? = some u := by
          unfold repRow
          rw [List.getElem?_append_left (by rw [List.length_replicate]; exact hjk)]
          rw [List.getElem?_replicate, if_pos hj] at hu
          rw [List.getElem?_replicate, if_pos hjk]; exact hu
        rw [show (Addr.add ⟨w.heap.size, 0, none⟩ j) = ⟨w.heap.size, 0 + j, none⟩ by unfold Addr.add; split <;> simp_all]
        unfold World.cell?
        dsimp only
        rw [show wr.drew.heap[w.heap.size]? = _ from Hg.out]
        simpa using e
      have k3 : k + (List.replicate (Nat.min k (n - k)) v).length ≤ (repRow k n v z).length := by
        rw [repRow_length v z hk, List.length_replicate]
        have h7 : Nat.min k (n - k) ≤ n - k := Nat.min_le_right _ _
        generalize Nat.min k (n - k) = m at *
        omega
      have k4 : ∀ u ∈ List.replicate (Nat.min k (n - k)) v, u.oneCell' = true := fun u hu => by
        have := List.eq_of_mem_replicate hu; subst this; exact Hv1.out
      have k5 := repRow_splice (k := k) (n := n) v z
      have k6 : 0 < Nat.min k (n - k) := Nat.lt_min.2 ⟨hk0, by omega⟩
      have k7 : Nat.min k (n - k) ≤ n - k := Nat.min_le_right _ _
      generalize hcs : List.replicate (Nat.min k (n - k)) v = cs at *
      generalize hm : Nat.min k (n - k) = m at *
      have K1 := Lib.hid k1; have K2 := Lib.hid k2; have K3 := Lib.hid k3; have K4 := Lib.hid k4; have K5 := Lib.hid k5; have Hm := Lib.hid hm
      have hw3 : IntKind.i64.wrap ((k : Int) + (m : Int)) = ((k + m : Nat) : Int) := by rw [IntKind.wrap_i64]; omega
      clear k1 k2 k3 k4 k5 hcs hm
      have hki : (k : Int) < (n : Int) := by omega
      have hk0i : (0 : Int) ≤ (k : Int) := by omega
      go_wp2_with fail
      have hgd : wr.drew.heap[w.heap.size]? = some (.cells (repRow k n v z).toArray 76 (0, 0)) := Hg.out
      have hEd : Ext w wr.drew := HE.out.drewN 1
      have Hgd := Lib.hid hgd; have HEd := Lib.hid hEd
      clear hgd hEd
      have hnk : ¬ n = k := by omega
      go_region_law ((refine step_copy_splice rfl (.tmp 41) (.tmp 44) 116 116 rfl 76 Tryz.underlying116 size_string (some ⟨w.heap.size, k, none⟩) (some ⟨w.heap.size, 0, none⟩) (n - k) (n - k) k n (by simp [Act.eval, Act.put]) (by simp [Act.eval, Act.put]) w.heap.size k (repRow k n v z) 76 Hgd.out cs (K1.out.trans Hm.out.symm) (fun _ => ⟨rfl, _, rfl, K2.out⟩) K3.out K4.out w.heap.size w HEd.out (Nat.le_refl _) ?_); intro w4 hg4 hb4)
      rw [K5.out] at hg4
      rw [K1.out]
      have Hb4 : Hid (Ext w w4) := Lib.hid hb4
      clear hb4
      go_simp
      go_roundw
      case rel => exact ⟨_, _, _, _, _, _, _, _, _, _, _, _, _, _, ⟨k + m, rfl, by omega, by omega, hg4.out, Hb4.out⟩, rfl⟩
      case measure => simp [intOf]; omega
    · obtain rfl : k = n := by omega
      go_wp2
      go_ret
      exact ⟨rfl, Hg.out, HE.out⟩

end Go.Proofs.YtkamjjjimbbdmaaGreatDoor

namespace Go.Proofs.YtkamjjjimbbdmaaGreatDoor
open Go.RowKit Go.Lib Go.Shelf

def strs (l : List Int) : List Value := l.map fun z => .string (I z)
theorem strs_length (l : List Int) : (strs l).length = l.length := by simp [strs]
theorem strs_app (l : List Int) (z : Int) : strs (l ++ [z]) = strs l ++ [.string (I z)] := by simp [strs]
/-- A line: its slices, and the integers of its row. -/
structure Ln where
  u : Value
  y : Value
  x : List Int
def lnc (ls : List Ln) : List Value := ls.flatMap fun e => [e.u, e.y]
theorem lnc_app (ls : List Ln) (e : Ln) : lnc (ls ++ [e]) = lnc ls ++ [e.u, e.y] := by simp [lnc]
def LnS (w : World) (B : Nat) (v : Value) (ls : List Ln) : Prop := w.ownsRow B 118 2 v ls.length (lnc ls) ∧ ∀ e ∈ ls, w.ownsRow B 76 1 e.u e.x.length (strs e.x) ∧ ∃ b n c, e.y = .slice (some ⟨b, 0, none⟩) n c
theorem Ext.lnS {w w' : World} (h : Ext w w') {B : Nat} {v : Value} {ls : List Ln} (k : LnS w B v ls) : LnS w' B v ls := ⟨h.own k.1, fun e he => ⟨h.own (k.2 e he).1, (k.2 e he).2⟩⟩
theorem info_line : (Tryz.prog.info? 118).map (fun i => (i.zero, i.size, i.bytes)) = some (some (.agg #[.slice none 0 0, .slice none 0 0]), 2, 48) := by kernel_rfl

theorem nthI_mem' {x : List Int} {j : Nat} (h : j < x.length) : nthI x j ∈ x := by
  unfold nthI; rw [List.getD_eq_getElem?_getD, List.getElem?_eq_getElem h]; exact List.getElem_mem h
theorem row_cell {w : World} {b k : Nat} {us : List Value} {t : TypeId} {u : Value} (h : w.heap[b]? = some (.cells us.toArray t (0, 0))) (hu : us[k]? = some u) : w.cell? ⟨b, k, none⟩ = some u := by
  unfold World.cell?
  dsimp only
  rw [h]
  simpa using hu
theorem own_past {w : World} {B E sz : Nat} {v : Value} {n : Nat} {xs : List Value} (h : w.ownsRow B E sz v n xs) {p : Addr} (hp : p.block < B) (u : Value) : (w.setCell p u).ownsRow B E sz v n xs :=
  World.ownsRow.kept h (⟨rfl, rfl, rfl, by simp, fun i _ hne => heap_setCell_other w p i u (fun e => hne (by rw [e]))⟩ : w.grownBy (w.setCell p u) (some p.block)) (by
    cases hv : v.ownBlock with
    | none => exact .inl rfl
    | some k =>
      refine .inr fun e => ?_
      injection e with e
      have := (World.ownsRow.lt h k hv).1
      omega)
/-- The block of a line that a variable holds. -/
def LnBox (w : World) (b : Nat) (a y : Value) : Prop := w.heap[b]? = some (.cells #[a, y] 118 (0, 0))
theorem LnBox.cell0 {w : World} {b : Nat} {a y : Value} (h : LnBox w b a y) : w.cell? ⟨b, 0, none⟩ = some a := row_cell (us := [a, y]) h rfl
theorem LnBox.cell1 {w : World} {b : Nat} {a y : Value} (h : LnBox w b a y) : w.cell? ⟨b, 1, none⟩ = some y := row_cell (us := [a, y]) h rfl
theorem LnBox.frozen {w : World} {b : Nat} {a y : Value} (h : LnBox w b a y) (j : Nat) : w.frozen? ⟨b, j, none⟩ = false := frozen_of_row w b j _ _ h
theorem LnBox.new (w : World) (a y : Value) : LnBox (w.alloc (.cells #[a, y] 118)) w.heap.size a y := World.alloc_heap_new w _
theorem LnBox.put {w : World} {b : Nat} {a y : Value} (h : LnBox w b a y) (v : Value) : LnBox (w.setCell ⟨b, 0, none⟩ v) b v y := heap_setCell_same w b 0 _ _ v h
theorem LnBox.past {w : World} {b : Nat} {a y : Value} (h : LnBox w b a y) {p : Addr} (hp : b ≠ p.block) (v : Value) : LnBox (w.setCell p v) b a y := (heap_setCell_other w p b v hp).trans h
theorem LnBox.lt {w : World} {b : Nat} {a y : Value} (h : LnBox w b a y) : b < w.heap.size := (Array.getElem?_eq_some_iff.1 h).1
theorem LnBox.ext {w w' : World} (hx : Ext w w') {b : Nat} {a y : Value} (h : LnBox w b a y) : LnBox w' b a y := (hx.block b h.lt).trans h
theorem LnBox.grown {w w' : World} {row : Option Nat} (hg : w.grownBy w' row) {b : Nat} {a y : Value} (h : LnBox w b a y) (hne : row ≠ some b) : LnBox w' b a y := (hg.block b h.lt (fun e => hne e.symm)).trans h

set_option maxRecDepth 100000 in
set_option maxHeartbeats 2000000 in
theorem lines_c (vm : Value) (m : List (List Int)) (n : Nat) (w : World) (he : Env w) (hm : Mat w vm m) (hlen : ∀ x ∈ m, x.length = n) (hb : ∀ x ∈ m, ∀ z ∈ x, -1000000000 ≤ z ∧ z ≤ 1000000000) (hn : n ≤ 1000) (hml : m.length ≤ 1000) :
    Calls Tryz.prog 67 #[vm] w fun e w' => ∃ v, e = .returned v ∧ ∃ ls, LnS w' w.heap.size v ls ∧ ls.map Ln.x = m ∧ Ext w w' := by
  obtain ⟨i0, hi, hz0, hz1, hz2⟩ := info_parts info_string
  obtain ⟨j0, hj, hy0, hy1, hy2⟩ := info_parts info_line
  obtain ⟨vs, hvs, hsl, hr⟩ := hm
  obtain ⟨am, cm, rfl, _, hlc, hcm⟩ := hsl.parts
  rw [hvs] at hlc ⊢
  have He := Lib.hid he; have Hcm := Lib.hid hcm; have Hr := Lib.hid hr; have Hlen := Lib.hid hlen; have Hvs := Lib.hid hvs; have Hb := Lib.hid hb
  clear hcm hsl hr hlen hvs he hb
  go_enter Tryz.func67, Tryz.ntmps67
  go_wp2_with fail
  go_loopw [3, 11] (fun v3 v11 wr => ∃ (k : Nat) (ls : List Ln), v11 = .int .i64 k ∧ k ≤ m.length ∧ ls.length = k ∧ LnS wr w.heap.size v3 ls ∧ ls.map Ln.x = m.take k ∧ Ext w wr) (fun _ v11 _ => m.length - (intOf v11).toNat)
  case atStart => exact ⟨0, [], rfl, Nat.zero_le _, rfl, ⟨World.ownsRow_nil _ _ _ _, fun e he => by cases he⟩, rfl, Ext.refl _⟩
  case round =>
    obtain ⟨k, ls, rfl, hk, hlk, hls, hmap, hext⟩ := hrel
    have Hls := Lib.hid hls; have Hext := Lib.hid hext; have Hmap := Lib.hid hmap; have Hlk := Lib.hid hlk
    have hls1 := hls.1
    rw [hlk] at hls1
    obtain ⟨a3, c3, rfl⟩ := own_shape hls1
    clear hls hls1 hext hmap hlk
    obtain ⟨wa, hwa⟩ : ∃ wa, wa = wr := ⟨_, rfl⟩
    subst hwa
    by_cases hkl : k < m.length
    · obtain ⟨u, hu⟩ : ∃ u, vs[k]? = some u := ⟨_, List.getElem?_eq_getElem (by rw [Hvs.out]; exact hkl)⟩
      obtain ⟨bm, om, e1, hcu⟩ := Hcm.out k u hu
      subst e1
      have hs := Hr.out k u hu
      have hmem : m.getD k [] ∈ m := by rw [List.getD_eq_getElem?_getD, List.getElem?_eq_getElem hkl]; exact List.getElem_mem hkl
      have hxl := Hlen.out _ hmem
      have hxb := Hb.out _ hmem
      have hmk : m.take (k + 1) = m.take k ++ [m.getD k []] := by
        rw [List.take_succ_eq_append_getElem hkl, List.getD_eq_getElem?_getD, List.getElem?_eq_getElem hkl]; rfl
      generalize m.getD k [] = x at *
      obtain ⟨ax, cx, rfl, _, _, hcx⟩ := hs.parts
      rw [i64s_length] at hcu hs
      have h1 := Hext.out.cell hcu
      have Hs := Lib.hid hs; have Hxl := Lib.hid hxl; have Hcx := Lib.hid hcx; have Hxb := Lib.hid hxb; have Hmk := Lib.hid hmk
      have hxl2 : x.length ≤ 1000 := by omega
      clear hcu hs hcx hu hxl hxb hmk hmem
      have hk0 : (0 : Int) ≤ (k : Int) := by omega
      have hk1 : (k : Int) < (m.length : Int) := by omega
      have hmp : 0 < m.length := by omega
      have hE1 : Ext wa (wa.alloc (.cells #[.string ⟨#[48]⟩] 76)) := (Ext.refl wa).alloc _
      have hrep := repeat_c wa.heap.size (.string ⟨#[48]⟩) _ rfl rfl m.length (wa.alloc (.cells #[.string ⟨#[48]⟩] 76)) hml hmp (box_new wa _ _)
      have hs1 : (wa.alloc (.cells #[.string ⟨#[48]⟩] 76)).heap.size = wa.heap.size + 1 := by rw [World.size_alloc]
      generalize hw1 : wa.alloc (.cells #[.string ⟨#[48]⟩] 76) = W1 at *
      rw [hs1] at hrep
      have HE1 := Lib.hid hE1; have Hrep := Lib.hid hrep; have Hs1 := Lib.hid hs1
      clear hE1 hrep hs1
      go_wp2_with fail
      refine Hrep.out.mono ?_
      rintro e W2 ⟨rfl, hh2, hx2⟩
      have HE2 := Lib.hid (HE1.out.trans hx2)
      have Hh2 := Lib.hid hh2
      have hrk : (repRow m.length m.length (.string ⟨#[48]⟩) (.string ByteArray.empty))[k]? = some (.string ⟨#[48]⟩) := by
        unfold repRow
        rw [List.getElem?_append_left (by rw [List.length_replicate]; exact hkl), List.getElem?_replicate, if_pos hkl]
      have hlt2 := (Array.getElem?_eq_some_iff.1 hh2).1
      have hbx : LnBox (W2.alloc (.cells #[.slice none 0 0, .slice (some ⟨wa.heap.size + 1, 0, none⟩) m.length m.length] 118)) W2.heap.size (.slice none 0 0) (.slice (some ⟨wa.heap.size + 1, 0, none⟩) m.length m.length) := LnBox.new _ _ _
      have hE3 : Ext wa (W2.alloc (.cells #[.slice none 0 0, .slice (some ⟨wa.heap.size + 1, 0, none⟩) m.length m.length] 118)) := HE2.out.alloc _
      have hh3 := (((Ext.refl W2).alloc (.cells #[.slice none 0 0, .slice (some ⟨wa.heap.size + 1, 0, none⟩) m.length m.length] 118)).block _ hlt2).trans hh2
      have hsz : W2.heap.size < (W2.alloc (.cells #[.slice none 0 0, .slice (some ⟨wa.heap.size + 1, 0, none⟩) m.length m.length] 118)).heap.size := by rw [World.size_alloc]; omega
      have hwz : wa.heap.size ≤ W2.heap.size := HE2.out.size
      generalize hw3 : W2.alloc (.cells #[.slice none 0 0, .slice (some ⟨wa.heap.size + 1, 0, none⟩) m.length m.length] 118) = W3 at *
      have hc3 := row_cell hh3 hrk
      have hf3 := frozen_of_row W3 _ k _ _ hh3
      have hb1 := hbx.cell1
      have hE4 : Ext wa (W3.setCell ⟨wa.heap.size + 1, k, none⟩ (.string ⟨#[49]⟩)) := hE3.setCell (by simp) _
      have hbx4 : LnBox (W3.setCell ⟨wa.heap.size + 1, k, none⟩ (.string ⟨#[49]⟩)) W2.heap.size (.slice none 0 0) (.slice (some ⟨wa.heap.size + 1, 0, none⟩) m.length m.length) := hbx.past (by simp; omega) _
      have hsz4 : (W3.setCell ⟨wa.heap.size + 1, k, none⟩ (.string ⟨#[49]⟩)).heap.size = W3.heap.size := by simp
      generalize hw4 : W3.setCell ⟨wa.heap.size + 1, k, none⟩ (.string ⟨#[49]⟩) = W4 at *
      have HE4 := Lib.hid hE4; have Hbx4 := Lib.hid hbx4; have Hwz := Lib.hid hwz
      have Hsz4 : Hid (W2.heap.size < W4.heap.size) := Lib.hid (by rw [hsz4]; exact hsz)
      have Hsz3 := Lib.hid hsz4
      clear hE4 hbx4 hx2 hh2 hrk hh3 hE3 hbx hsz hsz4 hwz hlt2
      go_wp2_with fail
      go_loopw [27] (fun v27 wi => ∃ (j : Nat) (a : Option Addr) (c : Nat), v27 = .int .i64 j ∧ j ≤ x.length ∧ LnBox wi W2.heap.size (.slice a j c) (.slice (some ⟨wa.heap.size + 1, 0, none⟩) m.length m.length) ∧ wi.ownsRow (W2.heap.size + 1) 76 1 (.slice a j c) j (strs (x.take j)) ∧ Ext wa wi) (fun v27 _ => x.length - (intOf v27).toNat)
      case atStart => exact ⟨0, none, 0, rfl, Nat.zero_le _, Hbx4.out, World.ownsRow_nil _ _ _ _, HE4.out⟩
      case round =>
        obtain ⟨j, a, c, rfl, hj2, hbx, hown, hE⟩ := hrel
        have Hbx := Lib.hid hbx; have Hown := Lib.hid hown; have HE := Lib.hid hE
        clear hbx hown hE
        have hbl := Hbx.out.lt
        by_cases hjl : j < x.length
        · have hbz := Hxb.out (nthI x j) (nthI_mem' hjl)
          obtain ⟨b3, o3, e3, hcj⟩ := Hcx.out j _ (i64s_at hjl)
          subst e3
          have h2 := (Hext.out.trans HE.out).cell hcj
          have htk : strs (x.take (j + 1)) = strs (x.take j) ++ [.string (I (nthI x j))] := by
            rw [List.take_succ_eq_append_getElem hjl, strs_app]
            congr 3
            unfold nthI
            rw [List.getD_eq_getElem?_getD, List.getElem?_eq_getElem hjl]; rfl
          generalize nthI x j = z at *
          have Htk := Lib.hid htk
          have hEd : Ext wa wr.drew := HE.out.drew
          have hbd : LnBox wr.drew W2.heap.size (.slice a j c) (.slice (some ⟨wa.heap.size + 1, 0, none⟩) m.length m.length) := Hbx.out
          have hod : wr.drew.ownsRow (W2.heap.size + 1) 76 1 (.slice a j c) j (strs (x.take j)) := Hown.out
          have hof := wholeOf_c z (by omega) (by omega) wr.drew (He.out.ext (Hext.out.trans hEd))
          have hwd : W2.heap.size + 1 ≤ wr.drew.heap.size := hbl
          have Hof := Lib.hid hof; have HEd := Lib.hid hEd; have Hbd := Lib.hid hbd; have Hod := Lib.hid hod; have Hwd := Lib.hid hwd
          have hc0 := hbd.cell0
          have hj0 : (0 : Int) ≤ (j : Int) := by omega
          have hj1 : (j : Int) < (x.length : Int) := by omega
          have hm1 : j + 1 ≤ maxLen := by unfold maxLen; omega
          have hm2 : (j + 1) * 16 ≤ 140737488355328 := by omega
          clear hbz hcj htk hEd hbd hod hof hwd
          go_wp2_with fail
          go_region_law (first
            | (go_simp; go_at_call 41; refine Hof.out.mono ?_; rintro e V1 ⟨rfl, hx1⟩; have hbV := Hbd.out.ext hx1; have HbV := Lib.hid (hbV.ext ((Ext.refl V1).alloc (.cells #[.string (I z)] 76))); have Hown2 := Lib.hid (((Ext.refl V1).alloc (.cells #[.string (I z)] 76)).own (hx1.own Hod.out)); have hcV := hbV.cell0; have hcA := HbV.out.cell0; have Hsz := Lib.hid (Nat.le_trans Hwd.out (hx1.alloc (.cells #[.string (I z)] 76)).size); have HEV := Lib.hid ((HEd.out.trans hx1).alloc (.cells #[.string (I z)] 76)); have Hnews := Lib.hid (cell_one_new V1 (.string (I z)) 76); clear hx1 hbV)
            | (refine step_append_lies _ rfl (.tmp 32) (.tmp 35) 116 rfl (W2.heap.size + 1) 76 i0 (.string ByteArray.empty) 1 16 Tryz.underlying116 hi hz0 hz1 hz2 rfl (by decide) (.slice a j c) j (strs (x.take j)) (by simp [Act.eval]) Hown2.out ⟨V1.heap.size, 0, none⟩ 1 1 [.string (I z)] (by simp [Act.eval]) rfl Hnews.out (by simp [Value.oneCell']) (by decide) hm1 hm2 Hsz.out _ rfl ?_; intro g1 c1 V3 hown3 hgrow3 hat3 hlt3; have hb3 := HbV.out.grown hgrow3 (fun e => by have := (World.ownsRow.lt Hown2.out _ e).1; omega); have hc3 := hb3.cell0; have hf3 := hb3.frozen 0; have Hb3 := Lib.hid hb3; have Hown3 := Lib.hid hown3; have HE3 := Lib.hid (HEV.out.grown hgrow3 (fun q e => by have := (World.ownsRow.lt Hown2.out _ e).1; have := Hwz.out; omega)); clear hb3 hown3 hgrow3 hat3 hlt3))
          all_goals
            have hown4 := own_past (p := ⟨W2.heap.size, 0, none⟩) Hown3.out (by simp) (.slice (some ⟨g1, 0, none⟩) (j + 1) c1)
            have hb4 := Hb3.out.put (.slice (some ⟨g1, 0, none⟩) (j + 1) c1)
            have hE4 := HE3.out.setCell (p := ⟨W2.heap.size, 0, none⟩) Hwz.out (.slice (some ⟨g1, 0, none⟩) (j + 1) c1)
            rw [← Htk.out] at hown4
            have Hown4 := Lib.hid hown4; have Hb4 := Lib.hid hb4; have HE4' := Lib.hid hE4
            clear hown4 hb4 hE4
            generalize V3.setCell ⟨W2.heap.size, 0, none⟩ (.slice (some ⟨g1, 0, none⟩) (j + 1) c1) = V4 at *
            go_wp2_with fail
            go_roundw
            case rel => exact ⟨j + 1, some ⟨g1, 0, none⟩, c1, by go_num, by omega, Hb4.out, Hown4.out, HE4'.out⟩
            case measure => simp [intOf]; omega
        · obtain rfl : j = x.length := by omega
          have hbd := Hbx.out
          have hc0 := hbd.cell0
          have hc1 := hbd.cell1
          clear hbd
          have hls6 : wr.ownsRow w.heap.size 118 2 (.slice a3 k c3) k (lnc ls) := HE.out.own (by have := Hls.out.1; rwa [Hlk.out] at this)
          have Hls6 := Lib.hid hls6
          have hm3 : k + 1 ≤ maxLen := by unfold maxLen; omega
          have hm4 : (k + 1) * 48 ≤ 140737488355328 := by omega
          have hw0 := (Hext.out.trans HE.out).size
          clear hls6
          go_wp2_with (at_builtin; refine wpList_append_own _ rfl _ _ 112 rfl w.heap.size 118 j0 (.agg #[.slice none 0 0, .slice none 0 0]) 2 48 Tryz.underlying112 hj hy0 hy1 hy2 rfl (by decide) _ _ _ rfl (Hls6.out.alloc _) ⟨wr.heap.size, 0, none⟩ 1 1 [.slice a x.length c, .slice (some ⟨wa.heap.size + 1, 0, none⟩) m.length m.length] rfl rfl (cell_two_new _ _ _ _) (by simp [Value.oneCell']) hm3 hm4 (by rw [World.size_alloc]; omega) ?_; intro v7 W7 hown7 hgrow7 _)
          obtain ⟨g7, c7, rfl⟩ := ownsRow_succ hown7
          have hE7 : Ext w W7 := ((Hext.out.trans HE.out).alloc _).grown hgrow7 (fun q hq => (World.ownsRow.lt Hls6.out q hq).1)
          have hkeep : ∀ e ∈ ls, W7.ownsRow w.heap.size 76 1 e.u e.x.length (strs e.x) := fun e he =>
            World.ownsRow.kept ((HE.out.own (Hls.out.2 e he).1).alloc _) hgrow7 (own_ne (HE.out.own (Hls.out.2 e he).1) Hls6.out (by decide))
          have hnew : W7.ownsRow w.heap.size 76 1 (.slice a x.length c) x.length (strs x) := by
            have h0 : wr.ownsRow w.heap.size 76 1 (.slice a x.length c) x.length (strs x) := by
              have := own_mono Hown.out (B' := w.heap.size) (by have := Hwz.out; have := Hext.out.size; omega)
              rwa [List.take_length] at this
            exact World.ownsRow.kept (h0.alloc _) hgrow7 (own_ne h0 Hls6.out (by decide))
          have Hown7 := Lib.hid hown7; have HE7 := Lib.hid hE7; have Hkeep := Lib.hid hkeep; have Hnew := Lib.hid hnew
          clear hown7 hE7 hkeep hnew hgrow7
          go_wp2_with fail
          go_roundw
          case rel =>
            refine ⟨k + 1, ls ++ [⟨.slice a x.length c, .slice (some ⟨wa.heap.size + 1, 0, none⟩) m.length m.length, x⟩], by go_num, by omega, by rw [List.length_append, Hlk.out]; rfl, ⟨?_, ?_⟩, ?_, HE7.out⟩
            · rw [List.length_append, Hlk.out, lnc_app]
              exact Hown7.out
            · intro e he
              rcases List.mem_append.1 he with h | h
              · exact ⟨Hkeep.out e h, (Hls.out.2 e h).2⟩
              · obtain rfl := List.mem_singleton.1 h
                exact ⟨Hnew.out, _, _, _, rfl⟩
            · rw [List.map_append, Hmap.out, Hmk.out]; rfl
          case measure => simp [intOf]; omega
    · obtain rfl : k = m.length := by omega
      go_wp2
      go_ret
      exact ⟨_, rfl, ls, Hls.out, by rw [Hmap.out, List.take_length], Hext.out⟩

end Go.Proofs.YtkamjjjimbbdmaaGreatDoor

namespace Go.Proofs.YtkamjjjimbbdmaaGreatDoor
open Go.RowKit Go.Lib

theorem fmRest_piv : ∀ (l pre : List (List Int)) (b : Int), -1 ≤ b → fmRest pre b l = true → ∀ r ∈ l, ∃ k : Nat, piv r = k ∧ k < r.length ∧ r.getD k 0 ≠ 0
  | [], _, _, _, _, r, hr => by cases hr
  | a :: t, pre, b, hb, h, r, hr => by
    rw [fmRest] at h
    by_cases h1 : piv a ≤ b
    · rw [if_pos h1] at h; cases h
    · rw [if_neg h1] at h
      split at h
      · cases h
      · split at h
        · cases h
        · rcases List.mem_cons.1 hr with rfl | hr
          · rcases piv_cases r with g | g
            · omega
            · exact g
          · exact fmRest_piv t _ _ (by omega) h r hr
theorem isFm_piv {m : List (List Int)} (h : isFm m = true) : ∀ r ∈ m, ∃ k : Nat, piv r = k ∧ k < r.length ∧ r.getD k 0 ≠ 0 := fmRest_piv m [] (-1) (by omega) h

end Go.Proofs.YtkamjjjimbbdmaaGreatDoor
