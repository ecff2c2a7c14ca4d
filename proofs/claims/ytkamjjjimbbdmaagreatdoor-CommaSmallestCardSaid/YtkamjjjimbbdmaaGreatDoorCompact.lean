/- slices.CompactFunc at rows, and their sort. -/
import Derived.Test.YtkamjjjimbbdmaaGreatDoorOrder
import Derived.Test.YtkamjjjimbbdmaaGreatDoorLeast
import Derived.Lib.SliceRun
namespace Go.Proofs.YtkamjjjimbbdmaaGreatDoor
open Go.RowKit Go.Lib Go.Shelf Go.Sort

/-- Rows at one base, their list at another. -/
def RwM (w : World) (b B : Nat) (v : Value) (rs : List Rw) : Prop :=
  w.ownsRow B 30 1 v rs.length (rwc rs) ∧ ∀ r ∈ rs, OwnI w b r.u r.x ∧ r.x.length ≤ 1000000
theorem Ext.rwM {w w' : World} (h : Ext w w') {b B : Nat} {v : Value} {rs : List Rw} (hs : RwM w b B v rs) : RwM w' b B v rs := ⟨h.own hs.1, fun e he => ⟨h.ownI (hs.2 e he).1, (hs.2 e he).2⟩⟩

theorem only_refl (a : World) (row : Option Nat) : a.grownBy a row := ⟨rfl, rfl, rfl, Nat.le_refl _, fun _ _ _ => rfl⟩
theorem only_drewN {a w : World} {row : Option Nat} (h : a.grownBy w row) (n : Nat) : a.grownBy (w.drewN n) row := ⟨h.os, h.tape, h.output, h.size, h.block⟩
theorem only_setCell {a w : World} {g : Nat} (h : a.grownBy w (some g)) {p : Addr} (hp : p.block = g) (u : Value) : a.grownBy (w.setCell p u) (some g) :=
  ⟨h.os, h.tape, h.output, by simpa [World.setCell] using h.size, fun i hi hne => (Below.heap_setCell w p u i (by
    rintro rfl
    exact hne (by rw [hp]))).trans (h.block i hi hne)⟩
theorem only_setCells {a w : World} {g : Nat} (h : a.grownBy w (some g)) : ∀ (us : List Value) (o : Nat), a.grownBy (w.setCells g o us) (some g) := by
  intro us
  induction us generalizing w with
  | nil => intro o; exact h
  | cons u us ih => intro o; exact ih (only_setCell h rfl u) (o + 1)

def xAt (rs : List Rw) (j : Nat) : List Int := (rs.map Rw.x).getD j []
def keepAt (l : List (List Int)) (j : Nat) : Bool := j == 0 || decide (l.getD j [] ≠ l.getD (j - 1) [])
/-- Without what follows an equal one. -/
def cpTo {α : Type} (f : α → List Int) (l : List α) : Nat → List α
  | 0 => []
  | m + 1 => cpTo f l m ++ (if keepAt (l.map f) m then (l.drop m).take 1 else [])
theorem cpTo_map {α : Type} (f : α → List Int) (l : List α) : ∀ m, (cpTo f l m).map f = cpTo id (l.map f) m
  | 0 => rfl
  | m + 1 => by
    rw [cpTo, cpTo, List.map_append, cpTo_map f l m, List.map_id]
    congr 1
    split
    · rw [List.map_take, List.map_drop]
    · rfl
theorem cpTo_le {α : Type} (f : α → List Int) (l : List α) : ∀ m, (cpTo f l m).length ≤ m
  | 0 => Nat.le_refl _
  | m + 1 => by
    have := cpTo_le f l m
    rw [cpTo, List.length_append]
    split
    · simp; omega
    · simp; omega
theorem cpTo_all {α : Type} (f : α → List Int) (l : List α) : ∀ m, m ≤ l.length → (∀ j, j < m → keepAt (l.map f) j = true) → cpTo f l m = l.take m
  | 0, _, _ => by simp [cpTo]
  | m + 1, h, hk => by
    have hm : m < l.length := h
    rw [cpTo, cpTo_all f l m (by omega) (fun j hj => hk j (by omega)), hk m (by omega), if_pos rfl]
    rw [show (l.drop m).take 1 = [l[m]] by rw [List.drop_eq_getElem_cons hm]; rfl]
    exact (List.take_succ_eq_append_getElem hm).symm
theorem cpTo_mem {α : Type} (f : α → List Int) (l : List α) : ∀ m {a}, a ∈ cpTo f l m → a ∈ l
  | 0, _, h => by simp [cpTo] at h
  | m + 1, a, h => by
    rw [cpTo] at h
    rcases List.mem_append.1 h with h | h
    · exact cpTo_mem f l m h
    · split at h
      · exact List.mem_of_mem_drop (List.mem_of_mem_take h)
      · simp at h

theorem own_cut {w : World} {B E g n cap k : Nat} {xs : List Value} (h : w.ownsRow B E 1 (.slice (some ⟨g, 0, none⟩) n cap) n xs) (hk : k ≤ n) : w.ownsRow B E 1 (.slice (some ⟨g, 0, none⟩) k cap) k (xs.take k) := by
  have hxl : xs.length = n := by simpa using h.1
  rcases h.2 with ⟨e0, _⟩ | ⟨g', cap', cur, e0, hb, hg, hn, hm, hs, ht⟩
  · cases e0
  · injection e0 with e1 _ e3
    injection e1 with e1
    injection e1 with e1
    subst e1; subst e3
    refine ⟨by simp; omega, .inr ⟨g, cap, cur, rfl, hb, hg, by omega, hm, hs, ?_⟩⟩
    rw [← ht, List.take_take]
    congr 1
    omega
theorem own_cells {B E g n cap : Nat} : ∀ (us : List Value) (o : Nat) {w : World} {xs : List Value}, w.ownsRow B E 1 (.slice (some ⟨g, 0, none⟩) n cap) n xs → o + us.length ≤ n → (w.setCells g o us).ownsRow B E 1 (.slice (some ⟨g, 0, none⟩) n cap) n (xs.take o ++ us ++ xs.drop (o + us.length))
  | [], o, w, xs, h, _ => by
    simp only [List.append_nil, List.length_nil, Nat.add_zero, List.take_append_drop]
    exact h
  | u :: us, o, w, xs, h, hl => by
    have hxl : xs.length = n := by simpa using h.1
    simp only [List.length_cons] at hl
    have h1 := (World.ownsRow.stored h o u).1
    have h2 := own_cells us (o + 1) h1 (by omega)
    have e1 : (xs.set o u).take (o + 1) = xs.take o ++ [u] := by
      rw [List.take_add_one, List.take_set, List.getElem?_set_self (by omega), List.set_eq_of_length_le (by rw [List.length_take]; exact Nat.min_le_left _ _)]
      rfl
    have e2 : (xs.set o u).drop (o + 1 + us.length) = xs.drop (o + (us.length + 1)) := by
      rw [List.drop_set_of_lt (by omega)]
      congr 1
      omega
    rw [e1, e2] at h2
    show ((w.setCell ⟨g, o, none⟩ u).setCells g (o + 1) us).ownsRow _ _ _ _ _ _
    rw [show xs.take o ++ u :: us ++ xs.drop (o + (u :: us).length) = xs.take o ++ [u] ++ us ++ xs.drop (o + (us.length + 1)) by simp]
    exact h2
theorem cpTo_step {rs : List Rw} {m : Nat} {r : Rw} (h : rs[m]? = some r) : cpTo Rw.x rs (m + 1) = cpTo Rw.x rs m ++ (if keepAt (rs.map Rw.x) m then [r] else []) := by
  have hm := (List.getElem?_eq_some_iff.1 h).1
  rw [cpTo, List.drop_eq_getElem_cons hm]
  have e := (List.getElem?_eq_some_iff.1 h).2
  simp [e]
theorem keepAt_two {rs : List Rw} {m : Nat} {r s : Rw} (h1 : rs[m + 1]? = some r) (h0 : rs[m]? = some s) : keepAt (rs.map Rw.x) (m + 1) = !decide (r.x = s.x) := by
  unfold keepAt
  rw [Nat.add_sub_cancel, List.getD_eq_getElem?_getD, List.getD_eq_getElem?_getD, List.getElem?_map, List.getElem?_map, h1, h0]
  simp
theorem mid_at {rs C : List Rw} {m : Nat} {r : Rw} (h : rs[m]? = some r) (hC : C.length ≤ m) : (rwc (C ++ rs.drop C.length))[m]? = some r.u := by
  unfold rwc
  rw [List.getElem?_map, List.getElem?_append_right hC, List.getElem?_drop, show C.length + (m - C.length) = m by omega, h]
  rfl
theorem mid_set {rs C : List Rw} {r : Rw} (hC : C.length < rs.length) : (rwc (C ++ rs.drop C.length)).set C.length r.u = rwc ((C ++ [r]) ++ rs.drop (C ++ [r]).length) := by
  unfold rwc
  rw [List.drop_eq_getElem_cons hC, List.map_append, List.set_append_right _ _ (by simp), List.length_map, Nat.sub_self, List.map_cons, List.set_cons_zero]
  simp
theorem own_cellAt {w : World} {B E g n cap : Nat} {xs : List Value} (h : w.ownsRow B E 1 (.slice (some ⟨g, 0, none⟩) n cap) n xs) {j : Nat} {u : Value} (hj : xs[j]? = some u) : w.cell? ⟨g, j, none⟩ = some u := by
  have := h.cells (g := g) rfl j u hj
  rwa [show ((⟨g, 0, none⟩ : Addr).add j) = ⟨g, j, none⟩ by unfold Addr.add; split <;> simp_all] at this
/-- The second loop of CompactFunc. -/
def CpRel (W : World) (B g cap k : Nat) (rs : List Rw) (v5 v7 : Value) (wr : World) : Prop :=
  ∃ j c : Nat, v5 = .int .i64 c ∧ v7 = .int .i64 ((j : Int) + 1) ∧ k + 2 + j ≤ rs.length ∧ (cpTo Rw.x rs (k + 2 + j)).length = c ∧ c ≤ k + 1 + j ∧ wr.ownsRow B 30 1 (.slice (some ⟨g, 0, none⟩) rs.length cap) rs.length (rwc (cpTo Rw.x rs (k + 2 + j) ++ rs.drop c)) ∧ W.grownBy wr (some g)
theorem cp_skip {W wr : World} {B g cap k j c : Nat} {rs : List Rw} {r : Rw} (hr : rs[k + 2 + j]? = some r) (hk : keepAt (rs.map Rw.x) (k + 2 + j) = false) (hC : (cpTo Rw.x rs (k + 2 + j)).length = c) (hc : c ≤ k + 1 + j)
    (ho : wr.ownsRow B 30 1 (.slice (some ⟨g, 0, none⟩) rs.length cap) rs.length (rwc (cpTo Rw.x rs (k + 2 + j) ++ rs.drop c))) (hg : W.grownBy wr (some g)) (n : Nat) : CpRel W B g cap k rs (.int .i64 c) (.int .i64 ((j : Int) + 1 + 1)) (wr.drewN n) := by
  have e : cpTo Rw.x rs (k + 2 + (j + 1)) = cpTo Rw.x rs (k + 2 + j) := by
    rw [show k + 2 + (j + 1) = k + 2 + j + 1 by omega, cpTo_step hr, hk]; simp
  have hl := (List.getElem?_eq_some_iff.1 hr).1
  refine ⟨j + 1, c, rfl, by simp, by omega, by rw [e]; exact hC, by omega, ?_, only_drewN hg n⟩
  rw [e]
  exact ((Ext.refl wr).drewN n).own ho
theorem cp_keep {W wr : World} {B g cap k j c : Nat} {rs : List Rw} {r : Rw} (hr : rs[k + 2 + j]? = some r) (hk : keepAt (rs.map Rw.x) (k + 2 + j) = true) (hC : (cpTo Rw.x rs (k + 2 + j)).length = c) (hc : c ≤ k + 1 + j)
    (ho : wr.ownsRow B 30 1 (.slice (some ⟨g, 0, none⟩) rs.length cap) rs.length (rwc (cpTo Rw.x rs (k + 2 + j) ++ rs.drop c))) (hg : W.grownBy wr (some g)) (n : Nat) : CpRel W B g cap k rs (.int .i64 ((c : Int) + 1)) (.int .i64 ((j : Int) + 1 + 1)) ((wr.drewN n).setCell ⟨g, c, none⟩ r.u) := by
  have e : cpTo Rw.x rs (k + 2 + (j + 1)) = cpTo Rw.x rs (k + 2 + j) ++ [r] := by
    rw [show k + 2 + (j + 1) = k + 2 + j + 1 by omega, cpTo_step hr, hk]; simp
  have hl := (List.getElem?_eq_some_iff.1 hr).1
  have ho2 := (World.ownsRow.stored (((Ext.refl wr).drewN n).own ho) c r.u).1
  refine ⟨j + 1, c + 1, by simp, by simp, by omega, by rw [e, List.length_append, hC]; rfl, by omega, ?_, only_setCell (only_drewN hg n) rfl _⟩
  rw [e]
  subst hC
  rw [mid_set (by omega)] at ho2
  rw [List.length_append] at ho2
  exact ho2

theorem kept_rows {W wr : World} {b B g n cap : Nat} {rs ss : List Rw} {xs : List Value} (hg : W.grownBy wr (some g)) (hs : W.ownsRow B 30 1 (.slice (some ⟨g, 0, none⟩) n cap) n xs) (hr : ∀ r ∈ rs, OwnI W b r.u r.x ∧ r.x.length ≤ 1000000) (hm : ∀ r, r ∈ ss → r ∈ rs) : ∀ r ∈ ss, OwnI wr b r.u r.x ∧ r.x.length ≤ 1000000 := fun r h =>
  ⟨World.ownsRow.kept (hr r (hm r h)).1 hg (own_ne (hr r (hm r h)).1 hs (by decide)), (hr r (hm r h)).2⟩

set_option maxRecDepth 100000 in
set_option maxHeartbeats 4000000 in
theorem compact_c {W : World} {b B : Nat} {a : Option Addr} {cap : Nat} {rs : List Rw} (hs : RwM W b B (.slice a rs.length cap) rs) (hl : rs.length ≤ 1000000) :
    Calls Tryz.prog 53 #[.slice a rs.length cap, .func (.func 54) #[] #[]] W fun e w' => ∃ v, e = .returned v ∧ RwM w' b B v (cpTo Rw.x rs rs.length) ∧ ∀ w0 : World, Ext w0 W → w0.heap.size = B → Ext w0 w' := by
  by_cases h2 : rs.length < 2
  · have hall : cpTo Rw.x rs rs.length = rs := by
      rw [cpTo_all Rw.x rs rs.length (Nat.le_refl _), List.take_length]
      intro j hj
      have : j = 0 := by omega
      subst this; rfl
    rw [hall]
    have Hs := Lib.hid hs; clear hs hall
    go_enter Tryz.func53, Tryz.ntmps53
    go_wp2
    go_ret
    exact ⟨_, rfl, Hs.out, fun w0 h _ => h⟩
  · obtain ⟨g, cap', e0, hcells⟩ := own_slice hs.1 (by omega)
    injection e0 with e1 _ e3
    subst e1; subst e3
    obtain ⟨n, hn⟩ : ∃ n, n = rs.length := ⟨_, rfl⟩
    have hcap : rs.length ≤ cap := (own_cap hs.1).1
    have hgB : B ≤ g := by
      rcases hs.1.2 with ⟨e0, _⟩ | ⟨g', cap', cur, e0, hb, _⟩
      · cases e0
      · injection e0 with e1 _ _
        injection e1 with e1
        injection e1 with e1
        omega
    have hcell : ∀ j, j < rs.length → ∃ r, r ∈ rs ∧ rs[j]? = some r ∧ W.cell? ⟨g, j, none⟩ = some r.u := fun j hj => by
      obtain ⟨r, hr⟩ : ∃ r, rs[j]? = some r := ⟨_, List.getElem?_eq_getElem hj⟩
      exact ⟨r, List.mem_of_getElem? hr, hr, hcells j r.u (by simp [rwc, hr])⟩
    have Hs := Lib.hid hs; have Hcell := Lib.hid hcell; clear hs hcell hcells hn
    go_enter Tryz.func53, Tryz.ntmps53
    go_wp2
    go_loopw [5] (fun i wr => ∃ k : Nat, i = .int .i64 ((k : Int) + 1) ∧ k + 1 ≤ rs.length ∧ Qu W wr ∧ ∀ j, j < k + 1 → keepAt (rs.map Rw.x) j = true) (fun i _ => rs.length - (intOf i).toNat)
    case atStart => exact ⟨0, rfl, by omega, Qu.refl W, fun j hj => by
      obtain rfl : j = 0 := by omega
      rfl⟩
    case round =>
      obtain ⟨k, rfl, hk, hqu, hkeep⟩ := hrel
      have Hqu := Lib.hid hqu; have Hkeep := Lib.hid hkeep; clear hqu hkeep
      by_cases hlt : k + 1 < rs.length
      · obtain ⟨r1, hm1, hr1, hc1⟩ := Hcell.out (k + 1) hlt
        obtain ⟨r0, hm0, hr0, hc0⟩ := Hcell.out k (by omega)
        have hd1 := Hqu.out.ext.cell hc1
        have hd0 := Hqu.out.ext.cell hc0
        obtain ⟨ho1, hl1⟩ := Hs.out.2 r1 hm1
        obtain ⟨ho0, hl0⟩ := Hs.out.2 r0 hm0
        have hkk : keepAt (rs.map Rw.x) (k + 1) = !decide (r1.x = r0.x) := by
          unfold keepAt
          rw [Nat.add_sub_cancel, List.getD_eq_getElem?_getD, List.getD_eq_getElem?_getD, List.getElem?_map, List.getElem?_map, hr1, hr0]
          simp
        have heq := fun n => requal_c r1.u r0.u r1.x r0.x (wr.drewN n) ((Hqu.out.drewN n).ext.ownI ho1).sl ((Hqu.out.drewN n).ext.ownI ho0).sl hl1 hl0
        generalize decide (r1.x = r0.x) = eqb at *
        have hw1 : IntKind.i64.wrap ((k : Int) + 1 - 1) = (k : Int) := by rw [IntWalk.i64_in _ (by omega)]; omega
        have hk1 : (0 : Int) ≤ (k : Int) + 1 := by omega
        have hk2 : (k : Int) + 1 < (rs.length : Int) := by omega
        have hk3 : (0 : Int) ≤ (k : Int) := by omega
        have hk4 : (k : Int) < (rs.length : Int) := by omega
        have hk5 : ((k : Int) + 1).toNat = k + 1 := by omega
        have Heq := Lib.hid heq; have Hkk := Lib.hid hkk; clear heq hkk hc1 hc0 ho1 ho0 hm1 hm0 hr1 hr0
        obtain ⟨x1, u1, hu1⟩ := r1
        obtain ⟨x0, u0, hu0⟩ := r0
        dsimp only at hd1 hd0
        cases eqb with
        | false =>
          go_wp2
          go_quiet ((go_at_call 54; exact Calls.quiet_of (Heq.out _)))
          clear hw1 hk5
          go_wp2
          go_roundw
          case rel => exact ⟨k + 1, by go_num, by omega, Hqu.out.drewN _, fun j hj => by
            rcases Nat.lt_or_ge j (k + 1) with h | h
            · exact Hkeep.out j h
            · obtain rfl : j = k + 1 := by omega
              exact Hkk.out⟩
          case measure => simp [intOf]; omega
        | true =>
          go_wp2
          go_quiet ((go_at_call 54; exact Calls.quiet_of (Heq.out _)))
          clear hw1 hk5
          obtain ⟨L2, hL2⟩ : ∃ L2, rs.length - (k + 1) = L2 := ⟨_, rfl⟩
          have hL3 : k + 1 + L2 = rs.length := by omega
          have hcc : k + 1 < cap := by omega
          have hcap2 : cap ≤ maxLen := by
            rcases Hs.out.1.2 with ⟨e0, _⟩ | ⟨g', cap', cur, e0, _, _, _, hm, _⟩
            · cases e0
            · injection e0 with _ _ e3; omega
          unfold maxLen at hcap2
          have hown0 : wr.ownsRow B 30 1 (.slice (some ⟨g, 0, none⟩) rs.length cap) rs.length (rwc (cpTo Rw.x rs (k + 2) ++ rs.drop (cpTo Rw.x rs (k + 2)).length)) := by
            obtain ⟨r, hr⟩ : ∃ r, rs[k + 1]? = some r := ⟨_, List.getElem?_eq_getElem hlt⟩
            have e : cpTo Rw.x rs (k + 2) = rs.take (k + 1) := by
              rw [cpTo_step hr, Hkk.out, cpTo_all Rw.x rs (k + 1) (by omega) Hkeep.out]; simp
            rw [e, List.length_take, Nat.min_eq_left (by omega), List.take_append_drop]
            exact Hqu.out.ext.own Hs.out.1
          have hcl0 : (cpTo Rw.x rs (k + 2)).length = k + 1 := by
            obtain ⟨r, hr⟩ : ∃ r, rs[k + 1]? = some r := ⟨_, List.getElem?_eq_getElem hlt⟩
            rw [cpTo_step hr, Hkk.out, cpTo_all Rw.x rs (k + 1) (by omega) Hkeep.out]
            simp; omega
          rw [hcl0] at hown0
          have hgr0 : W.grownBy wr (some g) := by
            obtain ⟨q, rfl⟩ := Hqu.out
            exact only_drewN (only_refl W _) q
          have Hown0 := Lib.hid hown0; have Hcl0 := Lib.hid hcl0; have Hgr0 := Lib.hid hgr0; have HL2 := Lib.hid hL2; have HL3 := Lib.hid hL3
          clear hown0 hcl0 hgr0 hL3
          go_wp2_with fail
          clear hL2
          go_loopw [5, 7] (fun v5 v7 wr => CpRel W B g cap k rs v5 v7 wr) (fun _ v7 _ => rs.length - (intOf v7).toNat)
          case atStart => 
            refine ⟨0, k + 1, by simp, rfl, by omega, Hcl0.out, by omega, Hown0.out, only_drewN Hgr0.out _⟩
          case round =>
            obtain ⟨j, c, rfl, rfl, hj, hC, hc, ho, hg⟩ := hrel
            have hL3 := HL3.out
            by_cases hlt2 : k + 2 + j < rs.length
            · obtain ⟨r, hr⟩ : ∃ r, rs[k + 1 + j + 1]? = some r := ⟨_, List.getElem?_eq_getElem (by omega)⟩
              obtain ⟨s, hs0⟩ : ∃ r, rs[k + 1 + j]? = some r := ⟨_, List.getElem?_eq_getElem (by omega)⟩
              have hkk2 := keepAt_two hr hs0
              have hr2 : rs[k + 2 + j]? = some r := by rw [← hr]; congr 1; omega
              have hkk3 : keepAt (rs.map Rw.x) (k + 2 + j) = !decide (r.x = s.x) := by rw [← hkk2]; congr 1; omega
              have hmid := fun {m : Nat} {r : Rw} (h : rs[m]? = some r) (hm : c ≤ m) => own_cellAt ho (by have := mid_at (C := cpTo Rw.x rs (k + 2 + j)) h (by rw [hC]; exact hm); rw [hC] at this; exact this)
              have hcm : wr.cell? ⟨g, k + 1 + (j + 1), none⟩ = some r.u := hmid (show rs[k + 1 + (j + 1)]? = some r from hr) (by omega)
              have hcp : wr.cell? ⟨g, k + 1 + j, none⟩ = some s.u := hmid hs0 (by omega)
              obtain ⟨t, ht⟩ : ∃ r, rs[c]? = some r := ⟨_, List.getElem?_eq_getElem (by omega)⟩
              have hck : wr.cell? ⟨g, c, none⟩ = some t.u := hmid ht (Nat.le_refl _)
              have hfk : wr.frozen? ⟨g, c, none⟩ = false := World.ownsRow.frozenAt ho c
              have hkr := kept_rows (ss := rs) hg Hs.out.1 Hs.out.2 (fun r h => h)
              obtain ⟨ho1, hl1⟩ := hkr r (List.mem_of_getElem? hr)
              obtain ⟨ho0, hl0⟩ := hkr s (List.mem_of_getElem? hs0)
              have heq := fun n => requal_c r.u s.u r.x s.x (wr.drewN n) (((Ext.refl wr).drewN n).ownI ho1).sl (((Ext.refl wr).drewN n).ownI ho0).sl hl1 hl0
              have hskip := fun (e : decide (r.x = s.x) = true) n => cp_skip hr2 (by rw [hkk3, e]; rfl) hC hc ho hg n
              have hkeep2 := fun (e : decide (r.x = s.x) = false) n => cp_keep hr2 (by rw [hkk3, e]; rfl) hC hc ho hg n
              generalize decide (r.x = s.x) = eqb at *
              have hw1 : IntKind.i64.wrap ((j : Int) + 1 - 1) = (j : Int) := by rw [IntWalk.i64_in _ (by omega)]; omega
              have hj1 : (0 : Int) ≤ (j : Int) + 1 := by omega
              have hj2 : (j : Int) + 1 < (L2 : Int) := by omega
              have hj3 : (0 : Int) ≤ (j : Int) := by omega
              have hj4 : (j : Int) < (L2 : Int) := by omega
              have hj5 : ((j : Int) + 1).toNat = j + 1 := by omega
              have hc1 : (c : Int) < (rs.length : Int) := by omega
              have hc0 : (0 : Int) ≤ (c : Int) := by omega
              have Heq := Lib.hid heq; have Hskip := Lib.hid hskip; have Hkeep2 := Lib.hid hkeep2; have Ho1 := Lib.hid ho1
              clear heq hskip hkeep2 hkk2 hkk3 hr2 hmid hkr ho1 ho0 hr hs0 ht ho hg hC hl1 hl0 hL3
              obtain ⟨x1, u1, hu1⟩ := r
              obtain ⟨x0, u0, hu0⟩ := s
              dsimp only at hcm hcp
              generalize t.u = tu at *
              have ho1 := Ho1.out
              dsimp only at ho1
              obtain ⟨a1, c1, rfl⟩ := own_shape ho1
              clear ho1 Ho1
              cases eqb with
              | false =>
                go_wp2
                go_quiet ((go_at_call 54; exact Calls.quiet_of (Heq.out _)))
                clear hw1 hj5
                go_wp2
                go_roundw
                case rel => exact Hkeep2.out (by first | rfl | trivial) _
                case measure => simp [intOf]; omega
              | true =>
                go_wp2
                go_quiet ((go_at_call 54; exact Calls.quiet_of (Heq.out _)))
                clear hw1 hj5
                go_wp2
                go_roundw
                case rel => exact Hskip.out (by first | rfl | trivial) _
                case measure => simp [intOf]; omega
            · have hmn : k + 2 + j = rs.length := by omega
              rw [hmn] at hC ho
              have hjn : ¬ (j : Int) + 1 < (L2 : Int) := by omega
              have hcn : c < rs.length := by omega
              have hcap3 : c < cap := by omega
              have hnil : ∀ w, (zeroValue 30).run Tryz.prog w = .ok (.slice none 0 0) w := fun w => by kernel_rfl
              have hcl : ∀ ty, (Builtin.clear_ #[36] ty #[.slice (some ⟨g, c, none⟩) (rs.length - c) (cap - c)]).run Tryz.prog wr = .ok (.tuple #[]) (wr.setCells g c (List.replicate (rs.length - c) (.slice none 0 0))) := fun ty =>
                Lib.run_clear_slice wr _ _ ty _ Tryz.underlying36 hnil rfl rfl g c _ _ (by omega) (fun t ht => by
                  obtain ⟨r, hr⟩ : ∃ r, rs[c + t]? = some r := ⟨_, List.getElem?_eq_getElem (by omega)⟩
                  have := own_cellAt ho (by have := mid_at (C := cpTo Rw.x rs rs.length) hr (by omega); rw [hC] at this; exact this)
                  rw [this]; rfl) (fun t _ => World.ownsRow.frozenAt ho (c + t))
              have hE9 : W.grownBy (wr.setCells g c (List.replicate (rs.length - c) (.slice none 0 0))) (some g) := only_setCells hg _ _
              have ho9 := own_cut (own_cells (List.replicate (rs.length - c) (.slice none 0 0)) c ho (by simp; omega)) (Nat.le_of_lt hcn)
              have hrow9 : (wr.setCells g c (List.replicate (rs.length - c) (.slice none 0 0))).ownsRow B 30 1 (.slice (some ⟨g, 0, none⟩) c cap) c (rwc (cpTo Rw.x rs rs.length)) := by
                have e : ((rwc (cpTo Rw.x rs rs.length ++ rs.drop c)).take c ++ List.replicate (rs.length - c) (Value.slice none 0 0) ++ (rwc (cpTo Rw.x rs rs.length ++ rs.drop c)).drop (c + (List.replicate (rs.length - c) (Value.slice none 0 0)).length)).take c = rwc (cpTo Rw.x rs rs.length) := by
                  have hl : (rwc (cpTo Rw.x rs rs.length)).length = c := by rw [rwc_length, hC]
                  rw [show rwc (cpTo Rw.x rs rs.length ++ rs.drop c) = rwc (cpTo Rw.x rs rs.length) ++ rwc (rs.drop c) by simp [rwc]]
                  rw [List.append_assoc, List.take_left' (by rw [List.length_take, List.length_append]; omega), List.take_left' hl]
                rw [e] at ho9
                exact ho9
              have hr9 := kept_rows (ss := cpTo Rw.x rs rs.length) hE9 Hs.out.1 Hs.out.2 (fun r h => cpTo_mem _ _ _ h)
              have HC := Lib.hid hC; have Hrow9 := Lib.hid hrow9; have Hr9 := Lib.hid hr9; have HE9 := Lib.hid hE9
              clear hC hrow9 hr9 hE9 ho9 ho hg hnil hmn hL3
              go_wp2
              go_ret
              exact ⟨_, rfl, ⟨by rw [HC.out]; exact Hrow9.out, Hr9.out⟩, fun w0 h hB => h.grown HE9.out fun k hk => by cases hk; omega⟩
      · obtain hkn : k + 1 = rs.length := by omega
        have hall : cpTo Rw.x rs rs.length = rs := by
          rw [cpTo_all Rw.x rs rs.length (Nat.le_refl _) (by rw [← hkn]; exact Hkeep.out), List.take_length]
        have Hall := Lib.hid hall; have Hkn := Lib.hid hkn; clear hall hkn
        have hk1 : ¬ (k : Int) + 1 < (rs.length : Int) := by omega
        go_wp2
        go_ret
        exact ⟨_, rfl, by rw [Hall.out]; exact Hqu.out.ext.rwM Hs.out, fun w0 h _ => h.trans Hqu.out.ext⟩

end Go.Proofs.YtkamjjjimbbdmaaGreatDoor
