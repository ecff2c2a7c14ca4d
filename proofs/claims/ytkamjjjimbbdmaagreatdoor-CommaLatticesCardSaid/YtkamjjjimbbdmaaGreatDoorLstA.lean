/- Contracts that say that draws and new blocks are all that turns: for the closure of a sort. The walk of comma.numbers. The walk of comma.numbers. Lists of rows that calls make; slices.Reverse on them. The walk of comma.List. The closure of comma.Smallest's sort. The sort of comma.Smallest. The walk of comma.Smallest. -/
import Derived.Test.YtkamjjjimbbdmaaGreatDoorNumA
import Derived.Test.YtkamjjjimbbdmaaGreatDoorIvlA
import Derived.Test.YtkamjjjimbbdmaaGreatDoorLawA
import Derived.Test.YtkamjjjimbbdmaaGreatDoorShelfB
import Derived.Deep.RegionHeld3
namespace Go.Proofs.YtkamjjjimbbdmaaGreatDoor
open Go.RowKit Go.Lib

/-- Draws, and blocks laid behind. -/
def Gr (w w' : World) : Prop := ∃ q os, w' = Sort.grow (w.drewN q) os
theorem Gr.refl (w : World) : Gr w w := ⟨0, #[], by simp [Sort.grow_empty]; rfl⟩
theorem Gr.drewN {a w : World} (h : Gr a w) (n : Nat) : Gr a (w.drewN n) := by
  obtain ⟨q, os, rfl⟩ := h
  exact ⟨q + n, os, by simp [Sort.grow, World.drewN, Nat.add_assoc]⟩
theorem Gr.drew {a w : World} (h : Gr a w) : Gr a w.drew := h.drewN 1
theorem Gr.grow {a w : World} (h : Gr a w) (os : Array Obj) : Gr a (Sort.grow w os) := by
  obtain ⟨q, os', rfl⟩ := h
  exact ⟨q, os' ++ os, by rw [Sort.grow_grow]⟩
theorem Gr.alloc {a w : World} (h : Gr a w) (o : Obj) : Gr a (w.alloc o) := by rw [Sort.alloc_eq_grow]; exact h.grow _
theorem Gr.trans {a b c : World} (h : Gr a b) (k : Gr b c) : Gr a c := by
  obtain ⟨q, os, rfl⟩ := k
  exact (h.drewN q).grow os
theorem Gr.of {w w' : World} (h : Ext w w') (q : Nat) (hd : w'.drawn = w.drawn + q) : Gr w w' := by
  refine ⟨q, w'.heap.extract w.heap.size w'.heap.size, ?_⟩
  have hb : Below w.heap.size w w' := h
  have hh : w'.heap = w.heap ++ w'.heap.extract w.heap.size w'.heap.size := by
    apply Array.ext_getElem?
    intro k
    have hs := hb.size
    rw [Array.getElem?_append]
    split
    · rename_i hk; exact hb.block k hk
    · rename_i hk
      rw [Array.getElem?_extract]
      by_cases h2 : k < w'.heap.size
      · rw [if_pos (by omega)]; congr 1; omega
      · rw [if_neg (by omega), Array.getElem?_eq_none (by omega)]
  have e1 := hb.os
  have e2 := hb.tape
  have e3 := hb.output
  cases w with
  | mk wh wt wd wo wu =>
    cases w' with
    | mk vh vt vd vo vu =>
      simp only at hd e1 e2 e3 hh
      subst hd; subst e1; subst e2; subst e3
      unfold Sort.grow World.drewN
      simp only
      rw [← hh]
theorem Gr.bytes (w : World) (e : TypeId) (s : ByteArray) : Gr w (Lib.bytesWorld w e s) := Gr.of (Ext.bytes w e s) 1 rfl
theorem Gr.ext {w w' : World} (h : Gr w w') : Ext w w' := by
  obtain ⟨q, os, rfl⟩ := h
  exact ((Ext.refl w).drewN q).grow os

theorem itoa_g (z : Int) (h0 : -9223372036854775808 ≤ z) (h1 : z ≤ 9223372036854775807) (w : World) (he : Env w) :
    Calls Tryz.prog 81 #[.int .i64 z] w fun e w' => e = .returned (.string (I z)) ∧ Gr w w' :=
  (Any.strconv_Itoa Tryz.lItoa z h0 h1 w he).mono fun _ _ ⟨h, k, os, hw⟩ => ⟨h, ⟨k, os, hw⟩⟩

theorem atoi_g (z : Int) (h0 : -9223372036854775808 ≤ z) (h1 : z ≤ 9223372036854775807) (w : World) :
    Calls Tryz.prog 110 #[.string (I z)] w fun e w' => e = .returned (.tuple #[.int .i64 z, .nilIface]) ∧ Gr w w' := by
  have hs : (I z).size ≤ 9223372036854775806 := by
    show (itoa z).toArray.size ≤ _
    rw [List.size_toArray]
    unfold itoa
    split
    · rw [List.length_cons, decDigits_length]
      have := Dec.nDigits_le (n := z.natAbs) (k := 20) (by omega) (by omega)
      omega
    · rw [decDigits_length]
      have := Dec.nDigits_le (n := z.toNat) (k := 20) (by omega) (by omega)
      omega
  refine (Any.strconv_Atoi_ok Tryz.lAtoi (I z) hs z (atoiAll_I z h0 h1) w).mono fun e w' ⟨h, hw⟩ => ⟨h, ?_⟩
  rcases hw with rfl | ⟨t, rfl⟩
  · exact Gr.refl _
  · exact Gr.bytes _ _ _

set_option maxHeartbeats 400000 in
theorem wholeOf_g (z : Int) (h0 : -9223372036854775808 ≤ z) (h1 : z ≤ 9223372036854775807) (w : World) (he : Env w) :
    Calls Tryz.prog 41 #[.int .i64 z] w fun e w' => e = .returned (.string (I z)) ∧ Gr w w' := by
  have He := Lib.hid he; clear he
  go_enter Tryz.func41, Tryz.ntmps41
  go_wp2_with fail
  refine (itoa_g z h0 h1 w He.out).mono ?_
  rintro e w' ⟨rfl, hx⟩
  have Hx := Lib.hid hx; clear hx
  go_wp2
  go_ret
  exact ⟨rfl, Hx.out⟩

set_option maxHeartbeats 400000 in
theorem split_w0_g (s : ByteArray) (w : World) (h0 : 0 < s.size) (_h1 : s.size ≤ 1000001) (h : (((s[0]'h0).toNat : Int) == 45) = false) :
    Calls Tryz.prog 74 #[.string s] w fun e w' => e = .returned (.tuple #[.bool false, .string s]) ∧ Gr w w' := by
  go_enter Tryz.func74, Tryz.ntmps74
  go_wp2
  go_ret2
  exact ⟨rfl, Gr.refl _⟩

set_option maxHeartbeats 400000 in
theorem split_w1_g (s t : ByteArray) (w : World) (h0 : 0 < s.size) (h1 : s.size ≤ 1000001) (h : (((s[0]'h0).toNat : Int) == 45) = true) (ht : s.extract 1 s.size = t) :
    Calls Tryz.prog 74 #[.string s] w fun e w' => e = .returned (.tuple #[.bool true, .string t]) ∧ Gr w w' := by
  go_enter Tryz.func74, Tryz.ntmps74
  go_wp2
  go_quiet (fail)
  go_wp2
  go_ret2
  exact ⟨rfl, (Gr.refl _).drewN _⟩

theorem split_g (z : Int) (w : World) (hz : Fit z) :
    Calls Tryz.prog 74 #[.string (I z)] w fun e w' => e = .returned (.tuple #[.bool (decide (z < 0)), .string (D z.natAbs)]) ∧ Gr w w' := by
  rcases sign_cases z with ⟨n, rfl⟩ | ⟨n, hn, rfl⟩
  · have h := hz.nat
    rw [I_nat, decide_eq_false (by omega), Int.natAbs_natCast]
    refine split_w0_g (D n) w (D_pos n) (by rw [D_size]; omega) ?_
    have := D_first n (D_pos n)
    exact beq_eq_false_iff_ne.2 (by omega)
  · have h := hz.neg
    rw [decide_eq_true (by omega), Int.natAbs_neg, Int.natAbs_natCast]
    have hs := I_neg_size n hn
    refine split_w1_g (I (-(n : Int))) (D n) w (by omega) (by omega) ?_ (I_neg_tail n hn)
    have := I_neg_first n hn (by omega)
    exact beq_iff_eq.2 (by omega)

set_option maxHeartbeats 400000 in
theorem little_yes_g (z : Int) (k : Int) (w : World) (h0 : -1000000000000000000 < z) (h1 : z < 1000000000000000000) (h : ((I z).size : Int) ≤ k) :
    Calls Tryz.prog 78 #[.string (I z), .int .i64 k] w fun e w' => e = .returned (.tuple #[.int .i64 z, .bool true]) ∧ Gr w w' := by
  have hs : ¬ k < ((I z).size : Int) := by omega
  have H0 := Lib.hid h0; clear h0
  have H1 := Lib.hid h1; clear h1
  go_enter Tryz.func78, Tryz.ntmps78
  go_wp2_with fail
  refine (atoi_g z (by have := H0.out; omega) (by have := H1.out; omega) w).mono ?_
  rintro e w1 ⟨rfl, hx1⟩
  have Hx1 := Lib.hid hx1; clear hx1
  go_wp2
  go_quiet (fail)
  go_wp2
  go_ret2
  exact ⟨rfl, Hx1.out.drewN _⟩

set_option maxHeartbeats 800000 in
theorem cmp_g (a b : Int) (w : World) (ha : Fit a) (hb : Fit b) :
    Calls Tryz.prog 37 #[.string (I a), .string (I b)] w fun e w' => e = .returned (.int .i64 (cmpI a b)) ∧ Gr w w' := by
  have Ha := Lib.hid ha; have Hb := Lib.hid hb
  have hra := cmpI_range a 0
  have hrb := cmpI_range b 0
  have hca := sign_c a w ha
  have hcb := sign_c b w hb
  by_cases hne : cmpI a 0 = cmpI b 0
  · have hsame := cmp_same a b hne
    have Hsame := Lib.hid hsame; clear hsame
    rw [← hne] at hcb
    have ht : (cmpI a 0 != cmpI a 0) = false := by simp
    clear hne hrb
    generalize cmpI a 0 = x at *
    have Hca := Lib.hid hca; clear hca
    have Hcb := Lib.hid hcb; clear hcb
    clear ha hb hra
    by_cases hneg : a < 0
    · have hsp : Calls Tryz.prog 74 #[.string (I a)] w _ := split_g a w Ha.out
      rw [decide_eq_true hneg] at hsp
      have Hsp := Lib.hid hsp; clear hsp
      have Hneg := Lib.hid hneg; clear hneg
      go_enter Tryz.func37, Tryz.ntmps37
      go_wp2_with fail
      refine Hca.out.mono ?_
      rintro e w1 ⟨rfl, rfl⟩
      go_wp2_with fail
      refine Hcb.out.mono ?_
      rintro e w1 ⟨rfl, rfl⟩
      go_wp2_with fail
      refine Hsp.out.mono ?_
      rintro e w1 ⟨rfl, hx1⟩
      have Hx1 := Lib.hid hx1; clear hx1
      go_wp2_with fail
      refine (split_g b w1 Hb.out).mono ?_
      rintro e w2 ⟨rfl, hx2⟩
      have Hx2 := Lib.hid hx2; clear hx2
      go_wp2_with fail
      refine (decCmp_c b.natAbs a.natAbs w2 (by have := Hb.out; unfold Fit at this; omega) (by have := Ha.out; unfold Fit at this; omega)).mono ?_
      rintro e w3 ⟨rfl, rfl⟩
      go_wp2
      go_ret
      exact ⟨ret_int (by rw [Hsame.out, if_pos (by have := Hneg.out; omega)]), Hx1.out.trans Hx2.out⟩
    · have hsp : Calls Tryz.prog 74 #[.string (I a)] w _ := split_g a w Ha.out
      rw [decide_eq_false hneg] at hsp
      have Hsp := Lib.hid hsp; clear hsp
      have Hneg := Lib.hid hneg; clear hneg
      go_enter Tryz.func37, Tryz.ntmps37
      go_wp2_with fail
      refine Hca.out.mono ?_
      rintro e w1 ⟨rfl, rfl⟩
      go_wp2_with fail
      refine Hcb.out.mono ?_
      rintro e w1 ⟨rfl, rfl⟩
      go_wp2_with fail
      refine Hsp.out.mono ?_
      rintro e w1 ⟨rfl, hx1⟩
      have Hx1 := Lib.hid hx1; clear hx1
      go_wp2_with fail
      refine (split_g b w1 Hb.out).mono ?_
      rintro e w2 ⟨rfl, hx2⟩
      have Hx2 := Lib.hid hx2; clear hx2
      go_wp2_with fail
      refine (decCmp_c a.natAbs b.natAbs w2 (by have := Ha.out; unfold Fit at this; omega) (by have := Hb.out; unfold Fit at this; omega)).mono ?_
      rintro e w3 ⟨rfl, rfl⟩
      go_wp2
      go_ret
      exact ⟨ret_int (by rw [Hsame.out, if_neg (by have := Hneg.out; omega)]), Hx1.out.trans Hx2.out⟩
  · have hlt := cmp_diff a b hne
    have ht : (cmpI a 0 != cmpI b 0) = true := by simpa using hne
    clear hne
    generalize cmpI a 0 = x at *
    generalize cmpI b 0 = y at *
    have Hca := Lib.hid hca; clear hca
    have Hcb := Lib.hid hcb; clear hcb
    clear ha hb hra hrb
    rcases hlt with ⟨hlt, hr⟩ | ⟨hlt, hr⟩
    all_goals
      have Hr := Lib.hid hr; clear hr
      go_enter Tryz.func37, Tryz.ntmps37
      go_wp2_with fail
      refine Hca.out.mono ?_
      rintro e w1 ⟨rfl, rfl⟩
      go_wp2_with fail
      refine Hcb.out.mono ?_
      rintro e w1 ⟨rfl, rfl⟩
      go_wp2
      go_ret
      exact ⟨ret_int Hr.out.symm, Gr.refl _⟩

set_option maxHeartbeats 800000 in
theorem mul_short_g (a b : Int) (w : World) (he : Env w) (ha9 : ((I a).size : Int) ≤ 9) (hb9 : ((I b).size : Int) ≤ 9) :
    Calls Tryz.prog 40 #[.string (I a), .string (I b)] w fun e w' => e = .returned (.string (I (a * b))) ∧ Gr w w' := by
  have hba := I_small a 9 (by omega)
  have hbb := I_small b 9 (by omega)
  have hab : a * b ≤ 999999998000000001 ∧ -999999998000000001 ≤ a * b := by
    have h1 : (a * b).natAbs ≤ 999999999 * 999999999 := by rw [Int.natAbs_mul]; exact Nat.mul_le_mul (by omega) (by omega)
    omega
  have hab1 := hab.1
  have hab2 := hab.2
  have hla2 : -1000000000000000000 < a ∧ a < 1000000000000000000 := by omega
  have hlb2 : -1000000000000000000 < b ∧ b < 1000000000000000000 := by omega
  have Hla2 := Lib.hid hla2; clear hla2
  have Hlb2 := Lib.hid hlb2; clear hlb2
  have He := Lib.hid he; clear he
  clear hab hba hbb
  go_enter Tryz.func40, Tryz.ntmps40
  go_wp2_with fail
  refine (little_yes_g a 9 w Hla2.out.1 Hla2.out.2 ha9).mono ?_
  rintro e w1 ⟨rfl, hx1⟩
  have Hx1 := Lib.hid hx1; clear hx1
  go_wp2_with fail
  refine (little_yes_g b 9 w1 Hlb2.out.1 Hlb2.out.2 hb9).mono ?_
  rintro e w2 ⟨rfl, hx2⟩
  have Hx2 := Lib.hid hx2; clear hx2
  go_wp2_with fail
  refine (wholeOf_g (a * b) (by omega) (by omega) w2 ((He.out.ext Hx1.out.ext).ext Hx2.out.ext)).mono ?_
  rintro e w3 ⟨rfl, hx3⟩
  have Hx3 := Lib.hid hx3; clear hx3
  go_wp2
  go_ret
  exact ⟨rfl, (Hx1.out.trans Hx2.out).trans Hx3.out⟩

end Go.Proofs.YtkamjjjimbbdmaaGreatDoor

namespace Go.Proofs.YtkamjjjimbbdmaaGreatDoor
open Go.RowKit Go.Lib Go.Shelf Go.Sort

/-- Clone of a row. -/
theorem clone_c {B : Nat} (v : Value) (x : List Int) (w : World) (hx : OwnI w B v x) (hl : x.length ≤ 1000000) :
    Calls Tryz.prog 50 #[v] w fun e w' => ∃ v', e = .returned v' ∧ OwnI w' w.heap.size v' x ∧ Ext w w' := by
  obtain ⟨i0, hi, hz0, hz1, hz2⟩ := info_parts info_int
  rcases hx.2 with ⟨rfl, h0⟩ | ⟨g, cap, cur, rfl, hb, hg, h1, h2, h3, h4⟩
  · refine (AnyE.slices_Clone_nil Tryz.lCloneR 0 0 w).mono fun e w' ⟨he, hw⟩ => ⟨_, he, ?_, by rw [hw]; exact Ext.refl w⟩
    have : x = [] := List.eq_nil_of_length_eq_zero (by omega)
    rw [hw, this]
    exact World.ownsRow_nil w _ _ 1
  · have hc : ∀ i u, (i64s x)[i]? = some u → w.cell? ⟨g, 0 + i, none⟩ = some u := fun i u hu => by
      have := World.ownsRow.cells hx (g := g) rfl i u hu
      rwa [show ((⟨g, 0, none⟩ : Addr).add i) = ⟨g, 0 + i, none⟩ by unfold Addr.add; split <;> simp_all] at this
    rw [← i64s_length x]
    refine (AnyE.slices_Clone Tryz.lCloneR i0 (.int .i64 0) 1 8 hi hz0 hz1 hz2 rfl (by decide) Tryz.sizeOf3 g 0 (i64s x).length cap (i64s x) w (by rw [i64s_length]; omega) (by rw [i64s_length]; unfold maxLen; omega) (by rw [i64s_length]; omega) hc (by simp [i64s, Value.oneCell'])).mono fun e w' ⟨v', he, ho, _, hb⟩ => ⟨v', he, ?_, hb⟩
    rw [i64s_length] at ho
    exact ho

theorem ownI_set {w : World} {B g cap : Nat} {o : List Int} (h : OwnI w B (.slice (some ⟨g, 0, none⟩) o.length cap) o) (j : Nat) (x : Int) :
    OwnI (w.setCell ⟨g, j, none⟩ (.int .i64 x)) B (.slice (some ⟨g, 0, none⟩) o.length cap) (o.set j x) := by
  have := (World.ownsRow.stored h j (.int .i64 x)).1
  unfold OwnI
  rw [List.length_set]
  rwa [show (i64s o).set j (.int .i64 x) = i64s (o.set j x) by simp [i64s, List.map_set]] at this
theorem ownI_cell {w : World} {B g cap : Nat} {o : List Int} (h : OwnI w B (.slice (some ⟨g, 0, none⟩) o.length cap) o) (j : Nat) (hj : j < o.length) :
    w.cell? ⟨g, j, none⟩ = some (.int .i64 (nthI o j)) := by
  rw [World.ownsRow.cellAt h j (by omega), i64s_at hj]

/-- A number with its exponents, and the slice that holds these. -/
structure Sm where
  n : Nat
  x : List Int
  u : Value
  hn : n ≤ 1000000
  hu : u.oneCell' = true
instance : Inhabited Sm := ⟨⟨0, [], .slice none 0 0, by omega, rfl⟩⟩
def Sm.enc (e : Sm) : List Value := [.int .i64 (e.n : Int), e.u]
def Sm.view (e : Sm) : Nat × List Int := (e.n, e.x)
def smc (es : List Sm) : List Value := es.flatMap Sm.enc
theorem smc_length (es : List Sm) : (smc es).length = es.length * 2 := by
  induction es with
  | nil => rfl
  | cons e r ih => simp only [smc, List.flatMap_cons, List.length_append, List.length_cons] at *; rw [ih]; simp [Sm.enc]; omega
theorem smc_at : ∀ (es : List Sm) (k : Nat) (e : Sm), es[k]? = some e → (smc es)[k * 2]? = some (.int .i64 (e.n : Int)) ∧ (smc es)[k * 2 + 1]? = some e.u
  | [], k, e, h => by simp at h
  | a :: r, 0, e, h => by simp at h; subst h; exact ⟨rfl, rfl⟩
  | a :: r, k + 1, e, h => by
    have := smc_at r k e (by simpa using h)
    rw [show (k + 1) * 2 = k * 2 + 1 + 1 by omega]
    exact this

/-- A slice of such numbers. -/
def SmL (w : World) (B : Nat) (v : Value) (es : List Sm) : Prop :=
  w.ownsRow B 83 2 v es.length (smc es) ∧ ∀ e ∈ es, OwnI w B e.u e.x

theorem own_ne {w : World} {B B' E E' s s' n n' : Nat} {v u : Value} {xs ys : List Value} (h : w.ownsRow B E s v n xs) (k : w.ownsRow B' E' s' u n' ys) (hE : E ≠ E') : v.ownBlock = none ∨ v.ownBlock ≠ u.ownBlock := by
  rcases h.2 with ⟨rfl, _⟩ | ⟨g, cap, cur, rfl, _, hg, _⟩
  · exact .inl rfl
  · rcases k.2 with ⟨rfl, _⟩ | ⟨g', cap', cur', rfl, _, hg', _⟩
    · exact .inr (by simp [Value.ownBlock])
    · refine .inr fun e => ?_
      obtain rfl : g = g' := by simpa [Value.ownBlock] using e
      rw [hg] at hg'
      simp at hg'
      exact hE hg'.2

theorem Ext.smL {w w' : World} (h : Ext w w') {B : Nat} {v : Value} {es : List Sm} (hs : SmL w B v es) : SmL w' B v es := ⟨h.own hs.1, fun e he => h.ownI (hs.2 e he)⟩

/-- One more of an exponent. -/
def bump (x : List Int) (i : Nat) : List Int := x.set i (nthI x i + 1)
def grow1 (q i lim : Nat) : Nat → Nat → List (Nat × List Int) → Option (List (Nat × List Int))
  | 0, _, _ => none
  | f + 1, k, l => match l[k]? with
    | none => some l
    | some e => if e.1 ≤ lim / q then grow1 q i lim f (k + 1) (l ++ [(e.1 * q, bump e.2 i)]) else grow1 q i lim f (k + 1) l
def growAll (lim f : Nat) : List Nat → Nat → List (Nat × List Int) → Option (List (Nat × List Int))
  | [], _, l => some l
  | q :: r, i, l => match grow1 q i lim f 0 l with
    | none => none
    | some l' => growAll lim f r (i + 1) l'

theorem grow1_len (q i lim : Nat) : ∀ (f k : Nat) (l F : List (Nat × List Int)), grow1 q i lim f k l = some F → l.length ≤ F.length
  | 0, _, _, _, h => by simp [grow1] at h
  | f + 1, k, l, F, h => by
    rw [grow1] at h
    split at h
    · simp at h; rw [h]; exact Nat.le_refl _
    · split at h
      · have := grow1_len q i lim f _ _ _ h
        simp at this; omega
      · exact grow1_len q i lim f _ _ _ h
theorem growAll_len (lim f : Nat) : ∀ (p : List Nat) (i : Nat) (l F : List (Nat × List Int)), growAll lim f p i l = some F → l.length ≤ F.length
  | [], _, _, _, h => by simp [growAll] at h; rw [h]; exact Nat.le_refl _
  | q :: r, i, l, F, h => by
    rw [growAll] at h
    split at h
    · cases h
    · rename_i l' hl'
      exact Nat.le_trans (grow1_len q i lim f 0 l l' hl') (growAll_len lim f r _ _ _ h)

/-- What stays true of each number. -/
def Fine (L : Nat) (e : Sm) : Prop := e.x.length = L ∧ 1 ≤ e.n ∧ ∀ j, 0 ≤ nthI e.x j ∧ nthI e.x j ≤ e.n


theorem info_smooth : (Tryz.prog.info? 83).map (fun i => (i.zero, i.size, i.bytes)) = some (some (.agg #[.int .i64 0, .slice none 0 0]), 2, 32) := by kernel_rfl

theorem sm_slice {w : World} {B : Nat} {v : Value} {E k : Nat} {xs : List Value} (h : w.ownsRow B E 2 v k xs) (hk : 0 < k) : ∃ g cap, v = .slice (some ⟨g, 0, none⟩) k cap ∧ ∀ j u, xs[j]? = some u → w.cell? ⟨g, j, none⟩ = some u := by
  rcases h.2 with ⟨_, h0⟩ | ⟨g, cap, cur, rfl, _⟩
  · omega
  · refine ⟨g, cap, rfl, fun j u hj => ?_⟩
    have := h.cells (g := g) rfl j u hj
    rwa [show ((⟨g, 0, none⟩ : Addr).add j) = ⟨g, j, none⟩ by unfold Addr.add; split <;> simp_all] at this

theorem own_put {w : World} {base : Nat} {e : TypeId} {size g n cap q : Nat} {xs ys : List Value} (h : w.ownsRow base e size (.slice (some ⟨g, 0, none⟩) n cap) n xs) (hy : ys.length = n * size) :
    (putRow id (Sort.ahead w q) g 0 ys.toArray).ownsRow base e size (.slice (some ⟨g, 0, none⟩) n cap) n ys := by
  rcases h.2 with ⟨e0, _⟩ | ⟨g', cap', cur, e0, hb, hg, hn, hm, hs, ht⟩
  · cases e0
  · injection e0 with e1 _ e3
    injection e1 with e1
    injection e1 with e1
    subst e1; subst e3
    have hle : n * size ≤ cap * size := Nat.mul_le_mul_right _ hn
    refine ⟨hy, .inr ⟨g, cap, putCells id 0 ys.toArray cur, rfl, hb, ?_, hn, hm, by simpa [putCells] using hs, ?_⟩⟩
    · simp [putRow, mapBlock, Sort.ahead, Array.getElem?_modify, hg, onCells]
    · apply List.ext_getElem?
      intro j
      rw [List.getElem?_take, Array.getElem?_toList]
      by_cases hj : j < n * size
      · have hjc : j < cur.size := by omega
        simp only [if_pos hj, putCells, Array.getElem?_mapIdx, Array.getElem?_eq_getElem hjc, Option.map_some]
        rw [if_pos (by simp; omega), List.getElem?_eq_getElem (by omega)]
        simp [getElem!_pos, show j < ys.length by omega]
      · rw [if_neg hj, List.getElem?_eq_none (by omega)]
theorem grownBy_put (w : World) (g q : Nat) (F : Array Value) (os : Array Obj) : w.grownBy (grow (putRow id (Sort.ahead w q) g 0 F) os) (some g) :=
  ⟨rfl, rfl, rfl, by simp [grow, putRow, mapBlock, Sort.ahead], fun k hk hne => by
    have hne' : g ≠ k := fun e => hne (by rw [e])
    simp only [grow, putRow, mapBlock, Sort.ahead]
    rw [Array.getElem?_append_left (by simpa using hk), Array.getElem?_modify, if_neg hne']⟩
theorem holds_own {w : World} {base : Nat} {e : TypeId} {size g n cap : Nat} {xs : List Value} (h : w.ownsRow base e size (.slice (some ⟨g, 0, none⟩) n cap) n xs) : Holds id w g 0 xs.toArray := by
  intro j hj
  have hj' : j < xs.length := by simpa using hj
  refine ⟨?_, ?_⟩
  · have := h.cells (g := g) rfl j xs[j] (List.getElem?_eq_getElem hj')
    rw [show ((⟨g, 0, none⟩ : Addr).add j) = ⟨g, 0 + j, none⟩ by unfold Addr.add; split <;> simp_all] at this
    rw [this]
    simp [getElem!_pos, hj']
  · have := World.ownsRow.frozenAt h j
    rwa [Nat.zero_add]
theorem flat_smc (d : Array Sm) : flatK Sm.enc 2 d = (smc d.toList).toArray := by
  apply ext_get!
  · simp only [List.size_toArray, smc_length, size_flatK, Array.length_toList]
  · intro t ht
    rw [size_flatK] at ht
    rw [get_flatK _ _ _ _ ht]
    have hk : t / 2 < d.size := by omega
    have hk' : t / 2 < d.toList.length := by simpa using hk
    obtain ⟨h1, h2⟩ := smc_at d.toList (t / 2) d[t / 2] (by rw [Array.getElem?_toList]; exact Array.getElem?_eq_getElem hk)
    have hg : d[t / 2]! = d[t / 2] := getElem!_pos d _ hk
    have hlen := smc_length d.toList
    have htl : t < (smc d.toList).length := by rw [hlen]; simp; omega
    rw [hg, getElem!_pos _ t (by simpa using htl)]
    rcases Nat.mod_two_eq_zero_or_one t with h | h
    · rw [h]
      rw [show t / 2 * 2 = t by omega, List.getElem?_eq_getElem htl] at h1
      simpa [Sm.enc] using (Option.some.inj h1).symm
    · rw [h]
      rw [show t / 2 * 2 + 1 = t by omega, List.getElem?_eq_getElem htl] at h2
      simpa [Sm.enc] using (Option.some.inj h2).symm

theorem enc_one (x : Sm) (v : Value) (hv : v ∈ x.enc) : v.oneCell' = true := by
  rcases List.mem_cons.1 hv with rfl | hv
  · rfl
  · rw [List.mem_singleton.1 hv]; exact x.hu
def cfN (x y : Sm) : Int := (x.n : Int) - (y.n : Int)
theorem ltN (x y : Sm) : ltOf cfN x y = decide (x.n < y.n) := by
  unfold ltOf cfN
  by_cases h : x.n < y.n
  · rw [decide_eq_true h, decide_eq_true (by omega)]
  · rw [decide_eq_false h, decide_eq_false (by omega)]
theorem swoN : SWO (ltOf cfN) where
  irrefl x := by rw [ltN]; simp
  trans x y z h1 h2 := by rw [ltN] at *; simp at *; omega
  ntrans x y z h1 h2 := by rw [ltN] at *; simp at *; omega
theorem layN (blk off size : Nat) (w : World) : CmpLays Tryz.prog 77 #[] Sm.enc 2 cfN blk off size w := by
  intro m os dk _ x y
  refine (byNumber_c x.u y.u x.n y.n (sortWorldK Sm.enc 2 w blk off m dk os) (by omega) (by have := x.hn; omega) (by omega) (by have := y.hn; omega)).mono ?_
  rintro e w' ⟨rfl, rfl⟩
  refine ⟨rfl, 0, #[.cells #[.int .i64 x.n, x.u] 83, .cells #[.int .i64 y.n, y.u] 83], ?_⟩
  rw [alloc_eq_grow, alloc_eq_grow, grow_grow]
  rfl

set_option maxHeartbeats 1000000 in
theorem sort_c {W : World} {B : Nat} {a : Option Addr} {cap : Nat} {es : List Sm} (hs : SmL W B (.slice a es.length cap) es) (hpos : 0 < es.length) (hl : es.length ≤ 1000000) :
    Calls Tryz.prog 76 #[.slice a es.length cap, .func (.func 77) #[] #[]] W fun e w' => e = .returned (.tuple #[]) ∧ ∃ es' : List Sm, SmL w' B (.slice a es.length cap) es' ∧ es'.Perm es ∧ es'.Pairwise (fun a b => a.n ≤ b.n) ∧ ∀ w0 : World, Ext w0 W → (w0.heap.size = B → Ext w0 w') := by
  obtain ⟨g, cap', e0, hcells⟩ := sm_slice hs.1 hpos
  injection e0 with e1 _ e3
  subst e1; subst e3
  have hH : HoldsK Sm.enc 2 W g 0 es.toArray := by
    show Holds id W g 0 (flatK Sm.enc 2 es.toArray)
    rw [flat_smc]
    exact holds_own hs.1
  have hg : g < W.heap.size := by
    obtain ⟨e, he⟩ : ∃ e, (smc es)[0]? = some e := ⟨_, List.getElem?_eq_getElem (by rw [smc_length]; omega)⟩
    exact World.block_lt_of_cell? _ _ (hcells 0 e he)
  have hgB : B ≤ g := by
    rcases hs.1.2 with ⟨e0, _⟩ | ⟨g', cap', cur, e0, hb, _⟩
    · cases e0
    · injection e0 with e1 _ _
      injection e1 with e1
      injection e1 with e1
      omega
  have eg : ∀ args w, (callFunc 77 args).run Tryz.prog w = .ok (.enter 77 args) w := enters_of Tryz.func77 (by kernel_rfl) rfl
  have hcon := AnyQ.slices_SortFunc Tryz.lSortSmooth 2 Tryz.isAgg83 Tryz.sizeOf83 Sm.enc (fun _ => rfl) enc_one cfN swoN 77 #[] g 0 cap es.toArray W eg (layN g 0 es.toArray.size W) hH hg (by simp; omega)
  rw [List.size_toArray] at hcon
  refine Calls.mono hcon ?_
  rintro e w' ⟨rfl, d', n, os, hp, hso, rfl⟩
  obtain ⟨hd1, _, hd3⟩ := hp
  have hsz : d'.size = es.length := by simpa using hd1
  have hperm : d'.toList.Perm es := by
    have : (d'.extract 0 es.length).toList.Perm (es.toArray.extract 0 es.length).toList := hd3
    simpa [hsz, List.take_of_length_le] using this
  have hgrow := grownBy_put W g n (flatK Sm.enc 2 d') os
  refine ⟨rfl, d'.toList, ⟨?_, ?_⟩, hperm, ?_, ?_⟩
  · have h1 := own_put (q := n) (ys := smc d'.toList) hs.1 (by rw [smc_length]; simp [hsz])
    have h2 : (grow (putRow id (Sort.ahead W n) g 0 (smc d'.toList).toArray) os).ownsRow B 83 2 (.slice (some ⟨g, 0, none⟩) es.length cap) es.length (smc d'.toList) := ((Ext.refl _).grow os).own h1
    show (grow (putRow id (Sort.ahead W n) g 0 (flatK Sm.enc 2 d')) os).ownsRow _ _ _ _ _ _
    rw [flat_smc]
    rw [show d'.toList.length = es.length by simpa using hsz]
    exact h2
  · intro e he
    have ho := hs.2 e (hperm.mem_iff.1 he)
    exact World.ownsRow.kept ho hgrow (own_ne ho hs.1 (by decide))
  · rw [List.pairwise_iff_getElem]
    intro i j hi hj hij
    have := hso i j (Nat.zero_le _) hij (by simpa [hsz] using hj)
    rw [ltN] at this
    have hi' : i < d'.size := by simpa using hi
    have hj' : j < d'.size := by simpa using hj
    rw [getElem!_pos d' j hj', getElem!_pos d' i hi'] at this
    simp at this
    simpa using this
  · intro w0 h0 hB0
    exact h0.grown hgrow fun k hk => by cases hk; omega

end Go.Proofs.YtkamjjjimbbdmaaGreatDoor

namespace Go.Proofs.YtkamjjjimbbdmaaGreatDoor
open Go.RowKit Go.Lib Go.Shelf Go.Sort

def NumOut (p : List Nat) (lim f : Nat) (F : List (Nat × List Int)) (w0 : World) (v i : Value) (wr : World) : Prop :=
  ∃ (k : Nat) (es : List Sm), i = .int .i64 k ∧ k ≤ p.length ∧ SmL wr w0.heap.size v es ∧ (∀ e ∈ es, Fine p.length e) ∧ growAll lim f (p.drop k) k (es.map Sm.view) = some F ∧ Ext w0 wr
def NumIn (q i lim : Nat) (L : Nat) (F1 : List (Nat × List Int)) (w0 : World) (v j : Value) (wr : World) : Prop :=
  ∃ (m f : Nat) (es : List Sm), j = .int .i64 m ∧ m ≤ es.length ∧ SmL wr w0.heap.size v es ∧ (∀ e ∈ es, Fine L e) ∧ grow1 q i lim f m (es.map Sm.view) = some F1 ∧ Ext w0 wr

theorem growAll_step {lim f q : Nat} {r : List Nat} {i : Nat} {l F : List (Nat × List Int)} (h : growAll lim f (q :: r) i l = some F) : ∃ F1, grow1 q i lim f 0 l = some F1 ∧ growAll lim f r (i + 1) F1 = some F := by
  rw [growAll] at h
  split at h
  · cases h
  · rename_i l' hl'
    exact ⟨l', hl', h⟩
theorem grow1_step {q i lim f k : Nat} {l F : List (Nat × List Int)} {n : Nat} {x : List Int} (h : grow1 q i lim f k l = some F) (hk : l[k]? = some (n, x)) :
    ∃ f', f = f' + 1 ∧ (if n ≤ lim / q then grow1 q i lim f' (k + 1) (l ++ [(n * q, bump x i)]) else grow1 q i lim f' (k + 1) l) = some F := by
  cases f with
  | zero => simp [grow1] at h
  | succ f' => exact ⟨f', rfl, by rw [grow1, hk] at h; exact h⟩
theorem grow1_end {q i lim f k : Nat} {l F : List (Nat × List Int)} (h : grow1 q i lim f k l = some F) (hk : l.length ≤ k) : l = F := by
  cases f with
  | zero => simp [grow1] at h
  | succ f' => rw [grow1, List.getElem?_eq_none hk] at h; simpa using h
theorem row_at {w : World} {B : Nat} {v : Value} {x : List Int} {k : Nat} (h : OwnI w B v x) (hk : k < x.length) :
    ∃ g cap, v = .slice (some ⟨g, 0, none⟩) x.length cap ∧ B ≤ g ∧ w.cell? ⟨g, k, none⟩ = some (.int .i64 (nthI x k)) ∧ w.frozen? ⟨g, k, none⟩ = false ∧ ∀ z, OwnI (w.setCell ⟨g, k, none⟩ (.int .i64 z)) B (.slice (some ⟨g, 0, none⟩) x.length cap) (x.set k z) := by
  have h' : w.ownsRow B 3 1 v x.length (i64s x) := h
  rcases h'.2 with ⟨_, h0⟩ | ⟨g, cap, cur, rfl, hb, _⟩
  · omega
  · exact ⟨g, cap, rfl, hb, ownI_cell h k hk, World.ownsRow.frozenAt h' k, fun z => ownI_set h k z⟩

theorem nthI_zeros (L j : Nat) : nthI (List.replicate L 0) j = 0 := by
  unfold nthI
  rw [List.getD_eq_getElem?_getD, List.getElem?_replicate]
  split <;> rfl
theorem num_same {q i lim L m f : Nat} {F1 : List (Nat × List Int)} {w0 wr W : World} {v : Value} {es : List Sm} (hd : Ext wr W) (hs : SmL wr w0.heap.size v es) (hf : ∀ e ∈ es, Fine L e) (hE : Ext w0 wr)
    (hg : grow1 q i lim f (m + 1) (es.map Sm.view) = some F1) (hm : m < es.length) : NumIn q i lim L F1 w0 v (.int .i64 ((m : Int) + 1)) W :=
  ⟨m + 1, f, es, by simp, by omega, hd.smL hs, hf, hg, hE.trans hd⟩

theorem num_start (w w1 : World) (p : List Nat) (lim f : Nat) (F : List (Nat × List Int)) (u : Value) (hu : OwnI w1 w.heap.size u (List.replicate p.length 0)) (hE : Ext w w1) (hF : growAll lim f p 0 [(1, List.replicate p.length 0)] = some F) :
    NumOut p lim f F w (.slice (some ⟨w1.heap.size, 0, none⟩) 1 1) (.int .i64 0) (w1.alloc (.cells #[.int .i64 1, u] 83)) := by
  have hone : u.oneCell' = true := by
    rcases hu.2 with ⟨rfl, _⟩ | ⟨g, cap, cur, rfl, _⟩ <;> rfl
  refine ⟨0, [⟨1, List.replicate p.length 0, u, by omega, hone⟩], rfl, Nat.zero_le _, ⟨⟨rfl, .inr ⟨w1.heap.size, 1, #[.int .i64 1, u], rfl, hE.size, World.alloc_heap_new _ _, Nat.le_refl _, by decide, rfl, rfl⟩⟩, ?_⟩, ?_, ?_, hE.alloc _⟩
  · intro e he
    simp only [List.mem_singleton] at he
    subst he
    exact ((Ext.refl w1).alloc _).ownI hu
  · intro e he
    simp only [List.mem_singleton] at he
    subst he
    exact ⟨by simp, Nat.le_refl _, fun j => by rw [nthI_zeros]; exact ⟨by omega, by simp⟩⟩
  · rw [List.drop_zero]; exact hF

theorem smc_snoc (es : List Sm) (e : Sm) : smc (es ++ [e]) = smc es ++ [.int .i64 (e.n : Int), e.u] := by simp [smc, Sm.enc]
theorem nthI_set (x : List Int) (k j : Nat) (z : Int) : nthI (x.set k z) j = if j = k ∧ k < x.length then z else nthI x j := by
  unfold nthI
  rw [List.getD_eq_getElem?_getD, List.getD_eq_getElem?_getD, List.getElem?_set]
  by_cases h : k = j
  · subst h
    by_cases h2 : k < x.length
    · simp [h2]
    · simp [h2]
  · rw [if_neg h, if_neg (by omega)]
theorem num_more {q k lim L m f : Nat} {F1 : List (Nat × List Int)} {w0 W6 W7 : World} {v v7 : Value} {es : List Sm} {n : Nat} {x : List Int} {u : Value} {tmp : Obj} (hE : Ext w0 W6) (hs : SmL W6 w0.heap.size v es) (hf : ∀ e ∈ es, Fine L e) (hm : m < es.length)
    (he : x.length = L ∧ 1 ≤ n ∧ ∀ j, 0 ≤ nthI x j ∧ nthI x j ≤ n) (hu : OwnI W6 w0.heap.size u (bump x k)) (hone : u.oneCell' = true) (hq : 2 ≤ q) (hmul : n * q ≤ 5000)
    (hown : W7.ownsRow w0.heap.size 83 2 v7 (es.length + 1) (smc es ++ [.int .i64 ((n : Int) * (q : Int)), u])) (hgrow : (W6.alloc tmp).grownBy W7 v.ownBlock)
    (hg : grow1 q k lim f (m + 1) (es.map Sm.view ++ [(n * q, bump x k)]) = some F1) : NumIn q k lim L F1 w0 v7 (.int .i64 ((m : Int) + 1)) W7 := by
  have hn2 : n + 1 ≤ n * q := by
    have : n * 2 ≤ n * q := Nat.mul_le_mul_left n hq
    omega
  have keep : ∀ u' x', OwnI W6 w0.heap.size u' x' → OwnI W7 w0.heap.size u' x' := fun u' x' ho =>
    World.ownsRow.kept (((Ext.refl W6).alloc tmp).ownI ho) hgrow (own_ne ho hs.1 (by decide))
  have hE7 : Ext w0 W7 := by
    refine (hE.alloc tmp).grown hgrow fun k hk => ?_
    rcases hs.1.2 with ⟨rfl, _⟩ | ⟨g, cap, cur, rfl, hb, _⟩
    · simp [Value.ownBlock] at hk
    · simp [Value.ownBlock] at hk; omega
  refine ⟨m + 1, f, es ++ [⟨n * q, bump x k, u, by omega, hone⟩], by simp, by simp; omega, ⟨?_, ?_⟩, ?_, ?_, hE7⟩
  · rw [List.length_append, smc_snoc]
    rw [← Int.natCast_mul] at hown
    exact hown
  · intro e hmem
    rcases List.mem_append.1 hmem with h | h
    · exact keep _ _ (hs.2 e h)
    · simp only [List.mem_singleton] at h
      subst h
      exact keep _ _ hu
  · intro e hmem
    rcases List.mem_append.1 hmem with h | h
    · exact hf e h
    · simp only [List.mem_singleton] at h
      subst h
      refine ⟨by simp [bump, he.1], by show 1 ≤ n * q; omega, fun j => ?_⟩
      have h1 := he.2.2 j
      have h2 := he.2.2 k
      show 0 ≤ nthI (x.set k (nthI x k + 1)) j ∧ nthI (x.set k (nthI x k + 1)) j ≤ ((n * q : Nat) : Int)
      rw [nthI_set]
      split
      · omega
      · omega
  · rw [List.map_append]; exact hg

set_option maxRecDepth 100000 in
set_option maxHeartbeats 2000000 in
theorem nums_w (vp : Value) (p : List Nat) (lim f : Nat) (F : List (Nat × List Int)) (w : World) (hp : Sl w vp (i64s (ints p))) (hlp : p.length ≤ 64) (hq : ∀ i, i < p.length → 2 ≤ nth p i ∧ nth p i ≤ 100) (hlim : lim ≤ 5000)
    (hF : growAll lim f p 0 [(1, List.replicate p.length 0)] = some F) (hFl : F.length ≤ 1000000) :
    Calls Tryz.prog 39 #[vp, .int .i64 lim] w fun e w' => ∃ v, e = .returned v ∧ ∃ es : List Sm, SmL w' w.heap.size v es ∧ (∀ e ∈ es, Fine p.length e) ∧ (es.map Sm.view).Perm F ∧ es.Pairwise (fun a b => a.n ≤ b.n) ∧ Ext w w' := by
  obtain ⟨i0, hi, hz0, hz1, hz2⟩ := info_parts info_int
  obtain ⟨j0, hj, hy0, hy1, hy2⟩ := info_parts info_smooth
  obtain ⟨aa, ca, rfl, _, _, hcp⟩ := hp.parts
  rw [i64s_length, ints_length] at *
  have Hcp := Lib.hid hcp; clear hcp hp
  have HF := Lib.hid hF; clear hF
  have Hq := Lib.hid hq; clear hq
  go_enter Tryz.func39, Tryz.ntmps39
  go_wp2_with (at_make; refine wpList_make_full _ rfl _ _ 30 rfl w.heap.size 3 i0 (.int .i64 0) 1 Tryz.underlying30 hi hz0 hz1 _ _ _ _ p.length rfl rfl rfl rfl (by rw [hz2]; omega) (by unfold maxLen; omega) (Nat.le_refl _) ?_; intro w1 hown hgrow)
  have hown1 : OwnI w1 w.heap.size (.slice (some ⟨w.heap.size, 0, none⟩) p.length p.length) (List.replicate p.length 0) := by
    unfold OwnI
    rw [List.length_replicate]
    have e : i64s (List.replicate p.length 0) = (madeCells #[Value.int .i64 0] (p.length * 1)).toList := by
      rw [Nat.mul_one, toList_madeCells_one]; simp [i64s]
    rw [e]; exact hown
  have hE1 : Ext w w1 := (Ext.refl w).grown hgrow (by simp)
  have hrel0 := num_start w w1 p lim f F _ hown1 hE1 HF.out
  have Hrel0 := Lib.hid hrel0; clear hrel0 hown1 hE1 hown hgrow
  go_loopw [5, 17] (fun v i wr => NumOut p lim f F w v i wr) (fun _ i _ => p.length - (intOf i).toNat)
  case atStart => exact Hrel0.out
  case round =>
    obtain ⟨k, es, rfl, hk, hsm, hfine, hgr, hext⟩ := hrel
    clear Hrel0
    by_cases hlt : k < p.length
    · obtain ⟨b, off, rfl, hc⟩ := Hcp.out k _ (i64s_at (by rw [ints_length]; exact hlt))
      rw [nthI_ints] at hc
      have hcell := hext.cell hc
      obtain ⟨hq2, hq100⟩ := Hq.out k hlt
      have Hsm := Lib.hid hsm; have Hfine := Lib.hid hfine; have Hgr := Lib.hid hgr; have Hext := Lib.hid hext
      clear hsm hfine hgr hext hc
      generalize hQ : nth p k = q at *
      have HQ := Lib.hid hQ; clear hQ
      rw [show p.drop k = q :: p.drop (k + 1) by rw [← HQ.out, List.drop_eq_getElem_cons hlt]; unfold nth; rw [List.getD_eq_getElem?_getD, List.getElem?_eq_getElem hlt]; rfl] at Hgr
      obtain ⟨F1, hg1, hg2⟩ := growAll_step Hgr.out
      have hF1l := growAll_len lim f _ _ _ _ hg2
      have Hg1 := Lib.hid hg1; have Hg2 := Lib.hid hg2; clear hg1 hg2 Hgr
      go_wp2_with fail
      go_loopw [5, 8] (fun v j wr => NumIn q k lim p.length F1 w v j wr) (fun _ j _ => F1.length - (intOf j).toNat)
      case atStart => exact ⟨0, f, es, rfl, Nat.zero_le _, Hsm.out, Hfine.out, Hg1.out, Hext.out⟩
      case round =>
        obtain ⟨m, f1, es1, rfl, hm, hsm1, hfine1, hgr1, hext1⟩ := hrel
        clear Hsm Hfine Hext Hg1
        have hes1 := grow1_len _ _ _ _ _ _ _ hgr1
        rw [List.length_map] at hes1
        have hown1 := hsm1.1
        by_cases hm1 : m < es1.length
        · obtain ⟨e, he⟩ : ∃ e, es1[m]? = some e := ⟨_, List.getElem?_eq_getElem hm1⟩
          have hmem : e ∈ es1 := List.mem_of_getElem? he
          obtain ⟨f2, rfl, hstep⟩ := grow1_step hgr1 (show (es1.map Sm.view)[m]? = some (e.n, e.x) by rw [List.getElem?_map, he]; rfl)
          obtain ⟨hL, hn1, hxs⟩ := hfine1 e hmem
          have hen := e.hn
          have hu := hsm1.2 e hmem
          obtain ⟨hs1, hs2⟩ := smc_at es1 m e he
          obtain ⟨g, cap, rfl, hsl⟩ := sm_slice hown1 (by omega)
          have hc1 := hsl _ _ hs1
          have hc2 := hsl _ _ hs2
          have Hsm1 := Lib.hid hsm1; have Hfine1 := Lib.hid hfine1; have Hgr1 := Lib.hid hgr1; have Hext1 := Lib.hid hext1
          have Hstep := Lib.hid hstep; have Hxs := Lib.hid hxs; have Hu := Lib.hid hu
          clear hsm1 hfine1 hgr1 hext1 hstep hxs hu hown1 hsl hs1 hs2
          have hquo : (lim : Int).tdiv q = ((lim / q : Nat) : Int) := rfl
          have hQ5 : lim / q ≤ 5000 := Nat.le_trans (Nat.div_le_self _ _) hlim
          generalize hQq : lim / q = Qq at *
          have HQq := Lib.hid hQq; clear hQq
          by_cases hle : e.n ≤ Qq
          · rw [if_pos hle] at Hstep
            have ht : decide ((e.n : Int) ≤ (Qq : Int)) = true := decide_eq_true (by omega)
            go_wp2_with fail
            go_quiet (fail)
            have hd : Ext wr (wr.drewN nq) := (Ext.refl wr).drewN nq
            have hdc1 := hd.cell hc1
            have hdc2 := hd.cell hc2
            have Hd := Lib.hid hd; clear hd
            generalize wr.drewN nq = W4 at *
            go_wp2_with fail
            refine (clone_c e.u e.x W4 (Hd.out.ownI Hu.out) (by omega)).mono ?_
            rintro e9 W5 ⟨v5, rfl, hv5, hx5⟩
            obtain ⟨gx, cx, rfl, hgx, hcx, hset⟩ := row_at hv5 (show k < e.x.length by omega)
            obtain ⟨hfr, hset⟩ := hset
            have hx6 : Ext W4 (W5.setCell ⟨gx, k, none⟩ (.int .i64 (nthI e.x k + 1))) := hx5.setCell (p := ⟨gx, k, none⟩) hgx _
            have hc15 := hx5.cell hdc1
            have hc16 := hx6.cell hdc1
            have hxk := Hxs.out k
            have hmul : e.n * q ≤ 5000 := by
              have h1 := Nat.div_mul_le_self lim q
              have h2 : e.n * q ≤ lim / q * q := Nat.mul_le_mul_right q (by rw [HQq.out]; exact hle)
              omega
            have hmul0 : 0 ≤ (e.n : Int) * (q : Int) := by rw [← Int.natCast_mul]; omega
            have hmul1 : (e.n : Int) * (q : Int) ≤ 5000 := by rw [← Int.natCast_mul]; omega
            have hbump : OwnI (W5.setCell ⟨gx, k, none⟩ (.int .i64 (nthI e.x k + 1))) W4.heap.size (.slice (some ⟨gx, 0, none⟩) e.x.length cx) (bump e.x k) := hset _
            rw [hL] at hbump
            have Hx5 := Lib.hid hx5; have Hx6 := Lib.hid hx6; have Hbump := Lib.hid hbump
            clear hx5 hx6 hset hv5 hbump
            have hE6 : Ext wr (W5.setCell ⟨gx, k, none⟩ (.int .i64 (nthI e.x k + 1))) := Hd.out.trans Hx6.out
            have hown6 := hE6.own Hsm1.out.1
            have hsz6 := (Hext1.out.trans hE6).size
            have hm3 : es1.length + 1 ≤ maxLen := by unfold maxLen; omega
            have hm4 : (es1.length + 1) * 32 ≤ 140737488355328 := by omega
            have HE6 := Lib.hid hE6; clear hE6
            generalize hW6 : W5.setCell ⟨gx, k, none⟩ (.int .i64 (nthI e.x k + 1)) = W6 at *
            go_wp2_with (at_builtin; refine wpList_append_own _ rfl _ _ 80 rfl w.heap.size 83 j0 (.agg #[.int .i64 0, .slice none 0 0]) 2 32 Tryz.underlying80 hj hy0 hy1 hy2 rfl (by decide) _ _ _ rfl (hown6.alloc _) ⟨W6.heap.size, 0, none⟩ 1 1 [.int .i64 ((e.n : Int) * (q : Int)), .slice (some ⟨gx, 0, none⟩) p.length cx] rfl rfl (cell_two_new _ _ _ _) (by simp [Value.oneCell']) hm3 hm4 (by rw [World.size_alloc]; omega) ?_; intro v7 W7 hown7 hgrow7 _)
            go_roundw
            case rel =>
              have hsm6 := HE6.out.smL Hsm1.out
              exact num_more (Hext1.out.trans HE6.out) hsm6 Hfine1.out hm1 ⟨hL, hn1, Hxs.out⟩ (own_mono Hbump.out (Hext1.out.trans Hd.out).size) rfl hq2 hmul hown7 hgrow7 Hstep.out
            case measure => simp [intOf]; omega
          · rw [if_neg hle] at Hstep
            go_wp2_with fail
            go_quiet (fail)
            have hd : Ext wr (wr.drewN nq) := (Ext.refl wr).drewN nq
            have hrelN := num_same (F1 := F1) (w0 := w) hd Hsm1.out Hfine1.out Hext1.out Hstep.out hm1
            have HrelN := Lib.hid hrelN; clear hrelN hd
            go_wp2
            go_roundw
            case rel => exact HrelN.out
            case measure => simp [intOf]; omega
        · obtain rfl : m = es1.length := by omega
          obtain ⟨a5, c5, rfl⟩ := own_shape hown1
          have hend := grow1_end hgr1 (by rw [List.length_map]; exact Nat.le_refl _)
          have Hsm1 := Lib.hid hsm1; have Hfine1 := Lib.hid hfine1; have Hend := Lib.hid hend; have Hext1 := Lib.hid hext1
          clear hsm1 hfine1 hend hext1 hown1 hgr1
          go_wp2
          go_roundw
          case rel => exact ⟨k + 1, es1, by go_num, by omega, Hsm1.out, Hfine1.out, by rw [Hend.out]; exact Hg2.out, Hext1.out⟩
          case measure => simp [intOf]; omega
    · obtain rfl : k = p.length := by omega
      obtain ⟨a5, c5, rfl⟩ := own_shape hsm.1
      rw [List.drop_length, growAll] at hgr
      have hview : es.map Sm.view = F := by simpa using hgr
      have hlen : es.length = F.length := by rw [← hview, List.length_map]
      have hpos : 0 < es.length := by
        have := growAll_len lim f _ _ _ _ HF.out
        simp at this; omega
      have hsort := sort_c hsm hpos (by omega)
      have Hsort := Lib.hid hsort; have Hext := Lib.hid hext; have Hfine := Lib.hid hfine; have Hview := Lib.hid hview
      clear hsort hext hfine hsm hgr hlen hview
      go_wp2_with fail
      refine Hsort.out.mono ?_
      rintro e W8 ⟨rfl, es', hsm8, hperm, hpw, hx8⟩
      have Hsm8 := Lib.hid hsm8; have Hx8 := Lib.hid hx8; clear hsm8 hx8
      go_wp2
      go_ret
      exact ⟨_, rfl, es', Hsm8.out, fun e he => Hfine.out e (hperm.mem_iff.1 he), by rw [← Hview.out]; exact hperm.map _, hpw, Hx8.out w Hext.out rfl⟩

end Go.Proofs.YtkamjjjimbbdmaaGreatDoor

namespace Go.Proofs.YtkamjjjimbbdmaaGreatDoor
open Go.RowKit Go.Lib Go.Shelf Go.Sort

/-- A row, and the slice that holds it. -/
structure Rw where
  x : List Int
  u : Value
  hu : u.oneCell' = true
instance : Inhabited Rw := ⟨⟨[], .slice none 0 0, rfl⟩⟩

def rwc (rs : List Rw) : List Value := rs.map Rw.u
theorem rwc_length (rs : List Rw) : (rwc rs).length = rs.length := by simp [rwc]
def RwL (w : World) (B : Nat) (v : Value) (rs : List Rw) : Prop :=
  w.ownsRow B 30 1 v rs.length (rwc rs) ∧ ∀ r ∈ rs, OwnI w B r.u r.x
theorem Ext.rwL {w w' : World} (h : Ext w w') {B : Nat} {v : Value} {rs : List Rw} (hs : RwL w B v rs) : RwL w' B v rs := ⟨h.own hs.1, fun e he => h.ownI (hs.2 e he)⟩
theorem RwL.nil (w : World) (B : Nat) : RwL w B (.slice none 0 0) [] := ⟨World.ownsRow_nil w _ _ 1, fun _ h => by cases h⟩

theorem own_put_at {w : World} {base : Nat} {e : TypeId} {g n cap q off : Nat} {xs ys : List Value} (h : w.ownsRow base e 1 (.slice (some ⟨g, 0, none⟩) n cap) n xs) (hy : off + ys.length = n) :
    (putRow id (Sort.ahead w q) g off ys.toArray).ownsRow base e 1 (.slice (some ⟨g, 0, none⟩) n cap) n (xs.take off ++ ys) := by
  have hxl : xs.length = n := by simpa using h.1
  rcases h.2 with ⟨e0, _⟩ | ⟨g', cap', cur, e0, hb, hg, hn, hm, hs, ht⟩
  · cases e0
  · injection e0 with e1 _ e3
    injection e1 with e1
    injection e1 with e1
    subst e1; subst e3
    refine ⟨by simp; omega, .inr ⟨g, cap, putCells id off ys.toArray cur, rfl, hb, ?_, hn, hm, by simpa [putCells] using hs, ?_⟩⟩
    · simp [putRow, mapBlock, Sort.ahead, Array.getElem?_modify, hg, onCells]
    · apply List.ext_getElem?
      intro j
      rw [List.getElem?_take, Array.getElem?_toList]
      by_cases hj : j < n * 1
      · have hjc : j < cur.size := by omega
        have e1 : (cur.toList.take (n * 1))[j]? = xs[j]? := by rw [ht]
        rw [List.getElem?_take, if_pos hj, Array.getElem?_toList, Array.getElem?_eq_getElem hjc] at e1
        simp only [if_pos hj, putCells, Array.getElem?_mapIdx, Array.getElem?_eq_getElem hjc, Option.map_some]
        by_cases ho : off ≤ j
        · rw [if_pos (by simp; omega), List.getElem?_append_right (by simp; omega), List.length_take, show min off xs.length = off by omega, List.getElem?_eq_getElem (by omega)]
          simp [getElem!_pos, show j - off < ys.length by omega]
        · rw [if_neg (by omega), List.getElem?_append_left (by simp; omega), List.getElem?_take, if_pos (by omega)]
          exact e1
      · rw [if_neg hj, List.getElem?_eq_none (by simp; omega)]
theorem grownBy_put_at (w : World) (g q off : Nat) (F : Array Value) : w.grownBy (putRow id (Sort.ahead w q) g off F) (some g) :=
  ⟨rfl, rfl, rfl, by simp [putRow, mapBlock, Sort.ahead], fun k hk hne => by
    have hne' : g ≠ k := fun e => hne (by rw [e])
    simp only [putRow, mapBlock, Sort.ahead]
    rw [Array.getElem?_modify, if_neg hne']⟩
theorem holds_at {w : World} {base : Nat} {e : TypeId} {g n cap off : Nat} {xs : List Value} (h : w.ownsRow base e 1 (.slice (some ⟨g, 0, none⟩) n cap) n xs) : Holds id w g off (xs.drop off).toArray := by
  intro j hj
  have hj' : off + j < xs.length := by simp at hj; omega
  refine ⟨?_, World.ownsRow.frozenAt h (off + j)⟩
  have := h.cells (g := g) rfl (off + j) xs[off + j] (List.getElem?_eq_getElem hj')
  rw [show ((⟨g, 0, none⟩ : Addr).add (off + j)) = ⟨g, off + j, none⟩ by unfold Addr.add; split <;> simp_all] at this
  rw [this]
  simp at hj
  simp [getElem!_pos, hj]

theorem put_map (w : World) (g q off : Nat) (ys : Array Rw) : putRow Rw.u (Sort.ahead w q) g off ys = putRow id (Sort.ahead w q) g off (ys.map Rw.u) := by
  unfold putRow
  congr 1
  funext cur
  unfold putCells
  apply Array.ext
  · simp
  · intro i h1 h2
    simp only [Array.getElem_mapIdx, Array.size_map]
    by_cases h : off ≤ i ∧ i < off + ys.size
    · rw [if_pos h, if_pos h]
      have hj : i - off < ys.size := by omega
      simp [getElem!_pos, hj]
    · rw [if_neg h, if_neg h]

/-- The tail of a list of rows, turned round. -/
theorem revFrom_c {W : World} {B : Nat} {a : Option Addr} {cap : Nat} {rs : List Rw} (hs : RwL W B (.slice a rs.length cap) rs) (off : Nat) (ho : off ≤ rs.length) (hl : rs.length ≤ 1000000) (a' : Option Addr) (cap' : Nat) (ha : off < rs.length → ∀ g, a = some ⟨g, 0, none⟩ → a' = some ⟨g, off, none⟩) :
    Calls Tryz.prog 44 #[.slice a' (rs.length - off) cap'] W fun e w' => e = .returned (.tuple #[]) ∧ RwL w' B (.slice a rs.length cap) (rs.take off ++ (rs.drop off).reverse) ∧ ∀ w0 : World, Ext w0 W → w0.heap.size = B → Ext w0 w' := by
  rcases Nat.eq_or_lt_of_le ho with h0 | h0
  · subst h0
    rw [Nat.sub_self]
    refine (AnyE.slices_Reverse_empty Tryz.lReverseR a' cap' W).mono fun e w' ⟨he, hw⟩ => ⟨he, ?_, fun w0 h _ => by rw [hw]; exact h⟩
    rw [hw]
    simpa using hs
  · rcases hs.1.2 with ⟨e0, hn⟩ | ⟨g, cp, cur, e0, hb, _⟩
    · omega
    · injection e0 with e1 _ e3
      subst e1; subst e3
      obtain rfl := ha h0 g rfl
      have hlen : ((rwc rs).drop off).length = rs.length - off := by simp [rwc]
      have hr := AnyE.slices_Reverse Tryz.lReverseR Rw.u Rw.hu g off cap' (rs.drop off) W (by
        have := holds_at (off := off) hs.1
        intro j hj
        have hj' : j < (rs.drop off).length := by simpa using hj
        have h2 := this j (by simpa [rwc] using hj)
        refine ⟨?_, h2.2⟩
        rw [h2.1]
        simp at hj
        simp [rwc, getElem!_pos, hj]) (by simp; omega)
      rw [List.length_drop] at hr
      refine hr.mono ?_
      rintro e w' ⟨rfl, n, rfl⟩
      have hput : ∀ ys : Array Rw, putRow Rw.u (Sort.ahead W n) g off ys = putRow id (Sort.ahead W n) g off (ys.map Rw.u) := fun ys => put_map _ _ _ _ _
      have hgrow := grownBy_put_at W g n off ((rs.drop off).reverse.toArray.map Rw.u)
      rw [← hput] at hgrow
      have hmem : ∀ r, r ∈ rs.take off ++ (rs.drop off).reverse → r ∈ rs := fun r hr => by
        rcases List.mem_append.1 hr with h | h
        · exact List.mem_of_mem_take h
        · exact List.mem_of_mem_drop (List.mem_reverse.1 h)
      refine ⟨rfl, ⟨?_, fun r hr => ?_⟩, fun w0 h hB => h.grown hgrow fun k hk => by cases hk; omega⟩
      · have := own_put_at (q := n) (off := off) (ys := rwc (rs.drop off).reverse) hs.1 (by simp [rwc]; omega)
        rw [hput, show (rs.drop off).reverse.toArray.map Rw.u = (rwc (rs.drop off).reverse).toArray by simp [rwc]]
        rw [show (rs.take off ++ (rs.drop off).reverse).length = rs.length by simp; omega]
        rw [show rwc (rs.take off ++ (rs.drop off).reverse) = (rwc rs).take off ++ rwc (rs.drop off).reverse by simp [rwc]]
        exact this
      · exact World.ownsRow.kept (hs.2 r (hmem r hr)) hgrow (own_ne (hs.2 r (hmem r hr)) hs.1 (by decide))

end Go.Proofs.YtkamjjjimbbdmaaGreatDoor

namespace Go.Proofs.YtkamjjjimbbdmaaGreatDoor
open Go.RowKit Go.Lib Go.Shelf Go.Sort

theorem fitsI_small {z : Int} (h1 : -1000000 ≤ z) (h2 : z ≤ 1000000) : fitsI z = true := by
  unfold fitsI; exact decide_eq_true (by omega)

/-- The intervals over one number, from the greatest denominator down. -/
def downs (num den : Nat) (L : List (Nat × List Int)) (n : Nat) (x : List Int) : Nat → List (List Int)
  | 0 => []
  | k + 1 => match L[k]? with
    | none => []
    | some e => if e.1 * num < n * den then [] else if shares x e.2 x.length then downs num den L n x k else diff x e.2 :: downs num den L n x k
def lst (num den : Nat) (L : List (Nat × List Int)) : Nat → List (List Int)
  | 0 => []
  | i + 1 => match L[i]? with
    | none => lst num den L i
    | some e => lst num den L i ++ (downs num den L e.1 e.2 i).reverse

theorem perm_unique : ∀ {l m : List (Nat × List Int)}, l.Perm m → l.Pairwise (fun a b => a.1 ≤ b.1) → m.Pairwise (fun a b => a.1 < b.1) → l = m
  | l, [], h, _, _ => h.eq_nil
  | [], y :: m, h, _, _ => by have := h.length_eq; simp at this
  | x :: l, y :: m, h, h1, h2 => by
    have hy : y ∈ x :: l := h.mem_iff.2 (List.mem_cons_self ..)
    have hx : x ∈ y :: m := h.mem_iff.1 (List.mem_cons_self ..)
    rw [List.pairwise_cons] at h1 h2
    have e : x = y := by
      rcases List.mem_cons.1 hx with e | hx'
      · exact e
      · rcases List.mem_cons.1 hy with e | hy'
        · exact e.symm
        · have := h1.1 y hy'
          have := h2.1 x hx'
          omega
    subst e
    rw [perm_unique (List.Perm.cons_inv h) h1.2 h2.2]

theorem own_cap {w : World} {B : Nat} {a : Option Addr} {E s k c n : Nat} {xs : List Value} (h : w.ownsRow B E s (.slice a k c) n xs) : n ≤ c ∧ k = n := by
  rcases h.2 with ⟨e0, h0⟩ | ⟨g, cap, cur, e0, _, _, h1, _⟩
  · injection e0 with _ e2 e3; omega
  · injection e0 with _ e2 e3; omega

theorem revApp_c {W : World} {B : Nat} {a : Option Addr} {cap : Nat} {rs rs2 : List Rw} (hs : RwL W B (.slice a (rs ++ rs2).length cap) (rs ++ rs2)) (hl : (rs ++ rs2).length ≤ 1000000) (a' : Option Addr) (cap' : Nat) (ha : 0 < rs2.length → ∀ g, a = some ⟨g, 0, none⟩ → a' = some ⟨g, rs.length, none⟩) :
    Calls Tryz.prog 44 #[.slice a' rs2.length cap'] W fun e w' => e = .returned (.tuple #[]) ∧ RwL w' B (.slice a (rs ++ rs2).length cap) (rs ++ rs2.reverse) ∧ ∀ w0 : World, Ext w0 W → w0.heap.size = B → Ext w0 w' := by
  have h := revFrom_c hs rs.length (by simp) hl a' cap' (fun h g hg => ha (by simpa using h) g hg)
  rw [show (rs ++ rs2).length - rs.length = rs2.length by simp] at h
  rw [List.take_left, List.drop_left] at h
  exact h

def OutR (num den : Nat) (L : List (Nat × List Int)) (w0 : World) (v i : Value) (wr : World) : Prop :=
  ∃ (k : Nat) (rs : List Rw), i = .int .i64 k ∧ k ≤ L.length ∧ RwL wr w0.heap.size v rs ∧ rs.map Rw.x = lst num den L k ∧ Ext w0 wr
def InR (num den : Nat) (L : List (Nat × List Int)) (n i : Nat) (x : List Int) (rs0 : List Rw) (w0 : World) (b : Nat) (o : Obj) (v j : Value) (wr : World) : Prop :=
  ∃ (k : Nat) (rs : List Rw), j = .int .i64 ((k : Int) - 1) ∧ k ≤ i ∧ RwL wr w0.heap.size v (rs0 ++ rs) ∧ rs.map Rw.x ++ downs num den L n x k = downs num den L n x i ∧ Ext w0 wr ∧ wr.heap[b]? = some o
theorem box_cells {w : World} {b : Nat} {x y : Value} {t : TypeId} (h : w.heap[b]? = some (.cells #[x, y] t (0, 0))) : w.cell? ⟨b, 0, none⟩ = some x ∧ w.cell? ⟨b, 1, none⟩ = some y := by
  refine ⟨?_, ?_⟩ <;> (unfold World.cell?; rw [h]; rfl)
theorem held4 {V w w' : World} {a1 a2 a3 a4 : Addr} {u1 u2 u3 u4 : Value} (h : Ext V w ∧ w.cell? a1 = some u1 ∧ w.cell? a2 = some u2 ∧ w.cell? a3 = some u3 ∧ w.cell? a4 = some u4) (hx : Ext w w') :
    Ext V w' ∧ w'.cell? a1 = some u1 ∧ w'.cell? a2 = some u2 ∧ w'.cell? a3 = some u3 ∧ w'.cell? a4 = some u4 := ⟨h.1.trans hx, hx.cell h.2.1, hx.cell h.2.2.1, hx.cell h.2.2.2.1, hx.cell h.2.2.2.2⟩
theorem lst_len (num den : Nat) (L : List (Nat × List Int)) {i n : Nat} {x : List Int} (h : L[i]? = some (n, x)) : (lst num den L i).length + (downs num den L n x i).length ≤ (lst num den L L.length).length := by
  have hi := (List.getElem?_eq_some_iff.1 h).1
  have step : ∀ j, (lst num den L (i + 1)).length ≤ (lst num den L (i + 1 + j)).length := by
    intro j
    induction j with
    | zero => exact Nat.le_refl _
    | succ j ih =>
      refine Nat.le_trans ih ?_
      show _ ≤ (lst num den L (i + 1 + j + 1)).length
      rw [lst]
      split
      · exact Nat.le_refl _
      · rw [List.length_append]; omega
  have h1 := step (L.length - (i + 1))
  rw [Nat.add_sub_cancel' (by omega), lst, h] at h1
  simpa using h1
theorem rowChk_small {x : List Int} (hl : x.length ≤ 64) (h : ∀ j, -10000000 ≤ nthI x j ∧ nthI x j ≤ 10000000) : rowChk x = 0 := by
  unfold rowChk
  rw [if_neg]
  rintro (h1 | h1)
  · omega
  · obtain ⟨z, hz, hf⟩ := List.any_eq_true.1 h1
    obtain ⟨k, hk, rfl⟩ := List.getElem_of_mem hz
    have := h k
    unfold nthI at this
    rw [List.getD_eq_getElem?_getD, List.getElem?_eq_getElem hk] at this
    simp only [Option.getD_some] at this
    unfold fitsI at hf
    rw [decide_eq_true (by omega)] at hf
    cases hf
theorem nthI_diff (x y : List Int) (hl : x.length = y.length) (j : Nat) : nthI (diff x y) j = nthI x j - nthI y j := by
  unfold diff
  rcases Nat.lt_or_ge j x.length with h | h
  · show (List.getD _ _ _) = _
    rw [List.getD_eq_getElem?_getD, List.getElem?_map, List.getElem?_range h]
    rfl
  · have e1 : nthI x j = 0 := by unfold nthI; rw [List.getD_eq_getElem?_getD, List.getElem?_eq_none h]; rfl
    have e2 : nthI y j = 0 := by unfold nthI; rw [List.getD_eq_getElem?_getD, List.getElem?_eq_none (by omega)]; rfl
    rw [e1, e2]
    show (List.getD _ _ _) = _
    rw [List.getD_eq_getElem?_getD, List.getElem?_eq_none (by simp; omega)]
    rfl
theorem diff_length (x y : List Int) : (diff x y).length = x.length := by simp [diff]
theorem sub_small (vx vy : Value) (x y : List Int) (w : World) (hx : Sl w vx (i64s x)) (hy : Sl w vy (i64s y)) (hlen : x.length = y.length) (hl : x.length ≤ 64)
    (h1 : ∀ j, -1000000 ≤ nthI x j ∧ nthI x j ≤ 1000000) (h2 : ∀ j, -1000000 ≤ nthI y j ∧ nthI y j ≤ 1000000) :
    Calls Tryz.prog 43 #[vx, vy] w fun e w' => ∃ v, e = .returned (.tuple #[v, .int .i64 0]) ∧ OwnI w' w.heap.size v (diff x y) ∧ Ext w w' := by
  refine sub_c vx vy x y w hx hy hlen hl ?_ ?_ fun i _ => ?_
  · unfold bothErr
    rw [rowChk_small hl (fun j => by have := h1 j; omega), rowChk_small (by omega) (fun j => by have := h2 j; omega), if_neg (by omega), if_neg (by omega), if_neg (by omega)]
  · exact rowChk_small (by rw [diff_length]; exact hl) fun j => by
      rw [nthI_diff x y hlen]
      have := h1 j; have := h2 j; omega
  · have := h1 i; have := h2 i; omega
theorem info_row : (Tryz.prog.info? 30).map (fun i => (i.zero, i.size, i.bytes)) = some (some (.slice none 0 0), 1, 24) := by kernel_rfl
theorem addr_map (g n : Nat) : (some (⟨g, 0, none⟩ : Addr)).map (fun x => x.add n) = some ⟨g, n, none⟩ := by
  simp only [Option.map_some]
  unfold Addr.add
  split
  · rename_i h; rw [h]
  · rw [Nat.zero_add]
theorem lst_more {num den : Nat} {L : List (Nat × List Int)} {i n : Nat} {x : List Int} (h : L[i]? = some (n, x)) : lst num den L (i + 1) = lst num den L i ++ (downs num den L n x i).reverse := by
  rw [lst, h]
theorem out_more {num den i : Nat} {L : List (Nat × List Int)} {w0 W : World} {v : Value} {rs rs2 : List Rw} {n : Nat} {x : List Int} (hL : L[i]? = some (n, x)) (hr : RwL W w0.heap.size v (rs ++ rs2.reverse)) (h1 : rs.map Rw.x = lst num den L i) (h2 : rs2.map Rw.x = downs num den L n x i) (hE : Ext w0 W) :
    OutR num den L w0 v (.int .i64 ((i : Int) + 1)) W := by
  refine ⟨i + 1, rs ++ rs2.reverse, by simp, ?_, hr, ?_, hE⟩
  · have := (List.getElem?_eq_some_iff.1 hL).1; omega
  · rw [lst_more hL, List.map_append, List.map_reverse, h1, h2]

theorem in_more {num den n i k : Nat} {L : List (Nat × List Int)} {x d : List Int} {rs0 rs : List Rw} {w0 W5 W7 : World} {b : Nat} {x0 y0 v v7 u : Value} {tmp : Obj} (hk : k ≤ i) (hE : Ext w0 W5) (hr : RwL W5 w0.heap.size v (rs0 ++ rs)) (hu : OwnI W5 w0.heap.size u d) (hone : u.oneCell' = true)
    (hown : W7.ownsRow w0.heap.size 30 1 v7 (rs0.length + rs.length + 1) (rwc (rs0 ++ rs) ++ [u])) (hgrow : (W5.alloc tmp).grownBy W7 v.ownBlock) (hb : W5.heap[b]? = some (.cells #[x0, y0] 83 (0, 0)))
    (hd : rs.map Rw.x ++ d :: downs num den L n x k = downs num den L n x i) : InR num den L n i x rs0 w0 b (.cells #[x0, y0] 83 (0, 0)) v7 (.int .i64 ((k : Int) - 1)) W7 := by
  have keep : ∀ u' x', OwnI W5 w0.heap.size u' x' → OwnI W7 w0.heap.size u' x' := fun u' x' ho =>
    World.ownsRow.kept (((Ext.refl W5).alloc tmp).ownI ho) hgrow (own_ne ho hr.1 (by decide))
  have hE7 : Ext w0 W7 := by
    refine (hE.alloc tmp).grown hgrow fun k hk => ?_
    rcases hr.1.2 with ⟨rfl, _⟩ | ⟨g, cap, cur, rfl, hb, _⟩
    · simp [Value.ownBlock] at hk
    · simp [Value.ownBlock] at hk; omega
  have hb7 : W7.heap[b]? = some (.cells #[x0, y0] 83 (0, 0)) := by
    have h1 := ((Ext.refl W5).alloc tmp).heap hb
    rw [hgrow.block b (Array.getElem?_eq_some_iff.1 h1).1 ?_]
    · exact h1
    · intro e
      rcases hr.1.2 with ⟨rfl, _⟩ | ⟨g, cap, cur, rfl, _, hg, _⟩
      · simp [Value.ownBlock] at e
      · simp [Value.ownBlock] at e
        subst e
        rw [hb] at hg
        simp at hg
  refine ⟨k, rs ++ [⟨d, u, hone⟩], rfl, hk, ⟨?_, ?_⟩, by simpa using hd, hE7, hb7⟩
  · rw [← List.append_assoc, List.length_append, List.length_append]
    show W7.ownsRow _ _ _ _ _ (rwc ((rs0 ++ rs) ++ [_]))
    rw [show rwc ((rs0 ++ rs) ++ [⟨d, u, hone⟩]) = rwc (rs0 ++ rs) ++ [u] by simp [rwc]]
    exact hown
  · intro r hmem
    rw [← List.append_assoc] at hmem
    rcases List.mem_append.1 hmem with h | h
    · exact keep _ _ (hr.2 r h)
    · simp only [List.mem_singleton] at h
      subst h
      exact keep _ _ hu

set_option maxRecDepth 100000 in
set_option maxHeartbeats 2000000 in
theorem list_w (vp vx : Value) (p : List Nat) (lim f : Nat) (x : List Int) (F : List (Nat × List Int)) (w : World) (he : Env w) (hp : Sl w vp (i64s (ints p))) (hx : Sl w vx (i64s x)) (hask : askErr (ints p) lim x = 0)
    (hq : ∀ i, i < p.length → 2 ≤ nth p i ∧ nth p i ≤ 100) (hlim : lim ≤ 5000)
    (hF : growAll lim f p 0 [(1, List.replicate p.length 0)] = some F) (hFl : F.length ≤ 1000000)
    (L : List (Nat × List Int)) (hLp : L.Perm F) (hLs : L.Pairwise (fun a b => a.1 < b.1)) (hLl : (lst (numP (ints p) x) (denP (ints p) x) L L.length).length ≤ 10000) :
    Calls Tryz.prog 14 #[.agg #[vp, .int .i64 lim, vx]] w fun e w' => ∃ v rs, e = .returned (.tuple #[v, .int .i64 0]) ∧ RwL w' w.heap.size v rs ∧ rs.map Rw.x = lst (numP (ints p) x) (denP (ints p) x) L L.length ∧ Ext w w' := by
  obtain ⟨j0, hj, hy0, hy1, hy2⟩ := info_parts info_row
  have h1 : oneErr (ints p) x = 0 := by
    unfold askErr at hask
    by_cases h : oneErr (ints p) x = 0
    · exact h
    · rw [if_pos h] at hask; exact hask
  have hnice := nice_of (oneErr_zero h1).1 (oneErr_zero h1).2
  have hlp : p.length ≤ 6 := by have := (primesErr_zero (oneErr_zero h1).1).2.1; rwa [ints_length] at this
  have hlx : x.length ≤ 6 := by have := (rowErr_zero (oneErr_zero h1).2).1; rw [ints_length] at this; omega
  have hck := fun W (hE : Ext w W) => ask_c vp vx lim (ints p) x W (he.ext hE) (hE.sl hp) (hE.sl hx) (by rw [ints_length]; omega) (by omega)
  rw [hask] at hck
  have hsd := fun W (hE : Ext w W) => csides_c vp vx (ints p) x W (he.ext hE) (hE.sl hp) (hE.sl hx) hnice
  have hnm := fun W (hE : Ext w W) => nums_w vp p lim f F W (hE.sl hp) (by omega) hq hlim hF hFl
  have hnd := numP_digits hnice
  have hdd := denP_digits hnice
  have HLs := Lib.hid hLs; have HLp := Lib.hid hLp; have HLl := Lib.hid hLl
  clear hLs hLp hLl
  have Hck := Lib.hid hck; have Hsd := Lib.hid hsd; have Hnm := Lib.hid hnm; have He := Lib.hid he
  clear hck hsd hnm he h1 hask hq hF hnice
  obtain ⟨aa, ca, rfl, _, _, _⟩ := hp.parts
  obtain ⟨ab, cb, rfl, _, _, _⟩ := hx.parts
  clear hp hx
  rw [i64s_length, ints_length] at *
  rw [i64s_length] at *
  have hbox := three_new w (.slice aa p.length ca) (.int .i64 lim) (.slice ab x.length cb) 32
  have hE0 : Ext w (w.alloc (.cells #[.slice aa p.length ca, .int .i64 lim, .slice ab x.length cb] 32)) := (Ext.refl w).alloc _
  obtain ⟨hb0, hb1, hb2⟩ := hbox
  generalize hw0 : w.alloc (.cells #[.slice aa p.length ca, .int .i64 lim, .slice ab x.length cb] 32) = W0 at *
  generalize numP (ints p) x = num at *
  generalize denP (ints p) x = den at *
  go_enter Tryz.func14, Tryz.ntmps14
  go_wp2_with fail
  refine (Hck.out W0 hE0).mono ?_
  rintro e W1 ⟨rfl, hx1⟩
  have hE1 := hE0.trans hx1
  have hb01 := hx1.cell hb0
  have hb11 := hx1.cell hb1
  have hb21 := hx1.cell hb2
  go_wp2_with fail
  refine (Hsd.out W1 hE1).mono ?_
  rintro e W2 ⟨rfl, hx2⟩
  have hE2 := hE1.trans hx2
  have hb02 := hx2.cell hb01
  have hb12 := hx2.cell hb11
  go_wp2_with fail
  refine (Hnm.out W2 hE2).mono ?_
  rintro e W3 ⟨v3, rfl, es, hsm, hfine, hperm, hpw, hx3⟩
  have hview := perm_unique (hperm.trans HLp.out.symm) (by rw [List.pairwise_map]; exact hpw) HLs.out
  have hlen : L.length = es.length := by rw [← hview, List.length_map]
  have hsm : SmL W3 w.heap.size v3 es := ⟨own_mono hsm.1 hE2.size, fun e he => own_mono (hsm.2 e he) hE2.size⟩
  obtain ⟨a3, c3, rfl⟩ := own_shape hsm.1
  have hE3 := hE2.trans hx3
  have heslen : es.length ≤ 1000000 := by have := hperm.length_eq; rw [List.length_map] at this; omega
  have Hsm := Lib.hid hsm; have Hfine := Lib.hid hfine; have Hview := Lib.hid hview; have Hlen := Lib.hid hlen; have HE3 := Lib.hid hE3
  clear hsm hfine hview hlen hE3 hx1 hx2 hx3 hE0 hE1 hE2 hperm hpw
  go_wp2_with fail
  go_loopw [8, 36] (fun v i wr => OutR num den L W3 v i wr) (fun _ i _ => L.length - (intOf i).toNat)
  case atStart => exact ⟨0, [], rfl, Nat.zero_le _, RwL.nil _ _, rfl, Ext.refl _⟩
  case round =>
    obtain ⟨i, rs, rfl, hi, hrs, hlst, hext3⟩ := hrel
    rw [Hlen.out] at hi
    obtain ⟨av, cv, rfl⟩ := own_shape hrs.1
    have Hrs := Lib.hid hrs; have Hlst := Lib.hid hlst; have hext := HE3.out.trans hext3; have Hext := Lib.hid hext; have Hext3 := Lib.hid hext3
    clear hrs hlst hext hext3
    by_cases hlt : i < es.length
    · obtain ⟨e, he⟩ : ∃ e, es[i]? = some e := ⟨_, List.getElem?_eq_getElem hlt⟩
      obtain ⟨g, cap, e0, hsl⟩ := sm_slice Hsm.out.1 (by omega)
      injection e0 with e1 _ e3
      subst e1; subst e3
      have hmem : e ∈ es := List.mem_of_getElem? he
      obtain ⟨hs1, hs2⟩ := smc_at es i e he
      have hux := Hsm.out.2 e hmem
      obtain ⟨hex, hn1, hxs⟩ := Hfine.out e hmem
      obtain ⟨n, ex, eu, hn, heu⟩ := e
      dsimp only at hux hex hn1 hxs hs1 hs2
      obtain ⟨au, cu, rfl⟩ := own_shape hux
      have hc1 := Hext3.out.cell (hsl _ _ hs1)
      have hc2 := Hext3.out.cell (hsl _ _ hs2)
      have hLi : L[i]? = some (n, ex) := by rw [← Hview.out, List.getElem?_map, he]; rfl
      have HLi := Lib.hid hLi; clear hLi
      have Hsl := Lib.hid hsl; have Hux := Lib.hid hux; have Hxs := Lib.hid hxs; have Hhe := Lib.hid he; clear hsl hs1 hs2 hux hxs he
      have hE4 : Ext wr (wr.alloc (.cells #[.int .i64 n, .slice au p.length cu] 83)) := (Ext.refl wr).alloc _
      have hbx1 := two_new1 wr (.int .i64 n) (.slice au p.length cu) 83
      have hbx0 := two_new0 wr (.int .i64 n) (.slice au p.length cu) 83
      have hbox4 := World.alloc_heap_new wr (.cells #[.int .i64 n, .slice au p.length cu] 83)
      generalize hbb : wr.heap.size = bb at *
      go_wp2_with fail
      generalize hw4 : wr.alloc (.cells #[.int .i64 n, .slice au p.length cu] 83) = W4 at *
      refine (wholeOf_c n (by omega) (by omega) W4 (He.out.ext (Hext.out.trans hE4))).mono ?_
      rintro e9 W5 ⟨rfl, hx5⟩
      have hfn : Fit (n : Int) := by show nDigits n ≤ 400000; have := nDigits_lt (n := n) (k := 7) (by omega) (by omega); omega
      have hfd : Fit (den : Int) := by show nDigits den ≤ 400000; omega
      have hfu : Fit ((n : Int) * (den : Int)) := by
        rw [← Int.natCast_mul]; show nDigits (n * den) ≤ 400000
        have h1 := nDigits_lt (n := n) (k := 7) (by omega) (by omega)
        have h2 := nDigits_mul n den
        omega
      have Hfu := Lib.hid hfu
      go_wp2_with fail
      refine (mul_c n den W5 (He.out.ext ((Hext.out.trans hE4).trans hx5)) hfn hfd).mono ?_
      rintro e9 W6 ⟨rfl, hx6⟩
      have hE46 : Ext W4 W6 := hx5.trans hx6
      have hE6 : Ext wr W6 := hE4.trans hE46
      have HE6 := Lib.hid hE6; have hbox6 := hE46.heap hbox4; have Hbox6 := Lib.hid hbox6; have HE4 := Lib.hid hE4
      clear hE4 hbx1 hbx0 hE46 hE6 hbox4 hbox6 hfn hfd hfu hx5 hx6 hc1 hc2
      generalize hup : (n : Int) * (den : Int) = up at *
      have Hup := Lib.hid hup; clear hup
      go_wp2_with fail
      go_loopw [8, 13] (fun v j wr2 => InR num den L n i ex rs W3 bb (.cells #[.int .i64 n, .slice au p.length cu] 83) v j wr2) (fun _ j _ => (intOf j + 1).toNat)
      case atStart =>
        exact ⟨i, [], rfl, Nat.le_refl _, by rw [List.append_nil]; exact HE6.out.rwL Hrs.out, rfl, Hext3.out.trans HE6.out, Hbox6.out⟩
      case round =>
        obtain ⟨k, rs2, rfl, hk, hrs2, hd2, hext2, hbox2⟩ := hrel
        obtain ⟨av2, cv2, rfl⟩ := own_shape hrs2.1
        have Hrs2 := Lib.hid hrs2; have Hd2 := Lib.hid hd2; have Hext2 := Lib.hid hext2; have Hbox2 := Lib.hid hbox2
        clear hrs2 hd2 hext2 hbox2
        have hlen12 : rs.length + rs2.length ≤ 1000000 := by
          have h1 := congrArg List.length Hd2.out
          have h2 := congrArg List.length Hlst.out
          have h3 := lst_len num den L HLi.out
          have h4 := HLl.out
          simp at h1 h2
          omega
        cases k with
        | zero =>
          have hdone : rs2.map Rw.x = downs num den L n ex i := by have := Hd2.out; rwa [downs, List.append_nil] at this
          have Hdone := Lib.hid hdone; clear hdone
          go_wp2_with fail
          all_goals
            first
            | refine (revApp_c Hrs2.out (by rw [List.length_append]; omega) _ _ (fun h g hg => by subst hg; exact addr_map _ _)).mono ?_
            | refine (revApp_c Hrs2.out (by rw [List.length_append]; omega) _ _ (fun h g hg => by have hcap := own_cap Hrs2.out.1; rw [List.length_append] at hcap; exfalso; omega)).mono ?_
            rintro e9 W9 ⟨rfl, hr9, hx9⟩
            rw [List.length_append] at hr9
            have Hr9 := Lib.hid hr9; have Hx9 := Lib.hid (hx9 W3 Hext2.out rfl); clear hr9 hx9
            go_wp2
            go_roundw
            case rel =>
              first
              | exact out_more HLi.out Hr9.out Hlst.out Hdone.out Hx9.out
              | (have e : cv2 = rs.length := by omega
                 have h := Hr9.out
                 rw [e] at h
                 exact out_more HLi.out h Hlst.out Hdone.out Hx9.out)
            case measure => have := Hlen.out; simp [intOf]; omega
        | succ k =>
          obtain ⟨e2, he2⟩ : ∃ e, es[k]? = some e := ⟨_, List.getElem?_eq_getElem (by omega)⟩
          have hmem2 : e2 ∈ es := List.mem_of_getElem? he2
          obtain ⟨ht1, ht2⟩ := smc_at es k e2 he2
          have huy := Hsm.out.2 e2 hmem2
          obtain ⟨hey, hm1, hys⟩ := Hfine.out e2 hmem2
          have hL2 : L[k]? = some (e2.n, e2.x) := by rw [← Hview.out, List.getElem?_map, he2]; rfl
          obtain ⟨m, ey, eu2, hm, heu2⟩ := e2
          dsimp only at huy hey hm1 hys ht1 ht2 hL2
          obtain ⟨ay, cy, rfl⟩ := own_shape huy
          have hd1 := Hext2.out.cell (Hsl.out _ _ ht1)
          have hd2 := Hext2.out.cell (Hsl.out _ _ ht2)
          have Huy := Lib.hid huy; have Hys := Lib.hid hys; have HL2 := Lib.hid hL2
          clear huy hys hL2 he2 ht1 ht2 hmem2 heu2
          have hdn : downs num den L n ex (k + 1) = if m * num < n * den then [] else if shares ex ey ex.length then downs num den L n ex k else diff ex ey :: downs num den L n ex k := by
            rw [downs, HL2.out]
          rw [hdn] at Hd2
          clear hdn
          have hfm : Fit (m : Int) := by show nDigits m ≤ 400000; have := nDigits_lt (n := m) (k := 7) (by omega) (by omega); omega
          have hfv : Fit ((m : Int) * (num : Int)) := by
            rw [← Int.natCast_mul]; show nDigits (m * num) ≤ 400000
            have h1 := nDigits_lt (n := m) (k := 7) (by omega) (by omega)
            have h2 := nDigits_mul m num
            omega
          have hfn : Fit (num : Int) := by show nDigits num ≤ 400000; omega
          have hlen2 : (rs ++ rs2).length = rs.length + rs2.length := List.length_append
          have Hfm := Lib.hid hfm; have Hfv := Lib.hid hfv; have Hfn := Lib.hid hfn; clear hfm hfv hfn
          go_wp2_with fail
          refine (wholeOf_c m (by omega) (by omega) wr (He.out.ext (HE3.out.trans Hext2.out))).mono ?_
          rintro e9 V1 ⟨rfl, hv1⟩
          have Hv1 := Lib.hid hv1; clear hv1
          go_wp2_with fail
          refine (mul_c m num V1 (He.out.ext ((HE3.out.trans Hext2.out).trans Hv1.out)) Hfm.out Hfn.out).mono ?_
          rintro e9 V2 ⟨rfl, hv2⟩
          have Hv2 := Lib.hid (Hv1.out.trans hv2); clear hv2
          go_wp2_with fail
          refine (cmp_c up ((m : Int) * (num : Int)) V2 Hfu.out Hfv.out).mono ?_
          rintro e9 V3 ⟨rfl, hv3⟩
          have Hv3 := Lib.hid (Hv2.out.trans hv3); clear hv3
          by_cases hbrk : m * num < n * den
          · rw [if_pos hbrk, List.append_nil] at Hd2
            have Hdone := Hd2
            have hc : cmpI up ((m : Int) * (num : Int)) = 1 := cmpI_gt (by rw [← Hup.out, ← Int.natCast_mul, ← Int.natCast_mul]; omega)
            rw [hc]
            clear hbrk hc
            have hr2 := Hv3.out.rwL Hrs2.out
            have he2 := Hext2.out.trans Hv3.out
            clear Hrs2 Hext2
            have Hrs2 := Lib.hid hr2; have Hext2 := Lib.hid he2; clear hr2 he2
            go_wp2_with fail
            all_goals
              first
              | refine (revApp_c Hrs2.out (by rw [List.length_append]; omega) _ _ (fun h g hg => by subst hg; exact addr_map _ _)).mono ?_
              | refine (revApp_c Hrs2.out (by rw [List.length_append]; omega) _ _ (fun h g hg => by have hcap := own_cap Hrs2.out.1; rw [List.length_append] at hcap; exfalso; omega)).mono ?_
              rintro e9 W9 ⟨rfl, hr9, hx9⟩
              rw [List.length_append] at hr9
              have Hr9 := Lib.hid hr9; have Hx9 := Lib.hid (hx9 W3 Hext2.out rfl); clear hr9 hx9
              go_wp2
              go_roundw
              case rel =>
                first
                | exact out_more HLi.out Hr9.out Hlst.out Hdone.out Hx9.out
                | (have e : cv2 = rs.length := by omega
                   have h := Hr9.out
                   rw [e] at h
                   exact out_more HLi.out h Hlst.out Hdone.out Hx9.out)
              case measure => have := Hlen.out; simp [intOf]; omega
          · rw [if_neg hbrk] at Hd2
            have hc : ¬ 0 < cmpI up ((m : Int) * (num : Int)) := by
              rw [← Hup.out, ← Int.natCast_mul, ← Int.natCast_mul]
              unfold cmpI
              split
              · omega
              · split <;> omega
            generalize cmpI up ((m : Int) * (num : Int)) = cc at *
            clear hbrk
            have hq1 := (box_cells (Hv3.out.heap Hbox2.out)).1
            have hq2 := (box_cells (Hv3.out.heap Hbox2.out)).2
            have hq3 := Hv3.out.cell hd1
            have hq4 := Hv3.out.cell hd2
            rw [hey] at hq4
            have hsx : Sl V3 (.slice au p.length cu) (i64s ex) := by
              have h := Hv3.out.sl (Hext2.out.sl Hux.out.sl)
              rwa [hex] at h
            have hsy : Sl V3 (.slice ay p.length cy) (i64s ey) := by
              have h := Hv3.out.sl (Hext2.out.sl Huy.out.sl)
              rwa [hey] at h
            have Hsx := Lib.hid hsx; have Hsy := Lib.hid hsy; clear hsx hsy
            have hap := fun W (h : Ext V3 W) => apart_c (.slice au p.length cu) (.slice ay p.length cy) n m ex ey W (h.sl Hsx.out) (h.sl Hsy.out) (by omega) (by omega)
            generalize hsh : shares ex ey ex.length = sh at *
            clear hsh
            have Hap := Lib.hid hap; clear hap hd1 hd2
            have hki0 : (0 : Int) ≤ (k : Int) := by omega
            have hki1 : (k : Int) < (es.length : Int) := by omega
            go_wp2_with fail
            go_region_held3 (fun w' => Ext V3 w' ∧ w'.cell? ⟨bb, 0, none⟩ = some (.int .i64 n) ∧ w'.cell? ⟨bb, 1, none⟩ = some (.slice au p.length cu) ∧ w'.cell? ⟨g, k * 2, none⟩ = some (.int .i64 m) ∧ w'.cell? ⟨g, k * 2 + 1, none⟩ = some (.slice ay p.length cy))
              (first | exact held4 ⟨Ext.refl V3, hq1, hq2, hq3, hq4⟩ ((Ext.refl V3).drew) | exact held4 (by assumption) hxa)
              (first | (go_at_call 42; refine (Hap.out _ (And.left (by assumption))).mono ?_; rintro e9 V4 ⟨rfl, hxa⟩))
            have hE34 : Ext V3 V4 := (Ext.refl V3).drew.trans hxa
            have hbx4 := hE34.heap (Hv3.out.heap Hbox2.out)
            have hr4 := hE34.rwL (Hv3.out.rwL Hrs2.out)
            have hex4 := (Hext2.out.trans Hv3.out).trans hE34
            obtain ⟨_, _, hp2, hp3, hp4⟩ := held4 ⟨Ext.refl V3, hq1, hq2, hq3, hq4⟩ hE34
            have HE34 := Lib.hid hE34; have Hbx4 := Lib.hid hbx4; have Hr4 := Lib.hid hr4; have Hex4 := Lib.hid hex4
            clear hxa hE34 hbx4 hr4 hex4 hq1 hq2 hq3 hq4
            cases sh with
            | true =>
              rw [if_pos rfl] at Hd2
              go_wp2_with fail
              go_roundw
              case rel => exact ⟨k, rs2, by go_num, by omega, by rw [← hlen2]; exact Hr4.out, Hd2.out, Hex4.out, Hbx4.out⟩
              case measure => first | (simp [intOf]; done) | (simp [intOf]; omega)
            | false =>
              rw [if_neg (by simp)] at Hd2
              have hcount : rs.length + rs2.length < 10000 := by
                have h1 := congrArg List.length Hd2.out
                have h2 := congrArg List.length Hlst.out
                have h3 := lst_len num den L HLi.out
                have h4 := HLl.out
                simp at h1 h2
                omega
              have hsub := fun W (h : Ext V4 W) => sub_small (.slice au p.length cu) (.slice ay p.length cy) ex ey W (h.sl (HE34.out.sl Hsx.out)) (h.sl (HE34.out.sl Hsy.out)) (by omega) (by omega) (fun j => by have := Hxs.out j; omega) (fun j => by have := Hys.out j; omega)
              have Hsub := Lib.hid hsub; clear hsub
              go_wp2_with fail
              go_region_held3 (fun w' => Ext V4 w' ∧ w'.cell? ⟨bb, 0, none⟩ = some (.int .i64 n) ∧ w'.cell? ⟨bb, 1, none⟩ = some (.slice au p.length cu) ∧ w'.cell? ⟨g, k * 2, none⟩ = some (.int .i64 m) ∧ w'.cell? ⟨g, k * 2 + 1, none⟩ = some (.slice ay p.length cy))
                (first | exact held4 ⟨Ext.refl V4, (box_cells Hbx4.out).1, hp2, hp3, hp4⟩ ((Ext.refl V4).drew) | exact held4 (by assumption) hxa)
                (first | (go_at_call 43; refine (Hsub.out _ (And.left (by assumption))).mono ?_; rintro e9 V5 ⟨v5, rfl, hv5, hxa⟩))
              have hE45 : Ext V4 V5 := (Ext.refl V4).drew.trans hxa
              have hbx5 := hE45.heap Hbx4.out
              have hr5 := hE45.rwL Hr4.out
              have hex5 := Hex4.out.trans hE45
              have hv5 : OwnI V5 W3.heap.size v5 (diff ex ey) := own_mono hv5 (Nat.le_trans Hex4.out.size (Ext.size ((Ext.refl V4).drew)))
              obtain ⟨a5, c5, rfl⟩ := own_shape hv5
              have hown5 := hr5.1
              have hsz5 := hex5.size
              rw [hlen2] at hown5
              have hm3 : rs.length + rs2.length + 1 ≤ maxLen := by unfold maxLen; omega
              have hm4 : (rs.length + rs2.length + 1) * 24 ≤ 140737488355328 := by omega
              have Hbx5 := Lib.hid hbx5; have Hr5 := Lib.hid hr5; have Hex5 := Lib.hid hex5; have Hv5 := Lib.hid hv5
              clear hxa hE45 hbx5 hr5 hex5 hv5
              go_wp2_with (at_builtin; refine wpList_append_own _ rfl _ _ 36 rfl W3.heap.size 30 j0 (.slice none 0 0) 1 24 Tryz.underlying36 hj hy0 hy1 hy2 rfl (by decide) _ _ _ rfl (hown5.alloc _) ⟨V5.heap.size, 0, none⟩ 1 1 [.slice a5 (diff ex ey).length c5] rfl rfl (cell_one_new _ _ _) (by simp [Value.oneCell']) hm3 hm4 (by rw [World.size_alloc]; omega) ?_; intro v7 V7 hown7 hgrow7 _)
              go_roundw
              case rel => exact in_more (by omega) Hex5.out (show RwL V5 W3.heap.size (.slice av2 (rs.length + rs2.length) cv2) (rs ++ rs2) by rw [← hlen2]; exact Hr5.out) Hv5.out rfl hown7 hgrow7 Hbx5.out Hd2.out
              case measure => first | (simp [intOf]; done) | (simp [intOf]; omega)
    · obtain rfl : i = es.length := by omega
      have hfin : rs.map Rw.x = lst num den L L.length := by rw [Hlen.out]; exact Hlst.out
      have Hfin := Lib.hid hfin; clear hfin
      have hrl : RwL wr w.heap.size (.slice av rs.length cv) rs := ⟨own_mono Hrs.out.1 HE3.out.size, fun r hr => own_mono (Hrs.out.2 r hr) HE3.out.size⟩
      have Hrl := Lib.hid hrl; clear hrl
      go_wp2
      go_ret2
      exact ⟨_, rs, rfl, Hrl.out, Hfin.out, Hext.out⟩

end Go.Proofs.YtkamjjjimbbdmaaGreatDoor

namespace Go.Proofs.YtkamjjjimbbdmaaGreatDoor
open Go.RowKit Go.Lib Go.Shelf Go.Sort

theorem heldG {V w w' : World} {a1 a2 a3 a4 : Addr} {u1 u2 u3 u4 : Value} (h : Gr V w ∧ w.cell? a1 = some u1 ∧ w.cell? a2 = some u2 ∧ w.cell? a3 = some u3 ∧ w.cell? a4 = some u4) (hx : Gr w w') :
    Gr V w' ∧ w'.cell? a1 = some u1 ∧ w'.cell? a2 = some u2 ∧ w'.cell? a3 = some u3 ∧ w'.cell? a4 = some u4 := ⟨h.1.trans hx, hx.ext.cell h.2.1, hx.ext.cell h.2.2.1, hx.ext.cell h.2.2.2.1, hx.ext.cell h.2.2.2.2⟩

theorem I_nine {n : Nat} (h : n < 1000000000) : ((I (n : Int)).size : Int) ≤ 9 := by
  rw [I_nat, D_size]
  have := Dec.nDigits_le (n := n) (k := 9) (by omega) (by omega)
  omega

set_option maxRecDepth 100000 in
set_option maxHeartbeats 4000000 in
theorem bySize_c (vx vy : Value) (a b c d : Nat) (w : World) (he : Env w) (ha : a < 1000000000) (hb : b < 1000000000) (hc : c < 1000000000) (hd : d < 1000000000) :
    Calls Tryz.prog 48 #[.agg #[.string (I (a : Int)), .string (I (b : Int)), vx], .agg #[.string (I (c : Int)), .string (I (d : Int)), vy]] w fun e w' => e = .returned (.int .i64 (cmpI ((a : Int) * d) ((c : Int) * b))) ∧ Gr w w' := by
  have hg : Gr w ((w.alloc (.cells #[.string (I (a : Int)), .string (I (b : Int)), vx] 95)).alloc (.cells #[.string (I (c : Int)), .string (I (d : Int)), vy] 95)) := ((Gr.refl w).alloc _).alloc _
  have h1 := three_new w (.string (I (a : Int))) (.string (I (b : Int))) vx 95
  have h2 := three_new (w.alloc (.cells #[.string (I (a : Int)), .string (I (b : Int)), vx] 95)) (.string (I (c : Int))) (.string (I (d : Int))) vy 95
  rw [World.size_alloc] at h2
  have hx2 : Ext (w.alloc (.cells #[.string (I (a : Int)), .string (I (b : Int)), vx] 95)) ((w.alloc (.cells #[.string (I (a : Int)), .string (I (b : Int)), vx] 95)).alloc (.cells #[.string (I (c : Int)), .string (I (d : Int)), vy] 95)) := (Ext.refl _).alloc _
  have q1 := hx2.cell h1.1
  have q2 := hx2.cell h1.2.1
  have q3 := h2.1
  have q4 := h2.2.1
  have hm1 := fun W (h : Gr w W) => mul_short_g (a : Int) (d : Int) W (he.ext h.ext) (I_nine ha) (I_nine hd)
  have hm2 := fun W (h : Gr w W) => mul_short_g (c : Int) (b : Int) W (he.ext h.ext) (I_nine hc) (I_nine hb)
  have fit : ∀ m n : Nat, m < 1000000000 → n < 1000000000 → Fit ((m : Int) * (n : Int)) := fun m n h1 h2 => by
    rw [← Int.natCast_mul]; show nDigits (m * n) ≤ 400000
    have h3 := Dec.nDigits_le (n := m) (k := 9) (by omega) (by omega)
    have h4 := Dec.nDigits_le (n := n) (k := 9) (by omega) (by omega)
    have := nDigits_mul m n
    omega
  have hcm := fun W => cmp_g ((a : Int) * (d : Int)) ((c : Int) * (b : Int)) W (fit a d ha hd) (fit c b hc hb)
  clear fit he ha hb hc hd h1 h2 hx2
  generalize (a : Int) * (d : Int) = x at *
  generalize (c : Int) * (b : Int) = y at *
  generalize I (a : Int) = sa at *
  generalize I (b : Int) = sb at *
  generalize I (c : Int) = sc at *
  generalize I (d : Int) = sd at *
  generalize I x = sx at *
  generalize I y = sy at *
  have Hm1 := Lib.hid hm1; have Hm2 := Lib.hid hm2; have Hcm := Lib.hid hcm; clear hm1 hm2 hcm
  go_enter Tryz.func48, Tryz.ntmps48
  go_wp2_with fail
  generalize hV : (w.alloc (.cells #[.string sa, .string sb, vx] 95)).alloc (.cells #[.string sc, .string sd, vy] 95) = V at *
  go_region_held3 (fun w' => Gr V w' ∧ w'.cell? ⟨w.heap.size, 0, none⟩ = some (.string sa) ∧ w'.cell? ⟨w.heap.size, 1, none⟩ = some (.string sb) ∧ w'.cell? ⟨w.heap.size + 1, 0, none⟩ = some (.string sc) ∧ w'.cell? ⟨w.heap.size + 1, 1, none⟩ = some (.string sd))
    (first | exact heldG ⟨Gr.refl V, q1, q2, q3, q4⟩ ((Gr.refl V).drew) | exact heldG (by assumption) hxa)
    (first
      | (go_at_call 37; refine (Hcm.out _).mono ?_; rintro e9 V4 ⟨rfl, hxa⟩)
      | (go_at_call_of 40 (Value.string sa); refine (Hm1.out _ (hg.trans (And.left (by assumption)))).mono ?_; rintro e9 V4 ⟨rfl, hxa⟩)
      | (go_at_call_of 40 (Value.string sc); refine (Hm2.out _ (hg.trans (And.left (by assumption)))).mono ?_; rintro e9 V4 ⟨rfl, hxa⟩))
  all_goals
    have hfin := hg.trans (And.left (by assumption : Gr V V4 ∧ _))
    have Hfin := Lib.hid hfin; clear hfin
    go_wp2
    go_ret
    exact ⟨rfl, Hfin.out⟩

end Go.Proofs.YtkamjjjimbbdmaaGreatDoor

namespace Go.Proofs.YtkamjjjimbbdmaaGreatDoor
open Go.RowKit Go.Lib Go.Shelf Go.Sort

/-- An interval with its sides, and the slice that holds its row. -/
structure Sz where
  a : Nat
  b : Nat
  x : List Int
  u : Value
  ha : a < 1000000000
  hb : b < 1000000000
  h0 : 0 < b
  hu : u.oneCell' = true
instance : Inhabited Sz := ⟨⟨0, 1, [], .slice none 0 0, by omega, by omega, by omega, rfl⟩⟩
def Sz.enc (e : Sz) : List Value := [.string (I (e.a : Int)), .string (I (e.b : Int)), e.u]
def szc (es : List Sz) : List Value := es.flatMap Sz.enc
theorem szc_length (es : List Sz) : (szc es).length = es.length * 3 := by
  induction es with
  | nil => rfl
  | cons e r ih => simp only [szc, List.flatMap_cons, List.length_append, List.length_cons] at *; rw [ih]; simp [Sz.enc]; omega
theorem szc_at : ∀ (es : List Sz) (k : Nat) (e : Sz), es[k]? = some e → (szc es)[k * 3]? = some (.string (I (e.a : Int))) ∧ (szc es)[k * 3 + 1]? = some (.string (I (e.b : Int))) ∧ (szc es)[k * 3 + 2]? = some e.u
  | [], k, e, h => by simp at h
  | a :: r, 0, e, h => by simp at h; subst h; exact ⟨rfl, rfl, rfl⟩
  | a :: r, k + 1, e, h => by
    have := szc_at r k e (by simpa using h)
    rw [show (k + 1) * 3 = k * 3 + 1 + 1 + 1 by omega]
    exact this
theorem enc_oneS (x : Sz) (v : Value) (hv : v ∈ x.enc) : v.oneCell' = true := by
  rcases List.mem_cons.1 hv with rfl | hv
  · rfl
  · rcases List.mem_cons.1 hv with rfl | hv
    · rfl
    · rw [List.mem_singleton.1 hv]; exact x.hu
def cfS (x y : Sz) : Int := cmpI ((x.a : Int) * (y.b : Int)) ((y.a : Int) * (x.b : Int))
theorem ltS (x y : Sz) : ltOf cfS x y = decide (x.a * y.b < y.a * x.b) := by
  unfold ltOf cfS cmpI
  rw [← Int.natCast_mul, ← Int.natCast_mul]
  by_cases h : x.a * y.b < y.a * x.b
  · rw [if_pos (by omega), decide_eq_true h]; rfl
  · rw [if_neg (by omega), decide_eq_false h]
    split <;> rfl
theorem ratio_trans {a1 b1 a2 b2 a3 b3 : Nat} (h1 : a1 * b2 < a2 * b1) (h2 : a2 * b3 < a3 * b2) (p : 0 < b3) (q : 0 < b1) : a1 * b3 < a3 * b1 := by
  have e1 : a1 * b2 * b3 < a2 * b1 * b3 := Nat.mul_lt_mul_of_pos_right h1 p
  have e2 : a2 * b3 * b1 < a3 * b2 * b1 := Nat.mul_lt_mul_of_pos_right h2 q
  have e3 : a2 * b1 * b3 = a2 * b3 * b1 := Nat.mul_right_comm ..
  have e4 : a1 * b3 * b2 < a3 * b1 * b2 := by
    rw [Nat.mul_right_comm a1 b3 b2, Nat.mul_right_comm a3 b1 b2]; omega
  exact Nat.lt_of_mul_lt_mul_right e4
theorem ratio_ntrans {a1 b1 a2 b2 a3 b3 : Nat} (h1 : a2 * b1 ≤ a1 * b2) (h2 : a3 * b2 ≤ a2 * b3) (r : 0 < b2) : a3 * b1 ≤ a1 * b3 := by
  have e1 : a2 * b1 * b3 ≤ a1 * b2 * b3 := Nat.mul_le_mul_right _ h1
  have e2 : a3 * b2 * b1 ≤ a2 * b3 * b1 := Nat.mul_le_mul_right _ h2
  have e3 : a2 * b1 * b3 = a2 * b3 * b1 := Nat.mul_right_comm ..
  have e4 : a3 * b1 * b2 ≤ a1 * b3 * b2 := by
    rw [Nat.mul_right_comm a1 b3 b2, Nat.mul_right_comm a3 b1 b2]; omega
  exact Nat.le_of_mul_le_mul_right e4 r
theorem swoS : SWO (ltOf cfS) where
  irrefl x := by rw [ltS]; simp
  trans x y z h1 h2 := by
    rw [ltS] at *
    simp only [decide_eq_true_eq] at *
    exact ratio_trans h1 h2 z.h0 x.h0
  ntrans x y z h1 h2 := by
    rw [ltS] at *
    simp only [decide_eq_false_iff_not, Nat.not_lt] at *
    exact ratio_ntrans h1 h2 y.h0

theorem Env.block {w W : World} (h : Env w) (hb : W.heap[2]? = w.heap[2]?) : Env W := by
  have h1 : w.var? Tryz.prog "internal/strconv.uint64pow10" = _ := h
  show W.var? Tryz.prog "internal/strconv.uint64pow10" = _
  rw [← h1]
  unfold World.var?
  rw [globalAt, Option.bind_some, Option.bind_some, hb]
theorem flat_szc (d : Array Sz) : flatK Sz.enc 3 d = (szc d.toList).toArray := by
  apply ext_get!
  · simp only [List.size_toArray, szc_length, size_flatK, Array.length_toList]
  · intro t ht
    rw [size_flatK] at ht
    rw [get_flatK _ _ _ _ ht]
    have hk : t / 3 < d.size := by omega
    obtain ⟨h1, h2, h3⟩ := szc_at d.toList (t / 3) d[t / 3] (by rw [Array.getElem?_toList]; exact Array.getElem?_eq_getElem hk)
    have hg : d[t / 3]! = d[t / 3] := getElem!_pos d _ hk
    have hlen := szc_length d.toList
    have htl : t < (szc d.toList).length := by rw [hlen]; simp; omega
    rw [hg, getElem!_pos _ t (by simpa using htl)]
    rcases (by omega : t % 3 = 0 ∨ t % 3 = 1 ∨ t % 3 = 2) with h | h | h
    · rw [h]
      rw [show t / 3 * 3 = t by omega, List.getElem?_eq_getElem htl] at h1
      simpa [Sz.enc] using (Option.some.inj h1).symm
    · rw [h]
      rw [show t / 3 * 3 + 1 = t by omega, List.getElem?_eq_getElem htl] at h2
      simpa [Sz.enc] using (Option.some.inj h2).symm
    · rw [h]
      rw [show t / 3 * 3 + 2 = t by omega, List.getElem?_eq_getElem htl] at h3
      simpa [Sz.enc] using (Option.some.inj h3).symm
theorem layS (blk off size : Nat) (w : World) (he : Env w) (hne : blk ≠ 2) : CmpLays Tryz.prog 48 #[] Sz.enc 3 cfS blk off size w := by
  intro m os dk _ x y
  have hE : Env (sortWorldK Sz.enc 3 w blk off m dk os) := by
    refine he.block ?_
    have hlt := he.lt
    show (grow (putRow id (Sort.ahead w m) blk off (flatK Sz.enc 3 dk)) os).heap[_]? = _
    simp only [grow, putRow, mapBlock, Sort.ahead]
    rw [Array.getElem?_append_left (by simpa using hlt), Array.getElem?_modify, if_neg hne]
  exact bySize_c x.u y.u x.a x.b y.a y.b (sortWorldK Sz.enc 3 w blk off m dk os) hE x.ha x.hb y.ha y.hb

def SzL (b : Nat) (w : World) (B : Nat) (v : Value) (es : List Sz) : Prop :=
  w.ownsRow B 95 3 v es.length (szc es) ∧ ∀ e ∈ es, OwnI w b e.u e.x
theorem own_slice {w : World} {B s : Nat} {v : Value} {E k : Nat} {xs : List Value} (h : w.ownsRow B E s v k xs) (hk : 0 < k) : ∃ g cap, v = .slice (some ⟨g, 0, none⟩) k cap ∧ ∀ j u, xs[j]? = some u → w.cell? ⟨g, j, none⟩ = some u := by
  rcases h.2 with ⟨_, h0⟩ | ⟨g, cap, cur, rfl, _⟩
  · omega
  · refine ⟨g, cap, rfl, fun j u hj => ?_⟩
    have := h.cells (g := g) rfl j u hj
    rwa [show ((⟨g, 0, none⟩ : Addr).add j) = ⟨g, j, none⟩ by unfold Addr.add; split <;> simp_all] at this

set_option maxHeartbeats 1000000 in
theorem sortS_c {W : World} {b B : Nat} {a : Option Addr} {cap : Nat} {es : List Sz} (hs : SzL b W B (.slice a es.length cap) es) (he : Env W) (hBg : 2 < B) (hpos : 0 < es.length) (hl : es.length ≤ 1000000) :
    Calls Tryz.prog 47 #[.slice a es.length cap, .func (.func 48) #[] #[]] W fun e w' => e = .returned (.tuple #[]) ∧ ∃ es' : List Sz, SzL b w' B (.slice a es.length cap) es' ∧ es'.Perm es ∧ es'.Pairwise (fun a b => a.a * b.b ≤ b.a * a.b) ∧ ∀ w0 : World, Ext w0 W → (w0.heap.size = B → Ext w0 w') := by
  obtain ⟨g, cap', e0, hcells⟩ := own_slice hs.1 hpos
  injection e0 with e1 _ e3
  subst e1; subst e3
  have hH : HoldsK Sz.enc 3 W g 0 es.toArray := by
    show Holds id W g 0 (flatK Sz.enc 3 es.toArray)
    rw [flat_szc]
    exact holds_own hs.1
  have hg : g < W.heap.size := by
    obtain ⟨e, he⟩ : ∃ e, (szc es)[0]? = some e := ⟨_, List.getElem?_eq_getElem (by rw [szc_length]; omega)⟩
    exact World.block_lt_of_cell? _ _ (hcells 0 e he)
  have hgB : B ≤ g := by
    rcases hs.1.2 with ⟨e0, _⟩ | ⟨g', cap', cur, e0, hb, _⟩
    · cases e0
    · injection e0 with e1 _ _
      injection e1 with e1
      injection e1 with e1
      omega
  have hne : g ≠ 2 := by omega
  have eg : ∀ args w, (callFunc 48 args).run Tryz.prog w = .ok (.enter 48 args) w := enters_of Tryz.func48 (by kernel_rfl) rfl
  have hcon := AnyQ.slices_SortFunc Tryz.lSortSized 3 Tryz.isAgg95 Tryz.sizeOf95 Sz.enc (fun _ => rfl) enc_oneS cfS swoS 48 #[] g 0 cap es.toArray W eg (layS g 0 es.toArray.size W he hne) hH hg (by simp; omega)
  rw [List.size_toArray] at hcon
  refine Calls.mono hcon ?_
  rintro e w' ⟨rfl, d', n, os, hp, hso, rfl⟩
  obtain ⟨hd1, _, hd3⟩ := hp
  have hsz : d'.size = es.length := by simpa using hd1
  have hperm : d'.toList.Perm es := by
    have : (d'.extract 0 es.length).toList.Perm (es.toArray.extract 0 es.length).toList := hd3
    simpa [hsz, List.take_of_length_le] using this
  have hgrow := grownBy_put W g n (flatK Sz.enc 3 d') os
  refine ⟨rfl, d'.toList, ⟨?_, ?_⟩, hperm, ?_, ?_⟩
  · have h1 := own_put (q := n) (ys := szc d'.toList) hs.1 (by rw [szc_length]; simp [hsz])
    have h2 : (grow (putRow id (Sort.ahead W n) g 0 (szc d'.toList).toArray) os).ownsRow B 95 3 (.slice (some ⟨g, 0, none⟩) es.length cap) es.length (szc d'.toList) := ((Ext.refl _).grow os).own h1
    show (grow (putRow id (Sort.ahead W n) g 0 (flatK Sz.enc 3 d')) os).ownsRow _ _ _ _ _ _
    rw [flat_szc]
    rw [show d'.toList.length = es.length by simpa using hsz]
    exact h2
  · intro e he
    have ho := hs.2 e (hperm.mem_iff.1 he)
    exact World.ownsRow.kept ho hgrow (own_ne ho hs.1 (by decide))
  · rw [List.pairwise_iff_getElem]
    intro i j hi hj hij
    have := hso i j (Nat.zero_le _) hij (by simpa [hsz] using hj)
    rw [ltS] at this
    have hi' : i < d'.size := by simpa using hi
    have hj' : j < d'.size := by simpa using hj
    rw [getElem!_pos d' j hj', getElem!_pos d' i hi'] at this
    simp at this
    simpa using this
  · intro w0 h0 hB0
    exact h0.grown hgrow fun k hk => by cases hk; omega

end Go.Proofs.YtkamjjjimbbdmaaGreatDoor

namespace Go.Proofs.YtkamjjjimbbdmaaGreatDoor
open Go.RowKit Go.Lib Go.Shelf Go.Sort

theorem info_sized : (Tryz.prog.info? 95).map (fun i => (i.zero, i.size, i.bytes)) = some (some (.agg #[.string ⟨#[]⟩, .string ⟨#[]⟩, .slice none 0 0]), 3, 56) := by kernel_rfl

theorem cell_three_new (w : World) (a b c : Value) (t : TypeId) : ∀ j u, [a, b, c][j]? = some u → (w.alloc (.cells #[a, b, c] t)).cell? ((⟨w.heap.size, 0, none⟩ : Addr).add j) = some u := by
  obtain ⟨h0, h1, h2⟩ := three_new w a b c t
  intro j u hj
  have e : ((⟨w.heap.size, 0, none⟩ : Addr).add j) = ⟨w.heap.size, j, none⟩ := by unfold Addr.add; split <;> simp_all
  rw [e]
  match j, hj with
  | 0, hj => rw [h0]; simpa using hj
  | 1, hj => rw [h1]; simpa using hj
  | 2, hj => rw [h2]; simpa using hj
  | n + 3, hj => simp at hj
def SzOut (p : List Int) (rs : List Rw) (b : Nat) (w0 : World) (v i : Value) (wr : World) : Prop :=
  ∃ (k : Nat) (es : List Sz), i = .int .i64 k ∧ k ≤ rs.length ∧ SzL b wr w0.heap.size v es ∧ es.map (fun e => (e.a, e.b, e.x)) = (rs.take k).map (fun r => (numP p r.x, denP p r.x, r.x)) ∧ Ext w0 wr

theorem sortAll_c {W : World} {b B : Nat} {a : Option Addr} {cap : Nat} {es : List Sz} (hs : SzL b W B (.slice a es.length cap) es) (he : Env W) (hBg : 2 < B) (hl : es.length ≤ 1000000) :
    Calls Tryz.prog 47 #[.slice a es.length cap, .func (.func 48) #[] #[]] W fun e w' => e = .returned (.tuple #[]) ∧ ∃ es' : List Sz, SzL b w' B (.slice a es.length cap) es' ∧ es'.Perm es ∧ es'.Pairwise (fun a b => a.a * b.b ≤ b.a * a.b) ∧ ∀ w0 : World, Ext w0 W → (w0.heap.size = B → Ext w0 w') := by
  rcases Nat.eq_zero_or_pos es.length with h | h
  · obtain rfl := List.eq_nil_of_length_eq_zero h
    exact (AnyF.slices_SortFunc_none Tryz.lSortSized a cap _ W).mono fun e w' ⟨h1, h2⟩ => ⟨h1, [], by rw [h2]; exact hs, List.Perm.refl _, List.Pairwise.nil, fun w0 h0 _ => by rw [h2]; exact h0⟩
  · exact sortS_c hs he hBg h hl

theorem szc_snoc (es : List Sz) (e : Sz) : szc (es ++ [e]) = szc es ++ [.string (I (e.a : Int)), .string (I (e.b : Int)), e.u] := by simp [szc, Sz.enc]
theorem sz_more {p rx : List Int} {rs : List Rw} {k A B b : Nat} {ru : Value} {hru : ru.oneCell' = true} {w0 wr W5 W7 : World} {v v7 : Value} {es : List Sz} {tmp : Obj} (hA : numP p rx = A) (hB : denP p rx = B) (hr : rs[k]? = some ⟨rx, ru, hru⟩) (ha : A < 1000000000) (hb : B < 1000000000) (h0 : 0 < B)
    (hE : Ext w0 W5) (hx : Ext wr W5) (hs : SzL b wr w0.heap.size v es) (hm : es.map (fun e => (e.a, e.b, e.x)) = (rs.take k).map (fun r => (numP p r.x, denP p r.x, r.x))) (hu : OwnI wr b ru rx) (hone : ru.oneCell' = true)
    (hown : W7.ownsRow w0.heap.size 95 3 v7 (es.length + 1) (szc es ++ [.string (I (A : Int)), .string (I (B : Int)), ru])) (hgrow : (W5.alloc tmp).grownBy W7 v.ownBlock) : SzOut p rs b w0 v7 (.int .i64 ((k : Int) + 1)) W7 := by
  have hs5 : SzL b W5 w0.heap.size v es := ⟨hx.own hs.1, fun e he => hx.ownI (hs.2 e he)⟩
  have keep : ∀ u' x', OwnI W5 b u' x' → OwnI W7 b u' x' := fun u' x' ho =>
    World.ownsRow.kept (((Ext.refl W5).alloc tmp).ownI ho) hgrow (own_ne ho hs5.1 (by decide))
  have hE7 : Ext w0 W7 := by
    refine (hE.alloc tmp).grown hgrow fun k hk => ?_
    rcases hs.1.2 with ⟨rfl, _⟩ | ⟨g, cap, cur, rfl, hb, _⟩
    · simp [Value.ownBlock] at hk
    · simp [Value.ownBlock] at hk; omega
  have hlt := (List.getElem?_eq_some_iff.1 hr).1
  refine ⟨k + 1, es ++ [⟨A, B, rx, ru, ha, hb, h0, hone⟩], by simp, by omega, ⟨?_, ?_⟩, ?_, hE7⟩
  · rw [List.length_append, szc_snoc]
    exact hown
  · intro e hmem
    rcases List.mem_append.1 hmem with h | h
    · exact keep _ _ (hs5.2 e h)
    · simp only [List.mem_singleton] at h
      subst h
      exact keep _ _ (hx.ownI hu)
  · rw [List.take_add_one, hr, List.map_append, List.map_append, hm]
    simp [hA, hB]

/-- The smallest ones: in order of size, cut. -/
def LeastOf (p : List Int) (R : List (List Int)) (c : Nat) (F : List (Nat × Nat × List Int)) (rs : List Rw) : Prop :=
  F.Perm (R.map fun r => (numP p r, denP p r, r)) ∧ F.Pairwise (fun a b => a.1 * b.2.1 ≤ b.1 * a.2.1) ∧ rs.map Rw.x = (F.take c).map fun e => e.2.2
def rwOf (e : Sz) : Rw := ⟨e.x, e.u, e.hu⟩
theorem ext_grown1 {w0 W W7 : World} {E s n : Nat} {v : Value} {xs : List Value} {t1 t2 : Obj} (hE : Ext w0 W) (hr : W.ownsRow w0.heap.size E s v n xs) (hgrow : ((W.alloc t1).alloc t2).grownBy W7 v.ownBlock) : Ext w0 W7 :=
  ext_grown (hE.alloc t1) (hr.alloc t1) hgrow

set_option maxRecDepth 100000 in
set_option maxHeartbeats 4000000 in
theorem least_w (vp vx : Value) (p x : List Int) (lim cnt : Int) (w : World) (he : Env w) (hp : Sl w vp (i64s p)) (hx : Sl w vx (i64s x)) (hask : askErr p lim x = 0) (h0 : 0 ≤ cnt) (h1 : cnt ≤ 100) (hlp : p.length ≤ 64) (hlx : x.length ≤ 64)
    (R : List (List Int)) (hR : R.length ≤ 10000) (hn : ∀ r ∈ R, Nice p r ∧ numP p r < 1000000000 ∧ denP p r < 1000000000 ∧ 0 < denP p r)
    (hl : ∀ W, Ext w W → Calls Tryz.prog 14 #[.agg #[vp, .int .i64 lim, vx]] W fun e w' => ∃ v rs, e = .returned (.tuple #[v, .int .i64 0]) ∧ RwL w' W.heap.size v rs ∧ rs.map Rw.x = R ∧ Ext W w') :
    Calls Tryz.prog 17 #[.agg #[vp, .int .i64 lim, vx], .int .i64 cnt] w fun e w' => ∃ v rs' F, e = .returned (.tuple #[v, .int .i64 0]) ∧ LeastOf p R cnt.toNat F rs' ∧ RwL w' w.heap.size v rs' ∧ Ext w w' := by
  obtain ⟨i0, hi, hv0, hv1, hv2⟩ := info_parts info_row
  obtain ⟨j0, hj, hy0, hy1, hy2⟩ := info_parts info_sized
  have hck := fun W (hE : Ext w W) => ask_c vp vx lim p x W (he.ext hE) (hE.sl hp) (hE.sl hx) (by omega) (by omega)
  rw [hask] at hck
  have hsd := fun W (hE : Ext w W) v r (hr : r ∈ R) (hv : Sl W v (i64s r)) => csides_c vp v p r W (he.ext hE) (hE.sl hp) hv (hn r hr).1
  have Hck := Lib.hid hck; have Hsd := Lib.hid hsd; have Hl := Lib.hid hl; have He := Lib.hid he; have Hn := Lib.hid hn; have HR := Lib.hid hR
  clear hck hsd hl he hask hn hR
  obtain ⟨aa, ca, rfl, _, _, _⟩ := hp.parts
  obtain ⟨ab, cb, rfl, _, _, _⟩ := hx.parts
  clear hp hx
  rw [i64s_length] at *
  rw [i64s_length] at *
  obtain ⟨hb0, hb1, hb2⟩ := three_new w (.slice aa p.length ca) (.int .i64 lim) (.slice ab x.length cb) 32
  have hE0 : Ext w (w.alloc (.cells #[.slice aa p.length ca, .int .i64 lim, .slice ab x.length cb] 32)) := (Ext.refl w).alloc _
  generalize hw0 : w.alloc (.cells #[.slice aa p.length ca, .int .i64 lim, .slice ab x.length cb] 32) = W0 at *
  go_enter Tryz.func17, Tryz.ntmps17
  go_wp2_with fail
  refine (Hck.out W0 hE0).mono ?_
  rintro e W1 ⟨rfl, hx1⟩
  have hE1 := hE0.trans hx1
  have hb01 := hx1.cell hb0
  have hb11 := hx1.cell hb1
  have hb21 := hx1.cell hb2
  go_wp2_with fail
  refine (Hl.out W1 hE1).mono ?_
  rintro e W2 ⟨v2, rs, rfl, hrs, hRs, hx2⟩
  have hE1s := hE1.size
  have HE1s := Lib.hid hE1s; clear hE1s
  have hE2 := hE1.trans hx2
  have hb02 := hx2.cell hb01
  obtain ⟨a2, c2, rfl⟩ := own_shape hrs.1
  have hrl : rs.length ≤ 10000 := by have := HR.out; rw [← hRs, List.length_map] at this; exact this
  have Hrs := Lib.hid hrs; have HRs := Lib.hid hRs; have HE2 := Lib.hid hE2
  clear hrs hRs hE2 hx1 hx2 hE0 hE1
  go_wp2_with fail
  go_loopw [9, 38] (fun v i wr => SzOut p rs W1.heap.size W2 v i wr) (fun _ i _ => rs.length - (intOf i).toNat)
  case atStart => exact ⟨0, [], rfl, Nat.zero_le _, ⟨World.ownsRow_nil _ _ _ 3, fun _ h => by cases h⟩, rfl, Ext.refl _⟩
  case round =>
    obtain ⟨k, es, rfl, hk, hes, hmap, hext⟩ := hrel
    obtain ⟨av, cv, rfl⟩ := own_shape hes.1
    have Hes := Lib.hid hes; have Hmap := Lib.hid hmap; have Hext := Lib.hid hext
    clear hes hmap hext
    by_cases hlt : k < rs.length
    · obtain ⟨r, hr⟩ : ∃ r, rs[k]? = some r := ⟨_, List.getElem?_eq_getElem hlt⟩
      have hmem : r ∈ rs := List.mem_of_getElem? hr
      obtain ⟨g, cap, e0, hsl⟩ := own_slice Hrs.out.1 (by omega)
      injection e0 with e1 _ e3
      subst e1; subst e3
      have hrx : r.x ∈ R := by rw [← HRs.out]; exact List.mem_map_of_mem hmem
      have hown := Hrs.out.2 r hmem
      have hat := hsl k r.u (by simp [rwc, hr])
      obtain ⟨rx, ru, hru⟩ := r
      dsimp only at hrx hown hat
      obtain ⟨ar, cr, rfl⟩ := own_shape hown
      have hc := Hext.out.cell hat
      have hb0w := Hext.out.cell hb02
      have hsd := Hsd.out wr (HE2.out.trans Hext.out) _ rx hrx (Hext.out.ownI hown).sl
      obtain ⟨hnice, hna, hnb, hnb0⟩ := Hn.out rx hrx
      have Hsd1 := Lib.hid hsd; have Hown := Lib.hid hown; have Hr := Lib.hid hr; have Hnice := Lib.hid hnice
      clear hsd hown hr hnice hsl hat
      generalize hA : numP p rx = A at *
      generalize hB : denP p rx = B at *
      have HA := Lib.hid hA; have HB := Lib.hid hB; clear hA hB
      go_wp2_with fail
      refine Hsd1.out.mono ?_
      rintro e W5 ⟨rfl, hx5⟩
      have hes5 := hx5.own Hes.out.1
      have hsz5 := (Hext.out.trans hx5).size
      have Hx5 := Lib.hid hx5; clear hx5
      have heslen : es.length ≤ 10000 := by have := congrArg List.length Hmap.out; simp at this; omega
      have hm3 : es.length + 1 ≤ maxLen := by unfold maxLen; omega
      have hm4 : (es.length + 1) * 56 ≤ 140737488355328 := by omega
      go_wp2_with (at_builtin; refine wpList_append_own _ rfl _ _ 93 rfl W2.heap.size 95 j0 (.agg #[.string ⟨#[]⟩, .string ⟨#[]⟩, .slice none 0 0]) 3 56 Tryz.underlying93 hj hy0 hy1 hy2 rfl (by decide) _ _ _ rfl (hes5.alloc _) ⟨W5.heap.size, 0, none⟩ 1 1 [.string (I (A : Int)), .string (I (B : Int)), .slice ar rx.length cr] rfl rfl (cell_three_new _ _ _ _ _) (by simp [Value.oneCell']) hm3 hm4 (by rw [World.size_alloc]; omega) ?_; intro v7 W7 hown7 hgrow7 _)
      go_roundw
      case rel => exact sz_more HA.out HB.out Hr.out hna hnb hnb0 (Hext.out.trans Hx5.out) Hx5.out Hes.out Hmap.out (Hext.out.ownI Hown.out) rfl hown7 hgrow7
      case measure => simp [intOf]; omega
    · obtain rfl : k = rs.length := by omega
      have hmap := Hmap.out
      rw [List.take_length] at hmap
      have heslen : es.length = rs.length := by have := congrArg List.length hmap; simpa using this
      have hsort := sortAll_c (a := av) (cap := cv) Hes.out (He.out.ext (HE2.out.trans Hext.out)) (Nat.lt_of_lt_of_le He.out.lt HE2.out.size) (by omega)
      have Hsort := Lib.hid hsort; have Hmap2 := Lib.hid hmap; clear hsort hmap heslen
      go_wp2_with fail
      refine Hsort.out.mono ?_
      rintro e W8 ⟨rfl, es', hes8, hperm, hpw, hx8⟩
      have hlen8 := hperm.length_eq
      have hcap8 := (own_cap hes8.1).1
      rw [hlen8] at hcap8
      obtain ⟨M, hM1, hM2, hM3⟩ : ∃ M : Nat, min cnt (es.length : Int) = (M : Int) ∧ M ≤ es.length ∧ M ≤ cv := ⟨(min cnt (es.length : Int)).toNat, by omega, by omega, by omega⟩
      have hM4 : max (M : Int) 0 = (M : Int) := by omega
      have hM5 : M = min cnt.toNat es.length := by omega
      have hM6 : M ≤ 100 := by omega
      have HM5 := Lib.hid hM5; have Hperm := Lib.hid hperm; have Hpw := Lib.hid hpw; have Hlen8 := Lib.hid hlen8
      clear hM5 hperm hpw hlen8
      have HM4 := Lib.hid hM4
      have Hes8 := Lib.hid hes8; have Hx8 := Lib.hid (hx8 W2 Hext.out rfl); clear hes8 hx8
      go_wp2_with fail
      clear hM1 hM4
      go_loopw [14, 66] (fun v i wr => ∃ k : Nat, i = .int .i64 k ∧ k ≤ M ∧ wr.ownsRow W8.heap.size 30 1 v k ((es'.take k).map Sz.u) ∧ Ext W8 wr) (fun _ i _ => M - (intOf i).toNat)
      case atStart => exact ⟨0, rfl, Nat.zero_le _, by rw [List.take_zero]; exact World.ownsRow_nil _ _ _ 1, Ext.refl _⟩
      case round =>
        obtain ⟨j, rfl, hj, hown9, hext9⟩ := hrel
        obtain ⟨a9, c9, rfl⟩ := own_shape hown9
        have Hown9 := Lib.hid hown9; have Hext9 := Lib.hid hext9; clear hown9 hext9
        by_cases hlt9 : j < M
        · obtain ⟨s, hs⟩ : ∃ s, es'[j]? = some s := ⟨_, List.getElem?_eq_getElem (by have := Hlen8.out; omega)⟩
          obtain ⟨g, cap, e0, hsl⟩ := own_slice Hes8.out.1 (by have := Hlen8.out; omega)
          injection e0 with e1 e2 e3
          clear e2
          subst e1; subst e3
          obtain ⟨hs1, hs2, hs3⟩ := szc_at es' j s hs
          have hc1 := Hext9.out.cell (hsl _ _ hs1)
          have hc2 := Hext9.out.cell (hsl _ _ hs2)
          have hc3 := Hext9.out.cell (hsl _ _ hs3)
          have hus := Hes8.out.2 s (List.mem_of_getElem? hs)
          have htk : (es'.take (j + 1)).map Sz.u = (es'.take j).map Sz.u ++ [s.u] := by rw [List.take_add_one, hs]; simp
          have Hs := Lib.hid hs; have Hus := Lib.hid hus; have Htk := Lib.hid htk; clear hs hus hs1 hs2 hs3 hsl htk
          obtain ⟨sa, sb, sx, su, hsa, hsb, hs0, hsu⟩ := s
          dsimp only at hc1 hc2 hc3
          have hus := Hus.out
          dsimp only at hus
          obtain ⟨au, cu, rfl⟩ := own_shape hus
          clear hus Hus
          generalize I (sa : Int) = ta at *
          generalize I (sb : Int) = tb at *
          have hown9 := Hown9.out
          have hsz9 := Hext9.out.size
          have hm3 : j + 1 ≤ maxLen := by unfold maxLen; omega
          have hm4 : (j + 1) * 24 ≤ 140737488355328 := by omega
          have hnews : ∀ o : Obj, ∀ jj u, [Value.slice au sx.length cu][jj]? = some u → ((wr.alloc o).alloc (.cells #[.slice au sx.length cu] 30)).cell? ((⟨wr.heap.size + 1, 0, none⟩ : Addr).add jj) = some u := fun o => by
            have h := cell_one_new (wr.alloc o) (.slice au sx.length cu) 30
            rwa [World.size_alloc] at h
          have Hnews := Lib.hid hnews; clear hnews
          have hbase : W8.heap.size ≤ ((wr.alloc (.cells #[.string ta, .string tb, .slice au sx.length cu] 95)).alloc (.cells #[.slice au sx.length cu] 30)).heap.size := by rw [World.size_alloc, World.size_alloc]; omega
          go_wp2_with (at_builtin; refine wpList_append_own _ rfl _ _ 36 rfl W8.heap.size 30 i0 (.slice none 0 0) 1 24 Tryz.underlying36 hi hv0 hv1 hv2 rfl (by decide) _ _ _ rfl ((hown9.alloc _).alloc _) ⟨wr.heap.size + 1, 0, none⟩ 1 1 [.slice au sx.length cu] rfl rfl (Hnews.out _) (by simp [Value.oneCell']) hm3 hm4 hbase ?_; intro v7 W7 hown7 hgrow7 _)
          have hE7 := ext_grown1 Hext9.out hown9 hgrow7
          have HE7 := Lib.hid hE7; have Hown7 := Lib.hid hown7; clear hE7 hown7 hgrow7 hown9
          go_wp2
          go_roundw
          case rel => exact ⟨j + 1, by go_num, by omega, by rw [Htk.out]; exact Hown7.out, HE7.out⟩
          case measure => simp [intOf]; omega
        · obtain rfl : j = M := by omega
          go_wp2
          go_ret2
          refine ⟨_, (es'.take j).map rwOf, es'.map (fun e => (e.a, e.b, e.x)), rfl, ⟨?_, ?_, ?_⟩, ⟨?_, ?_⟩, (HE2.out.trans Hx8.out).trans Hext9.out⟩
          · rw [← HRs.out, List.map_map]
            refine (Hperm.out.map _).trans ?_
            rw [Hmap2.out]
            exact List.Perm.refl _
          · rw [List.pairwise_map]; exact Hpw.out
          · rw [← List.map_take, List.map_map, List.map_map]
            have hjj : es'.take j = es'.take cnt.toNat := by
              rw [HM5.out, ← Hlen8.out]
              rcases Nat.le_total cnt.toNat es'.length with h | h
              · rw [Nat.min_eq_left h]
              · rw [Nat.min_eq_right h, List.take_length, List.take_of_length_le h]
            rw [hjj]
            rfl
          · rw [show rwc ((es'.take j).map rwOf) = (es'.take j).map Sz.u by simp [rwc, rwOf, Function.comp_def]]
            rw [show ((es'.take j).map rwOf).length = j by have := Hlen8.out; simp; omega]
            exact own_mono Hown9.out (HE2.out.trans Hx8.out).size
          · intro r hr
            obtain ⟨e, he, rfl⟩ := List.mem_map.1 hr
            have := Hext9.out.ownI (Hes8.out.2 e (List.mem_of_mem_take he))
            exact own_mono this (Nat.le_trans (Nat.le_refl _) (by have := HE1s.out; exact this))

end Go.Proofs.YtkamjjjimbbdmaaGreatDoor
