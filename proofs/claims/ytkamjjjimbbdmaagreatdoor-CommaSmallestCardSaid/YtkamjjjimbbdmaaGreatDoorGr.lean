/- Contracts that say that draws and new blocks are all that turns: for the closure of a sort. -/
import Derived.Test.YtkamjjjimbbdmaaGreatDoorWhole
namespace Go.Proofs.YtkamjjjimbbdmaaGreatDoor
open Go.RowKit Go.Lib

/-- Draws, and blocks laid behind. -/
def Gr (w w' : World) : Prop := ∃ q os, w' = Sort.grow (w.drewN q) os
theorem Gr.refl (w : World) : Gr w w := ⟨0, #[], by simp [Sort.grow_empty]; rfl⟩
theorem Gr.drewN {a w : World} (h : Gr a w) (n : Nat) : Gr a (w.drewN n) := by
  obtain ⟨q, os, rfl⟩ := h
  exact ⟨q + n, os, by simp [Sort.grow, World.drewN, Nat.add_assoc]⟩
theorem Gr.drew {a w : World} (h : Gr a w) : Gr a w.drew := h.drewN 1
theorem Gr.grow {a w : World} (h : Gr a w) (os : Array Obj) : Gr a (Sort.grow w os) := by
  obtain ⟨q, os', rfl⟩ := h
  exact ⟨q, os' ++ os, by rw [Sort.grow_grow]⟩
theorem Gr.alloc {a w : World} (h : Gr a w) (o : Obj) : Gr a (w.alloc o) := by rw [Sort.alloc_eq_grow]; exact h.grow _
theorem Gr.trans {a b c : World} (h : Gr a b) (k : Gr b c) : Gr a c := by
  obtain ⟨q, os, rfl⟩ := k
  exact (h.drewN q).grow os
theorem Gr.of {w w' : World} (h : Ext w w') (q : Nat) (hd : w'.drawn = w.drawn + q) : Gr w w' := by
  refine ⟨q, w'.heap.extract w.heap.size w'.heap.size, ?_⟩
  have hb : Below w.heap.size w w' := h
  have hh : w'.heap = w.heap ++ w'.heap.extract w.heap.size w'.heap.size := by
    apply Array.ext_getElem?
    intro k
    have hs := hb.size
    rw [Array.getElem?_append]
    split
    · rename_i hk; exact hb.block k hk
    · rename_i hk
      rw [Array.getElem?_extract]
      by_cases h2 : k < w'.heap.size
      · rw [if_pos (by omega)]; congr 1; omega
      · rw [if_neg (by omega), Array.getElem?_eq_none (by omega)]
  have e1 := hb.os
  have e2 := hb.tape
  have e3 := hb.output
  cases w with
  | mk wh wt wd wo wu =>
    cases w' with
    | mk vh vt vd vo vu =>
      simp only at hd e1 e2 e3 hh
      subst hd; subst e1; subst e2; subst e3
      unfold Sort.grow World.drewN
      simp only
      rw [← hh]
theorem Gr.bytes (w : World) (e : TypeId) (s : ByteArray) : Gr w (Lib.bytesWorld w e s) := Gr.of (Ext.bytes w e s) 1 rfl
theorem Gr.ext {w w' : World} (h : Gr w w') : Ext w w' := by
  obtain ⟨q, os, rfl⟩ := h
  exact ((Ext.refl w).drewN q).grow os

theorem itoa_g (z : Int) (h0 : -9223372036854775808 ≤ z) (h1 : z ≤ 9223372036854775807) (w : World) (he : Env w) :
    Calls Tryz.prog 81 #[.int .i64 z] w fun e w' => e = .returned (.string (I z)) ∧ Gr w w' :=
  (Any.strconv_Itoa Tryz.lItoa z h0 h1 w he).mono fun _ _ ⟨h, k, os, hw⟩ => ⟨h, ⟨k, os, hw⟩⟩

theorem atoi_g (z : Int) (h0 : -9223372036854775808 ≤ z) (h1 : z ≤ 9223372036854775807) (w : World) :
    Calls Tryz.prog 110 #[.string (I z)] w fun e w' => e = .returned (.tuple #[.int .i64 z, .nilIface]) ∧ Gr w w' := by
  have hs : (I z).size ≤ 9223372036854775806 := by
    show (itoa z).toArray.size ≤ _
    rw [List.size_toArray]
    unfold itoa
    split
    · rw [List.length_cons, decDigits_length]
      have := Dec.nDigits_le (n := z.natAbs) (k := 20) (by omega) (by omega)
      omega
    · rw [decDigits_length]
      have := Dec.nDigits_le (n := z.toNat) (k := 20) (by omega) (by omega)
      omega
  refine (Any.strconv_Atoi_ok Tryz.lAtoi (I z) hs z (atoiAll_I z h0 h1) w).mono fun e w' ⟨h, hw⟩ => ⟨h, ?_⟩
  rcases hw with rfl | ⟨t, rfl⟩
  · exact Gr.refl _
  · exact Gr.bytes _ _ _

set_option maxHeartbeats 400000 in
theorem wholeOf_g (z : Int) (h0 : -9223372036854775808 ≤ z) (h1 : z ≤ 9223372036854775807) (w : World) (he : Env w) :
    Calls Tryz.prog 41 #[.int .i64 z] w fun e w' => e = .returned (.string (I z)) ∧ Gr w w' := by
  have He := Lib.hid he; clear he
  go_enter Tryz.func41, Tryz.ntmps41
  go_wp2_with fail
  refine (itoa_g z h0 h1 w He.out).mono ?_
  rintro e w' ⟨rfl, hx⟩
  have Hx := Lib.hid hx; clear hx
  go_wp2
  go_ret
  exact ⟨rfl, Hx.out⟩

set_option maxHeartbeats 400000 in
theorem split_w0_g (s : ByteArray) (w : World) (h0 : 0 < s.size) (_h1 : s.size ≤ 1000001) (h : (((s[0]'h0).toNat : Int) == 45) = false) :
    Calls Tryz.prog 74 #[.string s] w fun e w' => e = .returned (.tuple #[.bool false, .string s]) ∧ Gr w w' := by
  go_enter Tryz.func74, Tryz.ntmps74
  go_wp2
  go_ret2
  exact ⟨rfl, Gr.refl _⟩

set_option maxHeartbeats 400000 in
theorem split_w1_g (s t : ByteArray) (w : World) (h0 : 0 < s.size) (h1 : s.size ≤ 1000001) (h : (((s[0]'h0).toNat : Int) == 45) = true) (ht : s.extract 1 s.size = t) :
    Calls Tryz.prog 74 #[.string s] w fun e w' => e = .returned (.tuple #[.bool true, .string t]) ∧ Gr w w' := by
  go_enter Tryz.func74, Tryz.ntmps74
  go_wp2
  go_quiet (fail)
  go_wp2
  go_ret2
  exact ⟨rfl, (Gr.refl _).drewN _⟩

theorem split_g (z : Int) (w : World) (hz : Fit z) :
    Calls Tryz.prog 74 #[.string (I z)] w fun e w' => e = .returned (.tuple #[.bool (decide (z < 0)), .string (D z.natAbs)]) ∧ Gr w w' := by
  rcases sign_cases z with ⟨n, rfl⟩ | ⟨n, hn, rfl⟩
  · have h := hz.nat
    rw [I_nat, decide_eq_false (by omega), Int.natAbs_natCast]
    refine split_w0_g (D n) w (D_pos n) (by rw [D_size]; omega) ?_
    have := D_first n (D_pos n)
    exact beq_eq_false_iff_ne.2 (by omega)
  · have h := hz.neg
    rw [decide_eq_true (by omega), Int.natAbs_neg, Int.natAbs_natCast]
    have hs := I_neg_size n hn
    refine split_w1_g (I (-(n : Int))) (D n) w (by omega) (by omega) ?_ (I_neg_tail n hn)
    have := I_neg_first n hn (by omega)
    exact beq_iff_eq.2 (by omega)

set_option maxHeartbeats 400000 in
theorem little_yes_g (z : Int) (k : Int) (w : World) (h0 : -1000000000000000000 < z) (h1 : z < 1000000000000000000) (h : ((I z).size : Int) ≤ k) :
    Calls Tryz.prog 78 #[.string (I z), .int .i64 k] w fun e w' => e = .returned (.tuple #[.int .i64 z, .bool true]) ∧ Gr w w' := by
  have hs : ¬ k < ((I z).size : Int) := by omega
  have H0 := Lib.hid h0; clear h0
  have H1 := Lib.hid h1; clear h1
  go_enter Tryz.func78, Tryz.ntmps78
  go_wp2_with fail
  refine (atoi_g z (by have := H0.out; omega) (by have := H1.out; omega) w).mono ?_
  rintro e w1 ⟨rfl, hx1⟩
  have Hx1 := Lib.hid hx1; clear hx1
  go_wp2
  go_quiet (fail)
  go_wp2
  go_ret2
  exact ⟨rfl, Hx1.out.drewN _⟩

set_option maxHeartbeats 800000 in
theorem cmp_g (a b : Int) (w : World) (ha : Fit a) (hb : Fit b) :
    Calls Tryz.prog 37 #[.string (I a), .string (I b)] w fun e w' => e = .returned (.int .i64 (cmpI a b)) ∧ Gr w w' := by
  have Ha := Lib.hid ha; have Hb := Lib.hid hb
  have hra := cmpI_range a 0
  have hrb := cmpI_range b 0
  have hca := sign_c a w ha
  have hcb := sign_c b w hb
  by_cases hne : cmpI a 0 = cmpI b 0
  · have hsame := cmp_same a b hne
    have Hsame := Lib.hid hsame; clear hsame
    rw [← hne] at hcb
    have ht : (cmpI a 0 != cmpI a 0) = false := by simp
    clear hne hrb
    generalize cmpI a 0 = x at *
    have Hca := Lib.hid hca; clear hca
    have Hcb := Lib.hid hcb; clear hcb
    clear ha hb hra
    by_cases hneg : a < 0
    · have hsp : Calls Tryz.prog 74 #[.string (I a)] w _ := split_g a w Ha.out
      rw [decide_eq_true hneg] at hsp
      have Hsp := Lib.hid hsp; clear hsp
      have Hneg := Lib.hid hneg; clear hneg
      go_enter Tryz.func37, Tryz.ntmps37
      go_wp2_with fail
      refine Hca.out.mono ?_
      rintro e w1 ⟨rfl, rfl⟩
      go_wp2_with fail
      refine Hcb.out.mono ?_
      rintro e w1 ⟨rfl, rfl⟩
      go_wp2_with fail
      refine Hsp.out.mono ?_
      rintro e w1 ⟨rfl, hx1⟩
      have Hx1 := Lib.hid hx1; clear hx1
      go_wp2_with fail
      refine (split_g b w1 Hb.out).mono ?_
      rintro e w2 ⟨rfl, hx2⟩
      have Hx2 := Lib.hid hx2; clear hx2
      go_wp2_with fail
      refine (decCmp_c b.natAbs a.natAbs w2 (by have := Hb.out; unfold Fit at this; omega) (by have := Ha.out; unfold Fit at this; omega)).mono ?_
      rintro e w3 ⟨rfl, rfl⟩
      go_wp2
      go_ret
      exact ⟨ret_int (by rw [Hsame.out, if_pos (by have := Hneg.out; omega)]), Hx1.out.trans Hx2.out⟩
    · have hsp : Calls Tryz.prog 74 #[.string (I a)] w _ := split_g a w Ha.out
      rw [decide_eq_false hneg] at hsp
      have Hsp := Lib.hid hsp; clear hsp
      have Hneg := Lib.hid hneg; clear hneg
      go_enter Tryz.func37, Tryz.ntmps37
      go_wp2_with fail
      refine Hca.out.mono ?_
      rintro e w1 ⟨rfl, rfl⟩
      go_wp2_with fail
      refine Hcb.out.mono ?_
      rintro e w1 ⟨rfl, rfl⟩
      go_wp2_with fail
      refine Hsp.out.mono ?_
      rintro e w1 ⟨rfl, hx1⟩
      have Hx1 := Lib.hid hx1; clear hx1
      go_wp2_with fail
      refine (split_g b w1 Hb.out).mono ?_
      rintro e w2 ⟨rfl, hx2⟩
      have Hx2 := Lib.hid hx2; clear hx2
      go_wp2_with fail
      refine (decCmp_c a.natAbs b.natAbs w2 (by have := Ha.out; unfold Fit at this; omega) (by have := Hb.out; unfold Fit at this; omega)).mono ?_
      rintro e w3 ⟨rfl, rfl⟩
      go_wp2
      go_ret
      exact ⟨ret_int (by rw [Hsame.out, if_neg (by have := Hneg.out; omega)]), Hx1.out.trans Hx2.out⟩
  · have hlt := cmp_diff a b hne
    have ht : (cmpI a 0 != cmpI b 0) = true := by simpa using hne
    clear hne
    generalize cmpI a 0 = x at *
    generalize cmpI b 0 = y at *
    have Hca := Lib.hid hca; clear hca
    have Hcb := Lib.hid hcb; clear hcb
    clear ha hb hra hrb
    rcases hlt with ⟨hlt, hr⟩ | ⟨hlt, hr⟩
    all_goals
      have Hr := Lib.hid hr; clear hr
      go_enter Tryz.func37, Tryz.ntmps37
      go_wp2_with fail
      refine Hca.out.mono ?_
      rintro e w1 ⟨rfl, rfl⟩
      go_wp2_with fail
      refine Hcb.out.mono ?_
      rintro e w1 ⟨rfl, rfl⟩
      go_wp2
      go_ret
      exact ⟨ret_int Hr.out.symm, Gr.refl _⟩

set_option maxHeartbeats 800000 in
theorem mul_short_g (a b : Int) (w : World) (he : Env w) (ha9 : ((I a).size : Int) ≤ 9) (hb9 : ((I b).size : Int) ≤ 9) :
    Calls Tryz.prog 40 #[.string (I a), .string (I b)] w fun e w' => e = .returned (.string (I (a * b))) ∧ Gr w w' := by
  have hba := I_small a 9 (by omega)
  have hbb := I_small b 9 (by omega)
  have hab : a * b ≤ 999999998000000001 ∧ -999999998000000001 ≤ a * b := by
    have h1 : (a * b).natAbs ≤ 999999999 * 999999999 := by rw [Int.natAbs_mul]; exact Nat.mul_le_mul (by omega) (by omega)
    omega
  have hab1 := hab.1
  have hab2 := hab.2
  have hla2 : -1000000000000000000 < a ∧ a < 1000000000000000000 := by omega
  have hlb2 : -1000000000000000000 < b ∧ b < 1000000000000000000 := by omega
  have Hla2 := Lib.hid hla2; clear hla2
  have Hlb2 := Lib.hid hlb2; clear hlb2
  have He := Lib.hid he; clear he
  clear hab hba hbb
  go_enter Tryz.func40, Tryz.ntmps40
  go_wp2_with fail
  refine (little_yes_g a 9 w Hla2.out.1 Hla2.out.2 ha9).mono ?_
  rintro e w1 ⟨rfl, hx1⟩
  have Hx1 := Lib.hid hx1; clear hx1
  go_wp2_with fail
  refine (little_yes_g b 9 w1 Hlb2.out.1 Hlb2.out.2 hb9).mono ?_
  rintro e w2 ⟨rfl, hx2⟩
  have Hx2 := Lib.hid hx2; clear hx2
  go_wp2_with fail
  refine (wholeOf_g (a * b) (by omega) (by omega) w2 ((He.out.ext Hx1.out.ext).ext Hx2.out.ext)).mono ?_
  rintro e w3 ⟨rfl, hx3⟩
  have Hx3 := Lib.hid hx3; clear hx3
  go_wp2
  go_ret
  exact ⟨rfl, (Hx1.out.trans Hx2.out).trans Hx3.out⟩

end Go.Proofs.YtkamjjjimbbdmaaGreatDoor
