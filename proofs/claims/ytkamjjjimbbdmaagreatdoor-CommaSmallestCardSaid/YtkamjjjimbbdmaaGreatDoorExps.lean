/- Walks of the laws' own functions: exponents, Interval, Value. -/
import Derived.Test.YtkamjjjimbbdmaaGreatDoorSame
namespace Go.Proofs.YtkamjjjimbbdmaaGreatDoor
open Go.RowKit Go.Lib

/-- What is left of a number when a prime is taken out as often as possible, and how often. -/
def divs (q : Nat) : Nat → Nat → Nat × Nat
  | 0, n => (n, 0)
  | f + 1, n => if n % q = 0 then ((divs q f (n / q)).1, (divs q f (n / q)).2 + 1) else (n, 0)
def expsR : List Nat → Nat → List Int × Nat
  | [], n => ([], n)
  | q :: r, n => (((divs q n n).2 : Int) :: (expsR r (divs q n n).1).1, (expsR r (divs q n n).1).2)
theorem expsR_length : ∀ (p : List Nat) (n : Nat), (expsR p n).1.length = p.length
  | [], _ => rfl
  | q :: r, n => by rw [expsR]; simp [expsR_length r]

theorem ret_vb {v : Value} {a b : Bool} (h : a = b) : Ending.returned (.tuple #[v, .bool a]) = .returned (.tuple #[v, .bool b]) := by rw [h]

theorem divs_le (q : Nat) (hq : 2 ≤ q) : ∀ (f n : Nat), (divs q f n).1 ≤ n ∧ (1 ≤ n → 1 ≤ (divs q f n).1)
  | 0, n => ⟨Nat.le_refl _, fun h => h⟩
  | f + 1, n => by
    rw [divs]
    split
    · rename_i h
      have ih := divs_le q hq f (n / q)
      have h1 : n / q ≤ n := Nat.div_le_self _ _
      refine ⟨Nat.le_trans ih.1 h1, fun h2 => ih.2 ?_⟩
      have h3 := Nat.div_add_mod n q
      rw [h] at h3
      rcases Nat.eq_zero_or_pos (n / q) with h4 | h4
      · rw [h4] at h3; omega
      · exact h4
    · exact ⟨Nat.le_refl _, fun h => h⟩
theorem divs_cnt (q : Nat) : ∀ (f n : Nat), (divs q f n).2 ≤ f
  | 0, n => Nat.le_refl _
  | f + 1, n => by
    rw [divs]
    split
    · have := divs_cnt q f (n / q)
      show _ + 1 ≤ _
      omega
    · omega
theorem divs_yes {q f n : Nat} (h : n % q = 0) : divs q (f + 1) n = ((divs q f (n / q)).1, (divs q f (n / q)).2 + 1) := by rw [divs, if_pos h]
theorem divs_no {q f n : Nat} (h : ¬ n % q = 0) : divs q f n = (n, 0) := by
  cases f with
  | zero => rfl
  | succ f => rw [divs, if_neg h]

set_option maxRecDepth 100000 in
set_option maxHeartbeats 1000000 in
theorem exps_c (vp : Value) (p : List Nat) (n : Nat) (w : World) (hp : Sl w vp (i64s (ints p))) (hl : p.length ≤ 64) (hq : ∀ i, i < p.length → 2 ≤ nth p i ∧ nth p i ≤ 1000) (h1 : 1 ≤ n) (hn : n ≤ 1000000) :
    Calls Tryz.prog 45 #[vp, .int .i64 n] w fun e w' => ∃ v, e = .returned (.tuple #[v, .bool (decide ((expsR p n).2 = 1))]) ∧ OwnI w' w.heap.size v (expsR p n).1 ∧ Ext w w' := by
  obtain ⟨i0, hi, hz0, hz1, hz2⟩ := info_parts info_int
  obtain ⟨ap, cp, rfl, _, _, hcp⟩ := hp.parts
  rw [i64s_length, ints_length]
  have Hcp := Lib.hid hcp; clear hcp hp
  have Hq := Lib.hid hq; clear hq
  obtain ⟨E, hE⟩ : ∃ E, E = expsR p n := ⟨_, rfl⟩
  rw [← hE]
  have HE := Lib.hid hE; clear hE
  go_enter Tryz.func45, Tryz.ntmps45
  go_wp2
  go_loopw [1, 6, 7] (fun nv v i wr => ∃ (k m : Nat) (acc : List Int), nv = .int .i64 m ∧ i = .int .i64 k ∧ k ≤ p.length ∧ 1 ≤ m ∧ m ≤ 1000000 ∧ acc.length = k ∧ OwnI wr w.heap.size v acc ∧ acc ++ (expsR (p.drop k) m).1 = E.1 ∧ (expsR (p.drop k) m).2 = E.2 ∧ Ext w wr) (fun _ _ i _ => p.length - (intOf i).toNat)
  case atStart => exact ⟨0, n, [], rfl, rfl, Nat.zero_le _, h1, hn, rfl, World.ownsRow_nil w _ _ 1, by rw [List.drop_zero, HE.out]; rfl, by rw [List.drop_zero, HE.out], Ext.refl _⟩
  case round =>
    obtain ⟨k, m, acc, rfl, rfl, hk, hm1, hm2, hacc, hown, hE1, hE2, hext⟩ := hrel
    obtain ⟨av, cv, rfl⟩ := own_shape hown
    have Hacc := Lib.hid hacc; have Hown := Lib.hid hown; have HE1 := Lib.hid hE1; have HE2 := Lib.hid hE2; have Hext := Lib.hid hext
    clear hacc hown hE1 hE2 hext
    by_cases hlt : k < p.length
    · obtain ⟨bp, op, rfl, hcell0⟩ := Hcp.out k _ (i64s_at (by rw [ints_length]; exact hlt))
      have hcell := Hext.out.cell hcell0
      rw [nthI_ints] at hcell
      obtain ⟨hq2, hq3⟩ := Hq.out k hlt
      have hdrop : p.drop k = nth p k :: p.drop (k + 1) := by
        rw [List.drop_eq_getElem_cons hlt]
        congr 1
        unfold nth
        rw [List.getD_eq_getElem?_getD, List.getElem?_eq_getElem hlt]; rfl
      have hE1 := HE1.out; have hE2 := HE2.out
      rw [hdrop, expsR] at hE1 hE2
      clear HE1 HE2 hdrop hcell0
      generalize nth p k = q at *
      have HE1 := Lib.hid hE1; have HE2 := Lib.hid hE2; clear hE1 hE2
      obtain ⟨wo, hwo⟩ : ∃ wo : World, wo = wr := ⟨_, rfl⟩
      subst hwo
      go_wp2
      go_loop [1, 8] (fun nv kv => ∃ j f c : Nat, nv = .int .i64 j ∧ kv = .int .i64 c ∧ 1 ≤ j ∧ j ≤ f ∧ f + c ≤ m ∧ (divs q f j).1 = (divs q m m).1 ∧ (divs q f j).2 + c = (divs q m m).2) (fun nv _ => (intOf nv).toNat)
      case atStart => exact ⟨m, m, 0, rfl, rfl, hm1, Nat.le_refl _, by omega, rfl, rfl⟩
      case round =>
        obtain ⟨j, f, c, rfl, rfl, hj1, hj2, hfc, hd1, hd2⟩ := hrel
        have hmod : (j : Int) % (q : Int) = ((j % q : Nat) : Int) := by simp
        have hdiv : (j : Int) / (q : Int) = ((j / q : Nat) : Int) := by simp
        by_cases h0 : j % q = 0
        · have ht : ((j : Int) % (q : Int) == 0) = true := by rw [hmod, h0]; rfl
          obtain ⟨f', rfl⟩ : ∃ f', f = f' + 1 := ⟨f - 1, by omega⟩
          rw [divs_yes h0] at hd1 hd2
          have h3 := Nat.div_add_mod j q
          have hjq : j / q < j := Nat.div_lt_self hj1 hq2
          have hjq1 : 1 ≤ j / q := by
            rcases Nat.eq_zero_or_pos (j / q) with h4 | h4
            · rw [h4, h0] at h3; omega
            · exact h4
          have hd1' : (divs q f' (j / q)).1 = (divs q m m).1 := hd1
          have hd2' : (divs q f' (j / q)).2 + (c + 1) = (divs q m m).2 := by rw [← hd2]; show _ = _ + 1 + c; omega
          have Hd1 := Lib.hid hd1'; have Hd2 := Lib.hid hd2'; clear hd1 hd2 hd1' hd2' h3 hmod h0
          generalize j / q = j2 at *
          go_wp2
          go_round
          case rel => exact ⟨j2, f', c + 1, by first | rfl | (rw [hdiv]), by go_num, hjq1, by omega, by omega, Hd1.out, Hd2.out⟩
          case measure => simp [intOf]; omega
        · have ht : ((j : Int) % (q : Int) == 0) = false := by rw [hmod]; exact beq_eq_false_iff_ne.2 (by omega)
          rw [divs_no h0] at hd1 hd2
          have hd1' : j = (divs q m m).1 := hd1
          have hd2' : 0 + c = (divs q m m).2 := hd2
          have hE1 := HE1.out; have hE2 := HE2.out
          rw [← hd1', ← hd2', Nat.zero_add] at hE1
          rw [← hd1'] at hE2
          have hjm : j ≤ 1000000 := by omega
          have HE1' := Lib.hid hE1; have HE2' := Lib.hid hE2; clear hE1 hE2 HE1 HE2 hd1 hd2 hd1' hd2' hmod hdiv h0
          have hown := Hown.out
          have hm3 : acc.length + 1 ≤ maxLen := by have := Hacc.out; unfold maxLen; omega
          have hm4 : (acc.length + 1) * 8 ≤ 140737488355328 := by have := Hacc.out; omega
          have hsz := Hext.out.size
          have hm5 : w.heap.size ≤ (wo.alloc (.cells #[.int .i64 (c : Int)] 3)).heap.size := by rw [World.size_alloc]; omega
          go_wp2_with (at_builtin; refine wpList_append_own _ rfl _ _ 30 rfl w.heap.size 3 i0 (.int .i64 0) 1 8 Tryz.underlying30 hi hz0 hz1 hz2 rfl (by decide) _ _ _ rfl (hown.alloc _) ⟨wo.heap.size, 0, none⟩ 1 1 [.int .i64 (c : Int)] rfl rfl (cell_one_new _ _ _) (by simp [Value.oneCell']) hm3 hm4 hm5 ?_; intro v' w1 hown' hgrow _)
          have hE9 : Ext w w1 := ext_grown Hext.out Hown.out hgrow
          have hown9 : OwnI w1 w.heap.size v' (acc ++ [(c : Int)]) := by
            unfold OwnI
            rw [List.length_append]
            simpa [i64s] using hown'
          have Hown9 := Lib.hid hown9; have HE9 := Lib.hid hE9; clear hown hown' hgrow hE9 hown9
          go_wp2
          go_roundw
          case rel => exact ⟨k + 1, j, acc ++ [(c : Int)], rfl, by go_num, by omega, hj1, hjm, by rw [List.length_append, Hacc.out]; rfl, Hown9.out, by rw [List.append_assoc]; exact HE1'.out, HE2'.out, HE9.out⟩
          case measure => simp [intOf]; omega
    · obtain rfl : k = p.length := by omega
      have hE1 := HE1.out; have hE2 := HE2.out
      rw [List.drop_length] at hE1 hE2
      have h1 : acc = E.1 := by rw [← hE1]; simp [expsR]
      have h2 : m = E.2 := hE2
      have hb : ((m : Int) == 1) = decide (E.2 = 1) := by
        rw [← h2]
        by_cases h : m = 1
        · subst h; rfl
        · rw [decide_eq_false h]; exact beq_eq_false_iff_ne.2 (by omega)
      have H1 := Lib.hid h1; have Hb := Lib.hid hb; clear h1 h2 hb hE1 hE2
      go_wp2
      go_ret2
      exact ⟨_, ret_vb Hb.out, by rw [← H1.out]; exact Hown.out, Hext.out⟩

end Go.Proofs.YtkamjjjimbbdmaaGreatDoor
