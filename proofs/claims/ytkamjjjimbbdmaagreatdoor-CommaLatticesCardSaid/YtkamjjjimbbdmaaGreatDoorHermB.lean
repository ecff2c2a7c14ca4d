/- Walk: hermite's less$1 (a multiple is taken away in place). Walk: hermite's less, where the line that is taken away has no sums. Walk: the closures of hermite's reduce and contains. Plain: one step of hermite's reduce, and how far its numbers grow. Walk: hermite's open, where nothing is wrong. Walk: hermite's contains and Contains, over what reduce and open answer. -/
import Derived.Test.YtkamjjjimbbdmaaGreatDoorHermA
import Derived.Test.YtkamjjjimbbdmaaGreatDoorNumD
import Derived.Test.YtkamjjjimbbdmaaGreatDoorOrdA
import Derived.Test.YtkamjjjimbbdmaaGreatDoorDelete
namespace Go.Proofs.YtkamjjjimbbdmaaGreatDoor
open Go.RowKit Go.Lib Go.Shelf

/-- a - k * b in the first j places. -/
def subTo (k : Int) (a b : List Int) (j : Nat) : List Int := (List.zipWith (fun x y => x - k * y) a b).take j ++ a.drop j
theorem subTo_zero (k : Int) (a b : List Int) : subTo k a b 0 = a := by simp [subTo]
theorem subTo_full {k : Int} {a b : List Int} {n : Nat} (ha : a.length = n) (hb : b.length = n) : subTo k a b n = List.zipWith (fun x y => x - k * y) a b := by
  unfold subTo
  rw [List.drop_of_length_le (by omega), List.append_nil, List.take_of_length_le (by simp; omega)]
theorem subTo_length {k : Int} {a b : List Int} {n j : Nat} (ha : a.length = n) (hb : b.length = n) (hj : j ≤ n) : (subTo k a b j).length = n := by
  unfold subTo; simp; omega
theorem subTo_set {k : Int} {a b : List Int} {n j : Nat} (ha : a.length = n) (hb : b.length = n) (hj : j < n) : (subTo k a b j).set j (nthI a j - k * nthI b j) = subTo k a b (j + 1) := by
  have hz : (List.zipWith (fun x y => x - k * y) a b).length = n := by simp; omega
  unfold subTo
  rw [List.take_succ_eq_append_getElem (by omega), List.set_append_right _ _ (by simp; omega)]
  rw [show (List.take j (List.zipWith (fun x y => x - k * y) a b)).length = j by simp; omega, Nat.sub_self, List.drop_eq_getElem_cons (by omega), List.set_cons_zero, List.append_assoc]
  congr 1
  simp only [List.getElem_zipWith, List.singleton_append, List.cons.injEq, and_true]
  unfold nthI
  rw [List.getD_eq_getElem?_getD, List.getElem?_eq_getElem (by omega), List.getD_eq_getElem?_getD, List.getElem?_eq_getElem (by omega)]
  rfl
theorem subTo_at {k : Int} {a b : List Int} {n j : Nat} (ha : a.length = n) (hb : b.length = n) (hj : j < n) : (subTo k a b j)[j]? = some (nthI a j) := by
  have hz : (List.zipWith (fun x y => x - k * y) a b).length = n := by simp; omega
  unfold subTo
  rw [List.getElem?_append_right (by simp; omega), List.length_take, hz, Nat.min_eq_left (by omega), Nat.sub_self, List.getElem?_drop]
  unfold nthI
  rw [List.getD_eq_getElem?_getD, Nat.add_zero, List.getElem?_eq_getElem (by omega)]
  rfl
theorem subTo_same {k : Int} {a b : List Int} {n j : Nat} (ha : a.length = n) (hb : b.length = n) (hj : j < n) (h0 : nthI b j = 0) : subTo k a b (j + 1) = subTo k a b j := by
  rw [← subTo_set ha hb hj, h0, Int.mul_zero, Int.sub_zero]
  exact List.ext_getElem? fun i => by
    rw [List.getElem?_set]
    by_cases e : j = i
    · subst e
      rw [if_pos rfl, subTo_at ha hb hj, if_pos (by rw [subTo_length ha hb (Nat.le_of_lt hj)]; exact hj)]
    · rw [if_neg e]
theorem strs_at {l : List Int} {j : Nat} (h : j < l.length) : (strs l)[j]? = some (.string (I (nthI l j))) := by
  unfold strs nthI
  rw [List.getElem?_map, List.getD_eq_getElem?_getD, List.getElem?_eq_getElem h]; rfl
theorem strs_set (l : List Int) (j : Nat) (z : Int) : (strs l).set j (.string (I z)) = strs (l.set j z) := by
  unfold strs; rw [List.map_set]

set_option maxRecDepth 100000 in
set_option maxHeartbeats 1000000 in
theorem less1_c (g n ca bk : Nat) (vb : Value) (k : Int) (a b : List Int) (w0 w : World) (B : Nat) (he : Env w0) (h0 : Ext w0 w) (hB : w0.heap.size ≤ B) (ha : a.length = n) (hb : b.length = n) (hn : n ≤ 1000)
    (hown : w.ownsRow B 76 1 (.slice (some ⟨g, 0, none⟩) n ca) n (strs a)) (hvb : ∀ W, w.grownBy W (some g) → Sl W vb (strs b)) (hck : ∀ W, w.grownBy W (some g) → W.cell? ⟨bk, 0, none⟩ = some (.string (I k)))
    (fk : Fit k) (fa : ∀ z ∈ a, Fit z) (fb : ∀ z ∈ b, Fit z) (fm : ∀ z ∈ b, Fit (k * z)) :
    Calls Tryz.prog 147 #[.slice (some ⟨g, 0, none⟩) n ca, vb, .pointer (some ⟨bk, 0, none⟩)] w fun e w' => (∃ v, e = .returned v) ∧ w'.ownsRow B 76 1 (.slice (some ⟨g, 0, none⟩) n ca) n (strs (List.zipWith (fun x y => x - k * y) a b)) ∧ w.grownBy w' (some g) := by
  have hg0 : w.grownBy w (some g) := ⟨rfl, rfl, rfl, Nat.le_refl _, fun _ _ _ => rfl⟩
  obtain ⟨ab, cb, rfl, _, _, _⟩ := (hvb w hg0).parts
  have hbl : (strs b).length = n := by rw [strs_length, hb]
  rw [hbl] at hvb ⊢
  clear hbl
  have hgB : w0.heap.size ≤ g := Nat.le_trans hB (World.ownsRow.lt hown g rfl).1
  have hEx : ∀ W, w.grownBy W (some g) → Ext w0 W := fun W h => h0.grown h (fun q hq => by cases hq; exact hgB)
  have He := Lib.hid he; have Hvb := Lib.hid hvb; have Hck := Lib.hid hck; have HEx := Lib.hid hEx
  have Fk := Lib.hid fk; have Fa := Lib.hid fa; have Fb := Lib.hid fb; have Fm := Lib.hid fm; have Ha := Lib.hid ha; have Hb := Lib.hid hb; have Hg0 := Lib.hid hg0
  have Hown0 : Hid (w.ownsRow B 76 1 (.slice (some ⟨g, 0, none⟩) n ca) n (strs (subTo k a b 0))) := Lib.hid (by rw [subTo_zero]; exact hown)
  clear he h0 hB hown hvb hck fk fa fb fm hgB hEx ha hb hg0
  go_enter Tryz.func147, Tryz.ntmps147
  go_wp2_with fail
  go_loopw [9] (fun v9 wr => ∃ j : Nat, v9 = .int .i64 j ∧ j ≤ n ∧ wr.ownsRow B 76 1 (.slice (some ⟨g, 0, none⟩) n ca) n (strs (subTo k a b j)) ∧ w.grownBy wr (some g)) (fun v9 _ => n - (intOf v9).toNat)
  case atStart => exact ⟨0, rfl, Nat.zero_le _, Hown0.out, Hg0.out⟩
  case round =>
    obtain ⟨j, rfl, hj, hown, hg⟩ := hrel
    have Hown := Lib.hid hown; have Hg := Lib.hid hg
    clear hown hg
    by_cases hjn : j < n
    · obtain ⟨b2, o2, cb2, e2, _, _, hcb⟩ : ∃ b2 o2 cb2, ab = some ⟨b2, o2, none⟩ ∧ cb2 = cb ∧ True ∧ wr.cell? ⟨b2, o2 + j, none⟩ = some (.string (I (nthI b j))) := by
        obtain ⟨ab', cb', e, _, _, hc⟩ := (Hvb.out wr Hg.out).parts
        injection e with e1 e3 e4
        subst e1; subst e4
        obtain ⟨b2, o2, e5, h5⟩ := hc j _ (strs_at (by rw [Hb.out]; exact hjn))
        exact ⟨b2, o2, _, e5, rfl, trivial, h5⟩
      subst e2
      have hca := own_cellAt Hown.out (j := j) (u := .string (I (nthI a j))) (by unfold strs; rw [List.getElem?_map, subTo_at Ha.out Hb.out hjn]; rfl)
      have hzb := I_is_zero (nthI b j)
      have hya := Fa.out (nthI a j) (nthI_mem' (by rw [Ha.out]; exact hjn))
      have hyb := Fb.out (nthI b j) (nthI_mem' (by rw [Hb.out]; exact hjn))
      have hym := Fm.out (nthI b j) (nthI_mem' (by rw [Hb.out]; exact hjn))
      have hset := subTo_set (k := k) Ha.out Hb.out hjn
      have hsame := subTo_same (k := k) Ha.out Hb.out hjn
      have Hset := Lib.hid hset; have Hsame := Lib.hid hsame
      clear hset hsame
      generalize nthI b j = y at *
      generalize nthI a j = x at *
      have hj0 : (0 : Int) ≤ (j : Int) := by omega
      have hj1 : (j : Int) < (n : Int) := by omega
      by_cases hy0 : y = 0
      · have hq1 : ((I y).toList == [48]) = true := by rw [hzb, decide_eq_true hy0]
        have hq : ((I y).toList != [48]) = false := by rw [bne, hq1]; rfl
        have hs := Hsame.out hy0
        have Hs := Lib.hid hs
        clear hzb hy0 hs
        go_wp2_with fail
        go_roundw
        case rel => exact ⟨j + 1, by go_num, by omega, by rw [Hs.out]; exact Hown.out, Hg.out⟩
        case measure => simp [intOf]; omega
      · have hq1 : ((I y).toList == [48]) = false := by rw [hzb, decide_eq_false hy0]
        have hq : ((I y).toList != [48]) = true := by rw [bne, hq1]; rfl
        have hck := Hck.out wr.drew (by exact ⟨Hg.out.os, Hg.out.tape, Hg.out.output, Hg.out.size, Hg.out.block⟩)
        have hEd : Ext w0 wr.drew := (HEx.out wr Hg.out).drew
        have hca2 : wr.drew.cell? ⟨g, j, none⟩ = some (.string (I x)) := hca
        have hod : wr.drew.ownsRow B 76 1 (.slice (some ⟨g, 0, none⟩) n ca) n (strs (subTo k a b j)) := Hown.out
        have hgd : w.grownBy wr.drew (some g) := ⟨Hg.out.os, Hg.out.tape, Hg.out.output, Hg.out.size, Hg.out.block⟩
        have hmu := mul_c k y wr.drew (He.out.ext hEd) Fk.out hyb
        have hsu := fun W (h : Ext w0 W) => wsub_c x (k * y) W (He.out.ext h) hya hym
        have Hmu := Lib.hid hmu; have Hsu := Lib.hid hsu; have HEd := Lib.hid hEd; have Hod := Lib.hid hod; have Hgd := Lib.hid hgd; have Hca2 := Lib.hid hca2
        clear hzb hy0 hmu hsu hEd hod hgd hya hyb hym
        go_wp2_with fail
        go_region_law (first
          | (go_simp; go_at_call 40; refine Hmu.out.mono ?_; rintro e V1 ⟨rfl, hx1⟩; have hcV := hx1.cell Hca2.out; have HcV := Lib.hid hcV; have HE1 := Lib.hid (HEd.out.trans hx1); have Ho1 := Lib.hid (hx1.own Hod.out); have Hg1 := Lib.hid (only_ext Hgd.out hx1); clear hx1)
          | (go_simp; go_at_call 148; refine (Hsu.out V1 HE1.out).mono ?_; rintro e V2 ⟨rfl, hx2⟩; have hcV2 := hx2.cell HcV.out; have Ho2 := Lib.hid (hx2.own Ho1.out); have Hg2 := Lib.hid (only_ext Hg1.out hx2); have hf2 := World.ownsRow.frozenAt Ho2.out j; clear hx2))
        all_goals
          have hst := (World.ownsRow.stored Ho2.out j (.string (I (x - k * y)))).1
          have hgs := only_setCell Hg2.out (p := ⟨g, j, none⟩) rfl (.string (I (x - k * y)))
          rw [strs_set, Hset.out] at hst
          have Hst := Lib.hid hst; have Hgs := Lib.hid hgs
          clear hst hgs
          generalize V2.setCell ⟨g, j, none⟩ (.string (I (x - k * y))) = V3 at *
          go_wp2_with fail
          go_roundw
          case rel => exact ⟨j + 1, by go_num, by omega, Hst.out, Hgs.out⟩
          case measure => simp [intOf]; omega
    · obtain rfl : j = n := by omega
      have hfin := Hown.out
      rw [subTo_full Ha.out Hb.out] at hfin
      have Hfin := Lib.hid hfin; clear hfin
      go_wp2
      go_end0
      exact ⟨⟨_, rfl⟩, Hfin.out, Hg.out⟩

end Go.Proofs.YtkamjjjimbbdmaaGreatDoor

namespace Go.Proofs.YtkamjjjimbbdmaaGreatDoor
open Go.RowKit Go.Lib Go.Shelf

set_option maxHeartbeats 1000000 in
theorem less1_nil (va p : Value) (w : World) :
    Calls Tryz.prog 147 #[va, .slice none 0 0, p] w fun e w' => (∃ v, e = .returned v) ∧ Ext w w' := by
  go_enter Tryz.func147, Tryz.ntmps147
  go_wp2_with fail
  go_loopw [9] (fun v9 wr => v9 = .int .i64 0 ∧ Ext w wr) (fun _ _ => 0)
  case atStart => exact ⟨rfl, Ext.refl _⟩
  case round =>
    obtain ⟨rfl, hext⟩ := hrel
    have Hext := Lib.hid hext; clear hext
    go_wp2
    go_end0
    exact ⟨⟨_, rfl⟩, Hext.out⟩

set_option maxRecDepth 100000 in
set_option maxHeartbeats 1000000 in
theorem hless_c (g n ca : Nat) (vy vb : Value) (k : Int) (a b : List Int) (w0 w : World) (B : Nat) (he : Env w0) (h0 : Ext w0 w) (hB : w0.heap.size ≤ B) (ha : a.length = n) (hb : b.length = n) (hn : n ≤ 1000)
    (hown : w.ownsRow B 76 1 (.slice (some ⟨g, 0, none⟩) n ca) n (strs a)) (hvb : ∀ W, w.grownBy W (some g) → Sl W vb (strs b))
    (fk : Fit k) (fa : ∀ z ∈ a, Fit z) (fb : ∀ z ∈ b, Fit z) (fm : ∀ z ∈ b, Fit (k * z)) :
    Calls Tryz.prog 103 #[.agg #[.slice (some ⟨g, 0, none⟩) n ca, vy], .string (I k), .agg #[vb, .slice none 0 0]] w fun e w' => (∃ v, e = .returned v) ∧ w'.ownsRow B 76 1 (.slice (some ⟨g, 0, none⟩) n ca) n (strs (List.zipWith (fun x y => x - k * y) a b)) ∧ w.grownBy w' (some g) := by
  have hg0 : w.grownBy w (some g) := ⟨rfl, rfl, rfl, Nat.le_refl _, fun _ _ _ => rfl⟩
  have hgw : g < w.heap.size := (World.ownsRow.lt hown g rfl).2
  have hzk := I_is_zero k
  -- the three boxes
  have hE1 : Ext w (((w.alloc (.cells #[.slice (some ⟨g, 0, none⟩) n ca, vy] 118)).alloc (.cells #[.string (I k)] 76)).alloc (.cells #[vb, .slice none 0 0] 118)) := (((Ext.refl w).alloc _).alloc _).alloc _
  have hb0 := ((Ext.refl _).alloc (.cells #[vb, .slice none 0 0] 118)).cell (((Ext.refl _).alloc (.cells #[.string (I k)] 76)).cell (two_new0 w (.slice (some ⟨g, 0, none⟩) n ca) vy 118))
  have hb1 := ((Ext.refl _).alloc (.cells #[vb, .slice none 0 0] 118)).cell (((Ext.refl _).alloc (.cells #[.string (I k)] 76)).cell (two_new1 w (.slice (some ⟨g, 0, none⟩) n ca) vy 118))
  have hbk := ((Ext.refl _).alloc (.cells #[vb, .slice none 0 0] 118)).cell (box_new (w.alloc (.cells #[.slice (some ⟨g, 0, none⟩) n ca, vy] 118)) (.string (I k)) 76)
  have hm0 := two_new0 ((w.alloc (.cells #[.slice (some ⟨g, 0, none⟩) n ca, vy] 118)).alloc (.cells #[.string (I k)] 76)) vb (.slice none 0 0) 118
  have hm1 := two_new1 ((w.alloc (.cells #[.slice (some ⟨g, 0, none⟩) n ca, vy] 118)).alloc (.cells #[.string (I k)] 76)) vb (.slice none 0 0) 118
  simp only [World.size_alloc] at hbk hm0 hm1
  generalize hw1 : ((w.alloc (.cells #[.slice (some ⟨g, 0, none⟩) n ca, vy] 118)).alloc (.cells #[.string (I k)] 76)).alloc (.cells #[vb, .slice none 0 0] 118) = W1 at *
  by_cases hk0 : k = 0
  · have hq1 : ((I k).toList == [48]) = true := by rw [hzk, decide_eq_true hk0]
    have hz : List.zipWith (fun x y => x - k * y) a b = a := by
      subst hk0
      apply List.ext_getElem
      · simp; omega
      · intro i h1 h2; simp
    rw [hz]
    have Hown := Lib.hid (hE1.own hown); have Hg := Lib.hid (only_ext hg0 hE1)
    clear hown hvb hzk hk0 fk fa fb fm hg0 hz
    go_enter Tryz.func103, Tryz.ntmps103
    go_wp2
    (try simp only [Exit.inBlock, Exit.then])
    refine bodyPost_ret (results_none rfl _ _ _) rfl ?_
    exact ⟨⟨_, rfl⟩, Hown.out, Hg.out⟩
  · have hq1 : ((I k).toList == [48]) = false := by rw [hzk, decide_eq_false hk0]
    have hg1 := only_ext hg0 hE1
    have hl1 := less1_c g n ca (w.heap.size + 1) vb k a b w0 W1 B he (h0.trans hE1) hB ha hb hn (hE1.own hown) (fun W h => hvb W (hg1.trans h)) (fun W h => h.cell hbk (by simp; omega)) fk fa fb fm
    have Hl1 := Lib.hid hl1; have Hg1 := Lib.hid hg1; have Hb1 := Lib.hid hb1; have Hm1 := Lib.hid hm1; have Hgw := Lib.hid hgw
    clear hl1 hown hvb hzk hk0 fk fa fb fm hg0 hg1
    go_enter Tryz.func103, Tryz.ntmps103
    go_wp2_with fail
    refine Hl1.out.mono ?_
    rintro e W2 ⟨⟨v2, rfl⟩, hown2, hg2⟩
    have hb12 := hg2.cell Hb1.out (by have := Hgw.out; simp; omega)
    have hm12 := hg2.cell Hm1.out (by have := Hgw.out; simp; omega)
    have Hown2 := Lib.hid hown2; have Hg2 := Lib.hid (Hg1.out.trans hg2)
    have Hnil := Lib.hid (fun va p => less1_nil va p W2)
    clear hown2 hg2
    go_wp2_with fail
    refine (Hnil.out _ _).mono ?_
    rintro e W3 ⟨⟨v3, rfl⟩, hx3⟩
    have Hx3 := Lib.hid hx3; clear hx3
    go_wp2
    go_end0
    exact ⟨⟨_, rfl⟩, Hx3.out.own Hown2.out, only_ext Hg2.out Hx3.out⟩

end Go.Proofs.YtkamjjjimbbdmaaGreatDoor

namespace Go.Proofs.YtkamjjjimbbdmaaGreatDoor
open Go.RowKit Go.Lib Go.Shelf

theorem str_ne0 (z : Int) : ((I z).toList != [48]) = (z != 0) := by
  rw [bne, I_is_zero]
  by_cases h : z = 0
  · subst h; rfl
  · rw [decide_eq_false h]
    have : (z != 0) = true := by rw [bne_iff_ne]; exact h
    rw [this]; rfl
set_option maxHeartbeats 400000 in
theorem contains1_c (z : Int) (w : World) : Calls Tryz.prog 108 #[.string (I z)] w fun e w' => e = .returned (.bool (z != 0)) ∧ ∃ q, w' = w.drewN q := by
  have h := str_ne0 z
  rw [← h]
  cases hb : ((I z).toList != [48]) <;>
  · have h1 : ((I z).toList == [48]) = !((I z).toList != [48]) := by rw [bne, Bool.not_not]
    rw [hb] at h1
    go_enter Tryz.func108, Tryz.ntmps108
    go_wp2
    go_ret
    exact ⟨rfl, 0, rfl⟩
set_option maxHeartbeats 400000 in
theorem reduce1_c (z : Int) (w : World) : Calls Tryz.prog 153 #[.string (I z)] w fun e w' => e = .returned (.bool (z != 0)) ∧ ∃ q, w' = w.drewN q := by
  have h := str_ne0 z
  rw [← h]
  cases hb : ((I z).toList != [48]) <;>
  · have h1 : ((I z).toList == [48]) = !((I z).toList != [48]) := by rw [bne, Bool.not_not]
    rw [hb] at h1
    go_enter Tryz.func153, Tryz.ntmps153
    go_wp2
    go_ret
    exact ⟨rfl, 0, rfl⟩

theorem contains1_pred (w : World) : Go.Proofs.PredAt Tryz.prog 108 #[] (fun z : Int => Value.string (I z)) (fun z => z != 0) w := fun W x _ => contains1_c x W
theorem contains1_enters : ∀ args w, (callFunc 108 args).run Tryz.prog w = .ok (.enter 108 args) w := enters_of Tryz.func108 (by kernel_rfl) rfl
theorem reduce1_pred (w : World) : Go.Proofs.PredAt Tryz.prog 153 #[] (fun z : Int => Value.string (I z)) (fun z => z != 0) w := fun W x _ => reduce1_c x W
theorem reduce1_enters : ∀ args w, (callFunc 153 args).run Tryz.prog w = .ok (.enter 153 args) w := enters_of Tryz.func153 (by kernel_rfl) rfl
theorem containsS_c (v : Value) (x : List Int) (w : World) (hx : Sl w v (strs x)) (hl : x.length ≤ 1000000) :
    Calls Tryz.prog 107 #[v, .func (.func 108) #[] #[]] w fun e w' => e = .returned (.bool (x.any fun n => n != 0)) ∧ Ext w w' := by
  obtain ⟨a, c, rfl, _, _, hc⟩ := hx.parts
  rw [strs_length]
  cases x with
  | nil => exact (AnyE.slices_ContainsFunc_empty Tryz.lContainsS a c _ w).mono fun e w' ⟨h, hw⟩ => ⟨h, by rw [hw]; exact Ext.refl _⟩
  | cons z r =>
    obtain ⟨b, off, rfl, _⟩ := hc 0 _ (strs_at (l := z :: r) (by simp))
    have h := AnyE.slices_ContainsFunc Tryz.lContainsS (fun z : Int => Value.string (I z)) (fun n => n != 0) 108 #[] contains1_enters b off (z :: r).length c (z :: r) w (contains1_pred w) (Nat.le_refl _) (by omega) (fun j hj => by
      obtain ⟨b2, off2, e2, hcell⟩ := hc j _ (strs_at hj)
      simp only [Option.some.injEq, Addr.mk.injEq, and_true] at e2
      obtain ⟨rfl, rfl⟩ := e2
      rw [hcell]
      unfold nthI
      rw [List.getD_eq_getElem?_getD, List.getElem?_eq_getElem hj, getElem!_pos _ j hj]
      rfl)
    rw [List.take_length] at h
    exact h.mono fun e w' ⟨he, q, hw⟩ => ⟨he, by rw [hw]; exact (Ext.refl w).drewN q⟩
theorem indexS_c (v : Value) (x : List Int) (w : World) (hx : Sl w v (strs x)) (hl : x.length ≤ 1000000) :
    Calls Tryz.prog 152 #[v, .func (.func 153) #[] #[]] w fun e w' => e = .returned (.int .i64 (piv x)) ∧ Ext w w' := by
  obtain ⟨a, c, rfl, _, _, hc⟩ := hx.parts
  rw [strs_length]
  cases x with
  | nil => exact (AnyE.slices_IndexFunc_empty Tryz.lIndexS a c _ w).mono fun e w' ⟨h, hw⟩ => ⟨h, by rw [hw]; exact Ext.refl _⟩
  | cons z r =>
    obtain ⟨b, off, rfl, _⟩ := hc 0 _ (strs_at (l := z :: r) (by simp))
    have h := AnyE.slices_IndexFunc Tryz.lIndexS (fun z : Int => Value.string (I z)) (fun n => n != 0) 153 #[] reduce1_enters b off (z :: r).length c (z :: r) w (reduce1_pred w) (Nat.le_refl _) (by omega) (fun j hj => by
      obtain ⟨b2, off2, e2, hcell⟩ := hc j _ (strs_at hj)
      simp only [Option.some.injEq, Addr.mk.injEq, and_true] at e2
      obtain ⟨rfl, rfl⟩ := e2
      rw [hcell]
      unfold nthI
      rw [List.getD_eq_getElem?_getD, List.getElem?_eq_getElem hj, getElem!_pos _ j hj]
      rfl)
    rw [List.take_length] at h
    exact h.mono fun e w' ⟨he, q, hw⟩ => ⟨he, by rw [hw]; exact (Ext.refl w).drewN q⟩

end Go.Proofs.YtkamjjjimbbdmaaGreatDoor

namespace Go.Proofs.YtkamjjjimbbdmaaGreatDoor
open Go.RowKit Go.Lib

theorem fit_pow10 {z : Int} {i : Nat} (hi : i ≤ 1000) (h : z.natAbs < 10 ^ (10 * (i + 1))) : Fit z := by
  unfold Fit
  have := Dec.nDigits_le (n := z.natAbs) (k := 10 * (i + 1)) (by omega) h
  omega
theorem div_abs (a b : Int) (hb : 0 < b) : (a / b).natAbs ≤ a.natAbs := by
  rcases Int.lt_or_le a 0 with h | h
  · have h1 : a ≤ a / b := by
      rw [Int.le_ediv_iff_mul_le hb]
      have := Int.mul_le_mul_of_nonpos_left (a := a) (b := b) (c := 1) (by omega) (by omega)
      omega
    have h2 : a / b < 0 := Int.ediv_neg_of_neg_of_pos h hb
    omega
  · have h1 := Int.ediv_le_self b h
    have h2 := Int.ediv_nonneg h (Int.le_of_lt hb)
    omega
theorem fdv_abs (a b : Int) (hb : b ≠ 0) : (fdv a b).natAbs ≤ a.natAbs := by
  unfold fdv
  split
  · exact div_abs a b (by assumption)
  · have := div_abs (-a) (-b) (by omega)
    rwa [Int.natAbs_neg] at this
/-- What is left of a row behind one row of the form. -/
def redStep (q : Int) (l r : List Int) : List Int := List.zipWith (fun x y => x - q * y) l r
theorem redStep_bound {q : Int} {l r : List Int} {i : Nat} (hq : q.natAbs < 10 ^ (10 * (i + 1))) (hl : ∀ z ∈ l, z.natAbs < 10 ^ (10 * (i + 1))) (hr : ∀ z ∈ r, -1000000000 ≤ z ∧ z ≤ 1000000000) : ∀ z ∈ redStep q l r, z.natAbs < 10 ^ (10 * (i + 1 + 1)) := by
  intro z hz
  unfold redStep at hz
  obtain ⟨j, hj, rfl⟩ := List.getElem_of_mem hz
  rw [List.getElem_zipWith]
  have h1 := hl _ (List.getElem_mem (by simp at hj; omega : j < l.length))
  have h2 := hr _ (List.getElem_mem (by simp at hj; omega : j < r.length))
  generalize l[j]'(by simp at hj; omega) = x at *
  generalize r[j]'(by simp at hj; omega) = y at *
  rw [show 10 * (i + 1 + 1) = 10 * (i + 1) + 10 by omega, Nat.pow_add]
  generalize 10 ^ (10 * (i + 1)) = M at *
  have h3 : (q * y).natAbs ≤ M * 1000000000 := by
    rw [Int.natAbs_mul]
    exact Nat.mul_le_mul (Nat.le_of_lt hq) (by omega)
  have h4 : (x - q * y).natAbs ≤ x.natAbs + (q * y).natAbs := by omega
  have h5 : (10 : Nat) ^ 10 = 10000000000 := by decide
  rw [h5]
  omega

end Go.Proofs.YtkamjjjimbbdmaaGreatDoor

namespace Go.Proofs.YtkamjjjimbbdmaaGreatDoor
open Go.RowKit Go.Lib

set_option maxRecDepth 100000 in
set_option maxHeartbeats 1000000 in
theorem hopen_c (vm vx : Value) (m : List (List Int)) (x : List Int) (w : World) (hm : Mat w vm m) (hx : Sl w vx (i64s x)) (hc : tChk m = 0) (hf : isFm m = true) (hr : rowChk x = 0) (hlen : 0 < m.length → x.length = (m.getD 0 []).length)
    (hrc : ∀ W, Ext w W → Calls Tryz.prog 105 #[vx] W fun e w' => e = .returned (.int .i64 (rowChk x)) ∧ Ext W w') :
    Calls Tryz.prog 71 #[vm, vx] w fun e w' => e = .returned (.int .i64 0) ∧ Ext w w' := by
  obtain ⟨z1, z2, z3⟩ := tChk_zero hc
  have hi := isformE_c vm m w hm (fun i => by
    rw [List.getD_eq_getElem?_getD]
    by_cases h : i < m.length
    · rw [List.getElem?_eq_getElem h]
      show (m[i]).length ≤ 1000000
      rw [(z3 _ (List.getElem_mem h)).1]; omega
    · rw [List.getElem?_eq_none (by omega)]; simp) (by omega)
  unfold isFmE at hi
  rw [if_neg (by simpa using hc), hf, hc] at hi
  rw [hr] at hrc
  obtain ⟨vs, hvs, hsl, hrow⟩ := hm
  obtain ⟨am, cm, rfl, _, hlc, hcm⟩ := hsl.parts
  obtain ⟨ax, cx, rfl, _, _, _⟩ := hx.parts
  rw [i64s_length] at hrc ⊢
  rw [hvs] at hi hlc ⊢
  have Hi := Lib.hid hi; have Hrc := Lib.hid hrc
  rcases Nat.eq_zero_or_pos m.length with hm0 | hm0
  · rw [hm0] at Hi ⊢
    clear hsl hrow hcm hlen hi hrc hvs hc hf hr z1 z2 z3 hx hlc hm0
    go_enter Tryz.func71, Tryz.ntmps71
    go_wp2_with fail
    refine Hi.out.mono ?_
    rintro e w1 ⟨rfl, hx1⟩
    have Hx1 := Lib.hid hx1; clear hx1
    go_wp2_with fail
    refine (Hrc.out w1 Hx1.out).mono ?_
    rintro e w2 ⟨rfl, hx2⟩
    have Hx2 := Lib.hid (Hx1.out.trans hx2); clear hx2
    go_wp2
    go_ret
    exact ⟨rfl, Hx2.out⟩
  · obtain ⟨u, hu⟩ : ∃ u, vs[0]? = some u := ⟨_, List.getElem?_eq_getElem (by omega)⟩
    obtain ⟨b, off, e1, hcu⟩ := hcm 0 u hu
    subst e1
    obtain ⟨a0, c0, rfl, _, _, _⟩ := (hrow 0 u hu).parts
    rw [i64s_length, ← hlen hm0, Nat.add_zero] at hcu
    have Hcu := Lib.hid hcu
    have hmi : (0 : Int) < (m.length : Int) := by omega
    have hne : ((x.length : Int) != (x.length : Int)) = false := by rw [bne_eq_false_iff_eq]
    clear hsl hrow hcm hlen hi hrc hvs hc hf hr z1 z2 z3 hx hlc hu hcu
    go_enter Tryz.func71, Tryz.ntmps71
    go_wp2_with fail
    refine Hi.out.mono ?_
    rintro e w1 ⟨rfl, hx1⟩
    have Hx1 := Lib.hid hx1; clear hx1
    go_wp2_with fail
    refine (Hrc.out w1 Hx1.out).mono ?_
    rintro e w2 ⟨rfl, hx2⟩
    have Hx2 := Lib.hid (Hx1.out.trans hx2); clear hx2
    have hc2 := Hx2.out.cell Hcu.out
    go_wp2
    go_ret
    exact ⟨rfl, Hx2.out⟩

end Go.Proofs.YtkamjjjimbbdmaaGreatDoor

namespace Go.Proofs.YtkamjjjimbbdmaaGreatDoor
open Go.RowKit Go.Lib

set_option maxHeartbeats 1000000 in
theorem hcont_c (vm vx : Value) (R : List Int) (w : World) (hR : R.length ≤ 1000000)
    (hred : Calls Tryz.prog 106 #[vm, vx] w fun e w' => ∃ a c v2, e = .returned (.tuple #[.slice a R.length c, v2]) ∧ Sl w' (.slice a R.length c) (strs R) ∧ Ext w w') :
    Calls Tryz.prog 72 #[vm, vx] w fun e w' => ∃ v2, e = .returned (.tuple #[v2, .bool (!(R.any fun n => n != 0))]) ∧ Ext w w' := by
  have Hred := Lib.hid hred; clear hred
  go_enter Tryz.func72, Tryz.ntmps72
  go_wp2_with fail
  refine Hred.out.mono ?_
  rintro e w1 ⟨a, c, v2, rfl, hs, hx1⟩
  have hcs := containsS_c _ R w1 hs hR
  have Hcs := Lib.hid hcs; have Hx1 := Lib.hid hx1; clear hs hx1 hcs
  go_wp2_with fail
  refine Hcs.out.mono ?_
  rintro e w2 ⟨rfl, hx2⟩
  have Hx2 := Lib.hid (Hx1.out.trans hx2); clear hx2
  go_wp2
  go_ret2
  exact ⟨_, rfl, Hx2.out⟩

set_option maxHeartbeats 1000000 in
theorem hContains_c (vm vx : Value) (b : Bool) (w : World)
    (hop : Calls Tryz.prog 71 #[vm, vx] w fun e w' => e = .returned (.int .i64 0) ∧ Ext w w')
    (hco : ∀ W, Ext w W → Calls Tryz.prog 72 #[vm, vx] W fun e w' => ∃ v2, e = .returned (.tuple #[v2, .bool b]) ∧ Ext W w') :
    Calls Tryz.prog 35 #[vm, vx] w fun e w' => e = .returned (.tuple #[.bool b, .int .i64 0]) ∧ Ext w w' := by
  have Hop := Lib.hid hop; have Hco := Lib.hid hco; clear hop hco
  go_enter Tryz.func35, Tryz.ntmps35
  go_wp2_with fail
  refine Hop.out.mono ?_
  rintro e w1 ⟨rfl, hx1⟩
  have Hx1 := Lib.hid hx1; clear hx1
  go_wp2_with fail
  refine (Hco.out w1 Hx1.out).mono ?_
  rintro e w2 ⟨v2, rfl, hx2⟩
  have Hx2 := Lib.hid (Hx1.out.trans hx2); clear hx2
  go_wp2
  go_ret2
  exact ⟨rfl, Hx2.out⟩

end Go.Proofs.YtkamjjjimbbdmaaGreatDoor
