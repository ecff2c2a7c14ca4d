/- Walk: the law CommaForms (printed by forms.py). -/
import Derived.Test.YtkamjjjimbbdmaaGreatDoorLeastIn
import Derived.Test.YtkamjjjimbbdmaaGreatDoorRecC
namespace Go.Proofs.YtkamjjjimbbdmaaGreatDoor
open Go.RowKit Go.Lib Go.Shelf Go.Sort

set_option maxRecDepth 100000 in
set_option maxHeartbeats 4000000 in
theorem forms_no (n q h : Nat) (a b c d : Int) (vm : Value) (m : List (List Int)) (w : World) (hm : Mat w vm m)
    (hmk : ∀ W, Ext w W → Calls Tryz.prog 12 #[.agg #[.int .u8 n, .int .i8 a, .int .i8 b, .int .i8 c, .int .i8 d, .int .u8 h]] W fun e w' => ∃ vp vx, e = .returned (.tuple #[.agg #[vp, .int .i64 (q : Int), vx], .bool false]) ∧ OwnI w' W.heap.size vp (ints (tenP n)) ∧ OwnI w' W.heap.size vx (planX n [a, b, c, d]) ∧ Ext W w')
    (hkn : ∀ W, Ext w W → Calls Tryz.prog 13 #[] W fun e w' => e = .returned (.bool true) ∧ Ext W w') :
    Calls Tryz.prog 9 #[.agg #[.int .u8 n, .int .i8 a, .int .i8 b, .int .i8 c, .int .i8 d, .int .u8 h], vm] w fun e w' => e = .returned (.bool true) ∧ Ext w w' := by
  obtain ⟨vs, hvs, hsl, _⟩ := hm
  obtain ⟨am, cm, rfl, _, _, _⟩ := hsl.parts
  have Hmk := Lib.hid hmk; have Hkn := Lib.hid hkn
  rw [hvs]
  clear hmk hkn hsl hvs
  have hE0 : Ext w (w.alloc (.cells #[.int .u8 n, .int .i8 a, .int .i8 b, .int .i8 c, .int .i8 d, .int .u8 h] 27)) := (Ext.refl w).alloc _
  have HE0 := Lib.hid hE0; clear hE0
  go_enter Tryz.func9, Tryz.ntmps9
  go_wp2_with fail
  generalize w.alloc (.cells #[.int .u8 n, .int .i8 a, .int .i8 b, .int .i8 c, .int .i8 d, .int .u8 h] 27) = W0 at *
  refine (Hmk.out W0 HE0.out).mono ?_
  rintro e W1 ⟨vp, vx, rfl, hvp, hvx, hx1⟩
  obtain ⟨ap, cp, rfl⟩ := own_shape hvp
  obtain ⟨ax, cx, rfl⟩ := own_shape hvx
  have hE1 := HE0.out.trans hx1
  have Hvp := Lib.hid hvp.sl; have Hvx := Lib.hid hvx.sl; have HE1 := Lib.hid hE1; clear hvp hvx hx1 hE1
  have hbq := World.alloc_heap_new W1 (.cells #[.slice ap (ints (tenP n)).length cp, .int .i64 (q : Int), .slice ax (planX n [a, b, c, d]).length cx] 32)
  have hE2 : Ext W1 (W1.alloc (.cells #[.slice ap (ints (tenP n)).length cp, .int .i64 (q : Int), .slice ax (planX n [a, b, c, d]).length cx] 32)) := (Ext.refl W1).alloc _
  have Hbq := Lib.hid hbq; have HE2 := Lib.hid hE2; clear hbq hE2
  go_wp2_with fail
  generalize W1.alloc (.cells #[.slice ap (ints (tenP n)).length cp, .int .i64 (q : Int), .slice ax (planX n [a, b, c, d]).length cx] 32) = W2 at *
  refine (Hkn.out W2 (HE1.out.trans HE2.out)).mono ?_
  rintro e W3 ⟨rfl, hx3⟩
  have HE3 := Lib.hid ((HE1.out.trans HE2.out).trans hx3); clear hx3
  go_wp2_with fail
  refine (Hkn.out W3 HE3.out).mono ?_
  rintro e W4 ⟨rfl, hx4⟩
  have HE4 := Lib.hid (HE3.out.trans hx4); clear hx4
  go_wp2
  go_ret
  exact ⟨rfl, HE4.out⟩

set_option maxRecDepth 100000 in
set_option maxHeartbeats 4000000 in
theorem forms_long (n q h : Nat) (a b c d : Int) (vm : Value) (m : List (List Int)) (w : World) (hm : Mat w vm m) (h14 : 14 < m.length)
    (hmk : ∀ W, Ext w W → Calls Tryz.prog 12 #[.agg #[.int .u8 n, .int .i8 a, .int .i8 b, .int .i8 c, .int .i8 d, .int .u8 h]] W fun e w' => ∃ vp vx, e = .returned (.tuple #[.agg #[vp, .int .i64 (q : Int), vx], .bool true]) ∧ OwnI w' W.heap.size vp (ints (tenP n)) ∧ OwnI w' W.heap.size vx (planX n [a, b, c, d]) ∧ Ext W w')
    (hkn : ∀ W, Ext w W → Calls Tryz.prog 13 #[] W fun e w' => e = .returned (.bool true) ∧ Ext W w') :
    Calls Tryz.prog 9 #[.agg #[.int .u8 n, .int .i8 a, .int .i8 b, .int .i8 c, .int .i8 d, .int .u8 h], vm] w fun e w' => e = .returned (.bool true) ∧ Ext w w' := by
  obtain ⟨vs, hvs, hsl, _⟩ := hm
  obtain ⟨am, cm, rfl, _, _, _⟩ := hsl.parts
  have Hmk := Lib.hid hmk; have Hkn := Lib.hid hkn
  rw [hvs]
  clear hmk hkn hsl hvs
  have h15 : (14 : Int) < (m.length : Int) := by omega
  have hE0 : Ext w (w.alloc (.cells #[.int .u8 n, .int .i8 a, .int .i8 b, .int .i8 c, .int .i8 d, .int .u8 h] 27)) := (Ext.refl w).alloc _
  have HE0 := Lib.hid hE0; clear hE0
  go_enter Tryz.func9, Tryz.ntmps9
  go_wp2_with fail
  generalize w.alloc (.cells #[.int .u8 n, .int .i8 a, .int .i8 b, .int .i8 c, .int .i8 d, .int .u8 h] 27) = W0 at *
  refine (Hmk.out W0 HE0.out).mono ?_
  rintro e W1 ⟨vp, vx, rfl, hvp, hvx, hx1⟩
  obtain ⟨ap, cp, rfl⟩ := own_shape hvp
  obtain ⟨ax, cx, rfl⟩ := own_shape hvx
  have hE1 := HE0.out.trans hx1
  have Hvp := Lib.hid hvp.sl; have Hvx := Lib.hid hvx.sl; have HE1 := Lib.hid hE1; clear hvp hvx hx1 hE1
  have hbq := World.alloc_heap_new W1 (.cells #[.slice ap (ints (tenP n)).length cp, .int .i64 (q : Int), .slice ax (planX n [a, b, c, d]).length cx] 32)
  have hE2 : Ext W1 (W1.alloc (.cells #[.slice ap (ints (tenP n)).length cp, .int .i64 (q : Int), .slice ax (planX n [a, b, c, d]).length cx] 32)) := (Ext.refl W1).alloc _
  have Hbq := Lib.hid hbq; have HE2 := Lib.hid hE2; clear hbq hE2
  go_wp2_with fail
  generalize W1.alloc (.cells #[.slice ap (ints (tenP n)).length cp, .int .i64 (q : Int), .slice ax (planX n [a, b, c, d]).length cx] 32) = W2 at *
  refine (Hkn.out W2 (HE1.out.trans HE2.out)).mono ?_
  rintro e W3 ⟨rfl, hx3⟩
  have HE3 := Lib.hid ((HE1.out.trans HE2.out).trans hx3); clear hx3
  go_wp2_with fail
  refine (Hkn.out W3 HE3.out).mono ?_
  rintro e W4 ⟨rfl, hx4⟩
  have HE4 := Lib.hid (HE3.out.trans hx4); clear hx4
  go_wp2
  go_ret
  exact ⟨rfl, HE4.out⟩

set_option maxRecDepth 100000 in
set_option maxHeartbeats 4000000 in
theorem forms_yes (n q h : Nat) (a b c d : Int) (vm : Value) (m : List (List Int)) (w : World) (hm : Mat w vm m) (hml : m.length ≤ 14)
    (hin : ∀ W ap cp ax cx, Ext w W → Sl W (.slice ap (ints (tenP n)).length cp) (i64s (ints (tenP n))) → Sl W (.slice ax (planX n [a, b, c, d]).length cx) (i64s (planX n [a, b, c, d])) → (∀ r ∈ m, r.length ≤ 14) → Calls Tryz.prog 30 #[.agg #[.slice ap (ints (tenP n)).length cp, .int .i64 (q : Int), .slice ax (planX n [a, b, c, d]).length cx], vm] W fun e w' => (∃ v, e = .returned (.tuple #[v, .int .i64 (formErr (ints (tenP n)).length m)]) ∧ ∃ a l c, v = .slice a l c ∧ l ≤ 1000000 ∧ (formErr (ints (tenP n)).length m ≠ 0 → l = 0)) ∧ Ext W w')
    (hle : ∀ W ap cp ax cx, Ext w W → Sl W (.slice ap (ints (tenP n)).length cp) (i64s (ints (tenP n))) → Sl W (.slice ax (planX n [a, b, c, d]).length cx) (i64s (planX n [a, b, c, d])) → (∀ r ∈ m, r.length ≤ 14) → Calls Tryz.prog 31 #[.agg #[.slice ap (ints (tenP n)).length cp, .int .i64 (q : Int), .slice ax (planX n [a, b, c, d]).length cx], vm] W fun e w' => (∃ u y, e = .returned (.tuple #[u, .bool y, .int .i64 (formErr (ints (tenP n)).length m)]) ∧ ∃ a l c, u = .slice a l c ∧ l ≤ 1000000 ∧ (formErr (ints (tenP n)).length m ≠ 0 → l = 0 ∧ y = false)) ∧ Ext W w')
    (hmk : ∀ W, Ext w W → Calls Tryz.prog 12 #[.agg #[.int .u8 n, .int .i8 a, .int .i8 b, .int .i8 c, .int .i8 d, .int .u8 h]] W fun e w' => ∃ vp vx, e = .returned (.tuple #[.agg #[vp, .int .i64 (q : Int), vx], .bool true]) ∧ OwnI w' W.heap.size vp (ints (tenP n)) ∧ OwnI w' W.heap.size vx (planX n [a, b, c, d]) ∧ Ext W w')
    (hkn : ∀ W, Ext w W → Calls Tryz.prog 13 #[] W fun e w' => e = .returned (.bool true) ∧ Ext W w') :
    Calls Tryz.prog 9 #[.agg #[.int .u8 n, .int .i8 a, .int .i8 b, .int .i8 c, .int .i8 d, .int .u8 h], vm] w fun e w' => e = .returned (.bool true) ∧ Ext w w' := by
  have htc := fun W (hE : Ext w W) (hr : ∀ i, (m.getD i []).length ≤ 1000000) => tcheck_c vm m W (hE.mat hm) hr (by omega)
  have hif := fun W (hE : Ext w W) (hr : ∀ i, (m.getD i []).length ≤ 1000000) => isformE_c vm m W (hE.mat hm) hr (by omega)
  obtain ⟨vs, hvs, hsl, hrows⟩ := hm
  obtain ⟨am, cm, rfl, _, _, hcm⟩ := hsl.parts
  rw [hvs] at htc hif hin hle ⊢
  have hcell : ∀ k, k < m.length → ∃ b off a0 c0, am = some ⟨b, off, none⟩ ∧ w.cell? ⟨b, off + k, none⟩ = some (.slice a0 (m.getD k []).length c0) := fun k hk => by
    obtain ⟨u, hu⟩ : ∃ u, vs[k]? = some u := ⟨_, List.getElem?_eq_getElem (by omega)⟩
    obtain ⟨b, off, e1, hcu⟩ := hcm k u hu
    obtain ⟨a0, c0, rfl, _, _, _⟩ := (hrows k u hu).parts
    rw [i64s_length] at hcu
    exact ⟨b, off, a0, c0, e1, hcu⟩
  have Hmk := Lib.hid hmk; have Hkn := Lib.hid hkn; have Htc := Lib.hid htc; have Hif := Lib.hid hif; have Hin := Lib.hid hin; have Hle := Lib.hid hle; have Hcell := Lib.hid hcell
  clear hmk hkn htc hif hin hle hcell hsl hrows hcm hvs
  have h15 : ¬ (14 : Int) < (m.length : Int) := by omega
  have hE0 : Ext w (w.alloc (.cells #[.int .u8 n, .int .i8 a, .int .i8 b, .int .i8 c, .int .i8 d, .int .u8 h] 27)) := (Ext.refl w).alloc _
  have HE0 := Lib.hid hE0; clear hE0
  go_enter Tryz.func9, Tryz.ntmps9
  go_wp2_with fail
  generalize w.alloc (.cells #[.int .u8 n, .int .i8 a, .int .i8 b, .int .i8 c, .int .i8 d, .int .u8 h] 27) = W0 at *
  refine (Hmk.out W0 HE0.out).mono ?_
  rintro e W1 ⟨vp, vx, rfl, hvp, hvx, hx1⟩
  obtain ⟨ap, cp, rfl⟩ := own_shape hvp
  obtain ⟨ax, cx, rfl⟩ := own_shape hvx
  have hE1 := HE0.out.trans hx1
  have Hvp := Lib.hid hvp.sl; have Hvx := Lib.hid hvx.sl; have HE1 := Lib.hid hE1; clear hvp hvx hx1 hE1
  have hbq := World.alloc_heap_new W1 (.cells #[.slice ap (ints (tenP n)).length cp, .int .i64 (q : Int), .slice ax (planX n [a, b, c, d]).length cx] 32)
  have hE2 : Ext W1 (W1.alloc (.cells #[.slice ap (ints (tenP n)).length cp, .int .i64 (q : Int), .slice ax (planX n [a, b, c, d]).length cx] 32)) := (Ext.refl W1).alloc _
  have Hbq := Lib.hid hbq; have HE2 := Lib.hid hE2; clear hbq hE2
  go_wp2_with fail
  generalize W1.alloc (.cells #[.slice ap (ints (tenP n)).length cp, .int .i64 (q : Int), .slice ax (planX n [a, b, c, d]).length cx] 32) = W2 at *
  refine (Hkn.out W2 (HE1.out.trans HE2.out)).mono ?_
  rintro e W3 ⟨rfl, hx3⟩
  have HE3 := Lib.hid (HE2.out.trans hx3); have Hbq3 := Lib.hid (hx3.heap Hbq.out)
  clear hx3
  go_wp2_with fail
  go_loop [7] (fun v7 => ∃ k : Nat, v7 = .int .i64 k ∧ k ≤ m.length ∧ ∀ r ∈ m.take k, r.length ≤ 14) (fun v7 => m.length - (intOf v7).toNat)
  case atStart => exact ⟨0, rfl, Nat.zero_le _, fun r hr => by simp at hr⟩
  case round =>
    obtain ⟨k, rfl, hk, hall⟩ := hrel
    have Hall0 := Lib.hid hall; clear hall
    by_cases hkl : k < m.length
    · obtain ⟨b1, off1, a1, c1, rfl, hcw⟩ := Hcell.out k hkl
      have hcu := (HE1.out.trans HE3.out).cell hcw
      have hmk1 : m.take (k + 1) = m.take k ++ [m.getD k []] := by
        rw [List.take_succ_eq_append_getElem hkl, List.getD_eq_getElem?_getD, List.getElem?_eq_getElem hkl]; rfl
      have Hmk1 := Lib.hid hmk1; clear hcw hmk1
      have hk0 : (0 : Int) ≤ (k : Int) := by omega
      have hk1 : (k : Int) < (m.length : Int) := by omega
      by_cases hlk : 14 < (m.getD k []).length
      · have hlk2 : (14 : Int) < ((m.getD k []).length : Int) := by omega
        generalize (m.getD k []).length = lk at *
        go_wp2
        go_ret
        exact ⟨rfl, HE1.out.trans HE3.out⟩
      · have Hlk : Hid ((m.getD k []).length ≤ 14) := Lib.hid (by omega)
        have hlk2 : ¬ (14 : Int) < ((m.getD k []).length : Int) := by omega
        generalize hgl : (m.getD k []).length = lk at *
        have Hgl := Lib.hid hgl; clear hgl
        go_wp2_with fail
        go_round
        case rel =>
          refine ⟨k + 1, by go_num, by omega, fun r hr => ?_⟩
          rw [Hmk1.out] at hr
          rcases List.mem_append.1 hr with g | g
          · exact Hall0.out r g
          · rw [List.mem_singleton.1 g, Hgl.out]; exact Hlk.out
        case measure => simp [intOf]; omega
    · obtain rfl : k = m.length := by omega
      have hall : ∀ r ∈ m, r.length ≤ 14 := fun r hr => Hall0.out r (by rw [List.take_length]; exact hr)
      have hrow : ∀ i, (m.getD i []).length ≤ 1000000 := fun i => by
        rw [List.getD_eq_getElem?_getD]
        by_cases g : i < m.length
        · rw [List.getElem?_eq_getElem g]; exact Nat.le_trans (hall _ (List.getElem_mem g)) (by decide)
        · rw [List.getElem?_eq_none (by omega)]; simp
      have HT := Lib.hid (Htc.out W3 (HE1.out.trans HE3.out) hrow)
      have HI := Lib.hid (fun W (hE : Ext w W) => Hif.out W hE hrow)
      have Hall := Lib.hid hall
      clear hall hrow
      obtain ⟨r, hr⟩ : ∃ r, r = formErr (ints (tenP n)).length m := ⟨_, rfl⟩
      rw [← hr] at Hin Hle
      have hrr : (r == r) = true := by simp
      go_wp2_with fail
      refine HT.out.mono ?_
      rintro e W4 ⟨rfl, hx4⟩
      have HE4 := Lib.hid (HE3.out.trans hx4); have Hbq4 := Lib.hid (hx4.heap Hbq3.out)
      clear hx4
      unfold formErr at hr
      by_cases ht : tChk m = 0
      · rw [if_neg (by simpa using ht)] at hr
        have hiE : isFmE m = isFm m := by unfold isFmE; rw [if_neg (by simpa using ht)]
        rw [ht, hiE] at HI
        rw [ht]
        clear ht hiE
        go_wp2_with fail
        refine (HI.out W4 (HE1.out.trans HE4.out)).mono ?_
        rintro e W5 ⟨rfl, hx5⟩
        have HE5 := Lib.hid (HE4.out.trans hx5); have Hbq5 := Lib.hid (hx5.heap Hbq4.out)
        clear hx5
        cases hf : isFm m with
        | false =>
          rw [if_pos hf] at hr
          subst hr
          clear hf

          have hvp5 := HE5.out.sl Hvp.out
          have hvx5 := HE5.out.sl Hvx.out
          have Hin5 := Lib.hid (Hin.out W5 ap cp ax cx (HE1.out.trans HE5.out) hvp5 hvx5 Hall.out)
          obtain ⟨hc0, hc1, hc2⟩ := box3 Hbq5.out
          clear hvp5 hvx5
          go_wp2_with fail
          refine Hin5.out.mono ?_
          rintro e W6 ⟨⟨v6, rfl, a6, l6, c6, rfl, hl6, hz6⟩, hx6⟩
          have HE6 := Lib.hid (HE5.out.trans hx6); have Hbq6 := Lib.hid (hx6.heap Hbq5.out)
          have Hle6 := Lib.hid (Hle.out W6 ap cp ax cx (HE1.out.trans HE6.out) (HE6.out.sl Hvp.out) (HE6.out.sl Hvx.out) Hall.out)
          obtain ⟨hd0, hd1, hd2⟩ := box3 Hbq6.out
          have Hz6 := Lib.hid hz6
          clear hx6 hc0 hc1 hc2 hz6
          go_wp2_with fail
          refine Hle6.out.mono ?_
          rintro e W7 ⟨⟨u7, y7, rfl, a7, l7, c7, rfl, hl7, hz7⟩, hx7⟩
          have HE7 := Lib.hid (HE6.out.trans hx7)
          have Hz7 := Lib.hid hz7
          clear hx7 hd0 hd1 hd2 hz7
          obtain rfl : l6 = 0 := Hz6.out (by decide)
          obtain ⟨rfl, rfl⟩ : l7 = 0 ∧ y7 = false := Hz7.out (by decide)
          clear hl6 hl7
          go_wp2
          go_ret
          exact ⟨rfl, HE1.out.trans HE7.out⟩
        | true =>
          rw [if_neg (by rw [hf]; simp)] at hr
          clear hf
          have hcase : (decide (0 < m.length) = false ∧ r = 0) ∨ (decide (0 < m.length) = true ∧ (0 : Int) < (m.length : Int) ∧ ∃ b off a0 c0 l0, am = some ⟨b, off, none⟩ ∧ w.cell? ⟨b, off, none⟩ = some (.slice a0 l0 c0) ∧ ((((l0 : Nat) : Int) != ((ints (tenP n)).length : Int)) = true ∧ r = 5 ∨ (((l0 : Nat) : Int) != ((ints (tenP n)).length : Int)) = false ∧ r = 0)) := by
            rcases Nat.eq_zero_or_pos m.length with h0 | h0
            · exact .inl ⟨decide_eq_false (by omega), by rw [hr, if_neg (by omega)]⟩
            · obtain ⟨b, off, a0, c0, e1, e2⟩ := Hcell.out 0 h0
              refine .inr ⟨decide_eq_true h0, by omega, b, off, a0, c0, _, e1, e2, ?_⟩
              by_cases g : (m.getD 0 []).length = (ints (tenP n)).length
              · exact .inr ⟨by rw [bne_eq_false_iff_eq]; omega, by rw [hr, if_neg (by omega)]⟩
              · exact .inl ⟨by rw [bne_iff_ne]; omega, by rw [hr, if_pos ⟨h0, g⟩]⟩
          clear hr
          have hbx := box3 Hbq5.out
          obtain ⟨hc0', _, _⟩ := hbx
          rcases hcase with ⟨hd, rfl⟩ | ⟨hd, hi1, b1, off1, a1, c1, l1, rfl, hcw, ⟨hne, rfl⟩ | ⟨hne, rfl⟩⟩
          · go_wp2
            go_quiet (fail)
            have hE5n := HE5.out.drewN nq
            have hbq5n := ((Ext.refl W5).drewN nq).heap Hbq5.out
            have HE5n := Lib.hid hE5n; have Hbq5n := Lib.hid hbq5n
            clear hE5n hbq5n
            generalize W5.drewN nq = W5n at *

            have hvp5 := HE5n.out.sl Hvp.out
            have hvx5 := HE5n.out.sl Hvx.out
            have Hin5 := Lib.hid (Hin.out W5n ap cp ax cx (HE1.out.trans HE5n.out) hvp5 hvx5 Hall.out)
            obtain ⟨hc0, hc1, hc2⟩ := box3 Hbq5n.out
            clear hvp5 hvx5
            go_wp2_with fail
            refine Hin5.out.mono ?_
            rintro e W6 ⟨⟨v6, rfl, a6, l6, c6, rfl, hl6, hz6⟩, hx6⟩
            have HE6 := Lib.hid (HE5n.out.trans hx6); have Hbq6 := Lib.hid (hx6.heap Hbq5n.out)
            have Hle6 := Lib.hid (Hle.out W6 ap cp ax cx (HE1.out.trans HE6.out) (HE6.out.sl Hvp.out) (HE6.out.sl Hvx.out) Hall.out)
            obtain ⟨hd0, hd1, hd2⟩ := box3 Hbq6.out
            have Hz6 := Lib.hid hz6
            clear hx6 hc0 hc1 hc2 hz6
            go_wp2_with fail
            refine Hle6.out.mono ?_
            rintro e W7 ⟨⟨u7, y7, rfl, a7, l7, c7, rfl, hl7, hz7⟩, hx7⟩
            have HE7 := Lib.hid (HE6.out.trans hx7)
            have Hz7 := Lib.hid hz7
            clear hx7 hd0 hd1 hd2 hz7
            go_wp2
            go_ret
            exact ⟨rfl, HE1.out.trans HE7.out⟩
          · have hcu := (HE1.out.trans HE5.out).cell hcw
            clear hcw
            go_wp2
            go_quiet (fail)
            have hE5n := HE5.out.drewN nq
            have hbq5n := ((Ext.refl W5).drewN nq).heap Hbq5.out
            have HE5n := Lib.hid hE5n; have Hbq5n := Lib.hid hbq5n
            clear hE5n hbq5n
            generalize W5.drewN nq = W5n at *

            have hvp5 := HE5n.out.sl Hvp.out
            have hvx5 := HE5n.out.sl Hvx.out
            have Hin5 := Lib.hid (Hin.out W5n ap cp ax cx (HE1.out.trans HE5n.out) hvp5 hvx5 Hall.out)
            obtain ⟨hc0, hc1, hc2⟩ := box3 Hbq5n.out
            clear hvp5 hvx5
            go_wp2_with fail
            refine Hin5.out.mono ?_
            rintro e W6 ⟨⟨v6, rfl, a6, l6, c6, rfl, hl6, hz6⟩, hx6⟩
            have HE6 := Lib.hid (HE5n.out.trans hx6); have Hbq6 := Lib.hid (hx6.heap Hbq5n.out)
            have Hle6 := Lib.hid (Hle.out W6 ap cp ax cx (HE1.out.trans HE6.out) (HE6.out.sl Hvp.out) (HE6.out.sl Hvx.out) Hall.out)
            obtain ⟨hd0, hd1, hd2⟩ := box3 Hbq6.out
            have Hz6 := Lib.hid hz6
            clear hx6 hc0 hc1 hc2 hz6
            go_wp2_with fail
            refine Hle6.out.mono ?_
            rintro e W7 ⟨⟨u7, y7, rfl, a7, l7, c7, rfl, hl7, hz7⟩, hx7⟩
            have HE7 := Lib.hid (HE6.out.trans hx7)
            have Hz7 := Lib.hid hz7
            clear hx7 hd0 hd1 hd2 hz7
            obtain rfl : l6 = 0 := Hz6.out (by decide)
            obtain ⟨rfl, rfl⟩ : l7 = 0 ∧ y7 = false := Hz7.out (by decide)
            clear hl6 hl7
            go_wp2
            go_ret
            exact ⟨rfl, HE1.out.trans HE7.out⟩
          · have hcu := (HE1.out.trans HE5.out).cell hcw
            clear hcw
            go_wp2
            go_quiet (fail)
            have hE5n := HE5.out.drewN nq
            have hbq5n := ((Ext.refl W5).drewN nq).heap Hbq5.out
            have HE5n := Lib.hid hE5n; have Hbq5n := Lib.hid hbq5n
            clear hE5n hbq5n
            generalize W5.drewN nq = W5n at *

            have hvp5 := HE5n.out.sl Hvp.out
            have hvx5 := HE5n.out.sl Hvx.out
            have Hin5 := Lib.hid (Hin.out W5n ap cp ax cx (HE1.out.trans HE5n.out) hvp5 hvx5 Hall.out)
            obtain ⟨hc0, hc1, hc2⟩ := box3 Hbq5n.out
            clear hvp5 hvx5
            go_wp2_with fail
            refine Hin5.out.mono ?_
            rintro e W6 ⟨⟨v6, rfl, a6, l6, c6, rfl, hl6, hz6⟩, hx6⟩
            have HE6 := Lib.hid (HE5n.out.trans hx6); have Hbq6 := Lib.hid (hx6.heap Hbq5n.out)
            have Hle6 := Lib.hid (Hle.out W6 ap cp ax cx (HE1.out.trans HE6.out) (HE6.out.sl Hvp.out) (HE6.out.sl Hvx.out) Hall.out)
            obtain ⟨hd0, hd1, hd2⟩ := box3 Hbq6.out
            have Hz6 := Lib.hid hz6
            clear hx6 hc0 hc1 hc2 hz6
            go_wp2_with fail
            refine Hle6.out.mono ?_
            rintro e W7 ⟨⟨u7, y7, rfl, a7, l7, c7, rfl, hl7, hz7⟩, hx7⟩
            have HE7 := Lib.hid (HE6.out.trans hx7)
            have Hz7 := Lib.hid hz7
            clear hx7 hd0 hd1 hd2 hz7
            go_wp2
            go_ret
            exact ⟨rfl, HE1.out.trans HE7.out⟩
      · rw [if_pos ht] at hr
        have ht2 : (tChk m == 0) = false := beq_eq_false_iff_ne.2 ht
        have hr0 : r ≠ 0 := by rw [hr]; exact ht
        rw [← hr] at ht2 ⊢
        clear hr ht
        have hvp5 := HE4.out.sl Hvp.out
        have hvx5 := HE4.out.sl Hvx.out
        have Hin5 := Lib.hid (Hin.out W4 ap cp ax cx (HE1.out.trans HE4.out) hvp5 hvx5 Hall.out)
        obtain ⟨hc0, hc1, hc2⟩ := box3 Hbq4.out
        clear hvp5 hvx5
        go_wp2_with fail
        refine Hin5.out.mono ?_
        rintro e W6 ⟨⟨v6, rfl, a6, l6, c6, rfl, hl6, hz6⟩, hx6⟩
        have HE6 := Lib.hid (HE4.out.trans hx6); have Hbq6 := Lib.hid (hx6.heap Hbq4.out)
        have Hle6 := Lib.hid (Hle.out W6 ap cp ax cx (HE1.out.trans HE6.out) (HE6.out.sl Hvp.out) (HE6.out.sl Hvx.out) Hall.out)
        obtain ⟨hd0, hd1, hd2⟩ := box3 Hbq6.out
        have Hz6 := Lib.hid hz6
        clear hx6 hc0 hc1 hc2 hz6
        go_wp2_with fail
        refine Hle6.out.mono ?_
        rintro e W7 ⟨⟨u7, y7, rfl, a7, l7, c7, rfl, hl7, hz7⟩, hx7⟩
        have HE7 := Lib.hid (HE6.out.trans hx7)
        have Hz7 := Lib.hid hz7
        clear hx7 hd0 hd1 hd2 hz7
        obtain rfl : l6 = 0 := Hz6.out hr0
        obtain ⟨rfl, rfl⟩ : l7 = 0 ∧ y7 = false := Hz7.out hr0
        clear hl6 hl7
        go_wp2
        go_ret
        exact ⟨rfl, HE1.out.trans HE7.out⟩

end Go.Proofs.YtkamjjjimbbdmaaGreatDoor
