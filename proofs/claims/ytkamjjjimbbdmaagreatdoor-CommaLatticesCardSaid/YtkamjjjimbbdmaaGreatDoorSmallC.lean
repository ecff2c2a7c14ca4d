/- The law CommaSmallest for any plan and any count. -/
import Derived.Test.YtkamjjjimbbdmaaGreatDoorSmallL
namespace Go.Proofs.YtkamjjjimbbdmaaGreatDoor
open Go.RowKit Go.Lib Go.Shelf Go.Sort

set_option maxRecDepth 100000 in
set_option maxHeartbeats 2000000 in
/-- No question, or a count that is not asked. -/
theorem small_no (n q h : Nat) (a b c d cnt : Int) (is : Bool) (w : World) (hcase : is = false ∨ cnt < -1 ∨ 101 < cnt)
    (hmk : ∀ W, Ext w W → Calls Tryz.prog 12 #[.agg #[.int .u8 n, .int .i8 a, .int .i8 b, .int .i8 c, .int .i8 d, .int .u8 h]] W fun e w' => ∃ vp vx, e = .returned (.tuple #[.agg #[vp, .int .i64 (q : Int), vx], .bool is]) ∧ OwnI w' W.heap.size vp (ints (tenP n)) ∧ OwnI w' W.heap.size vx (planX n [a, b, c, d]) ∧ Ext W w')
    (hkn : ∀ W, Ext w W → Calls Tryz.prog 13 #[] W fun e w' => e = .returned (.bool true) ∧ Ext W w') :
    Calls Tryz.prog 4 #[.agg #[.int .u8 n, .int .i8 a, .int .i8 b, .int .i8 c, .int .i8 d, .int .u8 h], .int .i8 cnt] w fun e w' => e = .returned (.bool true) ∧ Ext w w' := by
  have Hmk := Lib.hid hmk; have Hkn := Lib.hid hkn
  clear hmk hkn
  have hE0 : Ext w (w.alloc (.cells #[.int .u8 n, .int .i8 a, .int .i8 b, .int .i8 c, .int .i8 d, .int .u8 h] 27)) := (Ext.refl w).alloc _
  have HE0 := Lib.hid hE0; clear hE0
  go_enter Tryz.func4, Tryz.ntmps4
  go_wp2_with fail
  generalize w.alloc (.cells #[.int .u8 n, .int .i8 a, .int .i8 b, .int .i8 c, .int .i8 d, .int .u8 h] 27) = W0 at *
  refine (Hmk.out W0 HE0.out).mono ?_
  rintro e W1 ⟨vp, vx, rfl, hvp, hvx, hx1⟩
  obtain ⟨ap, cp, rfl⟩ := own_shape hvp
  obtain ⟨ax, cx, rfl⟩ := own_shape hvx
  have hE1 := HE0.out.trans hx1
  have hE2 : Ext w (W1.alloc (.cells #[.slice ap (ints (tenP n)).length cp, .int .i64 (q : Int), .slice ax (planX n [a, b, c, d]).length cx] 32)) := hE1.alloc _
  have HE2 := Lib.hid hE2; clear hvp hvx hx1 hE1 hE2
  go_wp2_with fail
  generalize W1.alloc (.cells #[.slice ap (ints (tenP n)).length cp, .int .i64 (q : Int), .slice ax (planX n [a, b, c, d]).length cx] 32) = W2 at *
  refine (Hkn.out W2 HE2.out).mono ?_
  rintro e W3 ⟨rfl, hx3⟩
  have HE3 := Lib.hid (HE2.out.trans hx3); clear hx3
  cases is with
  | false =>
    clear hcase
    go_wp2_with fail
    refine (Hkn.out W3 HE3.out).mono ?_
    rintro e W4 ⟨rfl, hx4⟩
    have HE4 := Lib.hid (HE3.out.trans hx4); clear hx4
    go_wp2
    go_ret
    exact ⟨rfl, HE4.out⟩
  | true =>
    by_cases h1 : cnt < -1
    · clear hcase
      go_wp2_with fail
      refine (Hkn.out W3 HE3.out).mono ?_
      rintro e W4 ⟨rfl, hx4⟩
      have HE4 := Lib.hid (HE3.out.trans hx4); clear hx4
      go_wp2
      go_ret
      exact ⟨rfl, HE4.out⟩
    · have h2 : 101 < cnt := by rcases hcase with h | h | h <;> first | cases h | omega
      clear hcase
      go_wp2_with fail
      refine (Hkn.out W3 HE3.out).mono ?_
      rintro e W4 ⟨rfl, hx4⟩
      have HE4 := Lib.hid (HE3.out.trans hx4); clear hx4
      go_wp2
      go_ret
      exact ⟨rfl, HE4.out⟩

set_option maxRecDepth 100000 in
set_option maxHeartbeats 2000000 in
/-- A count that Smallest refuses. -/
theorem small_err (n q h : Nat) (a b c d cnt : Int) (w : World) (hcase : cnt = -1 ∨ cnt = 101)
    (hmk : ∀ W, Ext w W → Calls Tryz.prog 12 #[.agg #[.int .u8 n, .int .i8 a, .int .i8 b, .int .i8 c, .int .i8 d, .int .u8 h]] W fun e w' => ∃ vp vx, e = .returned (.tuple #[.agg #[vp, .int .i64 (q : Int), vx], .bool true]) ∧ OwnI w' W.heap.size vp (ints (tenP n)) ∧ OwnI w' W.heap.size vx (planX n [a, b, c, d]) ∧ Ext W w')
    (hkn : ∀ W, Ext w W → Calls Tryz.prog 13 #[] W fun e w' => e = .returned (.bool true) ∧ Ext W w')
    (hsml : ∀ W vp vx, Ext w W → Sl W vp (i64s (ints (tenP n))) → Sl W vx (i64s (planX n [a, b, c, d])) → Calls Tryz.prog 17 #[.agg #[vp, .int .i64 (q : Int), vx], .int .i64 cnt] W fun e w' => e = .returned (.tuple #[.slice none 0 0, .int .i64 3]) ∧ Ext W w') :
    Calls Tryz.prog 4 #[.agg #[.int .u8 n, .int .i8 a, .int .i8 b, .int .i8 c, .int .i8 d, .int .u8 h], .int .i8 cnt] w fun e w' => e = .returned (.bool true) ∧ Ext w w' := by
  have Hmk := Lib.hid hmk; have Hkn := Lib.hid hkn; have Hsml := Lib.hid hsml
  clear hmk hkn hsml
  have hE0 : Ext w (w.alloc (.cells #[.int .u8 n, .int .i8 a, .int .i8 b, .int .i8 c, .int .i8 d, .int .u8 h] 27)) := (Ext.refl w).alloc _
  have HE0 := Lib.hid hE0; clear hE0
  go_enter Tryz.func4, Tryz.ntmps4
  go_wp2_with fail
  generalize w.alloc (.cells #[.int .u8 n, .int .i8 a, .int .i8 b, .int .i8 c, .int .i8 d, .int .u8 h] 27) = W0 at *
  refine (Hmk.out W0 HE0.out).mono ?_
  rintro e W1 ⟨vp, vx, rfl, hvp, hvx, hx1⟩
  obtain ⟨ap, cp, rfl⟩ := own_shape hvp
  obtain ⟨ax, cx, rfl⟩ := own_shape hvx
  have hE1 := HE0.out.trans hx1
  have Hvp := Lib.hid hvp.sl; have Hvx := Lib.hid hvx.sl; have HE1 := Lib.hid hE1; clear hvp hvx hx1 hE1
  have hbq := World.alloc_heap_new W1 (.cells #[.slice ap (ints (tenP n)).length cp, .int .i64 (q : Int), .slice ax (planX n [a, b, c, d]).length cx] 32)
  have hE2 : Ext W1 (W1.alloc (.cells #[.slice ap (ints (tenP n)).length cp, .int .i64 (q : Int), .slice ax (planX n [a, b, c, d]).length cx] 32)) := (Ext.refl W1).alloc _
  have Hbq := Lib.hid hbq; have HE2 := Lib.hid hE2; clear hbq hE2
  go_wp2_with fail
  generalize W1.alloc (.cells #[.slice ap (ints (tenP n)).length cp, .int .i64 (q : Int), .slice ax (planX n [a, b, c, d]).length cx] 32) = W2 at *
  refine (Hkn.out W2 (HE1.out.trans HE2.out)).mono ?_
  rintro e W3 ⟨rfl, hx3⟩
  have hE23 := HE2.out.trans hx3
  obtain ⟨hc0, hc1, hc2⟩ := box3 (hx3.heap Hbq.out)
  have HE23 := Lib.hid hE23; clear hE23 hx3
  rcases hcase with rfl | rfl
  · go_wp2_with fail
    refine (Hsml.out W3 _ _ (HE1.out.trans HE23.out) (HE23.out.sl Hvp.out) (HE23.out.sl Hvx.out)).mono ?_
    rintro e W4 ⟨rfl, hx4⟩
    have HE4 := Lib.hid (HE23.out.trans hx4); clear hx4
    go_wp2
    go_ret
    exact ⟨rfl, HE1.out.trans HE4.out⟩
  · go_wp2_with fail
    refine (Hsml.out W3 _ _ (HE1.out.trans HE23.out) (HE23.out.sl Hvp.out) (HE23.out.sl Hvx.out)).mono ?_
    rintro e W4 ⟨rfl, hx4⟩
    have HE4 := Lib.hid (HE23.out.trans hx4); clear hx4
    go_wp2
    go_ret
    exact ⟨rfl, HE1.out.trans HE4.out⟩

theorem zip_back : ∀ {rs : List Rw} {L : List (List Int × Nat × Nat)}, rs.map Rw.x = L.map (·.1) → ∃ es : List (Rw × Nat × Nat), es.map (·.1) = rs ∧ es.map (·.2) = L.map (·.2) ∧ (es.map fun e => (e.1.x, e.2)) = L
  | [], [], _ => ⟨[], rfl, rfl, rfl⟩
  | [], _ :: _, h => by simp at h
  | _ :: _, [], h => by simp at h
  | r :: rs, e :: L, h => by
    simp only [List.map_cons, List.cons.injEq] at h
    obtain ⟨es, h1, h2, h3⟩ := zip_back h.2
    refine ⟨(r, e.2) :: es, by simp [h1], by simp [h2], ?_⟩
    simp only [List.map_cons, h3, h.1]

theorem plan_askK (n H : Nat) (l : List Int) (h1 : 1 ≤ H) (hH : H ≤ 130) (hgt : denP (ints (tenP n)) (planX n l) < numP (ints (tenP n)) (planX n l)) : askErr (ints (tenP n)) (H : Int) (planX n l) = 0 := by
  have hs : signP (ints (tenP n)) (planX n l) = 1 := by
    unfold signP
    rw [plan_one, if_neg (by simp), cmpI_gt (by omega)]
  unfold askErr
  rw [plan_one, if_neg (by simp), if_neg (by omega), hs, if_neg (by omega)]
set_option maxRecDepth 100000 in
theorem small_c (n h : Nat) (a b c d cnt : Int) (w : World) (he : Env w) (hn : n < 256) (hh : h < 256) (hr : ∀ z ∈ [a, b, c, d], -128 ≤ z ∧ z ≤ 127) (hc : -128 ≤ cnt ∧ cnt ≤ 127) :
    Calls Tryz.prog 4 #[.agg #[.int .u8 n, .int .i8 a, .int .i8 b, .int .i8 c, .int .i8 d, .int .u8 h], .int .i8 cnt] w fun e w' => e = .returned (.bool true) ∧ Ext w w' := by
  have hm2 : h % 130 < 130 := Nat.mod_lt _ (by omega)
  have hmk := fun W (hE : Ext w W) => make16_c n h a b c d W (he.ext hE) hn hh hr
  have hkn := fun W (hE : Ext w W) => known_c W (he.ext hE)
  obtain ⟨q, hq⟩ : ∃ q, q = 1 + h % 130 := ⟨_, rfl⟩
  rw [← hq] at hmk
  have hq1 : 1 ≤ q := by omega
  have hq2 : q ≤ 130 := by omega
  by_cases hgt : denP (ints (tenP n)) (planX n [a, b, c, d]) < numP (ints (tenP n)) (planX n [a, b, c, d])
  · rw [decide_eq_true hgt] at hmk
    have hask := plan_askK n q [a, b, c, d] hq1 hq2 hgt
    have hpl : (ints (tenP n)).length ≤ 64 := by rw [ints_length]; have := ten_len n; omega
    have hxl : (planX n [a, b, c, d]).length ≤ 64 := by rw [plan_len]; exact hpl
    by_cases h1 : cnt < -1 ∨ 101 < cnt
    · exact small_no n q h a b c d cnt true w (.inr h1) hmk hkn
    · by_cases h2 : cnt = -1 ∨ cnt = 101
      · exact small_err n q h a b c d cnt w h2 hmk hkn fun W vp vx hE hp hx => leastErr_c vp vx _ _ _ cnt W (he.ext hE) hp hx hask (by omega) (by omega) (by omega) hpl hxl
      · obtain ⟨k, rfl⟩ : ∃ k : Nat, cnt = k := ⟨cnt.toNat, by omega⟩
        have hlen := rows_len2 (num := numP (ints (tenP n)) (planX n [a, b, c, d])) (den := denP (ints (tenP n)) (planX n [a, b, c, d])) (m := n) hq2
        unfold rowsOf at hlen
        rw [List.length_map] at hlen
        refine small_yes n q h k a b c d w (wall (numP (ints (tenP n)) (planX n [a, b, c, d])) (denP (ints (tenP n)) (planX n [a, b, c, d])) (tenP n) q) (by omega) hlen ?_ hmk hkn ?_ ?_
        · intro e hm
          have f := rows_fact hq2 e.1 (List.mem_map_of_mem hm)
          obtain ⟨_, _, _, _, _, h4, h5, h6, _⟩ := wall_mem hq2 hm
          have := ten_len n
          omega
        · intro W vp vx hE hp hx
          refine (leastTen_c n q k vp vx _ W (he.ext hE) hp hx hxl hq1 hq2 hask (by omega)).mono ?_
          rintro e w' ⟨v, rs, F, h1, h2, h3, h4⟩
          exact ⟨v, rs, h1, h3, fun es hp hs => sorted_eq hq2 h2 hp hs, h4⟩
        · intro W vp vx hE hp hx
          refine (listerTen_c n q vp vx _ W (he.ext hE) hp hx (plan_nice n _) (plan_len n _) hq1 hq2).mono ?_
          rintro e w' ⟨v, u, rs, h1, h2, h3, h4, h5⟩
          obtain ⟨es, e1, e2, e3⟩ := zip_back h4
          exact ⟨v, u, es, h1, ⟨by rw [e1]; exact h2, by rw [e2]; exact h3⟩, e3, h5⟩
  · rw [decide_eq_false hgt] at hmk
    exact small_no n q h a b c d cnt false w (.inl rfl) hmk hkn

end Go.Proofs.YtkamjjjimbbdmaaGreatDoor
