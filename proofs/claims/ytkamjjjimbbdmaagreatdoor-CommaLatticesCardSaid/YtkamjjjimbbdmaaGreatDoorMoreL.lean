/- The law CommaMore for any plan. -/
import Derived.Test.YtkamjjjimbbdmaaGreatDoorMore
namespace Go.Proofs.YtkamjjjimbbdmaaGreatDoor
open Go.RowKit Go.Lib Go.Shelf Go.Sort

theorem recs_mem {p : List Int} : ∀ (n : Nat) {R : List (List Int)}, R.length = n → (recsOf p R).length ≤ R.length ∧ ∀ r ∈ recsOf p R, r ∈ R
  | 0, R, hn => by
    obtain rfl := List.eq_nil_of_length_eq_zero hn
    exact ⟨Nat.le_refl _, fun r h => by cases h⟩
  | n + 1, R, hn => by
    rcases List.eq_nil_or_concat R with rfl | ⟨R0, x, rfl⟩
    · simp at hn
    · rw [List.concat_eq_append] at *
      obtain ⟨h1, h2⟩ := recs_mem n (R := R0) (by simpa using hn)
      rw [recsOf_snoc]
      have hs : recStep p (recsOf p R0) x = recsOf p R0 ∨ recStep p (recsOf p R0) x = recsOf p R0 ++ [x] := by
        unfold recStep
        split
        · exact .inr rfl
        · split
          · exact .inl rfl
          · exact .inr rfl
      rcases hs with e | e
      · rw [e]
        exact ⟨by rw [List.length_append]; omega, fun r hr => List.mem_append_left _ (h2 r hr)⟩
      · rw [e]
        refine ⟨by rw [List.length_append, List.length_append]; omega, fun r hr => ?_⟩
        rcases List.mem_append.1 hr with h | h
        · exact List.mem_append_left _ (h2 r h)
        · exact List.mem_append_right _ h
theorem plan_askH (n H : Nat) (l : List Int) (h1 : 1 ≤ H) (hH : H ≤ 130) (hgt : denP (ints (tenP n)) (planX n l) < numP (ints (tenP n)) (planX n l)) : askErr (ints (tenP n)) (H : Int) (planX n l) = 0 := by
  have hs : signP (ints (tenP n)) (planX n l) = 1 := by
    unfold signP
    rw [plan_one, if_neg (by simp), cmpI_gt (by omega)]
  unfold askErr
  rw [plan_one, if_neg (by simp), if_neg (by omega), hs, if_neg (by omega)]
theorem least_one {num den m H : Nat} (hH : H ≤ 130) {F : List (Nat × Nat × List Int)} {rs : List Rw} (h : LeastOf (ints (tenP m)) (rowsOf num den (tenP m) H) 1 F rs) :
    (rowsOf num den (tenP m) H = [] ∧ rs = []) ∨ (rowsOf num den (tenP m) H ≠ [] ∧ ∃ z, rs.map Rw.x = [z] ∧ (recsOf (ints (tenP m)) (rowsOf num den (tenP m) H)).getLast? = some z) := by
  by_cases h0 : rowsOf num den (tenP m) H = []
  · obtain ⟨h1, _, h3⟩ := h
    rw [h0] at h1
    have := h1.eq_nil
    rw [this] at h3
    exact .inl ⟨h0, by simpa using h3⟩
  · obtain ⟨init, z, h1, h2, _⟩ := least_last hH h h0
    exact .inr ⟨h0, z, h2, by rw [h1]; simp⟩

set_option maxRecDepth 100000 in
set_option maxHeartbeats 2000000 in
theorem more_no (n q h g : Nat) (a b c d : Int) (w : World)
    (hmk : ∀ W, Ext w W → Calls Tryz.prog 12 #[.agg #[.int .u8 n, .int .i8 a, .int .i8 b, .int .i8 c, .int .i8 d, .int .u8 h]] W fun e w' => ∃ vp vx, e = .returned (.tuple #[.agg #[vp, .int .i64 (q : Int), vx], .bool false]) ∧ OwnI w' W.heap.size vp (ints (tenP n)) ∧ OwnI w' W.heap.size vx (planX n [a, b, c, d]) ∧ Ext W w')
    (hkn : ∀ W, Ext w W → Calls Tryz.prog 13 #[] W fun e w' => e = .returned (.bool true) ∧ Ext W w') :
    Calls Tryz.prog 7 #[.agg #[.int .u8 n, .int .i8 a, .int .i8 b, .int .i8 c, .int .i8 d, .int .u8 h], .int .u8 g] w fun e w' => e = .returned (.bool true) ∧ Ext w w' := by
  have Hmk := Lib.hid hmk; have Hkn := Lib.hid hkn
  clear hmk hkn
  have hE0 : Ext w (w.alloc (.cells #[.int .u8 n, .int .i8 a, .int .i8 b, .int .i8 c, .int .i8 d, .int .u8 h] 27)) := (Ext.refl w).alloc _
  have HE0 := Lib.hid hE0; clear hE0
  go_enter Tryz.func7, Tryz.ntmps7
  go_wp2_with fail
  generalize w.alloc (.cells #[.int .u8 n, .int .i8 a, .int .i8 b, .int .i8 c, .int .i8 d, .int .u8 h] 27) = W0 at *
  refine (Hmk.out W0 HE0.out).mono ?_
  rintro e W1 ⟨vp, vx, rfl, hvp, hvx, hx1⟩
  obtain ⟨ap, cp, rfl⟩ := own_shape hvp
  obtain ⟨ax, cx, rfl⟩ := own_shape hvx
  have hE1 := HE0.out.trans hx1
  have hE2 : Ext w (W1.alloc (.cells #[.slice ap (ints (tenP n)).length cp, .int .i64 (q : Int), .slice ax (planX n [a, b, c, d]).length cx] 32)) := hE1.alloc _
  have HE2 := Lib.hid hE2; clear hvp hvx hx1 hE1 hE2
  go_wp2_with fail
  generalize W1.alloc (.cells #[.slice ap (ints (tenP n)).length cp, .int .i64 (q : Int), .slice ax (planX n [a, b, c, d]).length cx] 32) = W2 at *
  refine (Hkn.out W2 HE2.out).mono ?_
  rintro e W3 ⟨rfl, hx3⟩
  have HE3 := Lib.hid (HE2.out.trans hx3); clear hx3
  go_wp2_with fail
  refine (Hkn.out W3 HE3.out).mono ?_
  rintro e W4 ⟨rfl, hx4⟩
  have HE4 := Lib.hid (HE3.out.trans hx4); clear hx4
  go_wp2
  go_ret
  exact ⟨rfl, HE4.out⟩

set_option maxRecDepth 100000 in
theorem more_c (n h g : Nat) (a b c d : Int) (w : World) (he : Env w) (hn : n < 256) (hh : h < 256) (hg : g < 256) (hr : ∀ z ∈ [a, b, c, d], -128 ≤ z ∧ z ≤ 127) :
    Calls Tryz.prog 7 #[.agg #[.int .u8 n, .int .i8 a, .int .i8 b, .int .i8 c, .int .i8 d, .int .u8 h], .int .u8 g] w fun e w' => e = .returned (.bool true) ∧ Ext w w' := by
  have hm2 : h % 130 < 130 := Nat.mod_lt _ (by omega)
  have hmk := fun W (hE : Ext w W) => make16_c n h a b c d W (he.ext hE) hn hh hr
  have hkn := fun W (hE : Ext w W) => known_c W (he.ext hE)
  by_cases hgt : denP (ints (tenP n)) (planX n [a, b, c, d]) < numP (ints (tenP n)) (planX n [a, b, c, d])
  · rw [decide_eq_true hgt] at hmk
    obtain ⟨q, hq⟩ : ∃ q, q = 1 + h % 130 := ⟨_, rfl⟩
    rw [← hq] at hmk
    have hq1 : 1 ≤ q := by omega
    have hq2 : q ≤ 130 := by omega
    have hr2 : g % q < q := Nat.mod_lt _ hq1
    have hpre := rows_prefix (numP (ints (tenP n)) (planX n [a, b, c, d])) (denP (ints (tenP n)) (planX n [a, b, c, d])) (tenP n) (k := 1 + g % q) (H := q) (by omega)
    have hlen := rows_len2 (num := numP (ints (tenP n)) (planX n [a, b, c, d])) (den := denP (ints (tenP n)) (planX n [a, b, c, d])) (m := n) hq2
    have hrl : ∀ r ∈ rowsOf (numP (ints (tenP n)) (planX n [a, b, c, d])) (denP (ints (tenP n)) (planX n [a, b, c, d])) (tenP n) q, r.length ≤ 1000 := fun r hr => by
      have h1 := rows_fact hq2 r hr
      have h2 := ten_len n
      omega
    have hrm := recs_mem (p := ints (tenP n)) _ (R := rowsOf (numP (ints (tenP n)) (planX n [a, b, c, d])) (denP (ints (tenP n)) (planX n [a, b, c, d])) (tenP n) q) rfl
    have hask := plan_askH n q [a, b, c, d] hq1 hq2 hgt
    refine more_yes n q (1 + g % q) (g % q) h g a b c d w _ (rowsOf (numP (ints (tenP n)) (planX n [a, b, c, d])) (denP (ints (tenP n)) (planX n [a, b, c, d])) (tenP n) (1 + g % q)) _ hq1 hq2 hg rfl rfl hlen hrl hpre.1 hpre.2 hmk hkn
      (fun W vp vx hE hp hx => listTen_c n q vp vx _ W (he.ext hE) hp hx hq1 hq2 hask)
      (fun W vp vx hE hp hx => listTen_c n (1 + g % q) vp vx _ W (he.ext hE) hp hx (by omega) (by omega) (plan_askH n _ _ (by omega) (by omega) hgt))
      (fun W vp vx hE hp hx => recordsTen_c n q vp vx _ W (he.ext hE) hp hx hq1 hq2 hask)
      (fun W vp vx hE hp hx => (leastTen_c n q 1 vp vx _ W (he.ext hE) hp hx (by rw [plan_len, ints_length]; have := ten_len n; omega) hq1 hq2 hask (by omega)).mono fun e w' ⟨v, rs, F, h1, h2, h3, h4⟩ => ⟨v, rs, h1, h3, least_one hq2 h2, h4⟩)
      (fun W vp v z hE hp hv hz => by
        have hs := rows_sign hq2 hz
        have := msign_c vp v (ints (tenP n)) z W (he.ext hE) hp hv (by rw [ints_length]; have := ten_len n; omega) (by have := hrl z hz; omega)
        rw [hs.1, hs.2] at this
        exact this)
      (by omega) (fun h0 => by rw [h0]; rfl) (fun h0 => by
        obtain ⟨init, z, e1, _, _, e4⟩ := recs_last (p := ints (tenP n)) _ rfl h0 (fun r hr => (rows_fact hq2 r hr).2.2.2.1)
        exact ⟨by rw [e1]; simp, e4⟩) (fun r hr => hrl r (hrm.2 r hr))
  · rw [decide_eq_false hgt] at hmk
    exact more_no n _ h g a b c d w hmk hkn

end Go.Proofs.YtkamjjjimbbdmaaGreatDoor
