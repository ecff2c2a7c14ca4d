/- The walk of the law CommaLists. -/
import Derived.Test.YtkamjjjimbbdmaaGreatDoorKnown
namespace Go.Proofs.YtkamjjjimbbdmaaGreatDoor
open Go.RowKit Go.Lib Go.Shelf Go.Sort

theorem ten_primes (n : Nat) : primesErr (ints (tenP n)) = 0 := by
  have h : (tenL.all fun p => decide (primesErr (ints p) = 0)) = true := by decide +kernel
  exact of_decide_eq_true ((List.all_eq_true.1 h) _ (ten_mem n))
theorem row_fine {n : Nat} {x : List Int} (hl : x.length = n) (h : ∀ i, i < x.length → -1000 ≤ nthI x i ∧ nthI x i ≤ 1000) : rowErr n x = 0 := by
  unfold rowErr
  rw [if_neg (by simpa using hl), any_far_no (fun k hk => far_no (by have := h k hk; omega) (by have := h k hk; omega))]
  rfl
theorem plan_one (n : Nat) (l : List Int) : oneErr (ints (tenP n)) (planX n l) = 0 := by
  have hr : rowErr (ints (tenP n)).length (planX n l) = 0 := row_fine (by unfold planX; rw [ivl_length, ints_length]) fun i hi => by
    unfold planX at hi ⊢
    rw [ivl_length] at hi
    have := tmod_ten (nthI l i)
    rw [nthI_ivl hi]; omega
  unfold oneErr allErr
  rw [ten_primes, if_neg (by simp), rowsErr, hr, if_neg (by simp)]
  rfl
theorem plan_ask (n h : Nat) (l : List Int) (hgt : denP (ints (tenP n)) (planX n l) < numP (ints (tenP n)) (planX n l)) : askErr (ints (tenP n)) ((1 + h % 130 : Nat) : Int) (planX n l) = 0 := by
  have hs : signP (ints (tenP n)) (planX n l) = 1 := by
    unfold signP
    rw [plan_one, if_neg (by simp), cmpI_gt (by omega)]
  have h2 : h % 130 < 130 := Nat.mod_lt _ (by omega)
  unfold askErr
  rw [plan_one, if_neg (by simp), if_neg (by omega), hs, if_neg (by omega)]
theorem listerTen_c (m H : Nat) (vp vx : Value) (x : List Int) (w : World) (he : Env w) (hp : Sl w vp (i64s (ints (tenP m)))) (hx : Sl w vx (i64s x)) (hn : Nice (ints (tenP m)) x) (hlen : x.length = (ints (tenP m)).length) (h1 : 1 ≤ H) (hH : H ≤ 130) :
    Calls Tryz.prog 15 #[.agg #[vp, .int .i64 H, vx]] w fun e w' => ∃ v u rs, e = .returned (.tuple #[v, u]) ∧ RwL w' w.heap.size v rs ∧ PrL w' w.heap.size u ((wall (numP (ints (tenP m)) x) (denP (ints (tenP m)) x) (tenP m) H).map (·.2)) ∧ rs.map Rw.x = rowsOf (numP (ints (tenP m)) x) (denP (ints (tenP m)) x) (tenP m) H ∧ Ext w w' :=
  lister_c vp vx (tenP m) x H w he hp hx hn hlen (by have := ten_len m; omega) (fun i hi => by have := ten_q m i hi; omega) h1 (by omega)
theorem plan_len (n : Nat) (l : List Int) : (planX n l).length = (ints (tenP n)).length := by unfold planX; rw [ivl_length, ints_length]

set_option maxRecDepth 100000 in
set_option maxHeartbeats 4000000 in
theorem lists_c (n h : Nat) (a b c d : Int) (w : World) (he : Env w) (hn : n < 256) (hh : h < 256) (hr : ∀ z ∈ [a, b, c, d], -128 ≤ z ∧ z ≤ 127) :
    Calls Tryz.prog 3 #[.agg #[.int .u8 n, .int .i8 a, .int .i8 b, .int .i8 c, .int .i8 d, .int .u8 h]] w fun e w' => e = .returned (.bool true) ∧ Ext w w' := by
  have hmk := fun W (hE : Ext w W) => make16_c n h a b c d W (he.ext hE) hn hh hr
  have hkn := fun W (hE : Ext w W) => known_c W (he.ext hE)
  have hm2 : h % 130 < 130 := Nat.mod_lt _ (by omega)
  have hlist := fun W vp vx (hE : Ext w W) (hp : Sl W vp (i64s (ints (tenP n)))) (hx : Sl W vx (i64s (planX n [a, b, c, d]))) (hgt : denP (ints (tenP n)) (planX n [a, b, c, d]) < numP (ints (tenP n)) (planX n [a, b, c, d])) =>
    listTen_c n (1 + h % 130) vp vx (planX n [a, b, c, d]) W (he.ext hE) hp hx (by omega) (by omega) (plan_ask n h _ hgt)
  have hown := fun W vp vx (hE : Ext w W) (hp : Sl W vp (i64s (ints (tenP n)))) (hx : Sl W vx (i64s (planX n [a, b, c, d]))) =>
    listerTen_c n (1 + h % 130) vp vx (planX n [a, b, c, d]) W (he.ext hE) hp hx (plan_nice n _) (plan_len n _) (by omega) (by omega)
  have hsame := fun W va vb x y (h1 : Mat W va x) (h2 : Mat W vb y) (h3 : x.length ≤ 1000000) (h4 : y.length ≤ 1000000) (h5 : ∀ i, (x.getD i []).length ≤ 1000000) (h6 : ∀ i, (y.getD i []).length ≤ 1000000) => same16_c va vb x y W h1 h2 h3 h4 h5 h6
  have hrl := rows_len2 (num := numP (ints (tenP n)) (planX n [a, b, c, d])) (den := denP (ints (tenP n)) (planX n [a, b, c, d])) (m := n) (H := 1 + h % 130) (by omega)
  have hrr : ∀ r ∈ rowsOf (numP (ints (tenP n)) (planX n [a, b, c, d])) (denP (ints (tenP n)) (planX n [a, b, c, d])) (tenP n) (1 + h % 130), r.length ≤ 1000 := fun r hr => by
    have h1 := rows_fact (by omega) r hr
    have h2 := ten_len n
    omega
  generalize rowsOf (numP (ints (tenP n)) (planX n [a, b, c, d])) (denP (ints (tenP n)) (planX n [a, b, c, d])) (tenP n) (1 + h % 130) = R at *
  by_cases hgt : denP (ints (tenP n)) (planX n [a, b, c, d]) < numP (ints (tenP n)) (planX n [a, b, c, d])
  · have hlist2 := fun W vp vx hE hp hx => hlist W vp vx hE hp hx hgt
    rw [decide_eq_true hgt] at hmk
    clear hlist
    generalize 1 + h % 130 = q at *
    have Hmk := Lib.hid hmk; have Hkn := Lib.hid hkn; have Hlist := Lib.hid hlist2; have Hown := Lib.hid hown; have Hsame := Lib.hid hsame; have Hrl := Lib.hid hrl; have Hrr := Lib.hid hrr
    clear hmk hkn hlist2 hown hsame hrl hrr hr hgt he
    have hE0 : Ext w (w.alloc (.cells #[.int .u8 n, .int .i8 a, .int .i8 b, .int .i8 c, .int .i8 d, .int .u8 h] 27)) := (Ext.refl w).alloc _
    have HE0 := Lib.hid hE0; clear hE0
    go_enter Tryz.func3, Tryz.ntmps3
    go_wp2_with fail
    generalize w.alloc (.cells #[.int .u8 n, .int .i8 a, .int .i8 b, .int .i8 c, .int .i8 d, .int .u8 h] 27) = W0 at *
    refine (Hmk.out W0 HE0.out).mono ?_
    rintro e W1 ⟨vp, vx, rfl, hvp, hvx, hx1⟩
    obtain ⟨ap, cp, rfl⟩ := own_shape hvp
    obtain ⟨ax, cx, rfl⟩ := own_shape hvx
    have hE1 := HE0.out.trans hx1
    have Hvp := Lib.hid hvp.sl; have Hvx := Lib.hid hvx.sl; have HE1 := Lib.hid hE1; clear hvp hvx hx1 hE1
    have hbq := World.alloc_heap_new W1 (.cells #[.slice ap (ints (tenP n)).length cp, .int .i64 (q : Int), .slice ax (planX n [a, b, c, d]).length cx] 32)
    have hE2 : Ext W1 (W1.alloc (.cells #[.slice ap (ints (tenP n)).length cp, .int .i64 (q : Int), .slice ax (planX n [a, b, c, d]).length cx] 32)) := (Ext.refl W1).alloc _
    have Hbq := Lib.hid hbq; have HE2 := Lib.hid hE2; clear hbq hE2
    go_wp2_with fail
    generalize W1.alloc (.cells #[.slice ap (ints (tenP n)).length cp, .int .i64 (q : Int), .slice ax (planX n [a, b, c, d]).length cx] 32) = W2 at *
    refine (Hkn.out W2 (HE1.out.trans HE2.out)).mono ?_
    rintro e W3 ⟨rfl, hx3⟩
    have hE23 := HE2.out.trans hx3
    obtain ⟨hc0, hc1, hc2⟩ := box3 (hx3.heap Hbq.out)
    have HE23 := Lib.hid hE23; have Hbq3 := Lib.hid (hx3.heap Hbq.out); clear hE23 hx3
    go_wp2_with fail
    refine (Hlist.out W3 _ _ (HE1.out.trans HE23.out) (HE23.out.sl Hvp.out) (HE23.out.sl Hvx.out)).mono ?_
    rintro e W4 ⟨v4, rs4, rfl, hrs4, hm4, hx4⟩
    obtain ⟨a4, c4, rfl⟩ := own_shape hrs4.1
    have hmat4 := hrs4.mat
    rw [hm4] at hmat4
    obtain ⟨hd0, hd1, hd2⟩ := box3 (hx4.heap Hbq3.out)
    have hE4 := HE23.out.trans hx4
    have HE4 := Lib.hid hE4; have Hmat4 := Lib.hid hmat4; clear hrs4 hm4 hx4 hE4 hmat4
    go_wp2_with fail
    refine (Hown.out W4 _ _ (HE1.out.trans HE4.out) (HE4.out.sl Hvp.out) (HE4.out.sl Hvx.out)).mono ?_
    rintro e W5 ⟨v5, u5, rs5, rfl, hrs5, hu5, hm5, hx5⟩
    obtain ⟨a5, c5, rfl⟩ := own_shape hrs5.1
    obtain ⟨b5, d5, rfl⟩ := own_shape hu5
    have hmat5 := hrs5.mat
    rw [hm5] at hmat5
    have hE5 := HE4.out.trans hx5
    have hmat45 := hx5.mat Hmat4.out
    have HE5 := Lib.hid hE5; have Hmat5 := Lib.hid hmat5; have Hmat45 := Lib.hid hmat45; clear hrs5 hm5 hx5 hE5 hmat5 hmat45 hu5
    go_wp2_with fail
    refine (Hsame.out W5 _ _ R R Hmat45.out Hmat5.out (by have := Hrl.out; omega) (by have := Hrl.out; omega) (small_rows Hrr.out) (small_rows Hrr.out)).mono ?_
    rintro e W6 ⟨rfl, hq6⟩
    have HE6 := Lib.hid (HE5.out.trans hq6.ext); clear hq6
    have hdd : decide (R = R) = true := decide_eq_true rfl
    rw [hdd]
    go_wp2
    go_ret
    exact ⟨rfl, HE1.out.trans HE6.out⟩
  · rw [decide_eq_false hgt] at hmk
    clear hlist hown hsame hrl hrr
    generalize 1 + h % 130 = q at *
    have Hmk := Lib.hid hmk; have Hkn := Lib.hid hkn
    clear hmk hkn hr hgt he
    have hE0 : Ext w (w.alloc (.cells #[.int .u8 n, .int .i8 a, .int .i8 b, .int .i8 c, .int .i8 d, .int .u8 h] 27)) := (Ext.refl w).alloc _
    have HE0 := Lib.hid hE0; clear hE0
    go_enter Tryz.func3, Tryz.ntmps3
    go_wp2_with fail
    generalize w.alloc (.cells #[.int .u8 n, .int .i8 a, .int .i8 b, .int .i8 c, .int .i8 d, .int .u8 h] 27) = W0 at *
    refine (Hmk.out W0 HE0.out).mono ?_
    rintro e W1 ⟨vp, vx, rfl, hvp, hvx, hx1⟩
    obtain ⟨ap, cp, rfl⟩ := own_shape hvp
    obtain ⟨ax, cx, rfl⟩ := own_shape hvx
    have hE1 := HE0.out.trans hx1
    have hE2 : Ext w (W1.alloc (.cells #[.slice ap (ints (tenP n)).length cp, .int .i64 (q : Int), .slice ax (planX n [a, b, c, d]).length cx] 32)) := hE1.alloc _
    have HE2 := Lib.hid hE2; clear hvp hvx hx1 hE1 hE2
    go_wp2_with fail
    generalize W1.alloc (.cells #[.slice ap (ints (tenP n)).length cp, .int .i64 (q : Int), .slice ax (planX n [a, b, c, d]).length cx] 32) = W2 at *
    refine (Hkn.out W2 HE2.out).mono ?_
    rintro e W3 ⟨rfl, hx3⟩
    have HE3 := Lib.hid (HE2.out.trans hx3); clear hx3
    go_wp2_with fail
    refine (Hkn.out W3 HE3.out).mono ?_
    rintro e W4 ⟨rfl, hx4⟩
    have HE4 := Lib.hid (HE3.out.trans hx4); clear hx4
    go_wp2
    go_ret
    exact ⟨rfl, HE4.out⟩

end Go.Proofs.YtkamjjjimbbdmaaGreatDoor
