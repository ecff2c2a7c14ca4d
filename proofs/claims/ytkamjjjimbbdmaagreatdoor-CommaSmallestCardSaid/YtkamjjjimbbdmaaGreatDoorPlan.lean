/- Walks of the laws' own functions: Make (12), Make (16). -/
import Derived.Test.YtkamjjjimbbdmaaGreatDoorPrimes
import Derived.Deep.RegionHeld3
namespace Go.Proofs.YtkamjjjimbbdmaaGreatDoor
open Go.RowKit Go.Lib

/-- The exponents of a plan over its primes. -/
def planX (n : Nat) (l : List Int) : List Int := ivl (tenP n).length l
theorem ten_len (n : Nat) : (tenP n).length ≤ 4 ∧ 0 < (tenP n).length := by
  unfold tenP
  have h : n % 10 < 10 := Nat.mod_lt _ (by omega)
  generalize n % 10 = r at h
  rcases (show r = 0 ∨ r = 1 ∨ r = 2 ∨ r = 3 ∨ r = 4 ∨ r = 5 ∨ r = 6 ∨ r = 7 ∨ r = 8 ∨ r = 9 by omega) with rfl | rfl | rfl | rfl | rfl | rfl | rfl | rfl | rfl | rfl <;> decide

set_option maxRecDepth 100000 in
set_option maxHeartbeats 2000000 in
theorem make12_c (n : Nat) (a b c d : Int) (w : World) (hn : n < 256) (hr : ∀ z ∈ [a, b, c, d], -128 ≤ z ∧ z ≤ 127) :
    Calls Tryz.prog 19 #[.agg #[.int .u8 n, .int .i8 a, .int .i8 b, .int .i8 c, .int .i8 d]] w fun e w' => ∃ vp vx, e = .returned (.tuple #[vp, vx]) ∧ OwnI w' w.heap.size vp (ints (tenP n)) ∧ OwnI w' w.heap.size vx (planX n [a, b, c, d]) ∧ Ext w w' := by
  have hpr := fun W => primes12_c n W hn
  have hiv := fun vp W (h : Sl W vp (i64s (ints (tenP n)))) => interval_c vp (ints (tenP n)) a b c d W h (by rw [ints_length]; exact (ten_len n).1) hr
  have Hpr := Lib.hid hpr; have Hiv := Lib.hid hiv; clear hpr hiv hr
  have hE0 : Ext w (w.alloc (.cells #[.int .u8 n, .int .i8 a, .int .i8 b, .int .i8 c, .int .i8 d] 25)) := (Ext.refl w).alloc _
  have h0 := World.alloc_heap_new w (.cells #[.int .u8 n, .int .i8 a, .int .i8 b, .int .i8 c, .int .i8 d] 25)
  generalize hW : w.alloc (.cells #[.int .u8 n, .int .i8 a, .int .i8 b, .int .i8 c, .int .i8 d] 25) = W at *
  have box : ∀ V : World, V.heap[w.heap.size]? = some (.cells #[.int .u8 n, .int .i8 a, .int .i8 b, .int .i8 c, .int .i8 d] 25 (0, 0)) → V.cell? ⟨w.heap.size, 0, none⟩ = some (.int .u8 n) ∧ V.cell? ⟨w.heap.size, 1, none⟩ = some (.int .i8 a) ∧ V.cell? ⟨w.heap.size, 2, none⟩ = some (.int .i8 b) ∧ V.cell? ⟨w.heap.size, 3, none⟩ = some (.int .i8 c) ∧ V.cell? ⟨w.heap.size, 4, none⟩ = some (.int .i8 d) := by
    intro V h
    refine ⟨?_, ?_, ?_, ?_, ?_⟩ <;> (unfold World.cell?; rw [h]; rfl)
  have hb0 := (box W h0).1
  have Hbox := Lib.hid box; have H0 := Lib.hid h0; have HE0 := Lib.hid hE0; clear box h0 hE0
  go_enter Tryz.func19, Tryz.ntmps19
  go_wp2_with fail
  refine (Hpr.out W).mono ?_
  rintro e1 W1 ⟨vp, rfl, hvp, hx1⟩
  obtain ⟨_, q1, q2, q3, q4⟩ := Hbox.out W1 (hx1.heap H0.out)
  have hi1 := Hiv.out vp W1 hvp.sl
  have Hvp := Lib.hid hvp; have Hx1 := Lib.hid hx1; have Hi1 := Lib.hid hi1; clear hvp hx1 hi1 hb0
  go_wp2_with fail
  refine Hi1.out.mono ?_
  rintro e1 W2 ⟨vx, rfl, hvx, hx2⟩
  have Hvx := Lib.hid hvx; have Hx2 := Lib.hid hx2; clear hvx hx2
  go_wp2
  go_ret2
  have hvx := Hvx.out
  rw [ints_length] at hvx
  have hvx : OwnI W2 W1.heap.size vx (planX n [a, b, c, d]) := hvx
  exact ⟨_, _, rfl, own_mono (Hx2.out.ownI Hvp.out) HE0.out.size, own_mono hvx (HE0.out.trans Hx1.out).size, (HE0.out.trans Hx1.out).trans Hx2.out⟩

theorem own_off {w : World} {B E s n : Nat} {x : Value} {xs : List Value} (h : w.ownsRow B E s x n xs) {p : Addr} (hp : p.block < B) (u : Value) : (w.setCell p u).ownsRow B E s x n xs := by
  refine ⟨h.1, ?_⟩
  rcases h.2 with hn | ⟨g, cap, cur, hv, hb, hg, r⟩
  · exact .inl hn
  · exact .inr ⟨g, cap, cur, hv, hb, (Below.heap_setCell w p u g (by omega)).trans hg, r⟩
theorem own_set3 {w : World} {B E s n b : Nat} {x u v z : Value} {xs : List Value} (h : w.ownsRow B E s x n xs) (hb : b < B) : (((w.setCell ⟨b, 0, none⟩ u).setCell ⟨b, 1, none⟩ v).setCell ⟨b, 2, none⟩ z).ownsRow B E s x n xs :=
  own_off (own_off (own_off h hb u) hb v) hb z
theorem plan_nice (n : Nat) (l : List Int) : Nice (ints (tenP n)) (planX n l) := by
  have h4 := ten_len n
  have hq : ∀ i, i < (tenP n).length → 2 ≤ nth (tenP n) i ∧ nth (tenP n) i ≤ 13 := by
    clear h4
    unfold tenP
    have h : n % 10 < 10 := Nat.mod_lt _ (by omega)
    generalize n % 10 = r at h
    rcases (show r = 0 ∨ r = 1 ∨ r = 2 ∨ r = 3 ∨ r = 4 ∨ r = 5 ∨ r = 6 ∨ r = 7 ∨ r = 8 ∨ r = 9 by omega) with rfl | rfl | rfl | rfl | rfl | rfl | rfl | rfl | rfl | rfl <;> decide
  refine ⟨?_, ?_, fun i hi => ?_⟩
  · unfold planX; rw [ivl_length, ints_length]; exact Nat.le_refl _
  · unfold planX; rw [ivl_length]; omega
  · unfold planX at hi ⊢
    rw [ivl_length] at hi
    have := hq i hi
    have := tmod_ten (nthI l i)
    rw [nthI_ints, nthI_ivl hi]
    omega

set_option maxRecDepth 100000 in
set_option maxHeartbeats 2000000 in
theorem make16_c (n h : Nat) (a b c d : Int) (w : World) (he : Env w) (hn : n < 256) (hh : h < 256) (hr : ∀ z ∈ [a, b, c, d], -128 ≤ z ∧ z ≤ 127) :
    Calls Tryz.prog 12 #[.agg #[.int .u8 n, .int .i8 a, .int .i8 b, .int .i8 c, .int .i8 d, .int .u8 h]] w fun e w' => ∃ vp vx, e = .returned (.tuple #[.agg #[vp, .int .i64 (1 + h % 130 : Nat), vx], .bool (decide (denP (ints (tenP n)) (planX n [a, b, c, d]) < numP (ints (tenP n)) (planX n [a, b, c, d])))]) ∧ OwnI w' w.heap.size vp (ints (tenP n)) ∧ OwnI w' w.heap.size vx (planX n [a, b, c, d]) ∧ Ext w w' := by
  have hmk := fun W => make12_c n a b c d W hn hr
  have hva := fun vp vx W (hE : Ext w W) (hp : Sl W vp (i64s (ints (tenP n)))) (hx : Sl W vx (i64s (planX n [a, b, c, d]))) => value_c vp vx (ints (tenP n)) (planX n [a, b, c, d]) W (he.ext hE) hp hx (plan_nice n _) (by unfold planX; rw [ivl_length, ints_length])
  have hnd := numP_digits (plan_nice n [a, b, c, d])
  have hdd := denP_digits (plan_nice n [a, b, c, d])
  generalize hnum : numP (ints (tenP n)) (planX n [a, b, c, d]) = num at *
  generalize hden : denP (ints (tenP n)) (planX n [a, b, c, d]) = den at *
  have hfn : Fit (num : Int) := by show nDigits num ≤ 400000; omega
  have hfd : Fit (den : Int) := by show nDigits den ≤ 400000; omega
  have hcm := fun W => cmp_c (num : Int) (den : Int) W hfn hfd
  have Hmk := Lib.hid hmk; have Hva := Lib.hid hva; have Hcm := Lib.hid hcm; clear hmk hva hcm hr hnd hdd hfn hfd hnum hden he
  have hm2 : h % 130 < 130 := Nat.mod_lt _ (by omega)
  have hw1 : IntKind.i64.wrap (h : Int) = (h : Int) := IntWalk.i64_in _ (by omega)
  have hw2 : (h : Int).tmod 130 = ((h % 130 : Nat) : Int) := by rw [Int.tmod_eq_emod_of_nonneg (by omega)]; simp
  have hw3 : IntKind.i64.wrap (1 + ((h % 130 : Nat) : Int)) = 1 + ((h % 130 : Nat) : Int) := IntWalk.i64_in _ (by omega)
  generalize h % 130 = r at *
  have Hw1 := Lib.hid hw1; have Hw2 := Lib.hid hw2; have Hw3 := Lib.hid hw3; clear hw1 hw2 hw3
  have hE0 : Ext w (w.alloc (.cells #[.int .u8 n, .int .i8 a, .int .i8 b, .int .i8 c, .int .i8 d, .int .u8 h] 27)) := (Ext.refl w).alloc _
  have h0 := World.alloc_heap_new w (.cells #[.int .u8 n, .int .i8 a, .int .i8 b, .int .i8 c, .int .i8 d, .int .u8 h] 27)
  go_enter Tryz.func12, Tryz.ntmps12
  go_wp2_with fail
  have hE2 : Ext w ((w.alloc (.cells #[.int .u8 n, .int .i8 a, .int .i8 b, .int .i8 c, .int .i8 d, .int .u8 h] 27)).alloc (.cells #[.slice none 0 0, .int .i64 0, .slice none 0 0] 32)) := hE0.alloc _
  have hb5 : ((w.alloc (.cells #[.int .u8 n, .int .i8 a, .int .i8 b, .int .i8 c, .int .i8 d, .int .u8 h] 27)).alloc (.cells #[.slice none 0 0, .int .i64 0, .slice none 0 0] 32)).cell? ⟨w.heap.size, 5, none⟩ = some (.int .u8 h) := by
    refine ((Ext.refl _).alloc _).cell ?_
    unfold World.cell?; rw [h0]; rfl
  have hz := World.alloc_heap_new (w.alloc (.cells #[.int .u8 n, .int .i8 a, .int .i8 b, .int .i8 c, .int .i8 d, .int .u8 h] 27)) (.cells #[.slice none 0 0, .int .i64 0, .slice none 0 0] 32)
  rw [World.size_alloc] at hz
  generalize (w.alloc (.cells #[.int .u8 n, .int .i8 a, .int .i8 b, .int .i8 c, .int .i8 d, .int .u8 h] 27)).alloc (.cells #[.slice none 0 0, .int .i64 0, .slice none 0 0] 32) = W2 at *
  have HE2 := Lib.hid hE2; have Hz := Lib.hid hz; have Hb5 := Lib.hid hb5; clear hE2 hz hb5 h0 hE0
  refine (Hmk.out W2).mono ?_
  rintro e1 W3 ⟨vp, vx, rfl, hvp, hvx, hx3⟩
  have Hvp := Lib.hid hvp; have Hvx := Lib.hid hvx; have Hx3 := Lib.hid hx3; clear hvp hvx hx3
  go_wp2_with fail
  refine (Hva.out vp vx W3 (HE2.out.trans Hx3.out) Hvp.out.sl Hvx.out.sl).mono ?_
  rintro e1 W4 ⟨rfl, hx4⟩
  have hx24 := Hx3.out.trans hx4
  have hb5 := hx24.cell Hb5.out
  have hz4 := hx24.heap Hz.out
  have hs4 := hx24.size
  have hzl : w.heap.size + 1 < W2.heap.size := (Array.getElem?_eq_some_iff.1 Hz.out).1
  have hc0 : W4.cell? ⟨w.heap.size + 1, 0, none⟩ = some (.slice none 0 0) := by unfold World.cell?; rw [hz4]; rfl
  have hc1 : W4.cell? ⟨w.heap.size + 1, 1, none⟩ = some (.int .i64 0) := by unfold World.cell?; rw [hz4]; rfl
  have hc2 : W4.cell? ⟨w.heap.size + 1, 2, none⟩ = some (.slice none 0 0) := by unfold World.cell?; rw [hz4]; rfl
  have hf0 : W4.frozen? ⟨w.heap.size + 1, 0, none⟩ = false := by unfold World.frozen?; rw [hz4]; rfl
  have hf1 : W4.frozen? ⟨w.heap.size + 1, 1, none⟩ = false := by unfold World.frozen?; rw [hz4]; rfl
  have hf2 : W4.frozen? ⟨w.heap.size + 1, 2, none⟩ = false := by unfold World.frozen?; rw [hz4]; rfl
  obtain ⟨ax, cx, rfl⟩ := own_shape Hvx.out
  obtain ⟨ap, cp, rfl⟩ := own_shape Hvp.out
  have Hx24 := Lib.hid hx24; have Hx4 := Lib.hid hx4; have Hz4 := Lib.hid hz4; clear hx24 hx4 hz4
  have hw1 := Hw1.out; have hw2 := Hw2.out; have hw3 := Hw3.out
  go_wp2_with fail
  go_region_held3 (fun w' => w'.cell? ⟨w.heap.size, 5, none⟩ = some (.int .u8 h))
    (first | exact hxa.cell (by assumption) | go_keep)
    (first | (go_at_call 37; refine (Hcm.out _).mono ?_; rintro e9 V4 ⟨rfl, hxa⟩; have hxb := (Ext.refl W4).drew.trans hxa; have hd0 := hxb.cell hc0; have hd1 := hxb.cell hc1; have hd2 := hxb.cell hc2; have hg0 := (hxb.frozen (World.block_lt_of_cell? _ _ hc0)).trans hf0; have hg1 := (hxb.frozen (World.block_lt_of_cell? _ _ hc1)).trans hf1; have hg2 := (hxb.frozen (World.block_lt_of_cell? _ _ hc2)).trans hf2))
  have hE9 : Ext w V4 := (HE2.out.trans Hx24.out).trans hxb
  have ho1 := own_set3 (u := .slice ap (ints (tenP n)).length cp) (v := .int .i64 (1 + (r : Int))) (z := .slice ax (planX n [a, b, c, d]).length cx) (hxb.own (Hx4.out.own Hvp.out)) hzl
  have ho2 := own_set3 (u := .slice ap (ints (tenP n)).length cp) (v := .int .i64 (1 + (r : Int))) (z := .slice ax (planX n [a, b, c, d]).length cx) (hxb.own (Hx4.out.own Hvx.out)) hzl
  have hE10 := ((hE9.setCell (p := ⟨w.heap.size + 1, 0, none⟩) (by simp) (.slice ap (ints (tenP n)).length cp)).setCell (p := ⟨w.heap.size + 1, 1, none⟩) (by simp) (.int .i64 (1 + (r : Int)))).setCell (p := ⟨w.heap.size + 1, 2, none⟩) (by simp) (.slice ax (planX n [a, b, c, d]).length cx)
  have hcv : decide (0 < cmpI (num : Int) (den : Int)) = decide (den < num) := by
    unfold cmpI
    by_cases h1 : den < num
    · rw [if_neg (by omega), if_neg (by omega), decide_eq_true h1]; rfl
    · rw [decide_eq_false h1]; split
      · rfl
      · rw [if_pos (by omega)]; rfl
  have HE10 := Lib.hid hE10; have Ho1 := Lib.hid ho1; have Ho2 := Lib.hid ho2; have Hcv := Lib.hid hcv; clear hE10 ho1 ho2 hE9 hxa hxb hcv
  clear hw1 hw2 hw3
  go_wp2
  refine bodyPost_ret (v := .tuple #[.agg #[.slice ap (ints (tenP n)).length cp, .int .i64 (1 + (r : Int)), .slice ax (planX n [a, b, c, d]).length cx], .bool (decide (0 < cmpI (num : Int) (den : Int)))]) (by simp [results, Tryz.results12, go_sem, hd0, hd1, hd2]) rfl ?_
  exact ⟨_, _, by rw [Hcv.out, Int.natCast_add]; rfl, own_mono Ho1.out HE2.out.size, own_mono Ho2.out HE2.out.size, HE10.out⟩

end Go.Proofs.YtkamjjjimbbdmaaGreatDoor
