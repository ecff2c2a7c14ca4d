/- The law CommaRecords for any plan. -/
import Derived.Test.YtkamjjjimbbdmaaGreatDoorRecL
import Derived.Test.YtkamjjjimbbdmaaGreatDoorSmallC
import Derived.Test.YtkamjjjimbbdmaaGreatDoorMoreL
namespace Go.Proofs.YtkamjjjimbbdmaaGreatDoor
open Go.RowKit Go.Lib Go.Shelf Go.Sort

set_option maxRecDepth 100000 in
set_option maxHeartbeats 2000000 in
theorem rec_no (n q h : Nat) (a b c d : Int) (w : World)
    (hmk : ∀ W, Ext w W → Calls Tryz.prog 12 #[.agg #[.int .u8 n, .int .i8 a, .int .i8 b, .int .i8 c, .int .i8 d, .int .u8 h]] W fun e w' => ∃ vp vx, e = .returned (.tuple #[.agg #[vp, .int .i64 (q : Int), vx], .bool false]) ∧ OwnI w' W.heap.size vp (ints (tenP n)) ∧ OwnI w' W.heap.size vx (planX n [a, b, c, d]) ∧ Ext W w')
    (hkn : ∀ W, Ext w W → Calls Tryz.prog 13 #[] W fun e w' => e = .returned (.bool true) ∧ Ext W w') :
    Calls Tryz.prog 8 #[.agg #[.int .u8 n, .int .i8 a, .int .i8 b, .int .i8 c, .int .i8 d, .int .u8 h]] w fun e w' => e = .returned (.bool true) ∧ Ext w w' := by
  have Hmk := Lib.hid hmk; have Hkn := Lib.hid hkn
  clear hmk hkn
  have hE0 : Ext w (w.alloc (.cells #[.int .u8 n, .int .i8 a, .int .i8 b, .int .i8 c, .int .i8 d, .int .u8 h] 27)) := (Ext.refl w).alloc _
  have HE0 := Lib.hid hE0; clear hE0
  go_enter Tryz.func8, Tryz.ntmps8
  go_wp2_with fail
  generalize w.alloc (.cells #[.int .u8 n, .int .i8 a, .int .i8 b, .int .i8 c, .int .i8 d, .int .u8 h] 27) = W0 at *
  refine (Hmk.out W0 HE0.out).mono ?_
  rintro e W1 ⟨vp, vx, rfl, hvp, hvx, hx1⟩
  obtain ⟨ap, cp, rfl⟩ := own_shape hvp
  obtain ⟨ax, cx, rfl⟩ := own_shape hvx
  have hE1 := HE0.out.trans hx1
  have hE2 : Ext w (W1.alloc (.cells #[.slice ap (ints (tenP n)).length cp, .int .i64 (q : Int), .slice ax (planX n [a, b, c, d]).length cx] 32)) := hE1.alloc _
  have HE2 := Lib.hid hE2; clear hvp hvx hx1 hE1 hE2
  go_wp2_with fail
  generalize W1.alloc (.cells #[.slice ap (ints (tenP n)).length cp, .int .i64 (q : Int), .slice ax (planX n [a, b, c, d]).length cx] 32) = W2 at *
  refine (Hkn.out W2 HE2.out).mono ?_
  rintro e W3 ⟨rfl, hx3⟩
  have HE3 := Lib.hid (HE2.out.trans hx3); clear hx3
  go_wp2_with fail
  refine (Hkn.out W3 HE3.out).mono ?_
  rintro e W4 ⟨rfl, hx4⟩
  have HE4 := Lib.hid (HE3.out.trans hx4); clear hx4
  go_wp2
  go_ret
  exact ⟨rfl, HE4.out⟩

theorem superTen_c (m H : Nat) (vp vx : Value) (x : List Int) (w : World) (he : Env w) (hp : Sl w vp (i64s (ints (tenP m)))) (hx : Sl w vx (i64s x)) (h1 : 1 ≤ H) (hH : H ≤ 130) (hask : askErr (ints (tenP m)) H x = 0) :
    Calls Tryz.prog 27 #[.agg #[vp, .int .i64 H, vx]] w fun e w' => ∃ v rs, e = .returned (.tuple #[v, .int .i64 0]) ∧ RwL w' w.heap.size v rs ∧ rs.map Rw.x = (rowsOf (numP (ints (tenP m)) x) (denP (ints (tenP m)) x) (tenP m) H).filter (superP (ints (tenP m))) ∧ Ext w w' :=
  super_w vp vx (ints (tenP m)) x H w he hp hx _ (by have := rows_len2 (num := numP (ints (tenP m)) x) (den := denP (ints (tenP m)) x) (m := m) hH; omega)
    (fun r hr => ⟨(rows_sign hH hr).1, by
      have := (rows_fact hH r hr).2.2.1
      have := Dec.nDigits_le (n := denP (ints (tenP m)) r) (k := 3) (by omega) (by omega)
      omega⟩) (fun W hE => listTen_c m H vp vx x W (he.ext hE) (hE.sl hp) (hE.sl hx) h1 hH hask)

set_option maxRecDepth 100000 in
theorem rec_c (n h : Nat) (a b c d : Int) (w : World) (he : Env w) (hn : n < 256) (hh : h < 256) (hr : ∀ z ∈ [a, b, c, d], -128 ≤ z ∧ z ≤ 127) :
    Calls Tryz.prog 8 #[.agg #[.int .u8 n, .int .i8 a, .int .i8 b, .int .i8 c, .int .i8 d, .int .u8 h]] w fun e w' => e = .returned (.bool true) ∧ Ext w w' := by
  have hm2 : h % 130 < 130 := Nat.mod_lt _ (by omega)
  have hmk := fun W (hE : Ext w W) => make16_c n h a b c d W (he.ext hE) hn hh hr
  have hkn := fun W (hE : Ext w W) => known_c W (he.ext hE)
  obtain ⟨q, hq⟩ : ∃ q, q = 1 + h % 130 := ⟨_, rfl⟩
  rw [← hq] at hmk
  have hq1 : 1 ≤ q := by omega
  have hq2 : q ≤ 130 := by omega
  by_cases hgt : denP (ints (tenP n)) (planX n [a, b, c, d]) < numP (ints (tenP n)) (planX n [a, b, c, d])
  · rw [decide_eq_true hgt] at hmk
    have hask := plan_askK n q [a, b, c, d] hq1 hq2 hgt
    have hlen2 := rows_len2 (num := numP (ints (tenP n)) (planX n [a, b, c, d])) (den := denP (ints (tenP n)) (planX n [a, b, c, d])) (m := n) hq2
    have hrm := recs_mem (p := ints (tenP n)) _ (R := rowsOf (numP (ints (tenP n)) (planX n [a, b, c, d])) (denP (ints (tenP n)) (planX n [a, b, c, d])) (tenP n) q) rfl
    have hlen := hlen2
    unfold rowsOf at hlen
    rw [List.length_map] at hlen
    refine rec_yes n q h a b c d w (wall (numP (ints (tenP n)) (planX n [a, b, c, d])) (denP (ints (tenP n)) (planX n [a, b, c, d])) (tenP n) q) hlen ?_ hmk hkn
      (fun W vp vx hE hp hx => recordsTen_c n q vp vx _ W (he.ext hE) hp hx hq1 hq2 hask)
      (fun W vp vx hE hp hx => superTen_c n q vp vx _ W (he.ext hE) hp hx hq1 hq2 hask) ?_ hrm.2 (Nat.le_trans hrm.1 hlen2)
    · intro e hm
      have f := rows_fact hq2 e.1 (List.mem_map_of_mem hm)
      obtain ⟨_, _, _, _, _, h4, h5, h6, _⟩ := wall_mem hq2 hm
      obtain ⟨h7, h8⟩ := wall_parts hq2 hm
      have := ten_len n
      exact ⟨by omega, by omega, by omega, h7, h8⟩
    · intro W vp vx hE hp hx
      refine (listerTen_c n q vp vx _ W (he.ext hE) hp hx (plan_nice n _) (plan_len n _) hq1 hq2).mono ?_
      rintro e w' ⟨v, u, rs, h1, h2, h3, h4, h5⟩
      obtain ⟨es, e1, e2, e3⟩ := zip_back h4
      exact ⟨v, u, es, h1, ⟨by rw [e1]; exact h2, by rw [e2]; exact h3⟩, e3, h5⟩
  · rw [decide_eq_false hgt] at hmk
    exact rec_no n q h a b c d w hmk hkn

end Go.Proofs.YtkamjjjimbbdmaaGreatDoor
