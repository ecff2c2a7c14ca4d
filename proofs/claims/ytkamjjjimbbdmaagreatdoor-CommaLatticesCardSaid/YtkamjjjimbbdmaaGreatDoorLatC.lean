/- The law CommaLattices for any plan and any two intervals. -/
import Derived.Test.YtkamjjjimbbdmaaGreatDoorLatL
namespace Go.Proofs.YtkamjjjimbbdmaaGreatDoor
open Go.RowKit Go.Lib Go.Shelf Go.Sort

set_option maxRecDepth 100000 in
theorem latt_c (n h : Nat) (a b c d a1 b1 c1 d1 a2 b2 c2 d2 : Int) (w : World) (he : Env w) (hrv : RngV w) (hn : n < 256) (hh : h < 256) (hr : ∀ z ∈ [a, b, c, d], -128 ≤ z ∧ z ≤ 127) (h1 : ∀ z ∈ [a1, b1, c1, d1], -128 ≤ z ∧ z ≤ 127) (h2 : ∀ z ∈ [a2, b2, c2, d2], -128 ≤ z ∧ z ≤ 127) :
    Calls Tryz.prog 11 #[.agg #[.int .u8 n, .int .i8 a, .int .i8 b, .int .i8 c, .int .i8 d, .int .u8 h], .agg #[.int .i8 a1, .int .i8 b1, .int .i8 c1, .int .i8 d1], .agg #[.int .i8 a2, .int .i8 b2, .int .i8 c2, .int .i8 d2]] w fun e w' => e = .returned (.bool true) ∧ Ext w w' := by
  have hm2 : h % 130 < 130 := Nat.mod_lt _ (by omega)
  have hmk := fun W (hE : Ext w W) => make16_c n h a b c d W (he.ext hE) hn hh hr
  have hkn := fun W (hE : Ext w W) => known_c W (he.ext hE)
  obtain ⟨q, hq⟩ : ∃ q, q = 1 + h % 130 := ⟨_, rfl⟩
  rw [← hq] at hmk
  have hq1 : 1 ≤ q := by omega
  have hq2 : q ≤ 130 := by omega
  by_cases hgt : denP (ints (tenP n)) (planX n [a, b, c, d]) < numP (ints (tenP n)) (planX n [a, b, c, d])
  · rw [decide_eq_true hgt] at hmk
    have hask := plan_askK n q [a, b, c, d] hq1 hq2 hgt
    have hlen2 := rows_len2 (num := numP (ints (tenP n)) (planX n [a, b, c, d])) (den := denP (ints (tenP n)) (planX n [a, b, c, d])) (m := n) hq2
    have ht := ten_len n
    have hil : (ints (tenP n)).length = (tenP n).length := ints_length _
    refine latt_yes n q h a b c d a1 b1 c1 d1 a2 b2 c2 d2 w he hrv h1 h2 _ hlen2 (fun r hr => ?_) hmk hkn (fun W vp vx hE hp hx => ?_) (fun W vp vx hE hp hx => listTen_c n q _ _ _ W (he.ext hE) hp hx hq1 hq2 hask) (fun W vp vx hE hp hx => ?_)
    · have := one_rowChk (rows_sign hq2 hr).1
      exact ⟨by rw [this.1, hil], this.2⟩
    · have := ask_c vp vx (q : Int) _ _ W (he.ext hE) hp hx (by omega) (by have := plan_len n [a, b, c, d]; omega)
      rwa [hask] at this
    · refine (listerTen_c n q vp vx _ W (he.ext hE) hp hx (plan_nice n _) (plan_len n _) hq1 hq2).mono ?_
      rintro e w' ⟨v, u, rs, rfl, g2, _, g4, g5⟩
      obtain ⟨a5, c5, rfl⟩ := own_shape g2.1
      exact ⟨_, _, _, rs, rfl, g2, g4, g5⟩
  · rw [decide_eq_false hgt] at hmk
    exact latt_no n q h a b c d a1 b1 c1 d1 a2 b2 c2 d2 w hmk hkn

end Go.Proofs.YtkamjjjimbbdmaaGreatDoor
