/- decimal.Add of small numbers, monzo.Superparticular, the closure of comma.Superparticular. -/
import Derived.Test.YtkamjjjimbbdmaaGreatDoorLess
namespace Go.Proofs.YtkamjjjimbbdmaaGreatDoor
open Go.RowKit Go.Lib Go.Shelf Go.Sort

set_option maxHeartbeats 400000 in
theorem decAdd_c (a b : Nat) (w : World) (he : Env w) (ha : nDigits a ≤ 17) (hb : nDigits b ≤ 17) :
    Calls Tryz.prog 94 #[.string (D a), .string (D b)] w fun e w' => e = .returned (.string (D (a + b))) ∧ Ext w w' := by
  have la := lt18 (n := a) (by omega)
  have lb := lt18 (n := b) (by omega)
  have hbo := both_yes a b w (by omega) (by omega)
  have Hbo := Lib.hid hbo; have He := Lib.hid he
  clear hbo he
  go_enter Tryz.func94, Tryz.ntmps94
  go_wp2_with fail
  refine Hbo.out.mono ?_
  rintro e w1 ⟨rfl, hx1⟩
  have Hx1 := Lib.hid hx1; clear hx1
  go_wp2_with fail
  rw [← Int.natCast_add]
  refine (decOf_c (a + b) (by omega) w1 (He.out.ext Hx1.out)).mono ?_
  rintro e w2 ⟨rfl, hx2⟩
  have Hx2 := Lib.hid hx2; clear hx2
  go_wp2
  go_ret
  exact ⟨rfl, Hx1.out.trans Hx2.out⟩

def superP (p x : List Int) : Bool := decide (numP p x = denP p x + 1)

set_option maxHeartbeats 400000 in
theorem msuper_c (vp vx : Value) (p x : List Int) (w : World) (he : Env w) (hp : Sl w vp (i64s p)) (hx : Sl w vx (i64s x)) (hc : oneErr p x = 0) (hd : nDigits (denP p x) ≤ 17) :
    Calls Tryz.prog 62 #[vp, vx] w fun e w' => e = .returned (.tuple #[.bool (superP p x), .int .i64 0]) ∧ Ext w w' := by
  obtain ⟨hpe, hlx⟩ := oneErr_zero hc
  have hn : Nice p x := nice_of hpe hlx
  have hp6 := (primesErr_zero hpe).2.1
  have hxl := hn.1
  have hck := check_c vp vx p x w hp hx (by omega) (by omega)
  rw [hc] at hck
  have hs := fun W (hE : Ext w W) => msides_c vp vx p x W (he.ext hE) (hE.sl hp) (hE.sl hx) hn
  unfold superP
  have hd1 := numP_digits hn
  generalize numP p x = n1 at *
  generalize denP p x = m1 at *
  have had := fun W (hE : Ext w W) => decAdd_c m1 1 W (he.ext hE) hd (by decide +kernel)
  rw [D_one] at had
  have heq : ((D n1).toList == (D (m1 + 1)).toList) = decide (n1 = m1 + 1) := D_eq _ _
  obtain ⟨ap, cp, rfl, _, _, _⟩ := hp.parts
  obtain ⟨ax, cx, rfl, _, _, _⟩ := hx.parts
  rw [i64s_length] at *
  rw [i64s_length] at *
  have Hck := Lib.hid hck; have Hs := Lib.hid hs; have Had := Lib.hid had
  clear hck hs had hp hx he hc hlx hn hpe hp6 hxl hd hd1
  go_enter Tryz.func62, Tryz.ntmps62
  go_wp2_with fail
  refine Hck.out.mono ?_
  rintro e w1 ⟨rfl, hx1⟩
  have Hx1 := Lib.hid hx1; clear hx1
  go_wp2_with fail
  refine (Hs.out w1 Hx1.out).mono ?_
  rintro e w2 ⟨rfl, hx2⟩
  have Hx2 := Lib.hid (Hx1.out.trans hx2); clear hx2
  go_wp2_with fail
  refine (Had.out w2 Hx2.out).mono ?_
  rintro e w3 ⟨rfl, hx3⟩
  have Hx3 := Lib.hid (Hx2.out.trans hx3); clear hx3
  go_wp2
  go_ret2
  exact ⟨rfl, Hx3.out⟩

set_option maxHeartbeats 400000 in
/-- The closure: what is not superparticular. -/
theorem superf_c (vp vx : Value) (b : Nat) (p x : List Int) (w : World) (he : Env w) (hp : Sl w vp (i64s p)) (hx : Sl w vx (i64s x)) (hb : w.cell? ⟨b, 0, none⟩ = some vp) (hc : oneErr p x = 0) (hd : nDigits (denP p x) ≤ 17) :
    Calls Tryz.prog 61 #[vx, .pointer (some ⟨b, 0, none⟩)] w fun e w' => e = .returned (.bool (!superP p x)) ∧ Ext w w' := by
  have hs := fun W (hE : Ext w W) => msuper_c vp vx p x W (he.ext hE) (hE.sl hp) (hE.sl hx) hc hd
  generalize superP p x = s at *
  obtain ⟨ap, cp, rfl, _, _, _⟩ := hp.parts
  obtain ⟨ax, cx, rfl, _, _, _⟩ := hx.parts
  rw [i64s_length] at *
  rw [i64s_length] at *
  have Hs := Lib.hid hs
  clear hs hp hx he hc hd
  go_enter Tryz.func61, Tryz.ntmps61
  go_wp2_with fail
  refine (Hs.out w (Ext.refl w)).mono ?_
  rintro e w1 ⟨rfl, hx1⟩
  have Hx1 := Lib.hid hx1; clear hx1
  go_wp2
  go_ret
  exact ⟨rfl, Hx1.out⟩

end Go.Proofs.YtkamjjjimbbdmaaGreatDoor
