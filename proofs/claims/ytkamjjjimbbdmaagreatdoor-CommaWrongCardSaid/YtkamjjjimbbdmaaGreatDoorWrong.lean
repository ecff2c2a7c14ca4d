/- The walk of the law CommaWrong. -/
import Derived.Test.YtkamjjjimbbdmaaGreatDoorRecords
namespace Go.Proofs.YtkamjjjimbbdmaaGreatDoor
open Go.RowKit Go.Lib Go.Shelf Go.Sort

theorem mat_nil (w : World) : Mat w (.slice none 0 0) [] := ⟨[], rfl, .inl ⟨none, 0, rfl, Nat.zero_le _, rfl⟩, fun i u hu => by simp at hu⟩
theorem zeros_sign {p : List Int} (hp : primesErr p = 0) : oneErr p (List.replicate p.length 0) = 0 ∧ signP p (List.replicate p.length 0) = 0 := by
  have hz : ∀ i, nthI (List.replicate p.length 0) i = 0 := fun i => by
    unfold nthI
    rw [List.getD_eq_getElem?_getD, List.getElem?_replicate]
    split <;> rfl
  have hr : rowErr p.length (List.replicate p.length 0) = 0 := by
    unfold rowErr
    rw [if_neg (by simp), any_far_no (fun k _ => far_no (by rw [hz]; omega) (by rw [hz]; omega))]
    rfl
  have h1 : oneErr p (List.replicate p.length 0) = 0 := by
    unfold oneErr allErr
    rw [hp, if_neg (by simp), rowsErr, hr, if_neg (by simp)]
    rfl
  refine ⟨h1, ?_⟩
  have hN : ∀ k, sideN p (List.replicate p.length 0) k = 1 := by
    intro k
    induction k with
    | zero => rfl
    | succ k ih => rw [sideN, hz, if_neg (by omega), ih]
  have hD : ∀ k, sideD p (List.replicate p.length 0) k = 1 := by
    intro k
    induction k with
    | zero => rfl
    | succ k ih => rw [sideD, hz, if_neg (by omega), ih]; rfl
  unfold signP numP denP
  rw [h1, if_neg (by simp), hN, hD]
  rfl

/-- Combine of no interval. -/
theorem combNone_c (vp : Value) (p : List Int) (w : World) (he : Env w) (hp : Sl w vp (i64s p)) (hlp : p.length ≤ 1000000) :
    Calls Tryz.prog 21 #[vp, .slice none 0 0, .int .i64 4611686018427387904] w fun e w' => ∃ a c, e = .returned (.tuple #[.slice a 0 c, .int .i64 (primesErr p)]) ∧ Ext w w' := by
  have hall : allErr p [] = primesErr p := by
    unfold allErr
    by_cases h : primesErr p = 0
    · rw [if_neg (by simpa using h), h]; rfl
    · rw [if_pos h]
  by_cases h : primesErr p = 0
  · rw [h]
    have hz := zeros_sign h
    have := combine_w vp (.slice none 0 0) p [] 4611686018427387904 w he hp (mat_nil w) (by simp) (fun i => by simp) (by rw [hall, h]) (.inl rfl) (Nat.le_refl _) (by show pw _ 0 ≤ _; rw [pw_zero]; omega)
    refine Calls.mono this ?_
    rintro e w' (⟨⟨z, hz1, hbad⟩, _⟩ | ⟨_, v, rs, rfl, hrs, hcomb, hx⟩)
    · simp only [combAll, List.foldl_nil, List.mem_singleton] at hz1
      subst hz1
      exact absurd hz.1 hbad
    · obtain ⟨s, h1, _, h3⟩ := hcomb
      have hp0 : posOf p (combAll 4611686018427387904 [] [List.replicate p.length 0]) = [] := by
        unfold posOf combAll
        simp [hz.2]
      rw [hp0] at h1
      have hs := h1.eq_nil
      subst hs
      have hrs0 : rs = [] := by
        have : rs.map Rw.x = [] := h3
        simpa using this
      subst hrs0
      obtain ⟨a, c, rfl⟩ := own_shape hrs.1
      exact ⟨a, c, rfl, hx⟩
  · have := combErr_c vp (.slice none 0 0) p [] 4611686018427387904 w hp (mat_nil w) hlp (by simp) (fun i => by simp) (by rw [hall]; exact h)
    rw [hall] at this
    refine Calls.mono this ?_
    rintro e w' ⟨rfl, rfl⟩
    exact ⟨none, 0, rfl, Ext.refl _⟩

set_option maxRecDepth 100000 in
set_option maxHeartbeats 4000000 in
theorem wrongLong_c (vp vx vy : Value) (p x y : List Int) (w : World) (he : Env w) (hp : Sl w vp (i64s p)) (hx : Sl w vx (i64s x)) (hy : Sl w vy (i64s y)) (hl : 8 < p.length ∨ 8 < x.length ∨ 8 < y.length) :
    Calls Tryz.prog 6 #[vp, vx, vy] w fun e w' => e = .returned (.bool true) ∧ Ext w w' := by
  have hkn := fun W (hE : Ext w W) => known_c W (he.ext hE)
  obtain ⟨ap, cp, rfl, _, _, _⟩ := hp.parts
  obtain ⟨ax, cx, rfl, _, _, _⟩ := hx.parts
  obtain ⟨ay, cy, rfl, _, _, _⟩ := hy.parts
  rw [i64s_length, i64s_length, i64s_length]
  have Hkn := Lib.hid hkn; clear hkn hp hx hy he
  have h3 : (8 < p.length) ∨ (¬ 8 < p.length ∧ 8 < x.length) ∨ (¬ 8 < p.length ∧ ¬ 8 < x.length ∧ 8 < y.length) := by omega
  clear hl
  rcases h3 with h | ⟨h, h2⟩ | ⟨h, h2, h3⟩
  all_goals
    go_enter Tryz.func6, Tryz.ntmps6
    go_wp2_with fail
    refine (Hkn.out w (Ext.refl w)).mono ?_
    rintro e W1 ⟨rfl, hx1⟩
    have Hx1 := Lib.hid hx1; clear hx1
    go_wp2_with fail
    refine (Hkn.out W1 Hx1.out).mono ?_
    rintro e W2 ⟨rfl, hx2⟩
    have Hx2 := Lib.hid (Hx1.out.trans hx2); clear hx2
    go_wp2
    go_ret
    exact ⟨rfl, Hx2.out⟩

set_option maxRecDepth 100000 in
set_option maxHeartbeats 8000000 in
theorem wrong_c (vp vx vy : Value) (p x y : List Int) (w : World) (he : Env w) (hp : Sl w vp (i64s p)) (hx : Sl w vx (i64s x)) (hy : Sl w vy (i64s y)) (hlp : p.length ≤ 8) (hlx : x.length ≤ 8) (hly : y.length ≤ 8) :
    Calls Tryz.prog 6 #[vp, vx, vy] w fun e w' => e = .returned (.bool true) ∧ Ext w w' := by
  have hkn := fun W (hE : Ext w W) => known_c W (he.ext hE)
  have hrow : ∀ i, (([x, y] : List (List Int)).getD i []).length ≤ 1000000 := fun i => by
    match i with
    | 0 => show x.length ≤ _; omega
    | 1 => show y.length ≤ _; omega
    | k + 2 => simp
  have hck := fun W vl (hE : Ext w W) (hl : Mat W vl [x, y]) => checkAll_c vp vl p [x, y] W (hE.sl hp) hl (by omega) (by simp) hrow
  have hcn := fun W (hE : Ext w W) => checkAll_c vp (.slice none 0 0) p [] W (hE.sl hp) (mat_nil W) (by omega) (by simp) (fun i => by simp)
  have hnone := fun W (hE : Ext w W) => combNone_c vp p W (he.ext hE) (hE.sl hp) (by omega)
  have hall0 : allErr p [] = primesErr p := by
    unfold allErr
    by_cases h : primesErr p = 0
    · rw [if_neg (by simpa using h), h]; rfl
    · rw [if_pos h]
  rw [hall0] at hcn
  by_cases hwant : allErr p [x, y] = 0
  · have hone := fun W vl (hE : Ext w W) (hl : Mat W vl [x, y]) => combine_w vp vl p [x, y] 1 W (he.ext hE) (hE.sl hp) hl (by simp) hrow hwant (.inr (by omega)) (by omega) (by show pw 1 2 ≤ 10000; decide +kernel)
    have hlim := fun W vl (hE : Ext w W) (hl : Mat W vl [x, y]) => combLim_c vp vl p [x, y] 50 2 W (hE.sl hp) hl (by omega) (by simp) hrow hwant (by omega) (by simp) (by decide +kernel)
    have hneg := fun W vl (hE : Ext w W) (hl : Mat W vl [x, y]) => combNeg_c vp vl p [x, y] (-1) W (hE.sl hp) hl (by omega) (by simp) hrow hwant (by omega)
    have hpe : primesErr p = 0 := (allErr_zero hwant).1
    rw [hwant] at hck
    rw [hpe] at hnone
    obtain ⟨ap, cp, rfl, _, _, _⟩ := hp.parts
    obtain ⟨ax, cx, rfl, _, _, _⟩ := hx.parts
    obtain ⟨ay, cy, rfl, _, _, _⟩ := hy.parts
    rw [i64s_length] at *
    rw [i64s_length] at *
    rw [i64s_length] at *
    have Hkn := Lib.hid hkn; have Hck := Lib.hid hck; have Hnone := Lib.hid hnone; have Hone := Lib.hid hone; have Hlim := Lib.hid hlim; have Hneg := Lib.hid hneg; have Hsx := Lib.hid hx; have Hsy := Lib.hid hy
    clear hkn hck hnone hone hlim hneg hx hy hcn hall0 hwant hpe hrow hp he
    have hp8 : ¬ (8 : Int) < (p.length : Int) := by omega
    have hx8 : ¬ (8 : Int) < (x.length : Int) := by omega
    have hy8 : ¬ (8 : Int) < (y.length : Int) := by omega
    go_enter Tryz.func6, Tryz.ntmps6
    go_wp2_with fail
    refine (Hkn.out w (Ext.refl w)).mono ?_
    rintro e W1 ⟨rfl, hx1⟩
    obtain ⟨hm, hmE⟩ := two_rows (hx1.sl Hsx.out) (hx1.sl Hsy.out)
    have HE2 := Lib.hid (hx1.trans hmE); have Hm := Lib.hid hm; clear hx1 hm hmE
    go_wp2_with fail
    generalize W1.alloc (.cells #[.slice ax x.length cx, .slice ay y.length cy] 30) = W2 at *
    refine (Hck.out W2 _ HE2.out Hm.out).mono ?_
    rintro e W2' ⟨rfl, rfl⟩
    go_wp2_with fail
    refine (Hone.out W2 _ HE2.out Hm.out).mono ?_
    rintro e W3 (⟨_, rfl, hx3⟩ | ⟨_, v3, rs3, rfl, hrs3, _, hx3⟩)
    · have hE3 := HE2.out.trans hx3
      have hm3 := hx3.mat Hm.out
      have HE3 := Lib.hid hE3; have Hm3 := Lib.hid hm3; clear hE3 hm3 hx3
      go_wp2_with fail
      refine (Hlim.out W3 _ HE3.out Hm3.out).mono ?_
      rintro e W3' ⟨rfl, rfl⟩
      go_wp2_with fail
      refine (Hneg.out W3 _ HE3.out Hm3.out).mono ?_
      rintro e W3' ⟨rfl, rfl⟩
      go_wp2_with fail
      refine (Hnone.out W3 HE3.out).mono ?_
      rintro e W4 ⟨a4, c4, rfl, hx4⟩
      have HE4 := Lib.hid (HE3.out.trans hx4); clear hx4
      go_wp2
      go_ret
      exact ⟨rfl, HE4.out⟩
    · obtain ⟨a3, c3, rfl⟩ := own_shape hrs3.1
      have hE3 := HE2.out.trans hx3
      have hm3 := hx3.mat Hm.out
      have HE3 := Lib.hid hE3; have Hm3 := Lib.hid hm3; clear hE3 hm3 hx3 hrs3
      go_wp2_with fail
      refine (Hlim.out W3 _ HE3.out Hm3.out).mono ?_
      rintro e W3' ⟨rfl, rfl⟩
      go_wp2_with fail
      refine (Hneg.out W3 _ HE3.out Hm3.out).mono ?_
      rintro e W3' ⟨rfl, rfl⟩
      go_wp2_with fail
      refine (Hnone.out W3 HE3.out).mono ?_
      rintro e W4 ⟨a4, c4, rfl, hx4⟩
      have HE4 := Lib.hid (HE3.out.trans hx4); clear hx4
      go_wp2
      go_ret
      exact ⟨rfl, HE4.out⟩
  · have herr := fun W vl m (hE : Ext w W) (hl : Mat W vl [x, y]) => combErr_c vp vl p [x, y] m W (hE.sl hp) hl (by omega) (by simp) hrow hwant
    have ht : (allErr p [x, y] != 0) = true := by rw [bne_iff_ne]; exact hwant
    obtain ⟨ap, cp, rfl, _, _, _⟩ := hp.parts
    obtain ⟨ax, cx, rfl, _, _, _⟩ := hx.parts
    obtain ⟨ay, cy, rfl, _, _, _⟩ := hy.parts
    rw [i64s_length] at *
    rw [i64s_length] at *
    rw [i64s_length] at *
    generalize allErr p [x, y] = r at *
    generalize primesErr p = pe at *
    have Hkn := Lib.hid hkn; have Hck := Lib.hid hck; have Hnone := Lib.hid hnone; have Herr := Lib.hid herr; have Hcn := Lib.hid hcn; have Hsx := Lib.hid hx; have Hsy := Lib.hid hy
    clear hkn hck hnone herr hx hy hcn hall0 hwant hrow hp he
    have hp8 : ¬ (8 : Int) < (p.length : Int) := by omega
    have hx8 : ¬ (8 : Int) < (x.length : Int) := by omega
    have hy8 : ¬ (8 : Int) < (y.length : Int) := by omega
    have hpp : (pe != pe) = false := by simp
    go_enter Tryz.func6, Tryz.ntmps6
    go_wp2_with fail
    refine (Hkn.out w (Ext.refl w)).mono ?_
    rintro e W1 ⟨rfl, hx1⟩
    obtain ⟨hm, hmE⟩ := two_rows (hx1.sl Hsx.out) (hx1.sl Hsy.out)
    have HE2 := Lib.hid (hx1.trans hmE); have Hm := Lib.hid hm; clear hx1 hm hmE
    go_wp2_with fail
    generalize W1.alloc (.cells #[.slice ax x.length cx, .slice ay y.length cy] 30) = W2 at *
    refine (Hck.out W2 _ HE2.out Hm.out).mono ?_
    rintro e W2' ⟨rfl, rfl⟩
    go_wp2_with fail
    refine (Herr.out W2 _ _ HE2.out Hm.out).mono ?_
    rintro e W2' ⟨rfl, rfl⟩
    go_wp2_with fail
    refine (Herr.out W2 _ _ HE2.out Hm.out).mono ?_
    rintro e W2' ⟨rfl, rfl⟩
    go_wp2_with fail
    refine (Herr.out W2 _ _ HE2.out Hm.out).mono ?_
    rintro e W2' ⟨rfl, rfl⟩
    go_wp2_with fail
    refine (Hnone.out W2 HE2.out).mono ?_
    rintro e W4 ⟨a4, c4, rfl, hx4⟩
    have HE4 := Lib.hid (HE2.out.trans hx4); clear hx4
    go_wp2_with fail
    refine (Hcn.out W4 HE4.out).mono ?_
    rintro e W4' ⟨rfl, rfl⟩
    go_wp2
    go_ret
    exact ⟨rfl, HE4.out⟩

theorem wrongAll_c (vp vx vy : Value) (p x y : List Int) (w : World) (he : Env w) (hp : Sl w vp (i64s p)) (hx : Sl w vx (i64s x)) (hy : Sl w vy (i64s y)) :
    Calls Tryz.prog 6 #[vp, vx, vy] w fun e w' => e = .returned (.bool true) ∧ Ext w w' := by
  by_cases h : 8 < p.length ∨ 8 < x.length ∨ 8 < y.length
  · exact wrongLong_c vp vx vy p x y w he hp hx hy h
  · exact wrong_c vp vx vy p x y w he hp hx hy (by omega) (by omega) (by omega)

end Go.Proofs.YtkamjjjimbbdmaaGreatDoor
