/- Walks: floor, Floor, Remainder by the octave. Plain: the floor over the octave, found from a few bits, is the floor of the linear form. Plain: sizes of the box with few octaves have small numbers. -/
import Derived.Test.YtaakmdjicocjpaaGreatDoorPaP
import Derived.Test.YtaakmdjicocjpaaGreatDoorPaO
namespace Go.Proofs.YtaakmdjicocjpaaGreatDoor
open Go.RowKit Go.Lib

attribute [local go_sem] Oper.semAt_some

/-- The floor of a size over the octave, as the program finds it. -/
def flP (p : List Int) (x : List Rat) : Int := if x.tail.all (· == 0) then (x.headD 0).floor else lowT (tms p (dn x) x) / (67108864 * ((dn x : Nat) : Int))
/-- The few bits decide. -/
def QF (p : List Int) (x : List Rat) : Prop := x.tail.all (· == 0) = true ∨ ((∀ e ∈ tms p (dn x) x, okE 100000 e) ∧ dn x ≤ 10000 ∧ lowT (tms p (dn x) x) / (67108864 * ((dn x : Nat) : Int)) = higT (tms p (dn x) x) / (67108864 * ((dn x : Nat) : Int)))
theorem ov_tms {p : List Int} {n : Nat} (hp : Pr p (n + 1)) : tms p (dn (ov n)) (ov n) = [(2, 1)] ∧ dn (ov n) = 1 := by
  rcases hp with ⟨rfl, h⟩ | ⟨rfl, h⟩
  · obtain rfl : n = 1 := by omega
    exact ⟨by decide +kernel, by decide +kernel⟩
  · obtain rfl : n = 2 := by omega
    exact ⟨by decide +kernel, by decide +kernel⟩
theorem pr_len {p : List Int} {n : Nat} (hp : Pr p n) : p.length = n := by rcases hp with ⟨rfl, rfl⟩ | ⟨rfl, rfl⟩ <;> rfl
theorem ov_ft {n : Nat} : ∀ q ∈ ov n, Ft 1 q := by
  intro q hq
  unfold ov at hq
  rcases List.mem_cons.1 hq with rfl | h
  · exact ft_one1
  · obtain rfl := List.eq_of_mem_replicate h
    exact ft_zero
theorem ov_len (n : Nat) : (ov n).length = n + 1 := by unfold ov; simp

set_option maxRecDepth 100000 in
set_option maxHeartbeats 2000000 in
theorem floor_c (vp va vb : Value) (p : List Int) (a0 : Rat) (tl : List Rat) (w : World) (he : Env w) (hp : Sl w vp (i64s p)) (ha : Rd w va (a0 :: tl)) (hb : Rd w vb (ov tl.length)) (hpr : Pr p (tl.length + 1)) (hf : ∀ q ∈ a0 :: tl, Ft 30 q) (hq : QF p (a0 :: tl)) :
    Calls Tryz.prog 163 #[vp, va, vb] w fun e w' => e = .returned (.string (I (flP p (a0 :: tl)))) ∧ Ext w w' := by
  have hpl := pr_len hpr
  have hpl3 : p.length ≤ 3 := by rcases hpr with ⟨rfl, _⟩ | ⟨rfl, _⟩ <;> simp
  have hra := ratio_c va vb a0 tl w he ha hb (by omega) (fun q h => (hf q h).mono (by omega))
  have hov := ov_tms hpr
  by_cases ht : tl.all (· == 0) = true
  · have hfp : flP p (a0 :: tl) = a0.floor := by unfold flP; rw [List.tail_cons, if_pos ht]; rfl
    rw [ht] at hra
    have h0 := hf a0 (List.mem_cons_self ..)
    have hfl := fun W (h : Ext w W) => frFloor_c a0 W (he.ext h) (h0.num (by omega)) (h0.den (by omega))
    rw [hfp]
    generalize I a0.floor = sf at *
    unfold Rv at hra hfl
    generalize I a0.num = s1 at *
    generalize I (a0.den : Int) = s2 at *
    obtain ⟨ap, cp, rfl, _, _, _⟩ := hp.parts
    obtain ⟨aa, ca, rfl, _, _, _⟩ := ha.parts
    obtain ⟨ab, cb, rfl, _, _, _⟩ := hb.parts
    clear hp ha hb hov hpr hf hq hfp ht h0 he hpl hpl3
    have Hra := Lib.hid hra; have Hfl := Lib.hid hfl; clear hra hfl
    go_enter Tryz.func163, Tryz.ntmps163
    go_wp2_with fail
    refine Hra.out.mono ?_
    rintro e w1 ⟨rfl, hx1⟩
    have HE : Hid (Ext w (w1.alloc (.cells #[.string s1, .string s2] 97))) := Lib.hid (hx1.alloc _)
    clear hx1
    go_wp2_with fail
    refine (Hfl.out _ HE.out).mono ?_
    rintro e w2 ⟨rfl, hx2⟩
    have Hx2 := Lib.hid (HE.out.trans hx2); clear hx2
    go_wp2
    try rw [Exit.noGoto_ret]
    go_ret
    exact ⟨rfl, Hx2.out⟩
  · have hfp : flP p (a0 :: tl) = lowT (tms p (dn (a0 :: tl)) (a0 :: tl)) / (67108864 * ((dn (a0 :: tl) : Nat) : Int)) := by unfold flP; rw [List.tail_cons, if_neg ht]
    rw [Bool.eq_false_iff.2 ht] at hra
    obtain ⟨q1, q2, q3⟩ : (∀ e ∈ tms p (dn (a0 :: tl)) (a0 :: tl), okE 100000 e) ∧ dn (a0 :: tl) ≤ 10000 ∧ _ := hq.resolve_left ht
    have hl : (tms p (dn (a0 :: tl)) (a0 :: tl)).length ≤ 100 := by
      have := tms_le (p := p) (d := dn (a0 :: tl)) (x := a0 :: tl)
      simp only [List.length_cons] at this
      omega
    have h1 := fun W (h : Ext w W) => termsOf_c vp va p (a0 :: tl) W (he.ext h) (h.sl hp) (h.rd ha) (by omega) (by rw [hpl]; rfl) hf
    have h2 := fun W (h : Ext w W) => termsOf_c vp vb p (ov tl.length) W (he.ext h) (h.sl hp) (h.rd hb) (by omega) (by rw [ov_len, hpl]) (fun q h => (ov_ft q h).mono (by omega))
    rw [hov.1, hov.2] at h2
    have h3 := fun W tx ty (hx : TmV W tx (tms p (dn (a0 :: tl)) (a0 :: tl)) (dn (a0 :: tl))) (hy : TmV W ty [(2, 1)] 1) => quotient_c tx ty _ _ W hx hy hl q1 (dn_pos _) q2 q3
    have hbd := sum_bd (fun e he => okE_mono (q1 e he) (show (100000 : Int) ≤ 10000000 by omega))
    have hd0 := dn_pos (a0 :: tl)
    rw [hfp]
    generalize tms p (dn (a0 :: tl)) (a0 :: tl) = l at *
    generalize dn (a0 :: tl) = d at *
    have hll : (l.length : Int) ≤ 100 := by omega
    have hqb := div_bd (a := lowT l) (b := 67108864 * (d : Int)) (m := 155821957000000000) (by omega) (by omega) (by omega) (by omega)
    generalize lowT l / (67108864 * (d : Int)) = q at *
    have h4 := fun W (h : Ext w W) => wholeOf_c q (by omega) (by omega) W (he.ext h)
    generalize I q = sq at *
    unfold Rv at hra
    generalize I a0.num = s1 at *
    generalize I (a0.den : Int) = s2 at *
    obtain ⟨ap, cp, rfl, _, _, _⟩ := hp.parts
    obtain ⟨aa, ca, rfl, _, _, _⟩ := ha.parts
    obtain ⟨ab, cb, rfl, _, _, _⟩ := hb.parts
    clear hp ha hb hov hpr hf hq hfp ht he hpl hpl3 q1 q2 q3 hbd hll hqb hl hd0
    have Hra := Lib.hid hra; have H1 := Lib.hid h1; have H2 := Lib.hid h2; have H3 := Lib.hid h3; have H4 := Lib.hid h4; clear hra h1 h2 h3 h4
    go_enter Tryz.func163, Tryz.ntmps163
    go_wp2_with fail
    refine Hra.out.mono ?_
    rintro e w1 ⟨rfl, hx1⟩
    have HE : Hid (Ext w (w1.alloc (.cells #[.string s1, .string s2] 97))) := Lib.hid (hx1.alloc _)
    clear hx1
    go_wp2_with fail
    refine (H1.out _ HE.out).mono ?_
    rintro e w2 ⟨tx, rfl, hx, hx2⟩
    have Hx2 := Lib.hid (HE.out.trans hx2)
    clear hx2
    obtain ⟨vc, vd, rfl, hp1, hf1⟩ := hx
    obtain ⟨ac, cc, rfl, _, _, _⟩ := hp1.parts
    obtain ⟨ad, cd, rfl, _, _, _⟩ := hf1.parts
    have htx : TmV w2 (.agg #[.slice ac (i64s (l.map Prod.fst)).length cc, .slice ad (strs (l.map Prod.snd)).length cd, .string (I (d : Int))]) l d := ⟨_, _, rfl, hp1, hf1⟩
    clear hp1 hf1
    generalize (i64s (l.map Prod.fst)).length = n1 at *
    generalize (strs (l.map Prod.snd)).length = n2 at *
    generalize I (d : Int) = sd at *
    have Htx := Lib.hid htx; clear htx
    go_wp2_with fail
    refine (H2.out _ Hx2.out).mono ?_
    rintro e w3 ⟨ty, rfl, hy, hx3⟩
    have Hx3 := Lib.hid (Hx2.out.trans hx3)
    have Htx3 := Lib.hid (Htx.out.ext hx3)
    clear hx3
    obtain ⟨ve, vf, rfl, hp1, hf1⟩ := hy
    obtain ⟨ae, ce, rfl, _, _, _⟩ := hp1.parts
    obtain ⟨af, cf, rfl, _, _, _⟩ := hf1.parts
    have hty : TmV w3 (.agg #[.slice ae (i64s (([(2, 1)] : List (Int × Int)).map Prod.fst)).length ce, .slice af (strs (([(2, 1)] : List (Int × Int)).map Prod.snd)).length cf, .string (I ((1 : Nat) : Int))]) [(2, 1)] 1 := ⟨_, _, rfl, hp1, hf1⟩
    clear hp1 hf1
    generalize (i64s (([(2, 1)] : List (Int × Int)).map Prod.fst)).length = n3 at *
    generalize (strs (([(2, 1)] : List (Int × Int)).map Prod.snd)).length = n4 at *
    generalize I ((1 : Nat) : Int) = se at *
    have hE4 : Ext w3 ((w3.alloc (.cells #[.slice ac n1 cc, .slice ad n2 cd, .string sd] 170)).alloc (.cells #[.slice ae n3 ce, .slice af n4 cf, .string se] 170)) := ((Ext.refl w3).alloc _).alloc _
    have HE4 := Lib.hid (Hx3.out.trans hE4)
    have H5 := Lib.hid (H3.out _ _ _ (Htx3.out.ext hE4) (hty.ext hE4))
    clear hE4 hty
    go_wp2_with fail
    refine H5.out.mono ?_
    rintro e w5 ⟨rfl, hx5⟩
    have Hx5 := Lib.hid (HE4.out.trans hx5); clear hx5
    go_wp2_with fail
    refine (H4.out _ Hx5.out).mono ?_
    rintro e w6 ⟨rfl, hx6⟩
    have Hx6 := Lib.hid (Hx5.out.trans hx6); clear hx6
    go_wp2
    try rw [Exit.noGoto_ret]
    go_ret
    exact ⟨rfl, Hx6.out⟩
end Go.Proofs.YtaakmdjicocjpaaGreatDoor

namespace Go.Proofs.YtaakmdjicocjpaaGreatDoor

theorem dn_int {a : Rat} (h : a.den = 1) (tl : List Rat) : dn (a :: tl) = tl.foldl (fun d r => Nat.lcm d r.den) 1 := by
  unfold dn
  rw [List.foldl_cons, h]
  rfl
/-- Whole octaves more or less turn neither the denominator nor the error. -/
theorem shift_main {ps : List Int} {a : Rat} {tl : List Rat} {A : Int} (hA : a = A) (m : Int) :
    dn ((a - (m : Rat)) :: tl) = dn (a :: tl) ∧
    mainT ((2 :: ps).zip (fcd (dn (a :: tl)) ((a - (m : Rat)) :: tl))) = mainT ((2 :: ps).zip (fcd (dn (a :: tl)) (a :: tl))) - m * (67108864 * (dn (a :: tl) : Int)) ∧
    errT ((2 :: ps).zip (fcd (dn (a :: tl)) ((a - (m : Rat)) :: tl))) = errT ((2 :: ps).zip (fcd (dn (a :: tl)) (a :: tl))) := by
  have hm : a - (m : Rat) = ((A - m : Int) : Rat) := by rw [hA, Rat.intCast_sub]
  obtain ⟨n1, d1⟩ := int_den hA
  obtain ⟨n2, d2⟩ := int_den hm
  refine ⟨by rw [dn_int d1, dn_int d2], ?_, ?_⟩
  · simp only [fcd, List.map_cons, List.zip_cons_cons, mainT, n1, n2, d1, d2, Nat.div_one]
    rw [show lg 2 = 67108864 by decide, Int.sub_mul, Int.sub_mul, Int.mul_comm 67108864, ← Int.mul_assoc]
    omega
  · simp only [fcd, List.map_cons, List.zip_cons_cons, errT, if_pos]
theorem floor_between {M E D lo hi : Int} (hD : 0 < D) (h1 : M - E ≤ lo) (h2 : lo ≤ M) (h3 : M ≤ hi) (h4 : hi ≤ M + E) (_ : 0 ≤ E) (hf : ∀ m : Int, E < (M - m * D).natAbs) :
    lo / D = M / D ∧ hi / D = M / D := by
  have e1 := Int.mul_ediv_add_emod M D
  have e2 := Int.emod_nonneg M (show D ≠ 0 by omega)
  have e3 := Int.emod_lt_of_pos M hD
  have f1 := hf (M / D)
  have f2 := hf (M / D + 1)
  generalize hq : M / D = q at *
  generalize M % D = r at *
  have g1 : M - q * D = r := by rw [Int.mul_comm q D]; omega
  have g2 : M - (q + 1) * D = r - D := by rw [Int.add_mul, Int.one_mul, Int.mul_comm q D]; omega
  rw [g1] at f1
  rw [g2] at f2
  constructor
  · have : lo = (r - (M - lo)) + D * q := by omega
    rw [this, Int.add_mul_ediv_left _ _ (by omega), Int.ediv_eq_zero_of_lt (by omega) (by omega)]
    omega
  · have : hi = (r + (hi - M)) + D * q := by omega
    rw [this, Int.add_mul_ediv_left _ _ (by omega), Int.ediv_eq_zero_of_lt (by omega) (by omega)]
    omega
theorem errT_nn (l : List (Int × Int)) : 0 ≤ errT l := by
  induction l with
  | nil => simp [errT]
  | cons e l ih =>
    simp only [errT]
    split <;> omega
/-- The two ends have one floor. -/
theorem ends_floor {p : List Int} {a : Rat} {tl : List Rat} (hp : Pr p (a :: tl).length) (hb : Bx 256 (a :: tl)) (hne : ¬ ∀ r ∈ tl, r = 0) :
    lowT (tms p (dn (a :: tl)) (a :: tl)) / (67108864 * ((dn (a :: tl) : Nat) : Int)) = mainT (p.zip (fcd (dn (a :: tl)) (a :: tl))) / (67108864 * ((dn (a :: tl) : Nat) : Int)) ∧
    higT (tms p (dn (a :: tl)) (a :: tl)) / (67108864 * ((dn (a :: tl) : Nat) : Int)) = mainT (p.zip (fcd (dn (a :: tl)) (a :: tl))) / (67108864 * ((dn (a :: tl) : Nat) : Int)) := by
  obtain ⟨ps, hps⟩ : ∃ ps, p = 2 :: ps := by rcases hp with ⟨rfl, _⟩ | ⟨rfl, _⟩ <;> exact ⟨_, rfl⟩
  obtain ⟨A, hA⟩ : ∃ A : Int, a = A := by
    rcases hp with ⟨_, h⟩ | ⟨_, h⟩
    · match tl, h, hb with
      | [b], _, ⟨A, _, h1, _⟩ => exact ⟨A, h1⟩
    · match tl, h, hb with
      | [b, c], _, ⟨A, _, _, h1, _⟩ => exact ⟨A, h1⟩
  have hbm : ∀ m : Int, Bx 256 ((a - (m : Rat)) :: tl) := fun m => by
    have hm : a - (m : Rat) = ((A - m : Int) : Rat) := by rw [hA, Rat.intCast_sub]
    rcases hp with ⟨_, h⟩ | ⟨_, h⟩
    · match tl, h, hb with
      | [b], _, ⟨_, B, _, h2⟩ => exact ⟨A - m, B, hm, h2⟩
    · match tl, h, hb with
      | [b, c], _, ⟨_, B, C, _, h2⟩ => exact ⟨A - m, B, C, hm, h2⟩
  have hd := dn_pos (a :: tl)
  have d0 := drop0 (p.zip (fcd (dn (a :: tl)) (a :: tl)))
  have hbd := low_bd (tms p (dn (a :: tl)) (a :: tl))
  have hfar : ∀ m : Int, errT (p.zip (fcd (dn (a :: tl)) (a :: tl))) < (mainT (p.zip (fcd (dn (a :: tl)) (a :: tl))) - m * (67108864 * ((dn (a :: tl) : Nat) : Int))).natAbs := fun m => by
    have hs := shift_main (ps := ps) (tl := tl) hA m
    rw [← hps] at hs
    have hl : ((a - (m : Rat)) :: tl).length = (a :: tl).length := by simp
    have hf := bx_fair (p := p) (by rw [hl]; exact hp) (hbm m)
    rcases hf with h | h
    · exfalso
      have := tms_zero (p := p) (by rw [hl]; exact hp) h
      exact hne fun r hr => this r (List.mem_cons_of_mem _ hr)
    · rw [hs.1] at h
      have d1 := drop0 (p.zip (fcd (dn (a :: tl)) ((a - (m : Rat)) :: tl)))
      unfold tms at h
      rw [d1.2.2.1, d1.2.2.2, hs.2.1, hs.2.2] at h
      exact h
  have hm1 : mainT (tms p (dn (a :: tl)) (a :: tl)) = mainT (p.zip (fcd (dn (a :: tl)) (a :: tl))) := d0.2.2.1
  have he1 : errT (tms p (dn (a :: tl)) (a :: tl)) = errT (p.zip (fcd (dn (a :: tl)) (a :: tl))) := d0.2.2.2
  rw [hm1, he1] at hbd
  exact floor_between (by omega) hbd.1 hbd.2.1 hbd.2.2.1 hbd.2.2.2 (errT_nn _) hfar
theorem floor_ratio {M : Int} {d : Nat} {s : Rat} (hd : 0 < d) (h : ((M : Int) : Rat) = (d : Rat) * s) : M / (67108864 * (d : Int)) = (s / 67108864).floor := by
  have hD : (0 : Int) < 67108864 * (d : Int) := by omega
  have hq : ∀ z : Int, z ≤ M / (67108864 * (d : Int)) ↔ z ≤ (s / 67108864).floor := fun z => by
    rw [Int.le_ediv_iff_mul_le hD, Rat.le_floor_iff, ← Rat.intCast_le_intCast, h, Rat.intCast_mul, Rat.intCast_mul, Rat.intCast_natCast]
    have hd' : (0 : Rat) < (d : Rat) := Rat.natCast_pos.2 hd
    constructor
    · intro g
      have g2 : (d : Rat) * ((z : Rat) * 67108864) ≤ (d : Rat) * s := by
        have e : (d : Rat) * ((z : Rat) * 67108864) = (z : Rat) * (((67108864 : Int) : Rat) * (d : Rat)) := by
          rw [show ((67108864 : Int) : Rat) = 67108864 from rfl]; grind
        rw [e]; exact g
      have g3 : (z : Rat) * 67108864 ≤ s := Rat.le_of_mul_le_mul_left g2 hd'
      grind
    · intro g
      have g3 : (z : Rat) * 67108864 ≤ s := by grind
      have g2 : (d : Rat) * ((z : Rat) * 67108864) ≤ (d : Rat) * s := Rat.mul_le_mul_of_nonneg_left g3 (by grind)
      have e : (d : Rat) * ((z : Rat) * 67108864) = (z : Rat) * (((67108864 : Int) : Rat) * (d : Rat)) := by
        rw [show ((67108864 : Int) : Rat) = 67108864 from rfl]; grind
      rw [← e]; exact g2
  have h1 := (hq (M / (67108864 * (d : Int)))).1 (Int.le_refl _)
  have h2 := (hq (s / 67108864).floor).2 (Int.le_refl _)
  omega
/-- The floor over the octave is the floor of the linear form. -/
theorem flP_eq {p : List Int} {a : Rat} {tl : List Rat} (hp : Pr p (a :: tl).length) (hb : Bx 256 (a :: tl) ∨ ∀ r ∈ tl, r = 0) : flP p (a :: tl) = (sF p (a :: tl) / 67108864).floor := by
  have hall : (tl.all (· == 0) = true) ↔ ∀ r ∈ tl, r = 0 := by rw [List.all_eq_true]; simp
  unfold flP
  rw [List.tail_cons]
  by_cases h : ∀ r ∈ tl, r = 0
  · rw [if_pos (hall.2 h)]
    obtain ⟨ps, hps⟩ : ∃ ps, p = 2 :: ps := by rcases hp with ⟨rfl, _⟩ | ⟨rfl, _⟩ <;> exact ⟨_, rfl⟩
    have e : sF p (a :: tl) = a * 67108864 := by
      rw [hps, sF, sF_zero ps tl h, show lg 2 = 67108864 by decide]
      show a * ((67108864 : Int) : Rat) + 0 = _
      rw [show ((67108864 : Int) : Rat) = 67108864 from rfl]
      grind
    have e2 : sF p (a :: tl) / 67108864 = a := by rw [e]; grind
    rw [e2]
    rfl
  · rw [if_neg (fun g => h (hall.1 g)), (ends_floor hp (hb.resolve_right h) h).1]
    exact floor_ratio (dn_pos _) (main_sF _ p _ (dn_dvd _))
theorem qf_of {p : List Int} {a : Rat} {tl : List Rat} (hp : Pr p (a :: tl).length) (hb : Bx 256 (a :: tl) ∨ ∀ r ∈ tl, r = 0) (hs : (∀ e ∈ tms p (dn (a :: tl)) (a :: tl), okE 100000 e) ∧ dn (a :: tl) ≤ 10000) : QF p (a :: tl) := by
  by_cases h : ∀ r ∈ tl, r = 0
  · left; rw [List.tail_cons, List.all_eq_true]; simpa using h
  · have := ends_floor hp (hb.resolve_right h) h
    exact .inr ⟨hs.1, hs.2, this.1.trans this.2.symm⟩
end Go.Proofs.YtaakmdjicocjpaaGreatDoor

namespace Go.Proofs.YtaakmdjicocjpaaGreatDoor

theorem ft_small {r : Rat} (h1 : r.num.natAbs ≤ 1000000) (h2 : r.den ≤ 1000000) : Ft 30 r :=
  ⟨Dec.nDigits_le (by omega) (Nat.lt_of_le_of_lt h1 (by decide)), Dec.nDigits_le (by omega) (Nat.lt_of_le_of_lt h2 (by decide))⟩
theorem mem_tms {p : List Int} {d : Nat} {x : List Rat} {e : Int × Int} (h : e ∈ tms p d x) : e ∈ p.zip (fcd d x) := (List.mem_filter.1 h).1
/-- What the walks ask of a size. -/
structure Ok (m : Int) (p : List Int) (x : List Rat) : Prop where
  ft : ∀ r ∈ x, Ft 30 r
  small : ∀ e ∈ tms p (dn x) x, okE m e
  den : dn x ≤ 2
theorem bx_ok {m : Int} {p : List Int} {x : List Rat} (hp : Pr p x.length) (h : Bx 256 x) (hm : 512 ≤ m) (hm2 : m ≤ 1000000) (hA : ∀ a, x.head? = some a → -m ≤ 2 * a.num ∧ 2 * a.num ≤ m) : Ok m p x := by
  rcases hp with ⟨rfl, hl⟩ | ⟨rfl, hl⟩
  · match x, hl, h with
    | [a, b], _, ⟨A, B, ha, hb, h1, h2⟩ =>
      obtain ⟨ha1, ha2⟩ := int_den ha
      have hA' := hA a rfl
      rw [ha1] at hA'
      rcases half_den hb with ⟨hb1, hb2⟩ | ⟨hb1, hb2⟩
      · have e : [(2 : Int), 3].zip (fcd (dn [a, b]) [a, b]) = [(2, A), (3, b.num)] := by
          simp [dn, fcd, ha1, ha2, hb1]
        refine ⟨?_, ?_, by simp [dn, ha2, hb1]⟩
        · intro r hr
          simp only [List.mem_cons, List.not_mem_nil, or_false] at hr
          rcases hr with rfl | rfl
          · exact ft_small (by omega) (by omega)
          · exact ft_small (by omega) (by omega)
        · intro q hq
          have := mem_tms hq
          rw [e] at this
          simp only [List.mem_cons, List.not_mem_nil, or_false] at this
          rcases this with rfl | rfl
          · exact ⟨.inl rfl, by dsimp only; omega, by dsimp only; omega⟩
          · exact ⟨.inr (.inl rfl), by dsimp only; omega, by dsimp only; omega⟩
      · have e : [(2 : Int), 3].zip (fcd (dn [a, b]) [a, b]) = [(2, A * 2), (3, B)] := by
          simp [dn, fcd, ha1, ha2, hb1, hb2, Nat.lcm]
        refine ⟨?_, ?_, by simp [dn, ha2, hb1, Nat.lcm]⟩
        · intro r hr
          simp only [List.mem_cons, List.not_mem_nil, or_false] at hr
          rcases hr with rfl | rfl
          · exact ft_small (by omega) (by omega)
          · exact ft_small (by omega) (by omega)
        · intro q hq
          have := mem_tms hq
          rw [e] at this
          simp only [List.mem_cons, List.not_mem_nil, or_false] at this
          rcases this with rfl | rfl
          · exact ⟨.inl rfl, by dsimp only; omega, by dsimp only; omega⟩
          · exact ⟨.inr (.inl rfl), by dsimp only; omega, by dsimp only; omega⟩
  · match x, hl, h with
    | [a, b, c], _, ⟨A, B, C, ha, hb, hc, h1, h2, h3, h4⟩ =>
      obtain ⟨ha1, ha2⟩ := int_den ha
      obtain ⟨hc1, hc2⟩ := int_den hc
      have hA' := hA a rfl
      rw [ha1] at hA'
      rcases half_den hb with ⟨hb1, hb2⟩ | ⟨hb1, hb2⟩
      · have e : [(2 : Int), 3, 5].zip (fcd (dn [a, b, c]) [a, b, c]) = [(2, A), (3, b.num), (5, C)] := by
          simp [dn, fcd, ha1, ha2, hb1, hc1, hc2]
        refine ⟨?_, ?_, by simp [dn, ha2, hb1, hc2]⟩
        · intro r hr
          simp only [List.mem_cons, List.not_mem_nil, or_false] at hr
          rcases hr with rfl | rfl | rfl
          · exact ft_small (by omega) (by omega)
          · exact ft_small (by omega) (by omega)
          · exact ft_small (by omega) (by omega)
        · intro q hq
          have := mem_tms hq
          rw [e] at this
          simp only [List.mem_cons, List.not_mem_nil, or_false] at this
          rcases this with rfl | rfl | rfl
          · exact ⟨.inl rfl, by dsimp only; omega, by dsimp only; omega⟩
          · exact ⟨.inr (.inl rfl), by dsimp only; omega, by dsimp only; omega⟩
          · exact ⟨.inr (.inr rfl), by dsimp only; omega, by dsimp only; omega⟩
      · have e : [(2 : Int), 3, 5].zip (fcd (dn [a, b, c]) [a, b, c]) = [(2, A * 2), (3, B), (5, C * 2)] := by
          simp [dn, fcd, ha1, ha2, hb1, hb2, hc1, hc2, Nat.lcm]
        refine ⟨?_, ?_, by simp [dn, ha2, hb1, hc2, Nat.lcm]⟩
        · intro r hr
          simp only [List.mem_cons, List.not_mem_nil, or_false] at hr
          rcases hr with rfl | rfl | rfl
          · exact ft_small (by omega) (by omega)
          · exact ft_small (by omega) (by omega)
          · exact ft_small (by omega) (by omega)
        · intro q hq
          have := mem_tms hq
          rw [e] at this
          simp only [List.mem_cons, List.not_mem_nil, or_false] at this
          rcases this with rfl | rfl | rfl
          · exact ⟨.inl rfl, by dsimp only; omega, by dsimp only; omega⟩
          · exact ⟨.inr (.inl rfl), by dsimp only; omega, by dsimp only; omega⟩
          · exact ⟨.inr (.inr rfl), by dsimp only; omega, by dsimp only; omega⟩
theorem Ok.quick {m : Int} {p : List Int} {x : List Rat} (h : Ok m p x) (hp : Pr p x.length) (hm : m ≤ 10000000) (hb : Bx 256 x) : Quick p x :=
  ⟨h.ft, fun e he => okE_mono (h.small e he) hm, bx_fair hp hb⟩
theorem Ok.qf {p : List Int} {a : Rat} {tl : List Rat} (h : Ok 100000 p (a :: tl)) (hp : Pr p (a :: tl).length) (hb : Bx 256 (a :: tl)) : QF p (a :: tl) :=
  qf_of hp (.inl hb) ⟨h.small, by have := h.den; omega⟩
end Go.Proofs.YtaakmdjicocjpaaGreatDoor
