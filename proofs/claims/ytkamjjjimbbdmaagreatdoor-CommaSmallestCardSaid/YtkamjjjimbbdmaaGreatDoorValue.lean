/- Walks of the laws' own functions: Interval, Primes, Value. -/
import Derived.Test.YtkamjjjimbbdmaaGreatDoorExps
namespace Go.Proofs.YtkamjjjimbbdmaaGreatDoor
open Go.RowKit Go.Lib

/-- The exponents of a plan. -/
def ivl (n : Nat) (l : List Int) : List Int := (List.range n).map fun i => (nthI l i).tmod 10
theorem ivl_succ (n : Nat) (l : List Int) : ivl (n + 1) l = ivl n l ++ [(nthI l n).tmod 10] := by
  unfold ivl; rw [List.range_succ, List.map_append]; rfl
theorem ivl_length (n : Nat) (l : List Int) : (ivl n l).length = n := by simp [ivl]
theorem nthI_ivl {n : Nat} {l : List Int} {i : Nat} (h : i < n) : nthI (ivl n l) i = (nthI l i).tmod 10 := by
  unfold ivl nthI
  rw [List.getD_eq_getElem?_getD, List.getElem?_map, List.getElem?_range h]
  rfl
theorem tmod_ten (z : Int) : -9 ≤ z.tmod 10 ∧ z.tmod 10 ≤ 9 := by
  rcases Int.le_total 0 z with h | h
  · rw [Int.tmod_eq_emod_of_nonneg h]; omega
  · obtain ⟨n, rfl⟩ : ∃ n : Nat, z = -(n : Int) := ⟨z.natAbs, by omega⟩
    rw [Int.neg_tmod, Int.tmod_eq_emod_of_nonneg (by omega)]; omega

theorem four_new (w : World) (a b c d : Int) (t : TypeId) (k : Nat) (hk : k < 4) : (w.alloc (.cells #[.int .i8 a, .int .i8 b, .int .i8 c, .int .i8 d] t)).cell? ⟨w.heap.size, k, none⟩ = some (.int .i8 (nthI [a, b, c, d] k)) := by
  have h := World.alloc_heap_new w (.cells #[.int .i8 a, .int .i8 b, .int .i8 c, .int .i8 d] t)
  unfold World.cell?; rw [h]
  rcases (show k = 0 ∨ k = 1 ∨ k = 2 ∨ k = 3 by omega) with rfl | rfl | rfl | rfl <;> rfl

set_option maxRecDepth 100000 in
set_option maxHeartbeats 1000000 in
theorem interval_c (vp : Value) (p : List Int) (a b c d : Int) (w : World) (hp : Sl w vp (i64s p)) (hl : p.length ≤ 4) (hr : ∀ z ∈ [a, b, c, d], -128 ≤ z ∧ z ≤ 127) :
    Calls Tryz.prog 20 #[vp, .agg #[.int .i8 a, .int .i8 b, .int .i8 c, .int .i8 d]] w fun e w' => ∃ v, e = .returned v ∧ OwnI w' w.heap.size v (ivl p.length [a, b, c, d]) ∧ Ext w w' := by
  obtain ⟨i0, hi, hz0, hz1, hz2⟩ := info_parts info_int
  obtain ⟨ap, cp, rfl, _, _, hcp⟩ := hp.parts
  rw [i64s_length]
  clear hcp hp
  have h4 := four_new w a b c d 23
  have hE0 : Ext w (w.alloc (.cells #[.int .i8 a, .int .i8 b, .int .i8 c, .int .i8 d] 23)) := (Ext.refl w).alloc _
  have H4 := Lib.hid h4; have Hr := Lib.hid hr; have HE0 := Lib.hid hE0; clear h4 hr hE0
  generalize hW : w.alloc (.cells #[.int .i8 a, .int .i8 b, .int .i8 c, .int .i8 d] 23) = W at *
  go_enter Tryz.func20, Tryz.ntmps20
  go_wp2
  go_loopw [5, 6] (fun v i wr => ∃ k : Nat, i = .int .i64 k ∧ k ≤ p.length ∧ OwnI wr W.heap.size v (ivl k [a, b, c, d]) ∧ Ext W wr) (fun _ i _ => p.length - (intOf i).toNat)
  case atStart => exact ⟨0, rfl, Nat.zero_le _, World.ownsRow_nil _ _ _ 1, Ext.refl _⟩
  case round =>
    obtain ⟨k, rfl, hk, hown, hext⟩ := hrel
    obtain ⟨av, cv, rfl⟩ := own_shape hown
    rw [ivl_length] at *
    have Hown := Lib.hid hown; have Hext := Lib.hid hext; clear hown hext
    by_cases hlt : k < p.length
    · have hcell := Hext.out.cell (H4.out k (by omega))
      have hin : -128 ≤ nthI [a, b, c, d] k ∧ nthI [a, b, c, d] k ≤ 127 := Hr.out _ (nthI_mem (by simp; omega))
      have ht := tmod_ten (nthI [a, b, c, d] k)
      have hs := ivl_succ k [a, b, c, d]
      have Hs := Lib.hid hs; clear hs
      generalize nthI [a, b, c, d] k = z at *
      obtain ⟨hi1, hi2⟩ := hin
      obtain ⟨ht1, ht2⟩ := ht
      have hk4 : (k : Int) < 4 := by omega
      have hk0 : (0 : Int) ≤ (k : Int) := by omega
      have hown := Hown.out
      unfold OwnI at hown
      rw [ivl_length] at hown
      have hm3 : k + 1 ≤ maxLen := by unfold maxLen; omega
      have hm4 : (k + 1) * 8 ≤ 140737488355328 := by omega
      have hsz := Hext.out.size
      have hm5 : W.heap.size ≤ (wr.alloc (.cells #[.int .i64 (z.tmod 10)] 3)).heap.size := by rw [World.size_alloc]; omega
      go_wp2_with (at_builtin; refine wpList_append_own _ rfl _ _ 30 rfl W.heap.size 3 i0 (.int .i64 0) 1 8 Tryz.underlying30 hi hz0 hz1 hz2 rfl (by decide) _ _ _ rfl (hown.alloc _) ⟨wr.heap.size, 0, none⟩ 1 1 [.int .i64 (z.tmod 10)] rfl rfl (cell_one_new _ _ _) (by simp [Value.oneCell']) hm3 hm4 hm5 ?_; intro v' w1 hown' hgrow _)
      have hE9 : Ext W w1 := ext_grown Hext.out hown hgrow
      have hown9 : OwnI w1 W.heap.size v' (ivl (k + 1) [a, b, c, d]) := by
        unfold OwnI
        rw [Hs.out, List.length_append, ivl_length]
        simpa [i64s] using hown'
      have Hown9 := Lib.hid hown9; have HE9 := Lib.hid hE9; clear hown hown' hgrow hE9 hown9
      go_wp2
      go_roundw
      case rel => exact ⟨k + 1, by go_num, by omega, Hown9.out, HE9.out⟩
      case measure => simp [intOf]; omega
    · obtain rfl : k = p.length := by omega
      go_wp2
      go_ret
      exact ⟨_, rfl, own_mono Hown.out HE0.out.size, HE0.out.trans Hext.out⟩

theorem fit_pow {p x : List Int} {k q j : Nat} (h : nDigits k ≤ 256001) (hq : q < 10000) (hj : j ≤ 1000) : Fit ((k : Int) * ((q ^ j : Nat) : Int)) := by
  rw [← Int.natCast_mul]; show nDigits (k * q ^ j) ≤ 400000
  have h1 := nDigits_mul k (q ^ j)
  have h2 := nDigits_pow4 hq hj
  omega
theorem fit_small {q : Nat} (hq : q < 10000) : Fit (q : Int) := by
  show nDigits q ≤ 400000
  have := nDigits_lt (n := q) (k := 4) (by omega) (by omega)
  omega

set_option maxRecDepth 100000 in
set_option maxHeartbeats 2000000 in
theorem value_c (vp vx : Value) (p x : List Int) (w : World) (he : Env w) (hp : Sl w vp (i64s p)) (hx : Sl w vx (i64s x)) (hn : Nice p x) (hlen : x.length = p.length) :
    Calls Tryz.prog 36 #[vp, vx] w fun e w' => e = .returned (.tuple #[.string (I (numP p x : Nat)), .string (I (denP p x : Nat))]) ∧ Ext w w' := by
  obtain ⟨ap, cp, rfl, _, _, hcp⟩ := hp.parts
  obtain ⟨ax, cx, rfl, _, _, hcx⟩ := hx.parts
  rw [i64s_length, i64s_length]
  have Hcp := Lib.hid hcp; clear hcp hp
  have Hcx := Lib.hid hcx; clear hcx hx
  have hl1 := hn.1
  have hl2 := hn.2.1
  have hl3 : p.length ≤ x.length := by omega
  have Hn := Lib.hid hn; clear hn
  have He := Lib.hid he; clear he
  clear hlen
  go_enter Tryz.func36, Tryz.ntmps36
  go_wp2
  go_loopw [4, 5, 6] (fun n d i wr => SideRelI p x w n d i wr) (fun _ _ i _ => x.length - (intOf i).toNat)
  case atStart => exact ⟨0, rfl, Nat.zero_le _, by rw [sideN, I_nat, D_one], by rw [sideD, I_nat, D_one], Ext.refl _⟩
  case round =>
    obtain ⟨k, rfl, hk, rfl, rfl, hext⟩ := hrel
    have Hext := Lib.hid hext; clear hext
    by_cases hlt : k < x.length
    · obtain ⟨bp, op, rfl, hcellp0⟩ := Hcp.out k _ (i64s_at (by omega))
      obtain ⟨bx, ox, rfl, hcellx0⟩ := Hcx.out k _ (i64s_at hlt)
      have hltp : k < p.length := by omega
      have hb := Hn.out.2.2 k hlt
      have hdN := sideN_digits Hn.out k (by omega)
      have hdD := sideD_digits Hn.out k (by omega)
      have hdN2 : nDigits (sideN p x k) ≤ 256001 := by omega
      have hdD2 : nDigits (sideD p x k) ≤ 256001 := by omega
      have HdN := Lib.hid hdN2; clear hdN hdN2
      have HdD := Lib.hid hdD2; clear hdD hdD2
      have hsN : sideN p x (k + 1) = if 0 < nthI x k then sideN p x k * (nthI p k).toNat ^ (nthI x k).natAbs else sideN p x k := rfl
      have hsD : sideD p x (k + 1) = if 0 < nthI x k then sideD p x k else sideD p x k * (nthI p k).toNat ^ (nthI x k).natAbs := rfl
      obtain ⟨q, hq⟩ : ∃ q : Nat, nthI p k = q := ⟨(nthI p k).toNat, by omega⟩
      have hq4 : q < 10000 := by omega
      rw [hq] at hcellp0 hsN hsD
      rw [Int.toNat_natCast] at hsN hsD
      have hcase : (∃ e : Nat, 0 < e ∧ e ≤ 1000 ∧ nthI x k = e) ∨ (∃ e : Nat, e ≤ 1000 ∧ nthI x k = -(e : Int)) := by
        by_cases g : 0 < nthI x k
        · exact .inl ⟨(nthI x k).toNat, by omega, by omega, by omega⟩
        · exact .inr ⟨(-(nthI x k)).toNat, by omega, by omega⟩
      obtain ⟨wo, hwo⟩ : ∃ wo : World, wo = wr := ⟨_, rfl⟩
      subst hwo
      rcases hcase with ⟨e, he0, he1, hz⟩ | ⟨e, he1, hz⟩
      · rw [hz] at hcellx0 hsN hsD
        rw [Int.natAbs_natCast, if_pos (by omega)] at hsN hsD
        have hcellxw := Hext.out.cell hcellx0
        clear hb hq hz
        have HsN := Lib.hid hsN; clear hsN
        have HsD := Lib.hid hsD; clear hsD
        generalize sideN p x k = N at *
        generalize sideD p x k = M at *
        go_wp2
        go_loopw [4, 7] (fun n j wr => ∃ c : Nat, j = .int .i64 c ∧ c ≤ e ∧ n = .string (I ((N * q ^ c : Nat) : Int)) ∧ Ext w wr) (fun _ j _ => e - (intOf j).toNat)
        case atStart => exact ⟨0, rfl, Nat.zero_le _, by rw [Nat.pow_zero, Nat.mul_one], Hext.out⟩
        case round =>
          obtain ⟨c, rfl, hc, rfl, hext1⟩ := hrel
          have hcellp := hext1.cell hcellp0
          have hcellx := hext1.cell hcellx0
          have Hext1 := Lib.hid hext1; clear hext1
          by_cases hce : c < e
          · have hfit : Fit ((N * q ^ c : Nat) : Int) := by rw [Int.natCast_mul]; exact fit_pow (p := p) (x := x) HdN.out hq4 (by omega)
            have Hfit := Lib.hid hfit; clear hfit
            have hup : ((N * q ^ c : Nat) : Int) * (q : Int) = ((N * q ^ (c + 1) : Nat) : Int) := by rw [← Int.natCast_mul, Nat.pow_succ, Nat.mul_assoc]
            have Hup := Lib.hid hup; clear hup
            generalize N * q ^ c = A at *
            go_wp2_with fail
            refine (wholeOf_c q (by omega) (by omega) wr (He.out.ext Hext1.out)).mono ?_
            rintro e1 w1 ⟨rfl, hx1⟩
            have Hx1 := Lib.hid hx1; clear hx1
            go_wp2_with fail
            refine (mul_c A q w1 ((He.out.ext Hext1.out).ext Hx1.out) Hfit.out (fit_small hq4)).mono ?_
            rintro e1 w2 ⟨rfl, hx2⟩
            have Hx2 := Lib.hid hx2; clear hx2
            go_wp2
            go_roundw
            case rel => exact ⟨c + 1, by go_num, by omega, by rw [Hup.out], (Hext1.out.trans Hx1.out).trans Hx2.out⟩
            case measure => simp [intOf]; omega
          · obtain rfl : c = e := by omega
            rw [← HsN.out]
            go_wp2
            go_loopw [5, 8] (fun d j wr => j = .int .i64 0 ∧ d = .string (I (M : Nat)) ∧ Ext w wr) (fun _ j _ => 0)
            case atStart => exact ⟨rfl, rfl, Hext1.out⟩
            case round =>
              obtain ⟨rfl, rfl, hext2⟩ := hrel
              have hcellx2 := hext2.cell hcellx0
              have Hext2 := Lib.hid hext2; clear hext2
              go_wp2
              go_roundw
              case rel => exact ⟨k + 1, by go_num, by omega, rfl, by rw [HsD.out], Hext2.out⟩
              case measure => simp [intOf]; omega
      · rw [hz] at hcellx0 hsN hsD
        rw [Int.natAbs_neg, Int.natAbs_natCast, if_neg (by omega)] at hsN hsD
        have hcellxw := Hext.out.cell hcellx0
        clear hb hq hz
        have HsN := Lib.hid hsN; clear hsN
        have HsD := Lib.hid hsD; clear hsD
        generalize sideN p x k = N at *
        generalize sideD p x k = M at *
        go_wp2
        go_loopw [4, 7] (fun n j wr => j = .int .i64 0 ∧ n = .string (I (N : Nat)) ∧ Ext w wr) (fun _ j _ => 0)
        case atStart => exact ⟨rfl, rfl, Hext.out⟩
        case round =>
          obtain ⟨rfl, rfl, hext1⟩ := hrel
          have hcellx1 := hext1.cell hcellx0
          have Hext1 := Lib.hid hext1; clear hext1
          go_wp2
          go_loopw [5, 8] (fun d j wr => ∃ c : Nat, j = .int .i64 (-(c : Int)) ∧ c ≤ e ∧ d = .string (I ((M * q ^ c : Nat) : Int)) ∧ Ext w wr) (fun _ j _ => e - (-(intOf j)).toNat)
          case atStart => exact ⟨0, rfl, Nat.zero_le _, by rw [Nat.pow_zero, Nat.mul_one], Hext1.out⟩
          case round =>
            obtain ⟨c, rfl, hc, rfl, hext2⟩ := hrel
            have hcellp := hext2.cell hcellp0
            have hcellx := hext2.cell hcellx0
            have Hext2 := Lib.hid hext2; clear hext2
            by_cases hce : c < e
            · have hfit : Fit ((M * q ^ c : Nat) : Int) := by rw [Int.natCast_mul]; exact fit_pow (p := p) (x := x) HdD.out hq4 (by omega)
              have Hfit := Lib.hid hfit; clear hfit
              have hup : ((M * q ^ c : Nat) : Int) * (q : Int) = ((M * q ^ (c + 1) : Nat) : Int) := by rw [← Int.natCast_mul, Nat.pow_succ, Nat.mul_assoc]
              have Hup := Lib.hid hup; clear hup
              generalize M * q ^ c = A at *
              go_wp2_with fail
              refine (wholeOf_c q (by omega) (by omega) wr (He.out.ext Hext2.out)).mono ?_
              rintro e1 w1 ⟨rfl, hx1⟩
              have Hx1 := Lib.hid hx1; clear hx1
              go_wp2_with fail
              refine (mul_c A q w1 ((He.out.ext Hext2.out).ext Hx1.out) Hfit.out (fit_small hq4)).mono ?_
              rintro e1 w2 ⟨rfl, hx2⟩
              have Hx2 := Lib.hid hx2; clear hx2
              go_wp2
              go_roundw
              case rel => exact ⟨c + 1, by go_num, by omega, by rw [Hup.out], (Hext2.out.trans Hx1.out).trans Hx2.out⟩
              case measure => simp [intOf]; omega
            · obtain rfl : c = e := by omega
              rw [← HsD.out]
              go_wp2
              go_roundw
              case rel => exact ⟨k + 1, by go_num, by omega, by rw [HsN.out], rfl, Hext2.out⟩
              case measure => simp [intOf]; omega
    · obtain rfl : k = x.length := by omega
      have hnn : ¬ x.length < p.length := by omega
      go_wp2
      go_ret2
      exact ⟨rfl, Hext.out⟩

end Go.Proofs.YtkamjjjimbbdmaaGreatDoor
