/- Walks of the laws' own functions: Same, same, gcd. -/
import Derived.Test.YtkamjjjimbbdmaaGreatDoorComma
namespace Go.Proofs.YtkamjjjimbbdmaaGreatDoor
open Go.RowKit Go.Lib

theorem own_shape {w : World} {B : Nat} {v : Value} {E s k : Nat} {xs : List Value} (h : w.ownsRow B E s v k xs) : ∃ a cap, v = .slice a k cap := by
  rcases h.2 with ⟨rfl, rfl⟩ | ⟨g, cap, cur, rfl, _⟩ <;> exact ⟨_, _, rfl⟩

def ints (p : List Nat) : List Int := p.map fun (n : Nat) => (n : Int)
theorem ints_length (p : List Nat) : (ints p).length = p.length := by simp [ints]
theorem nthI_ints (p : List Nat) (k : Nat) : nthI (ints p) k = ((nth p k : Nat) : Int) := by
  unfold nthI ints nth
  rw [List.getD_eq_getElem?_getD, List.getD_eq_getElem?_getD, List.getElem?_map]
  cases p[k]? <;> rfl

theorem ext_grown {w0 W W7 : World} {E s n : Nat} {v : Value} {xs : List Value} {tmp : Obj} (hE : Ext w0 W) (hr : W.ownsRow w0.heap.size E s v n xs) (hgrow : (W.alloc tmp).grownBy W7 v.ownBlock) : Ext w0 W7 := by
  refine (hE.alloc tmp).grown hgrow fun k hk => ?_
  rcases hr.2 with ⟨rfl, _⟩ | ⟨g, cap, cur, rfl, hb, _⟩
  · simp [Value.ownBlock] at hk
  · simp [Value.ownBlock] at hk; omega

/-- Draws alone. -/
def Qu (w w' : World) : Prop := ∃ q, w' = w.drewN q
theorem Qu.refl (w : World) : Qu w w := ⟨0, rfl⟩
theorem Qu.drewN {a w : World} (h : Qu a w) (n : Nat) : Qu a (w.drewN n) := by
  obtain ⟨q, rfl⟩ := h
  exact ⟨q + n, World.drewN_drewN ..⟩
theorem Qu.ext {w w' : World} (h : Qu w w') : Ext w w' := by
  obtain ⟨q, rfl⟩ := h
  exact (Ext.refl w).drewN q
theorem Qu.trans {a b c : World} (h : Qu a b) (k : Qu b c) : Qu a c := by
  obtain ⟨q, rfl⟩ := k
  exact h.drewN q
theorem ret_bool {a b : Bool} (h : a = b) : Ending.returned (.bool a) = .returned (.bool b) := by rw [h]

theorem ne_at : ∀ {x y : List Int}, x.length = y.length → x ≠ y → ∃ i, i < x.length ∧ nthI x i ≠ nthI y i
  | [], [], _, h => absurd rfl h
  | a :: x, b :: y, hl, h => by
    by_cases hab : a = b
    · obtain ⟨i, hi, hn⟩ := ne_at (x := x) (y := y) (by simpa using hl) (fun e => h (by rw [hab, e]))
      exact ⟨i + 1, by simp; omega, by simpa [nthI] using hn⟩
    · exact ⟨0, by simp, by simpa [nthI] using hab⟩

set_option maxRecDepth 100000 in
set_option maxHeartbeats 1000000 in
theorem same12_c (va vb : Value) (x y : List Int) (w : World) (hx : Sl w va (i64s x)) (hy : Sl w vb (i64s y)) (hl : x.length ≤ 1000000) (hl2 : y.length ≤ 1000000) :
    Calls Tryz.prog 26 #[va, vb] w fun e w' => e = .returned (.bool (decide (x = y))) ∧ Qu w w' := by
  obtain ⟨aa, ca, rfl, _, _, hcx⟩ := hx.parts
  obtain ⟨ab, cb, rfl, _, _, hcy⟩ := hy.parts
  rw [i64s_length] at *
  rw [i64s_length] at *
  have Hcx := Lib.hid hcx; clear hcx hx
  have Hcy := Lib.hid hcy; clear hcy hy
  obtain ⟨r, hr⟩ : ∃ r, r = decide (x = y) := ⟨_, rfl⟩
  rw [← hr]
  by_cases hne : x.length = y.length
  · have ht : ((x.length : Int) != (y.length : Int)) = false := by rw [bne_eq_false_iff_eq]; omega
    have Hne := Lib.hid hne; clear hne
    have Hr := Lib.hid hr; clear hr
    go_enter Tryz.func26, Tryz.ntmps26
    go_wp2
    go_loopw [5] (fun i wr => ∃ k : Nat, i = .int .i64 k ∧ k ≤ x.length ∧ Qu w wr ∧ ∀ t, t < k → nthI x t = nthI y t) (fun i _ => x.length - (intOf i).toNat)
    case atStart => exact ⟨0, rfl, Nat.zero_le _, Qu.refl w, fun t ht => by omega⟩
    case round =>
      obtain ⟨k, rfl, hk, hqu, hs⟩ := hrel
      have Hqu := Lib.hid hqu; clear hqu
      have Hs := Lib.hid hs; clear hs
      by_cases hlt : k < x.length
      · have hky : k < y.length := by rw [← Hne.out]; exact hlt
        obtain ⟨bx, ox, rfl, hcx0⟩ := Hcx.out k _ (i64s_at hlt)
        obtain ⟨b2, oy, rfl, hcy0⟩ := Hcy.out k _ (i64s_at hky)
        have hcx := Hqu.out.ext.cell hcx0
        have hcy := Hqu.out.ext.cell hcy0
        clear hcx0 hcy0
        have hk0 : (0 : Int) ≤ (k : Int) := by omega
        have hk1 : (k : Int) < (x.length : Int) := by omega
        have hk2 : (k : Int) < (y.length : Int) := by omega
        by_cases hxy : nthI x k = nthI y k
        · have h3 : ((nthI x k) != (nthI y k)) = false := by rw [bne_eq_false_iff_eq]; exact hxy
          have Hxy := Lib.hid hxy; clear hxy
          go_wp2
          go_quiet (fail)
          go_wp2
          go_roundw
          case rel => exact ⟨k + 1, by go_num, by omega, Hqu.out.drewN _, fun t ht => by
            rcases Nat.lt_or_ge t k with h | h
            · exact Hs.out t h
            · obtain rfl : t = k := by omega
              exact Hxy.out⟩
          case measure => simp [intOf]; omega
        · have h3 : ((nthI x k) != (nthI y k)) = true := by rw [bne_iff_ne]; exact hxy
          have hf : r = false := by rw [Hr.out]; exact decide_eq_false (by rintro rfl; exact hxy rfl)
          have Hf := Lib.hid hf; clear hxy hf
          go_wp2
          go_quiet (fail)
          go_wp2
          go_ret
          exact ⟨ret_bool Hf.out.symm, by first | exact Hqu.out | exact Hqu.out.drewN _⟩
      · obtain rfl : k = x.length := by omega
        have hf : r = true := by
          rw [Hr.out]
          refine decide_eq_true ?_
          refine Classical.byContradiction fun h => ?_
          obtain ⟨i, hi, hn⟩ := ne_at Hne.out h
          exact hn (Hs.out i hi)
        have Hf := Lib.hid hf; clear hf
        go_wp2
        go_ret
        exact ⟨ret_bool Hf.out.symm, by first | exact Hqu.out | exact Hqu.out.drewN _⟩
  · have ht : ((x.length : Int) != (y.length : Int)) = true := by rw [bne_iff_ne]; omega
    have hf : r = false := by rw [hr]; exact decide_eq_false (by rintro rfl; exact hne rfl)
    clear hne hr
    subst hf
    go_enter Tryz.func26, Tryz.ntmps26
    go_wp2
    go_ret
    exact ⟨rfl, Qu.refl w⟩

theorem ne_atR : ∀ {x y : List (List Int)}, x.length = y.length → x ≠ y → ∃ i, i < x.length ∧ x.getD i [] ≠ y.getD i []
  | [], [], _, h => absurd rfl h
  | a :: x, b :: y, hl, h => by
    by_cases hab : a = b
    · obtain ⟨i, hi, hn⟩ := ne_atR (x := x) (y := y) (by simpa using hl) (fun e => h (by rw [hab, e]))
      exact ⟨i + 1, by simp; omega, by simpa using hn⟩
    · exact ⟨0, by simp, by simpa using hab⟩

set_option maxRecDepth 100000 in
set_option maxHeartbeats 1000000 in
theorem same16_c (va vb : Value) (x y : List (List Int)) (w : World) (hx : Mat w va x) (hy : Mat w vb y) (hl : x.length ≤ 1000000) (hl2 : y.length ≤ 1000000) (hrx : ∀ i, (x.getD i []).length ≤ 1000000) (hry : ∀ i, (y.getD i []).length ≤ 1000000) :
    Calls Tryz.prog 16 #[va, vb] w fun e w' => e = .returned (.bool (decide (x = y))) ∧ Qu w w' := by
  obtain ⟨vs, hvs, hslx, hrowx⟩ := hx
  obtain ⟨us, hus, hsly, hrowy⟩ := hy
  obtain ⟨aa, ca, rfl, _, _, hcx⟩ := hslx.parts
  obtain ⟨ab, cb, rfl, _, _, hcy⟩ := hsly.parts
  rw [hvs, hus]
  have Hvs := Lib.hid hvs; have Hus := Lib.hid hus; clear hvs hus
  have Hcx := Lib.hid hcx; clear hcx hslx
  have Hcy := Lib.hid hcy; clear hcy hsly
  have Hrx := Lib.hid hrowx; have Hry := Lib.hid hrowy; clear hrowx hrowy
  have Hhx := Lib.hid hrx; have Hhy := Lib.hid hry; clear hrx hry
  obtain ⟨r, hr⟩ : ∃ r, r = decide (x = y) := ⟨_, rfl⟩
  rw [← hr]
  by_cases hne : x.length = y.length
  · have ht : ((x.length : Int) != (y.length : Int)) = false := by rw [bne_eq_false_iff_eq]; omega
    have Hne := Lib.hid hne; clear hne
    have Hr := Lib.hid hr; clear hr
    go_enter Tryz.func16, Tryz.ntmps16
    go_wp2
    go_loopw [5] (fun i wr => ∃ k : Nat, i = .int .i64 k ∧ k ≤ x.length ∧ Qu w wr ∧ ∀ t, t < k → x.getD t [] = y.getD t []) (fun i _ => x.length - (intOf i).toNat)
    case atStart => exact ⟨0, rfl, Nat.zero_le _, Qu.refl w, fun t ht => by omega⟩
    case round =>
      obtain ⟨k, rfl, hk, hqu, hs⟩ := hrel
      have Hqu := Lib.hid hqu; clear hqu
      have Hs := Lib.hid hs; clear hs
      by_cases hlt : k < x.length
      · have hky : k < y.length := by rw [← Hne.out]; exact hlt
        obtain ⟨u1, hu1⟩ : ∃ u, vs[k]? = some u := ⟨_, List.getElem?_eq_getElem (by rw [Hvs.out]; exact hlt)⟩
        obtain ⟨u2, hu2⟩ : ∃ u, us[k]? = some u := ⟨_, List.getElem?_eq_getElem (by rw [Hus.out]; exact hky)⟩
        have h1 := Hrx.out k u1 hu1
        have h2 := Hry.out k u2 hu2
        have h3 := Hhx.out k
        have h4 := Hhy.out k
        obtain ⟨bx, ox, rfl, hcx0⟩ := Hcx.out k _ hu1
        obtain ⟨b2, oy, rfl, hcy0⟩ := Hcy.out k _ hu2
        have hcx := Hqu.out.ext.cell hcx0
        have hcy := Hqu.out.ext.cell hcy0
        clear hcx0 hcy0
        have hsm := fun n => same12_c u1 u2 (x.getD k []) (y.getD k []) (wr.drewN n) ((Hqu.out.drewN n).ext.sl h1) ((Hqu.out.drewN n).ext.sl h2) h3 h4
        clear h1 h2 h3 h4 hu1 hu2
        have hk0 : (0 : Int) ≤ (k : Int) := by omega
        have hk1 : (k : Int) < (x.length : Int) := by omega
        have hk2 : (k : Int) < (y.length : Int) := by omega
        have hstep : decide (x.getD k [] = y.getD k []) = true → ∀ t, t < k + 1 → x.getD t [] = y.getD t [] := fun h t ht => by
          rcases Nat.lt_or_ge t k with h5 | h5
          · exact Hs.out t h5
          · obtain rfl : t = k := by omega
            exact of_decide_eq_true h
        have hno : decide (x.getD k [] = y.getD k []) = false → r = false := fun h => by
          rw [Hr.out]
          refine decide_eq_false ?_
          rintro rfl
          exact of_decide_eq_false h rfl
        generalize decide (x.getD k [] = y.getD k []) = b at *
        have Hsm := Lib.hid hsm; have Hstep := Lib.hid hstep; have Hno := Lib.hid hno; clear hsm hstep hno
        cases b with
        | true =>
          go_wp2
          go_quiet ((go_at_call 26; exact Calls.quiet_of (Hsm.out _)))
          go_wp2
          go_roundw
          case rel => exact ⟨k + 1, by go_num, by omega, Hqu.out.drewN _, Hstep.out (by first | rfl | trivial)⟩
          case measure => simp [intOf]; omega
        | false =>
          go_wp2
          go_quiet ((go_at_call 26; exact Calls.quiet_of (Hsm.out _)))
          go_wp2
          go_ret
          exact ⟨ret_bool (Hno.out (by first | rfl | trivial)).symm, Hqu.out.drewN _⟩
      · obtain rfl : k = x.length := by omega
        have hf : r = true := by
          rw [Hr.out]
          refine decide_eq_true ?_
          refine Classical.byContradiction fun h => ?_
          obtain ⟨i, hi, hn⟩ := ne_atR Hne.out h
          exact hn (Hs.out i hi)
        have Hf := Lib.hid hf; clear hf
        go_wp2
        go_ret
        exact ⟨ret_bool Hf.out.symm, by first | exact Hqu.out | exact Hqu.out.drewN _⟩
  · have ht : ((x.length : Int) != (y.length : Int)) = true := by rw [bne_iff_ne]; omega
    have hf : r = false := by rw [hr]; exact decide_eq_false (by rintro rfl; exact hne rfl)
    clear hne hr
    subst hf
    go_enter Tryz.func16, Tryz.ntmps16
    go_wp2
    go_ret
    exact ⟨rfl, Qu.refl w⟩

set_option maxRecDepth 100000 in
set_option maxHeartbeats 1000000 in
theorem gcd_c (a b : Nat) (w : World) (ha : a ≤ 1000000) (hb : b ≤ 1000000) :
    Calls Tryz.prog 46 #[.int .i64 a, .int .i64 b] w fun e w' => e = .returned (.int .i64 (Nat.gcd a b : Nat)) ∧ Qu w w' := by
  obtain ⟨g, hg⟩ : ∃ g, g = Nat.gcd a b := ⟨_, rfl⟩
  rw [← hg]
  have Hg := Lib.hid hg; clear hg
  go_enter Tryz.func46, Tryz.ntmps46
  go_wp2
  go_loopw [0, 1] (fun x y wr => ∃ m n : Nat, x = .int .i64 m ∧ y = .int .i64 n ∧ m ≤ 1000000 ∧ n ≤ 1000000 ∧ Qu w wr ∧ g = Nat.gcd m n) (fun _ y _ => (intOf y).toNat)
  case atStart => exact ⟨a, b, rfl, rfl, ha, hb, Qu.refl w, Hg.out⟩
  case round =>
    obtain ⟨m, n, rfl, rfl, hm, hn, hqu, hgm⟩ := hrel
    have Hqu := Lib.hid hqu; clear hqu
    have Hgm := Lib.hid hgm; clear hgm
    by_cases h0 : n = 0
    · subst h0
      have hgg : g = m := by rw [Hgm.out, Nat.gcd_zero_right]
      have Hgg := Lib.hid hgg; clear hgg
      go_wp2
      go_ret
      exact ⟨ret_int (by rw [Hgg.out]), Hqu.out⟩
    · have hnz : ((n : Int) != 0) = true := by rw [bne_iff_ne]; omega
      have hmod : (m : Int) % (n : Int) = ((m % n : Nat) : Int) := by simp
      have hmt : (m : Int).tmod (n : Int) = ((m % n : Nat) : Int) := by rw [Int.tmod_eq_emod_of_nonneg (by omega)]; exact hmod
      have hlt : m % n < n := Nat.mod_lt _ (by omega)
      have hgn : g = Nat.gcd n (m % n) := by rw [Hgm.out, Nat.gcd_comm m n, Nat.gcd_rec, Nat.gcd_comm]
      have Hgn := Lib.hid hgn; clear hgn
      generalize hr : m % n = r at *
      have Hr := Lib.hid hr; clear hr
      go_wp2
      go_quiet (fail)
      go_wp2
      go_roundw
      case rel => exact ⟨n, r, rfl, rfl, hn, by omega, Hqu.out.drewN _, Hgn.out⟩
      case measure => simp [intOf]; omega

end Go.Proofs.YtkamjjjimbbdmaaGreatDoor
