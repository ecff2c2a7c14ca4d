/- Walks of the laws' own functions: Same, same, gcd. Walks of the laws' own functions: exponents, Interval, Value. Walks of the laws' own functions: Interval, Primes, Value. Walks of the laws' own functions: Primes. Walks of the laws' own functions: Make (12), Make (16). -/
import Derived.Test.YtkamjjjimbbdmaaGreatDoorIvlA
import Derived.Deep.RegionHeld3
namespace Go.Proofs.YtkamjjjimbbdmaaGreatDoor
open Go.RowKit Go.Lib

theorem own_shape {w : World} {B : Nat} {v : Value} {E s k : Nat} {xs : List Value} (h : w.ownsRow B E s v k xs) : ∃ a cap, v = .slice a k cap := by
  rcases h.2 with ⟨rfl, rfl⟩ | ⟨g, cap, cur, rfl, _⟩ <;> exact ⟨_, _, rfl⟩

def ints (p : List Nat) : List Int := p.map fun (n : Nat) => (n : Int)
theorem ints_length (p : List Nat) : (ints p).length = p.length := by simp [ints]
theorem nthI_ints (p : List Nat) (k : Nat) : nthI (ints p) k = ((nth p k : Nat) : Int) := by
  unfold nthI ints nth
  rw [List.getD_eq_getElem?_getD, List.getD_eq_getElem?_getD, List.getElem?_map]
  cases p[k]? <;> rfl

theorem ext_grown {w0 W W7 : World} {E s n : Nat} {v : Value} {xs : List Value} {tmp : Obj} (hE : Ext w0 W) (hr : W.ownsRow w0.heap.size E s v n xs) (hgrow : (W.alloc tmp).grownBy W7 v.ownBlock) : Ext w0 W7 := by
  refine (hE.alloc tmp).grown hgrow fun k hk => ?_
  rcases hr.2 with ⟨rfl, _⟩ | ⟨g, cap, cur, rfl, hb, _⟩
  · simp [Value.ownBlock] at hk
  · simp [Value.ownBlock] at hk; omega

/-- Draws alone. -/
def Qu (w w' : World) : Prop := ∃ q, w' = w.drewN q
theorem Qu.refl (w : World) : Qu w w := ⟨0, rfl⟩
theorem Qu.drewN {a w : World} (h : Qu a w) (n : Nat) : Qu a (w.drewN n) := by
  obtain ⟨q, rfl⟩ := h
  exact ⟨q + n, World.drewN_drewN ..⟩
theorem Qu.ext {w w' : World} (h : Qu w w') : Ext w w' := by
  obtain ⟨q, rfl⟩ := h
  exact (Ext.refl w).drewN q
theorem Qu.trans {a b c : World} (h : Qu a b) (k : Qu b c) : Qu a c := by
  obtain ⟨q, rfl⟩ := k
  exact h.drewN q
theorem ret_bool {a b : Bool} (h : a = b) : Ending.returned (.bool a) = .returned (.bool b) := by rw [h]

theorem ne_at : ∀ {x y : List Int}, x.length = y.length → x ≠ y → ∃ i, i < x.length ∧ nthI x i ≠ nthI y i
  | [], [], _, h => absurd rfl h
  | a :: x, b :: y, hl, h => by
    by_cases hab : a = b
    · obtain ⟨i, hi, hn⟩ := ne_at (x := x) (y := y) (by simpa using hl) (fun e => h (by rw [hab, e]))
      exact ⟨i + 1, by simp; omega, by simpa [nthI] using hn⟩
    · exact ⟨0, by simp, by simpa [nthI] using hab⟩

set_option maxRecDepth 100000 in
set_option maxHeartbeats 1000000 in
theorem same12_c (va vb : Value) (x y : List Int) (w : World) (hx : Sl w va (i64s x)) (hy : Sl w vb (i64s y)) (hl : x.length ≤ 1000000) (hl2 : y.length ≤ 1000000) :
    Calls Tryz.prog 26 #[va, vb] w fun e w' => e = .returned (.bool (decide (x = y))) ∧ Qu w w' := by
  obtain ⟨aa, ca, rfl, _, _, hcx⟩ := hx.parts
  obtain ⟨ab, cb, rfl, _, _, hcy⟩ := hy.parts
  rw [i64s_length] at *
  rw [i64s_length] at *
  have Hcx := Lib.hid hcx; clear hcx hx
  have Hcy := Lib.hid hcy; clear hcy hy
  obtain ⟨r, hr⟩ : ∃ r, r = decide (x = y) := ⟨_, rfl⟩
  rw [← hr]
  by_cases hne : x.length = y.length
  · have ht : ((x.length : Int) != (y.length : Int)) = false := by rw [bne_eq_false_iff_eq]; omega
    have Hne := Lib.hid hne; clear hne
    have Hr := Lib.hid hr; clear hr
    go_enter Tryz.func26, Tryz.ntmps26
    go_wp2
    go_loopw [5] (fun i wr => ∃ k : Nat, i = .int .i64 k ∧ k ≤ x.length ∧ Qu w wr ∧ ∀ t, t < k → nthI x t = nthI y t) (fun i _ => x.length - (intOf i).toNat)
    case atStart => exact ⟨0, rfl, Nat.zero_le _, Qu.refl w, fun t ht => by omega⟩
    case round =>
      obtain ⟨k, rfl, hk, hqu, hs⟩ := hrel
      have Hqu := Lib.hid hqu; clear hqu
      have Hs := Lib.hid hs; clear hs
      by_cases hlt : k < x.length
      · have hky : k < y.length := by rw [← Hne.out]; exact hlt
        obtain ⟨bx, ox, rfl, hcx0⟩ := Hcx.out k _ (i64s_at hlt)
        obtain ⟨b2, oy, rfl, hcy0⟩ := Hcy.out k _ (i64s_at hky)
        have hcx := Hqu.out.ext.cell hcx0
        have hcy := Hqu.out.ext.cell hcy0
        clear hcx0 hcy0
        have hk0 : (0 : Int) ≤ (k : Int) := by omega
        have hk1 : (k : Int) < (x.length : Int) := by omega
        have hk2 : (k : Int) < (y.length : Int) := by omega
        by_cases hxy : nthI x k = nthI y k
        · have h3 : ((nthI x k) != (nthI y k)) = false := by rw [bne_eq_false_iff_eq]; exact hxy
          have Hxy := Lib.hid hxy; clear hxy
          go_wp2
          go_quiet (fail)
          go_wp2
          go_roundw
          case rel => exact ⟨k + 1, by go_num, by omega, Hqu.out.drewN _, fun t ht => by
            rcases Nat.lt_or_ge t k with h | h
            · exact Hs.out t h
            · obtain rfl : t = k := by omega
              exact Hxy.out⟩
          case measure => simp [intOf]; omega
        · have h3 : ((nthI x k) != (nthI y k)) = true := by rw [bne_iff_ne]; exact hxy
          have hf : r = false := by rw [Hr.out]; exact decide_eq_false (by rintro rfl; exact hxy rfl)
          have Hf := Lib.hid hf; clear hxy hf
          go_wp2
          go_quiet (fail)
          go_wp2
          go_ret
          exact ⟨ret_bool Hf.out.symm, by first | exact Hqu.out | exact Hqu.out.drewN _⟩
      · obtain rfl : k = x.length := by omega
        have hf : r = true := by
          rw [Hr.out]
          refine decide_eq_true ?_
          refine Classical.byContradiction fun h => ?_
          obtain ⟨i, hi, hn⟩ := ne_at Hne.out h
          exact hn (Hs.out i hi)
        have Hf := Lib.hid hf; clear hf
        go_wp2
        go_ret
        exact ⟨ret_bool Hf.out.symm, by first | exact Hqu.out | exact Hqu.out.drewN _⟩
  · have ht : ((x.length : Int) != (y.length : Int)) = true := by rw [bne_iff_ne]; omega
    have hf : r = false := by rw [hr]; exact decide_eq_false (by rintro rfl; exact hne rfl)
    clear hne hr
    subst hf
    go_enter Tryz.func26, Tryz.ntmps26
    go_wp2
    go_ret
    exact ⟨rfl, Qu.refl w⟩

theorem ne_atR : ∀ {x y : List (List Int)}, x.length = y.length → x ≠ y → ∃ i, i < x.length ∧ x.getD i [] ≠ y.getD i []
  | [], [], _, h => absurd rfl h
  | a :: x, b :: y, hl, h => by
    by_cases hab : a = b
    · obtain ⟨i, hi, hn⟩ := ne_atR (x := x) (y := y) (by simpa using hl) (fun e => h (by rw [hab, e]))
      exact ⟨i + 1, by simp; omega, by simpa using hn⟩
    · exact ⟨0, by simp, by simpa using hab⟩

set_option maxRecDepth 100000 in
set_option maxHeartbeats 1000000 in
theorem same16_c (va vb : Value) (x y : List (List Int)) (w : World) (hx : Mat w va x) (hy : Mat w vb y) (hl : x.length ≤ 1000000) (hl2 : y.length ≤ 1000000) (hrx : ∀ i, (x.getD i []).length ≤ 1000000) (hry : ∀ i, (y.getD i []).length ≤ 1000000) :
    Calls Tryz.prog 16 #[va, vb] w fun e w' => e = .returned (.bool (decide (x = y))) ∧ Qu w w' := by
  obtain ⟨vs, hvs, hslx, hrowx⟩ := hx
  obtain ⟨us, hus, hsly, hrowy⟩ := hy
  obtain ⟨aa, ca, rfl, _, _, hcx⟩ := hslx.parts
  obtain ⟨ab, cb, rfl, _, _, hcy⟩ := hsly.parts
  rw [hvs, hus]
  have Hvs := Lib.hid hvs; have Hus := Lib.hid hus; clear hvs hus
  have Hcx := Lib.hid hcx; clear hcx hslx
  have Hcy := Lib.hid hcy; clear hcy hsly
  have Hrx := Lib.hid hrowx; have Hry := Lib.hid hrowy; clear hrowx hrowy
  have Hhx := Lib.hid hrx; have Hhy := Lib.hid hry; clear hrx hry
  obtain ⟨r, hr⟩ : ∃ r, r = decide (x = y) := ⟨_, rfl⟩
  rw [← hr]
  by_cases hne : x.length = y.length
  · have ht : ((x.length : Int) != (y.length : Int)) = false := by rw [bne_eq_false_iff_eq]; omega
    have Hne := Lib.hid hne; clear hne
    have Hr := Lib.hid hr; clear hr
    go_enter Tryz.func16, Tryz.ntmps16
    go_wp2
    go_loopw [5] (fun i wr => ∃ k : Nat, i = .int .i64 k ∧ k ≤ x.length ∧ Qu w wr ∧ ∀ t, t < k → x.getD t [] = y.getD t []) (fun i _ => x.length - (intOf i).toNat)
    case atStart => exact ⟨0, rfl, Nat.zero_le _, Qu.refl w, fun t ht => by omega⟩
    case round =>
      obtain ⟨k, rfl, hk, hqu, hs⟩ := hrel
      have Hqu := Lib.hid hqu; clear hqu
      have Hs := Lib.hid hs; clear hs
      by_cases hlt : k < x.length
      · have hky : k < y.length := by rw [← Hne.out]; exact hlt
        obtain ⟨u1, hu1⟩ : ∃ u, vs[k]? = some u := ⟨_, List.getElem?_eq_getElem (by rw [Hvs.out]; exact hlt)⟩
        obtain ⟨u2, hu2⟩ : ∃ u, us[k]? = some u := ⟨_, List.getElem?_eq_getElem (by rw [Hus.out]; exact hky)⟩
        have h1 := Hrx.out k u1 hu1
        have h2 := Hry.out k u2 hu2
        have h3 := Hhx.out k
        have h4 := Hhy.out k
        obtain ⟨bx, ox, rfl, hcx0⟩ := Hcx.out k _ hu1
        obtain ⟨b2, oy, rfl, hcy0⟩ := Hcy.out k _ hu2
        have hcx := Hqu.out.ext.cell hcx0
        have hcy := Hqu.out.ext.cell hcy0
        clear hcx0 hcy0
        have hsm := fun n => same12_c u1 u2 (x.getD k []) (y.getD k []) (wr.drewN n) ((Hqu.out.drewN n).ext.sl h1) ((Hqu.out.drewN n).ext.sl h2) h3 h4
        clear h1 h2 h3 h4 hu1 hu2
        have hk0 : (0 : Int) ≤ (k : Int) := by omega
        have hk1 : (k : Int) < (x.length : Int) := by omega
        have hk2 : (k : Int) < (y.length : Int) := by omega
        have hstep : decide (x.getD k [] = y.getD k []) = true → ∀ t, t < k + 1 → x.getD t [] = y.getD t [] := fun h t ht => by
          rcases Nat.lt_or_ge t k with h5 | h5
          · exact Hs.out t h5
          · obtain rfl : t = k := by omega
            exact of_decide_eq_true h
        have hno : decide (x.getD k [] = y.getD k []) = false → r = false := fun h => by
          rw [Hr.out]
          refine decide_eq_false ?_
          rintro rfl
          exact of_decide_eq_false h rfl
        generalize decide (x.getD k [] = y.getD k []) = b at *
        have Hsm := Lib.hid hsm; have Hstep := Lib.hid hstep; have Hno := Lib.hid hno; clear hsm hstep hno
        cases b with
        | true =>
          go_wp2
          go_quiet ((go_at_call 26; exact Calls.quiet_of (Hsm.out _)))
          go_wp2
          go_roundw
          case rel => exact ⟨k + 1, by go_num, by omega, Hqu.out.drewN _, Hstep.out (by first | rfl | trivial)⟩
          case measure => simp [intOf]; omega
        | false =>
          go_wp2
          go_quiet ((go_at_call 26; exact Calls.quiet_of (Hsm.out _)))
          go_wp2
          go_ret
          exact ⟨ret_bool (Hno.out (by first | rfl | trivial)).symm, Hqu.out.drewN _⟩
      · obtain rfl : k = x.length := by omega
        have hf : r = true := by
          rw [Hr.out]
          refine decide_eq_true ?_
          refine Classical.byContradiction fun h => ?_
          obtain ⟨i, hi, hn⟩ := ne_atR Hne.out h
          exact hn (Hs.out i hi)
        have Hf := Lib.hid hf; clear hf
        go_wp2
        go_ret
        exact ⟨ret_bool Hf.out.symm, by first | exact Hqu.out | exact Hqu.out.drewN _⟩
  · have ht : ((x.length : Int) != (y.length : Int)) = true := by rw [bne_iff_ne]; omega
    have hf : r = false := by rw [hr]; exact decide_eq_false (by rintro rfl; exact hne rfl)
    clear hne hr
    subst hf
    go_enter Tryz.func16, Tryz.ntmps16
    go_wp2
    go_ret
    exact ⟨rfl, Qu.refl w⟩

set_option maxRecDepth 100000 in
set_option maxHeartbeats 1000000 in
theorem gcd_c (a b : Nat) (w : World) (ha : a ≤ 1000000) (hb : b ≤ 1000000) :
    Calls Tryz.prog 46 #[.int .i64 a, .int .i64 b] w fun e w' => e = .returned (.int .i64 (Nat.gcd a b : Nat)) ∧ Qu w w' := by
  obtain ⟨g, hg⟩ : ∃ g, g = Nat.gcd a b := ⟨_, rfl⟩
  rw [← hg]
  have Hg := Lib.hid hg; clear hg
  go_enter Tryz.func46, Tryz.ntmps46
  go_wp2
  go_loopw [0, 1] (fun x y wr => ∃ m n : Nat, x = .int .i64 m ∧ y = .int .i64 n ∧ m ≤ 1000000 ∧ n ≤ 1000000 ∧ Qu w wr ∧ g = Nat.gcd m n) (fun _ y _ => (intOf y).toNat)
  case atStart => exact ⟨a, b, rfl, rfl, ha, hb, Qu.refl w, Hg.out⟩
  case round =>
    obtain ⟨m, n, rfl, rfl, hm, hn, hqu, hgm⟩ := hrel
    have Hqu := Lib.hid hqu; clear hqu
    have Hgm := Lib.hid hgm; clear hgm
    by_cases h0 : n = 0
    · subst h0
      have hgg : g = m := by rw [Hgm.out, Nat.gcd_zero_right]
      have Hgg := Lib.hid hgg; clear hgg
      go_wp2
      go_ret
      exact ⟨ret_int (by rw [Hgg.out]), Hqu.out⟩
    · have hnz : ((n : Int) != 0) = true := by rw [bne_iff_ne]; omega
      have hmod : (m : Int) % (n : Int) = ((m % n : Nat) : Int) := by simp
      have hmt : (m : Int).tmod (n : Int) = ((m % n : Nat) : Int) := by rw [Int.tmod_eq_emod_of_nonneg (by omega)]; exact hmod
      have hlt : m % n < n := Nat.mod_lt _ (by omega)
      have hgn : g = Nat.gcd n (m % n) := by rw [Hgm.out, Nat.gcd_comm m n, Nat.gcd_rec, Nat.gcd_comm]
      have Hgn := Lib.hid hgn; clear hgn
      generalize hr : m % n = r at *
      have Hr := Lib.hid hr; clear hr
      go_wp2
      go_quiet (fail)
      go_wp2
      go_roundw
      case rel => exact ⟨n, r, rfl, rfl, hn, by omega, Hqu.out.drewN _, Hgn.out⟩
      case measure => simp [intOf]; omega

end Go.Proofs.YtkamjjjimbbdmaaGreatDoor

namespace Go.Proofs.YtkamjjjimbbdmaaGreatDoor
open Go.RowKit Go.Lib

/-- What is left of a number when a prime is taken out as often as possible, and how often. -/
def divs (q : Nat) : Nat → Nat → Nat × Nat
  | 0, n => (n, 0)
  | f + 1, n => if n % q = 0 then ((divs q f (n / q)).1, (divs q f (n / q)).2 + 1) else (n, 0)
def expsR : List Nat → Nat → List Int × Nat
  | [], n => ([], n)
  | q :: r, n => (((divs q n n).2 : Int) :: (expsR r (divs q n n).1).1, (expsR r (divs q n n).1).2)
theorem expsR_length : ∀ (p : List Nat) (n : Nat), (expsR p n).1.length = p.length
  | [], _ => rfl
  | q :: r, n => by rw [expsR]; simp [expsR_length r]

theorem ret_vb {v : Value} {a b : Bool} (h : a = b) : Ending.returned (.tuple #[v, .bool a]) = .returned (.tuple #[v, .bool b]) := by rw [h]

theorem divs_le (q : Nat) (hq : 2 ≤ q) : ∀ (f n : Nat), (divs q f n).1 ≤ n ∧ (1 ≤ n → 1 ≤ (divs q f n).1)
  | 0, n => ⟨Nat.le_refl _, fun h => h⟩
  | f + 1, n => by
    rw [divs]
    split
    · rename_i h
      have ih := divs_le q hq f (n / q)
      have h1 : n / q ≤ n := Nat.div_le_self _ _
      refine ⟨Nat.le_trans ih.1 h1, fun h2 => ih.2 ?_⟩
      have h3 := Nat.div_add_mod n q
      rw [h] at h3
      rcases Nat.eq_zero_or_pos (n / q) with h4 | h4
      · rw [h4] at h3; omega
      · exact h4
    · exact ⟨Nat.le_refl _, fun h => h⟩
theorem divs_cnt (q : Nat) : ∀ (f n : Nat), (divs q f n).2 ≤ f
  | 0, n => Nat.le_refl _
  | f + 1, n => by
    rw [divs]
    split
    · have := divs_cnt q f (n / q)
      show _ + 1 ≤ _
      omega
    · omega
theorem divs_yes {q f n : Nat} (h : n % q = 0) : divs q (f + 1) n = ((divs q f (n / q)).1, (divs q f (n / q)).2 + 1) := by rw [divs, if_pos h]
theorem divs_no {q f n : Nat} (h : ¬ n % q = 0) : divs q f n = (n, 0) := by
  cases f with
  | zero => rfl
  | succ f => rw [divs, if_neg h]

set_option maxRecDepth 100000 in
set_option maxHeartbeats 1000000 in
theorem exps_c (vp : Value) (p : List Nat) (n : Nat) (w : World) (hp : Sl w vp (i64s (ints p))) (hl : p.length ≤ 64) (hq : ∀ i, i < p.length → 2 ≤ nth p i ∧ nth p i ≤ 1000) (h1 : 1 ≤ n) (hn : n ≤ 1000000) :
    Calls Tryz.prog 45 #[vp, .int .i64 n] w fun e w' => ∃ v, e = .returned (.tuple #[v, .bool (decide ((expsR p n).2 = 1))]) ∧ OwnI w' w.heap.size v (expsR p n).1 ∧ Ext w w' := by
  obtain ⟨i0, hi, hz0, hz1, hz2⟩ := info_parts info_int
  obtain ⟨ap, cp, rfl, _, _, hcp⟩ := hp.parts
  rw [i64s_length, ints_length]
  have Hcp := Lib.hid hcp; clear hcp hp
  have Hq := Lib.hid hq; clear hq
  obtain ⟨E, hE⟩ : ∃ E, E = expsR p n := ⟨_, rfl⟩
  rw [← hE]
  have HE := Lib.hid hE; clear hE
  go_enter Tryz.func45, Tryz.ntmps45
  go_wp2
  go_loopw [1, 6, 7] (fun nv v i wr => ∃ (k m : Nat) (acc : List Int), nv = .int .i64 m ∧ i = .int .i64 k ∧ k ≤ p.length ∧ 1 ≤ m ∧ m ≤ 1000000 ∧ acc.length = k ∧ OwnI wr w.heap.size v acc ∧ acc ++ (expsR (p.drop k) m).1 = E.1 ∧ (expsR (p.drop k) m).2 = E.2 ∧ Ext w wr) (fun _ _ i _ => p.length - (intOf i).toNat)
  case atStart => exact ⟨0, n, [], rfl, rfl, Nat.zero_le _, h1, hn, rfl, World.ownsRow_nil w _ _ 1, by rw [List.drop_zero, HE.out]; rfl, by rw [List.drop_zero, HE.out], Ext.refl _⟩
  case round =>
    obtain ⟨k, m, acc, rfl, rfl, hk, hm1, hm2, hacc, hown, hE1, hE2, hext⟩ := hrel
    obtain ⟨av, cv, rfl⟩ := own_shape hown
    have Hacc := Lib.hid hacc; have Hown := Lib.hid hown; have HE1 := Lib.hid hE1; have HE2 := Lib.hid hE2; have Hext := Lib.hid hext
    clear hacc hown hE1 hE2 hext
    by_cases hlt : k < p.length
    · obtain ⟨bp, op, rfl, hcell0⟩ := Hcp.out k _ (i64s_at (by rw [ints_length]; exact hlt))
      have hcell := Hext.out.cell hcell0
      rw [nthI_ints] at hcell
      obtain ⟨hq2, hq3⟩ := Hq.out k hlt
      have hdrop : p.drop k = nth p k :: p.drop (k + 1) := by
        rw [List.drop_eq_getElem_cons hlt]
        congr 1
        unfold nth
        rw [List.getD_eq_getElem?_getD, List.getElem?_eq_getElem hlt]; rfl
      have hE1 := HE1.out; have hE2 := HE2.out
      rw [hdrop, expsR] at hE1 hE2
      clear HE1 HE2 hdrop hcell0
      generalize nth p k = q at *
      have HE1 := Lib.hid hE1; have HE2 := Lib.hid hE2; clear hE1 hE2
      obtain ⟨wo, hwo⟩ : ∃ wo : World, wo = wr := ⟨_, rfl⟩
      subst hwo
      go_wp2
      go_loop [1, 8] (fun nv kv => ∃ j f c : Nat, nv = .int .i64 j ∧ kv = .int .i64 c ∧ 1 ≤ j ∧ j ≤ f ∧ f + c ≤ m ∧ (divs q f j).1 = (divs q m m).1 ∧ (divs q f j).2 + c = (divs q m m).2) (fun nv _ => (intOf nv).toNat)
      case atStart => exact ⟨m, m, 0, rfl, rfl, hm1, Nat.le_refl _, by omega, rfl, rfl⟩
      case round =>
        obtain ⟨j, f, c, rfl, rfl, hj1, hj2, hfc, hd1, hd2⟩ := hrel
        have hmod : (j : Int) % (q : Int) = ((j % q : Nat) : Int) := by simp
        have hdiv : (j : Int) / (q : Int) = ((j / q : Nat) : Int) := by simp
        by_cases h0 : j % q = 0
        · have ht : ((j : Int) % (q : Int) == 0) = true := by rw [hmod, h0]; rfl
          obtain ⟨f', rfl⟩ : ∃ f', f = f' + 1 := ⟨f - 1, by omega⟩
          rw [divs_yes h0] at hd1 hd2
          have h3 := Nat.div_add_mod j q
          have hjq : j / q < j := Nat.div_lt_self hj1 hq2
          have hjq1 : 1 ≤ j / q := by
            rcases Nat.eq_zero_or_pos (j / q) with h4 | h4
            · rw [h4, h0] at h3; omega
            · exact h4
          have hd1' : (divs q f' (j / q)).1 = (divs q m m).1 := hd1
          have hd2' : (divs q f' (j / q)).2 + (c + 1) = (divs q m m).2 := by rw [← hd2]; show _ = _ + 1 + c; omega
          have Hd1 := Lib.hid hd1'; have Hd2 := Lib.hid hd2'; clear hd1 hd2 hd1' hd2' h3 hmod h0
          generalize j / q = j2 at *
          go_wp2
          go_round
          case rel => exact ⟨j2, f', c + 1, by first | rfl | (rw [hdiv]), by go_num, hjq1, by omega, by omega, Hd1.out, Hd2.out⟩
          case measure => simp [intOf]; omega
        · have ht : ((j : Int) % (q : Int) == 0) = false := by rw [hmod]; exact beq_eq_false_iff_ne.2 (by omega)
          rw [divs_no h0] at hd1 hd2
          have hd1' : j = (divs q m m).1 := hd1
          have hd2' : 0 + c = (divs q m m).2 := hd2
          have hE1 := HE1.out; have hE2 := HE2.out
          rw [← hd1', ← hd2', Nat.zero_add] at hE1
          rw [← hd1'] at hE2
          have hjm : j ≤ 1000000 := by omega
          have HE1' := Lib.hid hE1; have HE2' := Lib.hid hE2; clear hE1 hE2 HE1 HE2 hd1 hd2 hd1' hd2' hmod hdiv h0
          have hown := Hown.out
          have hm3 : acc.length + 1 ≤ maxLen := by have := Hacc.out; unfold maxLen; omega
          have hm4 : (acc.length + 1) * 8 ≤ 140737488355328 := by have := Hacc.out; omega
          have hsz := Hext.out.size
          have hm5 : w.heap.size ≤ (wo.alloc (.cells #[.int .i64 (c : Int)] 3)).heap.size := by rw [World.size_alloc]; omega
          go_wp2_with (at_builtin; refine wpList_append_own _ rfl _ _ 30 rfl w.heap.size 3 i0 (.int .i64 0) 1 8 Tryz.underlying30 hi hz0 hz1 hz2 rfl (by decide) _ _ _ rfl (hown.alloc _) ⟨wo.heap.size, 0, none⟩ 1 1 [.int .i64 (c : Int)] rfl rfl (cell_one_new _ _ _) (by simp [Value.oneCell']) hm3 hm4 hm5 ?_; intro v' w1 hown' hgrow _)
          have hE9 : Ext w w1 := ext_grown Hext.out Hown.out hgrow
          have hown9 : OwnI w1 w.heap.size v' (acc ++ [(c : Int)]) := by
            unfold OwnI
            rw [List.length_append]
            simpa [i64s] using hown'
          have Hown9 := Lib.hid hown9; have HE9 := Lib.hid hE9; clear hown hown' hgrow hE9 hown9
          go_wp2
          go_roundw
          case rel => exact ⟨k + 1, j, acc ++ [(c : Int)], rfl, by go_num, by omega, hj1, hjm, by rw [List.length_append, Hacc.out]; rfl, Hown9.out, by rw [List.append_assoc]; exact HE1'.out, HE2'.out, HE9.out⟩
          case measure => simp [intOf]; omega
    · obtain rfl : k = p.length := by omega
      have hE1 := HE1.out; have hE2 := HE2.out
      rw [List.drop_length] at hE1 hE2
      have h1 : acc = E.1 := by rw [← hE1]; simp [expsR]
      have h2 : m = E.2 := hE2
      have hb : ((m : Int) == 1) = decide (E.2 = 1) := by
        rw [← h2]
        by_cases h : m = 1
        · subst h; rfl
        · rw [decide_eq_false h]; exact beq_eq_false_iff_ne.2 (by omega)
      have H1 := Lib.hid h1; have Hb := Lib.hid hb; clear h1 h2 hb hE1 hE2
      go_wp2
      go_ret2
      exact ⟨_, ret_vb Hb.out, by rw [← H1.out]; exact Hown.out, Hext.out⟩

end Go.Proofs.YtkamjjjimbbdmaaGreatDoor

namespace Go.Proofs.YtkamjjjimbbdmaaGreatDoor
open Go.RowKit Go.Lib

/-- The exponents of a plan. -/
def ivl (n : Nat) (l : List Int) : List Int := (List.range n).map fun i => (nthI l i).tmod 10
theorem ivl_succ (n : Nat) (l : List Int) : ivl (n + 1) l = ivl n l ++ [(nthI l n).tmod 10] := by
  unfold ivl; rw [List.range_succ, List.map_append]; rfl
theorem ivl_length (n : Nat) (l : List Int) : (ivl n l).length = n := by simp [ivl]
theorem nthI_ivl {n : Nat} {l : List Int} {i : Nat} (h : i < n) : nthI (ivl n l) i = (nthI l i).tmod 10 := by
  unfold ivl nthI
  rw [List.getD_eq_getElem?_getD, List.getElem?_map, List.getElem?_range h]
  rfl
theorem tmod_ten (z : Int) : -9 ≤ z.tmod 10 ∧ z.tmod 10 ≤ 9 := by
  rcases Int.le_total 0 z with h | h
  · rw [Int.tmod_eq_emod_of_nonneg h]; omega
  · obtain ⟨n, rfl⟩ : ∃ n : Nat, z = -(n : Int) := ⟨z.natAbs, by omega⟩
    rw [Int.neg_tmod, Int.tmod_eq_emod_of_nonneg (by omega)]; omega

theorem four_new (w : World) (a b c d : Int) (t : TypeId) (k : Nat) (hk : k < 4) : (w.alloc (.cells #[.int .i8 a, .int .i8 b, .int .i8 c, .int .i8 d] t)).cell? ⟨w.heap.size, k, none⟩ = some (.int .i8 (nthI [a, b, c, d] k)) := by
  have h := World.alloc_heap_new w (.cells #[.int .i8 a, .int .i8 b, .int .i8 c, .int .i8 d] t)
  unfold World.cell?; rw [h]
  rcases (show k = 0 ∨ k = 1 ∨ k = 2 ∨ k = 3 by omega) with rfl | rfl | rfl | rfl <;> rfl

set_option maxRecDepth 100000 in
set_option maxHeartbeats 1000000 in
theorem interval_c (vp : Value) (p : List Int) (a b c d : Int) (w : World) (hp : Sl w vp (i64s p)) (hl : p.length ≤ 4) (hr : ∀ z ∈ [a, b, c, d], -128 ≤ z ∧ z ≤ 127) :
    Calls Tryz.prog 20 #[vp, .agg #[.int .i8 a, .int .i8 b, .int .i8 c, .int .i8 d]] w fun e w' => ∃ v, e = .returned v ∧ OwnI w' w.heap.size v (ivl p.length [a, b, c, d]) ∧ Ext w w' := by
  obtain ⟨i0, hi, hz0, hz1, hz2⟩ := info_parts info_int
  obtain ⟨ap, cp, rfl, _, _, hcp⟩ := hp.parts
  rw [i64s_length]
  clear hcp hp
  have h4 := four_new w a b c d 23
  have hE0 : Ext w (w.alloc (.cells #[.int .i8 a, .int .i8 b, .int .i8 c, .int .i8 d] 23)) := (Ext.refl w).alloc _
  have H4 := Lib.hid h4; have Hr := Lib.hid hr; have HE0 := Lib.hid hE0; clear h4 hr hE0
  generalize hW : w.alloc (.cells #[.int .i8 a, .int .i8 b, .int .i8 c, .int .i8 d] 23) = W at *
  go_enter Tryz.func20, Tryz.ntmps20
  go_wp2
  go_loopw [5, 6] (fun v i wr => ∃ k : Nat, i = .int .i64 k ∧ k ≤ p.length ∧ OwnI wr W.heap.size v (ivl k [a, b, c, d]) ∧ Ext W wr) (fun _ i _ => p.length - (intOf i).toNat)
  case atStart => exact ⟨0, rfl, Nat.zero_le _, World.ownsRow_nil _ _ _ 1, Ext.refl _⟩
  case round =>
    obtain ⟨k, rfl, hk, hown, hext⟩ := hrel
    obtain ⟨av, cv, rfl⟩ := own_shape hown
    rw [ivl_length] at *
    have Hown := Lib.hid hown; have Hext := Lib.hid hext; clear hown hext
    by_cases hlt : k < p.length
    · have hcell := Hext.out.cell (H4.out k (by omega))
      have hin : -128 ≤ nthI [a, b, c, d] k ∧ nthI [a, b, c, d] k ≤ 127 := Hr.out _ (nthI_mem (by simp; omega))
      have ht := tmod_ten (nthI [a, b, c, d] k)
      have hs := ivl_succ k [a, b, c, d]
      have Hs := Lib.hid hs; clear hs
      generalize nthI [a, b, c, d] k = z at *
      obtain ⟨hi1, hi2⟩ := hin
      obtain ⟨ht1, ht2⟩ := ht
      have hk4 : (k : Int) < 4 := by omega
      have hk0 : (0 : Int) ≤ (k : Int) := by omega
      have hown := Hown.out
      unfold OwnI at hown
      rw [ivl_length] at hown
      have hm3 : k + 1 ≤ maxLen := by unfold maxLen; omega
      have hm4 : (k + 1) * 8 ≤ 140737488355328 := by omega
      have hsz := Hext.out.size
      have hm5 : W.heap.size ≤ (wr.alloc (.cells #[.int .i64 (z.tmod 10)] 3)).heap.size := by rw [World.size_alloc]; omega
      go_wp2_with (at_builtin; refine wpList_append_own _ rfl _ _ 30 rfl W.heap.size 3 i0 (.int .i64 0) 1 8 Tryz.underlying30 hi hz0 hz1 hz2 rfl (by decide) _ _ _ rfl (hown.alloc _) ⟨wr.heap.size, 0, none⟩ 1 1 [.int .i64 (z.tmod 10)] rfl rfl (cell_one_new _ _ _) (by simp [Value.oneCell']) hm3 hm4 hm5 ?_; intro v' w1 hown' hgrow _)
      have hE9 : Ext W w1 := ext_grown Hext.out hown hgrow
      have hown9 : OwnI w1 W.heap.size v' (ivl (k + 1) [a, b, c, d]) := by
        unfold OwnI
        rw [Hs.out, List.length_append, ivl_length]
        simpa [i64s] using hown'
      have Hown9 := Lib.hid hown9; have HE9 := Lib.hid hE9; clear hown hown' hgrow hE9 hown9
      go_wp2
      go_roundw
      case rel => exact ⟨k + 1, by go_num, by omega, Hown9.out, HE9.out⟩
      case measure => simp [intOf]; omega
    · obtain rfl : k = p.length := by omega
      go_wp2
      go_ret
      exact ⟨_, rfl, own_mono Hown.out HE0.out.size, HE0.out.trans Hext.out⟩

theorem fit_pow {k q j : Nat} (h : nDigits k ≤ 256001) (hq : q < 10000) (hj : j ≤ 1000) : Fit ((k : Int) * ((q ^ j : Nat) : Int)) := by
  rw [← Int.natCast_mul]; show nDigits (k * q ^ j) ≤ 400000
  have h1 := nDigits_mul k (q ^ j)
  have h2 := nDigits_pow4 hq hj
  omega
theorem fit_small {q : Nat} (hq : q < 10000) : Fit (q : Int) := by
  show nDigits q ≤ 400000
  have := nDigits_lt (n := q) (k := 4) (by omega) (by omega)
  omega

set_option maxRecDepth 100000 in
set_option maxHeartbeats 2000000 in
theorem value_c (vp vx : Value) (p x : List Int) (w : World) (he : Env w) (hp : Sl w vp (i64s p)) (hx : Sl w vx (i64s x)) (hn : Nice p x) (hlen : x.length = p.length) :
    Calls Tryz.prog 36 #[vp, vx] w fun e w' => e = .returned (.tuple #[.string (I (numP p x : Nat)), .string (I (denP p x : Nat))]) ∧ Ext w w' := by
  obtain ⟨ap, cp, rfl, _, _, hcp⟩ := hp.parts
  obtain ⟨ax, cx, rfl, _, _, hcx⟩ := hx.parts
  rw [i64s_length, i64s_length]
  have Hcp := Lib.hid hcp; clear hcp hp
  have Hcx := Lib.hid hcx; clear hcx hx
  have hl1 := hn.1
  have hl2 := hn.2.1
  have hl3 : p.length ≤ x.length := by omega
  have Hn := Lib.hid hn; clear hn
  have He := Lib.hid he; clear he
  clear hlen
  go_enter Tryz.func36, Tryz.ntmps36
  go_wp2
  go_loopw [4, 5, 6] (fun n d i wr => SideRelI p x w n d i wr) (fun _ _ i _ => x.length - (intOf i).toNat)
  case atStart => exact ⟨0, rfl, Nat.zero_le _, by rw [sideN, I_nat, D_one], by rw [sideD, I_nat, D_one], Ext.refl _⟩
  case round =>
    obtain ⟨k, rfl, hk, rfl, rfl, hext⟩ := hrel
    have Hext := Lib.hid hext; clear hext
    by_cases hlt : k < x.length
    · obtain ⟨bp, op, rfl, hcellp0⟩ := Hcp.out k _ (i64s_at (by omega))
      obtain ⟨bx, ox, rfl, hcellx0⟩ := Hcx.out k _ (i64s_at hlt)
      have hltp : k < p.length := by omega
      have hb := Hn.out.2.2 k hlt
      have hdN := sideN_digits Hn.out k (by omega)
      have hdD := sideD_digits Hn.out k (by omega)
      have hdN2 : nDigits (sideN p x k) ≤ 256001 := by omega
      have hdD2 : nDigits (sideD p x k) ≤ 256001 := by omega
      have HdN := Lib.hid hdN2; clear hdN hdN2
      have HdD := Lib.hid hdD2; clear hdD hdD2
      have hsN : sideN p x (k + 1) = if 0 < nthI x k then sideN p x k * (nthI p k).toNat ^ (nthI x k).natAbs else sideN p x k := rfl
      have hsD : sideD p x (k + 1) = if 0 < nthI x k then sideD p x k else sideD p x k * (nthI p k).toNat ^ (nthI x k).natAbs := rfl
      obtain ⟨q, hq⟩ : ∃ q : Nat, nthI p k = q := ⟨(nthI p k).toNat, by omega⟩
      have hq4 : q < 10000 := by omega
      rw [hq] at hcellp0 hsN hsD
      rw [Int.toNat_natCast] at hsN hsD
      have hcase : (∃ e : Nat, 0 < e ∧ e ≤ 1000 ∧ nthI x k = e) ∨ (∃ e : Nat, e ≤ 1000 ∧ nthI x k = -(e : Int)) := by
        by_cases g : 0 < nthI x k
        · exact .inl ⟨(nthI x k).toNat, by omega, by omega, by omega⟩
        · exact .inr ⟨(-(nthI x k)).toNat, by omega, by omega⟩
      obtain ⟨wo, hwo⟩ : ∃ wo : World, wo = wr := ⟨_, rfl⟩
      subst hwo
      rcases hcase with ⟨e, he0, he1, hz⟩ | ⟨e, he1, hz⟩
      · rw [hz] at hcellx0 hsN hsD
        rw [Int.natAbs_natCast, if_pos (by omega)] at hsN hsD
        have hcellxw := Hext.out.cell hcellx0
        clear hb hq hz
        have HsN := Lib.hid hsN; clear hsN
        have HsD := Lib.hid hsD; clear hsD
        generalize sideN p x k = N at *
        generalize sideD p x k = M at *
        go_wp2
        go_loopw [4, 7] (fun n j wr => ∃ c : Nat, j = .int .i64 c ∧ c ≤ e ∧ n = .string (I ((N * q ^ c : Nat) : Int)) ∧ Ext w wr) (fun _ j _ => e - (intOf j).toNat)
        case atStart => exact ⟨0, rfl, Nat.zero_le _, by rw [Nat.pow_zero, Nat.mul_one], Hext.out⟩
        case round =>
          obtain ⟨c, rfl, hc, rfl, hext1⟩ := hrel
          have hcellp := hext1.cell hcellp0
          have hcellx := hext1.cell hcellx0
          have Hext1 := Lib.hid hext1; clear hext1
          by_cases hce : c < e
          · have hfit : Fit ((N * q ^ c : Nat) : Int) := by rw [Int.natCast_mul]; exact fit_pow HdN.out hq4 (by omega)
            have Hfit := Lib.hid hfit; clear hfit
            have hup : ((N * q ^ c : Nat) : Int) * (q : Int) = ((N * q ^ (c + 1) : Nat) : Int) := by rw [← Int.natCast_mul, Nat.pow_succ, Nat.mul_assoc]
            have Hup := Lib.hid hup; clear hup
            generalize N * q ^ c = A at *
            go_wp2_with fail
            refine (wholeOf_c q (by omega) (by omega) wr (He.out.ext Hext1.out)).mono ?_
            rintro e1 w1 ⟨rfl, hx1⟩
            have Hx1 := Lib.hid hx1; clear hx1
            go_wp2_with fail
            refine (mul_c A q w1 ((He.out.ext Hext1.out).ext Hx1.out) Hfit.out (fit_small hq4)).mono ?_
            rintro e1 w2 ⟨rfl, hx2⟩
            have Hx2 := Lib.hid hx2; clear hx2
            go_wp2
            go_roundw
            case rel => exact ⟨c + 1, by go_num, by omega, by rw [Hup.out], (Hext1.out.trans Hx1.out).trans Hx2.out⟩
            case measure => simp [intOf]; omega
          · obtain rfl : c = e := by omega
            rw [← HsN.out]
            go_wp2
            go_loopw [5, 8] (fun d j wr => j = .int .i64 0 ∧ d = .string (I (M : Nat)) ∧ Ext w wr) (fun _ j _ => 0)
            case atStart => exact ⟨rfl, rfl, Hext1.out⟩
            case round =>
              obtain ⟨rfl, rfl, hext2⟩ := hrel
              have hcellx2 := hext2.cell hcellx0
              have Hext2 := Lib.hid hext2; clear hext2
              go_wp2
              go_roundw
              case rel => exact ⟨k + 1, by go_num, by omega, rfl, by rw [HsD.out], Hext2.out⟩
              case measure => simp [intOf]; omega
      · rw [hz] at hcellx0 hsN hsD
        rw [Int.natAbs_neg, Int.natAbs_natCast, if_neg (by omega)] at hsN hsD
        have hcellxw := Hext.out.cell hcellx0
        clear hb hq hz
        have HsN := Lib.hid hsN; clear hsN
        have HsD := Lib.hid hsD; clear hsD
        generalize sideN p x k = N at *
        generalize sideD p x k = M at *
        go_wp2
        go_loopw [4, 7] (fun n j wr => j = .int .i64 0 ∧ n = .string (I (N : Nat)) ∧ Ext w wr) (fun _ j _ => 0)
        case atStart => exact ⟨rfl, rfl, Hext.out⟩
        case round =>
          obtain ⟨rfl, rfl, hext1⟩ := hrel
          have hcellx1 := hext1.cell hcellx0
          have Hext1 := Lib.hid hext1; clear hext1
          go_wp2
          go_loopw [5, 8] (fun d j wr => ∃ c : Nat, j = .int .i64 (-(c : Int)) ∧ c ≤ e ∧ d = .string (I ((M * q ^ c : Nat) : Int)) ∧ Ext w wr) (fun _ j _ => e - (-(intOf j)).toNat)
          case atStart => exact ⟨0, rfl, Nat.zero_le _, by rw [Nat.pow_zero, Nat.mul_one], Hext1.out⟩
          case round =>
            obtain ⟨c, rfl, hc, rfl, hext2⟩ := hrel
            have hcellp := hext2.cell hcellp0
            have hcellx := hext2.cell hcellx0
            have Hext2 := Lib.hid hext2; clear hext2
            by_cases hce : c < e
            · have hfit : Fit ((M * q ^ c : Nat) : Int) := by rw [Int.natCast_mul]; exact fit_pow HdD.out hq4 (by omega)
              have Hfit := Lib.hid hfit; clear hfit
              have hup : ((M * q ^ c : Nat) : Int) * (q : Int) = ((M * q ^ (c + 1) : Nat) : Int) := by rw [← Int.natCast_mul, Nat.pow_succ, Nat.mul_assoc]
              have Hup := Lib.hid hup; clear hup
              generalize M * q ^ c = A at *
              go_wp2_with fail
              refine (wholeOf_c q (by omega) (by omega) wr (He.out.ext Hext2.out)).mono ?_
              rintro e1 w1 ⟨rfl, hx1⟩
              have Hx1 := Lib.hid hx1; clear hx1
              go_wp2_with fail
              refine (mul_c A q w1 ((He.out.ext Hext2.out).ext Hx1.out) Hfit.out (fit_small hq4)).mono ?_
              rintro e1 w2 ⟨rfl, hx2⟩
              have Hx2 := Lib.hid hx2; clear hx2
              go_wp2
              go_roundw
              case rel => exact ⟨c + 1, by go_num, by omega, by rw [Hup.out], (Hext2.out.trans Hx1.out).trans Hx2.out⟩
              case measure => simp [intOf]; omega
            · obtain rfl : c = e := by omega
              rw [← HsD.out]
              go_wp2
              go_roundw
              case rel => exact ⟨k + 1, by go_num, by omega, by rw [HsN.out], rfl, Hext2.out⟩
              case measure => simp [intOf]; omega
    · obtain rfl : k = x.length := by omega
      have hnn : ¬ x.length < p.length := by omega
      go_wp2
      go_ret2
      exact ⟨rfl, Hext.out⟩

end Go.Proofs.YtkamjjjimbbdmaaGreatDoor

namespace Go.Proofs.YtkamjjjimbbdmaaGreatDoor
open Go.RowKit Go.Lib

/-- The ten lists of primes. -/
def tenL : List (List Nat) := [[2, 3, 5], [2, 3, 5, 7], [2, 3], [2, 3, 7], [2, 5, 7], [3, 5, 7], [2, 3, 5, 11], [2], [2, 3, 7, 13], [3, 5, 7, 13]]
def tenP (n : Nat) : List Nat := tenL.getD (n % 10) []

theorem heap_allocs : ∀ (os : List Obj) (w : World) (i : Nat), i < os.length → (os.foldl World.alloc w).heap[w.heap.size + i]? = os[i]?
  | [], _, _, h => by simp at h
  | o :: r, w, 0, _ => by
    have keep : ∀ (l : List Obj) (v : World) (k : Nat), k < v.heap.size → (l.foldl World.alloc v).heap[k]? = v.heap[k]? := by
      intro l
      induction l with
      | nil => intro v k _; rfl
      | cons a l ih =>
        intro v k hk
        rw [List.foldl_cons, ih (v.alloc a) k (by rw [World.size_alloc]; omega)]
        exact Below.heap_alloc v a k hk
    rw [List.foldl_cons, keep r (w.alloc o) _ (by rw [World.size_alloc]; omega)]
    exact World.alloc_heap_new w o
  | o :: r, w, i + 1, h => by
    rw [List.foldl_cons]
    have := heap_allocs r (w.alloc o) i (by simpa using h)
    rw [World.size_alloc] at this
    rw [show w.heap.size + (i + 1) = w.heap.size + 1 + i by omega, this]
    rfl
theorem own_block {w : World} {B b : Nat} {xs : List Value} {t : TypeId} (h : w.heap[b]? = some (.cells xs.toArray t (0, 0))) (hb : B ≤ b) (hm : xs.length ≤ maxLen) : w.ownsRow B t 1 (.slice (some ⟨b, 0, none⟩) xs.length xs.length) xs.length xs :=
  ⟨by simp, .inr ⟨b, xs.length, xs.toArray, rfl, hb, h, Nat.le_refl _, hm, by simp, by simp⟩⟩
theorem sl_block {w : World} {b : Nat} {xs : List Value} {t : TypeId} (h : w.heap[b]? = some (.cells xs.toArray t (0, 0))) (hm : xs.length ≤ maxLen) : Sl w (.slice (some ⟨b, 0, none⟩) xs.length xs.length) xs := by
  refine .inr ⟨b, 0, xs.length, rfl, Nat.le_refl _, hm, fun i u hu => ?_⟩
  unfold World.cell?
  rw [h]
  simpa using hu
theorem ext_allocs (w : World) : ∀ os : List Obj, Ext w (os.foldl World.alloc w) := by
  have : ∀ (os : List Obj) (v : World), Ext w v → Ext w (os.foldl World.alloc v) := by
    intro os
    induction os with
    | nil => intro v h; exact h
    | cons o r ih => intro v h; exact ih _ (h.alloc o)
  exact fun os => this os w (Ext.refl w)

def tenO : List Obj := tenL.map fun l => Obj.cells (i64s (ints l)).toArray 3 (0, 0)
theorem ten_fin (w : World) (o : Obj) (r : Nat) (hr : r < 10) : OwnI ((tenO ++ [o]).foldl World.alloc w) w.heap.size (.slice (some ⟨w.heap.size + r, 0, none⟩) (tenL.getD r []).length (tenL.getD r []).length) (ints (tenL.getD r [])) ∧ Ext w ((tenO ++ [o]).foldl World.alloc w) := by
  refine ⟨?_, ext_allocs w _⟩
  have h := heap_allocs (tenO ++ [o]) w r (by simp [tenO, tenL]; omega)
  have hlen : (tenL.getD r []).length = (i64s (ints (tenL.getD r []))).length := by rw [i64s_length, ints_length]
  have hlen2 : (ints (tenL.getD r [])).length = (i64s (ints (tenL.getD r []))).length := by rw [i64s_length]
  unfold OwnI
  rw [hlen, hlen2]
  refine own_block (t := 3) ?_ (by omega) ?_
  · rw [h, List.getElem?_append_left (by simp [tenO, tenL]; omega)]
    unfold tenO
    have hl : r < tenL.length := by simp [tenL]; omega
    rw [List.getElem?_map, List.getElem?_eq_getElem hl, List.getD_eq_getElem?_getD, List.getElem?_eq_getElem hl]
    rfl
  · rw [← hlen]
    rcases (show r = 0 ∨ r = 1 ∨ r = 2 ∨ r = 3 ∨ r = 4 ∨ r = 5 ∨ r = 6 ∨ r = 7 ∨ r = 8 ∨ r = 9 by omega) with rfl | rfl | rfl | rfl | rfl | rfl | rfl | rfl | rfl | rfl <;> decide

set_option maxRecDepth 100000 in
set_option maxHeartbeats 4000000 in
theorem primesAt_c (n r : Nat) (w : World) (hn : n < 256) (hr : n % 10 = r) :
    Calls Tryz.prog 49 #[.int .u8 n] w fun e w' => ∃ v, e = .returned v ∧ OwnI w' w.heap.size v (ints (tenL.getD r [])) ∧ Ext w w' := by
  have hm : (n : Int) % 10 = (r : Int) := by omega
  have hr10 : r < 10 := by omega
  clear hr
  rcases (show r = 0 ∨ r = 1 ∨ r = 2 ∨ r = 3 ∨ r = 4 ∨ r = 5 ∨ r = 6 ∨ r = 7 ∨ r = 8 ∨ r = 9 by omega) with rfl | rfl | rfl | rfl | rfl | rfl | rfl | rfl | rfl | rfl
  · go_enter Tryz.func49, Tryz.ntmps49
    go_wp2
    go_ret
    exact ⟨_, rfl, ten_fin w _ 0 (by omega)⟩
  · go_enter Tryz.func49, Tryz.ntmps49
    go_wp2
    go_ret
    exact ⟨_, rfl, ten_fin w _ 1 (by omega)⟩
  · go_enter Tryz.func49, Tryz.ntmps49
    go_wp2
    go_ret
    exact ⟨_, rfl, ten_fin w _ 2 (by omega)⟩
  · go_enter Tryz.func49, Tryz.ntmps49
    go_wp2
    go_ret
    exact ⟨_, rfl, ten_fin w _ 3 (by omega)⟩
  · go_enter Tryz.func49, Tryz.ntmps49
    go_wp2
    go_ret
    exact ⟨_, rfl, ten_fin w _ 4 (by omega)⟩
  · go_enter Tryz.func49, Tryz.ntmps49
    go_wp2
    go_ret
    exact ⟨_, rfl, ten_fin w _ 5 (by omega)⟩
  · go_enter Tryz.func49, Tryz.ntmps49
    go_wp2
    go_ret
    exact ⟨_, rfl, ten_fin w _ 6 (by omega)⟩
  · go_enter Tryz.func49, Tryz.ntmps49
    go_wp2
    go_ret
    exact ⟨_, rfl, ten_fin w _ 7 (by omega)⟩
  · go_enter Tryz.func49, Tryz.ntmps49
    go_wp2
    go_ret
    exact ⟨_, rfl, ten_fin w _ 8 (by omega)⟩
  · go_enter Tryz.func49, Tryz.ntmps49
    go_wp2
    go_ret
    exact ⟨_, rfl, ten_fin w _ 9 (by omega)⟩
theorem primes12_c (n : Nat) (w : World) (hn : n < 256) :
    Calls Tryz.prog 49 #[.int .u8 n] w fun e w' => ∃ v, e = .returned v ∧ OwnI w' w.heap.size v (ints (tenP n)) ∧ Ext w w' := primesAt_c n _ w hn rfl

end Go.Proofs.YtkamjjjimbbdmaaGreatDoor

namespace Go.Proofs.YtkamjjjimbbdmaaGreatDoor
open Go.RowKit Go.Lib

/-- The exponents of a plan over its primes. -/
def planX (n : Nat) (l : List Int) : List Int := ivl (tenP n).length l
theorem ten_len (n : Nat) : (tenP n).length ≤ 4 ∧ 0 < (tenP n).length := by
  unfold tenP
  have h : n % 10 < 10 := Nat.mod_lt _ (by omega)
  generalize n % 10 = r at h
  rcases (show r = 0 ∨ r = 1 ∨ r = 2 ∨ r = 3 ∨ r = 4 ∨ r = 5 ∨ r = 6 ∨ r = 7 ∨ r = 8 ∨ r = 9 by omega) with rfl | rfl | rfl | rfl | rfl | rfl | rfl | rfl | rfl | rfl <;> decide

set_option maxRecDepth 100000 in
set_option maxHeartbeats 2000000 in
theorem make12_c (n : Nat) (a b c d : Int) (w : World) (hn : n < 256) (hr : ∀ z ∈ [a, b, c, d], -128 ≤ z ∧ z ≤ 127) :
    Calls Tryz.prog 19 #[.agg #[.int .u8 n, .int .i8 a, .int .i8 b, .int .i8 c, .int .i8 d]] w fun e w' => ∃ vp vx, e = .returned (.tuple #[vp, vx]) ∧ OwnI w' w.heap.size vp (ints (tenP n)) ∧ OwnI w' w.heap.size vx (planX n [a, b, c, d]) ∧ Ext w w' := by
  have hpr := fun W => primes12_c n W hn
  have hiv := fun vp W (h : Sl W vp (i64s (ints (tenP n)))) => interval_c vp (ints (tenP n)) a b c d W h (by rw [ints_length]; exact (ten_len n).1) hr
  have Hpr := Lib.hid hpr; have Hiv := Lib.hid hiv; clear hpr hiv hr
  have hE0 : Ext w (w.alloc (.cells #[.int .u8 n, .int .i8 a, .int .i8 b, .int .i8 c, .int .i8 d] 25)) := (Ext.refl w).alloc _
  have h0 := World.alloc_heap_new w (.cells #[.int .u8 n, .int .i8 a, .int .i8 b, .int .i8 c, .int .i8 d] 25)
  generalize hW : w.alloc (.cells #[.int .u8 n, .int .i8 a, .int .i8 b, .int .i8 c, .int .i8 d] 25) = W at *
  have box : ∀ V : World, V.heap[w.heap.size]? = some (.cells #[.int .u8 n, .int .i8 a, .int .i8 b, .int .i8 c, .int .i8 d] 25 (0, 0)) → V.cell? ⟨w.heap.size, 0, none⟩ = some (.int .u8 n) ∧ V.cell? ⟨w.heap.size, 1, none⟩ = some (.int .i8 a) ∧ V.cell? ⟨w.heap.size, 2, none⟩ = some (.int .i8 b) ∧ V.cell? ⟨w.heap.size, 3, none⟩ = some (.int .i8 c) ∧ V.cell? ⟨w.heap.size, 4, none⟩ = some (.int .i8 d) := by
    intro V h
    refine ⟨?_, ?_, ?_, ?_, ?_⟩ <;> (unfold World.cell?; rw [h]; rfl)
  have hb0 := (box W h0).1
  have Hbox := Lib.hid box; have H0 := Lib.hid h0; have HE0 := Lib.hid hE0; clear box h0 hE0
  go_enter Tryz.func19, Tryz.ntmps19
  go_wp2_with fail
  refine (Hpr.out W).mono ?_
  rintro e1 W1 ⟨vp, rfl, hvp, hx1⟩
  obtain ⟨_, q1, q2, q3, q4⟩ := Hbox.out W1 (hx1.heap H0.out)
  have hi1 := Hiv.out vp W1 hvp.sl
  have Hvp := Lib.hid hvp; have Hx1 := Lib.hid hx1; have Hi1 := Lib.hid hi1; clear hvp hx1 hi1 hb0
  go_wp2_with fail
  refine Hi1.out.mono ?_
  rintro e1 W2 ⟨vx, rfl, hvx, hx2⟩
  have Hvx := Lib.hid hvx; have Hx2 := Lib.hid hx2; clear hvx hx2
  go_wp2
  go_ret2
  have hvx := Hvx.out
  rw [ints_length] at hvx
  have hvx : OwnI W2 W1.heap.size vx (planX n [a, b, c, d]) := hvx
  exact ⟨_, _, rfl, own_mono (Hx2.out.ownI Hvp.out) HE0.out.size, own_mono hvx (HE0.out.trans Hx1.out).size, (HE0.out.trans Hx1.out).trans Hx2.out⟩

theorem own_off {w : World} {B E s n : Nat} {x : Value} {xs : List Value} (h : w.ownsRow B E s x n xs) {p : Addr} (hp : p.block < B) (u : Value) : (w.setCell p u).ownsRow B E s x n xs := by
  refine ⟨h.1, ?_⟩
  rcases h.2 with hn | ⟨g, cap, cur, hv, hb, hg, r⟩
  · exact .inl hn
  · exact .inr ⟨g, cap, cur, hv, hb, (Below.heap_setCell w p u g (by omega)).trans hg, r⟩
theorem own_set3 {w : World} {B E s n b : Nat} {x u v z : Value} {xs : List Value} (h : w.ownsRow B E s x n xs) (hb : b < B) : (((w.setCell ⟨b, 0, none⟩ u).setCell ⟨b, 1, none⟩ v).setCell ⟨b, 2, none⟩ z).ownsRow B E s x n xs :=
  own_off (own_off (own_off h hb u) hb v) hb z
theorem plan_nice (n : Nat) (l : List Int) : Nice (ints (tenP n)) (planX n l) := by
  have h4 := ten_len n
  have hq : ∀ i, i < (tenP n).length → 2 ≤ nth (tenP n) i ∧ nth (tenP n) i ≤ 13 := by
    clear h4
    unfold tenP
    have h : n % 10 < 10 := Nat.mod_lt _ (by omega)
    generalize n % 10 = r at h
    rcases (show r = 0 ∨ r = 1 ∨ r = 2 ∨ r = 3 ∨ r = 4 ∨ r = 5 ∨ r = 6 ∨ r = 7 ∨ r = 8 ∨ r = 9 by omega) with rfl | rfl | rfl | rfl | rfl | rfl | rfl | rfl | rfl | rfl <;> decide
  refine ⟨?_, ?_, fun i hi => ?_⟩
  · unfold planX; rw [ivl_length, ints_length]; exact Nat.le_refl _
  · unfold planX; rw [ivl_length]; omega
  · unfold planX at hi ⊢
    rw [ivl_length] at hi
    have := hq i hi
    have := tmod_ten (nthI l i)
    rw [nthI_ints, nthI_ivl hi]
    omega

set_option maxRecDepth 100000 in
set_option maxHeartbeats 2000000 in
theorem make16_c (n h : Nat) (a b c d : Int) (w : World) (he : Env w) (hn : n < 256) (hh : h < 256) (hr : ∀ z ∈ [a, b, c, d], -128 ≤ z ∧ z ≤ 127) :
    Calls Tryz.prog 12 #[.agg #[.int .u8 n, .int .i8 a, .int .i8 b, .int .i8 c, .int .i8 d, .int .u8 h]] w fun e w' => ∃ vp vx, e = .returned (.tuple #[.agg #[vp, .int .i64 (1 + h % 130 : Nat), vx], .bool (decide (denP (ints (tenP n)) (planX n [a, b, c, d]) < numP (ints (tenP n)) (planX n [a, b, c, d])))]) ∧ OwnI w' w.heap.size vp (ints (tenP n)) ∧ OwnI w' w.heap.size vx (planX n [a, b, c, d]) ∧ Ext w w' := by
  have hmk := fun W => make12_c n a b c d W hn hr
  have hva := fun vp vx W (hE : Ext w W) (hp : Sl W vp (i64s (ints (tenP n)))) (hx : Sl W vx (i64s (planX n [a, b, c, d]))) => value_c vp vx (ints (tenP n)) (planX n [a, b, c, d]) W (he.ext hE) hp hx (plan_nice n _) (by unfold planX; rw [ivl_length, ints_length])
  have hnd := numP_digits (plan_nice n [a, b, c, d])
  have hdd := denP_digits (plan_nice n [a, b, c, d])
  generalize hnum : numP (ints (tenP n)) (planX n [a, b, c, d]) = num at *
  generalize hden : denP (ints (tenP n)) (planX n [a, b, c, d]) = den at *
  have hfn : Fit (num : Int) := by show nDigits num ≤ 400000; omega
  have hfd : Fit (den : Int) := by show nDigits den ≤ 400000; omega
  have hcm := fun W => cmp_c (num : Int) (den : Int) W hfn hfd
  have Hmk := Lib.hid hmk; have Hva := Lib.hid hva; have Hcm := Lib.hid hcm; clear hmk hva hcm hr hnd hdd hfn hfd hnum hden he
  have hm2 : h % 130 < 130 := Nat.mod_lt _ (by omega)
  have hw1 : IntKind.i64.wrap (h : Int) = (h : Int) := IntWalk.i64_in _ (by omega)
  have hw2 : (h : Int).tmod 130 = ((h % 130 : Nat) : Int) := by rw [Int.tmod_eq_emod_of_nonneg (by omega)]; simp
  have hw3 : IntKind.i64.wrap (1 + ((h % 130 : Nat) : Int)) = 1 + ((h % 130 : Nat) : Int) := IntWalk.i64_in _ (by omega)
  generalize h % 130 = r at *
  have Hw1 := Lib.hid hw1; have Hw2 := Lib.hid hw2; have Hw3 := Lib.hid hw3; clear hw1 hw2 hw3
  have hE0 : Ext w (w.alloc (.cells #[.int .u8 n, .int .i8 a, .int .i8 b, .int .i8 c, .int .i8 d, .int .u8 h] 27)) := (Ext.refl w).alloc _
  have h0 := World.alloc_heap_new w (.cells #[.int .u8 n, .int .i8 a, .int .i8 b, .int .i8 c, .int .i8 d, .int .u8 h] 27)
  go_enter Tryz.func12, Tryz.ntmps12
  go_wp2_with fail
  have hE2 : Ext w ((w.alloc (.cells #[.int .u8 n, .int .i8 a, .int .i8 b, .int .i8 c, .int .i8 d, .int .u8 h] 27)).alloc (.cells #[.slice none 0 0, .int .i64 0, .slice none 0 0] 32)) := hE0.alloc _
  have hb5 : ((w.alloc (.cells #[.int .u8 n, .int .i8 a, .int .i8 b, .int .i8 c, .int .i8 d, .int .u8 h] 27)).alloc (.cells #[.slice none 0 0, .int .i64 0, .slice none 0 0] 32)).cell? ⟨w.heap.size, 5, none⟩ = some (.int .u8 h) := by
    refine ((Ext.refl _).alloc _).cell ?_
    unfold World.cell?; rw [h0]; rfl
  have hz := World.alloc_heap_new (w.alloc (.cells #[.int .u8 n, .int .i8 a, .int .i8 b, .int .i8 c, .int .i8 d, .int .u8 h] 27)) (.cells #[.slice none 0 0, .int .i64 0, .slice none 0 0] 32)
  rw [World.size_alloc] at hz
  generalize (w.alloc (.cells #[.int .u8 n, .int .i8 a, .int .i8 b, .int .i8 c, .int .i8 d, .int .u8 h] 27)).alloc (.cells #[.slice none 0 0, .int .i64 0, .slice none 0 0] 32) = W2 at *
  have HE2 := Lib.hid hE2; have Hz := Lib.hid hz; have Hb5 := Lib.hid hb5; clear hE2 hz hb5 h0 hE0
  refine (Hmk.out W2).mono ?_
  rintro e1 W3 ⟨vp, vx, rfl, hvp, hvx, hx3⟩
  have Hvp := Lib.hid hvp; have Hvx := Lib.hid hvx; have Hx3 := Lib.hid hx3; clear hvp hvx hx3
  go_wp2_with fail
  refine (Hva.out vp vx W3 (HE2.out.trans Hx3.out) Hvp.out.sl Hvx.out.sl).mono ?_
  rintro e1 W4 ⟨rfl, hx4⟩
  have hx24 := Hx3.out.trans hx4
  have hb5 := hx24.cell Hb5.out
  have hz4 := hx24.heap Hz.out
  have hs4 := hx24.size
  have hzl : w.heap.size + 1 < W2.heap.size := (Array.getElem?_eq_some_iff.1 Hz.out).1
  have hc0 : W4.cell? ⟨w.heap.size + 1, 0, none⟩ = some (.slice none 0 0) := by unfold World.cell?; rw [hz4]; rfl
  have hc1 : W4.cell? ⟨w.heap.size + 1, 1, none⟩ = some (.int .i64 0) := by unfold World.cell?; rw [hz4]; rfl
  have hc2 : W4.cell? ⟨w.heap.size + 1, 2, none⟩ = some (.slice none 0 0) := by unfold World.cell?; rw [hz4]; rfl
  have hf0 : W4.frozen? ⟨w.heap.size + 1, 0, none⟩ = false := by unfold World.frozen?; rw [hz4]; rfl
  have hf1 : W4.frozen? ⟨w.heap.size + 1, 1, none⟩ = false := by unfold World.frozen?; rw [hz4]; rfl
  have hf2 : W4.frozen? ⟨w.heap.size + 1, 2, none⟩ = false := by unfold World.frozen?; rw [hz4]; rfl
  obtain ⟨ax, cx, rfl⟩ := own_shape Hvx.out
  obtain ⟨ap, cp, rfl⟩ := own_shape Hvp.out
  have Hx24 := Lib.hid hx24; have Hx4 := Lib.hid hx4; have Hz4 := Lib.hid hz4; clear hx24 hx4 hz4
  have hw1 := Hw1.out; have hw2 := Hw2.out; have hw3 := Hw3.out
  go_wp2_with fail
  go_region_held3 (fun w' => w'.cell? ⟨w.heap.size, 5, none⟩ = some (.int .u8 h))
    (first | exact hxa.cell (by assumption) | go_keep)
    (first | (go_at_call 37; refine (Hcm.out _).mono ?_; rintro e9 V4 ⟨rfl, hxa⟩; have hxb := (Ext.refl W4).drew.trans hxa; have hd0 := hxb.cell hc0; have hd1 := hxb.cell hc1; have hd2 := hxb.cell hc2; have hg0 := (hxb.frozen (World.block_lt_of_cell? _ _ hc0)).trans hf0; have hg1 := (hxb.frozen (World.block_lt_of_cell? _ _ hc1)).trans hf1; have hg2 := (hxb.frozen (World.block_lt_of_cell? _ _ hc2)).trans hf2))
  have hE9 : Ext w V4 := (HE2.out.trans Hx24.out).trans hxb
  have ho1 := own_set3 (u := .slice ap (ints (tenP n)).length cp) (v := .int .i64 (1 + (r : Int))) (z := .slice ax (planX n [a, b, c, d]).length cx) (hxb.own (Hx4.out.own Hvp.out)) hzl
  have ho2 := own_set3 (u := .slice ap (ints (tenP n)).length cp) (v := .int .i64 (1 + (r : Int))) (z := .slice ax (planX n [a, b, c, d]).length cx) (hxb.own (Hx4.out.own Hvx.out)) hzl
  have hE10 := ((hE9.setCell (p := ⟨w.heap.size + 1, 0, none⟩) (by simp) (.slice ap (ints (tenP n)).length cp)).setCell (p := ⟨w.heap.size + 1, 1, none⟩) (by simp) (.int .i64 (1 + (r : Int)))).setCell (p := ⟨w.heap.size + 1, 2, none⟩) (by simp) (.slice ax (planX n [a, b, c, d]).length cx)
  have hcv : decide (0 < cmpI (num : Int) (den : Int)) = decide (den < num) := by
    unfold cmpI
    by_cases h1 : den < num
    · rw [if_neg (by omega), if_neg (by omega), decide_eq_true h1]; rfl
    · rw [decide_eq_false h1]; split
      · rfl
      · rw [if_pos (by omega)]; rfl
  have HE10 := Lib.hid hE10; have Ho1 := Lib.hid ho1; have Ho2 := Lib.hid ho2; have Hcv := Lib.hid hcv; clear hE10 ho1 ho2 hE9 hxa hxb hcv
  clear hw1 hw2 hw3
  go_wp2
  refine bodyPost_ret (v := .tuple #[.agg #[.slice ap (ints (tenP n)).length cp, .int .i64 (1 + (r : Int)), .slice ax (planX n [a, b, c, d]).length cx], .bool (decide (0 < cmpI (num : Int) (den : Int)))]) (by simp [results, Tryz.results12, go_sem, hd0, hd1, hd2]) rfl ?_
  exact ⟨_, _, by rw [Hcv.out, Int.natCast_add]; rfl, own_mono Ho1.out HE2.out.size, own_mono Ho2.out HE2.out.size, HE10.out⟩

end Go.Proofs.YtkamjjjimbbdmaaGreatDoor
