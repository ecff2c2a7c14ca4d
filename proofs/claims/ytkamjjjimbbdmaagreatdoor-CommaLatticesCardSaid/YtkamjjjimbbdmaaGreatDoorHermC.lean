/- Walk: hermite's reduce. Walk: hermite.Contains at a right form; comma.In$1. -/
import Derived.Test.YtkamjjjimbbdmaaGreatDoorHermB
import Derived.Test.YtkamjjjimbbdmaaGreatDoorHermA
namespace Go.Proofs.YtkamjjjimbbdmaaGreatDoor
open Go.RowKit Go.Lib Go.Shelf

def redRow (l r : List Int) : List Int := redStep (fdv (nthI l (piv r).toNat) (nthI r (piv r).toNat)) l r
theorem mat_one {w : World} {vx : Value} {x : List Int} (hx : Sl w vx (i64s x)) : Mat (w.alloc (.cells #[vx] 30)) (.slice (some ⟨w.heap.size, 0, none⟩) 1 1) [x] := by
  refine ⟨[vx], rfl, .inr ⟨w.heap.size, 0, 1, rfl, Nat.le_refl _, by unfold maxLen; omega, ?_⟩, ?_⟩
  · intro i u hu
    cases i with
    | zero => simp at hu; subst hu; rw [World.cell?_alloc_new]; rfl
    | succ i => simp at hu
  · intro i u hu
    cases i with
    | zero => simp at hu; subst hu; exact ((Ext.refl w).alloc _).sl hx
    | succ i => simp at hu

theorem redRow_length {l r : List Int} {n : Nat} (hl : l.length = n) (hr : r.length = n) : (redRow l r).length = n := by
  unfold redRow redStep; rw [List.length_zipWith, hl, hr]; omega
theorem redFold_length {n : Nat} : ∀ (m : List (List Int)) (x : List Int), x.length = n → (∀ r ∈ m, r.length = n) → (m.foldl redRow x).length = n
  | [], _, h, _ => h
  | r :: m, x, h, hm => redFold_length m (redRow x r) (redRow_length h (hm r (List.mem_cons_self))) (fun y hy => hm y (List.mem_cons_of_mem _ hy))

theorem nthI_bound {l : List Int} {M : Nat} (h : ∀ z ∈ l, z.natAbs < M) (hM : 0 < M) (j : Nat) : (nthI l j).natAbs < M := by
  unfold nthI
  rw [List.getD_eq_getElem?_getD]
  by_cases hj : j < l.length
  · rw [List.getElem?_eq_getElem hj]; exact h _ (List.getElem_mem hj)
  · rw [List.getElem?_eq_none (by omega)]; exact hM
theorem redRow_bound {l r : List Int} {i : Nat} (hl : ∀ z ∈ l, z.natAbs < 10 ^ (10 * (i + 1))) (hr : ∀ z ∈ r, -1000000000 ≤ z ∧ z ≤ 1000000000) (hp : ∃ k : Nat, piv r = k ∧ k < r.length ∧ r.getD k 0 ≠ 0) : ∀ z ∈ redRow l r, z.natAbs < 10 ^ (10 * (i + 1 + 1)) := by
  obtain ⟨k, hk, _, h0⟩ := hp
  unfold redRow
  refine redStep_bound (Nat.lt_of_le_of_lt (fdv_abs _ _ ?_) (nthI_bound hl (Nat.pow_pos (by decide)) _)) hl hr
  rw [hk]; exact h0
theorem redFold_bound : ∀ (m : List (List Int)) (x : List Int) (i : Nat), (∀ z ∈ x, z.natAbs < 10 ^ (10 * (i + 1))) → (∀ r ∈ m, ∀ z ∈ r, -1000000000 ≤ z ∧ z ≤ 1000000000) → (∀ r ∈ m, ∃ k : Nat, piv r = k ∧ k < r.length ∧ r.getD k 0 ≠ 0) → ∀ z ∈ m.foldl redRow x, z.natAbs < 10 ^ (10 * (i + m.length + 1))
  | [], _, _, h, _, _ => h
  | r :: m, x, i, h, hr, hp => by
    have := redFold_bound m (redRow x r) (i + 1) (redRow_bound h (hr r (List.mem_cons_self)) (hp r (List.mem_cons_self))) (fun y hy => hr y (List.mem_cons_of_mem _ hy)) (fun y hy => hp y (List.mem_cons_of_mem _ hy))
    rw [List.foldl_cons, List.length_cons, show i + (m.length + 1) + 1 = i + 1 + m.length + 1 by omega]
    exact this

theorem lnc_at : ∀ (es : List Ln) (k : Nat) (e : Ln), es[k]? = some e → (lnc es)[k * 2]? = some e.u ∧ (lnc es)[k * 2 + 1]? = some e.y
  | [], _, _, h => by simp at h
  | a :: t, 0, e, h => by simp at h; subst h; exact ⟨rfl, rfl⟩
  | a :: t, k + 1, e, h => by
    have := lnc_at t k e (by simpa using h)
    rw [show (k + 1) * 2 = k * 2 + 1 + 1 by omega]
    simpa [lnc] using this
theorem only_grown {a w w' : World} {row row2 : Option Nat} (h : a.grownBy w row) (hg : w.grownBy w' row2) (hr : ∀ k, row2 = some k → a.heap.size ≤ k) : a.grownBy w' row :=
  ⟨hg.os.trans h.os, hg.tape.trans h.tape, hg.output.trans h.output, Nat.le_trans h.size hg.size, fun i hi hne => (hg.block i (Nat.lt_of_lt_of_le hi h.size) (fun e => by have := hr i e.symm; omega)).trans (h.block i hi hne)⟩
theorem ne_below {w : World} {B E s n : Nat} {v : Value} {xs : List Value} (h : w.ownsRow B E s v n xs) {row : Option Nat} (hr : ∀ k, row = some k → k < B) : v.ownBlock = none ∨ v.ownBlock ≠ row := by
  cases hv : v.ownBlock with
  | none => exact .inl rfl
  | some k =>
    refine .inr fun e => ?_
    have := (World.ownsRow.lt h k hv).1
    have := hr k e.symm
    omega
theorem redFold_take {m : List (List Int)} {k : Nat} (h : k < m.length) (x : List Int) : (m.take (k + 1)).foldl redRow x = redRow ((m.take k).foldl redRow x) m[k] := by
  rw [List.take_succ_eq_append_getElem h, List.foldl_append]; rfl

theorem fit_mul10 {q z : Int} {i : Nat} (hi : i ≤ 900) (hq : q.natAbs < 10 ^ (10 * (i + 1))) (hz : -1000000000 ≤ z ∧ z ≤ 1000000000) : Fit (q * z) := by
  refine fit_pow10 (i := i + 1) (by omega) ?_
  rw [Int.natAbs_mul, show 10 * (i + 1 + 1) = 10 * (i + 1) + 10 by omega, Nat.pow_add]
  have h10 : (10 : Nat) ^ 10 = 10000000000 := by decide
  rw [h10]
  generalize 10 ^ (10 * (i + 1)) = M at *
  have h := Nat.mul_le_mul (Nat.le_of_lt hq) (show z.natAbs ≤ 1000000000 by omega)
  omega

set_option maxRecDepth 100000 in
set_option maxHeartbeats 2000000 in
theorem reduce_c (vm vx : Value) (m : List (List Int)) (x : List Int) (n : Nat) (w : World) (he : Env w) (hm : Mat w vm m) (hx : Sl w vx (i64s x)) (hn : n ≤ 12) (hml : m.length ≤ 12) (hxl : x.length = n) (hxb : ∀ z ∈ x, -1000000000 ≤ z ∧ z ≤ 1000000000)
    (hrl : ∀ r ∈ m, r.length = n ∧ ∀ z ∈ r, -1000000000 ≤ z ∧ z ≤ 1000000000) (hpv : ∀ r ∈ m, ∃ k : Nat, piv r = k ∧ k < r.length ∧ r.getD k 0 ≠ 0) :
    Calls Tryz.prog 106 #[vm, vx] w fun e w' => ∃ a c v2, e = .returned (.tuple #[.slice a (m.foldl redRow x).length c, v2]) ∧ Sl w' (.slice a (m.foldl redRow x).length c) (strs (m.foldl redRow x)) ∧ Ext w w' := by
  obtain ⟨i0, hi, hz0, hz1, hz2⟩ := info_parts info_string
  have hm1 := mat_one hx
  have hE1 : Ext w (w.alloc (.cells #[vx] 30)) := (Ext.refl w).alloc _
  generalize hw1 : w.alloc (.cells #[vx] 30) = W1 at *
  have hln := lines_c _ [x] n W1 (he.ext hE1) hm1 (fun y hy => by rw [List.mem_singleton.1 hy]; exact hxl) (fun y hy => by rw [List.mem_singleton.1 hy]; exact hxb) (by omega) (by simp)
  have hlm := fun W (h : Ext w W) => lines_c vm m n W (he.ext h) (h.mat hm) (fun y hy => (hrl y hy).1) (fun y hy => (hrl y hy).2) (by omega) (by omega)
  have Hln := Lib.hid hln; have Hlm := Lib.hid hlm; have HE1 := Lib.hid hE1; have He := Lib.hid he
  have Hrl := Lib.hid hrl; have Hpv := Lib.hid hpv; have Hxb := Lib.hid hxb; have Hxl := Lib.hid hxl
  obtain ⟨vs, hvs, hsl, _⟩ := hm
  obtain ⟨am, cm, rfl, _, hlc, _⟩ := hsl.parts
  obtain ⟨ax, cx, rfl, _, _, _⟩ := hx.parts
  rw [hvs] at Hlm ⊢
  rw [i64s_length, hxl] at hw1 ⊢
  clear hln hlm hE1 he hrl hpv hxb hsl hx hm1 hvs hlc hxl
  go_enter Tryz.func106, Tryz.ntmps106
  go_wp2_with fail
  refine Hln.out.mono ?_
  rintro e W2 ⟨v, rfl, ls, hls, hmap, hx2⟩
  obtain ⟨e0, rfl⟩ : ∃ e, ls = [e] := List.length_eq_one_iff.1 (by have := congrArg List.length hmap; simpa using this)
  have hex : e0.x = x := by simpa using hmap
  obtain ⟨g2, c2, rfl, hc2⟩ := sm_slice hls.1 (by simp)
  have h20 := hc2 0 e0.u rfl
  have h21 := hc2 1 e0.y rfl
  obtain ⟨hou, b0, n0, cy, hey⟩ := hls.2 e0 (List.mem_singleton.2 rfl)
  rw [hex, Hxl.out] at hou
  rw [hey] at h21
  generalize e0.u = u0 at *
  obtain ⟨au, cu, rfl⟩ := own_shape hou
  have Hou := Lib.hid hou; have HE2 := Lib.hid (HE1.out.trans hx2)
  clear hls hmap hx2 hc2 hou hex hey
  have hbx : LnBox (W2.alloc (.cells #[.slice au n cu, .slice (some ⟨b0, 0, none⟩) n0 cy] 118)) W2.heap.size (.slice au n cu) (.slice (some ⟨b0, 0, none⟩) n0 cy) := LnBox.new _ _ _
  have hE3 : Ext w (W2.alloc (.cells #[.slice au n cu, .slice (some ⟨b0, 0, none⟩) n0 cy] 118)) := HE2.out.alloc _
  have hou3 := Hou.out.alloc (.cells #[.slice au n cu, .slice (some ⟨b0, 0, none⟩) n0 cy] 118)
  generalize hw3 : W2.alloc (.cells #[.slice au n cu, .slice (some ⟨b0, 0, none⟩) n0 cy] 118) = W3 at *
  have Hbx := Lib.hid hbx; have HE3 := Lib.hid hE3; have Hou3 := Lib.hid hou3
  clear hbx hE3 hou3
  go_wp2_with fail
  refine (Hlm.out W3 HE3.out).mono ?_
  rintro e W4 ⟨v4, rfl, lm, hlm, hmap4, hx4⟩
  have hlml : lm.length = m.length := by rw [← hmap4, List.length_map]
  have hlm1 := hlm.1
  rw [hlml] at hlm1
  obtain ⟨a4, c4, rfl⟩ := own_shape hlm1
  have HE4 := Lib.hid (HE3.out.trans hx4); have Hbx4 := Lib.hid (Hbx.out.ext hx4); have Hou4 := Lib.hid (hx4.own Hou3.out); have Hlm4 := Lib.hid hlm; have Hmap4 := Lib.hid hmap4; have Hlml := Lib.hid hlml
  have Hb34 := Lib.hid hx4.size; have Hbl3 := Lib.hid Hbx.out.lt; have Hub := Lib.hid (World.ownsRow.lt Hou3.out)
  clear hlm hlm1 hmap4 hx4 hlml
  have hrow : ∀ k, (Value.slice au n cu).ownBlock = some k → W1.heap.size ≤ k ∧ k < W3.heap.size := Hub.out
  have hg0 : W4.grownBy W4 (Value.slice au n cu).ownBlock := ⟨rfl, rfl, rfl, Nat.le_refl _, fun _ _ _ => rfl⟩
  have Hrow := Lib.hid hrow; have Hg0 := Lib.hid hg0
  generalize hru : (Value.slice au n cu).ownBlock = rowu at *
  have Hru := Lib.hid hru
  clear hrow hg0 hru
  go_wp2_with fail
  go_loopw [5, 21] (fun v5 v21 wr => ∃ (k : Nat) (qs : List Int), v21 = .int .i64 k ∧ k ≤ m.length ∧ wr.ownsRow W4.heap.size 76 1 v5 k (strs qs) ∧ wr.ownsRow W1.heap.size 76 1 (.slice au n cu) n (strs ((m.take k).foldl redRow x)) ∧ W4.grownBy wr rowu) (fun _ v21 _ => m.length - (intOf v21).toNat)
  case atStart => exact ⟨0, [], rfl, Nat.zero_le _, World.ownsRow_nil _ _ _ _, Hou4.out, Hg0.out⟩
  case round =>
    obtain ⟨k, qs, rfl, hk, hq, hl, hg⟩ := hrel
    obtain ⟨a5, c5, rfl⟩ := own_shape hq
    have Hq := Lib.hid hq; have Hl := Lib.hid hl; have Hg := Lib.hid hg
    clear hq hl hg
    have HEw : Hid (Ext w wr) := Lib.hid (HE4.out.grown Hg.out fun q hq => Nat.le_trans HE1.out.size (Hrow.out q hq).1)
    have hrb : rowu ≠ some W2.heap.size := fun e => by
      have h1 := World.ownsRow.lt Hou.out W2.heap.size (Hru.out.trans e)
      omega
    have HbxR := Lib.hid (Hbx4.out.grown Hg.out hrb)
    clear hrb
    by_cases hkl : k < m.length
    · obtain ⟨e, hle⟩ : ∃ e, lm[k]? = some e := ⟨_, List.getElem?_eq_getElem (by rw [Hlml.out]; exact hkl)⟩
      have hxe : e.x = m[k] := by
        have h1 : (lm.map Ln.x)[k]? = some e.x := by rw [List.getElem?_map, hle]; rfl
        rw [Hmap4.out, List.getElem?_eq_getElem hkl] at h1
        injection h1 with h1
        exact h1.symm
      have hmem : m[k] ∈ m := List.getElem_mem hkl
      have hrl := Hrl.out _ hmem
      have hpv := Hpv.out _ hmem
      have htk := redFold_take hkl x
      rw [← hxe] at hmem hrl hpv htk
      have hll : ((m.take k).foldl redRow x).length = n := redFold_length _ _ Hxl.out fun r hr => (Hrl.out r (List.mem_of_mem_take hr)).1
      have hlb : ∀ z ∈ (m.take k).foldl redRow x, z.natAbs < 10 ^ (10 * (k + 1)) := by
        have h1 := redFold_bound (m.take k) x 0 (fun z hz => by have h2 := Hxb.out z hz; rw [show 10 * (0 + 1) = 10 by omega, show (10 : Nat) ^ 10 = 10000000000 by decide]; omega) (fun r hr => (Hrl.out r (List.mem_of_mem_take hr)).2) (fun r hr => Hpv.out r (List.mem_of_mem_take hr))
        rw [List.length_take, Nat.min_eq_left (by omega), Nat.zero_add] at h1
        exact h1
      have hme : e ∈ lm := List.mem_of_getElem? hle
      have hrs := World.ownsRow.kept Hlm4.out.1 Hg.out (ne_below Hlm4.out.1 fun q hq => (Hrow.out q hq).2)
      have hre := World.ownsRow.kept (Hlm4.out.2 e hme).1 Hg.out (ne_below (Hlm4.out.2 e hme).1 fun q hq => (Hrow.out q hq).2)
      obtain ⟨b1, n1, c1, hey⟩ := (Hlm4.out.2 e hme).2
      have hbre := (Hlm4.out.2 e hme).1
      rw [Hlml.out] at hrs
      obtain ⟨g4, c4', eg, hcs⟩ := sm_slice hrs (by omega)
      injection eg with eg1 _ eg3
      subst eg1; subst eg3
      have hc0 := hcs _ _ (lnc_at lm k e hle).1
      have hc1 := hcs _ _ (lnc_at lm k e hle).2
      rw [hrl.1] at hre hbre
      rw [hey] at hc1
      have hpl := hrl.1
      generalize e.x = r at *
      generalize e.u = ue at *
      generalize (m.take k).foldl redRow x = l at *
      clear hcs hey hle hxe hme
      obtain ⟨ae, ce, rfl⟩ := own_shape hre
      obtain ⟨p, hp1, hp2, hp3⟩ := hpv
      obtain ⟨gu, cu', eu, hcu⟩ := own_slice Hl.out (by omega)
      injection eu with eu1 _ eu3
      subst eu1; subst eu3
      obtain ⟨ge, ce', ee, hce⟩ := own_slice hre (by omega)
      injection ee with ee1 _ ee3
      subst ee1; subst ee3
      obtain rfl : rowu = some gu := Hru.out.symm
      -- the line's copy
      have hbx2 : LnBox (wr.alloc (.cells #[.slice (some ⟨ge, 0, none⟩) n ce, .slice (some ⟨b1, 0, none⟩) n1 c1] 118)) wr.heap.size (.slice (some ⟨ge, 0, none⟩) n ce) (.slice (some ⟨b1, 0, none⟩) n1 c1) := LnBox.new _ _ _
      have hE5 : Ext wr (wr.alloc (.cells #[.slice (some ⟨ge, 0, none⟩) n ce, .slice (some ⟨b1, 0, none⟩) n1 c1] 118)) := (Ext.refl wr).alloc _
      have hwb := HbxR.out.lt
      have hguw := (World.ownsRow.lt Hl.out gu rfl).2
      have hgew := (World.ownsRow.lt hre ge rfl).2
      have hge3 := (World.ownsRow.lt hbre ge rfl).1
      have hgu3 := (Hrow.out gu rfl).2
      generalize hw5 : wr.alloc (.cells #[.slice (some ⟨ge, 0, none⟩) n ce, .slice (some ⟨b1, 0, none⟩) n1 c1] 118) = W5 at *
      have hix := indexS_c _ r W5 (hE5.sl (sl_own hre)) (by omega)
      rw [hp1] at hix
      have hc50 := hbx2.cell0; have hc51 := hbx2.cell1
      have HE5 := Lib.hid hE5; have Hbx5 := Lib.hid hbx2; have Hre := Lib.hid hre; have Hix := Lib.hid hix; have Hlb := Lib.hid hlb; have Hll := Lib.hid hll; have Hpl := Lib.hid hpl; have Hrl2 := Lib.hid hrl.2; have Htk := Lib.hid htk
      have Hguw := Lib.hid hguw; have Hgew := Lib.hid hgew; have Hge3 := Lib.hid hge3; have Hgu3 := Lib.hid hgu3
      have Hp3 := Lib.hid hp3; have Hp1 := Lib.hid hp1; have Hp2 : p < n := by omega
      clear hE5 hbx2 hre hix hlb hll hpl hrl htk hguw hgew hge3 hgu3 hp3 hp1 hp2 hcu hce hbre hwb hrs
      have hk0 : (0 : Int) ≤ (k : Int) := by omega
      have hk1 : (k : Int) < (m.length : Int) := by omega
      go_wp2_with fail
      refine Hix.out.mono ?_
      rintro e W6 ⟨rfl, hx6⟩
      -- the quotient
      have hE6 : Ext w W6.drew := ((HEw.out.trans HE5.out).trans hx6).drew
      have hl6 : W6.drew.ownsRow W1.heap.size 76 1 (.slice (some ⟨gu, 0, none⟩) n cu) n (strs l) := hx6.own (HE5.out.own Hl.out)
      have hr6 : W6.drew.ownsRow W3.heap.size 76 1 (.slice (some ⟨ge, 0, none⟩) n ce) n (strs r) := hx6.own (HE5.out.own Hre.out)
      have hb6 : LnBox W6.drew W2.heap.size (.slice (some ⟨gu, 0, none⟩) n cu) (.slice (some ⟨b0, 0, none⟩) n0 cy) := (HbxR.out.ext HE5.out).ext hx6
      have hs6 : LnBox W6.drew wr.heap.size (.slice (some ⟨ge, 0, none⟩) n ce) (.slice (some ⟨b1, 0, none⟩) n1 c1) := Hbx5.out.ext hx6
      have hq6 : W6.drew.ownsRow W4.heap.size 76 1 (.slice a5 k c5) k (strs qs) := hx6.own (HE5.out.own Hq.out)
      have hg6 : W4.grownBy W6.drew (some gu) := only_ext (only_ext Hg.out HE5.out) hx6.drew
      have hP : Fit (nthI l p) := fit_pow10 (i := k) (by omega) (nthI_bound Hlb.out (Nat.pow_pos (by decide)) p)
      have hrp : -1000000000 ≤ nthI r p ∧ nthI r p ≤ 1000000000 := Hrl2.out _ (nthI_mem' (by rw [Hpl.out]; exact Hp2))
      have hQ : Fit (nthI r p) := fit_pow10 (i := 0) (by omega) (by rw [show 10 * (0 + 1) = 10 by omega, show (10 : Nat) ^ 10 = 10000000000 by decide]; omega)
      have hq0 : nthI r p ≠ 0 := by unfold nthI; exact Hp3.out
      have hqb : (fdv (nthI l p) (nthI r p)).natAbs < 10 ^ (10 * (k + 1)) := Nat.lt_of_le_of_lt (fdv_abs _ _ hq0) (nthI_bound Hlb.out (Nat.pow_pos (by decide)) p)
      have hdm := wdivmod_c (nthI l p) (nthI r p) W6.drew (He.out.ext hE6) hq0 hP hQ
      have hcb6 := hb6.cell0
      have hcs6 := hs6.cell0
      have hcl6 := own_cellAt hl6 (strs_at (l := l) (j := p) (by rw [Hll.out]; exact Hp2))
      have hcr6 := own_cellAt hr6 (strs_at (l := r) (j := p) (by rw [Hpl.out]; exact Hp2))
      have hrw : redRow l r = List.zipWith (fun x y => x - fdv (nthI l p) (nthI r p) * y) l r := by unfold redRow redStep; rw [Hp1.out]; rfl
      have Hrw := Lib.hid hrw
      generalize fdv (nthI l p) (nthI r p) = q at *
      generalize fmd (nthI l p) (nthI r p) = q2 at *
      generalize nthI l p = P at *
      generalize nthI r p = Q at *
      have hp0 : (0 : Int) ≤ (p : Int) := by omega
      have hpn : (p : Int) < (n : Int) := by omega
      have HE6 := Lib.hid hE6; have Hl6 := Lib.hid hl6; have Hr6 := Lib.hid hr6; have Hb6 := Lib.hid hb6; have Hs6 := Lib.hid hs6; have Hq6 := Lib.hid hq6; have Hg6 := Lib.hid hg6; have Hdm := Lib.hid hdm; have Hqb := Lib.hid hqb
      clear hE6 hl6 hr6 hb6 hs6 hq6 hg6 hdm hqb hP hrp hQ hq0 hx6 hrw
      go_wp2_with fail
      go_region_law (go_simp; go_at_call 102; refine Hdm.out.mono ?_; rintro e V1 ⟨rfl, hx7⟩; have Hx7 := Lib.hid hx7; have hcb7 := hx7.cell Hb6.out.cell0; have hcb71 := hx7.cell Hb6.out.cell1; have hcs7 := hx7.cell Hs6.out.cell0; clear hx7)
      all_goals
        have hl7 : V1.ownsRow W1.heap.size 76 1 (.slice (some ⟨gu, 0, none⟩) n cu) n (strs l) := Hx7.out.own Hl6.out
        have hr7 : V1.ownsRow W3.heap.size 76 1 (.slice (some ⟨ge, 0, none⟩) n ce) n (strs r) := Hx7.out.own Hr6.out
        have hls := hless_c gu n cu (.slice (some ⟨b0, 0, none⟩) n0 cy) (.slice (some ⟨ge, 0, none⟩) n ce) q l r w V1 W1.heap.size He.out (HE6.out.trans Hx7.out) HE1.out.size Hll.out Hpl.out (by omega) hl7
          (fun W h => sl_own (World.ownsRow.kept hr7 h (ne_below hr7 fun z hz => by injection hz with hz; have := Hgu3.out; omega)))
          (fit_pow10 (i := k) (by omega) Hqb.out) (fun z hz => fit_pow10 (i := k) (by omega) (Hlb.out z hz)) (fun z hz => fit_pow10 (i := 0) (by omega) (by have := Hrl2.out z hz; rw [show 10 * (0 + 1) = 10 by omega, show (10 : Nat) ^ 10 = 10000000000 by decide]; omega)) (fun z hz => fit_mul10 (by omega) Hqb.out (Hrl2.out z hz))
        rw [← Hrw.out] at hls
        have Hls := Lib.hid hls
        clear hl7 hr7 hls
        go_wp2_with fail
        refine Hls.out.mono ?_
        rintro e W8 ⟨⟨v8, rfl⟩, hl8, hg8⟩
        have hq8 : W8.ownsRow W4.heap.size 76 1 (.slice a5 k c5) k (strs qs) := World.ownsRow.kept (Hx7.out.own Hq6.out) hg8 (ne_below (Hx7.out.own Hq6.out) fun z hz => by injection hz with hz; have := Hgu3.out; have := Hb34.out; omega)
        have hg48 : W4.grownBy W8 (some gu) := (only_ext Hg6.out Hx7.out).trans hg8
        have Hq8 := Lib.hid hq8; have Hl8 := Lib.hid hl8; have Hg48 := Lib.hid hg48
        have hm3 : k + 1 ≤ maxLen := by unfold maxLen; omega
        have hm4 : (k + 1) * 16 ≤ 140737488355328 := by omega
        have hw48 := hg48.size
        clear hq8 hl8 hg48 hg8
        go_wp2_with (at_builtin; refine wpList_append_own _ rfl _ _ 116 rfl W4.heap.size 76 i0 (.string ByteArray.empty) 1 16 Tryz.underlying116 hi hz0 hz1 hz2 rfl (by decide) _ _ _ rfl (Hq8.out.alloc _) ⟨W8.heap.size, 0, none⟩ 1 1 [.string (I q)] rfl rfl (cell_one_new _ _ _) (by simp [Value.oneCell']) hm3 hm4 (by rw [World.size_alloc]; omega) ?_; intro v9 W9 hown9 hgrow9 _)
        rw [← strs_app] at hown9
        have hl9 := World.ownsRow.kept (Hl8.out.alloc (.cells #[.string (I q)] 76)) hgrow9 (.inr fun h => by have h1 := (World.ownsRow.lt Hq8.out gu h.symm).1; have := Hgu3.out; have := Hb34.out; omega)
        rw [← Htk.out] at hl9
        have hg9 := only_grown (only_ext Hg48.out ((Ext.refl W8).alloc (.cells #[.string (I q)] 76))) hgrow9 (fun z hz => (World.ownsRow.lt Hq8.out z hz).1)
        have Hown9 := Lib.hid hown9; have Hl9 := Lib.hid hl9; have Hg9 := Lib.hid hg9
        clear hown9 hl9 hg9 hgrow9
        go_wp2_with fail
        go_roundw
        case rel => exact ⟨k + 1, qs ++ [q], by go_num, by omega, Hown9.out, Hl9.out, Hg9.out⟩
        case measure => simp [intOf]; omega
    · obtain rfl : k = m.length := by omega
      have hc0 := HbxR.out.cell0
      have hl := Hl.out
      rw [List.take_length] at hl
      have hfl : (m.foldl redRow x).length = n := redFold_length m x Hxl.out fun r hr => (Hrl.out r hr).1
      have Hl2 := Lib.hid hl; have Hfl := Lib.hid hfl
      clear hl hfl
      go_wp2
      go_ret2
      have he : ∀ s, Ending.returned (.tuple #[.slice au n cu, s]) = .returned (.tuple #[.slice au (m.foldl redRow x).length cu, s]) := fun s => by rw [Hfl.out]
      refine ⟨au, cu, .slice a5 m.length c5, he _, ?_, HEw.out⟩
      rw [Hfl.out]
      exact sl_own Hl2.out

end Go.Proofs.YtkamjjjimbbdmaaGreatDoor

namespace Go.Proofs.YtkamjjjimbbdmaaGreatDoor
open Go.RowKit Go.Lib

/-- Does the lattice of a form have a row? -/
def inForm (m : List (List Int)) (x : List Int) : Bool := !((m.foldl redRow x).any fun n => n != 0)

theorem rowChk_bound {x : List Int} (h : rowChk x = 0) : ∀ z ∈ x, -1000000000 ≤ z ∧ z ≤ 1000000000 := by
  intro z hz
  unfold rowChk at h
  split at h
  · cases h
  · rename_i hn
    have h2 : ¬ (x.any (fun n => !fitsI n) = true) := fun g => hn (.inr g)
    rw [List.any_eq_true] at h2
    by_cases hf : fitsI z = true
    · unfold fitsI at hf
      simp at hf
      omega
    · exact absurd ⟨z, hz, by simp at hf; simp [hf]⟩ h2

theorem hContainsF_c (vm vx : Value) (m : List (List Int)) (x : List Int) (w : World) (he : Env w) (hm : Mat w vm m) (hx : Sl w vx (i64s x)) (hc : tChk m = 0) (hf : isFm m = true) (hr : rowChk x = 0) (hn : x.length ≤ 12) (hlen : 0 < m.length → x.length = (m.getD 0 []).length) :
    Calls Tryz.prog 35 #[vm, vx] w fun e w' => e = .returned (.tuple #[.bool (inForm m x), .int .i64 0]) ∧ Ext w w' := by
  obtain ⟨z1, z2, z3⟩ := tChk_zero hc
  have hrl : ∀ r ∈ m, r.length = x.length ∧ ∀ z ∈ r, -1000000000 ≤ z ∧ z ≤ 1000000000 := fun r hr => ⟨by rw [(z3 r hr).1, hlen (List.length_pos_of_mem hr)], (z3 r hr).2⟩
  have hfl : (m.foldl redRow x).length = x.length := redFold_length m x rfl fun r hr => (hrl r hr).1
  exact hContains_c vm vx _ w (hopen_c vm vx m x w hm hx hc hf hr hlen fun W hE => rcheck_c vx x W (hE.sl hx) (by omega))
    (fun W hE => hcont_c vm vx _ W (by rw [hfl]; omega) (reduce_c vm vx m x x.length W (he.ext hE) (hE.mat hm) (hE.sl hx) hn z1 rfl (rowChk_bound hr) hrl (isFm_piv hf)))

set_option maxRecDepth 100000 in
set_option maxHeartbeats 400000 in
/-- The closure: what does not belong to the lattice. -/
theorem inf_c (vm vx : Value) (b : Nat) (m : List (List Int)) (x : List Int) (w : World) (he : Env w) (hm : Mat w vm m) (hx : Sl w vx (i64s x)) (hb : w.cell? ⟨b, 0, none⟩ = some vm) (hc : tChk m = 0) (hf : isFm m = true) (hr : rowChk x = 0) (hn : x.length ≤ 12) (hlen : 0 < m.length → x.length = (m.getD 0 []).length) :
    Calls Tryz.prog 66 #[vx, .pointer (some ⟨b, 0, none⟩)] w fun e w' => e = .returned (.bool (!inForm m x)) ∧ Ext w w' := by
  have hs := hContainsF_c vm vx m x w he hm hx hc hf hr hn hlen
  generalize inForm m x = s at *
  obtain ⟨vs, hvs, hsl, _⟩ := hm
  obtain ⟨am, cm, rfl, _, _, _⟩ := hsl.parts
  obtain ⟨ax, cx, rfl, _, _, _⟩ := hx.parts
  rw [i64s_length] at *
  rw [hvs] at hs hb
  have Hs := Lib.hid hs
  clear hs hsl hx he hc hf hr hlen hvs
  go_enter Tryz.func66, Tryz.ntmps66
  go_wp2_with fail
  refine Hs.out.mono ?_
  rintro e w1 ⟨rfl, hx1⟩
  have Hx1 := Lib.hid hx1; clear hx1
  go_wp2
  go_ret
  exact ⟨rfl, Hx1.out⟩

end Go.Proofs.YtkamjjjimbbdmaaGreatDoor
