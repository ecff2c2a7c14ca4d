/- Plain: the least of a column, how a sweep comes to its end. Lines of hermite with their sums: rows that lie apart; worlds that differ in two rows. Walk: hermite's lines, with the sums (turned from lines_c by a program). -/
import Derived.Test.YtkamjjjimbbdmaaGreatDoorHermC
namespace Go.Proofs.YtkamjjjimbbdmaaGreatDoor

/-- The least magnitude of what is not zero; 0 if all are zero. -/
def minNZ : List Int → Nat
  | [] => 0
  | z :: t => if z = 0 then minNZ t else if minNZ t = 0 then z.natAbs else min z.natAbs (minNZ t)
def cntNZ (l : List Int) : Nat := (l.filter fun z => z != 0).length
def muNZ (l : List Int) : Nat := 2 * minNZ l + (if 2 ≤ cntNZ l then 1 else 0)
theorem minNZ_le : ∀ (l : List Int) (z : Int), z ∈ l → z ≠ 0 → 0 < minNZ l ∧ minNZ l ≤ z.natAbs
  | [], z, h, _ => by cases h
  | a :: t, z, h, h0 => by
    rw [minNZ]
    rcases List.mem_cons.1 h with rfl | h
    · rw [if_neg h0]
      split
      · omega
      · omega
    · have := minNZ_le t z h h0
      split
      · exact this
      · rw [if_neg (by omega)]; omega
theorem minNZ_eq {l : List Int} {t : Int} (h : t ∈ l) (h0 : t ≠ 0) (hm : ∀ z ∈ l, z ≠ 0 → t.natAbs ≤ z.natAbs) : minNZ l = t.natAbs := by
  have h1 := minNZ_le l t h h0
  have h2 : ∀ l : List Int, (∀ z ∈ l, z ≠ 0 → t.natAbs ≤ z.natAbs) → minNZ l = 0 ∨ t.natAbs ≤ minNZ l := by
    intro l
    induction l with
    | nil => intro _; exact .inl rfl
    | cons a r ih =>
      intro hm
      rw [minNZ]
      have hi := ih fun z hz => hm z (List.mem_cons_of_mem _ hz)
      split
      · exact hi
      · rename_i ha
        have := hm a (List.mem_cons_self) ha
        split
        · exact .inr this
        · right; omega
  rcases h2 l hm with g | g <;> omega
theorem cntNZ_cons (z : Int) (l : List Int) : cntNZ (z :: l) = (if z = 0 then 0 else 1) + cntNZ l := by
  unfold cntNZ
  by_cases h : z = 0
  · subst h; simp
  · rw [if_neg h, List.filter_cons, if_pos (by rw [bne_iff_ne]; exact h), List.length_cons]; omega
theorem cntNZ_pos {l : List Int} (h : 0 < cntNZ l) : ∃ z ∈ l, z ≠ 0 := by
  induction l with
  | nil => simp [cntNZ] at h
  | cons a t ih =>
    by_cases h0 : a = 0
    · rw [cntNZ_cons, if_pos h0] at h
      obtain ⟨z, hz, h1⟩ := ih (by omega)
      exact ⟨z, List.mem_cons_of_mem _ hz, h1⟩
    · exact ⟨a, List.mem_cons_self, h0⟩
theorem muNZ_pass {t : Int} {r l : List Int} (h0 : t ≠ 0) (hr : ∀ z ∈ r, z.natAbs < t.natAbs) (hm : minNZ l = t.natAbs) (hc : 2 ≤ cntNZ l) : muNZ (t :: r) < muNZ l := by
  unfold muNZ
  rw [if_pos hc, hm]
  have h1 := minNZ_le (t :: r) t (List.mem_cons_self) h0
  by_cases h2 : 2 ≤ cntNZ (t :: r)
  · rw [if_pos h2]
    rw [cntNZ_cons, if_neg h0] at h2
    obtain ⟨z, hz, hz0⟩ := cntNZ_pos (l := r) (by omega)
    have h3 := minNZ_le (t :: r) z (List.mem_cons_of_mem _ hz) hz0
    have h4 := hr z hz
    omega
  · rw [if_neg h2]; omega
theorem cntNZ_perm {a b : List Int} (h : a.Perm b) : cntNZ a = cntNZ b := (h.filter _).length_eq
theorem cntNZ_le (l : List Int) : cntNZ l ≤ l.length := List.length_filter_le _ _

/-- What the look for the least has found in the first k. -/
def Scan (zs : List Int) (k : Nat) (best : Int) (rest : Nat) : Prop :=
  rest = cntNZ (zs.take k) ∧ ((best = -1 ∧ rest = 0) ∨ ∃ j : Nat, best = j ∧ j < k ∧ zs.getD j 0 ≠ 0 ∧ ∀ i, i < k → zs.getD i 0 ≠ 0 → (zs.getD j 0).natAbs ≤ (zs.getD i 0).natAbs)
theorem cnt_step {zs : List Int} {k : Nat} (h : k < zs.length) : cntNZ (zs.take (k + 1)) = cntNZ (zs.take k) + if zs.getD k 0 = 0 then 0 else 1 := by
  rw [List.take_succ_eq_append_getElem h, List.getD_eq_getElem?_getD, List.getElem?_eq_getElem h]
  unfold cntNZ
  rw [List.filter_append, List.length_append]
  simp only [Option.getD_some]
  by_cases g : zs[k] = 0
  · rw [if_pos g, g]; rfl
  · rw [if_neg g, List.filter_cons, if_pos (by rw [bne_iff_ne]; exact g)]; rfl
theorem cnt_zero {zs : List Int} {k : Nat} (h : cntNZ (zs.take k) = 0) : ∀ i, i < k → zs.getD i 0 = 0 := by
  intro i hi
  by_cases hl : i < zs.length
  · apply Classical.byContradiction
    intro g
    rw [List.getD_eq_getElem?_getD, List.getElem?_eq_getElem hl] at g
    have hm : zs[i] ∈ (zs.take k).filter fun z => z != 0 := List.mem_filter.2 ⟨List.mem_take_iff_getElem.2 ⟨i, by omega, rfl⟩, by rw [bne_iff_ne]; exact g⟩
    have := List.length_pos_of_mem hm
    unfold cntNZ at h
    omega
  · rw [List.getD_eq_getElem?_getD, List.getElem?_eq_none (by omega)]; rfl
theorem Scan.zero (zs : List Int) : Scan zs 0 (-1) 0 := ⟨by simp [cntNZ], .inl ⟨rfl, rfl⟩⟩
theorem Scan.skip {zs : List Int} {k rest : Nat} {best : Int} (h : Scan zs k best rest) (hk : k < zs.length) (h0 : zs.getD k 0 = 0) : Scan zs (k + 1) best rest := by
  refine ⟨by rw [cnt_step hk, if_pos h0, ← h.1]; rfl, ?_⟩
  rcases h.2 with g | ⟨j, g1, g2, g3, g4⟩
  · exact .inl g
  · refine .inr ⟨j, g1, by omega, g3, fun i hi hz => ?_⟩
    rcases Nat.lt_or_ge i k with g | g
    · exact g4 i g hz
    · obtain rfl : i = k := by omega
      exact absurd h0 hz
theorem Scan.first {zs : List Int} {k rest : Nat} {best : Int} (h : Scan zs k best rest) (hk : k < zs.length) (h0 : zs.getD k 0 ≠ 0) (hb : best < 0) : Scan zs (k + 1) (k : Int) (rest + 1) := by
  refine ⟨by rw [cnt_step hk, if_neg h0, ← h.1], .inr ⟨k, rfl, by omega, h0, fun i hi hz => ?_⟩⟩
  rcases h.2 with ⟨_, g⟩ | ⟨j, g1, _⟩
  · rcases Nat.lt_or_ge i k with g2 | g2
    · exact absurd (cnt_zero (h.1.symm.trans g) i g2) hz
    · obtain rfl : i = k := by omega
      exact Nat.le_refl _
  · omega
theorem Scan.less {zs : List Int} {k rest j : Nat} (h : Scan zs k (j : Int) rest) (hk : k < zs.length) (h0 : zs.getD k 0 ≠ 0) (hl : (zs.getD k 0).natAbs < (zs.getD j 0).natAbs) : Scan zs (k + 1) (k : Int) (rest + 1) := by
  refine ⟨by rw [cnt_step hk, if_neg h0, ← h.1], .inr ⟨k, rfl, by omega, h0, fun i hi hz => ?_⟩⟩
  rcases h.2 with ⟨g, _⟩ | ⟨j2, g1, g2, g3, g4⟩
  · omega
  · obtain rfl : j = j2 := by omega
    rcases Nat.lt_or_ge i k with g | g
    · have := g4 i g hz; omega
    · obtain rfl : i = k := by omega
      exact Nat.le_refl _
theorem Scan.keep {zs : List Int} {k rest j : Nat} (h : Scan zs k (j : Int) rest) (hk : k < zs.length) (h0 : zs.getD k 0 ≠ 0) (hl : ¬ (zs.getD k 0).natAbs < (zs.getD j 0).natAbs) : Scan zs (k + 1) (j : Int) (rest + 1) := by
  refine ⟨by rw [cnt_step hk, if_neg h0, ← h.1], ?_⟩
  rcases h.2 with ⟨g, _⟩ | ⟨j2, g1, g2, g3, g4⟩
  · omega
  · obtain rfl : j = j2 := by omega
    refine .inr ⟨j, rfl, by omega, g3, fun i hi hz => ?_⟩
    rcases Nat.lt_or_ge i k with g | g
    · exact g4 i g hz
    · obtain rfl : i = k := by omega
      omega
theorem Scan.best_lt {zs : List Int} {k rest : Nat} {best : Int} (h : Scan zs k best rest) : best < k ∧ -1 ≤ best := by
  rcases h.2 with ⟨g, _⟩ | ⟨j, g1, g2, _⟩ <;> omega

end Go.Proofs.YtkamjjjimbbdmaaGreatDoor

namespace Go.Proofs.YtkamjjjimbbdmaaGreatDoor
open Go.RowKit Go.Lib Go.Shelf

/-- w' is w, but for two blocks (and what is new). -/
structure Duo (w w' : World) (g h : Nat) : Prop where
  os : w'.os = w.os
  tape : w'.tape = w.tape
  output : w'.output = w.output
  size : w.heap.size ≤ w'.heap.size
  block : ∀ i, i < w.heap.size → i ≠ g → i ≠ h → w'.heap[i]? = w.heap[i]?
theorem Duo.refl (w : World) (g h : Nat) : Duo w w g h := ⟨rfl, rfl, rfl, Nat.le_refl _, fun _ _ _ _ => rfl⟩
theorem Duo.trans {a b c : World} {g h : Nat} (x : Duo a b g h) (y : Duo b c g h) : Duo a c g h :=
  ⟨y.os.trans x.os, y.tape.trans x.tape, y.output.trans x.output, Nat.le_trans x.size y.size, fun i hi h1 h2 => (y.block i (Nat.lt_of_lt_of_le hi x.size) h1 h2).trans (x.block i hi h1 h2)⟩
theorem Duo.left {w w' : World} {g h : Nat} (x : w.grownBy w' (some g)) : Duo w w' g h :=
  ⟨x.os, x.tape, x.output, x.size, fun i hi h1 _ => x.block i hi (fun e => h1 (by injection e))⟩
theorem Duo.right {w w' : World} {g h : Nat} (x : w.grownBy w' (some h)) : Duo w w' g h :=
  ⟨x.os, x.tape, x.output, x.size, fun i hi _ h1 => x.block i hi (fun e => h1 (by injection e))⟩
theorem Duo.of {w w' : World} {g h : Nat} (x : Ext w w') : Duo w w' g h := ⟨x.os, x.tape, x.output, x.size, fun i hi _ _ => x.block i hi⟩
theorem Duo.ext {a w w' : World} {g h : Nat} (x : Duo w w' g h) (k : Ext a w) (h1 : a.heap.size ≤ g) (h2 : a.heap.size ≤ h) : Ext a w' :=
  ⟨x.os.trans k.os, x.tape.trans k.tape, x.output.trans k.output, Nat.le_trans k.size x.size, fun i hi => (x.block i (Nat.lt_of_lt_of_le hi k.size) (by omega) (by omega)).trans (k.block i hi)⟩
theorem Duo.below {B : Nat} {w w' : World} {g h : Nat} (x : Duo w w' g h) (hB : B ≤ w.heap.size) (h1 : B ≤ g) (h2 : B ≤ h) : Below B w w' :=
  ⟨x.os, x.tape, x.output, x.size, fun i hi => x.block i (Nat.lt_of_lt_of_le hi hB) (by omega) (by omega)⟩
theorem Duo.kept {w w' : World} {g h : Nat} (x : Duo w w' g h) {B E s n q c : Nat} {xs : List Value} (o : w.ownsRow B E s (.slice (some ⟨q, 0, none⟩) n c) n xs) (h1 : q ≠ g) (h2 : q ≠ h) : w'.ownsRow B E s (.slice (some ⟨q, 0, none⟩) n c) n xs := by
  have hl := (World.ownsRow.lt o q rfl).2
  refine ⟨o.1, ?_⟩
  rcases o.2 with hn | ⟨g', cap, cur, hv, hb, hg, r⟩
  · exact .inl hn
  · have e : g' = q := by injection hv with e1 _ _; injection e1 with e1; injection e1 with e1; exact e1.symm
    subst e
    exact .inr ⟨g', cap, cur, hv, hb, (x.block g' hl h1 h2).trans hg, r⟩
theorem Duo.cell {w w' : World} {g h : Nat} (x : Duo w w' g h) {p : Addr} {v : Value} (hv : w.cell? p = some v) (h1 : p.block ≠ g) (h2 : p.block ≠ h) : w'.cell? p = some v := by
  have hl := World.block_lt_of_cell? w p hv
  have e := x.block p.block hl h1 h2
  rw [← hv]
  unfold World.cell?
  rw [e]
theorem Duo.box {w w' : World} {g h : Nat} (x : Duo w w' g h) {b : Nat} {a y : Value} (k : LnBox w b a y) (h1 : b ≠ g) (h2 : b ≠ h) : LnBox w' b a y := (x.block b k.lt h1 h2).trans k

set_option maxRecDepth 100000 in
set_option maxHeartbeats 2000000 in
theorem hless2_c (gx gy n N ca cb : Nat) (vx vy : Value) (k : Int) (a b a' b' : List Int) (w0 w : World) (B : Nat) (he : Env w0) (h0 : Ext w0 w) (hB : w0.heap.size ≤ B) (ha : a.length = n) (hb : b.length = n) (ha' : a'.length = N) (hb' : b'.length = N) (hn : n ≤ 1000) (hN : N ≤ 1000) (hne : gx ≠ gy)
    (hox : w.ownsRow B 76 1 (.slice (some ⟨gx, 0, none⟩) n ca) n (strs a)) (hoy : w.ownsRow B 76 1 (.slice (some ⟨gy, 0, none⟩) N cb) N (strs a'))
    (hvx : ∀ W, Duo w W gx gy → Sl W vx (strs b)) (hvy : ∀ W, Duo w W gx gy → Sl W vy (strs b'))
    (fk : Fit k) (fa : ∀ z ∈ a, Fit z) (fb : ∀ z ∈ b, Fit z) (fm : ∀ z ∈ b, Fit (k * z)) (fa' : ∀ z ∈ a', Fit z) (fb' : ∀ z ∈ b', Fit z) (fm' : ∀ z ∈ b', Fit (k * z)) :
    Calls Tryz.prog 103 #[.agg #[.slice (some ⟨gx, 0, none⟩) n ca, .slice (some ⟨gy, 0, none⟩) N cb], .string (I k), .agg #[vx, vy]] w fun e w' => (∃ v, e = .returned v) ∧ w'.ownsRow B 76 1 (.slice (some ⟨gx, 0, none⟩) n ca) n (strs (List.zipWith (fun x y => x - k * y) a b)) ∧ w'.ownsRow B 76 1 (.slice (some ⟨gy, 0, none⟩) N cb) N (strs (List.zipWith (fun x y => x - k * y) a' b')) ∧ Duo w w' gx gy := by
  have hgw : gx < w.heap.size := (World.ownsRow.lt hox gx rfl).2
  have hhw : gy < w.heap.size := (World.ownsRow.lt hoy gy rfl).2
  have hgB : B ≤ gx := (World.ownsRow.lt hox gx rfl).1
  have hhB : B ≤ gy := (World.ownsRow.lt hoy gy rfl).1
  have hzk := I_is_zero k
  -- the three boxes
  have hE1 : Ext w (((w.alloc (.cells #[.slice (some ⟨gx, 0, none⟩) n ca, .slice (some ⟨gy, 0, none⟩) N cb] 118)).alloc (.cells #[.string (I k)] 76)).alloc (.cells #[vx, vy] 118)) := (((Ext.refl w).alloc _).alloc _).alloc _
  have hb0 := ((Ext.refl _).alloc (.cells #[vx, vy] 118)).cell (((Ext.refl _).alloc (.cells #[.string (I k)] 76)).cell (two_new0 w (.slice (some ⟨gx, 0, none⟩) n ca) (.slice (some ⟨gy, 0, none⟩) N cb) 118))
  have hb1 := ((Ext.refl _).alloc (.cells #[vx, vy] 118)).cell (((Ext.refl _).alloc (.cells #[.string (I k)] 76)).cell (two_new1 w (.slice (some ⟨gx, 0, none⟩) n ca) (.slice (some ⟨gy, 0, none⟩) N cb) 118))
  have hbk := ((Ext.refl _).alloc (.cells #[vx, vy] 118)).cell (box_new (w.alloc (.cells #[.slice (some ⟨gx, 0, none⟩) n ca, .slice (some ⟨gy, 0, none⟩) N cb] 118)) (.string (I k)) 76)
  have hm0 := two_new0 ((w.alloc (.cells #[.slice (some ⟨gx, 0, none⟩) n ca, .slice (some ⟨gy, 0, none⟩) N cb] 118)).alloc (.cells #[.string (I k)] 76)) vx vy 118
  have hm1 := two_new1 ((w.alloc (.cells #[.slice (some ⟨gx, 0, none⟩) n ca, .slice (some ⟨gy, 0, none⟩) N cb] 118)).alloc (.cells #[.string (I k)] 76)) vx vy 118
  simp only [World.size_alloc] at hbk hm0 hm1
  generalize hw1 : ((w.alloc (.cells #[.slice (some ⟨gx, 0, none⟩) n ca, .slice (some ⟨gy, 0, none⟩) N cb] 118)).alloc (.cells #[.string (I k)] 76)).alloc (.cells #[vx, vy] 118) = W1 at *
  by_cases hk0 : k = 0
  · have hq1 : ((I k).toList == [48]) = true := by rw [hzk, decide_eq_true hk0]
    have hz : ∀ {a b : List Int} {n : Nat}, a.length = n → b.length = n → List.zipWith (fun x y => x - k * y) a b = a := by
      subst hk0
      intro a b n ha hb
      apply List.ext_getElem
      · simp; omega
      · intro i h1 h2; simp
    rw [hz ha hb, hz ha' hb']
    have Hox := Lib.hid (hE1.own hox); have Hoy := Lib.hid (hE1.own hoy); have HD := Lib.hid (Duo.of (g := gx) (h := gy) hE1)
    clear hox hoy hvx hvy hzk hk0 fk fa fb fm fa' fb' fm' hz
    go_enter Tryz.func103, Tryz.ntmps103
    go_wp2
    (try simp only [Exit.inBlock, Exit.then])
    refine bodyPost_ret (results_none rfl _ _ _) rfl ?_
    exact ⟨⟨_, rfl⟩, Hox.out, Hoy.out, HD.out⟩
  · have hq1 : ((I k).toList == [48]) = false := by rw [hzk, decide_eq_false hk0]
    have hD1 : Duo w W1 gx gy := Duo.of hE1
    have hl1 := less1_c gx n ca (w.heap.size + 1) vx k a b w0 W1 B he (h0.trans hE1) hB ha hb hn (hE1.own hox) (fun W h => hvx W (hD1.trans (Duo.left h))) (fun W h => h.cell hbk (by simp; omega)) fk fa fb fm
    have hl2 := fun W2 (hg : W1.grownBy W2 (some gx)) => less1_c gy N cb (w.heap.size + 1) vy k a' b' w0 W2 B he ((Duo.left (h := gx) hg).ext (h0.trans hE1) (by omega) (by omega)) hB ha' hb' hN (World.ownsRow.kept (hE1.own hoy) hg (.inr fun e => hne (by injection e with e; exact e.symm))) (fun W h => hvy W ((hD1.trans (Duo.left hg)).trans (Duo.right h))) (fun W h => h.cell (hg.cell hbk (by simp; omega)) (by simp; omega)) fk fa' fb' fm'
    have Hl1 := Lib.hid hl1; have Hl2 := Lib.hid hl2; have HD1 := Lib.hid hD1; have Hb1 := Lib.hid hb1; have Hm1 := Lib.hid hm1; have Hgw := Lib.hid hgw; have Hhw := Lib.hid hhw; have Hne := Lib.hid hne
    clear hl1 hl2 hox hoy hvx hvy hzk hk0 fk fa fb fm fa' fb' fm' hD1 hne
    go_enter Tryz.func103, Tryz.ntmps103
    go_wp2_with fail
    refine Hl1.out.mono ?_
    rintro e W2 ⟨⟨v2, rfl⟩, hown2, hg2⟩
    have hb12 := hg2.cell Hb1.out (by have := Hgw.out; simp; omega)
    have hm12 := hg2.cell Hm1.out (by have := Hgw.out; simp; omega)
    have Hown2 := Lib.hid hown2; have Hg2 := Lib.hid hg2
    have Hl22 := Lib.hid (Hl2.out W2 hg2)
    clear hown2 hg2
    go_wp2_with fail
    refine Hl22.out.mono ?_
    rintro e W3 ⟨⟨v3, rfl⟩, hown3, hg3⟩
    have Hown3 := Lib.hid hown3; have Hown23 := Lib.hid (World.ownsRow.kept Hown2.out hg3 (.inr fun e => Hne.out (by injection e with e)))
    have HD3 := Lib.hid ((HD1.out.trans (Duo.left Hg2.out)).trans (Duo.right hg3))
    clear hown3 hg3
    go_wp2
    go_end0
    exact ⟨⟨_, rfl⟩, Hown23.out, Hown3.out, HD3.out⟩

/-- A line: the blocks and capacities of its slices, its row, and its sum. -/
structure Li where
  g : Nat
  cg : Nat
  h : Nat
  ch : Nat
  x : List Int
  b : List Int
def Li.u (n : Nat) (e : Li) : Value := .slice (some ⟨e.g, 0, none⟩) n e.cg
def Li.y (N : Nat) (e : Li) : Value := .slice (some ⟨e.h, 0, none⟩) N e.ch
def lic (n N : Nat) (ls : List Li) : List Value := ls.flatMap fun e => [e.u n, e.y N]
theorem lic_app (n N : Nat) (ls : List Li) (e : Li) : lic n N (ls ++ [e]) = lic n N ls ++ [e.u n, e.y N] := by simp [lic]
def LiRow (w : World) (B n N : Nat) (e : Li) : Prop := w.ownsRow B 76 1 (e.u n) n (strs e.x) ∧ w.ownsRow B 76 1 (e.y N) N (strs e.b)
def liBlks (ls : List Li) : List Nat := ls.flatMap fun e => [e.g, e.h]
/-- A slice of lines that lie apart from each other. -/
def LiS (w : World) (B n N : Nat) (v : Value) (ls : List Li) : Prop := w.ownsRow B 118 2 v ls.length (lic n N ls) ∧ (∀ e ∈ ls, LiRow w B n N e) ∧ (liBlks ls).Nodup
theorem LiRow.ext {w w' : World} (hx : Ext w w') {B n N : Nat} {e : Li} (h : LiRow w B n N e) : LiRow w' B n N e := ⟨hx.own h.1, hx.own h.2⟩
theorem LiS.ext {w w' : World} (hx : Ext w w') {B n N : Nat} {v : Value} {ls : List Li} (h : LiS w B n N v ls) : LiS w' B n N v ls := ⟨hx.own h.1, fun e he => (h.2.1 e he).ext hx, h.2.2⟩

end Go.Proofs.YtkamjjjimbbdmaaGreatDoor

namespace Go.Proofs.YtkamjjjimbbdmaaGreatDoor
open Go.RowKit Go.Lib Go.Shelf

theorem I_one : I 1 = ⟨#[49]⟩ := by rw [show (1 : Int) = ((1 : Nat) : Int) by rfl, I_nat, D_one]
theorem I_zero : I 0 = ⟨#[48]⟩ := by rw [show (0 : Int) = ((0 : Nat) : Int) by rfl, I_nat, D_zero]
theorem rep_own {w : World} {g n : Nat} (h : w.heap[g]? = some (.cells (repRow n n (.string ⟨#[48]⟩) (.string ByteArray.empty)).toArray 76 (0, 0))) (hn : n ≤ maxLen) : w.ownsRow g 76 1 (.slice (some ⟨g, 0, none⟩) n n) n (strs (List.replicate n 0)) := by
  have e : repRow n n (Value.string ⟨#[48]⟩) (.string ByteArray.empty) = strs (List.replicate n 0) := by
    unfold repRow strs
    rw [Nat.sub_self, List.replicate_zero, List.append_nil, List.map_replicate, I_zero]
  rw [e] at h
  refine ⟨by simp [strs], .inr ⟨g, n, _, rfl, Nat.le_refl _, h, Nat.le_refl _, hn, by simp [strs], ?_⟩⟩
  rw [Nat.mul_one, List.take_of_length_le (by simp [strs])]
theorem own_aside {w : World} {B E s n q c : Nat} {xs : List Value} (h : w.ownsRow B E s (.slice (some ⟨q, 0, none⟩) n c) n xs) {p : Addr} (hp : q ≠ p.block) (u : Value) : (w.setCell p u).ownsRow B E s (.slice (some ⟨q, 0, none⟩) n c) n xs :=
  World.ownsRow.kept h (⟨rfl, rfl, rfl, by simp, fun i _ hne => heap_setCell_other w p i u (fun e => hne (by rw [e]))⟩ : w.grownBy (w.setCell p u) (some p.block)) (.inr fun e => hp (by injection e))
theorem liBlks_app (ls : List Li) (e : Li) : liBlks (ls ++ [e]) = liBlks ls ++ [e.g, e.h] := by simp [liBlks]

set_option maxRecDepth 100000 in
set_option maxHeartbeats 2000000 in
theorem lines2_c (vm : Value) (m : List (List Int)) (n : Nat) (w : World) (he : Env w) (hm : Mat w vm m) (hlen : ∀ x ∈ m, x.length = n) (hb : ∀ x ∈ m, ∀ z ∈ x, -1000000000 ≤ z ∧ z ≤ 1000000000) (hn : n ≤ 1000) (hml : m.length ≤ 1000) (hnp : 0 < n) :
    Calls Tryz.prog 67 #[vm] w fun e w' => ∃ v, e = .returned v ∧ ∃ ls, LiS w' w.heap.size n m.length v ls ∧ ls.map Li.x = m ∧ (∀ e ∈ ls, ∀ z ∈ e.b, z.natAbs ≤ 1) ∧ Ext w w' := by
  obtain ⟨i0, hi, hz0, hz1, hz2⟩ := info_parts info_string
  obtain ⟨j0, hj, hy0, hy1, hy2⟩ := info_parts info_line
  obtain ⟨vs, hvs, hsl, hr⟩ := hm
  obtain ⟨am, cm, rfl, _, hlc, hcm⟩ := hsl.parts
  rw [hvs] at hlc ⊢
  have He := Lib.hid he; have Hcm := Lib.hid hcm; have Hr := Lib.hid hr; have Hlen := Lib.hid hlen; have Hvs := Lib.hid hvs; have Hb := Lib.hid hb
  clear hcm hsl hr hlen hvs he hb
  go_enter Tryz.func67, Tryz.ntmps67
  go_wp2_with fail
  go_loopw [3, 11] (fun v3 v11 wr => ∃ (k : Nat) (ls : List Li), v11 = .int .i64 k ∧ k ≤ m.length ∧ ls.length = k ∧ LiS wr w.heap.size n m.length v3 ls ∧ ls.map Li.x = m.take k ∧ (∀ e ∈ ls, ∀ z ∈ e.b, z.natAbs ≤ 1) ∧ Ext w wr) (fun _ v11 _ => m.length - (intOf v11).toNat)
  case atStart => exact ⟨0, [], rfl, Nat.zero_le _, rfl, ⟨World.ownsRow_nil _ _ _ _, (fun e he => by cases he), List.nodup_nil⟩, rfl, (fun e he => by cases he), Ext.refl _⟩
  case round =>
    obtain ⟨k, ls, rfl, hk, hlk, hls, hmap, hbb, hext⟩ := hrel
    have Hbb := Lib.hid hbb; clear hbb
    have Hls := Lib.hid hls; have Hext := Lib.hid hext; have Hmap := Lib.hid hmap; have Hlk := Lib.hid hlk
    have hls1 := hls.1
    rw [hlk] at hls1
    obtain ⟨a3, c3, rfl⟩ := own_shape hls1
    clear hls hls1 hext hmap hlk
    obtain ⟨wa, hwa⟩ : ∃ wa, wa = wr := ⟨_, rfl⟩
    subst hwa
    by_cases hkl : k < m.length
    · obtain ⟨u, hu⟩ : ∃ u, vs[k]? = some u := ⟨_, List.getElem?_eq_getElem (by rw [Hvs.out]; exact hkl)⟩
      obtain ⟨bm, om, e1, hcu⟩ := Hcm.out k u hu
      subst e1
      have hs := Hr.out k u hu
      have hmem : m.getD k [] ∈ m := by rw [List.getD_eq_getElem?_getD, List.getElem?_eq_getElem hkl]; exact List.getElem_mem hkl
      have hxl := Hlen.out _ hmem
      have hxb := Hb.out _ hmem
      have hmk : m.take (k + 1) = m.take k ++ [m.getD k []] := by
        rw [List.take_succ_eq_append_getElem hkl, List.getD_eq_getElem?_getD, List.getElem?_eq_getElem hkl]; rfl
      generalize m.getD k [] = x at *
      obtain ⟨ax, cx, rfl, _, _, hcx⟩ := hs.parts
      rw [i64s_length] at hcu hs
      have h1 := Hext.out.cell hcu
      have Hs := Lib.hid hs; have Hxl := Lib.hid hxl; have Hcx := Lib.hid hcx; have Hxb := Lib.hid hxb; have Hmk := Lib.hid hmk
      have hxl2 : x.length ≤ 1000 := by omega
      clear hcu hs hcx hu hxl hxb hmk hmem
      have hk0 : (0 : Int) ≤ (k : Int) := by omega
      have hk1 : (k : Int) < (m.length : Int) := by omega
      have hmp : 0 < m.length := by omega
      have hE1 : Ext wa (wa.alloc (.cells #[.string ⟨#[48]⟩] 76)) := (Ext.refl wa).alloc _
      have hrep := repeat_c wa.heap.size (.string ⟨#[48]⟩) _ rfl rfl m.length (wa.alloc (.cells #[.string ⟨#[48]⟩] 76)) hml hmp (box_new wa _ _)
      have hs1 : (wa.alloc (.cells #[.string ⟨#[48]⟩] 76)).heap.size = wa.heap.size + 1 := by rw [World.size_alloc]
      generalize hw1 : wa.alloc (.cells #[.string ⟨#[48]⟩] 76) = W1 at *
      rw [hs1] at hrep
      have HE1 := Lib.hid hE1; have Hrep := Lib.hid hrep; have Hs1 := Lib.hid hs1
      clear hE1 hrep hs1
      go_wp2_with fail
      refine Hrep.out.mono ?_
      rintro e W2 ⟨rfl, hh2, hx2⟩
      have HE2 := Lib.hid (HE1.out.trans hx2)
      have Hh2 := Lib.hid hh2
      have hrk : (repRow m.length m.length (.string ⟨#[48]⟩) (.string ByteArray.empty))[k]? = some (.string ⟨#[48]⟩) := by
        unfold repRow
        rw [List.getElem?_append_left (by rw [List.length_replicate]; exact hkl), List.getElem?_replicate, if_pos hkl]
      have hlt2 := (Array.getElem?_eq_some_iff.1 hh2).1
      have Hlt2 := Lib.hid hlt2
      have hbx : LnBox (W2.alloc (.cells #[.slice none 0 0, .slice (some ⟨wa.heap.size + 1, 0, none⟩) m.length m.length] 118)) W2.heap.size (.slice none 0 0) (.slice (some ⟨wa.heap.size + 1, 0, none⟩) m.length m.length) := LnBox.new _ _ _
      have hE3 : Ext wa (W2.alloc (.cells #[.slice none 0 0, .slice (some ⟨wa.heap.size + 1, 0, none⟩) m.length m.length] 118)) := HE2.out.alloc _
      have hh3 := (((Ext.refl W2).alloc (.cells #[.slice none 0 0, .slice (some ⟨wa.heap.size + 1, 0, none⟩) m.length m.length] 118)).block _ hlt2).trans hh2
      have hsz : W2.heap.size < (W2.alloc (.cells #[.slice none 0 0, .slice (some ⟨wa.heap.size + 1, 0, none⟩) m.length m.length] 118)).heap.size := by rw [World.size_alloc]; omega
      have hwz : wa.heap.size ≤ W2.heap.size := HE2.out.size
      generalize hw3 : W2.alloc (.cells #[.slice none 0 0, .slice (some ⟨wa.heap.size + 1, 0, none⟩) m.length m.length] 118) = W3 at *
      have hc3 := row_cell hh3 hrk
      have hy3 := rep_own hh3 (by unfold maxLen; omega)
      have hy4 := (World.ownsRow.stored hy3 k (.string ⟨#[49]⟩)).1
      rw [← I_one, strs_set, I_one] at hy4
      clear hy3
      have hf3 := frozen_of_row W3 _ k _ _ hh3
      have hb1 := hbx.cell1
      have hE4 : Ext wa (W3.setCell ⟨wa.heap.size + 1, k, none⟩ (.string ⟨#[49]⟩)) := hE3.setCell (by simp) _
      have hbx4 : LnBox (W3.setCell ⟨wa.heap.size + 1, k, none⟩ (.string ⟨#[49]⟩)) W2.heap.size (.slice none 0 0) (.slice (some ⟨wa.heap.size + 1, 0, none⟩) m.length m.length) := hbx.past (by simp; omega) _
      have hsz4 : (W3.setCell ⟨wa.heap.size + 1, k, none⟩ (.string ⟨#[49]⟩)).heap.size = W3.heap.size := by simp
      generalize hw4 : W3.setCell ⟨wa.heap.size + 1, k, none⟩ (.string ⟨#[49]⟩) = W4 at *
      have Hy4 := Lib.hid hy4; clear hy4
      have HE4 := Lib.hid hE4; have Hbx4 := Lib.hid hbx4; have Hwz := Lib.hid hwz
      have Hsz4 : Hid (W2.heap.size < W4.heap.size) := Lib.hid (by rw [hsz4]; exact hsz)
      have Hsz3 := Lib.hid hsz4
      clear hE4 hbx4 hx2 hh2 hrk hh3 hE3 hbx hsz hsz4 hwz hlt2
      go_wp2_with fail
      go_loopw [27] (fun v27 wi => ∃ (j : Nat) (a : Option Addr) (c : Nat), v27 = .int .i64 j ∧ j ≤ x.length ∧ LnBox wi W2.heap.size (.slice a j c) (.slice (some ⟨wa.heap.size + 1, 0, none⟩) m.length m.length) ∧ wi.ownsRow (W2.heap.size + 1) 76 1 (.slice a j c) j (strs (x.take j)) ∧ wi.ownsRow (wa.heap.size + 1) 76 1 (.slice (some ⟨wa.heap.size + 1, 0, none⟩) m.length m.length) m.length (strs ((List.replicate m.length 0).set k 1)) ∧ Ext wa wi) (fun v27 _ => x.length - (intOf v27).toNat)
      case atStart => exact ⟨0, none, 0, rfl, Nat.zero_le _, Hbx4.out, World.ownsRow_nil _ _ _ _, Hy4.out, HE4.out⟩
      case round =>
        obtain ⟨j, a, c, rfl, hj2, hbx, hown, hyy, hE⟩ := hrel
        have Hyy := Lib.hid hyy; clear hyy
        have Hbx := Lib.hid hbx; have Hown := Lib.hid hown; have HE := Lib.hid hE
        clear hbx hown hE
        have hbl := Hbx.out.lt
        by_cases hjl : j < x.length
        · have hbz := Hxb.out (nthI x j) (nthI_mem' hjl)
          obtain ⟨b3, o3, e3, hcj⟩ := Hcx.out j _ (i64s_at hjl)
          subst e3
          have h2 := (Hext.out.trans HE.out).cell hcj
          have htk : strs (x.take (j + 1)) = strs (x.take j) ++ [.string (I (nthI x j))] := by
            rw [List.take_succ_eq_append_getElem hjl, strs_app]
            congr 3
            unfold nthI
            rw [List.getD_eq_getElem?_getD, List.getElem?_eq_getElem hjl]; rfl
          generalize nthI x j = z at *
          have Htk := Lib.hid htk
          have hEd : Ext wa wr.drew := HE.out.drew
          have hbd : LnBox wr.drew W2.heap.size (.slice a j c) (.slice (some ⟨wa.heap.size + 1, 0, none⟩) m.length m.length) := Hbx.out
          have hod : wr.drew.ownsRow (W2.heap.size + 1) 76 1 (.slice a j c) j (strs (x.take j)) := Hown.out
          have hof := wholeOf_c z (by omega) (by omega) wr.drew (He.out.ext (Hext.out.trans hEd))
          have hwd : W2.heap.size + 1 ≤ wr.drew.heap.size := hbl
          have Hof := Lib.hid hof; have HEd := Lib.hid hEd; have Hbd := Lib.hid hbd; have Hod := Lib.hid hod; have Hwd := Lib.hid hwd
          have hc0 := hbd.cell0
          have hj0 : (0 : Int) ≤ (j : Int) := by omega
          have hj1 : (j : Int) < (x.length : Int) := by omega
          have hm1 : j + 1 ≤ maxLen := by unfold maxLen; omega
          have hm2 : (j + 1) * 16 ≤ 140737488355328 := by omega
          clear hbz hcj htk hEd hbd hod hof hwd
          go_wp2_with fail
          go_region_law (first
            | (go_simp; go_at_call 41; refine Hof.out.mono ?_; rintro e V1 ⟨rfl, hx1⟩; have hbV := Hbd.out.ext hx1; have HbV := Lib.hid (hbV.ext ((Ext.refl V1).alloc (.cells #[.string (I z)] 76))); have Hown2 := Lib.hid (((Ext.refl V1).alloc (.cells #[.string (I z)] 76)).own (hx1.own Hod.out)); have hcV := hbV.cell0; have hcA := HbV.out.cell0; have Hsz := Lib.hid (Nat.le_trans Hwd.out (hx1.alloc (.cells #[.string (I z)] 76)).size); have HEV := Lib.hid ((HEd.out.trans hx1).alloc (.cells #[.string (I z)] 76)); have Hyv := Lib.hid (((Ext.refl V1).alloc (.cells #[.string (I z)] 76)).own (hx1.own (show wr.drew.ownsRow _ _ _ _ _ _ from Hyy.out))); have Hnews := Lib.hid (cell_one_new V1 (.string (I z)) 76); clear hx1 hbV)
            | (refine step_append_lies _ rfl (.tmp 32) (.tmp 35) 116 rfl (W2.heap.size + 1) 76 i0 (.string ByteArray.empty) 1 16 Tryz.underlying116 hi hz0 hz1 hz2 rfl (by decide) (.slice a j c) j (strs (x.take j)) (by simp [Act.eval]) Hown2.out ⟨V1.heap.size, 0, none⟩ 1 1 [.string (I z)] (by simp [Act.eval]) rfl Hnews.out (by simp [Value.oneCell']) (by decide) hm1 hm2 Hsz.out _ rfl ?_; intro g1 c1 V3 hown3 hgrow3 hat3 hlt3; have hb3 := HbV.out.grown hgrow3 (fun e => by have := (World.ownsRow.lt Hown2.out _ e).1; omega); have hc3 := hb3.cell0; have hf3 := hb3.frozen 0; have Hy3 := Lib.hid (World.ownsRow.kept Hyv.out hgrow3 (.inr fun e => by have h9 : W2.heap.size + 1 ≤ wa.heap.size + 1 := (World.ownsRow.lt Hown2.out _ e.symm).1; have := Hlt2.out; omega)); have Hb3 := Lib.hid hb3; have Hown3 := Lib.hid hown3; have HE3 := Lib.hid (HEV.out.grown hgrow3 (fun q e => by have := (World.ownsRow.lt Hown2.out _ e).1; have := Hwz.out; omega)); clear hb3 hown3 hgrow3 hat3 hlt3))
          all_goals
            have hown4 := own_past (p := ⟨W2.heap.size, 0, none⟩) Hown3.out (by simp) (.slice (some ⟨g1, 0, none⟩) (j + 1) c1)
            have hy4 := own_aside (p := ⟨W2.heap.size, 0, none⟩) Hy3.out (by have := Hlt2.out; simp; omega) (.slice (some ⟨g1, 0, none⟩) (j + 1) c1)
            have hb4 := Hb3.out.put (.slice (some ⟨g1, 0, none⟩) (j + 1) c1)
            have hE4 := HE3.out.setCell (p := ⟨W2.heap.size, 0, none⟩) Hwz.out (.slice (some ⟨g1, 0, none⟩) (j + 1) c1)
            rw [← Htk.out] at hown4
            have Hown4 := Lib.hid hown4; have Hb4 := Lib.hid hb4; have HE4' := Lib.hid hE4; have Hy5 := Lib.hid hy4
            clear hown4 hb4 hE4 hy4
            generalize V3.setCell ⟨W2.heap.size, 0, none⟩ (.slice (some ⟨g1, 0, none⟩) (j + 1) c1) = V4 at *
            go_wp2_with fail
            go_roundw
            case rel => exact ⟨j + 1, some ⟨g1, 0, none⟩, c1, by go_num, by omega, Hb4.out, Hown4.out, Hy5.out, HE4'.out⟩
            case measure => simp [intOf]; omega
        · obtain rfl : j = x.length := by omega
          obtain ⟨gx, cx2, ex, _⟩ := own_slice Hown.out (by rw [Hxl.out]; exact hnp)
          injection ex with ex1 _ ex3
          subst ex1; subst ex3
          have hbd := Hbx.out
          have hc0 := hbd.cell0
          have hc1 := hbd.cell1
          clear hbd
          have hls6 : wr.ownsRow w.heap.size 118 2 (.slice a3 k c3) k (lic n m.length ls) := HE.out.own (by have := Hls.out.1; rwa [Hlk.out] at this)
          have Hls6 := Lib.hid hls6
          have hm3 : k + 1 ≤ maxLen := by unfold maxLen; omega
          have hm4 : (k + 1) * 48 ≤ 140737488355328 := by omega
          have hw0 := (Hext.out.trans HE.out).size
          clear hls6
          go_wp2_with (at_builtin; refine wpList_append_own _ rfl _ _ 112 rfl w.heap.size 118 j0 (.agg #[.slice none 0 0, .slice none 0 0]) 2 48 Tryz.underlying112 hj hy0 hy1 hy2 rfl (by decide) _ _ _ rfl (Hls6.out.alloc _) ⟨wr.heap.size, 0, none⟩ 1 1 [.slice (some ⟨gx, 0, none⟩) x.length c, .slice (some ⟨wa.heap.size + 1, 0, none⟩) m.length m.length] rfl rfl (cell_two_new _ _ _ _) (by simp [Value.oneCell']) hm3 hm4 (by rw [World.size_alloc]; omega) ?_; intro v7 W7 hown7 hgrow7 _)
          obtain ⟨g7, c7, rfl⟩ := ownsRow_succ hown7
          have hE7 : Ext w W7 := ((Hext.out.trans HE.out).alloc _).grown hgrow7 (fun q hq => (World.ownsRow.lt Hls6.out q hq).1)
          have hkeep : ∀ e ∈ ls, LiRow W7 w.heap.size n m.length e := fun e he =>
            ⟨World.ownsRow.kept ((HE.out.own (Hls.out.2.1 e he).1).alloc _) hgrow7 (own_ne (HE.out.own (Hls.out.2.1 e he).1) Hls6.out (by decide)), World.ownsRow.kept ((HE.out.own (Hls.out.2.1 e he).2).alloc _) hgrow7 (own_ne (HE.out.own (Hls.out.2.1 e he).2) Hls6.out (by decide))⟩
          have hwa : w.heap.size ≤ wa.heap.size := Hext.out.size
          have hnew : W7.ownsRow w.heap.size 76 1 (.slice (some ⟨gx, 0, none⟩) n c) n (strs x) := by
            have h0 : wr.ownsRow w.heap.size 76 1 (.slice (some ⟨gx, 0, none⟩) n c) n (strs x) := by
              have := own_mono Hown.out (B' := w.heap.size) (by have := Hwz.out; omega)
              rwa [List.take_length, Hxl.out] at this
            exact World.ownsRow.kept (h0.alloc _) hgrow7 (own_ne h0 Hls6.out (by decide))
          have hnewy : W7.ownsRow w.heap.size 76 1 (.slice (some ⟨wa.heap.size + 1, 0, none⟩) m.length m.length) m.length (strs ((List.replicate m.length 0).set k 1)) := by
            have h0 := own_mono Hyy.out (B' := w.heap.size) (by omega)
            exact World.ownsRow.kept (h0.alloc _) hgrow7 (own_ne h0 Hls6.out (by decide))
          have hgx := (World.ownsRow.lt Hown.out gx rfl).1
          rw [Hxl.out] at hown7
          have Hown7 := Lib.hid hown7; have HE7 := Lib.hid hE7; have Hkeep := Lib.hid hkeep; have Hnew := Lib.hid hnew; have Hnewy := Lib.hid hnewy; have Hgx := Lib.hid hgx; have Hwa := Lib.hid hwa
          clear hown7 hE7 hkeep hnew hgrow7 hnewy hgx hwa
          go_wp2_with fail
          go_roundw
          case rel =>
            refine ⟨k + 1, ls ++ [⟨gx, c, wa.heap.size + 1, m.length, x, (List.replicate m.length 0).set k 1⟩], by go_num, by omega, by rw [List.length_append, Hlk.out]; rfl, ⟨?_, ?_, ?_⟩, ?_, ?_, HE7.out⟩
            · rw [List.length_append, Hlk.out, lic_app]
              exact Hown7.out
            · intro e he
              rcases List.mem_append.1 he with h | h
              · exact Hkeep.out e h
              · obtain rfl := List.mem_singleton.1 h
                exact ⟨Hnew.out, Hnewy.out⟩
            · have hold : ∀ q ∈ liBlks ls, q < wa.heap.size := fun q hq => by
                obtain ⟨e, he, hq⟩ := List.mem_flatMap.1 hq
                have h1 := Hls.out.2.1 e he
                rcases List.mem_cons.1 hq with rfl | hq
                · exact (World.ownsRow.lt h1.1 _ rfl).2
                · obtain rfl := List.mem_singleton.1 hq
                  exact (World.ownsRow.lt h1.2 _ rfl).2
              rw [liBlks_app]
              refine List.nodup_append.2 ⟨Hls.out.2.2, ?_, ?_⟩
              · have := Hgx.out; have := Hlt2.out
                simp; omega
              · intro p hp q hq
                have h1 := hold p hp
                have := Hgx.out; have := Hlt2.out
                simp at hq
                rcases hq with rfl | rfl <;> omega
            · rw [List.map_append, Hmap.out, Hmk.out]; rfl
            · intro e he
              rcases List.mem_append.1 he with h | h
              · exact Hbb.out e h
              · obtain rfl := List.mem_singleton.1 h
                intro z hz
                rcases List.mem_or_eq_of_mem_set hz with g | rfl
                · rw [List.eq_of_mem_replicate g]; decide
                · decide
          case measure => simp [intOf]; omega
    · obtain rfl : k = m.length := by omega
      go_wp2
      go_ret
      exact ⟨_, rfl, ls, Hls.out, by rw [Hmap.out, List.take_length], Hbb.out, Hext.out⟩

end Go.Proofs.YtkamjjjimbbdmaaGreatDoor
