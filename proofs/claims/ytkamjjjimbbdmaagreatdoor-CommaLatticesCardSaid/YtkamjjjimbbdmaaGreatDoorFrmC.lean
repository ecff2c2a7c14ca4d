/- Lines that lie apart: their cells, an update, an exchange; one pass of a sweep. Plain: what stays through the rounds of a sweep. Plain: what echelon keeps, and that its end is a form. -/
import Derived.Test.YtkamjjjimbbdmaaGreatDoorTurn
namespace Go.Proofs.YtkamjjjimbbdmaaGreatDoor
open Go.RowKit Go.Lib Go.Shelf

theorem mem_drop_iff {α : Type} {l : List α} {d : Nat} {e : α} : e ∈ l.drop d ↔ ∃ i, d ≤ i ∧ l[i]? = some e := by
  constructor
  · intro h
    obtain ⟨k, hk, he⟩ := List.getElem_of_mem h
    refine ⟨d + k, by omega, ?_⟩
    rw [← he, ← List.getElem?_drop, List.getElem?_eq_getElem hk]
  · rintro ⟨i, hi, h⟩
    refine List.mem_of_getElem? (i := i - d) ?_
    rw [List.getElem?_drop, show d + (i - d) = i by omega]
    exact h
def LiApart (ls : List Li) : Prop := (∀ (i j : Nat) (e f : Li), ls[i]? = some e → ls[j]? = some f → i ≠ j → e.g ≠ f.g ∧ e.g ≠ f.h ∧ e.h ≠ f.g ∧ e.h ≠ f.h) ∧ ∀ e ∈ ls, e.g ≠ e.h
theorem mem_liBlks {ls : List Li} {e : Li} (h : e ∈ ls) : e.g ∈ liBlks ls ∧ e.h ∈ liBlks ls := ⟨List.mem_flatMap.2 ⟨e, h, by simp⟩, List.mem_flatMap.2 ⟨e, h, by simp⟩⟩
theorem apart_of_nodup : ∀ (ls : List Li), (liBlks ls).Nodup → LiApart ls
  | [], _ => ⟨fun i j e f h => by simp at h, fun e h => by cases h⟩
  | a :: t, h => by
    have e1 : liBlks (a :: t) = a.g :: a.h :: liBlks t := rfl
    rw [e1, List.nodup_cons, List.nodup_cons] at h
    obtain ⟨h1, h2, h3⟩ := h
    have ih := apart_of_nodup t h3
    have hg : ∀ f ∈ t, a.g ≠ f.g ∧ a.g ≠ f.h ∧ a.h ≠ f.g ∧ a.h ≠ f.h := fun f hf => by
      obtain ⟨g1, g2⟩ := mem_liBlks hf
      exact ⟨fun e => h1 (by rw [e]; exact List.mem_cons_of_mem _ g1), fun e => h1 (by rw [e]; exact List.mem_cons_of_mem _ g2), fun e => h2 (by rw [e]; exact g1), fun e => h2 (by rw [e]; exact g2)⟩
    refine ⟨fun i j e f hi hj hne => ?_, fun e he => ?_⟩
    · cases i with
      | zero =>
        cases j with
        | zero => exact absurd rfl hne
        | succ j =>
          simp at hi hj; subst hi
          exact hg f (List.mem_of_getElem? hj)
      | succ i =>
        cases j with
        | zero =>
          simp at hi hj; subst hj
          obtain ⟨k1, k2, k3, k4⟩ := hg e (List.mem_of_getElem? hi)
          exact ⟨k1.symm, k3.symm, k2.symm, k4.symm⟩
        | succ j =>
          simp at hi hj
          exact ih.1 i j e f hi hj (fun q => hne (by omega))
    · rcases List.mem_cons.1 he with rfl | he
      · exact fun q => h1 (by rw [q]; exact List.mem_cons_self)
      · exact ih.2 e he

theorem lic_at (n N : Nat) : ∀ (es : List Li) (k : Nat) (e : Li), es[k]? = some e → (lic n N es)[k * 2]? = some (e.u n) ∧ (lic n N es)[k * 2 + 1]? = some (e.y N)
  | [], _, _, h => by simp at h
  | a :: t, 0, e, h => by simp at h; subst h; exact ⟨rfl, rfl⟩
  | a :: t, k + 1, e, h => by
    have := lic_at n N t k e (by simpa using h)
    rw [show (k + 1) * 2 = k * 2 + 1 + 1 by omega]
    simpa [lic] using this
theorem lic_set (n N : Nat) : ∀ (ls : List Li) (i : Nat) (f : Li), lic n N (ls.set i f) = ((lic n N ls).set (i * 2) (f.u n)).set (i * 2 + 1) (f.y N)
  | [], i, f => by simp [lic]
  | a :: t, 0, f => by simp [lic]
  | a :: t, i + 1, f => by
    have := lic_set n N t i f
    rw [show (i + 1) * 2 = i * 2 + 1 + 1 by omega, List.set_cons_succ]
    simpa [lic] using this
theorem lic_same (n N : Nat) {ls : List Li} {i : Nat} {e f : Li} (he : ls[i]? = some e) (h1 : f.g = e.g) (h2 : f.cg = e.cg) (h3 : f.h = e.h) (h4 : f.ch = e.ch) : lic n N (ls.set i f) = lic n N ls := by
  have eu : f.u n = e.u n := by unfold Li.u; rw [h1, h2]
  have ey : f.y N = e.y N := by unfold Li.y; rw [h3, h4]
  obtain ⟨a1, a2⟩ := lic_at n N ls i e he
  rw [lic_set, eu, ey]
  have s1 : (lic n N ls).set (i * 2) (e.u n) = lic n N ls := by
    obtain ⟨hl, hq⟩ := List.getElem?_eq_some_iff.1 a1
    rw [← hq]; exact List.set_getElem_self hl
  have s2 : (lic n N ls).set (i * 2 + 1) (e.y N) = lic n N ls := by
    obtain ⟨hl, hq⟩ := List.getElem?_eq_some_iff.1 a2
    rw [← hq]; exact List.set_getElem_self hl
  rw [s1, s2]

structure LiT (w : World) (B n N gs cap : Nat) (ls : List Li) : Prop where
  own : w.ownsRow B 118 2 (.slice (some ⟨gs, 0, none⟩) ls.length cap) ls.length (lic n N ls)
  rows : ∀ e ∈ ls, LiRow w B n N e
  apart : LiApart ls
section
variable {w w' : World} {B n N gs cap : Nat} {ls : List Li}
theorem LiT.ext (h : LiT w B n N gs cap ls) (hx : Ext w w') : LiT w' B n N gs cap ls := ⟨hx.own h.own, fun e he => (h.rows e he).ext hx, h.apart⟩
theorem LiT.at (h : LiT w B n N gs cap ls) {i : Nat} {e : Li} (he : ls[i]? = some e) : w.cell? ⟨gs, i * 2, none⟩ = some (e.u n) ∧ w.cell? ⟨gs, i * 2 + 1, none⟩ = some (e.y N) := by
  obtain ⟨a1, a2⟩ := lic_at n N ls i e he
  obtain ⟨g, c, eg, hc⟩ := sm_slice h.own (by have := (List.getElem?_eq_some_iff.1 he).1; omega)
  injection eg with e1 _ _
  injection e1 with e1
  injection e1 with e1
  subst e1
  exact ⟨hc _ _ a1, hc _ _ a2⟩
theorem LiT.gs_ne (h : LiT w B n N gs cap ls) {e : Li} (he : e ∈ ls) : gs ≠ e.g ∧ gs ≠ e.h := by
  have h1 := own_ne (h.rows e he).1 h.own (by decide)
  have h2 := own_ne (h.rows e he).2 h.own (by decide)
  refine ⟨fun q => ?_, fun q => ?_⟩
  · rcases h1 with g | g
    · cases g
    · exact g (by rw [q]; rfl)
  · rcases h2 with g | g
    · cases g
    · exact g (by rw [q]; rfl)
theorem LiT.gsB (h : LiT w B n N gs cap ls) : B ≤ gs ∧ gs < w.heap.size := World.ownsRow.lt h.own gs rfl
theorem LiT.rowB (h : LiT w B n N gs cap ls) {e : Li} (he : e ∈ ls) : B ≤ e.g ∧ B ≤ e.h ∧ e.g < w.heap.size ∧ e.h < w.heap.size := by
  have h1 := World.ownsRow.lt (h.rows e he).1 e.g rfl
  have h2 := World.ownsRow.lt (h.rows e he).2 e.h rfl
  exact ⟨h1.1, h2.1, h1.2, h2.2⟩
theorem LiT.upd (h : LiT w B n N gs cap ls) {i : Nat} {e : Li} (he : ls[i]? = some e) (hd : Duo w w' e.g e.h) {x b : List Int} (hx : w'.ownsRow B 76 1 (e.u n) n (strs x)) (hb : w'.ownsRow B 76 1 (e.y N) N (strs b)) :
    LiT w' B n N gs cap (ls.set i { e with x := x, b := b }) := by
  have hi := (List.getElem?_eq_some_iff.1 he).1
  obtain ⟨n1, n2⟩ := h.gs_ne (List.mem_of_getElem? he)
  have hat : ∀ j f, (ls.set i { e with x := x, b := b })[j]? = some f → ∃ f0, ls[j]? = some f0 ∧ f.g = f0.g ∧ f.h = f0.h ∧ (j ≠ i → f = f0) ∧ (j = i → f = { e with x := x, b := b }) := by
    intro j f hf
    rw [List.getElem?_set] at hf
    by_cases g : i = j
    · rw [if_pos g, if_pos (by omega)] at hf
      injection hf with hf
      subst hf; subst g
      exact ⟨e, he, rfl, rfl, fun q => absurd rfl q, fun _ => rfl⟩
    · rw [if_neg g] at hf
      exact ⟨f, hf, rfl, rfl, fun _ => rfl, fun q => absurd q.symm g⟩
  refine ⟨?_, fun f hf => ?_, fun p q f k hf hk hne => ?_, fun f hf => ?_⟩
  · have := hd.kept h.own n1 n2
    rw [List.length_set, lic_same n N (f := { e with x := x, b := b }) he rfl rfl rfl rfl]
    exact this
  · obtain ⟨j, hj⟩ := List.mem_iff_getElem?.1 hf
    obtain ⟨f0, h1, h2, h3, h4, h5⟩ := hat j f hj
    by_cases g : j = i
    · rw [h5 g]; exact ⟨hx, hb⟩
    · rw [h4 g]
      obtain ⟨a1, a2, a3, a4⟩ := h.apart.1 j i f0 e h1 he g
      have hr := h.rows f0 (List.mem_of_getElem? h1)
      exact ⟨hd.kept hr.1 a1 a2, hd.kept hr.2 a3 a4⟩
  · obtain ⟨f0, h1, h2, h3, _⟩ := hat p f hf
    obtain ⟨k0, h4, h5, h6, _⟩ := hat q k hk
    rw [h2, h3, h5, h6]
    exact h.apart.1 p q f0 k0 h1 h4 hne
  · obtain ⟨j, hj⟩ := List.mem_iff_getElem?.1 hf
    obtain ⟨f0, h1, h2, h3, _⟩ := hat j f hj
    rw [h2, h3]
    exact h.apart.2 f0 (List.mem_of_getElem? h1)
/-- Where an element of the exchanged list comes from. -/
def liSwapAt (i j k : Nat) : Nat := if k = j then i else if k = i then j else k
theorem liswap_at {i j : Nat} {e f : Li} (he : ls[i]? = some e) (hf : ls[j]? = some f) (k : Nat) : ((ls.set i f).set j e)[k]? = ls[liSwapAt i j k]? := by
  have hi := (List.getElem?_eq_some_iff.1 he).1
  have hj := (List.getElem?_eq_some_iff.1 hf).1
  unfold liSwapAt
  rw [List.getElem?_set]
  by_cases g : j = k
  · rw [if_pos g, if_pos (by rw [List.length_set]; exact hj), if_pos g.symm, he]
  · rw [if_neg g, if_neg (fun q => g q.symm), List.getElem?_set]
    by_cases g2 : i = k
    · rw [if_pos g2, if_pos hi, if_pos g2.symm, hf]
    · rw [if_neg g2, if_neg (fun q => g2 q.symm)]
theorem liSwapAt_inj {i j a b : Nat} (h : liSwapAt i j a = liSwapAt i j b) : a = b := by unfold liSwapAt at h; split at h <;> split at h <;> (try split at h) <;> (try split at h) <;> omega
theorem LiT.swap (h : LiT w B n N gs cap ls) {i j : Nat} {e f : Li} (he : ls[i]? = some e) (hf : ls[j]? = some f) :
    LiT ((((w.setCell ⟨gs, i * 2, none⟩ (f.u n)).setCell ⟨gs, i * 2 + 1, none⟩ (f.y N)).setCell ⟨gs, j * 2, none⟩ (e.u n)).setCell ⟨gs, j * 2 + 1, none⟩ (e.y N)) B n N gs cap ((ls.set i f).set j e) ∧ w.grownBy ((((w.setCell ⟨gs, i * 2, none⟩ (f.u n)).setCell ⟨gs, i * 2 + 1, none⟩ (f.y N)).setCell ⟨gs, j * 2, none⟩ (e.u n)).setCell ⟨gs, j * 2 + 1, none⟩ (e.y N)) (some gs) := by
  have o1 := World.ownsRow.stored h.own (i * 2) (f.u n)
  have o2 := World.ownsRow.stored o1.1 (i * 2 + 1) (f.y N)
  have o3 := World.ownsRow.stored o2.1 (j * 2) (e.u n)
  have o4 := World.ownsRow.stored o3.1 (j * 2 + 1) (e.y N)
  have hg := ((o1.2.trans o2.2).trans o3.2).trans o4.2
  rw [← lic_set, ← lic_set] at o4
  refine ⟨⟨?_, fun q hq => ?_, fun a b p q hp hq hne => ?_, fun q hq => ?_⟩, hg⟩
  · rw [List.length_set, List.length_set]; exact o4.1
  · obtain ⟨k, hk⟩ := List.mem_iff_getElem?.1 hq
    rw [liswap_at he hf] at hk
    have hm := List.mem_of_getElem? hk
    have hr := h.rows q hm
    obtain ⟨n1, n2⟩ := h.gs_ne hm
    exact ⟨World.ownsRow.kept hr.1 hg (.inr fun q => n1 (Option.some.inj q).symm), World.ownsRow.kept hr.2 hg (.inr fun q => n2 (Option.some.inj q).symm)⟩
  · rw [liswap_at he hf] at hp hq
    exact h.apart.1 _ _ p q hp hq fun g => hne (liSwapAt_inj g)
  · obtain ⟨k, hk⟩ := List.mem_iff_getElem?.1 hq
    rw [liswap_at he hf] at hk
    exact h.apart.2 q (List.mem_of_getElem? hk)
end

/-- A line behind a multiple of another one was taken away. -/
def lessLi (c : Nat) (t e : Li) : Li := { e with x := List.zipWith (fun x y => x - fdv (nthI e.x c) (nthI t.x c) * y) e.x t.x, b := List.zipWith (fun x y => x - fdv (nthI e.x c) (nthI t.x c) * y) e.b t.b }
theorem zip_at {k : Int} {a b : List Int} (h : a.length = b.length) (j : Nat) : nthI (List.zipWith (fun x y => x - k * y) a b) j = nthI a j - k * nthI b j := by
  unfold nthI
  rw [List.getD_eq_getElem?_getD, List.getD_eq_getElem?_getD, List.getD_eq_getElem?_getD, List.getElem?_zipWith]
  by_cases g : j < a.length
  · rw [List.getElem?_eq_getElem g, List.getElem?_eq_getElem (by omega : j < b.length)]; rfl
  · rw [List.getElem?_eq_none (by omega), List.getElem?_eq_none (by omega)]; simp
theorem fmd_abs (a : Int) {b : Int} (h : b ≠ 0) : (fmd a b).natAbs < b.natAbs := by
  rcases Int.lt_or_gt_of_ne h with g | g
  · have := fmd_neg (a := a) g; omega
  · have := fmd_pos (a := a) g; omega
theorem lessLi_col {c : Nat} {t e : Li} (h : e.x.length = t.x.length) : nthI (lessLi c t e).x c = fmd (nthI e.x c) (nthI t.x c) := by
  show nthI (List.zipWith _ _ _) c = _
  rw [zip_at h]
  have := fdv_fmd (a := nthI e.x c) (b := nthI t.x c)
  rw [Int.mul_comm] at this
  omega
theorem lessLi_zero {c j : Nat} {t e : Li} (h : e.x.length = t.x.length) (h1 : nthI t.x j = 0) : nthI (lessLi c t e).x j = nthI e.x j := by
  show nthI (List.zipWith _ _ _) j = _
  rw [zip_at h, h1]; simp
theorem zip_bound {k : Int} {a b : List Int} {M : Nat} (hk : k.natAbs ≤ 999) (ha : ∀ z ∈ a, z.natAbs < M) (hb : ∀ z ∈ b, z.natAbs < M) : ∀ z ∈ List.zipWith (fun x y => x - k * y) a b, z.natAbs < M * 1000 := by
  intro z hz
  obtain ⟨j, hj, rfl⟩ := List.getElem_of_mem hz
  rw [List.getElem_zipWith]
  have h1 := ha _ (List.getElem_mem (by simp at hj; omega : j < a.length))
  have h2 := hb _ (List.getElem_mem (by simp at hj; omega : j < b.length))
  generalize a[j]'(by simp at hj; omega) = x at *
  generalize b[j]'(by simp at hj; omega) = y at *
  have h3 : (k * y).natAbs ≤ 999 * M := by
    rw [Int.natAbs_mul]
    exact Nat.mul_le_mul hk (Nat.le_of_lt h2)
  have h4 : (x - k * y).natAbs ≤ x.natAbs + (k * y).natAbs := by omega
  omega

def passTo (d c : Nat) (t : Li) (ls : List Li) (k : Nat) : List Li := ls.mapIdx fun i e => if d < i ∧ i ≤ d + k then lessLi c t e else e
theorem passTo_zero (d c : Nat) (t : Li) (ls : List Li) : passTo d c t ls 0 = ls := by
  apply List.ext_getElem?
  intro i
  unfold passTo
  rw [List.getElem?_mapIdx]
  cases h : ls[i]? with
  | none => rfl
  | some e => simp only [Option.map_some]; rw [if_neg (by omega)]
theorem passTo_length (d c : Nat) (t : Li) (ls : List Li) (k : Nat) : (passTo d c t ls k).length = ls.length := by unfold passTo; simp
theorem passTo_at {d c : Nat} {t : Li} {ls : List Li} {k i : Nat} {e : Li} (h : ls[i]? = some e) : (passTo d c t ls k)[i]? = some (if d < i ∧ i ≤ d + k then lessLi c t e else e) := by
  unfold passTo
  rw [List.getElem?_mapIdx, h]; rfl
theorem passTo_step {d c : Nat} {t : Li} {ls : List Li} {k : Nat} {e : Li} (h : ls[d + 1 + k]? = some e) : passTo d c t ls (k + 1) = (passTo d c t ls k).set (d + 1 + k) (lessLi c t e) := by
  apply List.ext_getElem?
  intro i
  rw [List.getElem?_set]
  by_cases g : d + 1 + k = i
  · subst g
    rw [if_pos rfl, if_pos (by rw [passTo_length]; exact (List.getElem?_eq_some_iff.1 h).1), passTo_at h, if_pos (by omega)]
  · rw [if_neg g]
    cases hi : ls[i]? with
    | none => rw [List.getElem?_eq_none (by rw [passTo_length]; exact List.getElem?_eq_none_iff.1 hi), List.getElem?_eq_none (by rw [passTo_length]; exact List.getElem?_eq_none_iff.1 hi)]
    | some f =>
      rw [passTo_at hi, passTo_at hi]
      by_cases q : d < i ∧ i ≤ d + k
      · rw [if_pos q, if_pos (by omega)]
      · rw [if_neg q, if_neg (by omega)]

/-- The values of a column, from a line on. -/
def colOf (d c : Nat) (ls : List Li) : List Int := (ls.drop d).map fun e => nthI e.x c
theorem colOf_length (d c : Nat) (ls : List Li) : (colOf d c ls).length = ls.length - d := by unfold colOf; simp
theorem colOf_at {d c i : Nat} {ls : List Li} {e : Li} (h : ls[d + i]? = some e) : (colOf d c ls).getD i 0 = nthI e.x c := by
  unfold colOf
  rw [List.getD_eq_getElem?_getD, List.getElem?_map, List.getElem?_drop, h]; rfl
theorem colOf_mem {d c : Nat} {ls : List Li} {z : Int} (h : z ∈ colOf d c ls) : ∃ i e, d ≤ i ∧ ls[i]? = some e ∧ z = nthI e.x c := by
  unfold colOf at h
  obtain ⟨e, he, rfl⟩ := List.mem_map.1 h
  obtain ⟨i, hi, h2⟩ := mem_drop_iff.1 he
  exact ⟨i, e, hi, h2, rfl⟩

end Go.Proofs.YtkamjjjimbbdmaaGreatDoor

namespace Go.Proofs.YtkamjjjimbbdmaaGreatDoor
open Go.RowKit Go.Lib Go.Shelf

theorem cnt_one {zs : List Int} {j : Nat} (h : cntNZ zs = 1) (hj : zs.getD j 0 ≠ 0) : ∀ i, i ≠ j → zs.getD i 0 = 0 := by
  have two : ∀ p q : Nat, p < q → zs.getD p 0 ≠ 0 → zs.getD q 0 ≠ 0 → False := by
    intro p q hpq hp hq
    have hl : q < zs.length := by
      rcases Nat.lt_or_ge q zs.length with g | g
      · exact g
      · rw [List.getD_eq_getElem?_getD, List.getElem?_eq_none (by omega)] at hq; exact absurd rfl hq
    have h1 := cnt_step hl
    rw [if_neg hq] at h1
    have h2 : 0 < cntNZ (zs.take q) := by
      rcases Nat.eq_zero_or_pos (cntNZ (zs.take q)) with g | g
      · exact absurd (cnt_zero g p hpq) hp
      · exact g
    have h3 : cntNZ (zs.take (q + 1)) ≤ cntNZ zs := by
      unfold cntNZ
      exact ((List.take_sublist _ _).filter _).length_le
    omega
  intro i hi
  apply Classical.byContradiction
  intro h0
  rcases Nat.lt_or_gt_of_ne hi with g | g
  · exact two i j g h0 hj
  · exact two j i g hj h0

structure SwInv (E d c n N p : Nat) (ls0 ls : List Li) : Prop where
  len : ls.length = ls0.length
  take : ls.take d = ls0.take d
  row : ∀ e ∈ ls, e.x.length = n ∧ e.b.length = N
  zero : ∀ j, (∀ e ∈ ls0.drop d, nthI e.x j = 0) → ∀ e ∈ ls.drop d, nthI e.x j = 0
  bd : ∀ e ∈ ls.drop d, (∀ z ∈ e.x, z.natAbs < 10 ^ (E + 3 * p)) ∧ ∀ z ∈ e.b, z.natAbs < 10 ^ (E + 3 * p)
  same : (p = 0 ∧ ls = ls0) ∨ ∃ e ∈ ls.drop d, nthI e.x c ≠ 0
  col : (ls0.length - d ≤ 1 ∧ p = 0) ∨ ∀ e ∈ ls.drop d, (nthI e.x c).natAbs ≤ 999

section
variable {E d c n N p : Nat} {ls0 ls : List Li}
theorem sw_mem {j : Nat} {e f : Li} (he : ls[d]? = some e) (hf : ls[d + j]? = some f) {q : Li} (h : q ∈ ((ls.set d f).set (d + j) e).drop d) : q ∈ ls.drop d := by
  obtain ⟨i, hi, h1⟩ := mem_drop_iff.1 h
  rw [liswap_at he hf] at h1
  refine mem_drop_iff.2 ⟨_, ?_, h1⟩
  unfold liSwapAt
  split
  · omega
  · split <;> omega
theorem SwInv.swap (h : SwInv E d c n N p ls0 ls) {j : Nat} {e f : Li} (he : ls[d]? = some e) (hf : ls[d + j]? = some f) (h0 : nthI f.x c ≠ 0) : SwInv E d c n N p ls0 ((ls.set d f).set (d + j) e) := by
  have hd : ((ls.set d f).set (d + j) e)[d]? = some f := by
    rw [liswap_at he hf]
    unfold liSwapAt
    split
    · have : j = 0 := by omega
      subst this
      exact hf
    · rw [if_pos rfl]; exact hf
  refine ⟨by rw [List.length_set, List.length_set]; exact h.len, ?_, fun q hq => ?_, fun k hk q hq => h.zero k hk q (sw_mem he hf hq), fun q hq => h.bd q (sw_mem he hf hq), .inr ⟨f, mem_drop_iff.2 ⟨d, Nat.le_refl _, hd⟩, h0⟩, ?_⟩
  · rw [← h.take]
    apply List.ext_getElem?
    intro k
    by_cases hk : k < d
    · rw [List.getElem?_take_of_lt hk, List.getElem?_take_of_lt hk, liswap_at he hf]
      unfold liSwapAt
      rw [if_neg (by omega), if_neg (by omega)]
    · rw [List.getElem?_eq_none (by rw [List.length_take]; omega), List.getElem?_eq_none (by rw [List.length_take]; omega)]
  · obtain ⟨k, hk⟩ := List.mem_iff_getElem?.1 hq
    rw [liswap_at he hf] at hk
    exact h.row q (List.mem_of_getElem? hk)
  · rcases h.col with g | g
    · exact .inl g
    · exact .inr fun q hq => g q (sw_mem he hf hq)

theorem SwInv.pass (h : SwInv E d c n N p ls0 ls) {t : Li} (ht : ls[d]? = some t) (h0 : nthI t.x c ≠ 0) (hc : ∀ e ∈ ls.drop d, (nthI e.x c).natAbs ≤ 999) {k : Nat} : SwInv E d c n N (p + 1) ls0 (passTo d c t ls k) := by
  have htm : t ∈ ls.drop d := mem_drop_iff.2 ⟨d, Nat.le_refl _, ht⟩
  have htl := h.row t (List.mem_of_getElem? ht)
  have hpow : 10 ^ (E + 3 * (p + 1)) = 10 ^ (E + 3 * p) * 1000 := by rw [show E + 3 * (p + 1) = E + 3 * p + 3 by omega, Nat.pow_add]
  have hM : 0 < 10 ^ (E + 3 * p) := Nat.pow_pos (by decide)
  have hat : ∀ {q : Li} {i : Nat}, (passTo d c t ls k)[i]? = some q → ∃ e, ls[i]? = some e ∧ (q = e ∨ (d < i ∧ q = lessLi c t e)) ∧ (i = d → q = e) := by
    intro q i hq
    cases hi : ls[i]? with
    | none => rw [List.getElem?_eq_none (by rw [passTo_length]; exact List.getElem?_eq_none_iff.1 hi)] at hq; cases hq
    | some e =>
      rw [passTo_at hi] at hq
      injection hq with hq
      by_cases g : d < i ∧ i ≤ d + k
      · rw [if_pos g] at hq; exact ⟨e, rfl, .inr ⟨g.1, hq.symm⟩, fun q => by omega⟩
      · rw [if_neg g] at hq; exact ⟨e, rfl, .inl hq.symm, fun _ => hq.symm⟩
  have hdr : ∀ {q : Li}, q ∈ (passTo d c t ls k).drop d → ∃ e ∈ ls.drop d, q = e ∨ q = lessLi c t e := by
    intro q hq
    obtain ⟨i, hi, h1⟩ := mem_drop_iff.1 hq
    obtain ⟨e, he, h2, _⟩ := hat h1
    exact ⟨e, mem_drop_iff.2 ⟨i, hi, he⟩, h2.imp id And.right⟩
  have hrow : ∀ {e : Li}, e ∈ ls.drop d → e.x.length = n ∧ e.b.length = N := fun he => h.row _ (List.mem_of_mem_drop he)
  have hq9 : ∀ {e : Li}, e ∈ ls.drop d → (fdv (nthI e.x c) (nthI t.x c)).natAbs ≤ 999 := fun he => Nat.le_trans (fdv_abs _ _ h0) (hc _ he)
  refine ⟨by rw [passTo_length]; exact h.len, ?_, fun q hq => ?_, fun j hj q hq => ?_, fun q hq => ?_, .inr ⟨t, mem_drop_iff.2 ⟨d, Nat.le_refl _, by rw [passTo_at ht, if_neg (by omega)]⟩, h0⟩, .inr fun q hq => ?_⟩
  · rw [← h.take]
    apply List.ext_getElem?
    intro i
    by_cases hi : i < d
    · rw [List.getElem?_take_of_lt hi, List.getElem?_take_of_lt hi]
      cases hl : ls[i]? with
      | none => rw [List.getElem?_eq_none (by rw [passTo_length]; exact List.getElem?_eq_none_iff.1 hl)]
      | some e => rw [passTo_at hl, if_neg (by omega)]
    · rw [List.getElem?_eq_none (by rw [List.length_take]; omega), List.getElem?_eq_none (by rw [List.length_take]; omega)]
  · obtain ⟨i, hi⟩ := List.mem_iff_getElem?.1 hq
    obtain ⟨e, he, h2, _⟩ := hat hi
    have hr := h.row e (List.mem_of_getElem? he)
    rcases h2 with g | ⟨_, g⟩
    · rw [g]; exact hr
    · rw [g]; unfold lessLi; simp; omega
  · obtain ⟨e, he, h2⟩ := hdr hq
    have hz := h.zero j hj e he
    rcases h2 with g | g
    · rw [g]; exact hz
    · rw [g, lessLi_zero (by rw [(hrow he).1, htl.1]) (h.zero j hj t htm)]; exact hz
  · obtain ⟨e, he, h2⟩ := hdr hq
    have hb := h.bd e he
    have hbt := h.bd t htm
    rw [hpow]
    rcases h2 with g | g
    · rw [g]
      exact ⟨fun z hz => by have := hb.1 z hz; omega, fun z hz => by have := hb.2 z hz; omega⟩
    · rw [g]
      exact ⟨zip_bound (hq9 he) hb.1 hbt.1, zip_bound (hq9 he) hb.2 hbt.2⟩
  · obtain ⟨e, he, h2⟩ := hdr hq
    rcases h2 with g | g
    · rw [g]; exact hc e he
    · rw [g, lessLi_col (by rw [(hrow he).1, htl.1])]
      have := fmd_abs (nthI e.x c) h0
      have := hc t htm
      omega

/-- The column behind a pass: its head stays, all others are less. -/
theorem pass_mu (h : SwInv E d c n N p ls0 ls) {j : Nat} {e f : Li} (he : ls[d]? = some e) (hf : ls[d + j]? = some f) (h0 : nthI f.x c ≠ 0) (hm : ∀ i, i < ls.length - d → (colOf d c ls).getD i 0 ≠ 0 → (nthI f.x c).natAbs ≤ ((colOf d c ls).getD i 0).natAbs) (h2 : 2 ≤ cntNZ (colOf d c ls)) :
    muNZ (colOf d c (passTo d c f ((ls.set d f).set (d + j) e) (ls.length - d - 1))) < muNZ (colOf d c ls) := by
  have hs := h.swap he hf h0
  have hd : ((ls.set d f).set (d + j) e)[d]? = some f := by
    rw [liswap_at he hf]
    unfold liSwapAt
    split
    · have : j = 0 := by omega
      subst this
      exact hf
    · rw [if_pos rfl]; exact hf
  have hdl := (List.getElem?_eq_some_iff.1 he).1
  have hfl := h.row f (List.mem_of_getElem? hf)
  have hsl : ((ls.set d f).set (d + j) e).length = ls.length := by rw [List.length_set, List.length_set]
  generalize hL : (ls.set d f).set (d + j) e = l1 at *
  have hcol : colOf d c (passTo d c f l1 (ls.length - d - 1)) = nthI f.x c :: colOf (d + 1) c (passTo d c f l1 (ls.length - d - 1)) := by
    unfold colOf
    have hp : (passTo d c f l1 (ls.length - d - 1))[d]? = some f := by rw [passTo_at hd, if_neg (by omega)]
    obtain ⟨hl, hq⟩ := List.getElem?_eq_some_iff.1 hp
    rw [List.drop_eq_getElem_cons hl, hq]; rfl
  rw [hcol]
  refine muNZ_pass h0 (fun z hz => ?_) (minNZ_eq ?_ h0 ?_) h2
  · obtain ⟨i, q, hi, hq, rfl⟩ := colOf_mem hz
    have hil : i < ls.length := by
      have := (List.getElem?_eq_some_iff.1 hq).1
      rw [passTo_length, hsl] at this; exact this
    obtain ⟨e1, he1⟩ : ∃ e1, l1[i]? = some e1 := ⟨_, List.getElem?_eq_getElem (by omega)⟩
    rw [passTo_at he1, if_pos (by omega)] at hq
    injection hq with hq
    have hr := hs.row e1 (List.mem_of_getElem? he1)
    rw [← hq, lessLi_col (by rw [hr.1, hfl.1])]
    exact fmd_abs _ h0
  · unfold colOf
    exact List.mem_map.2 ⟨f, mem_drop_iff.2 ⟨d + j, by omega, hf⟩, rfl⟩
  · intro z hz hz0
    obtain ⟨i, q, hi, hq, rfl⟩ := colOf_mem hz
    have hil := (List.getElem?_eq_some_iff.1 hq).1
    have ha : (colOf d c ls).getD (i - d) 0 = nthI q.x c := colOf_at (by rw [show d + (i - d) = i by omega]; exact hq)
    have := hm (i - d) (by omega) (by rw [ha]; exact hz0)
    rwa [ha] at this

/-- What a sweep leaves. -/
structure SwEnd (E d c n N : Nat) (ls0 : List Li) (r : Bool) (ls : List Li) : Prop where
  len : ls.length = ls0.length
  take : ls.take d = ls0.take d
  row : ∀ e ∈ ls, e.x.length = n ∧ e.b.length = N
  zero : ∀ j, (∀ e ∈ ls0.drop d, nthI e.x j = 0) → ∀ e ∈ ls.drop d, nthI e.x j = 0
  bd : (ls = ls0 ∨ ls0.length - d ≤ 1 → ∀ e ∈ ls.drop d, (∀ z ∈ e.x, z.natAbs < 10 ^ E) ∧ ∀ z ∈ e.b, z.natAbs < 10 ^ E) ∧ ∀ e ∈ ls.drop d, (∀ z ∈ e.x, z.natAbs < 10 ^ (E + 6000)) ∧ ∀ z ∈ e.b, z.natAbs < 10 ^ (E + 6000)
  no : r = false → ls = ls0 ∧ ∀ e ∈ ls.drop d, nthI e.x c = 0
  yes : r = true → ∃ t, ls[d]? = some t ∧ nthI t.x c ≠ 0 ∧ ∀ e ∈ ls.drop (d + 1), nthI e.x c = 0
end

end Go.Proofs.YtkamjjjimbbdmaaGreatDoor

namespace Go.Proofs.YtkamjjjimbbdmaaGreatDoor
open Go.RowKit Go.Lib Go.Shelf

theorem piv_first {x : List Int} {p : Nat} (h1 : p < x.length) (h2 : ∀ j, j < p → nthI x j = 0) (h3 : nthI x p ≠ 0) : piv x = p := by
  unfold piv Lib.idxBy
  have e : ∀ j, j < x.length → x[j]! = nthI x j := fun j hj => by
    unfold nthI
    rw [List.getD_eq_getElem?_getD, List.getElem?_eq_getElem hj, getElem!_pos _ j hj]; rfl
  have := Lib.idxByFrom_hit (fun _ y : Int => y != 0) default x p 0 h1 (by rw [e p h1, bne_iff_ne]; exact h3) (fun j hj => by rw [e j (by omega), h2 j hj]; rfl)
  rw [this, Nat.zero_add]

structure Ech (n c done : Nat) (pf : Nat → Nat) (ls : List Li) : Prop where
  le : done ≤ ls.length
  lt : ∀ i, i < done → pf i < c
  mono : ∀ i k, i < k → k < done → pf i < pf k
  pv : ∀ (i : Nat) (e : Li), i < done → ls[i]? = some e → (∀ j, j < pf i → nthI e.x j = 0) ∧ 0 < nthI e.x (pf i)
  off : ∀ (i k : Nat) (e f : Li), i < k → k < done → ls[i]? = some e → ls[k]? = some f → 0 ≤ nthI e.x (pf k) ∧ nthI e.x (pf k) < nthI f.x (pf k)
  zero : ∀ (i : Nat) (e : Li), done ≤ i → ls[i]? = some e → ∀ j, j < c → nthI e.x j = 0

theorem Ech.start (n : Nat) (ls : List Li) : Ech n 0 0 (fun _ => 0) ls := ⟨Nat.zero_le _, fun i h => by omega, fun i k _ h => by omega, fun i e h => by omega, fun i k e f _ h => by omega, fun i e _ _ j h => by omega⟩
theorem Ech.skip {n c done : Nat} {pf : Nat → Nat} {ls : List Li} (h : Ech n c done pf ls) (h0 : ∀ e ∈ ls.drop done, nthI e.x c = 0) : Ech n (c + 1) done pf ls :=
  ⟨h.le, fun i hi => by have := h.lt i hi; omega, h.mono, h.pv, h.off, fun i e hi he j hj => by
    rcases Nat.lt_or_ge j c with g | g
    · exact h.zero i e hi he j g
    · obtain rfl : j = c := by omega
      exact h0 e (mem_drop_iff.2 ⟨i, hi, he⟩)⟩

/-- The rows ahead behind the multiples of a new one were taken away. -/
def upTo (c : Nat) (t : Li) (ls : List Li) (k : Nat) : List Li := ls.mapIdx fun i e => if i < k then lessLi c t e else e
theorem upTo_zero (c : Nat) (t : Li) (ls : List Li) : upTo c t ls 0 = ls := by
  apply List.ext_getElem?
  intro i
  unfold upTo
  rw [List.getElem?_mapIdx]
  cases h : ls[i]? with
  | none => rfl
  | some e => simp only [Option.map_some]; rw [if_neg (by omega)]
theorem upTo_length (c : Nat) (t : Li) (ls : List Li) (k : Nat) : (upTo c t ls k).length = ls.length := by unfold upTo; simp
theorem upTo_at {c : Nat} {t : Li} {ls : List Li} {k i : Nat} {e : Li} (h : ls[i]? = some e) : (upTo c t ls k)[i]? = some (if i < k then lessLi c t e else e) := by
  unfold upTo
  rw [List.getElem?_mapIdx, h]; rfl
theorem upTo_none {c : Nat} {t : Li} {ls : List Li} {k i : Nat} (h : ls[i]? = none) : (upTo c t ls k)[i]? = none := by
  rw [List.getElem?_eq_none]; rw [upTo_length]; exact List.getElem?_eq_none_iff.1 h
theorem upTo_step {c : Nat} {t : Li} {ls : List Li} {k : Nat} {e : Li} (h : ls[k]? = some e) : upTo c t ls (k + 1) = (upTo c t ls k).set k (lessLi c t e) := by
  apply List.ext_getElem?
  intro i
  rw [List.getElem?_set]
  by_cases g : k = i
  · subst g
    rw [if_pos rfl, if_pos (by rw [upTo_length]; exact (List.getElem?_eq_some_iff.1 h).1), upTo_at h, if_pos (by omega)]
  · rw [if_neg g]
    cases hi : ls[i]? with
    | none => rw [upTo_none hi, upTo_none hi]
    | some f =>
      rw [upTo_at hi, upTo_at hi]
      by_cases q : i < k
      · rw [if_pos q, if_pos (by omega)]
      · rw [if_neg q, if_neg (by omega)]

/-- The next pivot. -/
theorem Ech.next {n c done : Nat} {pf : Nat → Nat} {ls ls1 ls2 : List Li} {t : Li} (h : Ech n c done pf ls) (hrow : ∀ e ∈ ls2, e.x.length = n) (htl : t.x.length = n) (htk : ls1.take done = ls.take done) 
    (hzero : ∀ j, (∀ e ∈ ls.drop done, nthI e.x j = 0) → ∀ e ∈ ls1.drop done, nthI e.x j = 0) (hrest : ∀ e ∈ ls1.drop (done + 1), nthI e.x c = 0)
    (ht : ls2[done]? = some t) (h2 : ∀ i, i ≠ done → ls2[i]? = ls1[i]?) (htz : ∀ j, j < c → nthI t.x j = 0) (htp : 0 < nthI t.x c) :
    Ech n (c + 1) (done + 1) (fun i => if i = done then c else pf i) (upTo c t ls2 done) := by
  have hdl := (List.getElem?_eq_some_iff.1 ht).1
  have old : ∀ (i : Nat) (e : Li), i < done → (upTo c t ls2 done)[i]? = some e → ∃ e0, ls[i]? = some e0 ∧ e = lessLi c t e0 ∧ e0.x.length = n := by
    intro i e hi he
    obtain ⟨e1, he1⟩ : ∃ e1, ls2[i]? = some e1 := ⟨_, List.getElem?_eq_getElem (by omega)⟩
    rw [upTo_at he1, if_pos hi] at he
    have hm := hrow e1 (List.mem_of_getElem? he1)
    rw [h2 i (by omega), ← List.getElem?_take_of_lt hi, htk, List.getElem?_take_of_lt hi] at he1
    exact ⟨e1, he1, (Option.some.inj he).symm, hm⟩
  have mid : (upTo c t ls2 done)[done]? = some t := by rw [upTo_at ht, if_neg (by omega)]
  refine ⟨by rw [upTo_length]; omega, fun i hi => ?_, fun i k hik hk => ?_, fun i e hi he => ?_, fun i k e f hik hk he hf => ?_, fun i e hi he j hj => ?_⟩
  · by_cases g : i = done
    · rw [if_pos g]; omega
    · rw [if_neg g]; have := h.lt i (by omega); omega
  · rw [if_neg (by omega)]
    by_cases g : k = done
    · rw [if_pos g]; exact h.lt i (by omega)
    · rw [if_neg g]; exact h.mono i k hik (by omega)
  · by_cases g : i = done
    · subst g
      rw [mid] at he
      obtain rfl := Option.some.inj he
      rw [if_pos rfl]
      exact ⟨htz, htp⟩
    · rw [if_neg g]
      obtain ⟨e0, h0, rfl, hl⟩ := old i e (by omega) he
      have hp := h.pv i e0 (by omega) h0
      have hc := h.lt i (by omega)
      refine ⟨fun j hj => ?_, ?_⟩
      · rw [lessLi_zero (by rw [hl, htl]) (htz j (by omega))]; exact hp.1 j hj
      · rw [lessLi_zero (by rw [hl, htl]) (htz _ hc)]; exact hp.2
  · obtain ⟨e0, h0, rfl, hl⟩ := old i e (by omega) he
    by_cases g : k = done
    · subst g
      rw [mid] at hf
      obtain rfl := Option.some.inj hf
      rw [if_pos rfl, lessLi_col (by rw [hl, htl])]
      exact fmd_pos htp
    · rw [if_neg g]
      obtain ⟨f0, h1, rfl, hlf⟩ := old k f (by omega) hf
      have hc := h.lt k (by omega)
      rw [lessLi_zero (by rw [hl, htl]) (htz _ hc), lessLi_zero (by rw [hlf, htl]) (htz _ hc)]
      exact h.off i k e0 f0 hik (by omega) h0 h1
  · obtain ⟨e1, he1⟩ : ∃ e1, ls2[i]? = some e1 := by
      have := (List.getElem?_eq_some_iff.1 he).1
      rw [upTo_length] at this
      exact ⟨_, List.getElem?_eq_getElem this⟩
    rw [upTo_at he1, if_neg (by omega)] at he
    obtain rfl := Option.some.inj he
    rw [h2 i (by omega)] at he1
    rcases Nat.lt_or_ge j c with g | g
    · refine hzero j (fun q hq => ?_) e1 (mem_drop_iff.2 ⟨i, by omega, he1⟩)
      obtain ⟨i2, hi2, h3⟩ := mem_drop_iff.1 hq
      exact h.zero i2 q hi2 h3 j g
    · obtain rfl : j = c := by omega
      exact hrest e1 (mem_drop_iff.2 ⟨i, by omega, he1⟩)

theorem Ech.form {n c done : Nat} {pf : Nat → Nat} {ls : List Li} (h : Ech n c done pf ls) (hc : c ≤ n) (hrow : ∀ e ∈ ls, e.x.length = n) : isFm ((ls.take done).map Li.x) = true := by
  have hml : ((ls.take done).map Li.x).length = done := by rw [List.length_map, List.length_take]; have := h.le; omega
  have hat : ∀ i, i < done → ∃ e, ls[i]? = some e ∧ ((ls.take done).map Li.x).getD i [] = e.x ∧ piv e.x = pf i ∧ e.x.length = n := by
    intro i hi
    have hil : i < ls.length := by have := h.le; omega
    obtain ⟨e, he⟩ : ∃ e, ls[i]? = some e := ⟨_, List.getElem?_eq_getElem hil⟩
    have hp := h.pv i e hi he
    have hl := hrow e (List.mem_of_getElem? he)
    have hlt := h.lt i hi
    refine ⟨e, he, ?_, piv_first (by omega) hp.1 (by omega), hl⟩
    rw [List.getD_eq_getElem?_getD, List.getElem?_map, List.getElem?_take_of_lt hi, he]; rfl
  have key : ∀ r k, k + r = done → ∀ b : Int, (b = -1 ∨ ∃ i, i + 1 = k ∧ b = pf i) → (k = 0 → b = -1) → fmRest (((ls.take done).map Li.x).take k) b (((ls.take done).map Li.x).drop k) = true := by
    intro r
    induction r with
    | zero =>
      intro k hk b _ _
      rw [List.drop_of_length_le (by omega)]; rfl
    | succ r ih =>
      intro k hk b hb hb0
      obtain ⟨e, he, hge, hpe, hle⟩ := hat k (by omega)
      rw [fmRest_drop (by omega), hge, hpe]
      have hpk := h.pv k e (by omega) he
      have hlt := h.lt k (by omega)
      rw [if_neg ?_, if_neg ?_, if_neg ?_]
      · exact ih (k + 1) (by omega) _ (.inr ⟨k, rfl, rfl⟩) (fun g => by omega)
      · rw [List.any_eq_true]
        rintro ⟨x, hx, ho⟩
        obtain ⟨i, hi⟩ := List.mem_iff_getElem?.1 hx
        have hik : i < k := by
          rcases Nat.lt_or_ge i k with g | g
          · exact g
          · rw [List.getElem?_take, if_neg (by omega)] at hi; cases hi
        rw [List.getElem?_take_of_lt hik] at hi
        obtain ⟨e2, he2, hg2, _, hl2⟩ := hat i (by omega)
        rw [List.getD_eq_getElem?_getD, hi] at hg2
        have hx2 : x = e2.x := hg2
        subst hx2
        have := h.off i k e2 e hik (by omega) he2 he
        unfold offP at ho
        unfold nthI at this
        rw [Int.toNat_natCast] at ho
        simp at ho
        simp only [List.getD_eq_getElem?_getD] at this ho
        omega
      · rw [Int.toNat_natCast]
        have := hpk.2
        unfold nthI at this
        omega
      · rcases hb with rfl | ⟨i, hi, rfl⟩
        · omega
        · have := h.mono i k (by omega) (by omega)
          omega
  exact key done 0 (by omega) (-1) (.inl rfl) (fun _ => rfl)

end Go.Proofs.YtkamjjjimbbdmaaGreatDoor
