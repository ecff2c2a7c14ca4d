/- A slice of four small ints an element that came in, and an interval's plan, read. -/
import Derived.Test.YtkamjjjimbbdmaaGreatDoorPlanIn
import Derived.Test.YtkamjjjimbbdmaaGreatDoorCombL
import Derived.Deep.Slices
import Derived.DataReads
namespace Go.Proofs.YtkamjjjimbbdmaaGreatDoor
open Go.ChangeShapes Go.WideShapes Go.WideElems Go.RowKit Go.Lib

section
variable {H : Type} {enc : TypeId × Value → H} {w : World} {base : Nat} {spare : Nat → Bool} {held : Bool}
set_option maxRecDepth 100000 in
theorem open_plan12 {r : Reach} {b0 : Nat} {v : Value} {d : DataW H} {p : List MemPlace} (hv : Value.okWide Tryz.prog w r b0 25 v) (h : DataW.Trod enc Tryz.prog w base spare held 25 v d p) :
    ∃ n a b c e, v = .agg #[.int .u8 n, .int .i8 a, .int .i8 b, .int .i8 c, .int .i8 e] ∧ (Lit.int .u8 n).wf = true ∧ Small8 a b c e := by
  obtain ⟨cs, rfl, hsz⟩ := okWide_struct Tryz.underlying25 hv
  rw [cells25] at hsz
  obtain ⟨l⟩ := cs
  match l, hsz with
  | [c0, c1, c2, c3, c4], _ =>
    obtain ⟨fuel, hf⟩ := h
    obtain ⟨n, a, b, c, e, e0, e1, e2, e3, e4, _, wn, hs⟩ := trod_plan12 hf
    exact ⟨n, a, b, c, e, by rw [e0, e1, e2, e3, e4], wn, hs⟩

theorem cells_four {w : World} {a : Addr} {cs : List Value} (h : w.cells? 0 a 4 = some cs) : ∃ c0 c1 c2 c3, cs = [c0, c1, c2, c3] ∧ w.cell? (a.add 0) = some c0 ∧ w.cell? (a.add 1) = some c1 ∧ w.cell? (a.add 2) = some c2 ∧ w.cell? (a.add 3) = some c3 := by
  obtain ⟨_, hl, hg⟩ := World.cells?_some h
  match cs, hl, hg with
  | [c0, c1, c2, c3], _, hg => exact ⟨c0, c1, c2, c3, rfl, hg 0 (by omega), hg 1 (by omega), hg 2 (by omega), hg 3 (by omega)⟩
set_option maxRecDepth 100000 in
theorem q_in {r : Reach} {b0 : Nat} {v : Value} {d : DataW H} {p : List MemPlace} (hv : Value.okWide Tryz.prog w r b0 49 v) (h : DataW.Trod enc Tryz.prog w 0 (fun _ => true) held 49 v d p) :
    ∃ (am : Option Addr) (Q : List Q4) (cm : Nat), v = .slice am Q.length cm ∧ QIn w am Q ∧ ∀ e ∈ Q, ∀ z ∈ q4l e, -128 ≤ z ∧ z ≤ 127 := by
  obtain ⟨a0, len0, cap0, rfl⟩ := okWide_slice Tryz.underlying49 hv
  obtain ⟨fuel, hf⟩ := h
  rcases Go.Deep.open_slice Tryz.underlying49 hf with ⟨h1, _⟩ | ⟨a, len, cap, m, n, D, Pl, h1, _, hl, hm, hmm, _, hel⟩
  · simp only [Value.cells, List.cons.injEq, Value.slice.injEq, and_true] at h1
    obtain ⟨rfl, rfl, rfl⟩ := h1
    exact ⟨none, [], 0, rfl, fun i e he => by simp at he, fun e he => by cases he⟩
  · simp only [Value.cells, List.cons.injEq, Value.slice.injEq, and_true] at h1
    obtain ⟨rfl, rfl, rfl⟩ := h1
    have hml : len0 ≤ m := by rw [hmm]; split <;> omega
    have each : ∀ i, i < len0 → ∃ e : Q4, (w.cell? ((a.add (i * 4)).add 0) = some (.int .i8 e.1) ∧ w.cell? ((a.add (i * 4)).add 1) = some (.int .i8 e.2.1) ∧ w.cell? ((a.add (i * 4)).add 2) = some (.int .i8 e.2.2.1) ∧ w.cell? ((a.add (i * 4)).add 3) = some (.int .i8 e.2.2.2)) ∧ ∀ z ∈ q4l e, -128 ≤ z ∧ z ≤ 127 := by
      intro i hi
      obtain ⟨cs', h2, h3⟩ := hel i (by omega)
      rw [cells23] at h2
      obtain ⟨c0, c1, c2, c3, rfl, g0, g1, g2, g3⟩ := cells_four h2
      obtain ⟨x0, x1, x2, x3, rfl, rfl, rfl, rfl, _, hs⟩ := trod_four h3
      exact ⟨(x0, x1, x2, x3), ⟨g0, g1, g2, g3⟩, hs.bounds⟩
    let f : Nat → Q4 := fun i => if h : i < len0 then Classical.choose (each i h) else (0, 0, 0, 0)
    have hf' : ∀ i (h : i < len0), f i = Classical.choose (each i h) := fun i h => by show (if h : i < len0 then _ else _) = _; rw [dif_pos h]
    refine ⟨some a, (List.range len0).map f, cap0, by rw [List.length_map, List.length_range], ?_, ?_⟩
    · intro i e he
      rw [List.getElem?_map] at he
      have hi : i < len0 := by
        rcases Nat.lt_or_ge i len0 with g | g
        · exact g
        · rw [List.getElem?_eq_none (by rw [List.length_range]; exact g)] at he; cases he
      rw [List.getElem?_range hi] at he
      simp only [Option.map_some, Option.some.injEq] at he
      have hc := (Classical.choose_spec (each i hi)).1
      rw [← hf' i hi, he] at hc
      obtain ⟨bb, off, sp⟩ := a
      obtain ⟨g0, g1, g2, g3⟩ := hc
      obtain ⟨_, ⟨f0, _, _, _⟩, _⟩ := each 0 (by omega)
      have hs := World.cell?_spot f0
      have hs' : sp = none := by simpa [Addr.add] using hs
      subst hs'
      have ha : ∀ k, ((⟨bb, off, none⟩ : Addr).add (i * 4)).add k = ⟨bb, off + i * 4 + k, none⟩ := fun k => by
        rw [Addr.add_lit, Addr.add_lit]
      rw [ha] at g0 g1 g2 g3
      exact ⟨bb, off, rfl, g0, g1, g2, g3⟩
    · intro e he
      obtain ⟨i, hi, rfl⟩ := List.mem_map.1 he
      have hi := List.mem_range.1 hi
      rw [hf' i hi]
      exact (Classical.choose_spec (each i hi)).2
theorem qlen_of {n c : Nat} {a : Option Addr} {d : DataW H} {p : List MemPlace} (h : DataW.Trod enc Tryz.prog w 0 (fun _ => true) held 49 (.slice a n c) d p) : n ≤ maxLen := by
  obtain ⟨fuel, hf⟩ := h
  rcases Go.Deep.open_slice Tryz.underlying49 hf with ⟨h1, _⟩ | ⟨a, len, cap, m, n', D, Pl, h1, _, hl, hm, _⟩
  · simp only [Value.cells, List.cons.injEq, Value.slice.injEq, and_true] at h1
    obtain ⟨_, rfl, _⟩ := h1
    exact Nat.zero_le _
  · simp only [Value.cells, List.cons.injEq, Value.slice.injEq, and_true] at h1
    obtain ⟨_, rfl, rfl⟩ := h1
    omega
end
end Go.Proofs.YtkamjjjimbbdmaaGreatDoor
