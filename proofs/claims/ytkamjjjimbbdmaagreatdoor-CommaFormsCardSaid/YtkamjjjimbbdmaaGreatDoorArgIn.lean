/- A slice of ints that came in, read. -/
import Derived.Test.YtkamjjjimbbdmaaGreatDoorKit
import Derived.ChangeSlices
import Derived.WideShapes
import Derived.ChangeShapes
import Derived.DataReads
namespace Go.Proofs.YtkamjjjimbbdmaaGreatDoor
open Go.ChangeShapes Go.WideShapes Go.RowKit Go.Lib

set_option maxRecDepth 100000 in
theorem sl_in {H : Type} {enc : TypeId × Value → H} {r : Reach} {b0 : Nat} {w : World} {base : Nat} {spare : Nat → Bool} {held : Bool} {t : TypeId} {v : Value} {d : DataW H} {p : List MemPlace} (ht : Tryz.prog.underlying t = some (.slice 3)) (hv : Value.okWide Tryz.prog w r b0 t v) (h : DataW.Trod enc Tryz.prog w base spare held t v d p) :
    ∃ xs : List Int, Sl w v (i64s xs) ∧ ∀ z ∈ xs, (Lit.int .i64 z).wf = true := by
  obtain ⟨a, len, cap, rfl⟩ := okWide_slice ht hv
  obtain ⟨fuel, hf⟩ := h
  rcases open_ints ht Tryz.underlying3 (by kernel_rfl) hf with ⟨h1, _⟩ | ⟨a', len', cap', zs, h1, _, hl, hm, hz, _, hc, hw⟩
  · simp only [Value.cells, List.cons.injEq, Value.slice.injEq, and_true] at h1
    obtain ⟨rfl, rfl, rfl⟩ := h1
    exact ⟨[], .inl ⟨none, 0, rfl, Nat.zero_le _, rfl⟩, fun z h => by cases h⟩
  · simp only [Value.cells, List.cons.injEq, Value.slice.injEq, and_true] at h1
    obtain ⟨rfl, rfl, rfl⟩ := h1
    have hzl : len ≤ zs.length := by rw [hz]; split <;> omega
    refine ⟨zs.take len, ?_, fun z h => hw z (List.mem_of_mem_take h)⟩
    rcases Nat.eq_zero_or_pos len with h0 | h0
    · subst h0
      exact .inl ⟨_, cap, rfl, hm, by simp [i64s]⟩
    · have h00 := hc 0 (by omega)
      obtain ⟨b, off, sp⟩ := a'
      have hs := World.cell?_spot h00
      have hs' : sp = none := by
        cases sp with
        | none => rfl
        | some s => simp [Addr.add] at hs
      subst hs'
      refine .inr ⟨b, off, cap, ?_, ?_, hm, fun i u hu => ?_⟩
      · rw [i64s_length, List.length_take, Nat.min_eq_left hzl]
      · rw [i64s_length, List.length_take, Nat.min_eq_left hzl]; exact hl
      · have hi : i < (zs.take len).length := by
          have := (List.getElem?_eq_some_iff.1 hu).1
          rwa [i64s_length] at this
        rw [i64s_at hi] at hu
        have hi2 : i < len := by rw [List.length_take] at hi; omega
        have := hc i (by omega)
        have e : nthI (zs.take len) i = zs.getD i 0 := by
          unfold nthI
          rw [List.getD_eq_getElem?_getD, List.getElem?_take_of_lt hi2, List.getD_eq_getElem?_getD]
        rw [← e, Option.some.inj hu] at this
        rwa [show ((⟨b, off, none⟩ : Addr).add i) = ⟨b, off + i, none⟩ by unfold Addr.add; split <;> simp_all] at this

end Go.Proofs.YtkamjjjimbbdmaaGreatDoor
