/- A matrix of ints that came in, read. -/
import Derived.Test.YtkamjjjimbbdmaaGreatDoorArgIn
import Derived.Test.YtkamjjjimbbdmaaGreatDoorIvlA
import Derived.Deep.Matrix
namespace Go.Proofs.YtkamjjjimbbdmaaGreatDoor
open Go.ChangeShapes Go.WideShapes Go.RowKit Go.Lib

theorem sl_cells {w : World} {a : Option Addr} {L C : Nat} {zs : List Int} (hl : L ≤ C) (hm : C ≤ maxLen) (hz : zs.length = C) (h0 : a = none → C = 0) (hc : ∀ a', a = some a' → ∀ c, c < C → w.cell? (a'.add c) = some (.int .i64 (zs.getD c 0))) :
    Sl w (.slice a L C) (i64s (zs.take L)) := by
  rcases Nat.eq_zero_or_pos L with hL | hL
  · subst hL
    exact .inl ⟨_, C, rfl, hm, by simp [i64s]⟩
  · cases a with
    | none => have := h0 rfl; omega
    | some a' =>
      have h00 := hc a' rfl 0 (by omega)
      obtain ⟨b, off, sp⟩ := a'
      have hs := World.cell?_spot h00
      have hs' : sp = none := by
        cases sp with
        | none => rfl
        | some s => simp [Addr.add] at hs
      subst hs'
      refine .inr ⟨b, off, C, ?_, ?_, hm, fun i u hu => ?_⟩
      · rw [i64s_length, List.length_take, Nat.min_eq_left (by omega)]
      · rw [i64s_length, List.length_take, Nat.min_eq_left (by omega)]; exact hl
      · have hi : i < (zs.take L).length := by
          have := (List.getElem?_eq_some_iff.1 hu).1
          rwa [i64s_length] at this
        rw [i64s_at hi] at hu
        have hi2 : i < L := by rw [List.length_take] at hi; omega
        have := hc _ rfl i (by omega)
        have e : nthI (zs.take L) i = zs.getD i 0 := by
          unfold nthI
          rw [List.getD_eq_getElem?_getD, List.getElem?_take_of_lt hi2, List.getD_eq_getElem?_getD]
        rw [← e, Option.some.inj hu] at this
        rwa [show ((⟨b, off, none⟩ : Addr).add i) = ⟨b, off + i, none⟩ by unfold Addr.add; split <;> simp_all] at this

set_option maxRecDepth 100000 in
theorem mat_in {H : Type} {enc : TypeId × Value → H} {r : Reach} {b0 : Nat} {w : World} {base : Nat} {held : Bool} {v : Value} {d : DataW H} {p : List MemPlace} (hv : Value.okWide Tryz.prog w r b0 62 v) (h : DataW.Trod enc Tryz.prog w base (fun _ => true) held 62 v d p) :
    ∃ m : List (List Int), Mat w v m := by
  obtain ⟨a, len, cap, rfl⟩ := okWide_slice Tryz.underlying62 hv
  obtain ⟨fuel, hf⟩ := h
  rcases Go.Deep.open_int_rows Tryz.underlying62 Tryz.underlying30 Tryz.underlying3 (by kernel_rfl) (by kernel_rfl) hf with ⟨h1, _⟩ | ⟨a', len', cap', A, L, C, Z, h1, _, hl, hm, _, hr⟩
  · simp only [Value.cells, List.cons.injEq, Value.slice.injEq, and_true] at h1
    obtain ⟨rfl, rfl, rfl⟩ := h1
    exact ⟨[], [], rfl, .inl ⟨none, 0, rfl, Nat.zero_le _, rfl⟩, fun i u hu => by simp at hu⟩
  · simp only [Value.cells, List.cons.injEq, Value.slice.injEq, and_true] at h1
    obtain ⟨rfl, rfl, rfl⟩ := h1
    refine ⟨(List.range len).map fun r => (Z r).take (L r), (List.range len).map fun r => .slice (A r) (L r) (C r), by simp, ?_, fun i u hu => ?_⟩
    · rcases Nat.eq_zero_or_pos len with h0 | h0
      · subst h0
        exact .inl ⟨_, cap, rfl, hm, by simp⟩
      · have h00 := (hr 0 (by omega)).1
        obtain ⟨b, off, sp⟩ := a'
        have hs := World.cell?_spot h00
        have hs' : sp = none := by
          cases sp with
          | none => rfl
          | some s => simp [Addr.add] at hs
        subst hs'
        refine .inr ⟨b, off, cap, by rw [List.length_map, List.length_range], by rw [List.length_map, List.length_range]; exact hl, hm, fun i u hu => ?_⟩
        rw [List.getElem?_map] at hu
        have hi : i < len := by
          rcases Nat.lt_or_ge i len with g | g
          · exact g
          · rw [List.getElem?_eq_none (by rw [List.length_range]; exact g)] at hu; cases hu
        rw [List.getElem?_range hi] at hu
        simp only [Option.map_some, Option.some.injEq] at hu
        subst hu
        have := (hr i (by omega)).1
        rwa [show ((⟨b, off, none⟩ : Addr).add i) = ⟨b, off + i, none⟩ by unfold Addr.add; split <;> simp_all] at this
    · rw [List.getElem?_map] at hu
      have hi : i < len := by
        rcases Nat.lt_or_ge i len with g | g
        · exact g
        · rw [List.getElem?_eq_none (by rw [List.length_range]; exact g)] at hu; cases hu
      rw [List.getElem?_range hi] at hu
      simp only [Option.map_some, Option.some.injEq] at hu
      subst hu
      have e : ((List.range len).map fun r => (Z r).take (L r)).getD i [] = (Z i).take (L i) := by
        rw [List.getD_eq_getElem?_getD, List.getElem?_map, List.getElem?_range hi]; rfl
      rw [e]
      obtain ⟨_, g1, g2, g3, _, g5, g6⟩ := hr i (by omega)
      exact sl_cells g1 g2 g3 g5 fun a' ha => (g6 a' ha).2

end Go.Proofs.YtkamjjjimbbdmaaGreatDoor
