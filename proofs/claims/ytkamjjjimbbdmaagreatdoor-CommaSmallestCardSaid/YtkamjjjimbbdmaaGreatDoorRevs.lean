/- Lists of rows that calls make; slices.Reverse on them. -/
import Derived.Test.YtkamjjjimbbdmaaGreatDoorNums
namespace Go.Proofs.YtkamjjjimbbdmaaGreatDoor
open Go.RowKit Go.Lib Go.Shelf Go.Sort

/-- A row, and the slice that holds it. -/
structure Rw where
  x : List Int
  u : Value
  hu : u.oneCell' = true
instance : Inhabited Rw := ⟨⟨[], .slice none 0 0, rfl⟩⟩

def rwc (rs : List Rw) : List Value := rs.map Rw.u
theorem rwc_length (rs : List Rw) : (rwc rs).length = rs.length := by simp [rwc]
def RwL (w : World) (B : Nat) (v : Value) (rs : List Rw) : Prop :=
  w.ownsRow B 30 1 v rs.length (rwc rs) ∧ ∀ r ∈ rs, OwnI w B r.u r.x
theorem Ext.rwL {w w' : World} (h : Ext w w') {B : Nat} {v : Value} {rs : List Rw} (hs : RwL w B v rs) : RwL w' B v rs := ⟨h.own hs.1, fun e he => h.ownI (hs.2 e he)⟩
theorem RwL.nil (w : World) (B : Nat) : RwL w B (.slice none 0 0) [] := ⟨World.ownsRow_nil w _ _ 1, fun _ h => by cases h⟩

theorem own_put_at {w : World} {base : Nat} {e : TypeId} {g n cap q off : Nat} {xs ys : List Value} (h : w.ownsRow base e 1 (.slice (some ⟨g, 0, none⟩) n cap) n xs) (hy : off + ys.length = n) :
    (putRow id (Sort.ahead w q) g off ys.toArray).ownsRow base e 1 (.slice (some ⟨g, 0, none⟩) n cap) n (xs.take off ++ ys) := by
  have hxl : xs.length = n := by simpa using h.1
  rcases h.2 with ⟨e0, _⟩ | ⟨g', cap', cur, e0, hb, hg, hn, hm, hs, ht⟩
  · cases e0
  · injection e0 with e1 _ e3
    injection e1 with e1
    injection e1 with e1
    subst e1; subst e3
    refine ⟨by simp; omega, .inr ⟨g, cap, putCells id off ys.toArray cur, rfl, hb, ?_, hn, hm, by simpa [putCells] using hs, ?_⟩⟩
    · simp [putRow, mapBlock, Sort.ahead, Array.getElem?_modify, hg, onCells]
    · apply List.ext_getElem?
      intro j
      rw [List.getElem?_take, Array.getElem?_toList]
      by_cases hj : j < n * 1
      · have hjc : j < cur.size := by omega
        have e1 : (cur.toList.take (n * 1))[j]? = xs[j]? := by rw [ht]
        rw [List.getElem?_take, if_pos hj, Array.getElem?_toList, Array.getElem?_eq_getElem hjc] at e1
        simp only [if_pos hj, putCells, Array.getElem?_mapIdx, Array.getElem?_eq_getElem hjc, Option.map_some]
        by_cases ho : off ≤ j
        · rw [if_pos (by simp; omega), List.getElem?_append_right (by simp; omega), List.length_take, show min off xs.length = off by omega, List.getElem?_eq_getElem (by omega)]
          simp [getElem!_pos, show j - off < ys.length by omega]
        · rw [if_neg (by omega), List.getElem?_append_left (by simp; omega), List.getElem?_take, if_pos (by omega)]
          exact e1
      · rw [if_neg hj, List.getElem?_eq_none (by simp; omega)]
theorem grownBy_put_at (w : World) (g q off : Nat) (F : Array Value) : w.grownBy (putRow id (Sort.ahead w q) g off F) (some g) :=
  ⟨rfl, rfl, rfl, by simp [putRow, mapBlock, Sort.ahead], fun k hk hne => by
    have hne' : g ≠ k := fun e => hne (by rw [e])
    simp only [putRow, mapBlock, Sort.ahead]
    rw [Array.getElem?_modify, if_neg hne']⟩
theorem holds_at {w : World} {base : Nat} {e : TypeId} {g n cap off : Nat} {xs : List Value} (h : w.ownsRow base e 1 (.slice (some ⟨g, 0, none⟩) n cap) n xs) : Holds id w g off (xs.drop off).toArray := by
  intro j hj
  have hj' : off + j < xs.length := by simp at hj; omega
  refine ⟨?_, World.ownsRow.frozenAt h (off + j)⟩
  have := h.cells (g := g) rfl (off + j) xs[off + j] (List.getElem?_eq_getElem hj')
  rw [show ((⟨g, 0, none⟩ : Addr).add (off + j)) = ⟨g, off + j, none⟩ by unfold Addr.add; split <;> simp_all] at this
  rw [this]
  simp at hj
  simp [getElem!_pos, hj]

theorem put_map (w : World) (g q off : Nat) (ys : Array Rw) : putRow Rw.u (Sort.ahead w q) g off ys = putRow id (Sort.ahead w q) g off (ys.map Rw.u) := by
  unfold putRow
  congr 1
  funext cur
  unfold putCells
  apply Array.ext
  · simp
  · intro i h1 h2
    simp only [Array.getElem_mapIdx, Array.size_map]
    by_cases h : off ≤ i ∧ i < off + ys.size
    · rw [if_pos h, if_pos h]
      have hj : i - off < ys.size := by omega
      simp [getElem!_pos, hj]
    · rw [if_neg h, if_neg h]

/-- The tail of a list of rows, turned round. -/
theorem revFrom_c {W : World} {B : Nat} {a : Option Addr} {cap : Nat} {rs : List Rw} (hs : RwL W B (.slice a rs.length cap) rs) (off : Nat) (ho : off ≤ rs.length) (hl : rs.length ≤ 1000000) (a' : Option Addr) (cap' : Nat) (ha : off < rs.length → ∀ g, a = some ⟨g, 0, none⟩ → a' = some ⟨g, off, none⟩) :
    Calls Tryz.prog 44 #[.slice a' (rs.length - off) cap'] W fun e w' => e = .returned (.tuple #[]) ∧ RwL w' B (.slice a rs.length cap) (rs.take off ++ (rs.drop off).reverse) ∧ ∀ w0 : World, Ext w0 W → w0.heap.size = B → Ext w0 w' := by
  rcases Nat.eq_or_lt_of_le ho with h0 | h0
  · subst h0
    rw [Nat.sub_self]
    refine (AnyE.slices_Reverse_empty Tryz.lReverseR a' cap' W).mono fun e w' ⟨he, hw⟩ => ⟨he, ?_, fun w0 h _ => by rw [hw]; exact h⟩
    rw [hw]
    simpa using hs
  · rcases hs.1.2 with ⟨e0, hn⟩ | ⟨g, cp, cur, e0, hb, _⟩
    · omega
    · injection e0 with e1 _ e3
      subst e1; subst e3
      obtain rfl := ha h0 g rfl
      have hlen : ((rwc rs).drop off).length = rs.length - off := by simp [rwc]
      have hr := AnyE.slices_Reverse Tryz.lReverseR Rw.u Rw.hu g off cap' (rs.drop off) W (by
        have := holds_at (off := off) hs.1
        intro j hj
        have hj' : j < (rs.drop off).length := by simpa using hj
        have h2 := this j (by simpa [rwc] using hj)
        refine ⟨?_, h2.2⟩
        rw [h2.1]
        simp at hj
        simp [rwc, getElem!_pos, hj]) (by simp; omega)
      rw [List.length_drop] at hr
      refine hr.mono ?_
      rintro e w' ⟨rfl, n, rfl⟩
      have hput : ∀ ys : Array Rw, putRow Rw.u (Sort.ahead W n) g off ys = putRow id (Sort.ahead W n) g off (ys.map Rw.u) := fun ys => put_map _ _ _ _ _
      have hgrow := grownBy_put_at W g n off ((rs.drop off).reverse.toArray.map Rw.u)
      rw [← hput] at hgrow
      have hmem : ∀ r, r ∈ rs.take off ++ (rs.drop off).reverse → r ∈ rs := fun r hr => by
        rcases List.mem_append.1 hr with h | h
        · exact List.mem_of_mem_take h
        · exact List.mem_of_mem_drop (List.mem_reverse.1 h)
      refine ⟨rfl, ⟨?_, fun r hr => ?_⟩, fun w0 h hB => h.grown hgrow fun k hk => by cases hk; omega⟩
      · have := own_put_at (q := n) (off := off) (ys := rwc (rs.drop off).reverse) hs.1 (by simp [rwc]; omega)
        rw [hput, show (rs.drop off).reverse.toArray.map Rw.u = (rwc (rs.drop off).reverse).toArray by simp [rwc]]
        rw [show (rs.take off ++ (rs.drop off).reverse).length = rs.length by simp; omega]
        rw [show rwc (rs.take off ++ (rs.drop off).reverse) = (rwc rs).take off ++ rwc (rs.drop off).reverse by simp [rwc]]
        exact this
      · exact World.ownsRow.kept (hs.2 r (hmem r hr)) hgrow (own_ne (hs.2 r (hmem r hr)) hs.1 (by decide))

end Go.Proofs.YtkamjjjimbbdmaaGreatDoor
