/- Walks of the laws' own functions: Primes. -/
import Derived.Test.YtkamjjjimbbdmaaGreatDoorValue
namespace Go.Proofs.YtkamjjjimbbdmaaGreatDoor
open Go.RowKit Go.Lib

/-- The ten lists of primes. -/
def tenL : List (List Nat) := [[2, 3, 5], [2, 3, 5, 7], [2, 3], [2, 3, 7], [2, 5, 7], [3, 5, 7], [2, 3, 5, 11], [2], [2, 3, 7, 13], [3, 5, 7, 13]]
def tenP (n : Nat) : List Nat := tenL.getD (n % 10) []

theorem heap_allocs : ∀ (os : List Obj) (w : World) (i : Nat), i < os.length → (os.foldl World.alloc w).heap[w.heap.size + i]? = os[i]?
  | [], _, _, h => by simp at h
  | o :: r, w, 0, _ => by
    have keep : ∀ (l : List Obj) (v : World) (k : Nat), k < v.heap.size → (l.foldl World.alloc v).heap[k]? = v.heap[k]? := by
      intro l
      induction l with
      | nil => intro v k _; rfl
      | cons a l ih =>
        intro v k hk
        rw [List.foldl_cons, ih (v.alloc a) k (by rw [World.size_alloc]; omega)]
        exact Below.heap_alloc v a k hk
    rw [List.foldl_cons, keep r (w.alloc o) _ (by rw [World.size_alloc]; omega)]
    exact World.alloc_heap_new w o
  | o :: r, w, i + 1, h => by
    rw [List.foldl_cons]
    have := heap_allocs r (w.alloc o) i (by simpa using h)
    rw [World.size_alloc] at this
    rw [show w.heap.size + (i + 1) = w.heap.size + 1 + i by omega, this]
    rfl
theorem own_block {w : World} {B b : Nat} {xs : List Value} {t : TypeId} (h : w.heap[b]? = some (.cells xs.toArray t (0, 0))) (hb : B ≤ b) (hm : xs.length ≤ maxLen) : w.ownsRow B t 1 (.slice (some ⟨b, 0, none⟩) xs.length xs.length) xs.length xs :=
  ⟨by simp, .inr ⟨b, xs.length, xs.toArray, rfl, hb, h, Nat.le_refl _, hm, by simp, by simp⟩⟩
theorem sl_block {w : World} {b : Nat} {xs : List Value} {t : TypeId} (h : w.heap[b]? = some (.cells xs.toArray t (0, 0))) (hm : xs.length ≤ maxLen) : Sl w (.slice (some ⟨b, 0, none⟩) xs.length xs.length) xs := by
  refine .inr ⟨b, 0, xs.length, rfl, Nat.le_refl _, hm, fun i u hu => ?_⟩
  unfold World.cell?
  rw [h]
  simpa using hu
theorem ext_allocs (w : World) : ∀ os : List Obj, Ext w (os.foldl World.alloc w) := by
  have : ∀ (os : List Obj) (v : World), Ext w v → Ext w (os.foldl World.alloc v) := by
    intro os
    induction os with
    | nil => intro v h; exact h
    | cons o r ih => intro v h; exact ih _ (h.alloc o)
  exact fun os => this os w (Ext.refl w)

def tenO : List Obj := tenL.map fun l => Obj.cells (i64s (ints l)).toArray 3 (0, 0)
theorem ten_fin (w : World) (o : Obj) (r : Nat) (hr : r < 10) : OwnI ((tenO ++ [o]).foldl World.alloc w) w.heap.size (.slice (some ⟨w.heap.size + r, 0, none⟩) (tenL.getD r []).length (tenL.getD r []).length) (ints (tenL.getD r [])) ∧ Ext w ((tenO ++ [o]).foldl World.alloc w) := by
  refine ⟨?_, ext_allocs w _⟩
  have h := heap_allocs (tenO ++ [o]) w r (by simp [tenO, tenL]; omega)
  have hlen : (tenL.getD r []).length = (i64s (ints (tenL.getD r []))).length := by rw [i64s_length, ints_length]
  have hlen2 : (ints (tenL.getD r [])).length = (i64s (ints (tenL.getD r []))).length := by rw [i64s_length]
  unfold OwnI
  rw [hlen, hlen2]
  refine own_block (t := 3) ?_ (by omega) ?_
  · rw [h, List.getElem?_append_left (by simp [tenO, tenL]; omega)]
    unfold tenO
    have hl : r < tenL.length := by simp [tenL]; omega
    rw [List.getElem?_map, List.getElem?_eq_getElem hl, List.getD_eq_getElem?_getD, List.getElem?_eq_getElem hl]
    rfl
  · rw [← hlen]
    rcases (show r = 0 ∨ r = 1 ∨ r = 2 ∨ r = 3 ∨ r = 4 ∨ r = 5 ∨ r = 6 ∨ r = 7 ∨ r = 8 ∨ r = 9 by omega) with rfl | rfl | rfl | rfl | rfl | rfl | rfl | rfl | rfl | rfl <;> decide

set_option maxRecDepth 100000 in
set_option maxHeartbeats 4000000 in
theorem primesAt_c (n r : Nat) (w : World) (hn : n < 256) (hr : n % 10 = r) :
    Calls Tryz.prog 49 #[.int .u8 n] w fun e w' => ∃ v, e = .returned v ∧ OwnI w' w.heap.size v (ints (tenL.getD r [])) ∧ Ext w w' := by
  have hm : (n : Int) % 10 = (r : Int) := by omega
  have hr10 : r < 10 := by omega
  clear hr
  rcases (show r = 0 ∨ r = 1 ∨ r = 2 ∨ r = 3 ∨ r = 4 ∨ r = 5 ∨ r = 6 ∨ r = 7 ∨ r = 8 ∨ r = 9 by omega) with rfl | rfl | rfl | rfl | rfl | rfl | rfl | rfl | rfl | rfl
  · go_enter Tryz.func49, Tryz.ntmps49
    go_wp2
    go_ret
    exact ⟨_, rfl, ten_fin w _ 0 (by omega)⟩
  · go_enter Tryz.func49, Tryz.ntmps49
    go_wp2
    go_ret
    exact ⟨_, rfl, ten_fin w _ 1 (by omega)⟩
  · go_enter Tryz.func49, Tryz.ntmps49
    go_wp2
    go_ret
    exact ⟨_, rfl, ten_fin w _ 2 (by omega)⟩
  · go_enter Tryz.func49, Tryz.ntmps49
    go_wp2
    go_ret
    exact ⟨_, rfl, ten_fin w _ 3 (by omega)⟩
  · go_enter Tryz.func49, Tryz.ntmps49
    go_wp2
    go_ret
    exact ⟨_, rfl, ten_fin w _ 4 (by omega)⟩
  · go_enter Tryz.func49, Tryz.ntmps49
    go_wp2
    go_ret
    exact ⟨_, rfl, ten_fin w _ 5 (by omega)⟩
  · go_enter Tryz.func49, Tryz.ntmps49
    go_wp2
    go_ret
    exact ⟨_, rfl, ten_fin w _ 6 (by omega)⟩
  · go_enter Tryz.func49, Tryz.ntmps49
    go_wp2
    go_ret
    exact ⟨_, rfl, ten_fin w _ 7 (by omega)⟩
  · go_enter Tryz.func49, Tryz.ntmps49
    go_wp2
    go_ret
    exact ⟨_, rfl, ten_fin w _ 8 (by omega)⟩
  · go_enter Tryz.func49, Tryz.ntmps49
    go_wp2
    go_ret
    exact ⟨_, rfl, ten_fin w _ 9 (by omega)⟩
theorem primes12_c (n : Nat) (w : World) (hn : n < 256) :
    Calls Tryz.prog 49 #[.int .u8 n] w fun e w' => ∃ v, e = .returned v ∧ OwnI w' w.heap.size v (ints (tenP n)) ∧ Ext w w' := primesAt_c n _ w hn rfl

end Go.Proofs.YtkamjjjimbbdmaaGreatDoor
