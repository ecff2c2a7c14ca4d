/- Walk: comma.Least at any form. -/
import Derived.Test.YtkamjjjimbbdmaaGreatDoorIn
namespace Go.Proofs.YtkamjjjimbbdmaaGreatDoor
open Go.RowKit Go.Lib Go.Shelf Go.Sort

set_option maxRecDepth 100000 in
set_option maxHeartbeats 1000000 in
theorem leastErr_w (aa ab am : Option Addr) (np nx nm ca cb cm : Nat) (lim r : Int) (w : World) (hr : r ≠ 0)
    (hl : ∀ W, Ext w W → Calls Tryz.prog 30 #[.agg #[.slice aa np ca, .int .i64 lim, .slice ab nx cb], .slice am nm cm] W fun e w' => e = .returned (.tuple #[.slice none 0 0, .int .i64 r]) ∧ Ext W w') :
    Calls Tryz.prog 31 #[.agg #[.slice aa np ca, .int .i64 lim, .slice ab nx cb], .slice am nm cm] w fun e w' => e = .returned (.tuple #[.slice none 0 0, .bool false, .int .i64 r]) ∧ Ext w w' := by
  have ht : (r != 0) = true := by rw [bne_iff_ne]; exact hr
  have Hck := Lib.hid hl; clear hl hr
  obtain ⟨hb0, hb1, hb2⟩ := three_new w (.slice aa np ca) (.int .i64 lim) (.slice ab nx cb) 32
  have hE0 : Ext w (w.alloc (.cells #[.slice aa np ca, .int .i64 lim, .slice ab nx cb] 32)) := (Ext.refl w).alloc _
  generalize hw0 : w.alloc (.cells #[.slice aa np ca, .int .i64 lim, .slice ab nx cb] 32) = W0 at *
  go_enter Tryz.func31, Tryz.ntmps31
  go_wp2_with fail
  refine (Hck.out W0 hE0).mono ?_
  rintro e W1 ⟨rfl, hx1⟩
  have HE1 := Lib.hid (hE0.trans hx1); clear hE0 hx1 hb0 hb1 hb2
  go_wp2
  go_ret3
  exact ⟨rfl, HE1.out⟩

/-- The first row, if there is one. -/
def FirstOf (w : World) (u : Value) (L : List (List Int)) : Prop := (L = [] ∧ u = .slice none 0 0) ∨ ∃ r t, L = r :: t ∧ OwnI w 0 u r

set_option maxRecDepth 100000 in
set_option maxHeartbeats 1000000 in
theorem leastIn_w (aa ab am : Option Addr) (np nx nm ca cb cm : Nat) (lim : Int) (w : World) (L : List (List Int)) (hL : L.length ≤ 1000000)
    (hl : ∀ W, Ext w W → Calls Tryz.prog 30 #[.agg #[.slice aa np ca, .int .i64 lim, .slice ab nx cb], .slice am nm cm] W fun e w' => ∃ v rs, e = .returned (.tuple #[v, .int .i64 0]) ∧ RwL w' W.heap.size v rs ∧ rs.map Rw.x = L ∧ Ext W w') :
    Calls Tryz.prog 31 #[.agg #[.slice aa np ca, .int .i64 lim, .slice ab nx cb], .slice am nm cm] w fun e w' => ∃ u, e = .returned (.tuple #[u, .bool (decide (0 < L.length)), .int .i64 0]) ∧ FirstOf w' u L ∧ Ext w w' := by
  have Hck := Lib.hid hl; clear hl
  obtain ⟨d, hd⟩ : ∃ d, d = decide (0 < L.length) := ⟨_, rfl⟩
  rw [← hd]
  have Hd := Lib.hid hd; clear hd
  obtain ⟨hb0, hb1, hb2⟩ := three_new w (.slice aa np ca) (.int .i64 lim) (.slice ab nx cb) 32
  have hE0 : Ext w (w.alloc (.cells #[.slice aa np ca, .int .i64 lim, .slice ab nx cb] 32)) := (Ext.refl w).alloc _
  generalize hw0 : w.alloc (.cells #[.slice aa np ca, .int .i64 lim, .slice ab nx cb] 32) = W0 at *
  go_enter Tryz.func31, Tryz.ntmps31
  go_wp2_with fail
  refine (Hck.out W0 hE0).mono ?_
  rintro e W1 ⟨v, rs, rfl, hrs, hm, hx1⟩
  obtain ⟨a1, c1, rfl⟩ := own_shape hrs.1
  have HE1 := Lib.hid (hE0.trans hx1)
  have hlen : L.length = rs.length := by rw [← hm, List.length_map]
  clear hE0 hx1 hb0 hb1 hb2
  cases rs with
  | nil =>
    have hL0 : L = [] := by rw [← hm]; rfl
    subst hL0
    obtain rfl : d = false := Hd.out
    clear hm hlen hrs
    go_wp2
    go_ret3
    exact ⟨_, rfl, .inl ⟨rfl, rfl⟩, HE1.out⟩
  | cons r t =>
    obtain ⟨g, cg, eg, hcs⟩ := own_slice hrs.1 (by simp)
    injection eg with eg1 eg3 eg2
    subst eg1; subst eg2
    clear eg3
    have hc := hcs 0 r.u rfl
    have hor := own_mono (hrs.2 r (List.mem_cons_self)) (Nat.zero_le _)
    obtain rfl : d = true := Hd.out.trans (decide_eq_true (by rw [hlen]; simp))
    have hrl : (r :: t).length = t.length + 1 := rfl
    have hlt : t.length + 1 ≤ 1000000 := by rw [← hrl, ← hlen]; exact hL
    rw [hrl]
    generalize t.length = nt at *
    have Hor := Lib.hid hor; have Hm := Lib.hid hm.symm
    clear hor hm hlen hrs hcs hrl
    have h1 : (0 : Int) < ((nt + 1 : Nat) : Int) := by omega
    go_wp2
    go_ret3
    exact ⟨_, rfl, .inr ⟨r.x, t.map Rw.x, Hm.out, Hor.out⟩, HE1.out⟩

end Go.Proofs.YtkamjjjimbbdmaaGreatDoor
