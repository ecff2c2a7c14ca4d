/- The closure of comma.Smallest's sort. -/
import Derived.Test.YtkamjjjimbbdmaaGreatDoorGr
import Derived.Test.YtkamjjjimbbdmaaGreatDoorRevs
import Derived.Deep.RegionHeld3
namespace Go.Proofs.YtkamjjjimbbdmaaGreatDoor
open Go.RowKit Go.Lib Go.Shelf Go.Sort

theorem heldG {V w w' : World} {a1 a2 a3 a4 : Addr} {u1 u2 u3 u4 : Value} (h : Gr V w ∧ w.cell? a1 = some u1 ∧ w.cell? a2 = some u2 ∧ w.cell? a3 = some u3 ∧ w.cell? a4 = some u4) (hx : Gr w w') :
    Gr V w' ∧ w'.cell? a1 = some u1 ∧ w'.cell? a2 = some u2 ∧ w'.cell? a3 = some u3 ∧ w'.cell? a4 = some u4 := ⟨h.1.trans hx, hx.ext.cell h.2.1, hx.ext.cell h.2.2.1, hx.ext.cell h.2.2.2.1, hx.ext.cell h.2.2.2.2⟩

theorem I_nine {n : Nat} (h : n < 1000000000) : ((I (n : Int)).size : Int) ≤ 9 := by
  rw [I_nat, D_size]
  have := Dec.nDigits_le (n := n) (k := 9) (by omega) (by omega)
  omega

set_option maxRecDepth 100000 in
set_option maxHeartbeats 4000000 in
theorem bySize_c (vx vy : Value) (a b c d : Nat) (w : World) (he : Env w) (ha : a < 1000000000) (hb : b < 1000000000) (hc : c < 1000000000) (hd : d < 1000000000) :
    Calls Tryz.prog 48 #[.agg #[.string (I (a : Int)), .string (I (b : Int)), vx], .agg #[.string (I (c : Int)), .string (I (d : Int)), vy]] w fun e w' => e = .returned (.int .i64 (cmpI ((a : Int) * d) ((c : Int) * b))) ∧ Gr w w' := by
  have hg : Gr w ((w.alloc (.cells #[.string (I (a : Int)), .string (I (b : Int)), vx] 95)).alloc (.cells #[.string (I (c : Int)), .string (I (d : Int)), vy] 95)) := ((Gr.refl w).alloc _).alloc _
  have h1 := three_new w (.string (I (a : Int))) (.string (I (b : Int))) vx 95
  have h2 := three_new (w.alloc (.cells #[.string (I (a : Int)), .string (I (b : Int)), vx] 95)) (.string (I (c : Int))) (.string (I (d : Int))) vy 95
  rw [World.size_alloc] at h2
  have hx2 : Ext (w.alloc (.cells #[.string (I (a : Int)), .string (I (b : Int)), vx] 95)) ((w.alloc (.cells #[.string (I (a : Int)), .string (I (b : Int)), vx] 95)).alloc (.cells #[.string (I (c : Int)), .string (I (d : Int)), vy] 95)) := (Ext.refl _).alloc _
  have q1 := hx2.cell h1.1
  have q2 := hx2.cell h1.2.1
  have q3 := h2.1
  have q4 := h2.2.1
  have hm1 := fun W (h : Gr w W) => mul_short_g (a : Int) (d : Int) W (he.ext h.ext) (I_nine ha) (I_nine hd)
  have hm2 := fun W (h : Gr w W) => mul_short_g (c : Int) (b : Int) W (he.ext h.ext) (I_nine hc) (I_nine hb)
  have fit : ∀ m n : Nat, m < 1000000000 → n < 1000000000 → Fit ((m : Int) * (n : Int)) := fun m n h1 h2 => by
    rw [← Int.natCast_mul]; show nDigits (m * n) ≤ 400000
    have h3 := Dec.nDigits_le (n := m) (k := 9) (by omega) (by omega)
    have h4 := Dec.nDigits_le (n := n) (k := 9) (by omega) (by omega)
    have := nDigits_mul m n
    omega
  have hcm := fun W => cmp_g ((a : Int) * (d : Int)) ((c : Int) * (b : Int)) W (fit a d ha hd) (fit c b hc hb)
  clear fit he ha hb hc hd h1 h2 hx2
  generalize (a : Int) * (d : Int) = x at *
  generalize (c : Int) * (b : Int) = y at *
  generalize I (a : Int) = sa at *
  generalize I (b : Int) = sb at *
  generalize I (c : Int) = sc at *
  generalize I (d : Int) = sd at *
  generalize I x = sx at *
  generalize I y = sy at *
  have Hm1 := Lib.hid hm1; have Hm2 := Lib.hid hm2; have Hcm := Lib.hid hcm; clear hm1 hm2 hcm
  go_enter Tryz.func48, Tryz.ntmps48
  go_wp2_with fail
  generalize hV : (w.alloc (.cells #[.string sa, .string sb, vx] 95)).alloc (.cells #[.string sc, .string sd, vy] 95) = V at *
  go_region_held3 (fun w' => Gr V w' ∧ w'.cell? ⟨w.heap.size, 0, none⟩ = some (.string sa) ∧ w'.cell? ⟨w.heap.size, 1, none⟩ = some (.string sb) ∧ w'.cell? ⟨w.heap.size + 1, 0, none⟩ = some (.string sc) ∧ w'.cell? ⟨w.heap.size + 1, 1, none⟩ = some (.string sd))
    (first | exact heldG ⟨Gr.refl V, q1, q2, q3, q4⟩ ((Gr.refl V).drew) | exact heldG (by assumption) hxa)
    (first
      | (go_at_call 37; refine (Hcm.out _).mono ?_; rintro e9 V4 ⟨rfl, hxa⟩)
      | (go_at_call_of 40 (Value.string sa); refine (Hm1.out _ (hg.trans (And.left (by assumption)))).mono ?_; rintro e9 V4 ⟨rfl, hxa⟩)
      | (go_at_call_of 40 (Value.string sc); refine (Hm2.out _ (hg.trans (And.left (by assumption)))).mono ?_; rintro e9 V4 ⟨rfl, hxa⟩))
  all_goals
    have hfin := hg.trans (And.left (by assumption : Gr V V4 ∧ _))
    have Hfin := Lib.hid hfin; clear hfin
    go_wp2
    go_ret
    exact ⟨rfl, Hfin.out⟩

end Go.Proofs.YtkamjjjimbbdmaaGreatDoor
