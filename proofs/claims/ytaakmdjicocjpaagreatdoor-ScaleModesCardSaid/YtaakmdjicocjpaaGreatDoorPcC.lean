/- As XHeldZ: two or three operations may come up. Walks: the law ScaleModes. -/
import Derived.Test.YtaakmdjicocjpaaGreatDoorPaK
import Derived.Test.YtaakmdjicocjpaaGreatDoorPcB
import Derived.Deep.MidRow
import Derived.Deep.DeepCutAuto
namespace Go.Proofs.YtaakmdjicocjpaaGreatDoor

section
variable {P : Program} {ops : Array Oper} {Q : Exit → Act → World → Prop} {md : Region.Mode} {S : World → Prop} {z : Nat}
/-- What is left to be shown of one operation below z. -/
def StepZ (P : Program) (md : Region.Mode) (ops : Array Oper) (Q : Exit → Act → World → Prop) (S : World → Prop) (z f : Nat) (ls : Array Bool) (a : Act) (w : World) (i : Nat) (o : Oper) : Prop :=
  ∀ K : Act → World → Prop, Shut (∀ a w, S w → (S w → anyZ P md ops Q S z f (ls.setIfInBounds i true) a w) → K a w) → if Region.wanted o (yielded ops a.tmps) = true then Oper.wp P o a w K Q else K (a.put o.dst undef) w
theorem StepZ.op {f : Nat} {ls : Array Bool} {a : Act} {w : World} {i : Nat} {o : Oper} (ho : ops[i]? = some o) (h : StepZ P md ops Q S z f ls a w i o) : wpOp P ops Q i (fun a' w' => (i < z → S w') ∧ anyZ P md ops Q S z f (ls.setIfInBounds i true) a' w') a w :=
  wpOp_step ho fun K hK => h K fun a w hS g => hK a w ⟨fun _ => hS, g hS⟩
theorem anyZ_two {i k : Nat} {o u : Oper} {f : Nat} {ls : Array Bool} {a : Act} {w : World} (hr : Region.ready md ops ls = [i, k]) (ho : ops[i]? = some o) (hu : ops[k]? = some u) (h1 : StepZ P md ops Q S z f ls a w i o) (h2 : StepZ P md ops Q S z f ls a w k u) : anyZ P md ops Q S z (f + 1) ls a w := by
  refine ⟨fun e => (by rw [hr] at e; cases e), fun j hj => ?_⟩
  rw [hr, List.mem_cons, List.mem_singleton] at hj
  rcases hj with e | e
  · subst e; exact h1.op ho
  · subst e; exact h2.op hu
theorem anyZ_three {i k m : Nat} {o u v : Oper} {f : Nat} {ls : Array Bool} {a : Act} {w : World} (hr : Region.ready md ops ls = [i, k, m]) (ho : ops[i]? = some o) (hu : ops[k]? = some u) (hv : ops[m]? = some v) (h1 : StepZ P md ops Q S z f ls a w i o) (h2 : StepZ P md ops Q S z f ls a w k u) (h3 : StepZ P md ops Q S z f ls a w m v) : anyZ P md ops Q S z (f + 1) ls a w := by
  refine ⟨fun e => (by rw [hr] at e; cases e), fun j hj => ?_⟩
  rw [hr, List.mem_cons, List.mem_cons, List.mem_singleton] at hj
  rcases hj with e | e | e
  · subst e; exact h1.op ho
  · subst e; exact h2.op hu
  · subst e; exact h3.op hv
end
end Go.Proofs.YtaakmdjicocjpaaGreatDoor

namespace Go.Proofs.YtaakmdjicocjpaaGreatDoor
open Go.RowKit Go.Lib Go.Shelf

attribute [local go_sem] Oper.semAt_some

set_option maxRecDepth 100000 in
set_option maxHeartbeats 8000000 in
theorem modes_c (a b : Wl) (m : Int) (w : World) (he : Env w) (ha : a.Ok) (hb : b.Ok) :
    Calls Tryz.prog 13 #[a.v, b.v, .int .i64 m] w fun e w' => e = .returned (.bool true) ∧ Ext w w' := by
  have hkn := fun W (hE : Ext w W) => known31_c W (he.ext hE)
  have hma := fun W (hE : Ext w W) => lMake_c a W (he.ext hE) ha
  have hmb := fun W (hE : Ext w W) => lMake_c b W (he.ext hE) hb
  have hun := Tryz.underlying26
  have hia := wl_info a
  have hib := wl_info b
  obtain ⟨W0, hW0⟩ : ∃ W0, W0 = (w.alloc (.cells a.cs 26)).alloc (.cells b.cs 26) := ⟨_, rfl⟩
  have hE0 : Ext w W0 := by rw [hW0]; exact ((Ext.refl w).alloc _).alloc _
  have hra : ∀ W, Ext W0 W → W.rangeAt w.heap.size 0 a.cs.toList := fun W h => wl_box a w W (((Ext.refl _).alloc (.cells b.cs 26)).trans (hW0 ▸ h))
  have hrb : ∀ W, Ext W0 W → W.rangeAt (w.heap.size + 1) 0 b.cs.toList := fun W h => by
    have := wl_box b (w.alloc (.cells a.cs 26)) W (hW0 ▸ h)
    rwa [World.size_alloc] at this
  have Hkn := Lib.hid hkn; have Hma := Lib.hid hma; have Hmb := Lib.hid hmb; have Hun := Lib.hid hun; have Hia := Lib.hid hia; have Hib := Lib.hid hib; have HE0 := Lib.hid hE0; have He := Lib.hid he; have Hra := Lib.hid hra; have Hrb := Lib.hid hrb
  clear hkn hma hmb hun hia hib hE0 he ha hb hra hrb
  have hva : a.v = .agg a.cs := rfl
  have hvb : b.v = .agg b.cs := rfl
  have Hva := Lib.hid hva; have Hvb := Lib.hid hvb
  rw [hva, hvb]
  clear hva hvb
  have hca : Wl.cs a = #[.bool a.three, .int .u8 a.kind, .int .u8 a.num, .int .i8 (a.xs 0).a, .int .i8 (a.xs 0).b, .int .i8 (a.xs 0).c, .int .i8 (a.xs 1).a, .int .i8 (a.xs 1).b, .int .i8 (a.xs 1).c, .int .i8 (a.xs 2).a, .int .i8 (a.xs 2).b, .int .i8 (a.xs 2).c, .int .i8 (a.xs 3).a, .int .i8 (a.xs 3).b, .int .i8 (a.xs 3).c, .int .i8 (a.xs 4).a, .int .i8 (a.xs 4).b, .int .i8 (a.xs 4).c, .int .i8 (a.xs 5).a, .int .i8 (a.xs 5).b, .int .i8 (a.xs 5).c, .int .i8 (a.xs 6).a, .int .i8 (a.xs 6).b, .int .i8 (a.xs 6).c, .int .i8 (a.xs 7).a, .int .i8 (a.xs 7).b, .int .i8 (a.xs 7).c] := rfl
  have hcb : Wl.cs b = #[.bool b.three, .int .u8 b.kind, .int .u8 b.num, .int .i8 (b.xs 0).a, .int .i8 (b.xs 0).b, .int .i8 (b.xs 0).c, .int .i8 (b.xs 1).a, .int .i8 (b.xs 1).b, .int .i8 (b.xs 1).c, .int .i8 (b.xs 2).a, .int .i8 (b.xs 2).b, .int .i8 (b.xs 2).c, .int .i8 (b.xs 3).a, .int .i8 (b.xs 3).b, .int .i8 (b.xs 3).c, .int .i8 (b.xs 4).a, .int .i8 (b.xs 4).b, .int .i8 (b.xs 4).c, .int .i8 (b.xs 5).a, .int .i8 (b.xs 5).b, .int .i8 (b.xs 5).c, .int .i8 (b.xs 6).a, .int .i8 (b.xs 6).b, .int .i8 (b.xs 6).c, .int .i8 (b.xs 7).a, .int .i8 (b.xs 7).b, .int .i8 (b.xs 7).c] := rfl
  rw [hca, hcb]
  go_enter Tryz.func13, Tryz.ntmps13
  rw [← hca, ← hcb]
  go_wp2_with fail
  rw [← hca, ← hcb, ← hW0]
  refine (Hkn.out _ HE0.out).mono ?_
  rintro e w1 ⟨rfl, hx1⟩
  have Hx1 := Lib.hid hx1
  clear hx1
  go_upto_region 3 with (fail)
  clear hca hcb
  have hma1 : ∀ W, Ext w W → Calls Tryz.prog 16 #[.agg a.cs.toList.toArray] W fun e w' => ∃ v out, e = .returned v ∧ ScV w' v a.p out ∧ Coll a.p a.sizes (out.map Qw.x) ∧ Ext W w' := fun W hE => Hma.out W hE
  have hmb1 : ∀ W, Ext w W → Calls Tryz.prog 16 #[.agg b.cs.toList.toArray] W fun e w' => ∃ v out, e = .returned v ∧ ScV w' v b.p out ∧ Coll b.p b.sizes (out.map Qw.x) ∧ Ext W w' := fun W hE => Hmb.out W hE
  clear Hma Hmb
  have Hma := Lib.hid hma1; have Hmb := Lib.hid hmb1
  clear hma1 hmb1
  go_cut [7, 8] (fun v7 v8 wx => TwoCut W0 a b v7 v8 wx)
  case first =>
    -- @@TWO@@
    refine region_Z 6 (fun w' => Ext W0 w' ∧ w'.rangeAt w.heap.size 0 a.cs.toList ∧ w'.rangeAt (w.heap.size + 1) 0 b.cs.toList) (by kernel_rfl) ⟨Hx1.out.drew, Hra.out _ (Hx1.out.drew), Hrb.out _ (Hx1.out.drew)⟩ (fun hHeld => ?_)
    refine anyZ_take (i := 0) (v := .agg a.cs.toList.toArray) rfl (by kernel_rfl) (by kernel_rfl) (by kernel_rfl) (by kernel_rfl) (fun _ _ _ h => h) (yieldsIf_load_mid (by rfl) 26 (.tmp 3) rfl w.heap.size 0 rfl a.cs.toList _ (fun w h => h.2.1) Hun.out rfl Hia.out) hHeld ?_
    refine anyZ_take (i := 2) (v := .agg b.cs.toList.toArray) rfl (by kernel_rfl) (by kernel_rfl) (by kernel_rfl) (by kernel_rfl) (fun _ _ _ h => h) (yieldsIf_load_mid (by rfl) 26 (.tmp 4) rfl (w.heap.size + 1) 0 rfl b.cs.toList _ (fun w h => h.2.2) Hun.out rfl Hib.out) hHeld ?_
    have HX := Lib.hid Hx1.out.drew
    refine anyZ_three (i := 1) (k := 4) (m := 5) (by kernel_rfl) rfl rfl rfl (fun K hK => ?_) (fun K hK => ?_) (fun K hK => ?_)
    · skip
      go_simp
      go_at_call 16
      refine (Hma.out _ (HE0.out.trans HX.out)).mono ?_
      rintro e9 V1 ⟨va, o1, rfl, hs9, hc9, hx9⟩
      obtain ⟨a1, c1, b1, d1, rfl, hs9⟩ := scv_let hs9
      have HX := Lib.hid (HX.out.trans hx9); have HA := Lib.hid hs9; have HcA := Lib.hid hc9
      clear hs9 hc9 hx9
      refine hK.out _ _ ⟨HX.out, Hra.out _ (HX.out), Hrb.out _ (HX.out)⟩ (fun hHeld => ?_)
      clear hK K
      refine anyZ_three (i := 3) (k := 4) (m := 5) (by kernel_rfl) rfl rfl rfl (fun K hK => ?_) (fun K hK => ?_) (fun K hK => ?_)
      · skip
        go_simp
        go_at_call 16
        refine (Hmb.out _ (HE0.out.trans HX.out)).mono ?_
        rintro e9 V2 ⟨vb, o2, rfl, hs9, hc9, hx9⟩
        obtain ⟨a2, c2, b2, d2, rfl, hs9⟩ := scv_let hs9
        have HX := Lib.hid (HX.out.trans hx9); have HB := Lib.hid hs9; have HcB := Lib.hid hc9
        have HA := Lib.hid (HA.out.ext hx9)
        clear hs9 hc9 hx9
        refine hK.out _ _ ⟨HX.out, Hra.out _ (HX.out), Hrb.out _ (HX.out)⟩ (fun hHeld => ?_)
        clear hK K
        refine anyZ_two (i := 4) (k := 5) (by kernel_rfl) rfl rfl (fun K hK => ?_) (fun K hK => ?_)
        · skip
          go_simp
          have H7 : Hid (Empt (V2.alloc (.cells #[.slice none 0 0, .slice none 0 0] 32)) (V2.heap.size)) := Lib.hid (by have h := BoxT.new 32 V2 (.slice none 0 0) (.slice none 0 0); first | exact h | (rw [World.size_alloc] at h; exact h))
          have HL7 : Hid (W0.heap.size ≤ V2.heap.size) := Lib.hid (by have h := HX.out.size; first | exact h | (rw [World.size_alloc] at h; exact h))
          have HA := Lib.hid (HA.out.ext ((Ext.refl V2).alloc (.cells #[.slice none 0 0, .slice none 0 0] 32)))
          have HB := Lib.hid (HB.out.ext ((Ext.refl V2).alloc (.cells #[.slice none 0 0, .slice none 0 0] 32)))
          have HX := Lib.hid (HX.out.alloc (.cells #[.slice none 0 0, .slice none 0 0] 32))
          refine hK.out _ _ ⟨HX.out, Hra.out _ (HX.out), Hrb.out _ (HX.out)⟩ (fun hHeld => ?_)
          clear hK K
          refine anyZ_step (i := 5) (by kernel_rfl) rfl (fun K hK => ?_)
          go_simp
          have H8 : Hid (Empt ((V2.alloc (.cells #[.slice none 0 0, .slice none 0 0] 32)).alloc (.cells #[.slice none 0 0, .slice none 0 0] 32)) (V2.heap.size + 1)) := Lib.hid (by have h := BoxT.new 32 (V2.alloc (.cells #[.slice none 0 0, .slice none 0 0] 32)) (.slice none 0 0) (.slice none 0 0); first | exact h | (rw [World.size_alloc] at h; exact h))
          have HL8 : Hid (W0.heap.size ≤ V2.heap.size + 1) := Lib.hid (by have h := HX.out.size; first | exact h | (rw [World.size_alloc] at h; exact h))
          have hlt : V2.heap.size < V2.heap.size + 1 := by have h := BoxT.lt H7.out; first | exact h | (rw [World.size_alloc] at h; exact h)
          have Hne : Hid (V2.heap.size ≠ V2.heap.size + 1) := Lib.hid (by omega)
          have H7 := Lib.hid (BoxT.ext ((Ext.refl (V2.alloc (.cells #[.slice none 0 0, .slice none 0 0] 32))).alloc (.cells #[.slice none 0 0, .slice none 0 0] 32)) H7.out)
          clear hlt
          have HA := Lib.hid (HA.out.ext ((Ext.refl (V2.alloc (.cells #[.slice none 0 0, .slice none 0 0] 32))).alloc (.cells #[.slice none 0 0, .slice none 0 0] 32)))
          have HB := Lib.hid (HB.out.ext ((Ext.refl (V2.alloc (.cells #[.slice none 0 0, .slice none 0 0] 32))).alloc (.cells #[.slice none 0 0, .slice none 0 0] 32)))
          have HX := Lib.hid (HX.out.alloc (.cells #[.slice none 0 0, .slice none 0 0] 32))
          refine hK.out _ _ ⟨HX.out, Hra.out _ (HX.out), Hrb.out _ (HX.out)⟩ (fun hHeld => ?_)
          clear hK K
          have hU7 := H7.out; have hU8 := H8.out; have hUa := HA.out; have hUb := HB.out; have hUx := HX.out; have hlo7 := HL7.out; have hlo8 := HL8.out; have hne78 := Hne.out
          clear H7 H8 HA HB HX
          generalize hU : ((V2.alloc (.cells #[.slice none 0 0, .slice none 0 0] 32)).alloc (.cells #[.slice none 0 0, .slice none 0 0] 32)) = U at *
          clear hU
          have hfin := two_fill (W := W0) hU7 hU8 hne78 hlo7 hlo8 hUa hUb HcA.out HcB.out hUx
          have h8b : Empt ((U.setCell ⟨V2.heap.size, 0, none⟩ (.slice a1 a.p.length c1)).setCell ⟨V2.heap.size, 1, none⟩ (.slice b1 o1.length d1)) (V2.heap.size + 1) := BoxT.past hU8 (Ne.symm hne78) _ _
          have k0 := BoxT.c0 hU7; have k1 := BoxT.c1 hU7; have z0 := BoxT.fz hU7 0; have z1 := BoxT.fz hU7 1
          have Hfin := Lib.hid hfin; have H8b := Lib.hid h8b; have HU7 := Lib.hid hU7
          clear hfin h8b hU7 hU8 hUa hUb hUx
          refine anyZ_last (i := 6) (by kernel_rfl) (by decide) rfl (fun K hK => ?_)
          go_simp
          refine hK.out _ _ ?_
          clear hK K k0 k1 z0 z1 hHeld
          generalize hU2 : (U.setCell ⟨V2.heap.size, 0, none⟩ (.slice a1 a.p.length c1)).setCell ⟨V2.heap.size, 1, none⟩ (.slice b1 o1.length d1) = U2 at *
          have k0 := BoxT.c0 H8b.out; have k1 := BoxT.c1 H8b.out; have z0 := BoxT.fz H8b.out 0; have z1 := BoxT.fz H8b.out 1
          refine anyZ_last (i := 7) (by kernel_rfl) (by decide) rfl (fun K hK => ?_)
          go_simp
          refine hK.out _ _ ?_
          clear hK K k0 k1 z0 z1
          refine anyZ_done (by kernel_rfl) ?_
          go_wp2_with fail
          go_meet
          exact Hfin.out
        · skip
          go_simp
          have H8 : Hid (Empt (V2.alloc (.cells #[.slice none 0 0, .slice none 0 0] 32)) (V2.heap.size)) := Lib.hid (by have h := BoxT.new 32 V2 (.slice none 0 0) (.slice none 0 0); first | exact h | (rw [World.size_alloc] at h; exact h))
          have HL8 : Hid (W0.heap.size ≤ V2.heap.size) := Lib.hid (by have h := HX.out.size; first | exact h | (rw [World.size_alloc] at h; exact h))
          have HA := Lib.hid (HA.out.ext ((Ext.refl V2).alloc (.cells #[.slice none 0 0, .slice none 0 0] 32)))
          have HB := Lib.hid (HB.out.ext ((Ext.refl V2).alloc (.cells #[.slice none 0 0, .slice none 0 0] 32)))
          have HX := Lib.hid (HX.out.alloc (.cells #[.slice none 0 0, .slice none 0 0] 32))
          refine hK.out _ _ ⟨HX.out, Hra.out _ (HX.out), Hrb.out _ (HX.out)⟩ (fun hHeld => ?_)
          clear hK K
          refine anyZ_step (i := 4) (by kernel_rfl) rfl (fun K hK => ?_)
          go_simp
          have H7 : Hid (Empt ((V2.alloc (.cells #[.slice none 0 0, .slice none 0 0] 32)).alloc (.cells #[.slice none 0 0, .slice none 0 0] 32)) (V2.heap.size + 1)) := Lib.hid (by have h := BoxT.new 32 (V2.alloc (.cells #[.slice none 0 0, .slice none 0 0] 32)) (.slice none 0 0) (.slice none 0 0); first | exact h | (rw [World.size_alloc] at h; exact h))
          have HL7 : Hid (W0.heap.size ≤ V2.heap.size + 1) := Lib.hid (by have h := HX.out.size; first | exact h | (rw [World.size_alloc] at h; exact h))
          have hlt : V2.heap.size < V2.heap.size + 1 := by have h := BoxT.lt H8.out; first | exact h | (rw [World.size_alloc] at h; exact h)
          have Hne : Hid (V2.heap.size + 1 ≠ V2.heap.size) := Lib.hid (by omega)
          have H8 := Lib.hid (BoxT.ext ((Ext.refl (V2.alloc (.cells #[.slice none 0 0, .slice none 0 0] 32))).alloc (.cells #[.slice none 0 0, .slice none 0 0] 32)) H8.out)
          clear hlt
          have HA := Lib.hid (HA.out.ext ((Ext.refl (V2.alloc (.cells #[.slice none 0 0, .slice none 0 0] 32))).alloc (.cells #[.slice none 0 0, .slice none 0 0] 32)))
          have HB := Lib.hid (HB.out.ext ((Ext.refl (V2.alloc (.cells #[.slice none 0 0, .slice none 0 0] 32))).alloc (.cells #[.slice none 0 0, .slice none 0 0] 32)))
          have HX := Lib.hid (HX.out.alloc (.cells #[.slice none 0 0, .slice none 0 0] 32))
          refine hK.out _ _ ⟨HX.out, Hra.out _ (HX.out), Hrb.out _ (HX.out)⟩ (fun hHeld => ?_)
          clear hK K
          have hU7 := H7.out; have hU8 := H8.out; have hUa := HA.out; have hUb := HB.out; have hUx := HX.out; have hlo7 := HL7.out; have hlo8 := HL8.out; have hne78 := Hne.out
          clear H7 H8 HA HB HX
          generalize hU : ((V2.alloc (.cells #[.slice none 0 0, .slice none 0 0] 32)).alloc (.cells #[.slice none 0 0, .slice none 0 0] 32)) = U at *
          clear hU
          have hfin := two_fill (W := W0) hU7 hU8 hne78 hlo7 hlo8 hUa hUb HcA.out HcB.out hUx
          have h8b : Empt ((U.setCell ⟨V2.heap.size + 1, 0, none⟩ (.slice a1 a.p.length c1)).setCell ⟨V2.heap.size + 1, 1, none⟩ (.slice b1 o1.length d1)) (V2.heap.size) := BoxT.past hU8 (Ne.symm hne78) _ _
          have k0 := BoxT.c0 hU7; have k1 := BoxT.c1 hU7; have z0 := BoxT.fz hU7 0; have z1 := BoxT.fz hU7 1
          have Hfin := Lib.hid hfin; have H8b := Lib.hid h8b; have HU7 := Lib.hid hU7
          clear hfin h8b hU7 hU8 hUa hUb hUx
          refine anyZ_last (i := 6) (by kernel_rfl) (by decide) rfl (fun K hK => ?_)
          go_simp
          refine hK.out _ _ ?_
          clear hK K k0 k1 z0 z1 hHeld
          generalize hU2 : (U.setCell ⟨V2.heap.size + 1, 0, none⟩ (.slice a1 a.p.length c1)).setCell ⟨V2.heap.size + 1, 1, none⟩ (.slice b1 o1.length d1) = U2 at *
          have k0 := BoxT.c0 H8b.out; have k1 := BoxT.c1 H8b.out; have z0 := BoxT.fz H8b.out 0; have z1 := BoxT.fz H8b.out 1
          refine anyZ_last (i := 7) (by kernel_rfl) (by decide) rfl (fun K hK => ?_)
          go_simp
          refine hK.out _ _ ?_
          clear hK K k0 k1 z0 z1
          refine anyZ_done (by kernel_rfl) ?_
          go_wp2_with fail
          go_meet
          exact Hfin.out
      · skip
        go_simp
        have H7 : Hid (Empt (V1.alloc (.cells #[.slice none 0 0, .slice none 0 0] 32)) (V1.heap.size)) := Lib.hid (by have h := BoxT.new 32 V1 (.slice none 0 0) (.slice none 0 0); first | exact h | (rw [World.size_alloc] at h; exact h))
        have HL7 : Hid (W0.heap.size ≤ V1.heap.size) := Lib.hid (by have h := HX.out.size; first | exact h | (rw [World.size_alloc] at h; exact h))
        have HA := Lib.hid (HA.out.ext ((Ext.refl V1).alloc (.cells #[.slice none 0 0, .slice none 0 0] 32)))
        have HX := Lib.hid (HX.out.alloc (.cells #[.slice none 0 0, .slice none 0 0] 32))
        refine hK.out _ _ ⟨HX.out, Hra.out _ (HX.out), Hrb.out _ (HX.out)⟩ (fun hHeld => ?_)
        clear hK K
        refine anyZ_two (i := 3) (k := 5) (by kernel_rfl) rfl rfl (fun K hK => ?_) (fun K hK => ?_)
        · skip
          go_simp
          go_at_call 16
          refine (Hmb.out _ (HE0.out.trans HX.out)).mono ?_
          rintro e9 V3 ⟨vb, o2, rfl, hs9, hc9, hx9⟩
          obtain ⟨a2, c2, b2, d2, rfl, hs9⟩ := scv_let hs9
          have HX := Lib.hid (HX.out.trans hx9); have HB := Lib.hid hs9; have HcB := Lib.hid hc9
          have HA := Lib.hid (HA.out.ext hx9)
          have H7 := Lib.hid (BoxT.ext hx9 H7.out)
          clear hs9 hc9 hx9
          refine hK.out _ _ ⟨HX.out, Hra.out _ (HX.out), Hrb.out _ (HX.out)⟩ (fun hHeld => ?_)
          clear hK K
          refine anyZ_step (i := 5) (by kernel_rfl) rfl (fun K hK => ?_)
          go_simp
          have H8 : Hid (Empt (V3.alloc (.cells #[.slice none 0 0, .slice none 0 0] 32)) (V3.heap.size)) := Lib.hid (by have h := BoxT.new 32 V3 (.slice none 0 0) (.slice none 0 0); first | exact h | (rw [World.size_alloc] at h; exact h))
          have HL8 : Hid (W0.heap.size ≤ V3.heap.size) := Lib.hid (by have h := HX.out.size; first | exact h | (rw [World.size_alloc] at h; exact h))
          have hlt : V1.heap.size < V3.heap.size := by have h := BoxT.lt H7.out; first | exact h | (rw [World.size_alloc] at h; exact h)
          have Hne : Hid (V1.heap.size ≠ V3.heap.size) := Lib.hid (by omega)
          have H7 := Lib.hid (BoxT.ext ((Ext.refl V3).alloc (.cells #[.slice none 0 0, .slice none 0 0] 32)) H7.out)
          clear hlt
          have HA := Lib.hid (HA.out.ext ((Ext.refl V3).alloc (.cells #[.slice none 0 0, .slice none 0 0] 32)))
          have HB := Lib.hid (HB.out.ext ((Ext.refl V3).alloc (.cells #[.slice none 0 0, .slice none 0 0] 32)))
          have HX := Lib.hid (HX.out.alloc (.cells #[.slice none 0 0, .slice none 0 0] 32))
          refine hK.out _ _ ⟨HX.out, Hra.out _ (HX.out), Hrb.out _ (HX.out)⟩ (fun hHeld => ?_)
          clear hK K
          have hU7 := H7.out; have hU8 := H8.out; have hUa := HA.out; have hUb := HB.out; have hUx := HX.out; have hlo7 := HL7.out; have hlo8 := HL8.out; have hne78 := Hne.out
          clear H7 H8 HA HB HX
          generalize hU : (V3.alloc (.cells #[.slice none 0 0, .slice none 0 0] 32)) = U at *
          clear hU
          have hfin := two_fill (W := W0) hU7 hU8 hne78 hlo7 hlo8 hUa hUb HcA.out HcB.out hUx
          have h8b : Empt ((U.setCell ⟨V1.heap.size, 0, none⟩ (.slice a1 a.p.length c1)).setCell ⟨V1.heap.size, 1, none⟩ (.slice b1 o1.length d1)) (V3.heap.size) := BoxT.past hU8 (Ne.symm hne78) _ _
          have k0 := BoxT.c0 hU7; have k1 := BoxT.c1 hU7; have z0 := BoxT.fz hU7 0; have z1 := BoxT.fz hU7 1
          have Hfin := Lib.hid hfin; have H8b := Lib.hid h8b; have HU7 := Lib.hid hU7
          clear hfin h8b hU7 hU8 hUa hUb hUx
          refine anyZ_last (i := 6) (by kernel_rfl) (by decide) rfl (fun K hK => ?_)
          go_simp
          refine hK.out _ _ ?_
          clear hK K k0 k1 z0 z1 hHeld
          generalize hU2 : (U.setCell ⟨V1.heap.size, 0, none⟩ (.slice a1 a.p.length c1)).setCell ⟨V1.heap.size, 1, none⟩ (.slice b1 o1.length d1) = U2 at *
          have k0 := BoxT.c0 H8b.out; have k1 := BoxT.c1 H8b.out; have z0 := BoxT.fz H8b.out 0; have z1 := BoxT.fz H8b.out 1
          refine anyZ_last (i := 7) (by kernel_rfl) (by decide) rfl (fun K hK => ?_)
          go_simp
          refine hK.out _ _ ?_
          clear hK K k0 k1 z0 z1
          refine anyZ_done (by kernel_rfl) ?_
          go_wp2_with fail
          go_meet
          exact Hfin.out
        · skip
          go_simp
          have H8 : Hid (Empt ((V1.alloc (.cells #[.slice none 0 0, .slice none 0 0] 32)).alloc (.cells #[.slice none 0 0, .slice none 0 0] 32)) (V1.heap.size + 1)) := Lib.hid (by have h := BoxT.new 32 (V1.alloc (.cells #[.slice none 0 0, .slice none 0 0] 32)) (.slice none 0 0) (.slice none 0 0); first | exact h | (rw [World.size_alloc] at h; exact h))
          have HL8 : Hid (W0.heap.size ≤ V1.heap.size + 1) := Lib.hid (by have h := HX.out.size; first | exact h | (rw [World.size_alloc] at h; exact h))
          have hlt : V1.heap.size < V1.heap.size + 1 := by have h := BoxT.lt H7.out; first | exact h | (rw [World.size_alloc] at h; exact h)
          have Hne : Hid (V1.heap.size ≠ V1.heap.size + 1) := Lib.hid (by omega)
          have H7 := Lib.hid (BoxT.ext ((Ext.refl (V1.alloc (.cells #[.slice none 0 0, .slice none 0 0] 32))).alloc (.cells #[.slice none 0 0, .slice none 0 0] 32)) H7.out)
          clear hlt
          have HA := Lib.hid (HA.out.ext ((Ext.refl (V1.alloc (.cells #[.slice none 0 0, .slice none 0 0] 32))).alloc (.cells #[.slice none 0 0, .slice none 0 0] 32)))
          have HX := Lib.hid (HX.out.alloc (.cells #[.slice none 0 0, .slice none 0 0] 32))
          refine hK.out _ _ ⟨HX.out, Hra.out _ (HX.out), Hrb.out _ (HX.out)⟩ (fun hHeld => ?_)
          clear hK K
          refine anyZ_step (i := 3) (by kernel_rfl) rfl (fun K hK => ?_)
          go_simp
          go_at_call 16
          refine (Hmb.out _ (HE0.out.trans HX.out)).mono ?_
          rintro e9 V4 ⟨vb, o2, rfl, hs9, hc9, hx9⟩
          obtain ⟨a2, c2, b2, d2, rfl, hs9⟩ := scv_let hs9
          have HX := Lib.hid (HX.out.trans hx9); have HB := Lib.hid hs9; have HcB := Lib.hid hc9
          have HA := Lib.hid (HA.out.ext hx9)
          have H7 := Lib.hid (BoxT.ext hx9 H7.out)
          have H8 := Lib.hid (BoxT.ext hx9 H8.out)
          clear hs9 hc9 hx9
          refine hK.out _ _ ⟨HX.out, Hra.out _ (HX.out), Hrb.out _ (HX.out)⟩ (fun hHeld => ?_)
          clear hK K
          have hU7 := H7.out; have hU8 := H8.out; have hUa := HA.out; have hUb := HB.out; have hUx := HX.out; have hlo7 := HL7.out; have hlo8 := HL8.out; have hne78 := Hne.out
          clear H7 H8 HA HB HX
          generalize hU : V4 = U at *
          clear hU
          have hfin := two_fill (W := W0) hU7 hU8 hne78 hlo7 hlo8 hUa hUb HcA.out HcB.out hUx
          have h8b : Empt ((U.setCell ⟨V1.heap.size, 0, none⟩ (.slice a1 a.p.length c1)).setCell ⟨V1.heap.size, 1, none⟩ (.slice b1 o1.length d1)) (V1.heap.size + 1) := BoxT.past hU8 (Ne.symm hne78) _ _
          have k0 := BoxT.c0 hU7; have k1 := BoxT.c1 hU7; have z0 := BoxT.fz hU7 0; have z1 := BoxT.fz hU7 1
          have Hfin := Lib.hid hfin; have H8b := Lib.hid h8b; have HU7 := Lib.hid hU7
          clear hfin h8b hU7 hU8 hUa hUb hUx
          refine anyZ_last (i := 6) (by kernel_rfl) (by decide) rfl (fun K hK => ?_)
          go_simp
          refine hK.out _ _ ?_
          clear hK K k0 k1 z0 z1 hHeld
          generalize hU2 : (U.setCell ⟨V1.heap.size, 0, none⟩ (.slice a1 a.p.length c1)).setCell ⟨V1.heap.size, 1, none⟩ (.slice b1 o1.length d1) = U2 at *
          have k0 := BoxT.c0 H8b.out; have k1 := BoxT.c1 H8b.out; have z0 := BoxT.fz H8b.out 0; have z1 := BoxT.fz H8b.out 1
          refine anyZ_last (i := 7) (by kernel_rfl) (by decide) rfl (fun K hK => ?_)
          go_simp
          refine hK.out _ _ ?_
          clear hK K k0 k1 z0 z1
          refine anyZ_done (by kernel_rfl) ?_
          go_wp2_with fail
          go_meet
          exact Hfin.out
      · skip
        go_simp
        have H8 : Hid (Empt (V1.alloc (.cells #[.slice none 0 0, .slice none 0 0] 32)) (V1.heap.size)) := Lib.hid (by have h := BoxT.new 32 V1 (.slice none 0 0) (.slice none 0 0); first | exact h | (rw [World.size_alloc] at h; exact h))
        have HL8 : Hid (W0.heap.size ≤ V1.heap.size) := Lib.hid (by have h := HX.out.size; first | exact h | (rw [World.size_alloc] at h; exact h))
        have HA := Lib.hid (HA.out.ext ((Ext.refl V1).alloc (.cells #[.slice none 0 0, .slice none 0 0] 32)))
        have HX := Lib.hid (HX.out.alloc (.cells #[.slice none 0 0, .slice none 0 0] 32))
        refine hK.out _ _ ⟨HX.out, Hra.out _ (HX.out), Hrb.out _ (HX.out)⟩ (fun hHeld => ?_)
        clear hK K
        refine anyZ_two (i := 3) (k := 4) (by kernel_rfl) rfl rfl (fun K hK => ?_) (fun K hK => ?_)
        · skip
          go_simp
          go_at_call 16
          refine (Hmb.out _ (HE0.out.trans HX.out)).mono ?_
          rintro e9 V5 ⟨vb, o2, rfl, hs9, hc9, hx9⟩
          obtain ⟨a2, c2, b2, d2, rfl, hs9⟩ := scv_let hs9
          have HX := Lib.hid (HX.out.trans hx9); have HB := Lib.hid hs9; have HcB := Lib.hid hc9
          have HA := Lib.hid (HA.out.ext hx9)
          have H8 := Lib.hid (BoxT.ext hx9 H8.out)
          clear hs9 hc9 hx9
          refine hK.out _ _ ⟨HX.out, Hra.out _ (HX.out), Hrb.out _ (HX.out)⟩ (fun hHeld => ?_)
          clear hK K
          refine anyZ_step (i := 4) (by kernel_rfl) rfl (fun K hK => ?_)
          go_simp
          have H7 : Hid (Empt (V5.alloc (.cells #[.slice none 0 0, .slice none 0 0] 32)) (V5.heap.size)) := Lib.hid (by have h := BoxT.new 32 V5 (.slice none 0 0) (.slice none 0 0); first | exact h | (rw [World.size_alloc] at h; exact h))
          have HL7 : Hid (W0.heap.size ≤ V5.heap.size) := Lib.hid (by have h := HX.out.size; first | exact h | (rw [World.size_alloc] at h; exact h))
          have hlt : V1.heap.size < V5.heap.size := by have h := BoxT.lt H8.out; first | exact h | (rw [World.size_alloc] at h; exact h)
          have Hne : Hid (V5.heap.size ≠ V1.heap.size) := Lib.hid (by omega)
          have H8 := Lib.hid (BoxT.ext ((Ext.refl V5).alloc (.cells #[.slice none 0 0, .slice none 0 0] 32)) H8.out)
          clear hlt
          have HA := Lib.hid (HA.out.ext ((Ext.refl V5).alloc (.cells #[.slice none 0 0, .slice none 0 0] 32)))
          have HB := Lib.hid (HB.out.ext ((Ext.refl V5).alloc (.cells #[.slice none 0 0, .slice none 0 0] 32)))
          have HX := Lib.hid (HX.out.alloc (.cells #[.slice none 0 0, .slice none 0 0] 32))
          refine hK.out _ _ ⟨HX.out, Hra.out _ (HX.out), Hrb.out _ (HX.out)⟩ (fun hHeld => ?_)
          clear hK K
          have hU7 := H7.out; have hU8 := H8.out; have hUa := HA.out; have hUb := HB.out; have hUx := HX.out; have hlo7 := HL7.out; have hlo8 := HL8.out; have hne78 := Hne.out
          clear H7 H8 HA HB HX
          generalize hU : (V5.alloc (.cells #[.slice none 0 0, .slice none 0 0] 32)) = U at *
          clear hU
          have hfin := two_fill (W := W0) hU7 hU8 hne78 hlo7 hlo8 hUa hUb HcA.out HcB.out hUx
          have h8b : Empt ((U.setCell ⟨V5.heap.size, 0, none⟩ (.slice a1 a.p.length c1)).setCell ⟨V5.heap.size, 1, none⟩ (.slice b1 o1.length d1)) (V1.heap.size) := BoxT.past hU8 (Ne.symm hne78) _ _
          have k0 := BoxT.c0 hU7; have k1 := BoxT.c1 hU7; have z0 := BoxT.fz hU7 0; have z1 := BoxT.fz hU7 1
          have Hfin := Lib.hid hfin; have H8b := Lib.hid h8b; have HU7 := Lib.hid hU7
          clear hfin h8b hU7 hU8 hUa hUb hUx
          refine anyZ_last (i := 6) (by kernel_rfl) (by decide) rfl (fun K hK => ?_)
          go_simp
          refine hK.out _ _ ?_
          clear hK K k0 k1 z0 z1 hHeld
          generalize hU2 : (U.setCell ⟨V5.heap.size, 0, none⟩ (.slice a1 a.p.length c1)).setCell ⟨V5.heap.size, 1, none⟩ (.slice b1 o1.length d1) = U2 at *
          have k0 := BoxT.c0 H8b.out; have k1 := BoxT.c1 H8b.out; have z0 := BoxT.fz H8b.out 0; have z1 := BoxT.fz H8b.out 1
          refine anyZ_last (i := 7) (by kernel_rfl) (by decide) rfl (fun K hK => ?_)
          go_simp
          refine hK.out _ _ ?_
          clear hK K k0 k1 z0 z1
          refine anyZ_done (by kernel_rfl) ?_
          go_wp2_with fail
          go_meet
          exact Hfin.out
        · skip
          go_simp
          have H7 : Hid (Empt ((V1.alloc (.cells #[.slice none 0 0, .slice none 0 0] 32)).alloc (.cells #[.slice none 0 0, .slice none 0 0] 32)) (V1.heap.size + 1)) := Lib.hid (by have h := BoxT.new 32 (V1.alloc (.cells #[.slice none 0 0, .slice none 0 0] 32)) (.slice none 0 0) (.slice none 0 0); first | exact h | (rw [World.size_alloc] at h; exact h))
          have HL7 : Hid (W0.heap.size ≤ V1.heap.size + 1) := Lib.hid (by have h := HX.out.size; first | exact h | (rw [World.size_alloc] at h; exact h))
          have hlt : V1.heap.size < V1.heap.size + 1 := by have h := BoxT.lt H8.out; first | exact h | (rw [World.size_alloc] at h; exact h)
          have Hne : Hid (V1.heap.size + 1 ≠ V1.heap.size) := Lib.hid (by omega)
          have H8 := Lib.hid (BoxT.ext ((Ext.refl (V1.alloc (.cells #[.slice none 0 0, .slice none 0 0] 32))).alloc (.cells #[.slice none 0 0, .slice none 0 0] 32)) H8.out)
          clear hlt
          have HA := Lib.hid (HA.out.ext ((Ext.refl (V1.alloc (.cells #[.slice none 0 0, .slice none 0 0] 32))).alloc (.cells #[.slice none 0 0, .slice none 0 0] 32)))
          have HX := Lib.hid (HX.out.alloc (.cells #[.slice none 0 0, .slice none 0 0] 32))
          refine hK.out _ _ ⟨HX.out, Hra.out _ (HX.out), Hrb.out _ (HX.out)⟩ (fun hHeld => ?_)
          clear hK K
          refine anyZ_step (i := 3) (by kernel_rfl) rfl (fun K hK => ?_)
          go_simp
          go_at_call 16
          refine (Hmb.out _ (HE0.out.trans HX.out)).mono ?_
          rintro e9 V6 ⟨vb, o2, rfl, hs9, hc9, hx9⟩
          obtain ⟨a2, c2, b2, d2, rfl, hs9⟩ := scv_let hs9
          have HX := Lib.hid (HX.out.trans hx9); have HB := Lib.hid hs9; have HcB := Lib.hid hc9
          have HA := Lib.hid (HA.out.ext hx9)
          have H7 := Lib.hid (BoxT.ext hx9 H7.out)
          have H8 := Lib.hid (BoxT.ext hx9 H8.out)
          clear hs9 hc9 hx9
          refine hK.out _ _ ⟨HX.out, Hra.out _ (HX.out), Hrb.out _ (HX.out)⟩ (fun hHeld => ?_)
          clear hK K
          have hU7 := H7.out; have hU8 := H8.out; have hUa := HA.out; have hUb := HB.out; have hUx := HX.out; have hlo7 := HL7.out; have hlo8 := HL8.out; have hne78 := Hne.out
          clear H7 H8 HA HB HX
          generalize hU : V6 = U at *
          clear hU
          have hfin := two_fill (W := W0) hU7 hU8 hne78 hlo7 hlo8 hUa hUb HcA.out HcB.out hUx
          have h8b : Empt ((U.setCell ⟨V1.heap.size + 1, 0, none⟩ (.slice a1 a.p.length c1)).setCell ⟨V1.heap.size + 1, 1, none⟩ (.slice b1 o1.length d1)) (V1.heap.size) := BoxT.past hU8 (Ne.symm hne78) _ _
          have k0 := BoxT.c0 hU7; have k1 := BoxT.c1 hU7; have z0 := BoxT.fz hU7 0; have z1 := BoxT.fz hU7 1
          have Hfin := Lib.hid hfin; have H8b := Lib.hid h8b; have HU7 := Lib.hid hU7
          clear hfin h8b hU7 hU8 hUa hUb hUx
          refine anyZ_last (i := 6) (by kernel_rfl) (by decide) rfl (fun K hK => ?_)
          go_simp
          refine hK.out _ _ ?_
          clear hK K k0 k1 z0 z1 hHeld
          generalize hU2 : (U.setCell ⟨V1.heap.size + 1, 0, none⟩ (.slice a1 a.p.length c1)).setCell ⟨V1.heap.size + 1, 1, none⟩ (.slice b1 o1.length d1) = U2 at *
          have k0 := BoxT.c0 H8b.out; have k1 := BoxT.c1 H8b.out; have z0 := BoxT.fz H8b.out 0; have z1 := BoxT.fz H8b.out 1
          refine anyZ_last (i := 7) (by kernel_rfl) (by decide) rfl (fun K hK => ?_)
          go_simp
          refine hK.out _ _ ?_
          clear hK K k0 k1 z0 z1
          refine anyZ_done (by kernel_rfl) ?_
          go_wp2_with fail
          go_meet
          exact Hfin.out
    · skip
      go_simp
      have H7 : Hid (Empt (w1.drew.alloc (.cells #[.slice none 0 0, .slice none 0 0] 32)) (w1.heap.size)) := Lib.hid (by have h := BoxT.new 32 w1.drew (.slice none 0 0) (.slice none 0 0); first | exact h | (rw [World.size_alloc] at h; exact h))
      have HL7 : Hid (W0.heap.size ≤ w1.heap.size) := Lib.hid (by have h := HX.out.size; first | exact h | (rw [World.size_alloc] at h; exact h))
      have HX := Lib.hid (HX.out.alloc (.cells #[.slice none 0 0, .slice none 0 0] 32))
      refine hK.out _ _ ⟨HX.out, Hra.out _ (HX.out), Hrb.out _ (HX.out)⟩ (fun hHeld => ?_)
      clear hK K
      refine anyZ_two (i := 1) (k := 5) (by kernel_rfl) rfl rfl (fun K hK => ?_) (fun K hK => ?_)
      · skip
        go_simp
        go_at_call 16
        refine (Hma.out _ (HE0.out.trans HX.out)).mono ?_
        rintro e9 V7 ⟨va, o1, rfl, hs9, hc9, hx9⟩
        obtain ⟨a1, c1, b1, d1, rfl, hs9⟩ := scv_let hs9
        have HX := Lib.hid (HX.out.trans hx9); have HA := Lib.hid hs9; have HcA := Lib.hid hc9
        have H7 := Lib.hid (BoxT.ext hx9 H7.out)
        clear hs9 hc9 hx9
        refine hK.out _ _ ⟨HX.out, Hra.out _ (HX.out), Hrb.out _ (HX.out)⟩ (fun hHeld => ?_)
        clear hK K
        refine anyZ_two (i := 3) (k := 5) (by kernel_rfl) rfl rfl (fun K hK => ?_) (fun K hK => ?_)
        · skip
          go_simp
          go_at_call 16
          refine (Hmb.out _ (HE0.out.trans HX.out)).mono ?_
          rintro e9 V8 ⟨vb, o2, rfl, hs9, hc9, hx9⟩
          obtain ⟨a2, c2, b2, d2, rfl, hs9⟩ := scv_let hs9
          have HX := Lib.hid (HX.out.trans hx9); have HB := Lib.hid hs9; have HcB := Lib.hid hc9
          have HA := Lib.hid (HA.out.ext hx9)
          have H7 := Lib.hid (BoxT.ext hx9 H7.out)
          clear hs9 hc9 hx9
          refine hK.out _ _ ⟨HX.out, Hra.out _ (HX.out), Hrb.out _ (HX.out)⟩ (fun hHeld => ?_)
          clear hK K
          refine anyZ_step (i := 5) (by kernel_rfl) rfl (fun K hK => ?_)
          go_simp
          have H8 : Hid (Empt (V8.alloc (.cells #[.slice none 0 0, .slice none 0 0] 32)) (V8.heap.size)) := Lib.hid (by have h := BoxT.new 32 V8 (.slice none 0 0) (.slice none 0 0); first | exact h | (rw [World.size_alloc] at h; exact h))
          have HL8 : Hid (W0.heap.size ≤ V8.heap.size) := Lib.hid (by have h := HX.out.size; first | exact h | (rw [World.size_alloc] at h; exact h))
          have hlt : w1.heap.size < V8.heap.size := by have h := BoxT.lt H7.out; first | exact h | (rw [World.size_alloc] at h; exact h)
          have Hne : Hid (w1.heap.size ≠ V8.heap.size) := Lib.hid (by omega)
          have H7 := Lib.hid (BoxT.ext ((Ext.refl V8).alloc (.cells #[.slice none 0 0, .slice none 0 0] 32)) H7.out)
          clear hlt
          have HA := Lib.hid (HA.out.ext ((Ext.refl V8).alloc (.cells #[.slice none 0 0, .slice none 0 0] 32)))
          have HB := Lib.hid (HB.out.ext ((Ext.refl V8).alloc (.cells #[.slice none 0 0, .slice none 0 0] 32)))
          have HX := Lib.hid (HX.out.alloc (.cells #[.slice none 0 0, .slice none 0 0] 32))
          refine hK.out _ _ ⟨HX.out, Hra.out _ (HX.out), Hrb.out _ (HX.out)⟩ (fun hHeld => ?_)
          clear hK K
          have hU7 := H7.out; have hU8 := H8.out; have hUa := HA.out; have hUb := HB.out; have hUx := HX.out; have hlo7 := HL7.out; have hlo8 := HL8.out; have hne78 := Hne.out
          clear H7 H8 HA HB HX
          generalize hU : (V8.alloc (.cells #[.slice none 0 0, .slice none 0 0] 32)) = U at *
          clear hU
          have hfin := two_fill (W := W0) hU7 hU8 hne78 hlo7 hlo8 hUa hUb HcA.out HcB.out hUx
          have h8b : Empt ((U.setCell ⟨w1.heap.size, 0, none⟩ (.slice a1 a.p.length c1)).setCell ⟨w1.heap.size, 1, none⟩ (.slice b1 o1.length d1)) (V8.heap.size) := BoxT.past hU8 (Ne.symm hne78) _ _
          have k0 := BoxT.c0 hU7; have k1 := BoxT.c1 hU7; have z0 := BoxT.fz hU7 0; have z1 := BoxT.fz hU7 1
          have Hfin := Lib.hid hfin; have H8b := Lib.hid h8b; have HU7 := Lib.hid hU7
          clear hfin h8b hU7 hU8 hUa hUb hUx
          refine anyZ_last (i := 6) (by kernel_rfl) (by decide) rfl (fun K hK => ?_)
          go_simp
          refine hK.out _ _ ?_
          clear hK K k0 k1 z0 z1 hHeld
          generalize hU2 : (U.setCell ⟨w1.heap.size, 0, none⟩ (.slice a1 a.p.length c1)).setCell ⟨w1.heap.size, 1, none⟩ (.slice b1 o1.length d1) = U2 at *
          have k0 := BoxT.c0 H8b.out; have k1 := BoxT.c1 H8b.out; have z0 := BoxT.fz H8b.out 0; have z1 := BoxT.fz H8b.out 1
          refine anyZ_last (i := 7) (by kernel_rfl) (by decide) rfl (fun K hK => ?_)
          go_simp
          refine hK.out _ _ ?_
          clear hK K k0 k1 z0 z1
          refine anyZ_done (by kernel_rfl) ?_
          go_wp2_with fail
          go_meet
          exact Hfin.out
        · skip
          go_simp
          have H8 : Hid (Empt (V7.alloc (.cells #[.slice none 0 0, .slice none 0 0] 32)) (V7.heap.size)) := Lib.hid (by have h := BoxT.new 32 V7 (.slice none 0 0) (.slice none 0 0); first | exact h | (rw [World.size_alloc] at h; exact h))
          have HL8 : Hid (W0.heap.size ≤ V7.heap.size) := Lib.hid (by have h := HX.out.size; first | exact h | (rw [World.size_alloc] at h; exact h))
          have hlt : w1.heap.size < V7.heap.size := by have h := BoxT.lt H7.out; first | exact h | (rw [World.size_alloc] at h; exact h)
          have Hne : Hid (w1.heap.size ≠ V7.heap.size) := Lib.hid (by omega)
          have H7 := Lib.hid (BoxT.ext ((Ext.refl V7).alloc (.cells #[.slice none 0 0, .slice none 0 0] 32)) H7.out)
          clear hlt
          have HA := Lib.hid (HA.out.ext ((Ext.refl V7).alloc (.cells #[.slice none 0 0, .slice none 0 0] 32)))
          have HX := Lib.hid (HX.out.alloc (.cells #[.slice none 0 0, .slice none 0 0] 32))
          refine hK.out _ _ ⟨HX.out, Hra.out _ (HX.out), Hrb.out _ (HX.out)⟩ (fun hHeld => ?_)
          clear hK K
          refine anyZ_step (i := 3) (by kernel_rfl) rfl (fun K hK => ?_)
          go_simp
          go_at_call 16
          refine (Hmb.out _ (HE0.out.trans HX.out)).mono ?_
          rintro e9 V9 ⟨vb, o2, rfl, hs9, hc9, hx9⟩
          obtain ⟨a2, c2, b2, d2, rfl, hs9⟩ := scv_let hs9
          have HX := Lib.hid (HX.out.trans hx9); have HB := Lib.hid hs9; have HcB := Lib.hid hc9
          have HA := Lib.hid (HA.out.ext hx9)
          have H7 := Lib.hid (BoxT.ext hx9 H7.out)
          have H8 := Lib.hid (BoxT.ext hx9 H8.out)
          clear hs9 hc9 hx9
          refine hK.out _ _ ⟨HX.out, Hra.out _ (HX.out), Hrb.out _ (HX.out)⟩ (fun hHeld => ?_)
          clear hK K
          have hU7 := H7.out; have hU8 := H8.out; have hUa := HA.out; have hUb := HB.out; have hUx := HX.out; have hlo7 := HL7.out; have hlo8 := HL8.out; have hne78 := Hne.out
          clear H7 H8 HA HB HX
          generalize hU : V9 = U at *
          clear hU
          have hfin := two_fill (W := W0) hU7 hU8 hne78 hlo7 hlo8 hUa hUb HcA.out HcB.out hUx
          have h8b : Empt ((U.setCell ⟨w1.heap.size, 0, none⟩ (.slice a1 a.p.length c1)).setCell ⟨w1.heap.size, 1, none⟩ (.slice b1 o1.length d1)) (V7.heap.size) := BoxT.past hU8 (Ne.symm hne78) _ _
          have k0 := BoxT.c0 hU7; have k1 := BoxT.c1 hU7; have z0 := BoxT.fz hU7 0; have z1 := BoxT.fz hU7 1
          have Hfin := Lib.hid hfin; have H8b := Lib.hid h8b; have HU7 := Lib.hid hU7
          clear hfin h8b hU7 hU8 hUa hUb hUx
          refine anyZ_last (i := 6) (by kernel_rfl) (by decide) rfl (fun K hK => ?_)
          go_simp
          refine hK.out _ _ ?_
          clear hK K k0 k1 z0 z1 hHeld
          generalize hU2 : (U.setCell ⟨w1.heap.size, 0, none⟩ (.slice a1 a.p.length c1)).setCell ⟨w1.heap.size, 1, none⟩ (.slice b1 o1.length d1) = U2 at *
          have k0 := BoxT.c0 H8b.out; have k1 := BoxT.c1 H8b.out; have z0 := BoxT.fz H8b.out 0; have z1 := BoxT.fz H8b.out 1
          refine anyZ_last (i := 7) (by kernel_rfl) (by decide) rfl (fun K hK => ?_)
          go_simp
          refine hK.out _ _ ?_
          clear hK K k0 k1 z0 z1
          refine anyZ_done (by kernel_rfl) ?_
          go_wp2_with fail
          go_meet
          exact Hfin.out
      · skip
        go_simp
        have H8 : Hid (Empt ((w1.drew.alloc (.cells #[.slice none 0 0, .slice none 0 0] 32)).alloc (.cells #[.slice none 0 0, .slice none 0 0] 32)) (w1.heap.size + 1)) := Lib.hid (by have h := BoxT.new 32 (w1.drew.alloc (.cells #[.slice none 0 0, .slice none 0 0] 32)) (.slice none 0 0) (.slice none 0 0); first | exact h | (rw [World.size_alloc] at h; exact h))
        have HL8 : Hid (W0.heap.size ≤ w1.heap.size + 1) := Lib.hid (by have h := HX.out.size; first | exact h | (rw [World.size_alloc] at h; exact h))
        have hlt : w1.heap.size < w1.heap.size + 1 := by have h := BoxT.lt H7.out; first | exact h | (rw [World.size_alloc] at h; exact h)
        have Hne : Hid (w1.heap.size ≠ w1.heap.size + 1) := Lib.hid (by omega)
        have H7 := Lib.hid (BoxT.ext ((Ext.refl (w1.drew.alloc (.cells #[.slice none 0 0, .slice none 0 0] 32))).alloc (.cells #[.slice none 0 0, .slice none 0 0] 32)) H7.out)
        clear hlt
        have HX := Lib.hid (HX.out.alloc (.cells #[.slice none 0 0, .slice none 0 0] 32))
        refine hK.out _ _ ⟨HX.out, Hra.out _ (HX.out), Hrb.out _ (HX.out)⟩ (fun hHeld => ?_)
        clear hK K
        refine anyZ_step (i := 1) (by kernel_rfl) rfl (fun K hK => ?_)
        go_simp
        go_at_call 16
        refine (Hma.out _ (HE0.out.trans HX.out)).mono ?_
        rintro e9 V10 ⟨va, o1, rfl, hs9, hc9, hx9⟩
        obtain ⟨a1, c1, b1, d1, rfl, hs9⟩ := scv_let hs9
        have HX := Lib.hid (HX.out.trans hx9); have HA := Lib.hid hs9; have HcA := Lib.hid hc9
        have H7 := Lib.hid (BoxT.ext hx9 H7.out)
        have H8 := Lib.hid (BoxT.ext hx9 H8.out)
        clear hs9 hc9 hx9
        refine hK.out _ _ ⟨HX.out, Hra.out _ (HX.out), Hrb.out _ (HX.out)⟩ (fun hHeld => ?_)
        clear hK K
        refine anyZ_step (i := 3) (by kernel_rfl) rfl (fun K hK => ?_)
        go_simp
        go_at_call 16
        refine (Hmb.out _ (HE0.out.trans HX.out)).mono ?_
        rintro e9 V11 ⟨vb, o2, rfl, hs9, hc9, hx9⟩
        obtain ⟨a2, c2, b2, d2, rfl, hs9⟩ := scv_let hs9
        have HX := Lib.hid (HX.out.trans hx9); have HB := Lib.hid hs9; have HcB := Lib.hid hc9
        have HA := Lib.hid (HA.out.ext hx9)
        have H7 := Lib.hid (BoxT.ext hx9 H7.out)
        have H8 := Lib.hid (BoxT.ext hx9 H8.out)
        clear hs9 hc9 hx9
        refine hK.out _ _ ⟨HX.out, Hra.out _ (HX.out), Hrb.out _ (HX.out)⟩ (fun hHeld => ?_)
        clear hK K
        have hU7 := H7.out; have hU8 := H8.out; have hUa := HA.out; have hUb := HB.out; have hUx := HX.out; have hlo7 := HL7.out; have hlo8 := HL8.out; have hne78 := Hne.out
        clear H7 H8 HA HB HX
        generalize hU : V11 = U at *
        clear hU
        have hfin := two_fill (W := W0) hU7 hU8 hne78 hlo7 hlo8 hUa hUb HcA.out HcB.out hUx
        have h8b : Empt ((U.setCell ⟨w1.heap.size, 0, none⟩ (.slice a1 a.p.length c1)).setCell ⟨w1.heap.size, 1, none⟩ (.slice b1 o1.length d1)) (w1.heap.size + 1) := BoxT.past hU8 (Ne.symm hne78) _ _
        have k0 := BoxT.c0 hU7; have k1 := BoxT.c1 hU7; have z0 := BoxT.fz hU7 0; have z1 := BoxT.fz hU7 1
        have Hfin := Lib.hid hfin; have H8b := Lib.hid h8b; have HU7 := Lib.hid hU7
        clear hfin h8b hU7 hU8 hUa hUb hUx
        refine anyZ_last (i := 6) (by kernel_rfl) (by decide) rfl (fun K hK => ?_)
        go_simp
        refine hK.out _ _ ?_
        clear hK K k0 k1 z0 z1 hHeld
        generalize hU2 : (U.setCell ⟨w1.heap.size, 0, none⟩ (.slice a1 a.p.length c1)).setCell ⟨w1.heap.size, 1, none⟩ (.slice b1 o1.length d1) = U2 at *
        have k0 := BoxT.c0 H8b.out; have k1 := BoxT.c1 H8b.out; have z0 := BoxT.fz H8b.out 0; have z1 := BoxT.fz H8b.out 1
        refine anyZ_last (i := 7) (by kernel_rfl) (by decide) rfl (fun K hK => ?_)
        go_simp
        refine hK.out _ _ ?_
        clear hK K k0 k1 z0 z1
        refine anyZ_done (by kernel_rfl) ?_
        go_wp2_with fail
        go_meet
        exact Hfin.out
    · skip
      go_simp
      have H8 : Hid (Empt (w1.drew.alloc (.cells #[.slice none 0 0, .slice none 0 0] 32)) (w1.heap.size)) := Lib.hid (by have h := BoxT.new 32 w1.drew (.slice none 0 0) (.slice none 0 0); first | exact h | (rw [World.size_alloc] at h; exact h))
      have HL8 : Hid (W0.heap.size ≤ w1.heap.size) := Lib.hid (by have h := HX.out.size; first | exact h | (rw [World.size_alloc] at h; exact h))
      have HX := Lib.hid (HX.out.alloc (.cells #[.slice none 0 0, .slice none 0 0] 32))
      refine hK.out _ _ ⟨HX.out, Hra.out _ (HX.out), Hrb.out _ (HX.out)⟩ (fun hHeld => ?_)
      clear hK K
      refine anyZ_two (i := 1) (k := 4) (by kernel_rfl) rfl rfl (fun K hK => ?_) (fun K hK => ?_)
      · skip
        go_simp
        go_at_call 16
        refine (Hma.out _ (HE0.out.trans HX.out)).mono ?_
        rintro e9 V12 ⟨va, o1, rfl, hs9, hc9, hx9⟩
        obtain ⟨a1, c1, b1, d1, rfl, hs9⟩ := scv_let hs9
        have HX := Lib.hid (HX.out.trans hx9); have HA := Lib.hid hs9; have HcA := Lib.hid hc9
        have H8 := Lib.hid (BoxT.ext hx9 H8.out)
        clear hs9 hc9 hx9
        refine hK.out _ _ ⟨HX.out, Hra.out _ (HX.out), Hrb.out _ (HX.out)⟩ (fun hHeld => ?_)
        clear hK K
        refine anyZ_two (i := 3) (k := 4) (by kernel_rfl) rfl rfl (fun K hK => ?_) (fun K hK => ?_)
        · skip
          go_simp
          go_at_call 16
          refine (Hmb.out _ (HE0.out.trans HX.out)).mono ?_
          rintro e9 V13 ⟨vb, o2, rfl, hs9, hc9, hx9⟩
          obtain ⟨a2, c2, b2, d2, rfl, hs9⟩ := scv_let hs9
          have HX := Lib.hid (HX.out.trans hx9); have HB := Lib.hid hs9; have HcB := Lib.hid hc9
          have HA := Lib.hid (HA.out.ext hx9)
          have H8 := Lib.hid (BoxT.ext hx9 H8.out)
          clear hs9 hc9 hx9
          refine hK.out _ _ ⟨HX.out, Hra.out _ (HX.out), Hrb.out _ (HX.out)⟩ (fun hHeld => ?_)
          clear hK K
          refine anyZ_step (i := 4) (by kernel_rfl) rfl (fun K hK => ?_)
          go_simp
          have H7 : Hid (Empt (V13.alloc (.cells #[.slice none 0 0, .slice none 0 0] 32)) (V13.heap.size)) := Lib.hid (by have h := BoxT.new 32 V13 (.slice none 0 0) (.slice none 0 0); first | exact h | (rw [World.size_alloc] at h; exact h))
          have HL7 : Hid (W0.heap.size ≤ V13.heap.size) := Lib.hid (by have h := HX.out.size; first | exact h | (rw [World.size_alloc] at h; exact h))
          have hlt : w1.heap.size < V13.heap.size := by have h := BoxT.lt H8.out; first | exact h | (rw [World.size_alloc] at h; exact h)
          have Hne : Hid (V13.heap.size ≠ w1.heap.size) := Lib.hid (by omega)
          have H8 := Lib.hid (BoxT.ext ((Ext.refl V13).alloc (.cells #[.slice none 0 0, .slice none 0 0] 32)) H8.out)
          clear hlt
          have HA := Lib.hid (HA.out.ext ((Ext.refl V13).alloc (.cells #[.slice none 0 0, .slice none 0 0] 32)))
          have HB := Lib.hid (HB.out.ext ((Ext.refl V13).alloc (.cells #[.slice none 0 0, .slice none 0 0] 32)))
          have HX := Lib.hid (HX.out.alloc (.cells #[.slice none 0 0, .slice none 0 0] 32))
          refine hK.out _ _ ⟨HX.out, Hra.out _ (HX.out), Hrb.out _ (HX.out)⟩ (fun hHeld => ?_)
          clear hK K
          have hU7 := H7.out; have hU8 := H8.out; have hUa := HA.out; have hUb := HB.out; have hUx := HX.out; have hlo7 := HL7.out; have hlo8 := HL8.out; have hne78 := Hne.out
          clear H7 H8 HA HB HX
          generalize hU : (V13.alloc (.cells #[.slice none 0 0, .slice none 0 0] 32)) = U at *
          clear hU
          have hfin := two_fill (W := W0) hU7 hU8 hne78 hlo7 hlo8 hUa hUb HcA.out HcB.out hUx
          have h8b : Empt ((U.setCell ⟨V13.heap.size, 0, none⟩ (.slice a1 a.p.length c1)).setCell ⟨V13.heap.size, 1, none⟩ (.slice b1 o1.length d1)) (w1.heap.size) := BoxT.past hU8 (Ne.symm hne78) _ _
          have k0 := BoxT.c0 hU7; have k1 := BoxT.c1 hU7; have z0 := BoxT.fz hU7 0; have z1 := BoxT.fz hU7 1
          have Hfin := Lib.hid hfin; have H8b := Lib.hid h8b; have HU7 := Lib.hid hU7
          clear hfin h8b hU7 hU8 hUa hUb hUx
          refine anyZ_last (i := 6) (by kernel_rfl) (by decide) rfl (fun K hK => ?_)
          go_simp
          refine hK.out _ _ ?_
          clear hK K k0 k1 z0 z1 hHeld
          generalize hU2 : (U.setCell ⟨V13.heap.size, 0, none⟩ (.slice a1 a.p.length c1)).setCell ⟨V13.heap.size, 1, none⟩ (.slice b1 o1.length d1) = U2 at *
          have k0 := BoxT.c0 H8b.out; have k1 := BoxT.c1 H8b.out; have z0 := BoxT.fz H8b.out 0; have z1 := BoxT.fz H8b.out 1
          refine anyZ_last (i := 7) (by kernel_rfl) (by decide) rfl (fun K hK => ?_)
          go_simp
          refine hK.out _ _ ?_
          clear hK K k0 k1 z0 z1
          refine anyZ_done (by kernel_rfl) ?_
          go_wp2_with fail
          go_meet
          exact Hfin.out
        · skip
          go_simp
          have H7 : Hid (Empt (V12.alloc (.cells #[.slice none 0 0, .slice none 0 0] 32)) (V12.heap.size)) := Lib.hid (by have h := BoxT.new 32 V12 (.slice none 0 0) (.slice none 0 0); first | exact h | (rw [World.size_alloc] at h; exact h))
          have HL7 : Hid (W0.heap.size ≤ V12.heap.size) := Lib.hid (by have h := HX.out.size; first | exact h | (rw [World.size_alloc] at h; exact h))
          have hlt : w1.heap.size < V12.heap.size := by have h := BoxT.lt H8.out; first | exact h | (rw [World.size_alloc] at h; exact h)
          have Hne : Hid (V12.heap.size ≠ w1.heap.size) := Lib.hid (by omega)
          have H8 := Lib.hid (BoxT.ext ((Ext.refl V12).alloc (.cells #[.slice none 0 0, .slice none 0 0] 32)) H8.out)
          clear hlt
          have HA := Lib.hid (HA.out.ext ((Ext.refl V12).alloc (.cells #[.slice none 0 0, .slice none 0 0] 32)))
          have HX := Lib.hid (HX.out.alloc (.cells #[.slice none 0 0, .slice none 0 0] 32))
          refine hK.out _ _ ⟨HX.out, Hra.out _ (HX.out), Hrb.out _ (HX.out)⟩ (fun hHeld => ?_)
          clear hK K
          refine anyZ_step (i := 3) (by kernel_rfl) rfl (fun K hK => ?_)
          go_simp
          go_at_call 16
          refine (Hmb.out _ (HE0.out.trans HX.out)).mono ?_
          rintro e9 V14 ⟨vb, o2, rfl, hs9, hc9, hx9⟩
          obtain ⟨a2, c2, b2, d2, rfl, hs9⟩ := scv_let hs9
          have HX := Lib.hid (HX.out.trans hx9); have HB := Lib.hid hs9; have HcB := Lib.hid hc9
          have HA := Lib.hid (HA.out.ext hx9)
          have H7 := Lib.hid (BoxT.ext hx9 H7.out)
          have H8 := Lib.hid (BoxT.ext hx9 H8.out)
          clear hs9 hc9 hx9
          refine hK.out _ _ ⟨HX.out, Hra.out _ (HX.out), Hrb.out _ (HX.out)⟩ (fun hHeld => ?_)
          clear hK K
          have hU7 := H7.out; have hU8 := H8.out; have hUa := HA.out; have hUb := HB.out; have hUx := HX.out; have hlo7 := HL7.out; have hlo8 := HL8.out; have hne78 := Hne.out
          clear H7 H8 HA HB HX
          generalize hU : V14 = U at *
          clear hU
          have hfin := two_fill (W := W0) hU7 hU8 hne78 hlo7 hlo8 hUa hUb HcA.out HcB.out hUx
          have h8b : Empt ((U.setCell ⟨V12.heap.size, 0, none⟩ (.slice a1 a.p.length c1)).setCell ⟨V12.heap.size, 1, none⟩ (.slice b1 o1.length d1)) (w1.heap.size) := BoxT.past hU8 (Ne.symm hne78) _ _
          have k0 := BoxT.c0 hU7; have k1 := BoxT.c1 hU7; have z0 := BoxT.fz hU7 0; have z1 := BoxT.fz hU7 1
          have Hfin := Lib.hid hfin; have H8b := Lib.hid h8b; have HU7 := Lib.hid hU7
          clear hfin h8b hU7 hU8 hUa hUb hUx
          refine anyZ_last (i := 6) (by kernel_rfl) (by decide) rfl (fun K hK => ?_)
          go_simp
          refine hK.out _ _ ?_
          clear hK K k0 k1 z0 z1 hHeld
          generalize hU2 : (U.setCell ⟨V12.heap.size, 0, none⟩ (.slice a1 a.p.length c1)).setCell ⟨V12.heap.size, 1, none⟩ (.slice b1 o1.length d1) = U2 at *
          have k0 := BoxT.c0 H8b.out; have k1 := BoxT.c1 H8b.out; have z0 := BoxT.fz H8b.out 0; have z1 := BoxT.fz H8b.out 1
          refine anyZ_last (i := 7) (by kernel_rfl) (by decide) rfl (fun K hK => ?_)
          go_simp
          refine hK.out _ _ ?_
          clear hK K k0 k1 z0 z1
          refine anyZ_done (by kernel_rfl) ?_
          go_wp2_with fail
          go_meet
          exact Hfin.out
      · skip
        go_simp
        have H7 : Hid (Empt ((w1.drew.alloc (.cells #[.slice none 0 0, .slice none 0 0] 32)).alloc (.cells #[.slice none 0 0, .slice none 0 0] 32)) (w1.heap.size + 1)) := Lib.hid (by have h := BoxT.new 32 (w1.drew.alloc (.cells #[.slice none 0 0, .slice none 0 0] 32)) (.slice none 0 0) (.slice none 0 0); first | exact h | (rw [World.size_alloc] at h; exact h))
        have HL7 : Hid (W0.heap.size ≤ w1.heap.size + 1) := Lib.hid (by have h := HX.out.size; first | exact h | (rw [World.size_alloc] at h; exact h))
        have hlt : w1.heap.size < w1.heap.size + 1 := by have h := BoxT.lt H8.out; first | exact h | (rw [World.size_alloc] at h; exact h)
        have Hne : Hid (w1.heap.size + 1 ≠ w1.heap.size) := Lib.hid (by omega)
        have H8 := Lib.hid (BoxT.ext ((Ext.refl (w1.drew.alloc (.cells #[.slice none 0 0, .slice none 0 0] 32))).alloc (.cells #[.slice none 0 0, .slice none 0 0] 32)) H8.out)
        clear hlt
        have HX := Lib.hid (HX.out.alloc (.cells #[.slice none 0 0, .slice none 0 0] 32))
        refine hK.out _ _ ⟨HX.out, Hra.out _ (HX.out), Hrb.out _ (HX.out)⟩ (fun hHeld => ?_)
        clear hK K
        refine anyZ_step (i := 1) (by kernel_rfl) rfl (fun K hK => ?_)
        go_simp
        go_at_call 16
        refine (Hma.out _ (HE0.out.trans HX.out)).mono ?_
        rintro e9 V15 ⟨va, o1, rfl, hs9, hc9, hx9⟩
        obtain ⟨a1, c1, b1, d1, rfl, hs9⟩ := scv_let hs9
        have HX := Lib.hid (HX.out.trans hx9); have HA := Lib.hid hs9; have HcA := Lib.hid hc9
        have H7 := Lib.hid (BoxT.ext hx9 H7.out)
        have H8 := Lib.hid (BoxT.ext hx9 H8.out)
        clear hs9 hc9 hx9
        refine hK.out _ _ ⟨HX.out, Hra.out _ (HX.out), Hrb.out _ (HX.out)⟩ (fun hHeld => ?_)
        clear hK K
        refine anyZ_step (i := 3) (by kernel_rfl) rfl (fun K hK => ?_)
        go_simp
        go_at_call 16
        refine (Hmb.out _ (HE0.out.trans HX.out)).mono ?_
        rintro e9 V16 ⟨vb, o2, rfl, hs9, hc9, hx9⟩
        obtain ⟨a2, c2, b2, d2, rfl, hs9⟩ := scv_let hs9
        have HX := Lib.hid (HX.out.trans hx9); have HB := Lib.hid hs9; have HcB := Lib.hid hc9
        have HA := Lib.hid (HA.out.ext hx9)
        have H7 := Lib.hid (BoxT.ext hx9 H7.out)
        have H8 := Lib.hid (BoxT.ext hx9 H8.out)
        clear hs9 hc9 hx9
        refine hK.out _ _ ⟨HX.out, Hra.out _ (HX.out), Hrb.out _ (HX.out)⟩ (fun hHeld => ?_)
        clear hK K
        have hU7 := H7.out; have hU8 := H8.out; have hUa := HA.out; have hUb := HB.out; have hUx := HX.out; have hlo7 := HL7.out; have hlo8 := HL8.out; have hne78 := Hne.out
        clear H7 H8 HA HB HX
        generalize hU : V16 = U at *
        clear hU
        have hfin := two_fill (W := W0) hU7 hU8 hne78 hlo7 hlo8 hUa hUb HcA.out HcB.out hUx
        have h8b : Empt ((U.setCell ⟨w1.heap.size + 1, 0, none⟩ (.slice a1 a.p.length c1)).setCell ⟨w1.heap.size + 1, 1, none⟩ (.slice b1 o1.length d1)) (w1.heap.size) := BoxT.past hU8 (Ne.symm hne78) _ _
        have k0 := BoxT.c0 hU7; have k1 := BoxT.c1 hU7; have z0 := BoxT.fz hU7 0; have z1 := BoxT.fz hU7 1
        have Hfin := Lib.hid hfin; have H8b := Lib.hid h8b; have HU7 := Lib.hid hU7
        clear hfin h8b hU7 hU8 hUa hUb hUx
        refine anyZ_last (i := 6) (by kernel_rfl) (by decide) rfl (fun K hK => ?_)
        go_simp
        refine hK.out _ _ ?_
        clear hK K k0 k1 z0 z1 hHeld
        generalize hU2 : (U.setCell ⟨w1.heap.size + 1, 0, none⟩ (.slice a1 a.p.length c1)).setCell ⟨w1.heap.size + 1, 1, none⟩ (.slice b1 o1.length d1) = U2 at *
        have k0 := BoxT.c0 H8b.out; have k1 := BoxT.c1 H8b.out; have z0 := BoxT.fz H8b.out 0; have z1 := BoxT.fz H8b.out 1
        refine anyZ_last (i := 7) (by kernel_rfl) (by decide) rfl (fun K hK => ?_)
        go_simp
        refine hK.out _ _ ?_
        clear hK K k0 k1 z0 z1
        refine anyZ_done (by kernel_rfl) ?_
        go_wp2_with fail
        go_meet
        exact Hfin.out
    -- @@END@@
  case rest =>
    obtain ⟨p7, p8, a1, c1, b1, d1, a2, c2, b2, d2, o1, o2, rfl, rfl, hb7, hb8, hs1, hs2, hc1, hc2, hx3⟩ := hcut
    have hwa := wl_wd a hc1
    have hwb := wl_wd b hc2
    have hna := wl_nine a hc1
    have hnb := wl_nine b hc2
    have hpa := hwa.pos
    have hpb := hwb.pos
    rw [List.length_map] at hna hnb hpa hpb
    have hla : a.p.length = 2 ∨ a.p.length = 3 := by rcases a.pw with e | e <;> rw [e] <;> simp
    have hlb : b.p.length = 2 ∨ b.p.length = 3 := by rcases b.pw with e | e <;> rw [e] <;> simp
    have hwE := HE0.out.trans hx3
    have hmo := scMode_c _ a.p o1 m wc (He.out.ext hwE) hs1 hwa
    have hsw := fun W (hE : Ext wc W) => scSameW_c _ _ a.p b.p o1 o2 W (He.out.ext (hwE.trans hE)) (hs1.ext hE) (hs2.ext hE) hwa hwb
    have hro := fun W (hE : Ext wc W) => scRot_c _ _ a.p b.p o1 o2 W (He.out.ext (hwE.trans hE)) (hs1.ext hE) (hs2.ext hE) hwa hwb
    have hsa := fun W (hE : Ext wc W) => lSame_c _ _ a.p b.p o1 o2 W (hs1.ext hE) (hs2.ext hE) (by omega) (by omega) (by omega) (by omega) (fun r hr => by rw [hwa.len _ (List.mem_map_of_mem hr)]; omega) (fun r hr => by rw [hwb.len _ (List.mem_map_of_mem hr)]; omega)
    have hlm := fun (k : Nat) (hk : k < o1.length) W (hE : Ext wc W) => lMode_c _ a.p o1 (k : Int) W (He.out.ext (hwE.trans hE)) (hs1.ext hE) hwa (by omega) (by omega)
    have hls := fun (k : Nat) W v out (hE : Ext wc W) (hv : ScV W v a.p out) (hm : out.map Qw.x = md a.p (o1.map Qw.x) (k : Int)) => (show Calls Tryz.prog 45 #[v, .agg #[.slice a2 b.p.length c2, .slice b2 o2.length d2]] W fun e w' => e = .returned (.bool (decide (a.p = b.p) && decide (md a.p (o1.map Qw.x) (k : Int) = o2.map Qw.x))) ∧ Ext W w' by
      have hw := hwa.mode (k : Int)
      have hol : out.length ≤ 10 := by have := hw.few; rw [← hm, List.length_map] at this; exact this
      have := lSame_c v _ a.p b.p out o2 W hv (hs2.ext hE) (by omega) (by omega) (by omega) (by omega) (fun r hr => by rw [hw.len _ (by rw [← hm]; exact List.mem_map_of_mem hr)]; omega) (fun r hr => by rw [hwb.len _ (List.mem_map_of_mem hr)]; omega)
      rw [hm] at this
      exact this)
    have hmm := fun W v1 v2 rs1 rs2 (h1 : ScV W v1 a.p rs1) (h2 : ScV W v2 a.p rs2) (e1 : rs1.map Qw.x = md a.p (o1.map Qw.x) m) (e2 : rs2.map Qw.x = md a.p (o1.map Qw.x) m) => (show Calls Tryz.prog 45 #[v1, v2] W fun e w' => e = .returned (.bool true) ∧ Ext W w' by
      have hM := hwa.mode m
      have hf := hM.few
      have := lSame_c v1 v2 a.p a.p rs1 rs2 W h1 h2 (by omega) (by omega) (by rw [← e1, List.length_map] at hf; omega) (by rw [← e2, List.length_map] at hf; omega) (fun r hr => by rw [hM.len _ (by rw [← e1]; exact List.mem_map_of_mem hr)]; omega) (fun r hr => by rw [hM.len _ (by rw [← e2]; exact List.mem_map_of_mem hr)]; omega)
      rw [e1, e2, decide_eq_true rfl, decide_eq_true rfl] at this
      exact this)
    have hlm2 := fun (h0 : 0 ≤ m) (h1 : m < (o1.length : Int)) W (hE : Ext wc W) => lMode_c _ a.p o1 m W (He.out.ext (hwE.trans hE)) (hs1.ext hE) hwa (by omega) (by omega)
    have hSQ : ∀ W, Ext wc W → Ext wc W ∧ W.cell? ⟨p7, 0, none⟩ = some (.slice a1 a.p.length c1) ∧ W.cell? ⟨p7, 1, none⟩ = some (.slice b1 o1.length d1) ∧ W.cell? ⟨p8, 0, none⟩ = some (.slice a2 b.p.length c2) ∧ W.cell? ⟨p8, 1, none⟩ = some (.slice b2 o2.length d2) := fun W hE => ⟨hE, (hb7.ext hE).c0, (hb7.ext hE).c1, (hb8.ext hE).c0, (hb8.ext hE).c1⟩
    have hNl : (o1.map Qw.x).length = o1.length := List.length_map ..
    have Hmo := Lib.hid hmo; have Hsw := Lib.hid hsw; have Hro := Lib.hid hro; have Hsa := Lib.hid hsa; have Hlm := Lib.hid hlm; have Hls := Lib.hid hls; have Hmm := Lib.hid hmm; have Hlm2 := Lib.hid hlm2; have HSQ := Lib.hid hSQ; have HwE := Lib.hid hwE; have HNl := Lib.hid hNl
    clear hmo hsw hro hsa hlm hls hmm hlm2 hSQ hwE hs1 hs2 hb7 hb8 hwa hwb hc1 hc2 hx3 hNl Hra Hrb Hma Hmb Hun Hia Hib Hva Hvb hW0 HE0 Hx1 Hkn
    generalize (decide (a.p = b.p) && decide (o1.map Qw.x = o2.map Qw.x)) = B at *
    have hBB : (B != B) = false := by cases B <;> rfl
    generalize hN : o1.length = N at *
    have HN := Lib.hid hN
    clear hN
    obtain ⟨_, q0, q1, r0, r1⟩ := HSQ.out wc (Ext.refl wc)
    go_wp2_with fail
    refine Hmo.out.mono ?_
    rintro e w4 ⟨u4, z4, rfl, hbad, hok, hx4⟩
    obtain ⟨x4, n4, c4, y4, m4, d4, rfl, hbad, hok⟩ : ∃ x4 n4 c4 y4 m4 d4, u4 = .agg #[.slice x4 n4 c4, .slice y4 m4 d4] ∧ ((m < 0 ∨ (N : Int) ≤ m) → z4 = 3 ∧ m4 = 0) ∧ (0 ≤ m → m < (N : Int) → z4 = 0 ∧ ∃ out, ScV w4 (.agg #[.slice x4 n4 c4, .slice y4 m4 d4]) a.p out ∧ out.map Qw.x = md a.p (o1.map Qw.x) m) := by
      by_cases hs : m < 0 ∨ (N : Int) ≤ m
      · obtain ⟨e1, e2⟩ := hbad hs
        exact ⟨_, _, _, _, _, _, e2, fun _ => ⟨e1, rfl⟩, fun h0 h1 => by omega⟩
      · obtain ⟨e1, out, ho, hm⟩ := hok (by omega) (by omega)
        obtain ⟨a5, c5, b5, d5, rfl, hso⟩ := scv_let ho.scV
        exact ⟨_, _, _, _, _, _, rfl, fun h => absurd h hs, fun _ _ => ⟨e1, out, hso, hm⟩⟩
    have hb4 := BoxT.new 32 w4 (.slice x4 n4 c4) (.slice y4 m4 d4)
    have hE4 := (Ext.refl w4).alloc (.cells #[.slice x4 n4 c4, .slice y4 m4 d4] 32)
    obtain ⟨_, q0, q1, r0, r1⟩ := HSQ.out _ (hx4.trans hE4)
    have hsw4 := Hsw.out _ (hx4.trans hE4)
    have Hb4 := Lib.hid hb4; have HE4 := Lib.hid hE4; have HY4 := Lib.hid (hx4.trans hE4); have Hsw4 := Lib.hid hsw4; have Hbad := Lib.hid hbad; have Hok := Lib.hid hok
    clear hb4 hE4 hx4 hsw4 hbad hok
    go_wp2_with fail
    refine Hsw4.out.mono ?_
    rintro e w5 ⟨rfl, hx5⟩
    obtain ⟨_, q0, q1, r0, r1⟩ := HSQ.out _ (HY4.out.trans hx5)
    have hro5 := Hro.out _ (HY4.out.trans hx5)
    have HY5 := Lib.hid (HY4.out.trans hx5); have H45 := Lib.hid hx5; have Hro5 := Lib.hid hro5
    clear hx5 hro5
    go_wp2_with fail
    refine Hro5.out.mono ?_
    rintro e w6 ⟨kr, br, rfl, hrot, hx6⟩
    obtain ⟨_, q0, q1, r0, r1⟩ := HSQ.out _ (HY5.out.trans hx6)
    have hsa6 := Hsa.out _ (HY5.out.trans hx6)
    have HY6 := Lib.hid (HY5.out.trans hx6); have H46 := Lib.hid (H45.out.trans hx6); have Hsa6 := Lib.hid hsa6; have Hrot := Lib.hid hrot
    clear hx6 hsa6 hrot
    go_wp2_with fail
    refine Hsa6.out.mono ?_
    rintro e w7 ⟨rfl, hx7⟩
    obtain ⟨_, q0, q1, r0, r1⟩ := HSQ.out _ (HY6.out.trans hx7)
    have HY7 := Lib.hid (HY6.out.trans hx7); have H47 := Lib.hid (H46.out.trans hx7)
    clear hx7
    obtain ⟨j, hj⟩ : ∃ j : Nat, N = j + 1 := ⟨N - 1, by omega⟩
    have hwj : IntKind.i64.wrap ((N : Int) - 1) = (j : Int) := by rw [show (N : Int) - 1 = (j : Int) by omega]; exact IntWalk.i64_in _ (by omega)
    have Hj := Lib.hid hj
    clear hj
    go_wp2_with fail
    go_loopw [16, 17] (fun v16 v17 wr => ∃ (k : Nat) (z x : Int), v17 = .int .i64 x ∧ v16 = .int .i64 z ∧ x = (k : Int) - 1 ∧ k ≤ N ∧ Hid (LastAt a.p b.p (o1.map Qw.x) (o2.map Qw.x) k z) ∧ Ext w7 wr) (fun _ v17 _ => (intOf v17 + 1).toNat)
    case atStart => exact ⟨N, -1, (j : Int), rfl, rfl, (by have := Hj.out; omega), Nat.le_refl _, Lib.hid (by have := LastAt.start a.p b.p (o1.map Qw.x) (o2.map Qw.x); rwa [HNl.out] at this), Ext.refl _⟩
    case round =>
      obtain ⟨k, z, x, rfl, rfl, hx, hkN, Hlast, hEr⟩ := hrel
      have hYr := HY7.out.trans hEr
      obtain ⟨hSr, q0, q1, r0, r1⟩ := HSQ.out wr hYr
      by_cases hk : k = 0
      case neg =>
        obtain ⟨i, rfl⟩ : ∃ i, k = i + 1 := ⟨k - 1, by omega⟩
        obtain rfl : (i : Int) = x := by omega
        have hi0 : (0 : Int) ≤ (i : Int) := by omega
        have hlm := Hlm.out i (by omega)
        have hwi : IntKind.i64.wrap ((i : Int) - 1) = (i : Int) - 1 := IntWalk.i64_in _ (by omega)
        have HEr := Lib.hid hEr; have HYr := Lib.hid hYr; have Hlm1 := Lib.hid hlm
        clear hEr hYr hlm hSr hx
        obtain ⟨hSd, q0, q1, r0, r1⟩ := HSQ.out _ HYr.out.drew
        go_wp2_with fail
        go_region_held3 (fun w' => Ext wc w' ∧ w'.cell? ⟨p7, 0, none⟩ = some (.slice a1 a.p.length c1) ∧ w'.cell? ⟨p7, 1, none⟩ = some (.slice b1 N d1) ∧ w'.cell? ⟨p8, 0, none⟩ = some (.slice a2 b.p.length c2) ∧ w'.cell? ⟨p8, 1, none⟩ = some (.slice b2 o2.length d2))
          (first | (with_reducible assumption) | exact HSQ.out _ HYr.out.drew | exact HSQ.out _ HYa.out | exact HSQ.out _ HYb.out)
          (first
            | (have _t := HYa
               go_at_call 45
               refine (Hls.out i VA _ oa HYa.out Hsa1.out Hma1.out).mono ?_
               rintro e9 VB ⟨rfl, hxb⟩
               have HYb := Lib.hid (HYa.out.trans hxb)
               have HZb := Lib.hid (HZa.out.trans hxb)
               clear hxb)
            | (go_at_call 48
               refine (Hlm1.out _ HYr.out.drew).mono ?_
               rintro e9 VA ⟨aa, ca, ba, da, oa, rfl, hsa1, hma1, hxa⟩
               have HYa := Lib.hid (HYr.out.drew.trans hxa)
               have HZa := Lib.hid (((Ext.refl wr).drew).trans hxa)
               have Hsa1 := Lib.hid hsa1
               have Hma1 := Lib.hid hma1
               clear hxa hsa1 hma1))
        all_goals
          by_cases hyes : a.p = b.p ∧ md a.p (o1.map Qw.x) (i : Int) = o2.map Qw.x
          · have hB : (decide (a.p = b.p) && decide (md a.p (o1.map Qw.x) (i : Int) = o2.map Qw.x)) = true := by rw [decide_eq_true hyes.1, decide_eq_true hyes.2]; rfl
            have Hla := Lib.hid (Hlast.out.yes (by rw [HNl.out]; omega) hyes)
            rw [hB]
            clear hB hyes
            go_wp2_with fail
            go_roundw
            case rel => exact ⟨i, (i : Int), (i : Int) - 1, rfl, rfl, rfl, by omega, Hla, HEr.out.trans HZb.out⟩
            case measure => first | (simp [intOf]; done) | (simp [intOf]; omega)
          · have hB : (decide (a.p = b.p) && decide (md a.p (o1.map Qw.x) (i : Int) = o2.map Qw.x)) = false := by
              rw [Bool.and_eq_false_iff]
              by_cases e : a.p = b.p
              · exact .inr (decide_eq_false fun e2 => hyes ⟨e, e2⟩)
              · exact .inl (decide_eq_false e)
            have Hla := Lib.hid (Hlast.out.no hyes)
            rw [hB]
            clear hB hyes
            go_wp2_with fail
            go_roundw
            case rel => exact ⟨i, z, (i : Int) - 1, rfl, rfl, rfl, by omega, Hla, HEr.out.trans HZb.out⟩
            case measure => first | (simp [intOf]; done) | (simp [intOf]; omega)
      case pos =>
        subst hk
        obtain rfl : x = -1 := by omega
        clear hx hkN
        have hb4 := Hb4.out.ext (H47.out.trans hEr)
        have k0 := hb4.c0
        have k1 := hb4.c1
        have hcases := rot_last Hrot.out Hlast.out
        have HYr := Lib.hid hYr; have H4r := Lib.hid (H47.out.trans hEr)
        have Hxr := Lib.hid (HwE.out.trans hYr)
        clear hYr hEr hSr hb4
        rcases hcases with ⟨rfl, rfl, rfl⟩ | ⟨rfl, i, rfl, rfl⟩
        all_goals
          by_cases hs : m < 0 ∨ (N : Int) ≤ m
          · obtain ⟨rfl, rfl⟩ := Hbad.out hs
            clear Hbad Hok
            by_cases h0 : m < 0
            · clear hs
              go_wp2_with fail
              go_ret
              exact ⟨rfl, Hxr.out⟩
            · have h1 : (N : Int) ≤ m := by omega
              clear hs
              go_wp2_with fail
              go_ret
              exact ⟨rfl, Hxr.out⟩
          · have h0 : ¬ m < 0 := by omega
            have h1 : ¬ (N : Int) ≤ m := by omega
            obtain ⟨rfl, out, hso, hmo⟩ := Hok.out (by omega) (by omega)
            have hlm := Hlm2.out (by omega) (by omega)
            have hS9 : ∀ W, Ext wr.drew W → Ext wc W ∧ W.cell? ⟨p7, 0, none⟩ = some (.slice a1 a.p.length c1) ∧ W.cell? ⟨p7, 1, none⟩ = some (.slice b1 N d1) ∧ W.cell? ⟨w4.heap.size, 0, none⟩ = some (.slice x4 n4 c4) ∧ W.cell? ⟨w4.heap.size, 1, none⟩ = some (.slice y4 m4 d4) := fun W h => by
              have hb := Hb4.out.ext (H4r.out.drew.trans h)
              obtain ⟨hE, q0, q1, _, _⟩ := HSQ.out W (HYr.out.drew.trans h)
              exact ⟨hE, q0, q1, hb.c0, hb.c1⟩
            have Hs9 := Lib.hid (fun W (h : Ext wr.drew W) => hso.ext ((HE4.out.trans H4r.out.drew).trans h))
            have Hmo9 := Lib.hid hmo; have Hlm1 := Lib.hid hlm; have HS9 := Lib.hid hS9
            clear hs hso hmo hlm hS9 Hbad Hok
            obtain ⟨_, q0, q1, k0, k1⟩ := HS9.out _ (Ext.refl _)
            go_wp2_with fail
            go_region_held3 (fun w' => Ext wc w' ∧ w'.cell? ⟨p7, 0, none⟩ = some (.slice a1 a.p.length c1) ∧ w'.cell? ⟨p7, 1, none⟩ = some (.slice b1 N d1) ∧ w'.cell? ⟨w4.heap.size, 0, none⟩ = some (.slice x4 n4 c4) ∧ w'.cell? ⟨w4.heap.size, 1, none⟩ = some (.slice y4 m4 d4))
              (first | (with_reducible assumption) | exact HS9.out _ (Ext.refl _) | exact HS9.out _ HZa.out | exact HS9.out _ HZb.out)
              (first
                | (have _t := HZa
                   go_at_call 45
                   refine (Hmm.out VA _ _ out oa (Hs9.out _ HZa.out) Hsa1.out Hmo9.out Hma1.out).mono ?_
                   rintro e9 VB ⟨rfl, hxb⟩
                   have HZb := Lib.hid (HZa.out.trans hxb)
                   clear hxb)
                | (go_at_call 48
                   refine (Hlm1.out _ HYr.out.drew).mono ?_
                   rintro e9 VA ⟨aa, ca, ba, da, oa, rfl, hsa1, hma1, hxa⟩
                   have HZa := Lib.hid hxa
                   have Hsa1 := Lib.hid hsa1
                   have Hma1 := Lib.hid hma1
                   clear hxa hsa1 hma1))
            all_goals
              go_wp2_with fail
              go_ret
              exact ⟨rfl, Hxr.out.drew.trans HZb.out⟩
end Go.Proofs.YtaakmdjicocjpaaGreatDoor
