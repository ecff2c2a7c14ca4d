/- comma's functions at a question that is not right; the law's check. -/
import Derived.Test.YtkamjjjimbbdmaaGreatDoorSuperW
namespace Go.Proofs.YtkamjjjimbbdmaaGreatDoor
open Go.RowKit Go.Lib Go.Shelf Go.Sort

set_option maxRecDepth 100000 in
set_option maxHeartbeats 1000000 in
theorem lcheck_c (vp vx : Value) (h : Int) (p x : List Int) (w : World) (he : Env w) (hp : Sl w vp (i64s p)) (hx : Sl w vx (i64s x)) (hlp : p.length ≤ 1000000) (hlx : x.length ≤ 1000000) :
    Calls Tryz.prog 32 #[.agg #[vp, .int .i64 h, vx]] w fun e w' => e = .returned (.int .i64 (askErr p h x)) ∧ Ext w w' := by
  have hc := fun W (hE : Ext w W) => msign_c vp vx p x W (he.ext hE) (hE.sl hp) (hE.sl hx) hlp hlx
  have hk := fun W (hE : Ext w W) => check_c vp vx p x W (hE.sl hp) (hE.sl hx) hlp hlx
  have Hc := Lib.hid hc; have Hk := Lib.hid hk; clear hc hk he
  obtain ⟨aa, ca, rfl, _, _, _⟩ := hp.parts
  obtain ⟨ab, cb, rfl, _, _, _⟩ := hx.parts
  clear hp hx
  rw [i64s_length] at *
  rw [i64s_length] at *
  have hbox := three_new w (.slice aa p.length ca) (.int .i64 h) (.slice ab x.length cb) 32
  have hE0 : Ext w (w.alloc (.cells #[.slice aa p.length ca, .int .i64 h, .slice ab x.length cb] 32)) := (Ext.refl w).alloc _
  have Hbox := Lib.hid hbox; clear hbox
  have HE0 := Lib.hid hE0; clear hE0
  unfold askErr
  generalize hE1 : oneErr p x = e1 at *
  generalize hE2 : signP p x = e2 at *
  clear hE1 hE2
  suffices hw : ∀ r, (e1 = 0 → h < 1 → r = 3) → (e1 = 0 → ¬ h < 1 → 5000 < h → r = 3) → (e1 = 0 → ¬ h < 1 → ¬ 5000 < h → e2 ≤ 0 → r = 3) → (e1 = 0 → ¬ h < 1 → ¬ 5000 < h → ¬ e2 ≤ 0 → r = 0) → (¬ e1 = 0 → r = e1) →
      Calls Tryz.prog 32 #[.agg #[.slice aa p.length ca, .int .i64 h, .slice ab x.length cb]] w fun e w' => e = .returned (.int .i64 r) ∧ Ext w w' by
    refine hw _ ?_ ?_ ?_ ?_ ?_ <;> intros <;> simp_all <;> omega
  intro r r1 r2 r3 r4 r5
  have R1 := Lib.hid r1; have R2 := Lib.hid r2; have R3 := Lib.hid r3; have R4 := Lib.hid r4; have R5 := Lib.hid r5
  clear r1 r2 r3 r4 r5
  generalize hW0 : w.alloc (.cells #[.slice aa p.length ca, .int .i64 h, .slice ab x.length cb] 32) = W0 at *
  have hb0 := Hbox.out.1; have hb1 := Hbox.out.2.1; have hb2 := Hbox.out.2.2
  go_enter Tryz.func32, Tryz.ntmps32
  go_wp2_with fail
  refine (Hk.out _ HE0.out).mono ?_
  rintro e w1 ⟨rfl, hx1⟩
  have hd0 := hx1.cell Hbox.out.1
  have hd1 := hx1.cell Hbox.out.2.1
  have hd2 := hx1.cell Hbox.out.2.2
  have Hx1 := Lib.hid (HE0.out.trans hx1); clear hx1 hb0 hb1 hb2
  by_cases h0 : e1 = 0
  · subst h0
    by_cases h1 : h < 1
    · obtain rfl := R1.out rfl h1
      go_wp2
      go_ret
      exact ⟨rfl, Hx1.out⟩
    · by_cases h2 : 5000 < h
      · obtain rfl := R2.out rfl (by omega) (by omega)
        go_wp2
        go_ret
        exact ⟨rfl, Hx1.out⟩
      · go_wp2_with fail
        refine (Hc.out _ Hx1.out).mono ?_
        rintro e w2 ⟨rfl, hx2⟩
        have Hx2 := Lib.hid (Hx1.out.trans hx2); clear hx2
        by_cases h3 : e2 ≤ 0
        · obtain rfl := R3.out (by first | rfl | trivial) (by omega) (by omega) (by omega)
          go_wp2
          go_ret
          exact ⟨rfl, Hx2.out⟩
        · obtain rfl := R4.out (by first | rfl | trivial) (by omega) (by omega) (by omega)
          go_wp2
          go_ret
          exact ⟨rfl, Hx2.out⟩
  · obtain rfl := R5.out h0
    have ht : (r != 0) = true := by rw [bne_iff_ne]; exact h0
    go_wp2
    go_ret
    exact ⟨rfl, Hx1.out⟩

set_option maxRecDepth 100000 in
set_option maxHeartbeats 1000000 in
theorem listBad_c (aa ab : Option Addr) (np nx ca cb : Nat) (lim r : Int) (w : World) (hr : r ≠ 0)
    (hck : ∀ W, Ext w W → Calls Tryz.prog 33 #[.agg #[.slice aa np ca, .int .i64 lim, .slice ab nx cb]] W fun e w' => e = .returned (.int .i64 r) ∧ Ext W w') :
    Calls Tryz.prog 14 #[.agg #[.slice aa np ca, .int .i64 lim, .slice ab nx cb]] w fun e w' => e = .returned (.tuple #[.slice none 0 0, .int .i64 r]) ∧ Ext w w' := by
  have ht : (r != 0) = true := by rw [bne_iff_ne]; exact hr
  have Hck := Lib.hid hck; clear hck hr
  obtain ⟨hb0, hb1, hb2⟩ := three_new w (.slice aa np ca) (.int .i64 lim) (.slice ab nx cb) 32
  have hE0 : Ext w (w.alloc (.cells #[.slice aa np ca, .int .i64 lim, .slice ab nx cb] 32)) := (Ext.refl w).alloc _
  generalize hw0 : w.alloc (.cells #[.slice aa np ca, .int .i64 lim, .slice ab nx cb] 32) = W0 at *
  go_enter Tryz.func14, Tryz.ntmps14
  go_wp2_with fail
  refine (Hck.out W0 hE0).mono ?_
  rintro e W1 ⟨rfl, hx1⟩
  have HE1 := Lib.hid (hE0.trans hx1); clear hE0 hx1 hb0 hb1 hb2
  go_wp2
  go_ret2
  exact ⟨rfl, HE1.out⟩

set_option maxRecDepth 100000 in
set_option maxHeartbeats 1000000 in
theorem smallBad_c (aa ab : Option Addr) (np nx ca cb : Nat) (lim r : Int) (w : World) (hr : r ≠ 0)
    (hck : ∀ W, Ext w W → Calls Tryz.prog 33 #[.agg #[.slice aa np ca, .int .i64 lim, .slice ab nx cb]] W fun e w' => e = .returned (.int .i64 r) ∧ Ext W w') :
    Calls Tryz.prog 17 #[.agg #[.slice aa np ca, .int .i64 lim, .slice ab nx cb], .int .i64 1] w fun e w' => e = .returned (.tuple #[.slice none 0 0, .int .i64 r]) ∧ Ext w w' := by
  have ht : (r != 0) = true := by rw [bne_iff_ne]; exact hr
  have Hck := Lib.hid hck; clear hck hr
  obtain ⟨hb0, hb1, hb2⟩ := three_new w (.slice aa np ca) (.int .i64 lim) (.slice ab nx cb) 32
  have hE0 : Ext w (w.alloc (.cells #[.slice aa np ca, .int .i64 lim, .slice ab nx cb] 32)) := (Ext.refl w).alloc _
  generalize hw0 : w.alloc (.cells #[.slice aa np ca, .int .i64 lim, .slice ab nx cb] 32) = W0 at *
  go_enter Tryz.func17, Tryz.ntmps17
  go_wp2_with fail
  refine (Hck.out W0 hE0).mono ?_
  rintro e W1 ⟨rfl, hx1⟩
  have HE1 := Lib.hid (hE0.trans hx1); clear hE0 hx1 hb0 hb1 hb2
  go_wp2
  go_ret2
  exact ⟨rfl, HE1.out⟩

set_option maxRecDepth 100000 in
set_option maxHeartbeats 1000000 in
theorem inBad_c (aa ab : Option Addr) (np nx ca cb : Nat) (lim r : Int) (w : World) (hr : r ≠ 0)
    (hck : ∀ W, Ext w W → Calls Tryz.prog 33 #[.agg #[.slice aa np ca, .int .i64 lim, .slice ab nx cb]] W fun e w' => e = .returned (.int .i64 r) ∧ Ext W w') :
    Calls Tryz.prog 30 #[.agg #[.slice aa np ca, .int .i64 lim, .slice ab nx cb], .slice none 0 0] w fun e w' => e = .returned (.tuple #[.slice none 0 0, .int .i64 r]) ∧ Ext w w' := by
  have ht : (r != 0) = true := by rw [bne_iff_ne]; exact hr
  have Hck := Lib.hid hck; clear hck hr
  obtain ⟨hb0, hb1, hb2⟩ := three_new w (.slice aa np ca) (.int .i64 lim) (.slice ab nx cb) 32
  have hE0 : Ext w (w.alloc (.cells #[.slice aa np ca, .int .i64 lim, .slice ab nx cb] 32)) := (Ext.refl w).alloc _
  generalize hw0 : w.alloc (.cells #[.slice aa np ca, .int .i64 lim, .slice ab nx cb] 32) = W0 at *
  have hs0 : w.heap.size < W0.heap.size := by rw [← hw0, World.size_alloc]; omega

  have hE2 := hE0.alloc (.cells #[.slice none 0 0] 62)
  go_enter Tryz.func30, Tryz.ntmps30
  go_wp2_with fail
  refine (Hck.out _ hE2).mono ?_
  rintro e W1 ⟨rfl, hx1⟩
  have HE1 := Lib.hid (hE2.trans hx1); clear hE0 hE2 hx1 hb0 hb1 hb2
  go_wp2
  go_ret2
  exact ⟨rfl, HE1.out⟩

set_option maxRecDepth 100000 in
set_option maxHeartbeats 1000000 in
theorem recBad_c (aa ab : Option Addr) (np nx ca cb : Nat) (lim r : Int) (w : World) (hr : r ≠ 0)
    (hl : ∀ W, Ext w W → Calls Tryz.prog 14 #[.agg #[.slice aa np ca, .int .i64 lim, .slice ab nx cb]] W fun e w' => e = .returned (.tuple #[.slice none 0 0, .int .i64 r]) ∧ Ext W w') :
    Calls Tryz.prog 25 #[.agg #[.slice aa np ca, .int .i64 lim, .slice ab nx cb]] w fun e w' => e = .returned (.tuple #[.slice none 0 0, .int .i64 r]) ∧ Ext w w' := by
  have ht : (r != 0) = true := by rw [bne_iff_ne]; exact hr
  have Hck := Lib.hid hl; clear hl hr
  obtain ⟨hb0, hb1, hb2⟩ := three_new w (.slice aa np ca) (.int .i64 lim) (.slice ab nx cb) 32
  have hE0 : Ext w (w.alloc (.cells #[.slice aa np ca, .int .i64 lim, .slice ab nx cb] 32)) := (Ext.refl w).alloc _
  generalize hw0 : w.alloc (.cells #[.slice aa np ca, .int .i64 lim, .slice ab nx cb] 32) = W0 at *
  go_enter Tryz.func25, Tryz.ntmps25
  go_wp2_with fail
  refine (Hck.out W0 hE0).mono ?_
  rintro e W1 ⟨rfl, hx1⟩
  have hq0 := hx1.cell hb0
  have HE1 := Lib.hid (hE0.trans hx1); clear hE0 hx1 hb0 hb1 hb2
  go_wp2_with fail
  go_loopw [6, 18] (fun v i wr => v = .slice none 0 0 ∧ i = .int .i64 0 ∧ Ext W1 wr) (fun _ _ _ => 0)
  case atStart => exact ⟨rfl, rfl, Ext.refl _⟩
  case round =>
    obtain ⟨rfl, rfl, hext⟩ := hrel
    have Hext := Lib.hid hext; clear hext
    go_wp2
    go_ret2
    exact ⟨rfl, HE1.out.trans Hext.out⟩

set_option maxRecDepth 100000 in
set_option maxHeartbeats 1000000 in
theorem supBad_c (aa ab : Option Addr) (np nx ca cb : Nat) (lim r : Int) (w : World) (hr : r ≠ 0)
    (hl : ∀ W, Ext w W → Calls Tryz.prog 14 #[.agg #[.slice aa np ca, .int .i64 lim, .slice ab nx cb]] W fun e w' => e = .returned (.tuple #[.slice none 0 0, .int .i64 r]) ∧ Ext W w') :
    Calls Tryz.prog 27 #[.agg #[.slice aa np ca, .int .i64 lim, .slice ab nx cb]] w fun e w' => e = .returned (.tuple #[.slice none 0 0, .int .i64 r]) ∧ Ext w w' := by
  have ht : (r != 0) = true := by rw [bne_iff_ne]; exact hr
  have Hck := Lib.hid hl; clear hl hr
  obtain ⟨hb0, hb1, hb2⟩ := three_new w (.slice aa np ca) (.int .i64 lim) (.slice ab nx cb) 32
  have hE0 : Ext w (w.alloc (.cells #[.slice aa np ca, .int .i64 lim, .slice ab nx cb] 32)) := (Ext.refl w).alloc _
  generalize hw0 : w.alloc (.cells #[.slice aa np ca, .int .i64 lim, .slice ab nx cb] 32) = W0 at *
  go_enter Tryz.func27, Tryz.ntmps27
  go_wp2_with fail
  refine (Hck.out W0 hE0).mono ?_
  rintro e W1 ⟨rfl, hx1⟩
  have HE1 := Lib.hid (hE0.trans hx1); clear hE0 hx1
  have hd := fun f => delete0_c none 0 f W1
  have Hd := Lib.hid hd; clear hd
  go_wp2_with fail
  refine (Hd.out _).mono ?_
  rintro e W3 ⟨rfl, hx3⟩
  have Hx3 := Lib.hid hx3; clear hx3
  go_wp2
  go_ret2
  exact ⟨rfl, HE1.out.trans Hx3.out⟩

set_option maxRecDepth 100000 in
set_option maxHeartbeats 1000000 in
theorem leastOfBad_c (aa ab : Option Addr) (np nx ca cb : Nat) (lim r : Int) (w : World) (hr : r ≠ 0)
    (hl : ∀ W, Ext w W → Calls Tryz.prog 30 #[.agg #[.slice aa np ca, .int .i64 lim, .slice ab nx cb], .slice none 0 0] W fun e w' => e = .returned (.tuple #[.slice none 0 0, .int .i64 r]) ∧ Ext W w') :
    Calls Tryz.prog 31 #[.agg #[.slice aa np ca, .int .i64 lim, .slice ab nx cb], .slice none 0 0] w fun e w' => e = .returned (.tuple #[.slice none 0 0, .bool false, .int .i64 r]) ∧ Ext w w' := by
  have ht : (r != 0) = true := by rw [bne_iff_ne]; exact hr
  have Hck := Lib.hid hl; clear hl hr
  obtain ⟨hb0, hb1, hb2⟩ := three_new w (.slice aa np ca) (.int .i64 lim) (.slice ab nx cb) 32
  have hE0 : Ext w (w.alloc (.cells #[.slice aa np ca, .int .i64 lim, .slice ab nx cb] 32)) := (Ext.refl w).alloc _
  generalize hw0 : w.alloc (.cells #[.slice aa np ca, .int .i64 lim, .slice ab nx cb] 32) = W0 at *
  go_enter Tryz.func31, Tryz.ntmps31
  go_wp2_with fail
  refine (Hck.out W0 hE0).mono ?_
  rintro e W1 ⟨rfl, hx1⟩
  have HE1 := Lib.hid (hE0.trans hx1); clear hE0 hx1 hb0 hb1 hb2
  go_wp2
  go_ret3
  exact ⟨rfl, HE1.out⟩

end Go.Proofs.YtkamjjjimbbdmaaGreatDoor
