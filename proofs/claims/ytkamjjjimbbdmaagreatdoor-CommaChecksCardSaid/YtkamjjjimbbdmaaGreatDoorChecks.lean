/- The walk of the law CommaChecks. -/
import Derived.Test.YtkamjjjimbbdmaaGreatDoorBad
namespace Go.Proofs.YtkamjjjimbbdmaaGreatDoor
open Go.RowKit Go.Lib Go.Shelf Go.Sort

set_option maxRecDepth 100000 in
set_option maxHeartbeats 4000000 in
theorem checksBig_c (vp vx : Value) (h : Int) (p x : List Int) (w : World) (he : Env w) (hp : Sl w vp (i64s p)) (hx : Sl w vx (i64s x)) (hl : 8 < p.length ∨ 8 < x.length ∨ (200 < h ∧ h ≤ 5000)) :
    Calls Tryz.prog 10 #[vp, vx, .int .i64 h] w fun e w' => e = .returned (.bool true) ∧ Ext w w' := by
  have hkn := fun W (hE : Ext w W) => known_c W (he.ext hE)
  obtain ⟨ap, cp, rfl, _, _, _⟩ := hp.parts
  obtain ⟨ax, cx, rfl, _, _, _⟩ := hx.parts
  rw [i64s_length, i64s_length]
  have Hkn := Lib.hid hkn; clear hkn hp hx he
  have h3 : (8 < p.length) ∨ (¬ 8 < p.length ∧ 8 < x.length) ∨ (¬ 8 < p.length ∧ ¬ 8 < x.length ∧ 200 < h ∧ h ≤ 5000) := by omega
  clear hl
  rcases h3 with h | ⟨h, h2⟩ | ⟨h, h2, h3, h4⟩
  all_goals
    go_enter Tryz.func10, Tryz.ntmps10
    go_wp2_with fail
    refine (Hkn.out w (Ext.refl w)).mono ?_
    rintro e W1 ⟨rfl, hx1⟩
    have Hx1 := Lib.hid hx1; clear hx1
    go_wp2_with fail
    refine (Hkn.out W1 Hx1.out).mono ?_
    rintro e W2 ⟨rfl, hx2⟩
    have Hx2 := Lib.hid (Hx1.out.trans hx2); clear hx2
    go_wp2
    go_ret
    exact ⟨rfl, Hx2.out⟩

set_option maxRecDepth 100000 in
set_option maxHeartbeats 8000000 in
theorem checksIn_c (vp vx : Value) (h : Int) (p x : List Int) (w : World) (he : Env w) (hp : Sl w vp (i64s p)) (hx : Sl w vx (i64s x)) (hlp : p.length ≤ 8) (hlx : x.length ≤ 8) (hh : h ≤ 200 ∨ (200 < h ∧ 5000 < h)) :
    Calls Tryz.prog 10 #[vp, vx, .int .i64 h] w fun e w' => e = .returned (.bool true) ∧ Ext w w' := by
  have hkn := fun W (hE : Ext w W) => known_c W (he.ext hE)
  have hlc := fun W (hE : Ext w W) => lcheck_c vp vx h p x W (he.ext hE) (hE.sl hp) (hE.sl hx) (by omega) (by omega)
  have hck := fun W (hE : Ext w W) => ask_c vp vx h p x W (he.ext hE) (hE.sl hp) (hE.sl hx) (by omega) (by omega)
  obtain ⟨ap, cp, rfl, _, _, _⟩ := hp.parts
  obtain ⟨ax, cx, rfl, _, _, _⟩ := hx.parts
  clear hp hx he
  rw [i64s_length] at *
  rw [i64s_length] at *
  generalize askErr p h x = r at *
  generalize hnp : p.length = np at *
  generalize hnx : x.length = nx at *
  clear hnp hnx
  have hE0 : ∀ W, Ext w W → Ext w (W.alloc (.cells #[.slice ap np cp, .int .i64 h, .slice ax nx cx] 32)) := fun W hE => hE.alloc _
  have Hkn := Lib.hid hkn; have Hlc := Lib.hid hlc; have HE0 := Lib.hid hE0
  clear hkn hlc hE0
  have h8 : ¬ (8 : Int) < (np : Int) := by omega
  have h8' : ¬ (8 : Int) < (nx : Int) := by omega
  by_cases hr : r = 0
  · subst hr
    have Hck := Lib.hid hck; clear hck
    rcases hh with hh | ⟨hh, hh2⟩
    · have hd : decide (200 < h) = false := decide_eq_false (by omega)
      go_enter Tryz.func10, Tryz.ntmps10
      go_wp2_with fail
      refine (Hkn.out w (Ext.refl w)).mono ?_
      rintro e W1 ⟨rfl, hx1⟩
      have hbq := World.alloc_heap_new W1 (.cells #[.slice ap np cp, .int .i64 h, .slice ax nx cx] 32)
      have HE1 := Lib.hid (HE0.out W1 hx1); have Hbq := Lib.hid hbq; clear hx1 hbq
      go_wp2_with fail
      generalize W1.alloc (.cells #[.slice ap np cp, .int .i64 h, .slice ax nx cx] 32) = W2 at *
      refine (Hlc.out W2 HE1.out).mono ?_
      rintro e W3 ⟨rfl, hx3⟩
      obtain ⟨hc0, hc1, hc2⟩ := box3 (hx3.heap Hbq.out)
      have HE3 := Lib.hid (HE1.out.trans hx3); clear hx3
      go_wp2_with fail
      refine (Hck.out W3 HE3.out).mono ?_
      rintro e W4 ⟨rfl, hx4⟩
      have HE4 := Lib.hid (HE3.out.trans hx4); clear hx4 hc0 hc1 hc2
      go_wp2
      go_ret
      exact ⟨rfl, HE4.out⟩
    · have hd : decide (h ≤ 5000) = false := decide_eq_false (by omega)
      go_enter Tryz.func10, Tryz.ntmps10
      go_wp2_with fail
      refine (Hkn.out w (Ext.refl w)).mono ?_
      rintro e W1 ⟨rfl, hx1⟩
      have hbq := World.alloc_heap_new W1 (.cells #[.slice ap np cp, .int .i64 h, .slice ax nx cx] 32)
      have HE1 := Lib.hid (HE0.out W1 hx1); have Hbq := Lib.hid hbq; clear hx1 hbq
      go_wp2_with fail
      generalize W1.alloc (.cells #[.slice ap np cp, .int .i64 h, .slice ax nx cx] 32) = W2 at *
      refine (Hlc.out W2 HE1.out).mono ?_
      rintro e W3 ⟨rfl, hx3⟩
      obtain ⟨hc0, hc1, hc2⟩ := box3 (hx3.heap Hbq.out)
      have HE3 := Lib.hid (HE1.out.trans hx3); clear hx3
      go_wp2_with fail
      refine (Hck.out W3 HE3.out).mono ?_
      rintro e W4 ⟨rfl, hx4⟩
      have HE4 := Lib.hid (HE3.out.trans hx4); clear hx4 hc0 hc1 hc2
      go_wp2
      go_ret
      exact ⟨rfl, HE4.out⟩
  · have hli := fun W (hE : Ext w W) => listBad_c ap ax np nx cp cx h r W hr (fun W' hx => hck W' (hE.trans hx))
    have hsm := fun W (hE : Ext w W) => smallBad_c ap ax np nx cp cx h r W hr (fun W' hx => hck W' (hE.trans hx))
    have hin := fun W (hE : Ext w W) => inBad_c ap ax np nx cp cx h r W hr (fun W' hx => hck W' (hE.trans hx))
    have hrc := fun W (hE : Ext w W) => recBad_c ap ax np nx cp cx h r W hr (fun W' hx => hli W' (hE.trans hx))
    have hsu := fun W (hE : Ext w W) => supBad_c ap ax np nx cp cx h r W hr (fun W' hx => hli W' (hE.trans hx))
    have hle := fun W (hE : Ext w W) => leastOfBad_c ap ax np nx cp cx h r W hr (fun W' hx => hin W' (hE.trans hx))
    have ht1 : (r != r) = false := by simp
    have ht2 : (r == 0) = false := beq_eq_false_iff_ne.2 hr
    have ht3 : (r == r) = true := by simp
    have Hck := Lib.hid hck; have Hli := Lib.hid hli; have Hsm := Lib.hid hsm; have Hin := Lib.hid hin; have Hrc := Lib.hid hrc; have Hsu := Lib.hid hsu; have Hle := Lib.hid hle
    clear hck hli hsm hin hrc hsu hle hr
    rcases hh with hh | ⟨hh, hh2⟩
    all_goals
      first | have hd : decide (200 < h) = false := decide_eq_false (by omega) | have hd : decide (h ≤ 5000) = false := decide_eq_false (by omega)
      go_enter Tryz.func10, Tryz.ntmps10
      go_wp2_with fail
      refine (Hkn.out w (Ext.refl w)).mono ?_
      rintro e W1 ⟨rfl, hx1⟩
      have hbq := World.alloc_heap_new W1 (.cells #[.slice ap np cp, .int .i64 h, .slice ax nx cx] 32)
      have HE1 := Lib.hid (HE0.out W1 hx1); have Hbq := Lib.hid hbq; clear hx1 hbq
      go_wp2_with fail
      generalize W1.alloc (.cells #[.slice ap np cp, .int .i64 h, .slice ax nx cx] 32) = W2 at *
      refine (Hlc.out W2 HE1.out).mono ?_
      rintro e W3 ⟨rfl, hx3⟩
      obtain ⟨hc0, hc1, hc2⟩ := box3 (hx3.heap Hbq.out)
      have HE3 := Lib.hid (HE1.out.trans hx3); have Hb3 := Lib.hid (hx3.heap Hbq.out); clear hx3
      go_wp2_with fail
      refine (Hck.out W3 HE3.out).mono ?_
      rintro e W4 ⟨rfl, hx4⟩
      obtain ⟨hd0, hd1, hd2⟩ := box3 (hx4.heap Hb3.out)
      have HE4 := Lib.hid (HE3.out.trans hx4); have Hb4 := Lib.hid (hx4.heap Hb3.out); clear hx4 hc0 hc1 hc2
      go_wp2_with fail
      refine (Hli.out W4 HE4.out).mono ?_
      rintro e W5 ⟨rfl, hx5⟩
      obtain ⟨hc0, hc1, hc2⟩ := box3 (hx5.heap Hb4.out)
      have HE5 := Lib.hid (HE4.out.trans hx5); have Hb5 := Lib.hid (hx5.heap Hb4.out); clear hx5 hd0 hd1 hd2
      go_wp2_with fail
      refine (Hsm.out W5 HE5.out).mono ?_
      rintro e W6 ⟨rfl, hx6⟩
      obtain ⟨hd0, hd1, hd2⟩ := box3 (hx6.heap Hb5.out)
      have HE6 := Lib.hid (HE5.out.trans hx6); have Hb6 := Lib.hid (hx6.heap Hb5.out); clear hx6 hc0 hc1 hc2
      go_wp2_with fail
      refine (Hrc.out W6 HE6.out).mono ?_
      rintro e W7 ⟨rfl, hx7⟩
      obtain ⟨hc0, hc1, hc2⟩ := box3 (hx7.heap Hb6.out)
      have HE7 := Lib.hid (HE6.out.trans hx7); have Hb7 := Lib.hid (hx7.heap Hb6.out); clear hx7 hd0 hd1 hd2
      go_wp2_with fail
      refine (Hsu.out W7 HE7.out).mono ?_
      rintro e W8 ⟨rfl, hx8⟩
      obtain ⟨hd0, hd1, hd2⟩ := box3 (hx8.heap Hb7.out)
      have HE8 := Lib.hid (HE7.out.trans hx8); have Hb8 := Lib.hid (hx8.heap Hb7.out); clear hx8 hc0 hc1 hc2
      go_wp2_with fail
      refine (Hin.out W8 HE8.out).mono ?_
      rintro e W9 ⟨rfl, hx9⟩
      obtain ⟨hc0, hc1, hc2⟩ := box3 (hx9.heap Hb8.out)
      have HE9 := Lib.hid (HE8.out.trans hx9); clear hx9 hd0 hd1 hd2
      go_wp2_with fail
      refine (Hle.out W9 HE9.out).mono ?_
      rintro e W10 ⟨rfl, hx10⟩
      have HE10 := Lib.hid (HE9.out.trans hx10); clear hx10 hc0 hc1 hc2
      go_wp2
      go_ret
      exact ⟨rfl, HE10.out⟩

theorem checks_c (vp vx : Value) (h : Int) (p x : List Int) (w : World) (he : Env w) (hp : Sl w vp (i64s p)) (hx : Sl w vx (i64s x)) :
    Calls Tryz.prog 10 #[vp, vx, .int .i64 h] w fun e w' => e = .returned (.bool true) ∧ Ext w w' := by
  by_cases hl : 8 < p.length ∨ 8 < x.length ∨ (200 < h ∧ h ≤ 5000)
  · exact checksBig_c vp vx h p x w he hp hx hl
  · exact checksIn_c vp vx h p x w he hp hx (by omega) (by omega) (by omega)

end Go.Proofs.YtkamjjjimbbdmaaGreatDoor
