/- comma.Superparticular. -/
import Derived.Test.YtkamjjjimbbdmaaGreatDoorDelete
namespace Go.Proofs.YtkamjjjimbbdmaaGreatDoor
open Go.RowKit Go.Lib Go.Shelf Go.Sort

theorem index0_c (a : Option Addr) (cap : Nat) (f : Value) (W : World) :
    Calls Tryz.prog 93 #[.slice a 0 cap, f] W fun e w' => e = .returned (.int .i64 (-1)) ∧ Ext W w' := by
  go_enter Tryz.func93, Tryz.ntmps93
  go_wp2_with fail
  go_loopw [8] (fun i wr => i = .int .i64 0 ∧ Ext W wr) (fun _ _ => 0)
  case atStart => exact ⟨rfl, Ext.refl _⟩
  case round =>
    obtain ⟨rfl, hext⟩ := hrel
    have Hext := Lib.hid hext; clear hext
    go_wp2
    go_ret
    exact ⟨rfl, Hext.out⟩
theorem delete0_c (a : Option Addr) (cap : Nat) (f : Value) (W : World) :
    Calls Tryz.prog 60 #[.slice a 0 cap, f] W fun e w' => e = .returned (.slice a 0 cap) ∧ Ext W w' := by
  have Hix := Lib.hid (index0_c a cap f W)
  go_enter Tryz.func60, Tryz.ntmps60
  go_wp2_with fail
  refine Hix.out.mono ?_
  rintro e W1 ⟨rfl, hx1⟩
  have Hx1 := Lib.hid hx1; clear hx1
  go_wp2
  go_ret
  exact ⟨rfl, Hx1.out⟩

set_option maxRecDepth 100000 in
set_option maxHeartbeats 1000000 in
theorem super_w (vp vx : Value) (p x : List Int) (lim : Int) (w : World) (he : Env w) (hp : Sl w vp (i64s p)) (hx : Sl w vx (i64s x)) (R : List (List Int)) (hR : R.length ≤ 10000) (hRe : ∀ r ∈ R, oneErr p r = 0 ∧ nDigits (denP p r) ≤ 17)
    (hl : ∀ W, Ext w W → Calls Tryz.prog 14 #[.agg #[vp, .int .i64 lim, vx]] W fun e w' => ∃ v rs, e = .returned (.tuple #[v, .int .i64 0]) ∧ RwL w' W.heap.size v rs ∧ rs.map Rw.x = R ∧ Ext W w') :
    Calls Tryz.prog 27 #[.agg #[vp, .int .i64 lim, vx]] w fun e w' => ∃ v rs, e = .returned (.tuple #[v, .int .i64 0]) ∧ RwL w' w.heap.size v rs ∧ rs.map Rw.x = R.filter (superP p) ∧ Ext w w' := by
  have hcl := fun (W : World) (b : Nat) (u : Value) (r : List Int) (hE : Env W) (h1 : Sl W vp (i64s p)) (hu : Sl W u (i64s r)) (hb : W.cell? ⟨b, 0, none⟩ = some vp) (hr : r ∈ R) => superf_c vp u b p r W hE h1 hu hb (hRe r hr).1 (hRe r hr).2
  have Hsp := Lib.hid hp; have He := Lib.hid he
  obtain ⟨ap, cp, rfl, _, _, _⟩ := hp.parts
  obtain ⟨ax, cx, rfl, _, _, _⟩ := hx.parts
  rw [i64s_length] at *
  rw [i64s_length] at *
  have Hcl := Lib.hid hcl; have Hl := Lib.hid hl
  clear hcl hl hp hx he hRe
  obtain ⟨hb0, hb1, hb2⟩ := three_new w (.slice ap p.length cp) (.int .i64 lim) (.slice ax x.length cx) 32
  have hE0 : Ext w (w.alloc (.cells #[.slice ap p.length cp, .int .i64 lim, .slice ax x.length cx] 32)) := (Ext.refl w).alloc _
  have hs0 : w.heap.size < (w.alloc (.cells #[.slice ap p.length cp, .int .i64 lim, .slice ax x.length cx] 32)).heap.size := by rw [World.size_alloc]; omega
  generalize hw0 : w.alloc (.cells #[.slice ap p.length cp, .int .i64 lim, .slice ax x.length cx] 32) = W0 at *
  have HE0 := Lib.hid hE0; clear hE0
  go_enter Tryz.func27, Tryz.ntmps27
  go_wp2_with fail
  refine (Hl.out W0 HE0.out).mono ?_
  rintro e W2 ⟨v2, rs, rfl, hrs, hm, hx2⟩
  have hrl : rs.length ≤ 10000 := by rw [← hm, List.length_map] at hR; exact hR
  have hq0 := hx2.cell hb0
  have hE2 := HE0.out.trans hx2
  obtain ⟨a2, c2, rfl⟩ := own_shape hrs.1
  rcases Nat.eq_zero_or_pos rs.length with hz | hz
  · have hrs0 : rs = [] := List.eq_nil_of_length_eq_zero hz
    subst hrs0
    have hR0 : R = [] := by rw [← hm]; rfl
    have Hrs := Lib.hid hrs; have HE2 := Lib.hid hE2; have HR0 := Lib.hid hR0
    clear hrs hE2 hR0 hm hx2 hz hb0 hb1 hb2
    have hd := fun f => delete0_c a2 c2 f W2
    have Hd := Lib.hid hd; clear hd
    go_wp2_with fail
    refine (Hd.out _).mono ?_
    rintro e W3 ⟨rfl, hx3⟩
    have Hx3 := Lib.hid hx3; clear hx3
    go_wp2
    go_ret2
    refine ⟨_, [], rfl, ⟨?_, fun r h => by cases h⟩, by rw [HR0.out]; rfl, HE2.out.trans Hx3.out⟩
    exact own_mono (Hx3.out.rwL Hrs.out).1 HE0.out.size
  · obtain ⟨g, cg, eg, _⟩ := own_slice hrs.1 hz
    injection eg with eg1 eg3 eg2
    subst eg1; subst eg2
    clear eg3
    have hgB := own_blk hrs.1
    have hd := delete_c (del := fun x => !superP p x) w.heap.size hrs (by omega) (fun W' hg r hr => by
      have hgk : Ext w W' := hE2.grown hg fun k hk => by cases hk; exact Nat.le_trans HE0.out.size hgB
      have hor : OwnI W' W0.heap.size r.u r.x := World.ownsRow.kept (hrs.2 r hr) hg (own_ne (hrs.2 r hr) hrs.1 (by decide))
      have hcb : W'.cell? ⟨w.heap.size, 0, none⟩ = some (.slice ap p.length cp) := by
        have := (Ext.refl W0).trans hx2
        have h2 : Ext W0 W' := hx2.grown hg fun k hk => by cases hk; exact hgB
        exact h2.cell hb0
      exact Hcl.out W' w.heap.size r.u r.x (He.out.ext hgk) (hgk.sl Hsp.out) hor.sl hcb (by rw [← hm]; exact List.mem_map_of_mem hr))
    have hgE : ∀ W', W2.grownBy W' (some g) → Ext w W' := fun W' hg => hE2.grown hg fun k hk => by cases hk; exact Nat.le_trans HE0.out.size hgB
    have Hd := Lib.hid hd; have HgE := Lib.hid hgE; have Hm := Lib.hid hm; have Hrs := Lib.hid hrs
    clear hd hgE hm hrs hE2 hx2 hb0 hb1 hb2
    go_wp2_with fail
    refine Hd.out.mono ?_
    rintro e W3 ⟨v, rfl, hrw, hg⟩
    rw [show (rs.filter fun r => !(fun x => !superP p x) r.x) = rs.filter fun r => superP p r.x by simp] at hrw
    obtain ⟨a3, c3, rfl⟩ := own_shape hrw.1
    have Hrw := Lib.hid hrw; have Hg := Lib.hid hg; clear hrw hg
    go_wp2
    go_ret2
    refine ⟨_, _, rfl, ⟨own_mono Hrw.out.1 HE0.out.size, fun r hr => own_mono (Hrw.out.2 r hr) HE0.out.size⟩, ?_, HgE.out W3 Hg.out⟩
    rw [← Hm.out, List.filter_map]
    rfl
end Go.Proofs.YtkamjjjimbbdmaaGreatDoor
