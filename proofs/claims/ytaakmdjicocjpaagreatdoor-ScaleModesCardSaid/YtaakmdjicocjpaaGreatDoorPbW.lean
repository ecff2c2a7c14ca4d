/- Walks: scale.Mode. -/
import Derived.Test.YtaakmdjicocjpaaGreatDoorPbM
namespace Go.Proofs.YtaakmdjicocjpaaGreatDoor
open Go.RowKit Go.Lib Go.Shelf

attribute [local go_sem] Oper.semAt_some

set_option maxRecDepth 100000 in
set_option maxHeartbeats 800000 in
theorem scMode_c (v : Value) (p : List Int) (rs : List Qw) (m : Int) (w : World) (he : Env w) (hv : ScV w v p rs) (h : Wd p (rs.map Qw.x)) :
    Calls Tryz.prog 31 #[v, .int .i64 m] w fun e w' => ∃ u z, e = .returned (.tuple #[u, .int .i64 z]) ∧ ((m < 0 ∨ (rs.length : Int) ≤ m) → z = 3 ∧ u = .agg #[.slice none 0 0, .slice none 0 0]) ∧ (0 ≤ m → m < (rs.length : Int) → z = 0 ∧ ∃ out, ScO w' w.heap.size u p out ∧ out.map Qw.x = md p (rs.map Qw.x) m) ∧ Ext w w' := by
  have hck := fun W (hE : Ext w W) => scCheck_c v p rs W (he.ext hE) (hv.ext hE) h.right
  have hmd := fun (h0 : 0 ≤ m) (h1 : m < (rs.length : Int)) W (hE : Ext w W) => mode_c v p rs m W (he.ext hE) (hv.ext hE) h (by omega) (by have := h.few; rw [List.length_map] at this; omega)
  obtain ⟨vp, vn, rfl, hp, hs, hmr⟩ := hv
  obtain ⟨ap, cp, rfl, _, _, _⟩ := hp.parts
  obtain ⟨an, cn, rfl, _, _, _⟩ := hs.parts
  rw [i64s_length] at *
  rw [qwc_length] at *
  generalize hn : rs.length = n at *
  have hE0 : Ext w ((w.alloc (.cells #[.slice ap p.length cp, .slice an n cn] 32)).alloc (.cells #[.slice none 0 0, .slice none 0 0] 32)) := ((Ext.refl w).alloc _).alloc _
  have b1 := (BoxT.new 32 w (.slice ap p.length cp) (.slice an n cn)).ext ((Ext.refl _).alloc (.cells #[.slice none 0 0, .slice none 0 0] 32))
  have b2 := BoxT.new 32 (w.alloc (.cells #[.slice ap p.length cp, .slice an n cn] 32)) (.slice none 0 0) (.slice none 0 0)
  rw [World.size_alloc] at b2
  have Hck := Lib.hid hck; have Hmd := Lib.hid hmd; have HE0 := Lib.hid hE0; have B1 := Lib.hid b1; have B2 := Lib.hid b2; have Hn := Lib.hid hn
  clear hp hs hmr he h hck hmd hE0 b1 b2 hn
  go_enter Tryz.func31, Tryz.ntmps31
  have q0 := B1.out.c0
  have q1 := B1.out.c1
  go_wp2_with fail
  refine (Hck.out _ HE0.out).mono ?_
  rintro e w1 ⟨rfl, hx1⟩
  have hK1 : K0 32 w w1 (w.heap.size + 1) := ⟨HE0.out.trans hx1, _, _, B2.out.ext hx1⟩
  have q0 := (B1.out.ext hx1).c0
  have q1 := (B1.out.ext hx1).c1
  have k0 := hK1.res.c0; have k1 := hK1.res.c1; have z0 := hK1.res.fz 0; have z1 := hK1.res.fz 1
  have Hx1 := Lib.hid hx1; have HK1 := Lib.hid hK1
  clear hx1 hK1
  by_cases hbad : m < 0 ∨ (n : Int) ≤ m
  · have Hbad := Lib.hid hbad
    rcases hbad with hm0 | hmn
    · go_wp2_with fail
      obtain ⟨hb6, hx6⟩ := HK1.out.fin (Nat.le_succ _) (.slice none 0 0) (.slice none 0 0)
      have hd0 := hb6.c0
      have hd1 := hb6.c1
      exact bodyPost_ret (v := .tuple #[.agg #[.slice none 0 0, .slice none 0 0], .int .i64 3]) (by simp [results, Tryz.results31, go_sem, hd0, hd1]) rfl ⟨_, 3, rfl, fun _ => ⟨rfl, rfl⟩, fun h0 _ => by omega, hx6⟩
    · have hm0 : ¬ m < 0 := by omega
      go_wp2_with fail
      obtain ⟨hb6, hx6⟩ := HK1.out.fin (Nat.le_succ _) (.slice none 0 0) (.slice none 0 0)
      have hd0 := hb6.c0
      have hd1 := hb6.c1
      exact bodyPost_ret (v := .tuple #[.agg #[.slice none 0 0, .slice none 0 0], .int .i64 3]) (by simp [results, Tryz.results31, go_sem, hd0, hd1]) rfl ⟨_, 3, rfl, fun _ => ⟨rfl, rfl⟩, fun _ h1 => by omega, hx6⟩
  · have hm0 : ¬ m < 0 := by omega
    have hmn : ¬ (n : Int) ≤ m := by omega
    have hmd1 := Hmd.out (by omega) (by omega) w1 (HE0.out.trans Hx1.out)
    have Hmd1 := Lib.hid hmd1; have Hbad := Lib.hid hbad
    clear hmd1 hbad k0 k1 z0 z1
    go_wp2_with fail
    refine Hmd1.out.mono ?_
    rintro e w2 ⟨u2, out, rfl, ho2, hm2, hx2⟩
    obtain ⟨vp2, vn2, rfl, hp2, hn2⟩ := ho2
    obtain ⟨a6, c6, rfl⟩ := own_shape hp2
    obtain ⟨avn, cvn, rfl⟩ := own_shape hn2.1
    have hbr := B2.out.ext (Hx1.out.trans hx2)
    have hKk : K0 32 w w2 (w.heap.size + 1) := ⟨HE0.out.trans (Hx1.out.trans hx2), _, _, hbr⟩
    have k0 := hKk.res.c0; have k1 := hKk.res.c1; have z0 := hKk.res.fz 0; have z1 := hKk.res.fz 1
    have hfin := hKk.fin (by omega) (.slice a6 p.length c6) (.slice avn out.length cvn)
    have hq4 := (hn2.set hbr 0 (.slice a6 p.length c6)).set (BoxT.put0 hbr (.slice a6 p.length c6)) 1 (.slice avn out.length cvn)
    have ho4 := own_set_apart (BoxT.put0 hbr (.slice a6 p.length c6)) (own_set_apart hbr hp2 (by decide) 0 (.slice a6 p.length c6)) (by decide) 1 (.slice avn out.length cvn)
    have hlo := (HE0.out.trans Hx1.out).size
    have Hfin := Lib.hid hfin; have Hq4 := Lib.hid hq4; have Ho4 := Lib.hid ho4; have Hm2 := Lib.hid hm2
    clear hfin hq4 ho4 hm2 hKk hbr hn2 hp2 hx2
    go_wp2_with fail
    obtain ⟨hb5, hx5⟩ := Hfin.out
    have hd0 := hb5.c0
    have hd1 := hb5.c1
    exact bodyPost_ret (v := .tuple #[.agg #[.slice a6 p.length c6, .slice avn out.length cvn], .int .i64 0]) (by simp [results, Tryz.results31, go_sem, hd0, hd1]) rfl ⟨_, 0, rfl, fun h => absurd h Hbad.out, fun _ _ => ⟨rfl, out, ⟨_, _, rfl, own_mono Ho4.out hlo, Hq4.out.mono hlo hlo⟩, Hm2.out⟩, hx5⟩
end Go.Proofs.YtaakmdjicocjpaaGreatDoor
