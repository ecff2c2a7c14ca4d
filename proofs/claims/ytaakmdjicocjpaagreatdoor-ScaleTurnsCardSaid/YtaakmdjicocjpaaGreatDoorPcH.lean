/- Walks: scale.Of at a scale's own notes. Walks: law 31's sign. -/
import Derived.Test.YtaakmdjicocjpaaGreatDoorPaX
import Derived.Test.YtaakmdjicocjpaaGreatDoorPaS
import Derived.Test.YtaakmdjicocjpaaGreatDoorPbV
import Derived.Test.YtaakmdjicocjpaaGreatDoorPbL
import Derived.Test.YtaakmdjicocjpaaGreatDoorPbI
namespace Go.Proofs.YtaakmdjicocjpaaGreatDoor
open Go.RowKit Go.Lib Go.Shelf

attribute [local go_sem] Oper.semAt_some

set_option maxRecDepth 100000 in
set_option maxHeartbeats 800000 in
theorem scOf_c (vp vb vl : Value) (p : List Int) (c : Int) (rs : List Qw) (w : World) (he : Env w) (hp : Sl w vp (i64s p)) (hb : Rd w vb (ov (p.length - 1))) (hl : RdM w vl rs) (hL : Lw p c (rs.map Qw.x)) (hn9 : rs.length ≤ 9) :
    Calls Tryz.prog 49 #[vp, vb, vl] w fun e w' => ∃ v out, e = .returned (.tuple #[v, .int .i64 0]) ∧ ScO w' w.heap.size v p out ∧ Coll p (rs.map Qw.x) (out.map Qw.x) ∧ Ext w w' := by
  have hpe : primesErr p = 0 ∧ p.length ≤ 100 ∧ 0 < p.length := by rcases hL.pr with ⟨e, _⟩ | ⟨e, _⟩ <;> rw [e] <;> decide
  have h1 := fun W (hE : Ext w W) => checkPeriod_c vp vb p (p.length - 1) W (he.ext hE) (hE.sl hp) (hE.rd hb) hpe.1 (by rw [show p.length - 1 + 1 = p.length by omega]; exact hL.pr)
  have h2 := fun W (hE : Ext w W) => sCheckAll_c vp vl p rs W (he.ext hE) (hE.sl hp) (hE.rdM hl) hpe.1 (by omega) (fun r hr => ⟨hL.len _ (List.mem_map_of_mem hr), (hL.quick _ (List.mem_map_of_mem hr)).1⟩)
  have h3 := fun W (hE : Ext w W) => collect_c vp vb vl p c rs W (he.ext hE) (hE.sl hp) (hE.rd hb) (hE.rdM hl) hL hn9
  have hE0 : Ext w (w.alloc (.cells #[.slice none 0 0, .slice none 0 0] 32)) := (Ext.refl w).alloc _
  have b2 := BoxT.new 32 w (.slice none 0 0) (.slice none 0 0)
  obtain ⟨ap, cp, rfl, _, _, _⟩ := hp.parts
  obtain ⟨ab, cb, rfl, _, _, _⟩ := hb.parts
  obtain ⟨al, cl, rfl, _, _, _⟩ := hl.1.parts
  have H1 := Lib.hid h1; have H2 := Lib.hid h2; have H3 := Lib.hid h3; have HE0 := Lib.hid hE0; have B2 := Lib.hid b2
  clear h1 h2 h3 hE0 b2 hp hb hl hL he hpe
  go_enter Tryz.func49, Tryz.ntmps49
  go_wp2_with fail
  refine (H1.out _ HE0.out).mono ?_
  rintro e w1 ⟨rfl, hx1⟩
  have Hx1 := Lib.hid (HE0.out.trans hx1); have C1 := Lib.hid (B2.out.ext hx1)
  clear hx1
  go_wp2_with fail
  refine (H2.out _ Hx1.out).mono ?_
  rintro e w2 ⟨rfl, hx2⟩
  have Hx2 := Lib.hid (Hx1.out.trans hx2); have C2 := Lib.hid (C1.out.ext hx2)
  clear hx2
  go_wp2_with fail
  refine (H3.out _ Hx2.out).mono ?_
  rintro e w3 ⟨v3, out, rfl, ho3, hc3, hx3⟩
  obtain ⟨vp2, vn2, rfl, hp2, hn2⟩ := ho3
  obtain ⟨a6, c6, rfl⟩ := own_shape hp2
  obtain ⟨avn, cvn, rfl⟩ := own_shape hn2.1
  have hbr := C2.out.ext hx3
  have hKk : K0 32 w w3 w.heap.size := ⟨Hx2.out.trans hx3, _, _, hbr⟩
  have k0 := hKk.res.c0; have k1 := hKk.res.c1; have z0 := hKk.res.fz 0; have z1 := hKk.res.fz 1
  have hfin := hKk.fin (Nat.le_refl _) (.slice a6 p.length c6) (.slice avn out.length cvn)
  have hq4 := (hn2.set hbr 0 (.slice a6 p.length c6)).set (BoxT.put0 hbr (.slice a6 p.length c6)) 1 (.slice avn out.length cvn)
  have ho4 := own_set_apart (BoxT.put0 hbr (.slice a6 p.length c6)) (own_set_apart hbr hp2 (by decide) 0 (.slice a6 p.length c6)) (by decide) 1 (.slice avn out.length cvn)
  have hlo := Hx2.out.size
  have Hfin := Lib.hid hfin; have Hq4 := Lib.hid hq4; have Ho4 := Lib.hid ho4; have Hc3 := Lib.hid hc3
  clear hfin hq4 ho4 hc3 hKk hbr hn2 hp2 hx3
  go_wp2_with fail
  obtain ⟨hb5, hx5⟩ := Hfin.out
  have hd0 := hb5.c0
  have hd1 := hb5.c1
  exact bodyPost_ret (v := .tuple #[.agg #[.slice a6 p.length c6, .slice avn out.length cvn], .int .i64 0]) (by simp [results, Tryz.results49, go_sem, hd0, hd1]) rfl ⟨_, out, rfl, ⟨_, _, rfl, own_mono Ho4.out hlo, Hq4.out.mono hlo hlo⟩, Hc3.out, hx5⟩
end Go.Proofs.YtaakmdjicocjpaaGreatDoor

namespace Go.Proofs.YtaakmdjicocjpaaGreatDoor
open Go.RowKit Go.Lib Go.Shelf

set_option maxRecDepth 100000 in
theorem lSign_c (vp v : Value) (p : List Int) (x : List Rat) (w : World) (he : Env w) (hp : Sl w vp (i64s p)) (hv : Rd w v x) (hpe : primesErr p = 0) (hpl : p.length ≤ 100) (hlen : x.length = p.length) (hq : Quick p x) :
    Calls Tryz.prog 50 #[vp, v] w fun e w' => e = .returned (.int .i64 (sgnT (tms p (dn x) x))) ∧ Ext w w' := by
  have hs := sSign_c vp v p x w he hp hv hpe hpl hlen hq.1 hq.2.1 hq.2.2
  have Hs := Lib.hid hs
  clear hs
  go_enter Tryz.func50, Tryz.ntmps50
  go_wp2_with fail
  refine Hs.out.mono ?_
  rintro e w1 ⟨rfl, hx1⟩
  have Hx1 := Lib.hid hx1
  clear hx1
  go_wp2
  go_ret
  exact ⟨rfl, Hx1.out⟩
end Go.Proofs.YtaakmdjicocjpaaGreatDoor
