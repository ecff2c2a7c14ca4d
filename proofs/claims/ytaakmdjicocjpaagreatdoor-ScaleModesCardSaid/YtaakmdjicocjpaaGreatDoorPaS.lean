/- Walks: scale's integer and reduce. Walks: scale's checkPeriod at the octave. Walks: a scale as a value; its period. Walk: scale.Check of a right scale. Walk: scale.open of a right scale and a right size. Walk: scale.Reduce of a right scale with the octave as its period. Walk: scale.note of a right scale. -/
import Derived.Test.YtaakmdjicocjpaaGreatDoorPaR
import Derived.Test.YtaakmdjicocjpaaGreatDoorPaQ
import Derived.Test.YtaakmdjicocjpaaGreatDoorPaO
import Derived.Deep.RegionHeld3
import Derived.Deep.DeepCutAuto
namespace Go.Proofs.YtaakmdjicocjpaaGreatDoor
open Go.RowKit Go.Lib

attribute [local go_sem] Oper.semAt_some

set_option maxHeartbeats 1000000 in
theorem integer_c (n : Int) (w : World) (he : Env w) (h0 : -9223372036854775808 ≤ n) (h1 : n ≤ 9223372036854775807) :
    Calls Tryz.prog 128 #[.int .i64 n] w fun e w' => e = .returned (Rv (n : Rat)) ∧ Ext w w' := by
  have ho := fun W (h : Ext w W) => wholeOf_c n h0 h1 W (he.ext h)
  rw [Rv_int]
  generalize I n = s at *
  have b2 := Box2.new w (.string ⟨#[]⟩) (.string ⟨#[]⟩)
  have hE : Ext w (w.alloc (.cells #[.string ⟨#[]⟩, .string ⟨#[]⟩] 97)) := (Ext.refl _).alloc _
  have hk : Kp0 w (w.alloc (.cells #[.string ⟨#[]⟩, .string ⟨#[]⟩] 97)) w.heap.size := ⟨hE, _, _, b2⟩
  clear b2 he
  have Ho := Lib.hid ho; have HE := Lib.hid hE; have Hk := Lib.hid hk; clear ho hE hk
  go_enter Tryz.func128, Tryz.ntmps128
  go_wp2_with fail
  refine (Ho.out _ HE.out).mono ?_
  rintro e W4 ⟨rfl, hxa⟩
  have hkk := Hk.out.ext hxa
  have Hkk := Lib.hid hkk; clear hkk
  clear hxa
  have hc0 := (Hkk.out).res.c0; have hc1 := (Hkk.out).res.c1; have hz0 := (Hkk.out).res.fz 0; have hz1 := (Hkk.out).res.fz 1
  obtain ⟨hb, hfx⟩ := (Hkk.out).fin (by omega) (.string s) (.string ⟨#[49]⟩)
  have Hb := Lib.hid hb; have Hfx := Lib.hid hfx; clear hb hfx
  go_wp2_with fail
  have hd0 := Hb.out.c0
  have hd1 := Hb.out.c1
  exact bodyPost_ret (v := .agg #[.string s, .string ⟨#[49]⟩]) (by simp [results, Tryz.results128, go_sem, hd0, hd1]) rfl ⟨rfl, Hfx.out⟩

set_option maxRecDepth 100000 in
set_option maxHeartbeats 1000000 in
theorem screduce_c (vp va vb : Value) (p : List Int) (a0 : Rat) (tl : List Rat) (w : World) (he : Env w) (hp : Sl w vp (i64s p)) (ha : Rd w va (a0 :: tl)) (hb : Rd w vb (ov tl.length)) (hpe : primesErr p = 0) (hpr : Pr p (tl.length + 1)) (hf : ∀ q ∈ a0 :: tl, Ft 30 q) (hq : QF p (a0 :: tl)) (hk : Ft 400 ((-flP p (a0 :: tl) : Int) : Rat)) (hfl : Fit (flP p (a0 :: tl)))
    (hres : ∀ q ∈ addZ (a0 :: tl) (mulZ (ov tl.length) ((-flP p (a0 :: tl) : Int) : Rat)), Ft 30 q) :
    Calls Tryz.prog 90 #[vp, vb, va] w fun e w' => ∃ g, e = .returned (.tuple #[.slice (some ⟨g, 0, none⟩) p.length p.length, .string (I (flP p (a0 :: tl))), .int .i64 0]) ∧ OwnQ w' w.heap.size (.slice (some ⟨g, 0, none⟩) p.length p.length) (addZ (a0 :: tl) (mulZ (ov tl.length) ((-flP p (a0 :: tl) : Int) : Rat))) ∧ Ext w w' := by
  have h1 := sFloor_c vp va vb p a0 tl w he hp ha hb hpe hpr hf hq
  have h2 := fun W (h : Ext w W) => sRem_c vp va vb p a0 tl W (he.ext h) (h.sl hp) (h.rd ha) (h.rd hb) hpe hpr hf hq hk hfl hres
  generalize addZ (a0 :: tl) (mulZ (ov tl.length) ((-flP p (a0 :: tl) : Int) : Rat)) = r at *
  generalize I (flP p (a0 :: tl)) = sf at *
  obtain ⟨ap, cp, rfl, _, _, _⟩ := hp.parts
  obtain ⟨aa, ca, rfl, _, _, _⟩ := ha.parts
  obtain ⟨ab, cb, rfl, _, _, _⟩ := hb.parts
  clear hp ha hb he hpe hpr hf hq hk hfl hres
  have H1 := Lib.hid h1; have H2 := Lib.hid h2; clear h1 h2
  go_enter Tryz.func90, Tryz.ntmps90
  go_wp2_with fail
  refine (H1.out).mono ?_
  rintro e w1 ⟨rfl, hx1⟩
  have Hx1 := Lib.hid hx1; clear hx1
  go_wp2_with fail
  refine (H2.out w1 Hx1.out).mono ?_
  rintro e w2 ⟨g, rfl, ho, hx2⟩
  have Ho := Lib.hid (ho.mono Hx1.out.size)
  have Hx2 := Lib.hid (Hx1.out.trans hx2)
  clear ho hx2
  go_wp2
  exact bodyPost_ret (by simp [results, Tryz.results90, go_sem]) rfl ⟨g, rfl, Ho.out, Hx2.out⟩
end Go.Proofs.YtaakmdjicocjpaaGreatDoor

namespace Go.Proofs.YtaakmdjicocjpaaGreatDoor
open Go.RowKit Go.Lib

attribute [local go_sem] Oper.semAt_some

set_option maxRecDepth 100000 in
set_option maxHeartbeats 1000000 in
theorem checkPeriod_c (vp vb : Value) (p : List Int) (n : Nat) (w : World) (he : Env w) (hp : Sl w vp (i64s p)) (hb : Rd w vb (ov n)) (hpe : primesErr p = 0) (hpr : Pr p (n + 1)) :
    Calls Tryz.prog 101 #[vp, vb] w fun e w' => e = .returned (.int .i64 0) ∧ Ext w w' := by
  have hpl := pr_len hpr
  have hov := ov_tms hpr
  have hpl3 : p.length ≤ 3 := by rcases hpr with ⟨rfl, _⟩ | ⟨rfl, _⟩ <;> simp
  have h1 := sSign_c vp vb p (ov n) w he hp hb hpe (by omega) (by rw [ov_len, hpl]) (fun q h => (ov_ft q h).mono (by omega)) (by
    rw [hov.1]
    intro e h
    rw [List.mem_singleton] at h
    subst h
    exact ⟨.inl rfl, by decide, by decide⟩) (by rw [hov.1]; right; decide)
  rw [hov.1, show sgnT [(2, 1)] = 1 by decide] at h1
  obtain ⟨ap, cp, rfl, _, _, _⟩ := hp.parts
  obtain ⟨ab, cb, rfl, _, _, _⟩ := hb.parts
  clear hp hb he hpe hpr hov hpl hpl3
  have H1 := Lib.hid h1; clear h1
  go_enter Tryz.func101, Tryz.ntmps101
  go_wp2_with fail
  refine (H1.out).mono ?_
  rintro e w1 ⟨rfl, hx1⟩
  have Hx1 := Lib.hid hx1; clear hx1
  go_wp2
  go_ret
  exact ⟨rfl, Hx1.out⟩
end Go.Proofs.YtaakmdjicocjpaaGreatDoor

namespace Go.Proofs.YtaakmdjicocjpaaGreatDoor
open Go.RowKit Go.Lib

attribute [local go_sem] Oper.semAt_some

/-- A scale that reads: its primes and its notes. -/
def ScV (w : World) (v : Value) (p : List Int) (rs : List Qw) : Prop := ∃ vp vn, v = .agg #[vp, vn] ∧ Sl w vp (i64s p) ∧ RdM w vn rs
theorem ScV.ext {w w' : World} {v : Value} {p : List Int} {rs : List Qw} (h : ScV w v p rs) (hx : Ext w w') : ScV w' v p rs := by
  obtain ⟨vp, vn, e, a, b⟩ := h
  exact ⟨vp, vn, e, hx.sl a, hx.rdM b⟩

set_option maxRecDepth 100000 in
set_option maxHeartbeats 1000000 in
theorem period_c (v : Value) (p : List Int) (rs : List Qw) (n : Nat) (r : Qw) (w : World) (hv : ScV w v p rs) (hn : rs.length = n + 1) (hl : n ≤ 1000) (hr : rs[n]? = some r) :
    Calls Tryz.prog 91 #[v] w fun e w' => e = .returned r.u ∧ Ext w w' := by
  obtain ⟨vp, vn, rfl, hp, hs, hm⟩ := hv
  obtain ⟨ap, cp, rfl, _, _, _⟩ := hp.parts
  obtain ⟨an, cn, rfl, _, _, hc⟩ := hs.parts
  obtain ⟨b, off, rfl, hc0⟩ := hc n r.u (by unfold qwc; rw [List.getElem?_map, hr]; rfl)
  obtain ⟨ar, cr, hru, _, _, _⟩ := (hm r (List.mem_of_getElem? hr)).parts
  rw [qwc_length, hn]
  rw [hru] at hc0 ⊢
  generalize r.x.length = k at *
  have hE : Ext w (w.alloc (.cells #[.slice ap (i64s p).length cp, .slice (some ⟨b, off, none⟩) (n + 1) cn] 32)) := (Ext.refl w).alloc _
  have hc1 := hE.cell hc0
  have hi0 : (0 : Int) ≤ (n : Int) := by omega
  have hi1 : (n : Int) < ((n + 1 : Nat) : Int) := by omega
  have hw : ((n + 1 : Nat) : Int) - 1 = (n : Int) := by omega
  have HE := Lib.hid hE
  clear hp hs hm hc hc0 hE hr hn hru
  go_enter Tryz.func91, Tryz.ntmps91
  go_wp2
  go_ret
  exact ⟨rfl, HE.out⟩
end Go.Proofs.YtaakmdjicocjpaaGreatDoor

namespace Go.Proofs.YtaakmdjicocjpaaGreatDoor
open Go.RowKit Go.Lib

attribute [local go_sem] Oper.semAt_some

/-- The note before note k: the zero size before the first one. -/
def prevQ (n : Nat) (rs : List Qw) (k : Nat) : List Rat := if k = 0 then List.replicate n 0 else ((rs[k - 1]?).map Qw.x).getD []
/-- A right scale: at most sixty notes, each greater than the one before, as the quick sign sees it. -/
structure Right (p : List Int) (rs : List Qw) : Prop where
  pe : primesErr p = 0
  few : p.length ≤ 100
  ne : rs.length ≠ 0
  most : rs.length ≤ 60
  len : ∀ r ∈ rs, r.x.length = p.length
  ft : ∀ r ∈ rs, ∀ q ∈ r.x, Ft 30 q
  quick : ∀ k r, rs[k]? = some r → Quick p (subZ (prevQ p.length rs k) r.x)
  up : ∀ k r, rs[k]? = some r → sgnT (tms p (dn (subZ (prevQ p.length rs k) r.x)) (subZ (prevQ p.length rs k) r.x)) = -1

set_option maxRecDepth 100000 in
set_option maxHeartbeats 4000000 in
theorem scCheck_c (v : Value) (p : List Int) (rs : List Qw) (w : World) (he : Env w) (hv : ScV w v p rs) (h : Right p rs) :
    Calls Tryz.prog 77 #[v] w fun e w' => e = .returned (.int .i64 0) ∧ Ext w w' := by
  obtain ⟨vp, vn, rfl, hp, hs, hm⟩ := hv
  have hpl := h.few
  have h0 := h.ne
  have h60 := h.most
  have hpr := fun W (hE : Ext w W) => primes_c vp p W (hE.sl hp) (by omega)
  rw [h.pe] at hpr
  have hz := fun W (hE : Ext w W) => Zero_c vp p W (he.ext hE) (hE.sl hp) h.pe
  have hck := fun (r : Qw) (hr : r ∈ rs) W (hE : Ext w W) => sCheck_c vp r.u p r.x W (he.ext hE) (hE.sl hp) (hE.rd (hm r hr)) h.pe (h.len r hr) (h.ft r hr)
  have hcm := fun k (r : Qw) (hr : rs[k]? = some r) vb W (hE : Ext w W) (hb : Rd W vb (prevQ p.length rs k)) (hbl : (prevQ p.length rs k).length = p.length) (hbf : ∀ q ∈ prevQ p.length rs k, Ft 30 q) =>
    sCompare_c vp vb r.u p (prevQ p.length rs k) r.x W (he.ext hE) (hE.sl hp) hb (hE.rd (hm r (List.mem_of_getElem? hr))) h.pe hpl hbl (h.len r (List.mem_of_getElem? hr)) hbf (h.ft r (List.mem_of_getElem? hr)) (h.quick k r hr)
  have hpv : ∀ k, k ≤ rs.length → (prevQ p.length rs k).length = p.length ∧ ∀ q ∈ prevQ p.length rs k, Ft 30 q := fun k hk => by
    unfold prevQ
    by_cases h1 : k = 0
    · rw [if_pos h1]
      refine ⟨List.length_replicate, fun q hq => ?_⟩
      obtain rfl := List.eq_of_mem_replicate hq
      exact ft_zero.mono (by omega)
    · rw [if_neg h1, List.getElem?_eq_getElem (by omega)]
      exact ⟨h.len _ (List.getElem_mem _), h.ft _ (List.getElem_mem _)⟩
  have hup := h.up
  have hln := h.len
  have hone := fun (r : Qw) (hr : r ∈ rs) => (hm r hr).parts
  have hm2 := fun (r : Qw) (hr : r ∈ rs) W (hE : Ext w W) => hE.rd (hm r hr)
  obtain ⟨ap, cp, rfl, _, _, _⟩ := hp.parts
  obtain ⟨an, cn, rfl, _, _, hc⟩ := hs.parts
  rw [i64s_length] at hpr hz hck hcm ⊢
  rw [qwc_length]
  have bx : (w.alloc (.cells #[.slice ap p.length cp, .slice an rs.length cn] 32)).heap[w.heap.size]? = some (.cells #[.slice ap p.length cp, .slice an rs.length cn] 32 (0, 0)) := World.alloc_heap_new w _
  have hE0 : Ext w (w.alloc (.cells #[.slice ap p.length cp, .slice an rs.length cn] 32)) := (Ext.refl w).alloc _
  have hbox : ∀ W, Ext (w.alloc (.cells #[.slice ap p.length cp, .slice an rs.length cn] 32)) W → W.cell? ⟨w.heap.size, 0, none⟩ = some (.slice ap p.length cp) ∧ W.cell? ⟨w.heap.size, 1, none⟩ = some (.slice an rs.length cn) := fun W hE => by
    have hb := hE.heap bx
    unfold World.cell?
    dsimp only
    rw [hb]
    exact ⟨rfl, rfl⟩
  clear hp hs hm he h hpl bx
  have Hpr := Lib.hid hpr; have Hz := Lib.hid hz; have Hck := Lib.hid hck; have Hcm := Lib.hid hcm; have Hpv := Lib.hid hpv; have Hup := Lib.hid hup; have Hln := Lib.hid hln; have Hone := Lib.hid hone; have Hm2 := Lib.hid hm2; have Hc := Lib.hid hc; have HE0 := Lib.hid hE0; have Hbox := Lib.hid hbox; clear hpr hz hck hcm hpv hup hln hone hm2 hc hE0 hbox
  go_enter Tryz.func77, Tryz.ntmps77
  go_wp2_with fail
  refine (Hpr.out _ HE0.out).mono ?_
  rintro e w1 ⟨rfl, rfl⟩
  go_wp2_with fail
  refine (Hz.out _ HE0.out).mono ?_
  rintro e w1 ⟨rfl, hoz, hx1⟩
  obtain ⟨q0, q1⟩ := Hbox.out w1 hx1
  have hrz : Rd w1 (.slice (some ⟨w.heap.size + 1, 0, none⟩) p.length p.length) (prevQ p.length rs 0) := by
    have := hoz.rd
    rw [World.size_alloc] at this
    exact this
  have Hrz := Lib.hid hrz; have Hx1 := Lib.hid hx1; clear hrz hx1
  clear hoz
  go_wp2_with fail
  have hcs : ∀ k, (prevQ p.length rs (k + 1)) = ((rs[k]?).map Qw.x).getD [] := fun k => by unfold prevQ; rw [if_neg (by omega)]; rfl
  have Hcs := Lib.hid hcs; clear hcs
  go_loopw [4, 7, 8, 9, 10, 36] (fun v4 v7 v8 v9 v10 v36 wr => ∃ (k : Nat) (a : Option Addr) (c : Nat), v36 = .int .i64 k ∧ k ≤ rs.length ∧ v4 = .slice a p.length c ∧ Rd wr (.slice a p.length c) (prevQ p.length rs k) ∧ Ext w1 wr) (fun _ _ _ _ _ v36 _ => rs.length - (intOf v36).toNat)
  case atStart => exact ⟨0, _, _, rfl, Nat.zero_le _, rfl, Hrz.out, Ext.refl _⟩
  case round =>
    clear q0 q1
    obtain ⟨k, ab, cb, rfl, hk, rfl, hrd, hE⟩ := hrel
    by_cases hkn : k < rs.length
    · obtain ⟨r, hr⟩ : ∃ r, rs[k]? = some r := ⟨_, List.getElem?_eq_getElem hkn⟩
      have hmem := List.mem_of_getElem? hr
      obtain ⟨b, off, rfl, hc0⟩ := Hc.out k r.u (by unfold qwc; rw [List.getElem?_map, hr]; rfl)
      obtain ⟨ar, cr, hru, _, _, _⟩ := Hone.out r hmem
      have hEw := (HE0.out.trans Hx1.out).trans hE
      have hcu := hEw.cell hc0
      have hrl : r.x.length = p.length := Hln.out r hmem
      rw [hru, hrl] at hcu
      have h1 := Hck.out r hmem wr hEw
      have hp1 := Hpv.out k hk
      have h2 := fun W (hx : Ext wr W) => Hcm.out k r hr (.slice ab p.length cb) W (hEw.trans hx) (hx.rd hrd) hp1.1 hp1.2
      have hu := Hup.out k r hr
      rw [hu] at h2
      have hr2 := fun W (hx : Ext wr W) => Hm2.out r hmem W (hEw.trans hx)
      rw [hru, hrl] at h1 h2 hr2
      have hnx : prevQ p.length rs (k + 1) = r.x := by rw [Hcs.out k, hr]; rfl
      rw [← hnx] at hr2
      have hk0 : (0 : Int) ≤ (k : Int) := by omega
      have hk1 : (k : Int) < (rs.length : Int) := by omega
      obtain ⟨q0, q1⟩ := Hbox.out wr (Hx1.out.trans hE)
      have hbx2 := fun W (hx : Ext wr W) => Hbox.out W ((Hx1.out.trans hE).trans hx)
      clear hmem hc0 hEw hrl hp1 hu hnx hrd hru hr
      have H1 := Lib.hid h1; have H2 := Lib.hid h2; have Hr2 := Lib.hid hr2; have HE := Lib.hid hE; have Hbx2 := Lib.hid hbx2; clear h1 h2 hr2 hE hbx2
      go_wp2_with fail
      refine H1.out.mono ?_
      rintro e w3 ⟨rfl, hx3⟩
      obtain ⟨s0, s1⟩ := Hbx2.out w3 hx3
      have Hx3 := Lib.hid hx3; clear hx3
      clear q0 q1
      go_wp2_with fail
      refine (H2.out w3 Hx3.out).mono ?_
      rintro e w4 ⟨rfl, hx4⟩
      have Hx4 := Lib.hid (Hx3.out.trans hx4)
      clear hx4 s0 s1
      go_wp2_with fail
      go_roundw
      case rel => exact ⟨k + 1, _, _, by go_num, by omega, rfl, Hr2.out _ Hx4.out, HE.out.trans Hx4.out⟩
      case measure => simp [intOf]; omega
    · obtain rfl : rs.length = k := by omega
      have Hrd := Lib.hid hrd; have HE := Lib.hid hE; clear hrd hE
      go_wp2
      go_ret
      exact ⟨rfl, (HE0.out.trans Hx1.out).trans HE.out⟩
end Go.Proofs.YtaakmdjicocjpaaGreatDoor

namespace Go.Proofs.YtaakmdjicocjpaaGreatDoor
open Go.RowKit Go.Lib

attribute [local go_sem] Oper.semAt_some

set_option maxRecDepth 100000 in
set_option maxHeartbeats 1000000 in
theorem scOpen_c (v vx : Value) (p : List Int) (rs : List Qw) (x : List Rat) (w : World) (he : Env w) (hv : ScV w v p rs) (h : Right p rs) (hx : Rd w vx x) (hlen : x.length = p.length) (hf : ∀ q ∈ x, Ft 30 q) :
    Calls Tryz.prog 89 #[v, vx] w fun e w' => e = .returned (.int .i64 0) ∧ Ext w w' := by
  have h1 := fun W (hE : Ext w W) => scCheck_c v p rs W (he.ext hE) (hv.ext hE) h
  obtain ⟨vp, vn, rfl, hp, hs, hm⟩ := hv
  have h2 := fun W (hE : Ext w W) => sCheck_c vp vx p x W (he.ext hE) (hE.sl hp) (hE.rd hx) h.pe hlen hf
  obtain ⟨ap, cp, rfl, _, _, _⟩ := hp.parts
  obtain ⟨an, cn, rfl, _, _, _⟩ := hs.parts
  obtain ⟨ax, cx, rfl, _, _, _⟩ := hx.parts
  generalize (i64s p).length = n1 at *
  generalize (qwc rs).length = n2 at *
  generalize x.length = n3 at *
  have bx : (w.alloc (.cells #[.slice ap n1 cp, .slice an n2 cn] 32)).heap[w.heap.size]? = some (.cells #[.slice ap n1 cp, .slice an n2 cn] 32 (0, 0)) := World.alloc_heap_new w _
  have hE0 : Ext w (w.alloc (.cells #[.slice ap n1 cp, .slice an n2 cn] 32)) := (Ext.refl w).alloc _
  have hbox : ∀ W, Ext (w.alloc (.cells #[.slice ap n1 cp, .slice an n2 cn] 32)) W → W.cell? ⟨w.heap.size, 0, none⟩ = some (.slice ap n1 cp) ∧ W.cell? ⟨w.heap.size, 1, none⟩ = some (.slice an n2 cn) := fun W hE => by
    have hb := hE.heap bx
    unfold World.cell?
    dsimp only
    rw [hb]
    exact ⟨rfl, rfl⟩
  clear hp hs hm he h hx hlen hf bx
  have H1 := Lib.hid h1; have H2 := Lib.hid h2; have HE0 := Lib.hid hE0; have Hbox := Lib.hid hbox; clear h1 h2 hE0 hbox
  go_enter Tryz.func89, Tryz.ntmps89
  go_wp2_with fail
  refine (H1.out _ HE0.out).mono ?_
  rintro e w1 ⟨rfl, hx1⟩
  obtain ⟨q0, q1⟩ := Hbox.out w1 hx1
  have Hx1 := Lib.hid (HE0.out.trans hx1); clear hx1
  go_wp2_with fail
  refine (H2.out w1 Hx1.out).mono ?_
  rintro e w2 ⟨rfl, hx2⟩
  have Hx2 := Lib.hid (Hx1.out.trans hx2); clear hx2
  go_wp2
  go_ret
  exact ⟨rfl, Hx2.out⟩
end Go.Proofs.YtaakmdjicocjpaaGreatDoor

namespace Go.Proofs.YtaakmdjicocjpaaGreatDoor
open Go.RowKit Go.Lib

attribute [local go_sem] Oper.semAt_some

set_option maxRecDepth 100000 in
set_option maxHeartbeats 2000000 in
theorem scReduce_c (v va : Value) (p : List Int) (rs : List Qw) (n : Nat) (r : Qw) (a0 : Rat) (tl : List Rat) (w : World) (he : Env w) (hv : ScV w v p rs) (h : Right p rs) (hn : rs.length = n + 1) (hr : rs[n]? = some r) (hro : r.x = ov tl.length)
    (ha : Rd w va (a0 :: tl)) (hpr : Pr p (tl.length + 1)) (hf : ∀ q ∈ a0 :: tl, Ft 30 q) (hq : QF p (a0 :: tl)) (hk : Ft 400 ((-flP p (a0 :: tl) : Int) : Rat)) (hfl : Fit (flP p (a0 :: tl)))
    (hres : ∀ q ∈ addZ (a0 :: tl) (mulZ (ov tl.length) ((-flP p (a0 :: tl) : Int) : Rat)), Ft 30 q) :
    Calls Tryz.prog 87 #[v, va] w fun e w' => ∃ g, e = .returned (.tuple #[.slice (some ⟨g, 0, none⟩) p.length p.length, .string (I (flP p (a0 :: tl))), .int .i64 0]) ∧ OwnQ w' w.heap.size (.slice (some ⟨g, 0, none⟩) p.length p.length) (addZ (a0 :: tl) (mulZ (ov tl.length) ((-flP p (a0 :: tl) : Int) : Rat))) ∧ Ext w w' := by
  have hpl := pr_len hpr
  have h60 := h.most
  have h1 := fun W (hE : Ext w W) => scOpen_c v va p rs (a0 :: tl) W (he.ext hE) (hv.ext hE) h (hE.rd ha) (by rw [hpl]; rfl) hf
  have h2 := fun W (hE : Ext w W) => period_c v p rs n r W (hv.ext hE) hn (by omega) hr
  obtain ⟨vp, vn, rfl, hp, hs, hm⟩ := hv
  have hmr := hm r (List.mem_of_getElem? hr)
  rw [hro] at hmr
  have h3 := fun W (hE : Ext w W) => screduce_c vp va r.u p a0 tl W (he.ext hE) (hE.sl hp) (hE.rd ha) (hE.rd hmr) h.pe hpr hf hq hk hfl hres
  generalize addZ (a0 :: tl) (mulZ (ov tl.length) ((-flP p (a0 :: tl) : Int) : Rat)) = z at *
  generalize I (flP p (a0 :: tl)) = sf at *
  obtain ⟨ap, cp, rfl, _, _, _⟩ := hp.parts
  obtain ⟨an, cn, rfl, _, _, _⟩ := hs.parts
  obtain ⟨aa, ca, rfl, _, _, _⟩ := ha.parts
  obtain ⟨ar, cr, hru, _, _, _⟩ := hmr.parts
  rw [hru] at h2 h3
  generalize (i64s p).length = n1 at *
  generalize (qwc rs).length = n2 at *
  generalize (a0 :: tl).length = n3 at *
  generalize (ov tl.length).length = n4 at *
  have bx : (w.alloc (.cells #[.slice ap n1 cp, .slice an n2 cn] 32)).heap[w.heap.size]? = some (.cells #[.slice ap n1 cp, .slice an n2 cn] 32 (0, 0)) := World.alloc_heap_new w _
  have hE0 : Ext w (w.alloc (.cells #[.slice ap n1 cp, .slice an n2 cn] 32)) := (Ext.refl w).alloc _
  have hbox : ∀ W, Ext (w.alloc (.cells #[.slice ap n1 cp, .slice an n2 cn] 32)) W → W.cell? ⟨w.heap.size, 0, none⟩ = some (.slice ap n1 cp) ∧ W.cell? ⟨w.heap.size, 1, none⟩ = some (.slice an n2 cn) := fun W hE => by
    have hb := hE.heap bx
    unfold World.cell?
    dsimp only
    rw [hb]
    exact ⟨rfl, rfl⟩
  clear hp hs hm he h ha hpr hf hq hk hfl hres hmr hru hr hro hn bx hpl h60
  have H1 := Lib.hid h1; have H2 := Lib.hid h2; have H3 := Lib.hid h3; have HE0 := Lib.hid hE0; have Hbox := Lib.hid hbox; clear h1 h2 h3 hE0 hbox
  go_enter Tryz.func87, Tryz.ntmps87
  go_wp2_with fail
  refine (H1.out _ HE0.out).mono ?_
  rintro e w1 ⟨rfl, hx1⟩
  obtain ⟨q0, q1⟩ := Hbox.out w1 hx1
  have Hx1 := Lib.hid (HE0.out.trans hx1); clear hx1
  go_wp2_with fail
  go_region_held3 (fun w' => Ext w1 w' ∧ w'.cell? ⟨w.heap.size, 0, none⟩ = some (.slice ap n1 cp) ∧ w'.cell? ⟨w.heap.size, 1, none⟩ = some (.slice an n2 cn))
    (first | (with_reducible assumption) | exact ⟨(Ext.refl w1).drew, q0, q1⟩)
    (first
      | (go_at_call 91; refine (H2.out _ (Hx1.out.trans (And.left (by assumption)))).mono ?_; rintro e9 VA ⟨rfl, hxa⟩; have hEA := ((Ext.refl w1).drew).trans hxa; have hS2 : Ext w1 VA ∧ VA.cell? ⟨w.heap.size, 0, none⟩ = some (.slice ap n1 cp) ∧ VA.cell? ⟨w.heap.size, 1, none⟩ = some (.slice an n2 cn) := ⟨hEA, hEA.cell q0, hEA.cell q1⟩; have HEA := Lib.hid hEA; clear hxa hEA)
      | (go_at_call 90; refine (H3.out _ (Hx1.out.trans HEA.out)).mono ?_; rintro e9 VB ⟨g, rfl, ho, hxa⟩; have hEB := HEA.out.trans hxa; have hS3 : Ext w1 VB ∧ VB.cell? ⟨w.heap.size, 0, none⟩ = some (.slice ap n1 cp) ∧ VB.cell? ⟨w.heap.size, 1, none⟩ = some (.slice an n2 cn) := ⟨hEB, hEB.cell q0, hEB.cell q1⟩; have HEB := Lib.hid hEB; have HoB := Lib.hid (ho.mono (Hx1.out.trans HEA.out).size); clear hxa hEB ho hS2))
  all_goals
    clear hS3 q0 q1
    go_wp2
    exact bodyPost_ret (by simp [results, Tryz.results87, go_sem]) rfl ⟨g, rfl, HoB.out, Hx1.out.trans HEB.out⟩
end Go.Proofs.YtaakmdjicocjpaaGreatDoor

namespace Go.Proofs.YtaakmdjicocjpaaGreatDoor
open Go.RowKit Go.Lib

attribute [local go_sem] Oper.semAt_some

/-- The size of a note. -/
def noteQ (rs : List Qw) (n : Nat) (k : Int) : List Rat :=
  let b := mulZ (((rs[n]?).map Qw.x).getD []) ((k / ((n : Int) + 1) : Int) : Rat)
  if k % ((n : Int) + 1) = 0 then b else addZ b (((rs[(k % ((n : Int) + 1)).toNat - 1]?).map Qw.x).getD [])
theorem trunc_floor {k N : Int} (hN : 0 < N) : (k.tmod N < 0 → k.tmod N + N = k % N ∧ k.tdiv N - 1 = k / N) ∧ (¬ k.tmod N < 0 → k.tmod N = k % N ∧ k.tdiv N = k / N) := by
  have h1 := Int.mul_tdiv_add_tmod k N
  have h2 := Int.mul_ediv_add_emod k N
  have h3 := Int.emod_nonneg k (show N ≠ 0 by omega)
  have h4 := Int.emod_lt_of_pos k hN
  have h5 : -N < k.tmod N ∧ k.tmod N < N := ⟨Int.lt_tmod_of_pos k hN, Int.tmod_lt_of_pos k hN⟩
  generalize k.tmod N = r at *
  generalize k.tdiv N = q at *
  generalize k % N = s at *
  generalize k / N = t at *
  have key : ∀ a b u v : Int, N * a + u = N * b + v → 0 ≤ u → u < N → 0 ≤ v → v < N → a = b ∧ u = v := fun a b u v e u0 u1 v0 v1 => by
    have hm : N * (a - b) = v - u := by rw [Int.mul_sub]; omega
    have : a - b = 0 := by
      rcases Int.lt_trichotomy (a - b) 0 with g | g | g
      · have := Int.mul_le_mul_of_nonneg_left (show a - b ≤ -1 by omega) (show 0 ≤ N by omega)
        omega
      · exact g
      · have := Int.mul_le_mul_of_nonneg_left (show 1 ≤ a - b by omega) (show 0 ≤ N by omega)
        omega
    exact ⟨by omega, by rw [this, Int.mul_zero] at hm; omega⟩
  constructor
  · intro g
    obtain ⟨e1, e2⟩ := key (q - 1) t (r + N) s (by rw [Int.mul_sub]; omega) (by omega) (by omega) h3 h4
    exact ⟨e2, e1⟩
  · intro g
    obtain ⟨e1, e2⟩ := key q t r s (by omega) (by omega) (by omega) h3 h4
    exact ⟨e2, e1⟩
end Go.Proofs.YtaakmdjicocjpaaGreatDoor
