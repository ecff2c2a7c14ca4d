/- Walks: class.Constant. What the laws of worlds begin with: a world in its box. Walk: law 31's Major. Walk: scale.Steps of a right scale. Plain: the major scale is the collection of seven fifths; what reduces there. -/
import Derived.Test.YtaakmdjicocjpaaGreatDoorPb35
import Derived.Test.YtaakmdjicocjpaaGreatDoorPb21
import Derived.Test.YtaakmdjicocjpaaGreatDoorPb18
import Derived.Test.YtaakmdjicocjpaaGreatDoorPb33
import Derived.Test.YtaakmdjicocjpaaGreatDoorPb27
import Derived.Test.YtaakmdjicocjpaaGreatDoorPb22
set_option maxRecDepth 100000
set_option maxHeartbeats 1600000
namespace Go.Proofs.YtaakmdjicocjpaaGreatDoor
open Go.RowKit Go.Lib Go.Shelf
attribute [local go_sem] Oper.semAt_some
theorem const1_c (b : Nat) (uX uY : Value) (x y : List Rat) (W : World) (hb : W.cell? ⟨b, 0, none⟩ = some uX) (hx : Rd W uX x) (hy : Rd W uY y) (lx : x.length ≤ 1000) (ly : y.length ≤ 1000) :
    Calls Tryz.prog 66 #[uY, .pointer (some ⟨b, 0, none⟩)] W fun e w' => e = .returned (.bool (decide (x = y))) ∧ Ext W w' := by
  have hs := sEq_c uX uY x y W hx hy lx ly
  obtain ⟨aA, cA, rfl, _, _, _⟩ := hx.parts
  obtain ⟨aB, cB, rfl, _, _, _⟩ := hy.parts
  generalize decide (x = y) = dd at *
  generalize x.length = l1 at *
  generalize y.length = l2 at *
  have Hs := Lib.hid hs
  clear hs hx hy
  go_enter Tryz.func66, Tryz.ntmps66
  go_wp2_with fail
  refine Hs.out.mono ?_
  rintro e w1 ⟨rfl, hx1⟩
  have Hx1 := Lib.hid hx1; clear hx1
  go_wp2
  go_ret
  exact ⟨rfl, Hx1.out⟩
/-- A class of a list of classes, with its cells. -/
theorem lqm_row {w : World} {B g : Nat} {v : Value} {p : List Int} {N : List (List Rat)} {ls : List Lq} (h : LqM w B B v ls) (hx : lqx ls = clss p N) (hcell : ∀ j u, (lqc ls)[j]? = some u → w.cell? ⟨g, j, none⟩ = some u) (hpos : ∀ d : Nat, 0 < (cls p N (d : Int)).length) {d : Nat} (hd : d ≤ N.length) :
    ∃ gA c rs1, w.cell? ⟨g, d, none⟩ = some (.slice (some ⟨gA, 0, none⟩) (cls p N (d : Int)).length c) ∧ QwM w B B (.slice (some ⟨gA, 0, none⟩) (cls p N (d : Int)).length c) rs1 ∧ rs1.map Qw.x = cls p N (d : Int) ∧ ∀ i x, (cls p N (d : Int))[i]? = some x → ∃ u, w.cell? ⟨gA, i, none⟩ = some u ∧ OwnQ w B u x := by
  obtain ⟨l, a, c, h1, h2, h3, h4⟩ := lqm_at h hx hd
  have hp := hpos d
  obtain ⟨x0, hx0⟩ : ∃ x0, (cls p N (d : Int))[0]? = some x0 := ⟨_, List.getElem?_eq_getElem hp⟩
  obtain ⟨gA, _, rfl, _, _⟩ := lqm_in h3 h4 hx0
  refine ⟨gA, c, l.rs, hcell d _ (by unfold lqc; rw [List.getElem?_map, h1, ← h2]; rfl), h3, h4, fun i x hx => ?_⟩
  obtain ⟨g', u, e, k1, k2⟩ := lqm_in h3 h4 hx
  injection e with e
  injection e with e1
  subst e1
  exact ⟨u, k1, k2⟩
theorem any_mem {rs : List Qw} {l : List (List Rat)} (h : rs.map Qw.x = l) (x : List Rat) : rs.any (fun r => decide (x = r.x)) = decide (x ∈ l) := by
  rw [← h, Bool.eq_iff_iff, List.any_eq_true, decide_eq_true_iff, List.mem_map]
  constructor
  · rintro ⟨r, hr, e⟩
    exact ⟨r, hr, (of_decide_eq_true e).symm⟩
  · rintro ⟨r, hr, e⟩
    exact ⟨r, hr, decide_eq_true e.symm⟩
/-- The box of a size. -/
def BoxX (w : World) (b : Nat) (u : Value) : Prop := w.heap[b]? = some (.cells #[u] 41 (0, 0))
theorem BoxX.c0 {w : World} {b : Nat} {u : Value} (h : BoxX w b u) : w.cell? ⟨b, 0, none⟩ = some u := by unfold World.cell?; dsimp only; rw [h]; rfl
theorem BoxX.made (w : World) (z u : Value) : BoxX ((w.alloc (.cells #[z] 41)).setCell ⟨w.heap.size, 0, none⟩ u) w.heap.size u := heap_setCell_same _ w.heap.size 0 _ _ u (World.alloc_heap_new w _)
theorem BoxX.lt {w : World} {b : Nat} {u : Value} (h : BoxX w b u) : b < w.heap.size := (Array.getElem?_eq_some_iff.1 h).1
/-- What the region of a clash keeps. -/
def KpC (w w' : World) (b B : Nat) (u : Value) (x : List Rat) (c : Nat) : Prop := Ext w w' ∧ BoxX w' b u ∧ OwnQ w' B u x ∧ ∃ r0 r1 r2 r3, Box4 47 w' c r0 r1 r2 r3
section
variable {w w' w2 : World} {b c B : Nat} {u : Value} {x : List Rat}
theorem KpC.ext (h : KpC w w' b B u x c) (hx : Ext w' w2) : KpC w w2 b B u x c := by
  obtain ⟨h1, h2, h4, r0, r1, r2, r3, h3⟩ := h
  exact ⟨h1.trans hx, hx.heap h2, hx.ownQ h4, r0, r1, r2, r3, h3.ext hx⟩
theorem KpC.put (h : KpC w w' b B u x c) (hc : w.heap.size ≤ c) (hne : b ≠ c) (hB : c < B) (u' v' x' y' : Value) : KpC w ((((w'.setCell ⟨c, 0, none⟩ u').setCell ⟨c, 1, none⟩ v').setCell ⟨c, 2, none⟩ x').setCell ⟨c, 3, none⟩ y') b B u x c := by
  obtain ⟨h1, h2, h4, r0, r1, r2, r3, h3⟩ := h
  refine ⟨h1.put4 hc _ _ _ _, ?_, h4.put4 hB _ _ _ _, u', v', x', y', h3.put _ _ _ _⟩
  unfold BoxX at *
  rw [heap_setCell_other _ ⟨c, 3, none⟩ b _ hne, heap_setCell_other _ ⟨c, 2, none⟩ b _ hne, heap_setCell_other _ ⟨c, 1, none⟩ b _ hne, heap_setCell_other _ ⟨c, 0, none⟩ b _ hne]
  exact h2
theorem KpC.fin (h : KpC w w' b B u x c) (hc : w.heap.size ≤ c) (hB : c < B) (u' v' x' y' : Value) : Box4 47 ((((w'.setCell ⟨c, 0, none⟩ u').setCell ⟨c, 1, none⟩ v').setCell ⟨c, 2, none⟩ x').setCell ⟨c, 3, none⟩ y') c u' v' x' y' ∧ Ext w ((((w'.setCell ⟨c, 0, none⟩ u').setCell ⟨c, 1, none⟩ v').setCell ⟨c, 2, none⟩ x').setCell ⟨c, 3, none⟩ y') ∧ OwnQ ((((w'.setCell ⟨c, 0, none⟩ u').setCell ⟨c, 1, none⟩ v').setCell ⟨c, 2, none⟩ x').setCell ⟨c, 3, none⟩ y') B u x := by
  obtain ⟨h1, h2, h4, r0, r1, r2, r3, h3⟩ := h
  exact ⟨h3.put _ _ _ _, h1.put4 hc _ _ _ _, h4.put4 hB _ _ _ _⟩
theorem KpC.all (h : KpC w w' b B u x c) : KpC w w' b B u x c ∧ w'.cell? ⟨b, 0, none⟩ = some u ∧ w'.cell? ⟨c, 0, none⟩ = some (valAt w' c 0) ∧ w'.cell? ⟨c, 1, none⟩ = some (valAt w' c 1) ∧ w'.cell? ⟨c, 2, none⟩ = some (valAt w' c 2) ∧ w'.cell? ⟨c, 3, none⟩ = some (valAt w' c 3) ∧ w'.frozen? ⟨c, 0, none⟩ = false ∧ w'.frozen? ⟨c, 1, none⟩ = false ∧ w'.frozen? ⟨c, 2, none⟩ = false ∧ w'.frozen? ⟨c, 3, none⟩ = false := by
  refine ⟨h, h.2.1.c0, ?_⟩
  obtain ⟨h1, h2, h4, r0, r1, r2, r3, h3⟩ := h
  unfold valAt
  rw [h3.c0, h3.c1, h3.c2, h3.c3]
  exact ⟨rfl, rfl, rfl, rfl, h3.fz 0, h3.fz 1, h3.fz 2, h3.fz 3⟩
end
theorem constant_c (v : Value) (p : List Int) (rs : List Qw) (w : World) (he : Env w) (hv : ScV w v p rs) (h : Wc p (rs.map Qw.x)) :
    Calls Tryz.prog 22 #[v] w fun e w' => CstE p (rs.map Qw.x) w.heap.size e w' ∧ Ext w w' := by
  have hop := fun W (hE : Ext w W) => open_c v p rs W (he.ext hE) (hv.ext hE) h
  have hL : (rs.map Qw.x).length = rs.length := List.length_map ..
  have hfew := h.wd.few
  have hpos := h.wd.pos
  rw [hL] at hfew hpos
  have hcp := fun (d : Nat) => h.cls_pos (d : Int)
  have hat := fun W B g vv ls (hq : LqM W B B vv ls) (hx : lqx ls = clss p (rs.map Qw.x)) hcell (d : Nat) (hd : d ≤ rs.length) => lqm_row (g := g) hq hx hcell hcp (d := d) (by rw [hL]; exact hd)
  have hcs : (clss p (rs.map Qw.x)).length = rs.length + 1 := by rw [clss_len, hL]
  have hcl := fun (d : Nat) => (cls_len (p := p) (N := rs.map Qw.x) (d := (d : Int)))
  rw [hL] at hcl
  have hxl := fun (d : Nat) x (hx : x ∈ cls p (rs.map Qw.x) (d : Int)) => h.cls_lt hx
  have hp1 : 1 ≤ p.length ∧ p.length ≤ 100 := by rcases h.wd.pr with ⟨e, _⟩ | ⟨e, _⟩ <;> rw [e] <;> decide
  have hle : (rs.map Qw.x).length = rs.length := hL
  obtain ⟨vp, vn, rfl, hp, hs, hmr⟩ := hv
  obtain ⟨ap, cp, rfl, _, _, _⟩ := hp.parts
  obtain ⟨an, cn, rfl, _, _, _⟩ := hs.parts
  rw [i64s_length] at *
  rw [qwc_length] at *
  generalize rs.length = n at *
  have hE0 : Ext w ((w.alloc (.cells #[.slice ap p.length cp, .slice an n cn] 32)).alloc (.cells #[.int .i64 0, .int .i64 0, .slice none 0 0, .slice none 0 0] 47)) := ((Ext.refl w).alloc _).alloc _
  have b1 := (BoxT.new 32 w (.slice ap p.length cp) (.slice an n cn)).ext ((Ext.refl _).alloc (.cells #[.int .i64 0, .int .i64 0, .slice none 0 0, .slice none 0 0] 47))
  have b2 := Box4.new 47 (w.alloc (.cells #[.slice ap p.length cp, .slice an n cn] 32)) (.int .i64 0) (.int .i64 0) (.slice none 0 0) (.slice none 0 0)
  rw [World.size_alloc] at b2
  have Hop := Lib.hid hop; have Hat := Lib.hid hat; have HE0 := Lib.hid hE0; have Hcs := Lib.hid hcs; have Hcp := Lib.hid hcp; have Hcl := Lib.hid hcl; have Hxl := Lib.hid hxl; have B2 := Lib.hid b2; have Hle := Lib.hid hle; have Hp1 := Lib.hid hp1
  have q0 := b1.c0
  have q1 := b1.c1
  clear hop hat hE0 hcs hcp hcl hxl b1 b2 hp hs hmr he h hL hle hp1
  go_enter Tryz.func22, Tryz.ntmps22
  go_wp2_with fail
  refine (Hop.out _ HE0.out).mono ?_
  rintro e w2 ⟨u, v4, ls, rfl, hu, hq, hm, hx2⟩
  have hll : ls.length = n + 1 := by
    have := congrArg List.length hm
    unfold lqx at this
    rwa [List.length_map, Hcs.out] at this
  rw [World.size_alloc, World.size_alloc] at hq
  have hq1 := hq.1
  obtain ⟨g, cap, rfl, hcell⟩ := own_slice hq1 (by omega)
  rw [hll] at hq1 ⊢
  have hx := HE0.out.trans hx2
  have b3 := B2.out.ext hx2
  have hszc : w.heap.size + 1 + 1 ≤ w2.heap.size := by have := hx2.size; rwa [World.size_alloc, World.size_alloc] at this
  have hcc := Hat.out w2 (w.heap.size + 1 + 1) g _ ls hq hm hcell
  obtain ⟨bv, uv1, uv2, uv3, nts, rfl, hrest⟩ := hu
  have Hx := Lib.hid hx; have Hcc := Lib.hid hcc; have B3 := Lib.hid b3; have Hszc := Lib.hid hszc
  clear hx hcc hq hm hrest hx2 q0 q1 hq1 hll hcell b3 hszc
  go_wp2_with fail
  go_loopw [23] (fun v23 wr => ∃ d : Nat, v23 = .int .i64 (d : Int) ∧ d ≤ n + 1 ∧ (∀ d' u' : Nat, d' < d → d' < u' → u' ≤ n → Dj p (rs.map Qw.x) d' u') ∧ Ext w2 wr) (fun v23 _ => n + 2 - (intOf v23).toNat)
  case atStart => exact ⟨0, rfl, Nat.zero_le _, fun _ _ h => absurd h (Nat.not_lt_zero _), Ext.refl _⟩
  case round =>
    obtain ⟨d, rfl, hd, hbef, hE⟩ := hrel
    have Hbef := Lib.hid hbef; clear hbef
    by_cases hdn : d < n + 1
    · have hik : (d : Int) < ((n + 1 : Nat) : Int) := by omega
      have hik' : (d : Int) < (n : Int) + 1 := by omega
      have i5 : (0 : Int) ≤ (d : Int) := by omega
      have e2 : IntKind.i64.wrap ((d : Int) + 1) = ((d + 1 : Nat) : Int) := by rw [IntWalk.i64_in _ (by omega)]; omega
      obtain ⟨gA, cA, rsA, kA, _, _, lA⟩ := Hcc.out d (by omega)
      have hz1 := Hcp.out d
      have hl1 := Hcl.out d
      have hat : ∀ i, i < (cls p (rs.map Qw.x) (d : Int)).length → ∃ x, (cls p (rs.map Qw.x) (d : Int))[i]? = some x := fun i hi => ⟨_, List.getElem?_eq_getElem hi⟩
      have htk : ∀ i x (u : Nat), (cls p (rs.map Qw.x) (d : Int))[i]? = some x → (∀ y ∈ (cls p (rs.map Qw.x) (d : Int)).take i, y ∉ cls p (rs.map Qw.x) (u : Int)) → x ∉ cls p (rs.map Qw.x) (u : Int) → ∀ y ∈ (cls p (rs.map Qw.x) (d : Int)).take (i + 1), y ∉ cls p (rs.map Qw.x) (u : Int) := fun i x u hx ht hn y hy => by
        rw [List.take_add_one, hx] at hy
        rcases List.mem_append.1 hy with g | g
        · exact ht y g
        · have : y = x := by simpa using g
          rw [this]; exact hn
      have hdj : ∀ (u : Nat) i, (cls p (rs.map Qw.x) (d : Int)).length ≤ i → (∀ y ∈ (cls p (rs.map Qw.x) (d : Int)).take i, y ∉ cls p (rs.map Qw.x) (u : Int)) → Dj p (rs.map Qw.x) d u := fun u i hi ht y hy => ht y (by rw [List.take_of_length_le hi]; exact hy)
      have hxl := Hxl.out d
      generalize hzz : (cls p (rs.map Qw.x) (d : Int)).length = z1 at *
      have HE := Lib.hid hE; have KA := Lib.hid kA; have LA := Lib.hid lA; have HAt := Lib.hid hat; have Htk := Lib.hid htk; have Hdj := Lib.hid hdj; have HXl := Lib.hid hxl; have Hzz := Lib.hid hzz
      clear hE kA lA hat htk hdj hxl hzz
      go_wp2_with fail
      obtain ⟨wa, hwa⟩ : ∃ wa, wa = wr := ⟨_, rfl⟩
      subst hwa
      go_loopw [8] (fun v8 wr => ∃ u : Nat, v8 = .int .i64 (u : Int) ∧ d < u ∧ u ≤ n + 1 ∧ (∀ u' : Nat, d < u' → u' < u → Dj p (rs.map Qw.x) d u') ∧ Ext w2 wr) (fun v8 _ => n + 2 - (intOf v8).toNat)
      case atStart => exact ⟨d + 1, by go_num, by omega, by omega, fun u' h1 h2 => by omega, HE.out⟩
      case round =>
        obtain ⟨u, rfl, hdu, hu, hrow, hE2⟩ := hrel
        have Hrow := Lib.hid hrow; clear hrow
        by_cases hun : u < n + 1
        · have huk : (u : Int) < ((n + 1 : Nat) : Int) := by omega
          have huk' : (u : Int) < (n : Int) + 1 := by omega
          have i6 : (0 : Int) ≤ (u : Int) := by omega
          obtain ⟨gB, cB, rsB, kB, hqB, hmB, _⟩ := Hcc.out u (by omega)
          have hlB := Hcl.out u
          have hxB := Hxl.out u
          have hrB : rsB.length ≤ 10 := by rw [← List.length_map (f := Qw.x), hmB]; omega
          have kA1 := hE2.cell KA.out
          have HE2 := Lib.hid hE2; have KB := Lib.hid kB; have HqB := Lib.hid hqB; have HmB := Lib.hid hmB; have HxB := Lib.hid hxB; have HrB := Lib.hid hrB
          clear hE2 kB hqB hmB hxB hrB
          generalize (cls p (rs.map Qw.x) (u : Int)).length = z2 at *
          go_wp2_with fail
          obtain ⟨wb, hwb⟩ : ∃ wb, wb = wr := ⟨_, rfl⟩
          subst hwb
          clear kA1
          go_loopw [39] (fun v39 wr => ∃ i : Nat, v39 = .int .i64 (i : Int) ∧ i ≤ z1 ∧ (∀ y ∈ (cls p (rs.map Qw.x) (d : Int)).take i, y ∉ cls p (rs.map Qw.x) (u : Int)) ∧ Ext w2 wr) (fun v39 _ => z1 + 1 - (intOf v39).toNat)
          case atStart => exact ⟨0, rfl, Nat.zero_le _, fun y hy => by simp at hy, HE2.out⟩
          case round =>
            obtain ⟨i, rfl, hi, htk, hE3⟩ := hrel
            have HTk := Lib.hid htk; clear htk
            by_cases hiz : i < z1
            · have hiz2 : (i : Int) < (z1 : Int) := by omega
              have i7 : (0 : Int) ≤ (i : Int) := by omega
              obtain ⟨x, hx⟩ := HAt.out i hiz
              obtain ⟨uX, kX, oX⟩ := LA.out i x hx
              have hlx := HXl.out x (List.mem_of_getElem? hx)
              obtain ⟨aX, cX, rfl⟩ := own_shape oX
              have kX1 := hE3.cell kX
              have hb0 : BoxX (wr.alloc (.cells #[.slice aX x.length cX] 41)) wr.heap.size (.slice aX x.length cX) := World.alloc_heap_new wr _
              have hE4 : Ext w2 (wr.alloc (.cells #[.slice aX x.length cX] 41)) := hE3.alloc _
              have kB1 := hE4.cell KB.out
              have hbn : w2.heap.size ≤ wr.heap.size := hE3.size
              have hcon := containsQ_c 66 #[.pointer (some ⟨wr.heap.size, 0, none⟩)] (.slice (some ⟨gB, 0, none⟩) z2 cB) rsB (fun y => decide (x = y)) _ (hE4.sl (sl_own HqB.out.1)) (by have := HrB.out; omega) (fun _ _ => rfl) (fun W hW r hr => const1_c wr.heap.size _ r.u x r.x W (hW.cell hb0.c0) ((hE4.trans hW).ownQ oX).rd ((hE4.trans hW).ownQ (HqB.out.2 r hr)).rd (by have := Hp1.out; omega) (by rw [HxB.out _ (by rw [← HmB.out]; exact List.mem_map_of_mem hr)]; have := Hp1.out; omega))
              rw [any_mem HmB.out] at hcon
              have hcl := fun W (hk : KpC w W wr.heap.size (w.heap.size + 1 + 1) (.slice aX x.length cX) x (w.heap.size + 1)) => show Calls Tryz.prog 67 #[.slice aX x.length cX] W fun e w' => ∃ a c, e = .returned (.slice a x.length c) ∧ OwnQ w' (w.heap.size + 1 + 1) (.slice a x.length c) x ∧ Ext W w' from
                (cloneQ_c _ x W hk.2.2.1.rd (by have := Hp1.out; omega) (by intro e; rw [e] at hlx; have := Hp1.out; simp at hlx; omega)).mono fun e w' ⟨u, h1, h2, h3⟩ => by
                  obtain ⟨a, c, rfl⟩ := own_shape h2
                  exact ⟨a, c, h1, h2.mono (by have := hk.2.1.lt; have := Hszc.out; omega), h3⟩
              generalize hb : wr.heap.size = bX at *
              have HX := Lib.hid hx; have OX := Lib.hid oX; have HE3 := Lib.hid hE3; have Hb0 := Lib.hid hb0; have HE4 := Lib.hid hE4; have Hbn := Lib.hid hbn; have Hlx := Lib.hid hlx; have Hcon := Lib.hid hcon; have Hclo := Lib.hid hcl
              clear hx oX hE3 hb0 hE4 kX hbn hlx hcon hcl
              generalize hlxx : x.length = lx at *
              have Hlxx := Lib.hid hlxx; clear hlxx
              generalize hdd : decide (x ∈ cls p (rs.map Qw.x) (u : Int)) = bb at *
              have Hdd := Lib.hid hdd; clear hdd
              go_wp2_with fail
              refine Hcon.out.mono ?_
              rintro e w5 ⟨rfl, hx5⟩
              have HE5 := Lib.hid (HE4.out.trans hx5)
              have Hb5 := Lib.hid (hx5.heap Hb0.out)
              clear hx5
              generalize wr.alloc (.cells #[.slice aX lx cX] 41) = W4 at *
              cases bb with
              | true =>
                have hk : KpC w w5 bX (w.heap.size + 1 + 1) (.slice aX lx cX) x (w.heap.size + 1) := ⟨Hx.out.trans HE5.out, Hb5.out, HE5.out.ownQ OX.out, _, _, _, _, B3.out.ext HE5.out⟩
                have hne : bX ≠ w.heap.size + 1 := by have := Hbn.out; have := Hszc.out; omega
                have Hk := Lib.hid hk; clear hk
                clear kB1 kX1
                go_wp2_with fail
                go_region_held3 (fun w' => KpC w w' bX (w.heap.size + 1 + 1) (.slice aX lx cX) x (w.heap.size + 1) ∧ w'.cell? ⟨bX, 0, none⟩ = some (.slice aX lx cX) ∧ w'.cell? ⟨w.heap.size + 1, 0, none⟩ = some (valAt w' (w.heap.size + 1) 0) ∧ w'.cell? ⟨w.heap.size + 1, 1, none⟩ = some (valAt w' (w.heap.size + 1) 1) ∧ w'.cell? ⟨w.heap.size + 1, 2, none⟩ = some (valAt w' (w.heap.size + 1) 2) ∧ w'.cell? ⟨w.heap.size + 1, 3, none⟩ = some (valAt w' (w.heap.size + 1) 3) ∧ w'.frozen? ⟨w.heap.size + 1, 0, none⟩ = false ∧ w'.frozen? ⟨w.heap.size + 1, 1, none⟩ = false ∧ w'.frozen? ⟨w.heap.size + 1, 2, none⟩ = false ∧ w'.frozen? ⟨w.heap.size + 1, 3, none⟩ = false)
                  (first | exact (KpC.ext Hk.out ((Ext.refl w5).drew)).all | exact hkk.all | exact (KpC.put (And.left (by assumption)) (by omega) (by assumption) (by omega) _ _ _ _).all)
                  (first | (go_at_call 67; refine (Hclo.out _ (And.left (by assumption))).mono ?_; rintro e9 V4 ⟨a9, c9, rfl, ho9, hxa⟩; have hkk := KpC.ext (And.left (by assumption)) hxa; have Ho9 := Lib.hid ho9; clear ho9))
                all_goals
                  obtain ⟨hb9, hfx, hox⟩ := hkk.fin (by omega) (by omega) (.int .i64 (d : Int)) (.int .i64 (u : Int)) (.slice aX lx cX) (.slice a9 lx c9)
                  have ho9 := Ho9.out.put4 (c := w.heap.size + 1) (by omega) (.int .i64 (d : Int)) (.int .i64 (u : Int)) (.slice aX lx cX) (.slice a9 lx c9)
                  have Hfx := Lib.hid hfx; have Hox := Lib.hid hox; have Ho9b := Lib.hid ho9
                  clear hfx hox ho9 hxa hkk
                  generalize (((V4.setCell ⟨w.heap.size + 1, 0, none⟩ (.int .i64 (d : Int))).setCell ⟨w.heap.size + 1, 1, none⟩ (.int .i64 (u : Int))).setCell ⟨w.heap.size + 1, 2, none⟩ (.slice aX lx cX)).setCell ⟨w.heap.size + 1, 3, none⟩ (.slice a9 lx c9) = W9 at *
                  have d0 := hb9.c0
                  have d1 := hb9.c1
                  have d2 := hb9.c2
                  have d3 := hb9.c3
                  go_wp2_with fail
                  exact bodyPost_ret (v := .tuple #[.agg #[.int .i64 (d : Int), .int .i64 (u : Int), .slice aX lx cX, .slice a9 lx c9], .bool false, .int .i64 0]) (by simp [results, Tryz.results22, go_sem, d0, d1, d2, d3]) rfl ⟨⟨_, _, rfl, .inr ⟨rfl, d, u, i, x, ⟨hdu, by rw [Hle.out]; omega, fun d' u' h1 h2 h3 => Hbef.out d' u' h1 h2 (by have := Hle.out; omega), fun u' h1 h2 => Hrow.out u' h1 h2, HTk.out, HX.out, of_decide_eq_true Hdd.out⟩, _, _, rfl, Hox.out.mono (by omega), Ho9b.out.mono (by omega)⟩⟩, Hfx.out⟩
              | false =>
                go_wp2_with fail
                go_roundw
                case rel => first | exact ⟨i + 1, by go_num, by omega, Htk.out i x u HX.out HTk.out (of_decide_eq_false Hdd.out), HE5.out⟩ | ((repeat apply Exists.intro); exact ⟨⟨i + 1, by go_num, by omega, Htk.out i x u HX.out HTk.out (of_decide_eq_false Hdd.out), HE5.out⟩, rfl⟩)
                case measure => simp [intOf]; omega
            · obtain rfl : i = z1 := by omega
              have hiz2 : ¬ (i : Int) < (i : Int) := by omega
              have HE3 := Lib.hid hE3; clear hE3
              go_wp2_with fail
              go_roundw
              case rel => exact ⟨u + 1, by go_num, by omega, by omega, fun u' h1 h2 => by
                rcases Nat.lt_or_ge u' u with g | g
                · exact Hrow.out u' h1 g
                · obtain rfl : u' = u := by omega
                  exact Hdj.out _ _ (Nat.le_refl _) HTk.out, HE3.out⟩
              case measure => simp [intOf]; omega
        · obtain rfl : u = n + 1 := by omega
          have huk : ¬ ((n + 1 : Nat) : Int) < ((n + 1 : Nat) : Int) := by omega
          have HE2 := Lib.hid hE2; clear hE2
          go_wp2_with fail
          go_roundw
          case rel => exact ⟨d + 1, by go_num, by omega, fun d' u' h1 h2 h3 => by
            rcases Nat.lt_or_ge d' d with g | g
            · exact Hbef.out d' u' g h2 h3
            · obtain rfl : d' = d := by omega
              exact Hrow.out u' h2 (by omega), HE2.out⟩
          case measure => simp [intOf]; omega
    · obtain rfl : d = n + 1 := by omega
      have hik : ¬ ((n + 1 : Nat) : Int) < ((n + 1 : Nat) : Int) := by omega
      have b6 := B3.out.ext hE
      have hE6 := Hx.out.trans hE
      have c0 := b6.c0
      have c1 := b6.c1
      have c2 := b6.c2
      have c3 := b6.c3
      have z0 := b6.fz 0
      have z1 := b6.fz 1
      have z2 := b6.fz 2
      have z3 := b6.fz 3
      have B6 := Lib.hid b6; have HE6 := Lib.hid hE6
      clear b6 hE6 hE
      have hp4 := B6.out.put (.int .i64 0) (.int .i64 0) (.slice none 0 0) (.slice none 0 0)
      have d0 := hp4.c0
      have d1 := hp4.c1
      have d2 := hp4.c2
      have d3 := hp4.c3
      go_wp2_with fail
      exact bodyPost_ret (v := .tuple #[csh0, .bool true, .int .i64 0]) (by simp [results, Tryz.results22, go_sem, d0, d1, d2, d3, csh0]) rfl ⟨⟨_, _, rfl, .inl ⟨rfl, rfl, fun d' u' h1 h2 => Hbef.out d' u' (by have := Hle.out; omega) h1 (by have := Hle.out; omega)⟩⟩, HE6.out.put4 (by omega) _ _ _ _⟩
end Go.Proofs.YtaakmdjicocjpaaGreatDoor

namespace Go.Proofs.YtaakmdjicocjpaaGreatDoor
open Go.RowKit Go.Lib Go.Shelf
theorem wl_box (a : Wl) (w W : World) (h : Ext (w.alloc (.cells a.cs 26)) W) : W.rangeAt w.heap.size 0 a.cs.toList := fun j v hj => by
  unfold World.cell?
  dsimp only
  rw [h.heap (World.alloc_heap_new w _), Nat.zero_add]
  show a.cs[j]? = some v
  rw [← Array.getElem?_toList]
  exact hj
theorem wl_info (a : Wl) : (Tryz.prog.info? 26).map (·.size) = some a.cs.toList.length := by
  rw [Array.length_toList]
  kernel_rfl
theorem wl_cs (a : Wl) : Wl.cs a = #[.bool a.three, .int .u8 a.kind, .int .u8 a.num, .int .i8 (a.xs 0).a, .int .i8 (a.xs 0).b, .int .i8 (a.xs 0).c, .int .i8 (a.xs 1).a, .int .i8 (a.xs 1).b, .int .i8 (a.xs 1).c, .int .i8 (a.xs 2).a, .int .i8 (a.xs 2).b, .int .i8 (a.xs 2).c, .int .i8 (a.xs 3).a, .int .i8 (a.xs 3).b, .int .i8 (a.xs 3).c, .int .i8 (a.xs 4).a, .int .i8 (a.xs 4).b, .int .i8 (a.xs 4).c, .int .i8 (a.xs 5).a, .int .i8 (a.xs 5).b, .int .i8 (a.xs 5).c, .int .i8 (a.xs 6).a, .int .i8 (a.xs 6).b, .int .i8 (a.xs 6).c, .int .i8 (a.xs 7).a, .int .i8 (a.xs 7).b, .int .i8 (a.xs 7).c] := rfl
/-- A world, and the scale that Make makes of it. -/
theorem wl_wd (a : Wl) {N : List (List Rat)} (h : Coll a.p a.sizes N) : Wd a.p N := coll_wd a.lw h a.few
end Go.Proofs.YtaakmdjicocjpaaGreatDoor

namespace Go.Proofs.YtaakmdjicocjpaaGreatDoor
open Go.RowKit Go.Lib Go.Shelf
attribute [local go_sem] Oper.semAt_some
theorem sl_other {W : World} {g off n cp : Nat} {us : List Value} {c : Nat} (h : Sl W (.slice (some ⟨g, off, none⟩) n cp) us) (hne : g ≠ c) (k : Nat) (x : Value) : Sl (W.setCell ⟨c, k, none⟩ x) (.slice (some ⟨g, off, none⟩) n cp) us := by
  rcases h with ⟨a, cap, e, hm, h0⟩ | ⟨b, off', cap, e, h1, h2, hc⟩
  · exact .inl ⟨a, cap, e, hm, h0⟩
  · refine .inr ⟨b, off', cap, e, h1, h2, fun i q hq => ?_⟩
    injection e with e1 _ _
    injection e1 with e1
    injection e1 with e1 e2
    subst e1; subst e2
    rw [World.cell?_setCell_other _ _ _ _ (by intro e'; simp only [Addr.mk.injEq] at e'; exact hne e'.1.symm)]
    exact hc i q hq
/-- Fractions do not lie in a block that holds no strings. -/
theorem rd_past {T : TypeId} {W : World} {c : Nat} {u v s : Value} {xs : List Rat} (hs : Rd W s xs) (hb : BoxT T W c u v) (hu : ∀ z, u ≠ .string z) (hv : ∀ z, v ≠ .string z) (x y : Value) : Rd ((W.setCell ⟨c, 0, none⟩ x).setCell ⟨c, 1, none⟩ y) s xs := by
  rcases hs with hn | ⟨b, off, cap, e, h1, h2, hc⟩
  · exact .inl hn
  · have hno : ∀ k z, W.cell? ⟨b, k, none⟩ = some (.string z) → b ≠ c := by
      rintro k z h rfl
      unfold World.cell? at h
      dsimp only at h
      rw [hb] at h
      rcases (by omega : k = 0 ∨ k = 1 ∨ 2 ≤ k) with g | g | g
      · rw [g] at h
        exact hu z (Option.some.inj h)
      · rw [g] at h
        exact hv z (Option.some.inj h)
      · have : (#[u, v] : Array Value)[k]? = none := Array.getElem?_eq_none (by simpa using g)
        simp [this] at h
    have hk : ∀ k z, W.cell? ⟨b, k, none⟩ = some (.string z) → ((W.setCell ⟨c, 0, none⟩ x).setCell ⟨c, 1, none⟩ y).cell? ⟨b, k, none⟩ = some (.string z) := fun k z h => by
      have hbc := hno k z h
      rw [World.cell?_setCell_other _ _ _ _ (by intro e'; simp only [Addr.mk.injEq] at e'; exact hbc e'.1.symm), World.cell?_setCell_other _ _ _ _ (by intro e'; simp only [Addr.mk.injEq] at e'; exact hbc e'.1.symm)]
      exact h
    exact .inr ⟨b, off, cap, e, h1, h2, fun i r hr => ⟨hk _ _ (hc i r hr).1, hk _ _ (hc i r hr).2⟩⟩
def majorZ : List (List Int) := [[-3, 2], [-6, 4], [2, -1], [-1, 1], [-4, 3], [-7, 5], [1, 0]]
def majorQ : List (List Rat) := majorZ.map rats
theorem major_c (w : World) (he : Env w) :
    Calls Tryz.prog 52 #[] w fun e w' => ∃ v rs, e = .returned v ∧ ScV w' v [2, 3] rs ∧ rs.map Qw.x = majorQ ∧ Ext w w' := by
  have hwh := fun W v (l : List Int) (hE : Ext w W) (hv : Sl W v (i64s l)) (h9 : l.length ≤ 1000) (hl : ∀ z ∈ l, z.natAbs < 1000000000) => whole_c v l W (he.ext hE) hv h9 hl
  have hw2 := fun W (a b : Int) (hE : Ext w W) (ha : a.natAbs < 1000000000) (hb : b.natAbs < 1000000000) => hwh (W.alloc (.cells #[.int .i64 a, .int .i64 b] 3)) (.slice (some ⟨W.heap.size, 0, none⟩) 2 2) [a, b] (hE.alloc _) (sl_cells (us := [.int .i64 a, .int .i64 b]) (World.alloc_heap_new W _) (by unfold maxLen; simp)) (by simp) (fun z hz => by
    simp only [List.mem_cons, List.not_mem_nil, or_false] at hz
    rcases hz with rfl | rfl <;> assumption)
  have hb0 := BoxT.new 32 w (.slice none 0 0) (.slice none 0 0)
  have hE0 : Ext w (w.alloc (.cells #[.slice none 0 0, .slice none 0 0] 32)) := (Ext.refl w).alloc _
  have Hw2 := Lib.hid hw2; have HB0 := Lib.hid hb0; have HE0 := Lib.hid hE0
  clear hwh hw2 hb0 hE0 he
  go_enter Tryz.func52, Tryz.ntmps52
  obtain ⟨W0, hW0⟩ : ∃ W0, W0 = (w.alloc (.cells #[.slice none 0 0, .slice none 0 0] 32)).alloc (.cells #[.int .i64 2, .int .i64 3] 3) := ⟨_, rfl⟩
  have hpr : Sl W0 (.slice (some ⟨w.heap.size + 1, 0, none⟩) 2 2) (i64s [2, 3]) := by
    have := sl_cells (us := [.int .i64 2, .int .i64 3]) (World.alloc_heap_new (w.alloc (.cells #[.slice none 0 0, .slice none 0 0] 32)) (.cells #[.int .i64 2, .int .i64 3] 3)) (by unfold maxLen; simp)
    rw [World.size_alloc] at this
    rw [hW0]
    exact this
  have hxw : Ext (w.alloc (.cells #[.slice none 0 0, .slice none 0 0] 32)) W0 := by rw [hW0]; exact (Ext.refl _).alloc _
  have hsz0 : W0.heap.size = w.heap.size + 1 + 1 := by rw [hW0, World.size_alloc, World.size_alloc]
  have hc1 := Hw2.out W0 (-3) (2) (HE0.out.trans hxw) (by decide) (by decide)
  rw [hsz0] at hc1
  have Hc1 := Lib.hid hc1
  clear hc1 hsz0
  have Hpr := Lib.hid hpr; have Hx0 := Lib.hid hxw
  clear hpr hxw
  go_wp2_with fail
  rw [← hW0]
  clear hW0
  refine Hc1.out.mono ?_
  rintro e w1 ⟨u1, rfl, ho1, hx1⟩
  obtain ⟨a1, c1, rfl, _, _, _⟩ := ho1.rd.parts
  rw [show (rats [-3, 2]).length = 2 from rfl] at *
  have hy1 := ((Ext.refl W0).alloc (.cells #[.int .i64 (-3), .int .i64 (2)] 3)).trans hx1
  have Hx1 := Lib.hid (Hx0.out.trans hy1); have Hr1 := Lib.hid ho1.rd
  have Hpr := Lib.hid (hy1.sl Hpr.out)
  clear ho1 hx1 hy1
  go_wp2_with fail
  refine (Hw2.out w1 (-6) (4) (HE0.out.trans Hx1.out) (by decide) (by decide)).mono ?_
  rintro e w2 ⟨u2, rfl, ho2, hx2⟩
  obtain ⟨a2, c2, rfl, _, _, _⟩ := ho2.rd.parts
  rw [show (rats [-6, 4]).length = 2 from rfl] at *
  have hy2 := ((Ext.refl w1).alloc (.cells #[.int .i64 (-6), .int .i64 (4)] 3)).trans hx2
  have Hx2 := Lib.hid (Hx1.out.trans hy2); have Hr2 := Lib.hid ho2.rd
  have Hr1 := Lib.hid (hy2.rd Hr1.out)
  have Hpr := Lib.hid (hy2.sl Hpr.out)
  clear ho2 hx2 hy2
  go_wp2_with fail
  refine (Hw2.out w2 (2) (-1) (HE0.out.trans Hx2.out) (by decide) (by decide)).mono ?_
  rintro e w3 ⟨u3, rfl, ho3, hx3⟩
  obtain ⟨a3, c3, rfl, _, _, _⟩ := ho3.rd.parts
  rw [show (rats [2, -1]).length = 2 from rfl] at *
  have hy3 := ((Ext.refl w2).alloc (.cells #[.int .i64 (2), .int .i64 (-1)] 3)).trans hx3
  have Hx3 := Lib.hid (Hx2.out.trans hy3); have Hr3 := Lib.hid ho3.rd
  have Hr1 := Lib.hid (hy3.rd Hr1.out)
  have Hr2 := Lib.hid (hy3.rd Hr2.out)
  have Hpr := Lib.hid (hy3.sl Hpr.out)
  clear ho3 hx3 hy3
  go_wp2_with fail
  refine (Hw2.out w3 (-1) (1) (HE0.out.trans Hx3.out) (by decide) (by decide)).mono ?_
  rintro e w4 ⟨u4, rfl, ho4, hx4⟩
  obtain ⟨a4, c4, rfl, _, _, _⟩ := ho4.rd.parts
  rw [show (rats [-1, 1]).length = 2 from rfl] at *
  have hy4 := ((Ext.refl w3).alloc (.cells #[.int .i64 (-1), .int .i64 (1)] 3)).trans hx4
  have Hx4 := Lib.hid (Hx3.out.trans hy4); have Hr4 := Lib.hid ho4.rd
  have Hr1 := Lib.hid (hy4.rd Hr1.out)
  have Hr2 := Lib.hid (hy4.rd Hr2.out)
  have Hr3 := Lib.hid (hy4.rd Hr3.out)
  have Hpr := Lib.hid (hy4.sl Hpr.out)
  clear ho4 hx4 hy4
  go_wp2_with fail
  refine (Hw2.out w4 (-4) (3) (HE0.out.trans Hx4.out) (by decide) (by decide)).mono ?_
  rintro e w5 ⟨u5, rfl, ho5, hx5⟩
  obtain ⟨a5, c5, rfl, _, _, _⟩ := ho5.rd.parts
  rw [show (rats [-4, 3]).length = 2 from rfl] at *
  have hy5 := ((Ext.refl w4).alloc (.cells #[.int .i64 (-4), .int .i64 (3)] 3)).trans hx5
  have Hx5 := Lib.hid (Hx4.out.trans hy5); have Hr5 := Lib.hid ho5.rd
  have Hr1 := Lib.hid (hy5.rd Hr1.out)
  have Hr2 := Lib.hid (hy5.rd Hr2.out)
  have Hr3 := Lib.hid (hy5.rd Hr3.out)
  have Hr4 := Lib.hid (hy5.rd Hr4.out)
  have Hpr := Lib.hid (hy5.sl Hpr.out)
  clear ho5 hx5 hy5
  go_wp2_with fail
  refine (Hw2.out w5 (-7) (5) (HE0.out.trans Hx5.out) (by decide) (by decide)).mono ?_
  rintro e w6 ⟨u6, rfl, ho6, hx6⟩
  obtain ⟨a6, c6, rfl, _, _, _⟩ := ho6.rd.parts
  rw [show (rats [-7, 5]).length = 2 from rfl] at *
  have hy6 := ((Ext.refl w5).alloc (.cells #[.int .i64 (-7), .int .i64 (5)] 3)).trans hx6
  have Hx6 := Lib.hid (Hx5.out.trans hy6); have Hr6 := Lib.hid ho6.rd
  have Hr1 := Lib.hid (hy6.rd Hr1.out)
  have Hr2 := Lib.hid (hy6.rd Hr2.out)
  have Hr3 := Lib.hid (hy6.rd Hr3.out)
  have Hr4 := Lib.hid (hy6.rd Hr4.out)
  have Hr5 := Lib.hid (hy6.rd Hr5.out)
  have Hpr := Lib.hid (hy6.sl Hpr.out)
  clear ho6 hx6 hy6
  go_wp2_with fail
  refine (Hw2.out w6 (1) (0) (HE0.out.trans Hx6.out) (by decide) (by decide)).mono ?_
  rintro e w7 ⟨u7, rfl, ho7, hx7⟩
  obtain ⟨a7, c7, rfl, _, _, _⟩ := ho7.rd.parts
  rw [show (rats [1, 0]).length = 2 from rfl] at *
  have hy7 := ((Ext.refl w6).alloc (.cells #[.int .i64 (1), .int .i64 (0)] 3)).trans hx7
  have Hx7 := Lib.hid (Hx6.out.trans hy7); have Hr7 := Lib.hid ho7.rd
  have Hr1 := Lib.hid (hy7.rd Hr1.out)
  have Hr2 := Lib.hid (hy7.rd Hr2.out)
  have Hr3 := Lib.hid (hy7.rd Hr3.out)
  have Hr4 := Lib.hid (hy7.rd Hr4.out)
  have Hr5 := Lib.hid (hy7.rd Hr5.out)
  have Hr6 := Lib.hid (hy7.rd Hr6.out)
  have Hpr := Lib.hid (hy7.sl Hpr.out)
  clear ho7 hx7 hy7
  have hE9 : Ext w7 (w7.alloc (.cells #[.slice a1 2 c1, .slice a2 2 c2, .slice a3 2 c3, .slice a4 2 c4, .slice a5 2 c5, .slice a6 2 c6, .slice a7 2 c7] 41)) := (Ext.refl w7).alloc _
  have hn9 : Sl (w7.alloc (.cells #[.slice a1 2 c1, .slice a2 2 c2, .slice a3 2 c3, .slice a4 2 c4, .slice a5 2 c5, .slice a6 2 c6, .slice a7 2 c7] 41)) (.slice (some ⟨w7.heap.size, 0, none⟩) 7 7) [.slice a1 2 c1, .slice a2 2 c2, .slice a3 2 c3, .slice a4 2 c4, .slice a5 2 c5, .slice a6 2 c6, .slice a7 2 c7] := sl_cells (us := [.slice a1 2 c1, .slice a2 2 c2, .slice a3 2 c3, .slice a4 2 c4, .slice a5 2 c5, .slice a6 2 c6, .slice a7 2 c7]) (World.alloc_heap_new w7 _) (by unfold maxLen; simp)
  have hk9 : K0 32 w (w7.alloc (.cells #[.slice a1 2 c1, .slice a2 2 c2, .slice a3 2 c3, .slice a4 2 c4, .slice a5 2 c5, .slice a6 2 c6, .slice a7 2 c7] 41)) w.heap.size := ⟨(HE0.out.trans Hx7.out).trans hE9, _, _, HB0.out.ext (Hx7.out.trans hE9)⟩
  have hb9 := HB0.out.ext (Hx7.out.trans hE9)
  have k0 := hk9.res.c0; have k1 := hk9.res.c1; have z0 := hk9.res.fz 0; have z1 := hk9.res.fz 1
  obtain ⟨hb5, hx5⟩ := hk9.fin (Nat.le_refl _) (.slice (some ⟨w.heap.size + 1, 0, none⟩) 2 2) (.slice (some ⟨w7.heap.size, 0, none⟩) 7 7)
  have Hb5 := Lib.hid hb5; have Hx5 := Lib.hid hx5; have HE9 := Lib.hid hE9; have Hn9 := Lib.hid hn9; have Hb9 := Lib.hid hb9
  clear hb5 hx5 hk9 hE9 hn9 hb9
  go_wp2_with fail
  have hd0 := Hb5.out.c0
  have hd1 := Hb5.out.c1
  have hne : w7.heap.size ≠ w.heap.size := by
    have := (HE0.out.trans Hx7.out).size
    have := HB0.out.lt
    have := Hx7.out.size
    omega
  have hp5 := sl_past (HE9.out.sl Hpr.out) Hb9.out (by simp) (by simp) (.slice (some ⟨w.heap.size + 1, 0, none⟩) 2 2) (.slice (some ⟨w7.heap.size, 0, none⟩) 7 7)
  have hn5 := sl_other (sl_other Hn9.out hne 0 (.slice (some ⟨w.heap.size + 1, 0, none⟩) 2 2)) hne 1 (.slice (some ⟨w7.heap.size, 0, none⟩) 7 7)
  have hrp := fun s xs (h : Rd w7 s xs) => rd_past (HE9.out.rd h) Hb9.out (by simp) (by simp) (.slice (some ⟨w.heap.size + 1, 0, none⟩) 2 2) (.slice (some ⟨w7.heap.size, 0, none⟩) 7 7)
  exact bodyPost_ret (v := .agg #[.slice (some ⟨w.heap.size + 1, 0, none⟩) 2 2, .slice (some ⟨w7.heap.size, 0, none⟩) 7 7]) (by simp [results, Tryz.results52, go_sem, hd0, hd1]) rfl ⟨_, [⟨rats [-3, 2], .slice a1 2 c1, rfl⟩, ⟨rats [-6, 4], .slice a2 2 c2, rfl⟩, ⟨rats [2, -1], .slice a3 2 c3, rfl⟩, ⟨rats [-1, 1], .slice a4 2 c4, rfl⟩, ⟨rats [-4, 3], .slice a5 2 c5, rfl⟩, ⟨rats [-7, 5], .slice a6 2 c6, rfl⟩, ⟨rats [1, 0], .slice a7 2 c7, rfl⟩], rfl, ⟨_, _, rfl, hp5, hn5, by
    intro r hr
    simp only [List.mem_cons, List.not_mem_nil, or_false] at hr
    rcases hr with rfl | rfl | rfl | rfl | rfl | rfl | rfl
    · exact hrp _ _ Hr1.out
    · exact hrp _ _ Hr2.out
    · exact hrp _ _ Hr3.out
    · exact hrp _ _ Hr4.out
    · exact hrp _ _ Hr5.out
    · exact hrp _ _ Hr6.out
    · exact hrp _ _ Hr7.out⟩, rfl, Hx5.out⟩
end Go.Proofs.YtaakmdjicocjpaaGreatDoor

namespace Go.Proofs.YtaakmdjicocjpaaGreatDoor
open Go.RowKit Go.Lib
attribute [local go_sem] Oper.semAt_some
/-- The steps of a scale. -/
def stQ (n : Nat) (rs : List Qw) (k : Nat) : List Rat := subZ (((rs[k]?).map Qw.x).getD []) (prevQ n rs k)
def stQs (n : Nat) (rs : List Qw) (k : Nat) : List (List Rat) := (List.range k).map (stQ n rs)
theorem stQs_succ (n : Nat) (rs : List Qw) (k : Nat) : stQs n rs (k + 1) = stQs n rs k ++ [stQ n rs k] := by unfold stQs; rw [List.range_succ, List.map_append]; rfl
def StepR (w : World) (n : Nat) (rs : List Qw) (k : Nat) (u : Value) (wr : World) : Prop := ∃ out : List Qw, QwM wr w.heap.size w.heap.size u out ∧ out.map Qw.x = stQs n rs k ∧ out.length = k ∧ Ext w wr
theorem StepR.more {w W V : World} {o : Obj} {n k : Nat} {rs : List Qw} {v5 v7 u : Value} {out : List Qw} (hE : Ext w W) (h : QwM W w.heap.size w.heap.size v5 out) (hm : out.map Qw.x = stQs n rs k) (hl : out.length = k) (hr : OwnQ W w.heap.size u (stQ n rs k)) 
    (hown : V.ownsRow w.heap.size 41 1 v7 (k + 1) (qwc out ++ [u])) (hgrow : (W.alloc o).grownBy V v5.ownBlock) : StepR w n rs (k + 1) v7 V := by
  subst hl
  have := QwM.more (r := ⟨_, u, rd_one hr.rd⟩) hE h hr hown hgrow
  exact ⟨_, this.1, by rw [List.map_append, hm, stQs_succ]; rfl, by rw [List.length_append]; rfl, this.2⟩
end Go.Proofs.YtaakmdjicocjpaaGreatDoor

namespace Go.Proofs.YtaakmdjicocjpaaGreatDoor
open Go.RowKit Go.Lib
def fifth (k : Int) : List Rat := [((-k : Int) : Rat), (k : Rat)]
theorem maj_list : mulsZ (rats [-1, 1]) (-1) 7 = [fifth (-1), fifth 0, fifth 1, fifth 2, fifth 3, fifth 4, fifth 5] := by decide +kernel
theorem sF_fifth (k : Int) : sF [2, 3] (fifth k) = ((k * 39256168 : Int) : Rat) := by
  unfold fifth
  simp only [sF, lgs.1, lgs.2.1]
  rw [Rat.intCast_mul, Rat.intCast_neg]
  have h1 : ((106365032 : Int) : Rat) = ((67108864 : Int) : Rat) + ((39256168 : Int) : Rat) := by rw [← Rat.intCast_add]; rfl
  rw [h1]
  grind
theorem fifth_sub (k l : Int) : subZ (fifth k) (fifth l) = fifth (k - l) := by
  unfold fifth subZ
  simp only [List.zipWith_cons_cons, List.zipWith_nil_left]
  rw [← Rat.intCast_sub, ← Rat.intCast_sub, show -k - -l = -(k - l) by omega]
theorem fifth_bx {k : Int} (h0 : -100 ≤ k) (h1 : k ≤ 100) : Bx 256 (fifth k) :=
  ⟨-k, 2 * k, rfl, by rw [Rat.intCast_mul, show ((2 : Int) : Rat) = 2 from rfl]; grind, by omega, by omega⟩
theorem lw_fifths (l : List (List Rat)) (h : ∀ x ∈ l, ∃ k : Int, -10 ≤ k ∧ k ≤ 10 ∧ x = fifth k) : Lw [2, 3] 10 l := by
  have hz : zer [(2 : Int), 3].length = fifth 0 := by decide +kernel
  have h2 : ∀ x ∈ zer [(2 : Int), 3].length :: l, ∃ k : Int, -10 ≤ k ∧ k ≤ 10 ∧ x = fifth k := fun x hx => by
    rcases List.mem_cons.1 hx with e | e
    · exact ⟨0, by omega, by omega, by rw [e, hz]⟩
    · exact h x e
  refine ⟨.inl ⟨rfl, rfl⟩, fun x hx => ?_, by omega, by omega, fun x hx => ?_, 0, fun x hx y hy => ?_⟩
  · obtain ⟨k, _, _, rfl⟩ := h x hx
    rfl
  · obtain ⟨k, k0, k1, rfl⟩ := h x hx
    rw [sF_fifth, ← Rat.intCast_neg]
    exact ⟨Rat.intCast_le_intCast.2 (by omega), Rat.intCast_le_intCast.2 (by omega)⟩
  · obtain ⟨k, k0, k1, rfl⟩ := h2 x hx
    obtain ⟨j, j0, j1, rfl⟩ := h2 y hy
    rw [fifth_sub]
    exact .inl ⟨rfl, fifth_bx (by omega) (by omega)⟩
theorem lw_maj : Lw [2, 3] 10 (mulsZ (rats [-1, 1]) (-1) 7) := by
  rw [maj_list]
  refine lw_fifths _ fun x hx => ?_
  simp only [List.mem_cons, List.not_mem_nil, or_false] at hx
  rcases hx with rfl | rfl | rfl | rfl | rfl | rfl | rfl
  · exact ⟨-1, by omega, by omega, rfl⟩
  · exact ⟨0, by omega, by omega, rfl⟩
  · exact ⟨1, by omega, by omega, rfl⟩
  · exact ⟨2, by omega, by omega, rfl⟩
  · exact ⟨3, by omega, by omega, rfl⟩
  · exact ⟨4, by omega, by omega, rfl⟩
  · exact ⟨5, by omega, by omega, rfl⟩
theorem maj_rests : colF [2, 3] [] (mulsZ (rats [-1, 1]) (-1) 7) = [rats [2, -1], rats [-1, 1], rats [-3, 2], rats [-4, 3], rats [-6, 4], rats [-7, 5]] := by decide +kernel
theorem maj_coll : Coll [2, 3] (mulsZ (rats [-1, 1]) (-1) 7) majorQ := by
  have h := coll_prog (N := [rats [-3, 2], rats [-6, 4], rats [2, -1], rats [-1, 1], rats [-4, 3], rats [-7, 5]]) lw_maj (by rw [maj_rests]; decide +kernel) (by decide +kernel)
  have e : majorQ = [rats [-3, 2], rats [-6, 4], rats [2, -1], rats [-1, 1], rats [-4, 3], rats [-7, 5]] ++ [ov ([(2 : Int), 3].length - 1)] := by decide +kernel
  rw [e]
  exact h
/-- The steps of a right scale are short. -/
theorem Wd.step_ft {p : List Int} {rs : List Qw} (h : Wd p (rs.map Qw.x)) : ∀ k, k < rs.length → ∀ q ∈ stQ p.length rs k, Ft 30 q := by
  intro k hk
  have hl : (rs.map Qw.x).length = rs.length := List.length_map ..
  have hf := h.few
  have e : stQ p.length rs k = subZ (nt p (rs.map Qw.x) ((k + 1 : Nat) : Int)) (nt p (rs.map Qw.x) (k : Int)) := by
    rw [h.nt_low (by omega), h.nt_low (by omega)]
    unfold stQ zat prevQ
    rw [List.getElem?_cons_succ, List.getElem?_map]
    cases k with
    | zero => rfl
    | succ j => rw [if_neg (by omega), List.getElem?_cons_succ, List.getElem?_map, Nat.add_sub_cancel]
  rw [e]
  exact (h.nt_sub_quick _ _ (by omega) (by omega) (by omega) (by omega)).1
end Go.Proofs.YtaakmdjicocjpaaGreatDoor
