/- Walks: class.Constant. Walks: class.Count. Walks: class.Classes at a right size. -/
import Derived.Test.YtajdfggocldeaaaGreatDoorPb33
import Derived.Test.YtajdfggocldeaaaGreatDoorPb22
import Derived.Test.YtajdfggocldeaaaGreatDoorPb20
import Derived.Test.YtajdfggocldeaaaGreatDoorPb31
import Derived.Test.YtajdfggocldeaaaGreatDoorPb32
set_option maxRecDepth 100000
set_option maxHeartbeats 1600000
namespace Go.Proofs.YtajdfggocldeaaaGreatDoor
open Go.RowKit Go.Lib Go.Shelf
attribute [local go_sem] Oper.semAt_some
theorem const1_c (b : Nat) (uX uY : Value) (x y : List Rat) (W : World) (hb : W.cell? ⟨b, 0, none⟩ = some uX) (hx : Rd W uX x) (hy : Rd W uY y) (lx : x.length ≤ 1000) (ly : y.length ≤ 1000) :
    Calls Tryz.prog 42 #[uY, .pointer (some ⟨b, 0, none⟩)] W fun e w' => e = .returned (.bool (decide (x = y))) ∧ Ext W w' := by
  have hs := sEq_c uX uY x y W hx hy lx ly
  obtain ⟨aA, cA, rfl, _, _, _⟩ := hx.parts
  obtain ⟨aB, cB, rfl, _, _, _⟩ := hy.parts
  generalize decide (x = y) = dd at *
  generalize x.length = l1 at *
  generalize y.length = l2 at *
  have Hs := Lib.hid hs
  clear hs hx hy
  go_enter Tryz.func42, Tryz.ntmps42
  go_wp2_with fail
  refine Hs.out.mono ?_
  rintro e w1 ⟨rfl, hx1⟩
  have Hx1 := Lib.hid hx1; clear hx1
  go_wp2
  go_ret
  exact ⟨rfl, Hx1.out⟩
/-- A class of a list of classes, with its cells. -/
theorem lqm_row {w : World} {B g : Nat} {v : Value} {p : List Int} {N : List (List Rat)} {ls : List Lq} (h : LqM w B B v ls) (hx : lqx ls = clss p N) (hcell : ∀ j u, (lqc ls)[j]? = some u → w.cell? ⟨g, j, none⟩ = some u) (hpos : ∀ d : Nat, 0 < (cls p N (d : Int)).length) {d : Nat} (hd : d ≤ N.length) :
    ∃ gA c rs1, w.cell? ⟨g, d, none⟩ = some (.slice (some ⟨gA, 0, none⟩) (cls p N (d : Int)).length c) ∧ QwM w B B (.slice (some ⟨gA, 0, none⟩) (cls p N (d : Int)).length c) rs1 ∧ rs1.map Qw.x = cls p N (d : Int) ∧ ∀ i x, (cls p N (d : Int))[i]? = some x → ∃ u, w.cell? ⟨gA, i, none⟩ = some u ∧ OwnQ w B u x := by
  obtain ⟨l, a, c, h1, h2, h3, h4⟩ := lqm_at h hx hd
  have hp := hpos d
  obtain ⟨x0, hx0⟩ : ∃ x0, (cls p N (d : Int))[0]? = some x0 := ⟨_, List.getElem?_eq_getElem hp⟩
  obtain ⟨gA, _, rfl, _, _⟩ := lqm_in h3 h4 hx0
  refine ⟨gA, c, l.rs, hcell d _ (by unfold lqc; rw [List.getElem?_map, h1, ← h2]; rfl), h3, h4, fun i x hx => ?_⟩
  obtain ⟨g', u, e, k1, k2⟩ := lqm_in h3 h4 hx
  injection e with e
  injection e with e1
  subst e1
  exact ⟨u, k1, k2⟩
theorem any_mem {rs : List Qw} {l : List (List Rat)} (h : rs.map Qw.x = l) (x : List Rat) : rs.any (fun r => decide (x = r.x)) = decide (x ∈ l) := by
  rw [← h, Bool.eq_iff_iff, List.any_eq_true, decide_eq_true_iff, List.mem_map]
  constructor
  · rintro ⟨r, hr, e⟩
    exact ⟨r, hr, (of_decide_eq_true e).symm⟩
  · rintro ⟨r, hr, e⟩
    exact ⟨r, hr, decide_eq_true e.symm⟩
/-- The box of a size. -/
def BoxX (w : World) (b : Nat) (u : Value) : Prop := w.heap[b]? = some (.cells #[u] 28 (0, 0))
theorem BoxX.c0 {w : World} {b : Nat} {u : Value} (h : BoxX w b u) : w.cell? ⟨b, 0, none⟩ = some u := by unfold World.cell?; dsimp only; rw [h]; rfl
theorem BoxX.made (w : World) (z u : Value) : BoxX ((w.alloc (.cells #[z] 28)).setCell ⟨w.heap.size, 0, none⟩ u) w.heap.size u := heap_setCell_same _ w.heap.size 0 _ _ u (World.alloc_heap_new w _)
theorem BoxX.lt {w : World} {b : Nat} {u : Value} (h : BoxX w b u) : b < w.heap.size := (Array.getElem?_eq_some_iff.1 h).1
/-- What the region of a clash keeps. -/
def KpC (w w' : World) (b B : Nat) (u : Value) (x : List Rat) (c : Nat) : Prop := Ext w w' ∧ BoxX w' b u ∧ OwnQ w' B u x ∧ ∃ r0 r1 r2 r3, Box4 50 w' c r0 r1 r2 r3
section
variable {w w' w2 : World} {b c B : Nat} {u : Value} {x : List Rat}
theorem KpC.ext (h : KpC w w' b B u x c) (hx : Ext w' w2) : KpC w w2 b B u x c := by
  obtain ⟨h1, h2, h4, r0, r1, r2, r3, h3⟩ := h
  exact ⟨h1.trans hx, hx.heap h2, hx.ownQ h4, r0, r1, r2, r3, h3.ext hx⟩
theorem KpC.put (h : KpC w w' b B u x c) (hc : w.heap.size ≤ c) (hne : b ≠ c) (hB : c < B) (u' v' x' y' : Value) : KpC w ((((w'.setCell ⟨c, 0, none⟩ u').setCell ⟨c, 1, none⟩ v').setCell ⟨c, 2, none⟩ x').setCell ⟨c, 3, none⟩ y') b B u x c := by
  obtain ⟨h1, h2, h4, r0, r1, r2, r3, h3⟩ := h
  refine ⟨h1.put4 hc _ _ _ _, ?_, h4.put4 hB _ _ _ _, u', v', x', y', h3.put _ _ _ _⟩
  unfold BoxX at *
  rw [heap_setCell_other _ ⟨c, 3, none⟩ b _ hne, heap_setCell_other _ ⟨c, 2, none⟩ b _ hne, heap_setCell_other _ ⟨c, 1, none⟩ b _ hne, heap_setCell_other _ ⟨c, 0, none⟩ b _ hne]
  exact h2
theorem KpC.fin (h : KpC w w' b B u x c) (hc : w.heap.size ≤ c) (hB : c < B) (u' v' x' y' : Value) : Box4 50 ((((w'.setCell ⟨c, 0, none⟩ u').setCell ⟨c, 1, none⟩ v').setCell ⟨c, 2, none⟩ x').setCell ⟨c, 3, none⟩ y') c u' v' x' y' ∧ Ext w ((((w'.setCell ⟨c, 0, none⟩ u').setCell ⟨c, 1, none⟩ v').setCell ⟨c, 2, none⟩ x').setCell ⟨c, 3, none⟩ y') ∧ OwnQ ((((w'.setCell ⟨c, 0, none⟩ u').setCell ⟨c, 1, none⟩ v').setCell ⟨c, 2, none⟩ x').setCell ⟨c, 3, none⟩ y') B u x := by
  obtain ⟨h1, h2, h4, r0, r1, r2, r3, h3⟩ := h
  exact ⟨h3.put _ _ _ _, h1.put4 hc _ _ _ _, h4.put4 hB _ _ _ _⟩
theorem KpC.all (h : KpC w w' b B u x c) : KpC w w' b B u x c ∧ w'.cell? ⟨b, 0, none⟩ = some u ∧ w'.cell? ⟨c, 0, none⟩ = some (valAt w' c 0) ∧ w'.cell? ⟨c, 1, none⟩ = some (valAt w' c 1) ∧ w'.cell? ⟨c, 2, none⟩ = some (valAt w' c 2) ∧ w'.cell? ⟨c, 3, none⟩ = some (valAt w' c 3) ∧ w'.frozen? ⟨c, 0, none⟩ = false ∧ w'.frozen? ⟨c, 1, none⟩ = false ∧ w'.frozen? ⟨c, 2, none⟩ = false ∧ w'.frozen? ⟨c, 3, none⟩ = false := by
  refine ⟨h, h.2.1.c0, ?_⟩
  obtain ⟨h1, h2, h4, r0, r1, r2, r3, h3⟩ := h
  unfold valAt
  rw [h3.c0, h3.c1, h3.c2, h3.c3]
  exact ⟨rfl, rfl, rfl, rfl, h3.fz 0, h3.fz 1, h3.fz 2, h3.fz 3⟩
end
theorem constant_c (v : Value) (p : List Int) (rs : List Qw) (w : World) (he : Env w) (hv : ScV w v p rs) (h : Wc p (rs.map Qw.x)) :
    Calls Tryz.prog 16 #[v] w fun e w' => CstE p (rs.map Qw.x) w.heap.size e w' ∧ Ext w w' := by
  have hop := fun W (hE : Ext w W) => open_c v p rs W (he.ext hE) (hv.ext hE) h
  have hL : (rs.map Qw.x).length = rs.length := List.length_map ..
  have hfew := h.wd.few
  have hpos := h.wd.pos
  rw [hL] at hfew hpos
  have hcp := fun (d : Nat) => h.cls_pos (d : Int)
  have hat := fun W B g vv ls (hq : LqM W B B vv ls) (hx : lqx ls = clss p (rs.map Qw.x)) hcell (d : Nat) (hd : d ≤ rs.length) => lqm_row (g := g) hq hx hcell hcp (d := d) (by rw [hL]; exact hd)
  have hcs : (clss p (rs.map Qw.x)).length = rs.length + 1 := by rw [clss_len, hL]
  have hcl := fun (d : Nat) => (cls_len (p := p) (N := rs.map Qw.x) (d := (d : Int)))
  rw [hL] at hcl
  have hxl := fun (d : Nat) x (hx : x ∈ cls p (rs.map Qw.x) (d : Int)) => h.cls_lt hx
  have hp1 : 1 ≤ p.length ∧ p.length ≤ 100 := by rcases h.wd.pr with ⟨e, _⟩ | ⟨e, _⟩ <;> rw [e] <;> decide
  have hle : (rs.map Qw.x).length = rs.length := hL
  obtain ⟨vp, vn, rfl, hp, hs, hmr⟩ := hv
  obtain ⟨ap, cp, rfl, _, _, _⟩ := hp.parts
  obtain ⟨an, cn, rfl, _, _, _⟩ := hs.parts
  rw [i64s_length] at *
  rw [qwc_length] at *
  generalize rs.length = n at *
  have hE0 : Ext w ((w.alloc (.cells #[.slice ap p.length cp, .slice an n cn] 35)).alloc (.cells #[.int .i64 0, .int .i64 0, .slice none 0 0, .slice none 0 0] 50)) := ((Ext.refl w).alloc _).alloc _
  have b1 := (BoxT.new 35 w (.slice ap p.length cp) (.slice an n cn)).ext ((Ext.refl _).alloc (.cells #[.int .i64 0, .int .i64 0, .slice none 0 0, .slice none 0 0] 50))
  have b2 := Box4.new 50 (w.alloc (.cells #[.slice ap p.length cp, .slice an n cn] 35)) (.int .i64 0) (.int .i64 0) (.slice none 0 0) (.slice none 0 0)
  rw [World.size_alloc] at b2
  have Hop := Lib.hid hop; have Hat := Lib.hid hat; have HE0 := Lib.hid hE0; have Hcs := Lib.hid hcs; have Hcp := Lib.hid hcp; have Hcl := Lib.hid hcl; have Hxl := Lib.hid hxl; have B2 := Lib.hid b2; have Hle := Lib.hid hle; have Hp1 := Lib.hid hp1
  have q0 := b1.c0
  have q1 := b1.c1
  clear hop hat hE0 hcs hcp hcl hxl b1 b2 hp hs hmr he h hL hle hp1
  go_enter Tryz.func16, Tryz.ntmps16
  go_wp2_with fail
  refine (Hop.out _ HE0.out).mono ?_
  rintro e w2 ⟨u, v4, ls, rfl, hu, hq, hm, hx2⟩
  have hll : ls.length = n + 1 := by
    have := congrArg List.length hm
    unfold lqx at this
    rwa [List.length_map, Hcs.out] at this
  rw [World.size_alloc, World.size_alloc] at hq
  have hq1 := hq.1
  obtain ⟨g, cap, rfl, hcell⟩ := own_slice hq1 (by omega)
  rw [hll] at hq1 ⊢
  have hx := HE0.out.trans hx2
  have b3 := B2.out.ext hx2
  have hszc : w.heap.size + 1 + 1 ≤ w2.heap.size := by have := hx2.size; rwa [World.size_alloc, World.size_alloc] at this
  have hcc := Hat.out w2 (w.heap.size + 1 + 1) g _ ls hq hm hcell
  obtain ⟨bv, uv1, uv2, uv3, nts, rfl, hrest⟩ := hu
  have Hx := Lib.hid hx; have Hcc := Lib.hid hcc; have B3 := Lib.hid b3; have Hszc := Lib.hid hszc
  clear hx hcc hq hm hrest hx2 q0 q1 hq1 hll hcell b3 hszc
  go_wp2_with fail
  go_loopw [23] (fun v23 wr => ∃ d : Nat, v23 = .int .i64 (d : Int) ∧ d ≤ n + 1 ∧ (∀ d' u' : Nat, d' < d → d' < u' → u' ≤ n → Dj p (rs.map Qw.x) d' u') ∧ Ext w2 wr) (fun v23 _ => n + 2 - (intOf v23).toNat)
  case atStart => exact ⟨0, rfl, Nat.zero_le _, fun _ _ h => absurd h (Nat.not_lt_zero _), Ext.refl _⟩
  case round =>
    obtain ⟨d, rfl, hd, hbef, hE⟩ := hrel
    have Hbef := Lib.hid hbef; clear hbef
    by_cases hdn : d < n + 1
    · have hik : (d : Int) < ((n + 1 : Nat) : Int) := by omega
      have hik' : (d : Int) < (n : Int) + 1 := by omega
      have i5 : (0 : Int) ≤ (d : Int) := by omega
      have e2 : IntKind.i64.wrap ((d : Int) + 1) = ((d + 1 : Nat) : Int) := by rw [IntWalk.i64_in _ (by omega)]; omega
      obtain ⟨gA, cA, rsA, kA, _, _, lA⟩ := Hcc.out d (by omega)
      have hz1 := Hcp.out d
      have hl1 := Hcl.out d
      have hat : ∀ i, i < (cls p (rs.map Qw.x) (d : Int)).length → ∃ x, (cls p (rs.map Qw.x) (d : Int))[i]? = some x := fun i hi => ⟨_, List.getElem?_eq_getElem hi⟩
      have htk : ∀ i x (u : Nat), (cls p (rs.map Qw.x) (d : Int))[i]? = some x → (∀ y ∈ (cls p (rs.map Qw.x) (d : Int)).take i, y ∉ cls p (rs.map Qw.x) (u : Int)) → x ∉ cls p (rs.map Qw.x) (u : Int) → ∀ y ∈ (cls p (rs.map Qw.x) (d : Int)).take (i + 1), y ∉ cls p (rs.map Qw.x) (u : Int) := fun i x u hx ht hn y hy => by
        rw [List.take_add_one, hx] at hy
        rcases List.mem_append.1 hy with g | g
        · exact ht y g
        · have : y = x := by simpa using g
          rw [this]; exact hn
      have hdj : ∀ (u : Nat) i, (cls p (rs.map Qw.x) (d : Int)).length ≤ i → (∀ y ∈ (cls p (rs.map Qw.x) (d : Int)).take i, y ∉ cls p (rs.map Qw.x) (u : Int)) → Dj p (rs.map Qw.x) d u := fun u i hi ht y hy => ht y (by rw [List.take_of_length_le hi]; exact hy)
      have hxl := Hxl.out d
      generalize hzz : (cls p (rs.map Qw.x) (d : Int)).length = z1 at *
      have HE := Lib.hid hE; have KA := Lib.hid kA; have LA := Lib.hid lA; have HAt := Lib.hid hat; have Htk := Lib.hid htk; have Hdj := Lib.hid hdj; have HXl := Lib.hid hxl; have Hzz := Lib.hid hzz
      clear hE kA lA hat htk hdj hxl hzz
      go_wp2_with fail
      obtain ⟨wa, hwa⟩ : ∃ wa, wa = wr := ⟨_, rfl⟩
      subst hwa
      go_loopw [8] (fun v8 wr => ∃ u : Nat, v8 = .int .i64 (u : Int) ∧ d < u ∧ u ≤ n + 1 ∧ (∀ u' : Nat, d < u' → u' < u → Dj p (rs.map Qw.x) d u') ∧ Ext w2 wr) (fun v8 _ => n + 2 - (intOf v8).toNat)
      case atStart => exact ⟨d + 1, by go_num, by omega, by omega, fun u' h1 h2 => by omega, HE.out⟩
      case round =>
        obtain ⟨u, rfl, hdu, hu, hrow, hE2⟩ := hrel
        have Hrow := Lib.hid hrow; clear hrow
        by_cases hun : u < n + 1
        · have huk : (u : Int) < ((n + 1 : Nat) : Int) := by omega
          have huk' : (u : Int) < (n : Int) + 1 := by omega
          have i6 : (0 : Int) ≤ (u : Int) := by omega
          obtain ⟨gB, cB, rsB, kB, hqB, hmB, _⟩ := Hcc.out u (by omega)
          have hlB := Hcl.out u
          have hxB := Hxl.out u
          have hrB : rsB.length ≤ 10 := by rw [← List.length_map (f := Qw.x), hmB]; omega
          have kA1 := hE2.cell KA.out
          have HE2 := Lib.hid hE2; have KB := Lib.hid kB; have HqB := Lib.hid hqB; have HmB := Lib.hid hmB; have HxB := Lib.hid hxB; have HrB := Lib.hid hrB
          clear hE2 kB hqB hmB hxB hrB
          generalize (cls p (rs.map Qw.x) (u : Int)).length = z2 at *
          go_wp2_with fail
          obtain ⟨wb, hwb⟩ : ∃ wb, wb = wr := ⟨_, rfl⟩
          subst hwb
          clear kA1
          go_loopw [39] (fun v39 wr => ∃ i : Nat, v39 = .int .i64 (i : Int) ∧ i ≤ z1 ∧ (∀ y ∈ (cls p (rs.map Qw.x) (d : Int)).take i, y ∉ cls p (rs.map Qw.x) (u : Int)) ∧ Ext w2 wr) (fun v39 _ => z1 + 1 - (intOf v39).toNat)
          case atStart => exact ⟨0, rfl, Nat.zero_le _, fun y hy => by simp at hy, HE2.out⟩
          case round =>
            obtain ⟨i, rfl, hi, htk, hE3⟩ := hrel
            have HTk := Lib.hid htk; clear htk
            by_cases hiz : i < z1
            · have hiz2 : (i : Int) < (z1 : Int) := by omega
              have i7 : (0 : Int) ≤ (i : Int) := by omega
              obtain ⟨x, hx⟩ := HAt.out i hiz
              obtain ⟨uX, kX, oX⟩ := LA.out i x hx
              have hlx := HXl.out x (List.mem_of_getElem? hx)
              obtain ⟨aX, cX, rfl⟩ := own_shape oX
              have kX1 := hE3.cell kX
              have hb0 : BoxX (wr.alloc (.cells #[.slice aX x.length cX] 28)) wr.heap.size (.slice aX x.length cX) := World.alloc_heap_new wr _
              have hE4 : Ext w2 (wr.alloc (.cells #[.slice aX x.length cX] 28)) := hE3.alloc _
              have kB1 := hE4.cell KB.out
              have hbn : w2.heap.size ≤ wr.heap.size := hE3.size
              have hcon := containsQ_c 42 #[.pointer (some ⟨wr.heap.size, 0, none⟩)] (.slice (some ⟨gB, 0, none⟩) z2 cB) rsB (fun y => decide (x = y)) _ (hE4.sl (sl_own HqB.out.1)) (by have := HrB.out; omega) (fun _ _ => rfl) (fun W hW r hr => const1_c wr.heap.size _ r.u x r.x W (hW.cell hb0.c0) ((hE4.trans hW).ownQ oX).rd ((hE4.trans hW).ownQ (HqB.out.2 r hr)).rd (by have := Hp1.out; omega) (by rw [HxB.out _ (by rw [← HmB.out]; exact List.mem_map_of_mem hr)]; have := Hp1.out; omega))
              rw [any_mem HmB.out] at hcon
              have hcl := fun W (hk : KpC w W wr.heap.size (w.heap.size + 1 + 1) (.slice aX x.length cX) x (w.heap.size + 1)) => show Calls Tryz.prog 43 #[.slice aX x.length cX] W fun e w' => ∃ a c, e = .returned (.slice a x.length c) ∧ OwnQ w' (w.heap.size + 1 + 1) (.slice a x.length c) x ∧ Ext W w' from
                (cloneQ_c _ x W hk.2.2.1.rd (by have := Hp1.out; omega) (by intro e; rw [e] at hlx; have := Hp1.out; simp at hlx; omega)).mono fun e w' ⟨u, h1, h2, h3⟩ => by
                  obtain ⟨a, c, rfl⟩ := own_shape h2
                  exact ⟨a, c, h1, h2.mono (by have := hk.2.1.lt; have := Hszc.out; omega), h3⟩
              generalize hb : wr.heap.size = bX at *
              have HX := Lib.hid hx; have OX := Lib.hid oX; have HE3 := Lib.hid hE3; have Hb0 := Lib.hid hb0; have HE4 := Lib.hid hE4; have Hbn := Lib.hid hbn; have Hlx := Lib.hid hlx; have Hcon := Lib.hid hcon; have Hclo := Lib.hid hcl
              clear hx oX hE3 hb0 hE4 kX hbn hlx hcon hcl
              generalize hlxx : x.length = lx at *
              have Hlxx := Lib.hid hlxx; clear hlxx
              generalize hdd : decide (x ∈ cls p (rs.map Qw.x) (u : Int)) = bb at *
              have Hdd := Lib.hid hdd; clear hdd
              go_wp2_with fail
              refine Hcon.out.mono ?_
              rintro e w5 ⟨rfl, hx5⟩
              have HE5 := Lib.hid (HE4.out.trans hx5)
              have Hb5 := Lib.hid (hx5.heap Hb0.out)
              clear hx5
              generalize wr.alloc (.cells #[.slice aX lx cX] 28) = W4 at *
              cases bb with
              | true =>
                have hk : KpC w w5 bX (w.heap.size + 1 + 1) (.slice aX lx cX) x (w.heap.size + 1) := ⟨Hx.out.trans HE5.out, Hb5.out, HE5.out.ownQ OX.out, _, _, _, _, B3.out.ext HE5.out⟩
                have hne : bX ≠ w.heap.size + 1 := by have := Hbn.out; have := Hszc.out; omega
                have Hk := Lib.hid hk; clear hk
                clear kB1 kX1
                go_wp2_with fail
                go_region_held3 (fun w' => KpC w w' bX (w.heap.size + 1 + 1) (.slice aX lx cX) x (w.heap.size + 1) ∧ w'.cell? ⟨bX, 0, none⟩ = some (.slice aX lx cX) ∧ w'.cell? ⟨w.heap.size + 1, 0, none⟩ = some (valAt w' (w.heap.size + 1) 0) ∧ w'.cell? ⟨w.heap.size + 1, 1, none⟩ = some (valAt w' (w.heap.size + 1) 1) ∧ w'.cell? ⟨w.heap.size + 1, 2, none⟩ = some (valAt w' (w.heap.size + 1) 2) ∧ w'.cell? ⟨w.heap.size + 1, 3, none⟩ = some (valAt w' (w.heap.size + 1) 3) ∧ w'.frozen? ⟨w.heap.size + 1, 0, none⟩ = false ∧ w'.frozen? ⟨w.heap.size + 1, 1, none⟩ = false ∧ w'.frozen? ⟨w.heap.size + 1, 2, none⟩ = false ∧ w'.frozen? ⟨w.heap.size + 1, 3, none⟩ = false)
                  (first | exact (KpC.ext Hk.out ((Ext.refl w5).drew)).all | exact hkk.all | exact (KpC.put (And.left (by assumption)) (by omega) (by assumption) (by omega) _ _ _ _).all)
                  (first | (go_at_call 43; refine (Hclo.out _ (And.left (by assumption))).mono ?_; rintro e9 V4 ⟨a9, c9, rfl, ho9, hxa⟩; have hkk := KpC.ext (And.left (by assumption)) hxa; have Ho9 := Lib.hid ho9; clear ho9))
                all_goals
                  obtain ⟨hb9, hfx, hox⟩ := hkk.fin (by omega) (by omega) (.int .i64 (d : Int)) (.int .i64 (u : Int)) (.slice aX lx cX) (.slice a9 lx c9)
                  have ho9 := Ho9.out.put4 (c := w.heap.size + 1) (by omega) (.int .i64 (d : Int)) (.int .i64 (u : Int)) (.slice aX lx cX) (.slice a9 lx c9)
                  have Hfx := Lib.hid hfx; have Hox := Lib.hid hox; have Ho9b := Lib.hid ho9
                  clear hfx hox ho9 hxa hkk
                  generalize (((V4.setCell ⟨w.heap.size + 1, 0, none⟩ (.int .i64 (d : Int))).setCell ⟨w.heap.size + 1, 1, none⟩ (.int .i64 (u : Int))).setCell ⟨w.heap.size + 1, 2, none⟩ (.slice aX lx cX)).setCell ⟨w.heap.size + 1, 3, none⟩ (.slice a9 lx c9) = W9 at *
                  have d0 := hb9.c0
                  have d1 := hb9.c1
                  have d2 := hb9.c2
                  have d3 := hb9.c3
                  go_wp2_with fail
                  exact bodyPost_ret (v := .tuple #[.agg #[.int .i64 (d : Int), .int .i64 (u : Int), .slice aX lx cX, .slice a9 lx c9], .bool false, .int .i64 0]) (by simp [results, Tryz.results16, go_sem, d0, d1, d2, d3]) rfl ⟨⟨_, _, rfl, .inr ⟨rfl, d, u, i, x, ⟨hdu, by rw [Hle.out]; omega, fun d' u' h1 h2 h3 => Hbef.out d' u' h1 h2 (by have := Hle.out; omega), fun u' h1 h2 => Hrow.out u' h1 h2, HTk.out, HX.out, of_decide_eq_true Hdd.out⟩, _, _, rfl, Hox.out.mono (by omega), Ho9b.out.mono (by omega)⟩⟩, Hfx.out⟩
              | false =>
                go_wp2_with fail
                go_roundw
                case rel => first | exact ⟨i + 1, by go_num, by omega, Htk.out i x u HX.out HTk.out (of_decide_eq_false Hdd.out), HE5.out⟩ | ((repeat apply Exists.intro); exact ⟨⟨i + 1, by go_num, by omega, Htk.out i x u HX.out HTk.out (of_decide_eq_false Hdd.out), HE5.out⟩, rfl⟩)
                case measure => simp [intOf]; omega
            · obtain rfl : i = z1 := by omega
              have hiz2 : ¬ (i : Int) < (i : Int) := by omega
              have HE3 := Lib.hid hE3; clear hE3
              go_wp2_with fail
              go_roundw
              case rel => exact ⟨u + 1, by go_num, by omega, by omega, fun u' h1 h2 => by
                rcases Nat.lt_or_ge u' u with g | g
                · exact Hrow.out u' h1 g
                · obtain rfl : u' = u := by omega
                  exact Hdj.out _ _ (Nat.le_refl _) HTk.out, HE3.out⟩
              case measure => simp [intOf]; omega
        · obtain rfl : u = n + 1 := by omega
          have huk : ¬ ((n + 1 : Nat) : Int) < ((n + 1 : Nat) : Int) := by omega
          have HE2 := Lib.hid hE2; clear hE2
          go_wp2_with fail
          go_roundw
          case rel => exact ⟨d + 1, by go_num, by omega, fun d' u' h1 h2 h3 => by
            rcases Nat.lt_or_ge d' d with g | g
            · exact Hbef.out d' u' g h2 h3
            · obtain rfl : d' = d := by omega
              exact Hrow.out u' h2 (by omega), HE2.out⟩
          case measure => simp [intOf]; omega
    · obtain rfl : d = n + 1 := by omega
      have hik : ¬ ((n + 1 : Nat) : Int) < ((n + 1 : Nat) : Int) := by omega
      have b6 := B3.out.ext hE
      have hE6 := Hx.out.trans hE
      have c0 := b6.c0
      have c1 := b6.c1
      have c2 := b6.c2
      have c3 := b6.c3
      have z0 := b6.fz 0
      have z1 := b6.fz 1
      have z2 := b6.fz 2
      have z3 := b6.fz 3
      have B6 := Lib.hid b6; have HE6 := Lib.hid hE6
      clear b6 hE6 hE
      have hp4 := B6.out.put (.int .i64 0) (.int .i64 0) (.slice none 0 0) (.slice none 0 0)
      have d0 := hp4.c0
      have d1 := hp4.c1
      have d2 := hp4.c2
      have d3 := hp4.c3
      go_wp2_with fail
      exact bodyPost_ret (v := .tuple #[csh0, .bool true, .int .i64 0]) (by simp [results, Tryz.results16, go_sem, d0, d1, d2, d3, csh0]) rfl ⟨⟨_, _, rfl, .inl ⟨rfl, rfl, fun d' u' h1 h2 => Hbef.out d' u' (by have := Hle.out; omega) h1 (by have := Hle.out; omega)⟩⟩, HE6.out.put4 (by omega) _ _ _ _⟩
end Go.Proofs.YtajdfggocldeaaaGreatDoor

namespace Go.Proofs.YtajdfggocldeaaaGreatDoor
open Go.RowKit Go.Lib Go.Shelf
attribute [local go_sem] Oper.semAt_some
theorem BoxX.ext {w w' : World} {b : Nat} {u : Value} (h : BoxX w b u) (hx : Ext w w') : BoxX w' b u := hx.heap h
/-- How often a size is in a class. -/
def cnt (p : List Int) (N : List (List Rat)) (d : Int) (x : List Rat) : Nat := ((dfs p N d).filter fun y => decide (x = y)).length
theorem cnt_le (p : List Int) (N : List (List Rat)) (d : Int) (x : List Rat) : cnt p N d x ≤ N.length := by
  have := List.length_filter_le (fun y => decide (x = y)) (dfs p N d)
  rw [dfs_len] at this
  exact this
theorem cnt_of {p : List Int} {N : List (List Rat)} {d : Int} {rs : List Qw} (h : rs.map Qw.x = dfs p N d) (x : List Rat) : (rs.filter fun r => !(!decide (x = r.x))).length = cnt p N d x := by
  unfold cnt
  rw [← h, List.filter_map, List.length_map]
  congr 2
  funext r
  simp
theorem count1_c (b : Nat) (uX uY : Value) (x y : List Rat) (W : World) (hb : W.cell? ⟨b, 0, none⟩ = some uX) (hx : Rd W uX x) (hy : Rd W uY y) (lx : x.length ≤ 1000) (ly : y.length ≤ 1000) :
    Calls Tryz.prog 32 #[uY, .pointer (some ⟨b, 0, none⟩)] W fun e w' => e = .returned (.bool (!decide (x = y))) ∧ Ext W w' := by
  have hs := sEq_c uX uY x y W hx hy lx ly
  obtain ⟨aA, cA, rfl, _, _, _⟩ := hx.parts
  obtain ⟨aB, cB, rfl, _, _, _⟩ := hy.parts
  generalize decide (x = y) = dd at *
  generalize x.length = l1 at *
  generalize y.length = l2 at *
  have Hs := Lib.hid hs
  clear hs hx hy
  go_enter Tryz.func32, Tryz.ntmps32
  go_wp2_with fail
  refine Hs.out.mono ?_
  rintro e w1 ⟨rfl, hx1⟩
  have Hx1 := Lib.hid hx1; clear hx1
  go_wp2
  go_ret
  exact ⟨rfl, Hx1.out⟩
theorem count_c (v vx : Value) (p : List Int) (rs : List Qw) (x : List Rat) (d : Nat) (w : World) (he : Env w) (hv : ScV w v p rs) (h : Wc p (rs.map Qw.x)) (hd : d ≤ rs.length) (hx : Rd w vx x) (hxl : x.length = p.length) (hxf : ∀ r ∈ x, Ft 30 r) :
    Calls Tryz.prog 8 #[v, .int .i64 (d : Int), vx] w fun e w' => e = .returned (.tuple #[.int .i64 (cnt p (rs.map Qw.x) (d : Int) x : Int), .int .i64 0]) ∧ Ext w w' := by
  have hcl := fun W (hE : Ext w W) => classed_c v p rs d W (he.ext hE) (hv.ext hE) h hd
  have hdf := fun u W (hE : Ext w W) (hu : Vw W u p rs) => diffs_c u p rs d W (he.ext hE) hu h hd
  have hpe : primesErr p = 0 ∧ p.length ≤ 100 := by rcases h.wd.pr with ⟨e, _⟩ | ⟨e, _⟩ <;> rw [e] <;> decide
  have hL : (rs.map Qw.x).length = rs.length := List.length_map ..
  have hfew := h.wd.few
  have hpos := h.wd.pos
  rw [hL] at hfew hpos
  have hil : ∀ y ∈ dfs p (rs.map Qw.x) (d : Int), y.length = p.length := fun y hy => by
    unfold dfs at hy
    obtain ⟨i, _, rfl⟩ := List.mem_map.1 hy
    exact h.ivlen _ _
  have hdl : (dfs p (rs.map Qw.x) (d : Int)).length = rs.length := by rw [dfs_len, hL]
  obtain ⟨vp, vn, rfl, hp, hs, hmr⟩ := hv
  have hck := fun W (hE : Ext w W) => sCheck_c vp vx p x W (he.ext hE) (hE.sl hp) (hE.rd hx) hpe.1 hxl hxf
  obtain ⟨ap, cp, rfl, _, _, _⟩ := hp.parts
  obtain ⟨an, cn, rfl, _, _, _⟩ := hs.parts
  obtain ⟨ax, cx, rfl, _, _, _⟩ := hx.parts
  rw [i64s_length] at *
  rw [qwc_length] at *
  have hcnt := fun (out : List Qw) (hm : out.map Qw.x = dfs p (rs.map Qw.x) (d : Int)) => cnt_of hm x
  generalize rs.length = n at *
  generalize hlx : x.length = lx at *
  have hE0 : Ext w (w.alloc (.cells #[.slice ap p.length cp, .slice an n cn] 35)) := (Ext.refl w).alloc _
  have hE1 := hE0.alloc (.cells #[.slice ax lx cx] 28)
  have b1 := (BoxT.new 35 w (.slice ap p.length cp) (.slice an n cn)).ext ((Ext.refl _).alloc (.cells #[.slice ax lx cx] 28))
  have b2 : BoxX ((w.alloc (.cells #[.slice ap p.length cp, .slice an n cn] 35)).alloc (.cells #[.slice ax lx cx] 28)) (w.heap.size + 1) (.slice ax lx cx) := by
    have : (w.alloc (.cells #[.slice ap p.length cp, .slice an n cn] 35)).heap.size = w.heap.size + 1 := World.size_alloc ..
    rw [← this]
    exact World.alloc_heap_new _ _
  have q0 := b1.c0
  have q1 := b1.c1
  have q2 := b2.c0
  have Hcl := Lib.hid hcl; have Hdf := Lib.hid hdf; have Hck := Lib.hid hck; have HE1 := Lib.hid hE1; have B1 := Lib.hid b1; have B2 := Lib.hid b2; have Hx := Lib.hid hx; have Hcnt := Lib.hid hcnt; have Hil := Lib.hid hil; have Hdl := Lib.hid hdl; have Hlx := Lib.hid hlx; have Hxl := Lib.hid hxl; have Hpl := Lib.hid hpe.2
  clear hcl hdf hck hE0 hE1 b1 b2 hp hs hmr he h hx hcnt hil hdl hlx hxl hpe hL
  go_enter Tryz.func8, Tryz.ntmps8
  go_wp2_with fail
  refine (Hcl.out _ HE1.out).mono ?_
  rintro e w2 ⟨u, rfl, hu, hx2⟩
  have q0 := (B1.out.ext hx2).c0
  have q2 := (B2.out.ext hx2).c0
  have hE2 := HE1.out.trans hx2
  have hdf := fun W (hE : Ext w2 W) => Hdf.out u W (hE2.trans hE) (hu.ext hE)
  have hck := Hck.out w2 hE2
  obtain ⟨b, v1, v2, v3, nts, rfl, hrest⟩ := hu
  have Hdf2 := Lib.hid hdf; have Hck2 := Lib.hid hck; have HE2 := Lib.hid hE2; have B22 := Lib.hid (B2.out.ext hx2)
  clear hdf hck hE2 hrest hx2
  go_wp2_with fail
  refine Hck2.out.mono ?_
  rintro e w3 ⟨rfl, hx3⟩
  have hd3 := Hdf2.out w3 hx3
  have b3 := B22.out.ext hx3
  have Hd3 := Lib.hid hd3; have HE3 := Lib.hid (HE2.out.trans hx3); have B3 := Lib.hid b3
  clear hd3 hx3 b3 q0 q2
  go_wp2_with fail
  refine Hd3.out.mono ?_
  rintro e w4 ⟨v4, out, rfl, hq, hm, hx4⟩
  have hol : out.length = n := by
    have := congrArg List.length hm
    rwa [List.length_map, Hdl.out] at this
  obtain ⟨g, cap, rfl, _⟩ := own_slice hq.1 (by omega)
  have hdel := deleteQ_c (W := w4) (del := fun y => !decide (x = y)) 32 #[.pointer (some ⟨w.heap.size + 1, 0, none⟩)] hq (by omega) (fun _ _ => rfl) (fun W' hg r hr => by
    have hne : some (w.heap.size + 1) ≠ some g := by
      intro e
      injection e with e
      have h1 := (World.ownsRow.lt hq.1 g rfl).1
      have h2 := B3.out.lt
      omega
    have hlt : w.heap.size + 1 < w4.heap.size := Nat.lt_of_lt_of_le B3.out.lt hx4.size
    have hb4 := (hg.block _ hlt hne).trans (B3.out.ext hx4)
    have hEE : Ext w W' := ((HE3.out.trans hx4).grown hg fun k hk => by cases hk; exact Nat.le_trans HE3.out.size (World.ownsRow.lt hq.1 g rfl).1)
    exact count1_c (w.heap.size + 1) (.slice ax lx cx) r.u x r.x W' (BoxX.c0 hb4) (hEE.rd Hx.out) (OwnQ.rd (World.ownsRow.kept (hq.2 r hr) hg (own_ne (hq.2 r hr) hq.1 (by decide)))) (by rw [Hlx.out, Hxl.out]; have := Hpl.out; omega) (by rw [Hil.out r.x (by rw [← hm]; exact List.mem_map_of_mem hr)]; have := Hpl.out; omega))
  rw [Hcnt.out out hm, hol] at hdel
  have hfin : ∀ W', w4.grownBy W' (some g) → Ext w W' := fun W' hg => (HE3.out.trans hx4).grown hg fun k hk => by cases hk; exact Nat.le_trans HE3.out.size (World.ownsRow.lt hq.1 g rfl).1
  rw [hol]
  have Hdel := Lib.hid hdel; have Hfin := Lib.hid hfin
  clear hdel hfin hq hm hol hx4
  go_wp2_with fail
  refine Hdel.out.mono ?_
  rintro e w5 ⟨c5, rfl, hg5⟩
  have Hx5 := Lib.hid (Hfin.out w5 hg5)
  clear hg5
  go_wp2_with fail
  exact bodyPost_ret (v := .tuple #[.int .i64 (cnt p (rs.map Qw.x) (d : Int) x : Int), .int .i64 0]) (by simp [results, Tryz.results8, go_sem]) rfl ⟨rfl, Hx5.out⟩
end Go.Proofs.YtajdfggocldeaaaGreatDoor

namespace Go.Proofs.YtajdfggocldeaaaGreatDoor
open Go.RowKit Go.Lib Go.Shelf
attribute [local go_sem] Oper.semAt_some
theorem classes1_c (b : Nat) (uX uY : Value) (x y : List Rat) (W : World) (hb : W.cell? ⟨b, 0, none⟩ = some uX) (hx : Rd W uX x) (hy : Rd W uY y) (lx : x.length ≤ 1000) (ly : y.length ≤ 1000) :
    Calls Tryz.prog 27 #[uY, .pointer (some ⟨b, 0, none⟩)] W fun e w' => e = .returned (.bool (decide (x = y))) ∧ Ext W w' := by
  have hs := sEq_c uX uY x y W hx hy lx ly
  obtain ⟨aA, cA, rfl, _, _, _⟩ := hx.parts
  obtain ⟨aB, cB, rfl, _, _, _⟩ := hy.parts
  generalize decide (x = y) = dd at *
  generalize x.length = l1 at *
  generalize y.length = l2 at *
  have Hs := Lib.hid hs
  clear hs hx hy
  go_enter Tryz.func27, Tryz.ntmps27
  go_wp2_with fail
  refine Hs.out.mono ?_
  rintro e w1 ⟨rfl, hx1⟩
  have Hx1 := Lib.hid hx1; clear hx1
  go_wp2
  go_ret
  exact ⟨rfl, Hx1.out⟩
/-- The classes, among the first k, that have a size. -/
def cin (p : List Int) (N : List (List Rat)) (x : List Rat) (k : Nat) : List Int := ((List.range k).filter fun (d : Nat) => decide (x ∈ cls p N (d : Int))).map fun (d : Nat) => (d : Int)
theorem cin_step (p : List Int) (N : List (List Rat)) (x : List Rat) (k : Nat) : cin p N x (k + 1) = cin p N x k ++ (if x ∈ cls p N (k : Int) then [(k : Int)] else []) := by
  unfold cin
  rw [List.range_succ, List.filter_append, List.map_append]
  congr 1
  by_cases h : x ∈ cls p N (k : Int) <;> simp [h]
theorem cin_len (p : List Int) (N : List (List Rat)) (x : List Rat) (k : Nat) : (cin p N x k).length ≤ k := by
  unfold cin
  rw [List.length_map]
  exact Nat.le_trans (List.length_filter_le ..) (by rw [List.length_range]; exact Nat.le_refl _)
theorem classes_c (v vx : Value) (p : List Int) (rs : List Qw) (x : List Rat) (w : World) (he : Env w) (hv : ScV w v p rs) (h : Wc p (rs.map Qw.x)) (hx : Rd w vx x) (hxl : x.length = p.length) (hxf : ∀ r ∈ x, Ft 30 r) :
    Calls Tryz.prog 7 #[v, vx] w fun e w' => ∃ u, e = .returned (.tuple #[u, .int .i64 0]) ∧ OwnI w' w.heap.size u (cin p (rs.map Qw.x) x (rs.length + 1)) ∧ Ext w w' := by
  obtain ⟨i0, hj, hz0, hz1, hz2⟩ := info_parts info_int
  have hlk := fun W (hE : Ext w W) => look_c v p rs W (he.ext hE) (hv.ext hE) h.wd
  have hal := fun u W (hE : Ext w W) (hu : Vw W u p rs) => all_c u p rs W (he.ext hE) hu h
  have hpe : primesErr p = 0 ∧ p.length ≤ 100 := by rcases h.wd.pr with ⟨e, _⟩ | ⟨e, _⟩ <;> rw [e] <;> decide
  have hL : (rs.map Qw.x).length = rs.length := List.length_map ..
  have hfew := h.wd.few
  have hpos := h.wd.pos
  rw [hL] at hfew hpos
  have hcp := fun (d : Nat) => h.cls_pos (d : Int)
  have hat := fun W B g vv ls (hq : LqM W B B vv ls) (hx : lqx ls = clss p (rs.map Qw.x)) hcell (d : Nat) (hd : d ≤ rs.length) => lqm_row (g := g) hq hx hcell hcp (d := d) (by rw [hL]; exact hd)
  have hcs : (clss p (rs.map Qw.x)).length = rs.length + 1 := by rw [clss_len, hL]
  have hcl := fun (d : Nat) => (cls_len (p := p) (N := rs.map Qw.x) (d := (d : Int)))
  rw [hL] at hcl
  have hcx := fun (d : Nat) y (hy : y ∈ cls p (rs.map Qw.x) (d : Int)) => h.cls_lt hy
  obtain ⟨vp, vn, rfl, hp, hs, hmr⟩ := hv
  have hck := fun W (hE : Ext w W) => sCheck_c vp vx p x W (he.ext hE) (hE.sl hp) (hE.rd hx) hpe.1 hxl hxf
  obtain ⟨ap, cp, rfl, _, _, _⟩ := hp.parts
  obtain ⟨an, cn, rfl, _, _, _⟩ := hs.parts
  obtain ⟨ax, cx, rfl, _, _, _⟩ := hx.parts
  rw [i64s_length] at *
  rw [qwc_length] at *
  generalize rs.length = n at *
  generalize hlx : x.length = lx at *
  have hE0 : Ext w (w.alloc (.cells #[.slice ap p.length cp, .slice an n cn] 35)) := (Ext.refl w).alloc _
  have hE1 := hE0.alloc (.cells #[.slice ax lx cx] 28)
  have b1 := (BoxT.new 35 w (.slice ap p.length cp) (.slice an n cn)).ext ((Ext.refl _).alloc (.cells #[.slice ax lx cx] 28))
  have b2 : BoxX ((w.alloc (.cells #[.slice ap p.length cp, .slice an n cn] 35)).alloc (.cells #[.slice ax lx cx] 28)) (w.heap.size + 1) (.slice ax lx cx) := by
    have : (w.alloc (.cells #[.slice ap p.length cp, .slice an n cn] 35)).heap.size = w.heap.size + 1 := World.size_alloc ..
    rw [← this]
    exact World.alloc_heap_new _ _
  have q0 := b1.c0
  have q1 := b1.c1
  have q2 := b2.c0
  have Hlk := Lib.hid hlk; have Hal := Lib.hid hal; have Hck := Lib.hid hck; have HE1 := Lib.hid hE1; have B1 := Lib.hid b1; have B2 := Lib.hid b2; have Hx := Lib.hid hx; have Hat := Lib.hid hat; have Hcs := Lib.hid hcs; have Hcl := Lib.hid hcl; have Hcx := Lib.hid hcx; have Hlx := Lib.hid hlx; have Hxl := Lib.hid hxl; have Hpl := Lib.hid hpe.2
  clear hlk hal hck hE0 hE1 b1 b2 hp hs hmr he h hx hat hcs hcl hcx hlx hxl hpe hL hcp
  go_enter Tryz.func7, Tryz.ntmps7
  go_wp2_with fail
  refine (Hlk.out _ HE1.out).mono ?_
  rintro e w2 ⟨u, rfl, hu, hx2⟩
  have q0 := (B1.out.ext hx2).c0
  have q2 := (B2.out.ext hx2).c0
  have hE2 := HE1.out.trans hx2
  have hal := fun W (hE : Ext w2 W) => Hal.out u W (hE2.trans hE) (hu.ext hE)
  have hck := Hck.out w2 hE2
  obtain ⟨b, v1, v2, v3, nts, rfl, hrest⟩ := hu
  have Hal2 := Lib.hid hal; have Hck2 := Lib.hid hck; have HE2 := Lib.hid hE2; have B22 := Lib.hid (B2.out.ext hx2)
  clear hal hck hE2 hrest hx2
  go_wp2_with fail
  refine Hck2.out.mono ?_
  rintro e w3 ⟨rfl, hx3⟩
  have ha3 := Hal2.out w3 hx3
  have Ha3 := Lib.hid ha3; have HE3 := Lib.hid (HE2.out.trans hx3); have B3 := Lib.hid (B22.out.ext hx3)
  clear ha3 hx3 q0 q2
  go_wp2_with fail
  refine Ha3.out.mono ?_
  rintro e w4 ⟨v4, ls, rfl, hq, hm, hx4⟩
  have hll : ls.length = n + 1 := by
    have := congrArg List.length hm
    unfold lqx at this
    rwa [List.length_map, Hcs.out] at this
  have hq1 := hq.1
  obtain ⟨g, cap, rfl, hcell⟩ := own_slice hq1 (by omega)
  have hcc := Hat.out w4 w3.heap.size g _ ls hq hm hcell
  rw [hll]
  have Hcc := Lib.hid hcc; have HE4 := Lib.hid (HE3.out.trans hx4); have B4 := Lib.hid (B3.out.ext hx4)
  clear hcc hq hm hx4 hq1 hll hcell
  have hsz4 := HE4.out.size
  go_wp2_with fail
  go_loopw [10, 37] (fun v10 v37 wr => ∃ d : Nat, v37 = .int .i64 (d : Int) ∧ d ≤ n + 1 ∧ Hid (OwnI wr w4.heap.size v10 (cin p (rs.map Qw.x) x d) ∧ Ext w4 wr)) (fun _ v37 _ => n + 2 - (intOf v37).toNat)
  case atStart => exact ⟨0, rfl, Nat.zero_le _, Lib.hid ⟨World.ownsRow_nil _ _ _ _, Ext.refl _⟩⟩
  case round =>
    obtain ⟨d, rfl, hd, HR⟩ := hrel
    obtain ⟨ho, hE⟩ := HR.out
    unfold OwnI at ho
    obtain ⟨a10, c10, rfl⟩ := own_shape ho
    by_cases hdn : d < n + 1
    · have hik : (d : Int) < ((n + 1 : Nat) : Int) := by omega
      have hik2 : (d : Int) < (n : Int) + 1 := by omega
      have i5 : (0 : Int) ≤ (d : Int) := by omega
      obtain ⟨gB, cB, rsB, kB, hqB, hmB, _⟩ := Hcc.out d (by omega)
      have hlB := Hcl.out d
      have hrB : rsB.length ≤ 10 := by rw [← List.length_map (f := Qw.x), hmB]; omega
      have kB1 := hE.cell kB
      have hcon := fun W (hW : Ext wr W) => containsQ_c 27 #[.pointer (some ⟨w.heap.size + 1, 0, none⟩)] (.slice (some ⟨gB, 0, none⟩) (cls p (rs.map Qw.x) (d : Int)).length cB) rsB (fun y => decide (x = y)) W ((hE.trans hW).sl (sl_own hqB.1)) (by omega) (fun _ _ => rfl) (fun W2 hW2 r hr => classes1_c (w.heap.size + 1) (.slice ax lx cx) r.u x r.x W2 (B4.out.ext ((hE.trans hW).trans hW2)).c0 (((HE4.out.trans hE).trans hW).trans hW2 |>.rd Hx.out) (((hE.trans hW).trans hW2).ownQ (hqB.2 r hr)).rd (by rw [Hlx.out, Hxl.out]; have := Hpl.out; omega) (by rw [Hcx.out d r.x (by rw [← hmB]; exact List.mem_map_of_mem hr)]; have := Hpl.out; omega))
      simp only [any_mem hmB] at hcon
      have hst := cin_step p (rs.map Qw.x) x d
      have hlen := cin_len p (rs.map Qw.x) x d
      generalize (cls p (rs.map Qw.x) (d : Int)).length = z at *
      have Hst := Lib.hid hst; have Ho := Lib.hid ho; have HE := Lib.hid hE
      generalize hcinl : (cin p (rs.map Qw.x) x d).length = L at *
      have Hcl2 := Lib.hid hcinl
      have hcw := hcon wr (Ext.refl wr)
      by_cases hin : x ∈ cls p (rs.map Qw.x) (d : Int)
      · rw [decide_eq_true hin] at hcw
        have Hcw := Lib.hid hcw; have Hin := Lib.hid hin
        clear hst ho hE hcinl hcw hin hcon hqB hmB HR kB
        go_wp2_with fail
        refine Hcw.out.mono ?_
        rintro e w5 ⟨rfl, hx5⟩
        have HE5 := Lib.hid (HE.out.trans hx5); have Ho5 := Lib.hid (hx5.own Ho.out)
        clear hx5
        have hm3 : L + 1 ≤ maxLen := by unfold maxLen; omega
        have hm4 : (L + 1) * 8 ≤ 140737488355328 := by omega
        have hbase := HE5.out.size
        go_wp2_with (at_builtin; refine wpList_append_own _ rfl _ _ 31 rfl w4.heap.size 3 i0 (.int .i64 0) 1 8 Tryz.underlying31 hj hz0 hz1 hz2 rfl (by decide) _ _ _ rfl (Ho5.out.alloc _) ⟨w5.heap.size, 0, none⟩ 1 1 [.int .i64 (d : Int)] rfl rfl (cell_one_new _ _ _) (by simp [Value.oneCell']) hm3 hm4 (by rw [World.size_alloc]; omega) ?_; intro v7 V7 hown7 hgrow7 _)
        go_roundw
        case rel => exact ⟨d + 1, by go_num, by omega, Lib.hid ⟨by rw [Hst.out, if_pos Hin.out]; unfold OwnI; rw [List.length_append, Hcl2.out, i64s, List.map_append]; exact hown7, (HE5.out.alloc _).grown hgrow7 (fun k hk => (World.ownsRow.lt Ho5.out k hk).1)⟩⟩
        case measure => simp [intOf]; omega
      · rw [decide_eq_false hin] at hcw
        have Hcw := Lib.hid hcw; have Hin := Lib.hid hin
        clear hst ho hE hcinl hcw hin hcon hqB hmB HR kB
        go_wp2_with fail
        refine Hcw.out.mono ?_
        rintro e w5 ⟨rfl, hx5⟩
        have HE5 := Lib.hid (HE.out.trans hx5); have Ho5 := Lib.hid (hx5.own Ho.out)
        clear hx5
        go_wp2_with fail
        go_roundw
        case rel => exact ⟨d + 1, by go_num, by omega, Lib.hid ⟨by rw [Hst.out, if_neg Hin.out, List.append_nil]; unfold OwnI; rw [Hcl2.out]; exact Ho5.out, HE5.out⟩⟩
        case measure => simp [intOf]; omega
    · obtain rfl : d = n + 1 := by omega
      have hik : ¬ ((n + 1 : Nat) : Int) < (n : Int) + 1 := by omega
      generalize hcinl : (cin p (rs.map Qw.x) x (n + 1)).length = L at *
      have Hcl2 := Lib.hid hcinl
      have Ho := Lib.hid ho; have HE := Lib.hid (HE4.out.trans hE)
      clear ho hE HR hcinl
      go_wp2_with fail
      exact bodyPost_ret (v := .tuple #[.slice a10 L c10, .int .i64 0]) (by simp [results, Tryz.results7, go_sem]) rfl ⟨_, rfl, by unfold OwnI; rw [Hcl2.out]; exact own_mono Ho.out HE4.out.size, HE.out⟩
end Go.Proofs.YtajdfggocldeaaaGreatDoor
