/- Walks: class.Constant. Walks: law 32's known. What the rows' condition gives the walks, and the last step of a law (the seat of chapters 31 and 32). A world that came in. What the rows ask of the program as a whole (once a seat). -/
import Derived.Test.YtaakmdjicocjpaaGreatDoorPb36
import Derived.Test.YtaakmdjicocjpaaGreatDoorPb21
import Derived.Test.YtaakmdjicocjpaaGreatDoorPb18
import Derived.Test.YtaakmdjicocjpaaGreatDoorPb35
import Derived.Test.YtaakmdjicocjpaaGreatDoorPb00
import Derived.Below
import Derived.ChangeSame
import Derived.OpenShut
import Derived.LaidMore
import Derived.ProofKit
import Derived.Stop.Joined
import Derived.Laws.IdiomArrays
import Derived.Test.YtaakmdjicocjpaaGreatDoorRows
import Derived.Test.YtaakmdjicocjpaaGreatDoorTie
import Derived.Test.YtaakmdjicocjpaaGreatDoorCards
import Derived.Handy
import Derived.Lay
import Derived.SevenTiedAt
import Derived.Stop.LaidErr
import Derived.Carry
import Derived.Test.YtaakmdjicocjpaaGreatDoorPb32
import Derived.Lib.SmallJoins
set_option maxRecDepth 100000
set_option maxHeartbeats 1600000
namespace Go.Proofs.YtaakmdjicocjpaaGreatDoor
open Go.RowKit Go.Lib Go.Shelf
attribute [local go_sem] Oper.semAt_some
theorem const1_c (b : Nat) (uX uY : Value) (x y : List Rat) (W : World) (hb : W.cell? ⟨b, 0, none⟩ = some uX) (hx : Rd W uX x) (hy : Rd W uY y) (lx : x.length ≤ 1000) (ly : y.length ≤ 1000) :
    Calls Tryz.prog 66 #[uY, .pointer (some ⟨b, 0, none⟩)] W fun e w' => e = .returned (.bool (decide (x = y))) ∧ Ext W w' := by
  have hs := sEq_c uX uY x y W hx hy lx ly
  obtain ⟨aA, cA, rfl, _, _, _⟩ := hx.parts
  obtain ⟨aB, cB, rfl, _, _, _⟩ := hy.parts
  generalize decide (x = y) = dd at *
  generalize x.length = l1 at *
  generalize y.length = l2 at *
  have Hs := Lib.hid hs
  clear hs hx hy
  go_enter Tryz.func66, Tryz.ntmps66
  go_wp2_with fail
  refine Hs.out.mono ?_
  rintro e w1 ⟨rfl, hx1⟩
  have Hx1 := Lib.hid hx1; clear hx1
  go_wp2
  go_ret
  exact ⟨rfl, Hx1.out⟩
/-- A class of a list of classes, with its cells. -/
theorem lqm_row {w : World} {B g : Nat} {v : Value} {p : List Int} {N : List (List Rat)} {ls : List Lq} (h : LqM w B B v ls) (hx : lqx ls = clss p N) (hcell : ∀ j u, (lqc ls)[j]? = some u → w.cell? ⟨g, j, none⟩ = some u) (hpos : ∀ d : Nat, 0 < (cls p N (d : Int)).length) {d : Nat} (hd : d ≤ N.length) :
    ∃ gA c rs1, w.cell? ⟨g, d, none⟩ = some (.slice (some ⟨gA, 0, none⟩) (cls p N (d : Int)).length c) ∧ QwM w B B (.slice (some ⟨gA, 0, none⟩) (cls p N (d : Int)).length c) rs1 ∧ rs1.map Qw.x = cls p N (d : Int) ∧ ∀ i x, (cls p N (d : Int))[i]? = some x → ∃ u, w.cell? ⟨gA, i, none⟩ = some u ∧ OwnQ w B u x := by
  obtain ⟨l, a, c, h1, h2, h3, h4⟩ := lqm_at h hx hd
  have hp := hpos d
  obtain ⟨x0, hx0⟩ : ∃ x0, (cls p N (d : Int))[0]? = some x0 := ⟨_, List.getElem?_eq_getElem hp⟩
  obtain ⟨gA, _, rfl, _, _⟩ := lqm_in h3 h4 hx0
  refine ⟨gA, c, l.rs, hcell d _ (by unfold lqc; rw [List.getElem?_map, h1, ← h2]; rfl), h3, h4, fun i x hx => ?_⟩
  obtain ⟨g', u, e, k1, k2⟩ := lqm_in h3 h4 hx
  injection e with e
  injection e with e1
  subst e1
  exact ⟨u, k1, k2⟩
theorem any_mem {rs : List Qw} {l : List (List Rat)} (h : rs.map Qw.x = l) (x : List Rat) : rs.any (fun r => decide (x = r.x)) = decide (x ∈ l) := by
  rw [← h, Bool.eq_iff_iff, List.any_eq_true, decide_eq_true_iff, List.mem_map]
  constructor
  · rintro ⟨r, hr, e⟩
    exact ⟨r, hr, (of_decide_eq_true e).symm⟩
  · rintro ⟨r, hr, e⟩
    exact ⟨r, hr, decide_eq_true e.symm⟩
/-- The box of a size. -/
def BoxX (w : World) (b : Nat) (u : Value) : Prop := w.heap[b]? = some (.cells #[u] 41 (0, 0))
theorem BoxX.c0 {w : World} {b : Nat} {u : Value} (h : BoxX w b u) : w.cell? ⟨b, 0, none⟩ = some u := by unfold World.cell?; dsimp only; rw [h]; rfl
theorem BoxX.made (w : World) (z u : Value) : BoxX ((w.alloc (.cells #[z] 41)).setCell ⟨w.heap.size, 0, none⟩ u) w.heap.size u := heap_setCell_same _ w.heap.size 0 _ _ u (World.alloc_heap_new w _)
theorem BoxX.lt {w : World} {b : Nat} {u : Value} (h : BoxX w b u) : b < w.heap.size := (Array.getElem?_eq_some_iff.1 h).1
/-- What the region of a clash keeps. -/
def KpC (w w' : World) (b B : Nat) (u : Value) (x : List Rat) (c : Nat) : Prop := Ext w w' ∧ BoxX w' b u ∧ OwnQ w' B u x ∧ ∃ r0 r1 r2 r3, Box4 47 w' c r0 r1 r2 r3
section
variable {w w' w2 : World} {b c B : Nat} {u : Value} {x : List Rat}
theorem KpC.ext (h : KpC w w' b B u x c) (hx : Ext w' w2) : KpC w w2 b B u x c := by
  obtain ⟨h1, h2, h4, r0, r1, r2, r3, h3⟩ := h
  exact ⟨h1.trans hx, hx.heap h2, hx.ownQ h4, r0, r1, r2, r3, h3.ext hx⟩
theorem KpC.put (h : KpC w w' b B u x c) (hc : w.heap.size ≤ c) (hne : b ≠ c) (hB : c < B) (u' v' x' y' : Value) : KpC w ((((w'.setCell ⟨c, 0, none⟩ u').setCell ⟨c, 1, none⟩ v').setCell ⟨c, 2, none⟩ x').setCell ⟨c, 3, none⟩ y') b B u x c := by
  obtain ⟨h1, h2, h4, r0, r1, r2, r3, h3⟩ := h
  refine ⟨h1.put4 hc _ _ _ _, ?_, h4.put4 hB _ _ _ _, u', v', x', y', h3.put _ _ _ _⟩
  unfold BoxX at *
  rw [heap_setCell_other _ ⟨c, 3, none⟩ b _ hne, heap_setCell_other _ ⟨c, 2, none⟩ b _ hne, heap_setCell_other _ ⟨c, 1, none⟩ b _ hne, heap_setCell_other _ ⟨c, 0, none⟩ b _ hne]
  exact h2
theorem KpC.fin (h : KpC w w' b B u x c) (hc : w.heap.size ≤ c) (hB : c < B) (u' v' x' y' : Value) : Box4 47 ((((w'.setCell ⟨c, 0, none⟩ u').setCell ⟨c, 1, none⟩ v').setCell ⟨c, 2, none⟩ x').setCell ⟨c, 3, none⟩ y') c u' v' x' y' ∧ Ext w ((((w'.setCell ⟨c, 0, none⟩ u').setCell ⟨c, 1, none⟩ v').setCell ⟨c, 2, none⟩ x').setCell ⟨c, 3, none⟩ y') ∧ OwnQ ((((w'.setCell ⟨c, 0, none⟩ u').setCell ⟨c, 1, none⟩ v').setCell ⟨c, 2, none⟩ x').setCell ⟨c, 3, none⟩ y') B u x := by
  obtain ⟨h1, h2, h4, r0, r1, r2, r3, h3⟩ := h
  exact ⟨h3.put _ _ _ _, h1.put4 hc _ _ _ _, h4.put4 hB _ _ _ _⟩
theorem KpC.all (h : KpC w w' b B u x c) : KpC w w' b B u x c ∧ w'.cell? ⟨b, 0, none⟩ = some u ∧ w'.cell? ⟨c, 0, none⟩ = some (valAt w' c 0) ∧ w'.cell? ⟨c, 1, none⟩ = some (valAt w' c 1) ∧ w'.cell? ⟨c, 2, none⟩ = some (valAt w' c 2) ∧ w'.cell? ⟨c, 3, none⟩ = some (valAt w' c 3) ∧ w'.frozen? ⟨c, 0, none⟩ = false ∧ w'.frozen? ⟨c, 1, none⟩ = false ∧ w'.frozen? ⟨c, 2, none⟩ = false ∧ w'.frozen? ⟨c, 3, none⟩ = false := by
  refine ⟨h, h.2.1.c0, ?_⟩
  obtain ⟨h1, h2, h4, r0, r1, r2, r3, h3⟩ := h
  unfold valAt
  rw [h3.c0, h3.c1, h3.c2, h3.c3]
  exact ⟨rfl, rfl, rfl, rfl, h3.fz 0, h3.fz 1, h3.fz 2, h3.fz 3⟩
end
theorem constant_c (v : Value) (p : List Int) (rs : List Qw) (w : World) (he : Env w) (hv : ScV w v p rs) (h : Wc p (rs.map Qw.x)) :
    Calls Tryz.prog 22 #[v] w fun e w' => CstE p (rs.map Qw.x) w.heap.size e w' ∧ Ext w w' := by
  have hop := fun W (hE : Ext w W) => open_c v p rs W (he.ext hE) (hv.ext hE) h
  have hL : (rs.map Qw.x).length = rs.length := List.length_map ..
  have hfew := h.wd.few
  have hpos := h.wd.pos
  rw [hL] at hfew hpos
  have hcp := fun (d : Nat) => h.cls_pos (d : Int)
  have hat := fun W B g vv ls (hq : LqM W B B vv ls) (hx : lqx ls = clss p (rs.map Qw.x)) hcell (d : Nat) (hd : d ≤ rs.length) => lqm_row (g := g) hq hx hcell hcp (d := d) (by rw [hL]; exact hd)
  have hcs : (clss p (rs.map Qw.x)).length = rs.length + 1 := by rw [clss_len, hL]
  have hcl := fun (d : Nat) => (cls_len (p := p) (N := rs.map Qw.x) (d := (d : Int)))
  rw [hL] at hcl
  have hxl := fun (d : Nat) x (hx : x ∈ cls p (rs.map Qw.x) (d : Int)) => h.cls_lt hx
  have hp1 : 1 ≤ p.length ∧ p.length ≤ 100 := by rcases h.wd.pr with ⟨e, _⟩ | ⟨e, _⟩ <;> rw [e] <;> decide
  have hle : (rs.map Qw.x).length = rs.length := hL
  obtain ⟨vp, vn, rfl, hp, hs, hmr⟩ := hv
  obtain ⟨ap, cp, rfl, _, _, _⟩ := hp.parts
  obtain ⟨an, cn, rfl, _, _, _⟩ := hs.parts
  rw [i64s_length] at *
  rw [qwc_length] at *
  generalize rs.length = n at *
  have hE0 : Ext w ((w.alloc (.cells #[.slice ap p.length cp, .slice an n cn] 32)).alloc (.cells #[.int .i64 0, .int .i64 0, .slice none 0 0, .slice none 0 0] 47)) := ((Ext.refl w).alloc _).alloc _
  have b1 := (BoxT.new 32 w (.slice ap p.length cp) (.slice an n cn)).ext ((Ext.refl _).alloc (.cells #[.int .i64 0, .int .i64 0, .slice none 0 0, .slice none 0 0] 47))
  have b2 := Box4.new 47 (w.alloc (.cells #[.slice ap p.length cp, .slice an n cn] 32)) (.int .i64 0) (.int .i64 0) (.slice none 0 0) (.slice none 0 0)
  rw [World.size_alloc] at b2
  have Hop := Lib.hid hop; have Hat := Lib.hid hat; have HE0 := Lib.hid hE0; have Hcs := Lib.hid hcs; have Hcp := Lib.hid hcp; have Hcl := Lib.hid hcl; have Hxl := Lib.hid hxl; have B2 := Lib.hid b2; have Hle := Lib.hid hle; have Hp1 := Lib.hid hp1
  have q0 := b1.c0
  have q1 := b1.c1
  clear hop hat hE0 hcs hcp hcl hxl b1 b2 hp hs hmr he h hL hle hp1
  go_enter Tryz.func22, Tryz.ntmps22
  go_wp2_with fail
  refine (Hop.out _ HE0.out).mono ?_
  rintro e w2 ⟨u, v4, ls, rfl, hu, hq, hm, hx2⟩
  have hll : ls.length = n + 1 := by
    have := congrArg List.length hm
    unfold lqx at this
    rwa [List.length_map, Hcs.out] at this
  rw [World.size_alloc, World.size_alloc] at hq
  have hq1 := hq.1
  obtain ⟨g, cap, rfl, hcell⟩ := own_slice hq1 (by omega)
  rw [hll] at hq1 ⊢
  have hx := HE0.out.trans hx2
  have b3 := B2.out.ext hx2
  have hszc : w.heap.size + 1 + 1 ≤ w2.heap.size := by have := hx2.size; rwa [World.size_alloc, World.size_alloc] at this
  have hcc := Hat.out w2 (w.heap.size + 1 + 1) g _ ls hq hm hcell
  obtain ⟨bv, uv1, uv2, uv3, nts, rfl, hrest⟩ := hu
  have Hx := Lib.hid hx; have Hcc := Lib.hid hcc; have B3 := Lib.hid b3; have Hszc := Lib.hid hszc
  clear hx hcc hq hm hrest hx2 q0 q1 hq1 hll hcell b3 hszc
  go_wp2_with fail
  go_loopw [23] (fun v23 wr => ∃ d : Nat, v23 = .int .i64 (d : Int) ∧ d ≤ n + 1 ∧ (∀ d' u' : Nat, d' < d → d' < u' → u' ≤ n → Dj p (rs.map Qw.x) d' u') ∧ Ext w2 wr) (fun v23 _ => n + 2 - (intOf v23).toNat)
  case atStart => exact ⟨0, rfl, Nat.zero_le _, fun _ _ h => absurd h (Nat.not_lt_zero _), Ext.refl _⟩
  case round =>
    obtain ⟨d, rfl, hd, hbef, hE⟩ := hrel
    have Hbef := Lib.hid hbef; clear hbef
    by_cases hdn : d < n + 1
    · have hik : (d : Int) < ((n + 1 : Nat) : Int) := by omega
      have hik' : (d : Int) < (n : Int) + 1 := by omega
      have i5 : (0 : Int) ≤ (d : Int) := by omega
      have e2 : IntKind.i64.wrap ((d : Int) + 1) = ((d + 1 : Nat) : Int) := by rw [IntWalk.i64_in _ (by omega)]; omega
      obtain ⟨gA, cA, rsA, kA, _, _, lA⟩ := Hcc.out d (by omega)
      have hz1 := Hcp.out d
      have hl1 := Hcl.out d
      have hat : ∀ i, i < (cls p (rs.map Qw.x) (d : Int)).length → ∃ x, (cls p (rs.map Qw.x) (d : Int))[i]? = some x := fun i hi => ⟨_, List.getElem?_eq_getElem hi⟩
      have htk : ∀ i x (u : Nat), (cls p (rs.map Qw.x) (d : Int))[i]? = some x → (∀ y ∈ (cls p (rs.map Qw.x) (d : Int)).take i, y ∉ cls p (rs.map Qw.x) (u : Int)) → x ∉ cls p (rs.map Qw.x) (u : Int) → ∀ y ∈ (cls p (rs.map Qw.x) (d : Int)).take (i + 1), y ∉ cls p (rs.map Qw.x) (u : Int) := fun i x u hx ht hn y hy => by
        rw [List.take_add_one, hx] at hy
        rcases List.mem_append.1 hy with g | g
        · exact ht y g
        · have : y = x := by simpa using g
          rw [this]; exact hn
      have hdj : ∀ (u : Nat) i, (cls p (rs.map Qw.x) (d : Int)).length ≤ i → (∀ y ∈ (cls p (rs.map Qw.x) (d : Int)).take i, y ∉ cls p (rs.map Qw.x) (u : Int)) → Dj p (rs.map Qw.x) d u := fun u i hi ht y hy => ht y (by rw [List.take_of_length_le hi]; exact hy)
      have hxl := Hxl.out d
      generalize hzz : (cls p (rs.map Qw.x) (d : Int)).length = z1 at *
      have HE := Lib.hid hE; have KA := Lib.hid kA; have LA := Lib.hid lA; have HAt := Lib.hid hat; have Htk := Lib.hid htk; have Hdj := Lib.hid hdj; have HXl := Lib.hid hxl; have Hzz := Lib.hid hzz
      clear hE kA lA hat htk hdj hxl hzz
      go_wp2_with fail
      obtain ⟨wa, hwa⟩ : ∃ wa, wa = wr := ⟨_, rfl⟩
      subst hwa
      go_loopw [8] (fun v8 wr => ∃ u : Nat, v8 = .int .i64 (u : Int) ∧ d < u ∧ u ≤ n + 1 ∧ (∀ u' : Nat, d < u' → u' < u → Dj p (rs.map Qw.x) d u') ∧ Ext w2 wr) (fun v8 _ => n + 2 - (intOf v8).toNat)
      case atStart => exact ⟨d + 1, by go_num, by omega, by omega, fun u' h1 h2 => by omega, HE.out⟩
      case round =>
        obtain ⟨u, rfl, hdu, hu, hrow, hE2⟩ := hrel
        have Hrow := Lib.hid hrow; clear hrow
        by_cases hun : u < n + 1
        · have huk : (u : Int) < ((n + 1 : Nat) : Int) := by omega
          have huk' : (u : Int) < (n : Int) + 1 := by omega
          have i6 : (0 : Int) ≤ (u : Int) := by omega
          obtain ⟨gB, cB, rsB, kB, hqB, hmB, _⟩ := Hcc.out u (by omega)
          have hlB := Hcl.out u
          have hxB := Hxl.out u
          have hrB : rsB.length ≤ 10 := by rw [← List.length_map (f := Qw.x), hmB]; omega
          have kA1 := hE2.cell KA.out
          have HE2 := Lib.hid hE2; have KB := Lib.hid kB; have HqB := Lib.hid hqB; have HmB := Lib.hid hmB; have HxB := Lib.hid hxB; have HrB := Lib.hid hrB
          clear hE2 kB hqB hmB hxB hrB
          generalize (cls p (rs.map Qw.x) (u : Int)).length = z2 at *
          go_wp2_with fail
          obtain ⟨wb, hwb⟩ : ∃ wb, wb = wr := ⟨_, rfl⟩
          subst hwb
          clear kA1
          go_loopw [39] (fun v39 wr => ∃ i : Nat, v39 = .int .i64 (i : Int) ∧ i ≤ z1 ∧ (∀ y ∈ (cls p (rs.map Qw.x) (d : Int)).take i, y ∉ cls p (rs.map Qw.x) (u : Int)) ∧ Ext w2 wr) (fun v39 _ => z1 + 1 - (intOf v39).toNat)
          case atStart => exact ⟨0, rfl, Nat.zero_le _, fun y hy => by simp at hy, HE2.out⟩
          case round =>
            obtain ⟨i, rfl, hi, htk, hE3⟩ := hrel
            have HTk := Lib.hid htk; clear htk
            by_cases hiz : i < z1
            · have hiz2 : (i : Int) < (z1 : Int) := by omega
              have i7 : (0 : Int) ≤ (i : Int) := by omega
              obtain ⟨x, hx⟩ := HAt.out i hiz
              obtain ⟨uX, kX, oX⟩ := LA.out i x hx
              have hlx := HXl.out x (List.mem_of_getElem? hx)
              obtain ⟨aX, cX, rfl⟩ := own_shape oX
              have kX1 := hE3.cell kX
              have hb0 : BoxX (wr.alloc (.cells #[.slice aX x.length cX] 41)) wr.heap.size (.slice aX x.length cX) := World.alloc_heap_new wr _
              have hE4 : Ext w2 (wr.alloc (.cells #[.slice aX x.length cX] 41)) := hE3.alloc _
              have kB1 := hE4.cell KB.out
              have hbn : w2.heap.size ≤ wr.heap.size := hE3.size
              have hcon := containsQ_c 66 #[.pointer (some ⟨wr.heap.size, 0, none⟩)] (.slice (some ⟨gB, 0, none⟩) z2 cB) rsB (fun y => decide (x = y)) _ (hE4.sl (sl_own HqB.out.1)) (by have := HrB.out; omega) (fun _ _ => rfl) (fun W hW r hr => const1_c wr.heap.size _ r.u x r.x W (hW.cell hb0.c0) ((hE4.trans hW).ownQ oX).rd ((hE4.trans hW).ownQ (HqB.out.2 r hr)).rd (by have := Hp1.out; omega) (by rw [HxB.out _ (by rw [← HmB.out]; exact List.mem_map_of_mem hr)]; have := Hp1.out; omega))
              rw [any_mem HmB.out] at hcon
              have hcl := fun W (hk : KpC w W wr.heap.size (w.heap.size + 1 + 1) (.slice aX x.length cX) x (w.heap.size + 1)) => show Calls Tryz.prog 67 #[.slice aX x.length cX] W fun e w' => ∃ a c, e = .returned (.slice a x.length c) ∧ OwnQ w' (w.heap.size + 1 + 1) (.slice a x.length c) x ∧ Ext W w' from
                (cloneQ_c _ x W hk.2.2.1.rd (by have := Hp1.out; omega) (by intro e; rw [e] at hlx; have := Hp1.out; simp at hlx; omega)).mono fun e w' ⟨u, h1, h2, h3⟩ => by
                  obtain ⟨a, c, rfl⟩ := own_shape h2
                  exact ⟨a, c, h1, h2.mono (by have := hk.2.1.lt; have := Hszc.out; omega), h3⟩
              generalize hb : wr.heap.size = bX at *
              have HX := Lib.hid hx; have OX := Lib.hid oX; have HE3 := Lib.hid hE3; have Hb0 := Lib.hid hb0; have HE4 := Lib.hid hE4; have Hbn := Lib.hid hbn; have Hlx := Lib.hid hlx; have Hcon := Lib.hid hcon; have Hclo := Lib.hid hcl
              clear hx oX hE3 hb0 hE4 kX hbn hlx hcon hcl
              generalize hlxx : x.length = lx at *
              have Hlxx := Lib.hid hlxx; clear hlxx
              generalize hdd : decide (x ∈ cls p (rs.map Qw.x) (u : Int)) = bb at *
              have Hdd := Lib.hid hdd; clear hdd
              go_wp2_with fail
              refine Hcon.out.mono ?_
              rintro e w5 ⟨rfl, hx5⟩
              have HE5 := Lib.hid (HE4.out.trans hx5)
              have Hb5 := Lib.hid (hx5.heap Hb0.out)
              clear hx5
              generalize wr.alloc (.cells #[.slice aX lx cX] 41) = W4 at *
              cases bb with
              | true =>
                have hk : KpC w w5 bX (w.heap.size + 1 + 1) (.slice aX lx cX) x (w.heap.size + 1) := ⟨Hx.out.trans HE5.out, Hb5.out, HE5.out.ownQ OX.out, _, _, _, _, B3.out.ext HE5.out⟩
                have hne : bX ≠ w.heap.size + 1 := by have := Hbn.out; have := Hszc.out; omega
                have Hk := Lib.hid hk; clear hk
                clear kB1 kX1
                go_wp2_with fail
                go_region_held3 (fun w' => KpC w w' bX (w.heap.size + 1 + 1) (.slice aX lx cX) x (w.heap.size + 1) ∧ w'.cell? ⟨bX, 0, none⟩ = some (.slice aX lx cX) ∧ w'.cell? ⟨w.heap.size + 1, 0, none⟩ = some (valAt w' (w.heap.size + 1) 0) ∧ w'.cell? ⟨w.heap.size + 1, 1, none⟩ = some (valAt w' (w.heap.size + 1) 1) ∧ w'.cell? ⟨w.heap.size + 1, 2, none⟩ = some (valAt w' (w.heap.size + 1) 2) ∧ w'.cell? ⟨w.heap.size + 1, 3, none⟩ = some (valAt w' (w.heap.size + 1) 3) ∧ w'.frozen? ⟨w.heap.size + 1, 0, none⟩ = false ∧ w'.frozen? ⟨w.heap.size + 1, 1, none⟩ = false ∧ w'.frozen? ⟨w.heap.size + 1, 2, none⟩ = false ∧ w'.frozen? ⟨w.heap.size + 1, 3, none⟩ = false)
                  (first | exact (KpC.ext Hk.out ((Ext.refl w5).drew)).all | exact hkk.all | exact (KpC.put (And.left (by assumption)) (by omega) (by assumption) (by omega) _ _ _ _).all)
                  (first | (go_at_call 67; refine (Hclo.out _ (And.left (by assumption))).mono ?_; rintro e9 V4 ⟨a9, c9, rfl, ho9, hxa⟩; have hkk := KpC.ext (And.left (by assumption)) hxa; have Ho9 := Lib.hid ho9; clear ho9))
                all_goals
                  obtain ⟨hb9, hfx, hox⟩ := hkk.fin (by omega) (by omega) (.int .i64 (d : Int)) (.int .i64 (u : Int)) (.slice aX lx cX) (.slice a9 lx c9)
                  have ho9 := Ho9.out.put4 (c := w.heap.size + 1) (by omega) (.int .i64 (d : Int)) (.int .i64 (u : Int)) (.slice aX lx cX) (.slice a9 lx c9)
                  have Hfx := Lib.hid hfx; have Hox := Lib.hid hox; have Ho9b := Lib.hid ho9
                  clear hfx hox ho9 hxa hkk
                  generalize (((V4.setCell ⟨w.heap.size + 1, 0, none⟩ (.int .i64 (d : Int))).setCell ⟨w.heap.size + 1, 1, none⟩ (.int .i64 (u : Int))).setCell ⟨w.heap.size + 1, 2, none⟩ (.slice aX lx cX)).setCell ⟨w.heap.size + 1, 3, none⟩ (.slice a9 lx c9) = W9 at *
                  have d0 := hb9.c0
                  have d1 := hb9.c1
                  have d2 := hb9.c2
                  have d3 := hb9.c3
                  go_wp2_with fail
                  exact bodyPost_ret (v := .tuple #[.agg #[.int .i64 (d : Int), .int .i64 (u : Int), .slice aX lx cX, .slice a9 lx c9], .bool false, .int .i64 0]) (by simp [results, Tryz.results22, go_sem, d0, d1, d2, d3]) rfl ⟨⟨_, _, rfl, .inr ⟨rfl, d, u, i, x, ⟨hdu, by rw [Hle.out]; omega, fun d' u' h1 h2 h3 => Hbef.out d' u' h1 h2 (by have := Hle.out; omega), fun u' h1 h2 => Hrow.out u' h1 h2, HTk.out, HX.out, of_decide_eq_true Hdd.out⟩, _, _, rfl, Hox.out.mono (by omega), Ho9b.out.mono (by omega)⟩⟩, Hfx.out⟩
              | false =>
                go_wp2_with fail
                go_roundw
                case rel => first | exact ⟨i + 1, by go_num, by omega, Htk.out i x u HX.out HTk.out (of_decide_eq_false Hdd.out), HE5.out⟩ | ((repeat apply Exists.intro); exact ⟨⟨i + 1, by go_num, by omega, Htk.out i x u HX.out HTk.out (of_decide_eq_false Hdd.out), HE5.out⟩, rfl⟩)
                case measure => simp [intOf]; omega
            · obtain rfl : i = z1 := by omega
              have hiz2 : ¬ (i : Int) < (i : Int) := by omega
              have HE3 := Lib.hid hE3; clear hE3
              go_wp2_with fail
              go_roundw
              case rel => exact ⟨u + 1, by go_num, by omega, by omega, fun u' h1 h2 => by
                rcases Nat.lt_or_ge u' u with g | g
                · exact Hrow.out u' h1 g
                · obtain rfl : u' = u := by omega
                  exact Hdj.out _ _ (Nat.le_refl _) HTk.out, HE3.out⟩
              case measure => simp [intOf]; omega
        · obtain rfl : u = n + 1 := by omega
          have huk : ¬ ((n + 1 : Nat) : Int) < ((n + 1 : Nat) : Int) := by omega
          have HE2 := Lib.hid hE2; clear hE2
          go_wp2_with fail
          go_roundw
          case rel => exact ⟨d + 1, by go_num, by omega, fun d' u' h1 h2 h3 => by
            rcases Nat.lt_or_ge d' d with g | g
            · exact Hbef.out d' u' g h2 h3
            · obtain rfl : d' = d := by omega
              exact Hrow.out u' h2 (by omega), HE2.out⟩
          case measure => simp [intOf]; omega
    · obtain rfl : d = n + 1 := by omega
      have hik : ¬ ((n + 1 : Nat) : Int) < ((n + 1 : Nat) : Int) := by omega
      have b6 := B3.out.ext hE
      have hE6 := Hx.out.trans hE
      have c0 := b6.c0
      have c1 := b6.c1
      have c2 := b6.c2
      have c3 := b6.c3
      have z0 := b6.fz 0
      have z1 := b6.fz 1
      have z2 := b6.fz 2
      have z3 := b6.fz 3
      have B6 := Lib.hid b6; have HE6 := Lib.hid hE6
      clear b6 hE6 hE
      have hp4 := B6.out.put (.int .i64 0) (.int .i64 0) (.slice none 0 0) (.slice none 0 0)
      have d0 := hp4.c0
      have d1 := hp4.c1
      have d2 := hp4.c2
      have d3 := hp4.c3
      go_wp2_with fail
      exact bodyPost_ret (v := .tuple #[csh0, .bool true, .int .i64 0]) (by simp [results, Tryz.results22, go_sem, d0, d1, d2, d3, csh0]) rfl ⟨⟨_, _, rfl, .inl ⟨rfl, rfl, fun d' u' h1 h2 => Hbef.out d' u' (by have := Hle.out; omega) h1 (by have := Hle.out; omega)⟩⟩, HE6.out.put4 (by omega) _ _ _ _⟩
end Go.Proofs.YtaakmdjicocjpaaGreatDoor

namespace Go.Proofs.YtaakmdjicocjpaaGreatDoor
open Go.RowKit Go.Lib Go.Shelf
attribute [local go_sem] Oper.semAt_some
theorem scv_cut {w : World} {v : Value} {p : List Int} {rs : List Qw} (h : ScV w v p rs) : ∃ a c b d, v = .agg #[.slice a p.length c, .slice b rs.length d] ∧ ScV w (.agg #[.slice a p.length c, .slice b rs.length d]) p rs := by
  obtain ⟨vp, vn, rfl, hp, hn⟩ := h
  obtain ⟨a, c, rfl, _, _, _⟩ := hp.parts
  obtain ⟨b, d, rfl, _, _, _⟩ := hn.1.parts
  rw [i64s_length] at *
  rw [qwc_length] at *
  exact ⟨a, c, b, d, rfl, _, _, rfl, hp, hn⟩
theorem known32_c (w : World) (he : Env w) :
    Calls Tryz.prog 15 #[] w fun e w' => e = .returned (.bool true) ∧ Ext w w' := by
  have hmj := major_c w he
  have hva := fun W v rs (hE : Ext w W) (hv : ScV W v [2, 3] rs) (hm : rs.map Qw.x = majorQ) => vars_c v [2, 3] rs W (he.ext hE) hv (by rw [hm]; exact maj_wc)
  have hki := fun W v rs (hE : Ext w W) (hv : ScV W v [2, 3] rs) (hm : rs.map Qw.x = majorQ) => kind_c v [2, 3] rs W (he.ext hE) hv (by rw [hm]; exact maj_wc)
  have hpr := fun W v rs (hE : Ext w W) (hv : ScV W v [2, 3] rs) (hm : rs.map Qw.x = majorQ) => proper_c v [2, 3] rs W (he.ext hE) hv (by rw [hm]; exact maj_wc)
  have hcs := fun W v rs (hE : Ext w W) (hv : ScV W v [2, 3] rs) (hm : rs.map Qw.x = majorQ) => constant_c v [2, 3] rs W (he.ext hE) hv (by rw [hm]; exact maj_wc)
  have Hmj := Lib.hid hmj; have Hva := Lib.hid hva; have Hki := Lib.hid hki; have Hpr := Lib.hid hpr; have Hcs := Lib.hid hcs
  clear hmj hva hki hpr hcs he
  go_enter Tryz.func15, Tryz.ntmps15
  go_wp2_with fail
  refine Hmj.out.mono ?_
  rintro e w1 ⟨v1, rs, rfl, hs1, hm, hx1⟩
  obtain ⟨a1, c1, b1, d1, rfl, hs1⟩ := scv_cut hs1
  have hrl : rs.length = 7 := by rw [← List.length_map (f := Qw.x), hm]; rfl
  rw [hrl, show ([2, 3] : List Int).length = 2 from rfl] at hs1 ⊢
  have hb := BoxT.new 32 w1 (.slice a1 2 c1) (.slice b1 7 d1)
  have hE1 := (Ext.refl w1).alloc (.cells #[.slice a1 2 c1, .slice b1 7 d1] 32)
  have hva := Hva.out _ _ rs (hx1.trans hE1) (hs1.ext hE1) hm
  have q0 := hb.c0
  have q1 := hb.c1
  have Hva1 := Lib.hid hva; have HB := Lib.hid hb; have Hs := Lib.hid (hs1.ext hE1); have Hm := Lib.hid hm; have Hx1 := Lib.hid (hx1.trans hE1)
  clear hva hb hs1 hE1 hm hx1 hrl
  go_wp2_with fail
  generalize w1.alloc (.cells #[.slice a1 2 c1, .slice b1 7 d1] 32) = W1 at *
  refine Hva1.out.mono ?_
  rintro e w2 ⟨u2, rfl, ho2, hx2⟩
  rw [Hm.out, maj_vrs] at ho2
  obtain ⟨g2, k2, rfl, hc2⟩ := own_slice ho2 (by decide)
  have h0 := hc2 0 (.int .i64 2) rfl
  have h5 := hc2 5 (.int .i64 2) rfl
  have q0 := (HB.out.ext hx2).c0
  have q1 := (HB.out.ext hx2).c1
  have hki := Hki.out w2 _ rs (Hx1.out.trans hx2) (Hs.out.ext hx2) Hm.out
  rw [Hm.out, maj_kd] at hki
  have Hki2 := Lib.hid hki; have HE2 := Lib.hid hx2; have H0 := Lib.hid h0; have H5 := Lib.hid h5
  clear hki hx2 h0 h5 hc2 ho2
  go_wp2_with fail
  refine Hki2.out.mono ?_
  rintro e w3 ⟨rfl, hx3⟩
  have HE3 := Lib.hid (HE2.out.trans hx3)
  have H23 := Lib.hid hx3
  have q0 := (HB.out.ext HE3.out).c0
  have q1 := (HB.out.ext HE3.out).c1
  have hpr := Hpr.out w3 _ rs (Hx1.out.trans HE3.out) (Hs.out.ext HE3.out) Hm.out
  have Hpr3 := Lib.hid hpr
  clear hpr hx3
  go_wp2_with fail
  refine Hpr3.out.mono ?_
  rintro e w4 ⟨⟨c4, is4, rfl, hor⟩, hx4⟩
  rw [Hm.out] at hor
  rcases hor with ⟨_, _, hok⟩ | ⟨rfl, d4, x4, y4, hat4, u1, u2, rfl, ho1, ho2⟩
  · exact absurd hok maj_not
  obtain rfl : d4 = 3 := maj_at hat4
  obtain ⟨aA, cA, rfl⟩ := own_shape ho1
  obtain ⟨aB, cB, rfl⟩ := own_shape ho2
  rw [show ((3 + 1 : Nat) : Int) = 4 from rfl, show ((3 : Nat) : Int) = 3 from rfl]
  generalize y4.length = ly at *
  generalize x4.length = lx at *
  have hb4 := Box4.new 47 w4 (.int .i64 3) (.int .i64 4) (.slice aA ly cA) (.slice aB lx cB)
  have hE4 := (Ext.refl w4).alloc (.cells #[.int .i64 3, .int .i64 4, .slice aA ly cA, .slice aB lx cB] 47)
  have HE4 := Lib.hid ((HE3.out.trans hx4).trans hE4)
  have H24 := Lib.hid ((H23.out.trans hx4).trans hE4)
  have q0 := (HB.out.ext HE4.out).c0
  have q1 := (HB.out.ext HE4.out).c1
  have hcs := Hcs.out _ _ rs (Hx1.out.trans HE4.out) (Hs.out.ext HE4.out) Hm.out
  have Hcs4 := Lib.hid hcs; have HB4 := Lib.hid hb4
  clear hcs hb4 hE4 hx4 ho1 ho2 hat4
  go_wp2_with fail
  generalize w4.alloc (.cells #[.int .i64 3, .int .i64 4, .slice aA ly cA, .slice aB lx cB] 47) = W4 at *
  refine Hcs4.out.mono ?_
  rintro e w5 ⟨⟨c5, is5, rfl, hor⟩, hx5⟩
  rw [Hm.out] at hor
  rcases hor with ⟨rfl, rfl, _⟩ | ⟨_, d5, u5, i5, x5, hat5, _⟩
  case inr => exact absurd maj_cst hat5.not
  have hE5 := (Ext.refl w5).alloc (.cells #[.int .i64 0, .int .i64 0, .slice none 0 0, .slice none 0 0] 47)
  have hx6 := hx5.trans hE5
  have r0 := (HB4.out.ext hx6).c0
  have r1 := (HB4.out.ext hx6).c1
  have s0 := hx6.cell (H24.out.cell H0.out)
  have s5 := hx6.cell (H24.out.cell H5.out)
  have Hfin := Lib.hid (Hx1.out.trans (HE4.out.trans hx6))
  clear hx6 hE5 hx5 q0 q1
  unfold csh0
  go_wp2_with fail
  go_ret
  exact ⟨rfl, Hfin.out⟩
end Go.Proofs.YtaakmdjicocjpaaGreatDoor

namespace Go.Proofs.YtaakmdjicocjpaaGreatDoor
open Go.ChangeShapes Go.WideShapes Go.ChangeAt Go.WideMaps Go.WideElems Go.RowKit
theorem bounds_u8 {n : Int} (h : (Lit.int .u8 n).wf = true) : 0 ≤ n ∧ n ≤ 255 := by
  simp [Lit.wf, IntKind.min, IntKind.max, IntKind.signed, IntKind.bits] at h
  omega
section
variable {H : Type} {enc : TypeId × Value → H} {P : Program}
theorem post_of_below {f : Func} {s : ChangeSpec} {apart fresh handsOn again : Bool} {W W' : World} {args : Array Value} {v : Value} {ds gs : List (DataW H)} {before pa pv : List MemPlace}
    (hW : DataW.Whole enc P f.params.toList s.vars apart W args.toList ds gs before)
    (hres : ∀ (b : Nat) (sp : Nat → Bool) (hd : Bool), DataW.TrodAll enc P W' b sp hd f.resultTypes.toList (v.resultList f.resultTypes.size) (s.fn H (ds ++ gs)).results [])
    (hargs : ∀ sp : Nat → Bool, (∀ p ∈ before, sp p.block = true) → DataW.TrodAll enc P W' 0 sp true f.params.toList args.toList (s.fn H (ds ++ gs)).args pa)
    (hvars : ∀ sp : Nat → Bool, (∀ p ∈ before, sp p.block = true) → DataW.TrodVars enc P W' sp s.vars (s.fn H (ds ++ gs)).vars pv)
    (hps : before = pa ++ pv) (hb : Below W.heap.size W W')
    (hok : ∀ (j : Nat) (t : TypeId) (r : Value), f.resultTypes[j]? = some t → (v.resultList f.resultTypes.size)[j]? = some r → Value.okWide P W' .any 0 t r) :
    s.post enc P f apart fresh handsOn again W args v W' := by
  have hlt : ∀ p ∈ before, p.block < W.heap.size := fun p hp => hW.lt p hp
  have hold : ∀ p ∈ before, (fun b => decide (b < W.heap.size)) p.block = true := fun p hp => by simpa using hlt p hp
  refine ⟨ds, gs, before, [], pa, pv, hW, hres _ _ _, hargs _ hold, hvars _ hold, World.keptBut_mono (fun p hp => ⟨hp, ?_⟩) (hb.frame (· ∈ before)), fun _ => ?_⟩
  · rw [hps, List.mem_append] at hp
    exact Or.inr hp
  · obtain ⟨_, _, _, _, _, hz, hn⟩ := hW
    refine ⟨hok, _, _, ([] ++ pa) ++ pv, ⟨[] ++ pa, pv, trodAll_append (hargs _ (fun _ _ => rfl)) (hres _ _ _), hvars _ (fun _ _ => rfl), rfl, ?_, ?_⟩, ?_⟩
    · intro b off hp
      have hin : MemPlace.cell b off ∈ before := by rw [hps]; simpa using hp
      rw [hb.frozen (hlt _ hin)]
      exact hz b off hin
    · intro ha
      have := hn ha
      rw [hps] at this
      simpa using this
    · intro p hp _
      rw [hps]
      simpa using hp
end
theorem ownKnob_none : ownKnob Tryz.prog.godebug = none := by kernel_rfl
theorem pow10_type : (Tryz.prog.globals[2]?).map (·.type) = some 323 := by kernel_rfl
theorem cells_u64 : Tryz.prog.cellsOf 224 = 1 := by kernel_rfl
theorem cells_pow10 : Tryz.prog.cellsOf 323 = 20 := by kernel_rfl
theorem env_of_laid {W : World} (h : laidMetH Tryz.prog [("math/bits.deBruijn32tab", Rows.laid_math_bits_deBruijn32tab), ("math/bits.deBruijn64tab", Rows.laid_math_bits_deBruijn64tab), ("internal/strconv.uint64pow10", Rows.laid_internal_strconv_uint64pow10), ("strconv.ErrRange", Rows.laid_strconv_ErrRange), ("strconv.ErrSyntax", Rows.laid_strconv_ErrSyntax)] W) : Env W := by
  rw [MakeChecks.laidMetH_plain _ _ _ (by kernel_rfl)] at h
  exact Lib.tabIs_of_head (k := .u64) (zs := Lib.pow10Tab) globalAt pow10_type Tryz.underlying323 Tryz.underlying224 cells_u64 cells_pow10 h.tail.tail
/-- The cells that the rows list. -/
def rowLaid : List (String × DataW Unit) := [("math/bits.deBruijn32tab", Rows.laid_math_bits_deBruijn32tab), ("math/bits.deBruijn64tab", Rows.laid_math_bits_deBruijn64tab), ("internal/strconv.uint64pow10", Rows.laid_internal_strconv_uint64pow10), ("strconv.ErrRange", Rows.laid_strconv_ErrRange), ("strconv.ErrSyntax", Rows.laid_strconv_ErrSyntax)]
theorem rows_shaped (os : Os) (args : Array Value) : ((World.laidAll Tryz.prog os rowLaid).forCall (fun _ _ => 0) ⟨#[], args, []⟩).Shaped Tryz.prog := World.shaped_of_ZipB (by kernel_rfl) (by kernel_rfl)
theorem rows_met (os : Os) (args : Array Value) : laidMetH Tryz.prog rowLaid ((World.laidAll Tryz.prog os rowLaid).forCall (fun _ _ => 0) ⟨#[], args, []⟩).memory := by
  rw [MakeChecks.laidMetH_plain _ _ _ (by kernel_rfl)]; exact laidMet_laidAll _ (by kernel_rfl) (by kernel_rfl)
theorem laidOut_yes : laidOutB Tryz.prog = true := by kernel_rfl
section
variable {H : Type} {enc : TypeId × Value → H} {W W' : World} {sp : Nat → Bool}
theorem trodAll_stays : ∀ {ts : List TypeId} {vs : List Value} {ds : List (DataW H)} {ps : List MemPlace}, (∀ t ∈ ts, Tryz.prog.readableRec t = true ∧ t < Tryz.prog.types.size) →
    DataW.TrodAll enc Tryz.prog W 0 (fun _ => true) true ts vs ds ps → (∀ x ∈ ps, W.sameAt W' x) → (∀ x ∈ ps, sp x.block = true) → DataW.TrodAll enc Tryz.prog W' 0 sp true ts vs ds ps
  | [], _, _, _, _, h, _, _ => by
    obtain ⟨rfl, rfl, rfl⟩ := trodAll_nil h
    exact trodAll_mk0
  | t :: ts, vs, ds, ps, hts, h, hs, hp => by
    obtain ⟨v, vs', d, ds', p, p', rfl, rfl, rfl, h1, h2⟩ := trodAll_cons h
    obtain ⟨hr, hw⟩ := hts t (List.mem_cons_self ..)
    exact trodAll_cons_mk (WideElems.Trod_stays laidOut_yes hr hw h1 (fun x hx => hs x (List.mem_append_left _ hx)) (fun x hx => hp x (List.mem_append_left _ hx)))
      (trodAll_stays (fun t ht => hts t (List.mem_cons_of_mem _ ht)) h2 (fun x hx => hs x (List.mem_append_right _ hx)) (fun x hx => hp x (List.mem_append_right _ hx)))
end
/-- A law that returned true, and laid new blocks alone. -/
theorem law_post {H : Type} {enc : TypeId × Value → H} {f : Func} {s : ChangeSpec} {W W' : World} {args : Array Value} {ds : List (DataW H)} {before : List MemPlace} (hv : s.vars = []) (hts : ∀ t ∈ f.params.toList, Tryz.prog.readableRec t = true ∧ t < Tryz.prog.types.size)
    (hres : f.resultTypes = #[4]) (hfn : s.fn H ds = { results := [.lit (.bool true)], args := ds })
    (hW : DataW.Whole enc Tryz.prog f.params.toList s.vars false W args.toList ds [] before) (hb : Below W.heap.size W W') : s.post enc Tryz.prog f false true false false W args (.bool true) W' := by
  have hW' := hW
  obtain ⟨p, q, hA0, hV, rfl, _, _⟩ := hW
  rw [hv] at hV
  obtain ⟨_, rfl⟩ := trodVars_none hV
  have hlt : ∀ x ∈ p ++ [], x.block < W.heap.size := fun x hx => hW'.lt x hx
  refine post_of_below (pa := p) (pv := []) hW' (fun _ _ _ => ?_) (fun sp hsp => ?_) (fun _ _ => ?_) rfl hb ?_
  · rw [List.append_nil, hfn, hres]
    exact trodAll_mk1 (shut_bool Tryz.underlying4 _)
  · rw [List.append_nil, hfn]
    exact trodAll_stays hts hA0 (fun x hx => hb.same (hlt x (List.mem_append_left _ hx))) (fun x hx => hsp x (List.mem_append_left _ hx))
  · rw [List.append_nil, hfn, hv]; rfl
  · exact ok_one hres rfl (okWide_bool_mk Tryz.underlying4 _)
end Go.Proofs.YtaakmdjicocjpaaGreatDoor

namespace Go.Proofs.YtaakmdjicocjpaaGreatDoor
open Go.ChangeShapes Go.WideShapes Go.ChangeAt Go.WideMaps Go.WideElems Go.RowKit
theorem cellsB : Tryz.prog.cellsOf 4 = 1 := by kernel_rfl
theorem cellsU : Tryz.prog.cellsOf 5 = 1 := by kernel_rfl
theorem cellsI8 : Tryz.prog.cellsOf 22 = 1 := by kernel_rfl
theorem cells3 : Tryz.prog.cellsOf 23 = 3 := by kernel_rfl
theorem cells24 : Tryz.prog.cellsOf 24 = 24 := by kernel_rfl
theorem cells27w : Tryz.prog.cellsOf 26 = 27 := by kernel_rfl
section
variable {H : Type} {enc : TypeId × Value → H} {w : World} {base : Nat} {spare : Nat → Bool} {held : Bool}
theorem open_i3 {fuel : Nat} {c0 c1 c2 : Value} {x : DataW H × List MemPlace} (h : DataW.trod enc Tryz.prog w base spare held fuel 23 [c0, c1, c2] = some x) :
    ∃ z : I3, c0 = .int .i8 z.a ∧ c1 = .int .i8 z.b ∧ c2 = .int .i8 z.c ∧ z.ok := by
  obtain ⟨y0, y1, y2, n, rfl, h0, h1, h2⟩ := trod_array3 Tryz.underlying23 cellsI8 h
  obtain ⟨a, ha, rfl, wa⟩ := DataW.trod_int Tryz.underlying22 h0
  obtain ⟨b, hb, rfl, wb⟩ := DataW.trod_int Tryz.underlying22 h1
  obtain ⟨c, hc, rfl, wc⟩ := DataW.trod_int Tryz.underlying22 h2
  simp only [List.cons.injEq, and_true] at ha hb hc
  have ba := bounds_i8 wa; have bb := bounds_i8 wb; have bc := bounds_i8 wc
  refine ⟨⟨a, b, c⟩, ha, hb, hc, fun i => ?_⟩
  match i with
  | 0 => exact ba
  | 1 => exact bb
  | _ + 2 => exact bc
theorem wf_u8 {n : Int} (h : (Lit.int .u8 n).wf = true) : ∃ k : Nat, n = k ∧ k < 256 := by
  have := bounds_u8 h
  exact ⟨n.toNat, by omega, by omega⟩
/-- Eight triples by their index. -/
def xsOf (z0 z1 z2 z3 z4 z5 z6 z7 : I3) : Nat → I3
  | 0 => z0
  | 1 => z1
  | 2 => z2
  | 3 => z3
  | 4 => z4
  | 5 => z5
  | 6 => z6
  | 7 => z7
  | _ => ⟨0, 0, 0⟩
theorem open_world {r : Reach} {b0 : Nat} {v : Value} {d : DataW H} {p : List MemPlace} (hv : Value.okWide Tryz.prog w r b0 26 v) (h : DataW.Trod enc Tryz.prog w base spare held 26 v d p) :
    ∃ a : Wl, v = a.v ∧ a.Ok := by
  obtain ⟨cs, rfl, hsz⟩ := okWide_struct Tryz.underlying26 hv
  rw [cells27w] at hsz
  obtain ⟨l⟩ := cs
  match l, hsz with
  | [c0, c1, c2, c3, c4, c5, c6, c7, c8, c9, c10, c11, c12, c13, c14, c15, c16, c17, c18, c19, c20, c21, c22, c23, c24, c25, c26], _ =>
    obtain ⟨fuel, hf⟩ := h
    obtain ⟨y0, y1, y2, y3, k, hx, _, h0, h1, h2, h3⟩ := Go.Joins.trod_struct4 Tryz.underlying26 hf
    simp only [Value.cells, cellsB, cellsU, cells24, List.drop_zero, List.take_succ_cons, List.take_zero, List.drop_succ_cons] at h0 h1 h2 h3
    obtain ⟨b, hb, rfl⟩ := DataW.trod_bool Tryz.underlying4 h0
    obtain ⟨n, hn, rfl, wn⟩ := DataW.trod_int Tryz.underlying5 h1
    obtain ⟨m, hm, rfl, wm⟩ := DataW.trod_int Tryz.underlying5 h2
    simp only [List.cons.injEq, and_true] at hb hn hm
    obtain ⟨n', rfl, n1⟩ := wf_u8 wn
    obtain ⟨m', rfl, m1⟩ := wf_u8 wm
    obtain ⟨xs, j, _, _, _, hxl, hg⟩ := DataW.trod_array Tryz.underlying24 h3
    obtain ⟨q0, hq0⟩ : ∃ q, xs[0]? = some q := ⟨_, List.getElem?_eq_getElem (by omega)⟩
    have g0 := hg 0 (by omega)
    rw [hq0, cells3] at g0
    simp only [Nat.reduceMul, List.drop_zero, List.take_succ_cons, List.take_zero] at g0
    obtain ⟨z0, e0a, e0b, e0c, o0⟩ := open_i3 g0
    obtain ⟨q1, hq1⟩ : ∃ q, xs[1]? = some q := ⟨_, List.getElem?_eq_getElem (by omega)⟩
    have g1 := hg 1 (by omega)
    rw [hq1, cells3] at g1
    simp only [Nat.reduceMul, List.drop_zero, List.take_succ_cons, List.take_zero, List.drop_succ_cons] at g1
    obtain ⟨z1, e1a, e1b, e1c, o1⟩ := open_i3 g1
    obtain ⟨q2, hq2⟩ : ∃ q, xs[2]? = some q := ⟨_, List.getElem?_eq_getElem (by omega)⟩
    have g2 := hg 2 (by omega)
    rw [hq2, cells3] at g2
    simp only [Nat.reduceMul, List.drop_zero, List.take_succ_cons, List.take_zero, List.drop_succ_cons] at g2
    obtain ⟨z2, e2a, e2b, e2c, o2⟩ := open_i3 g2
    obtain ⟨q3, hq3⟩ : ∃ q, xs[3]? = some q := ⟨_, List.getElem?_eq_getElem (by omega)⟩
    have g3 := hg 3 (by omega)
    rw [hq3, cells3] at g3
    simp only [Nat.reduceMul, List.drop_zero, List.take_succ_cons, List.take_zero, List.drop_succ_cons] at g3
    obtain ⟨z3, e3a, e3b, e3c, o3⟩ := open_i3 g3
    obtain ⟨q4, hq4⟩ : ∃ q, xs[4]? = some q := ⟨_, List.getElem?_eq_getElem (by omega)⟩
    have g4 := hg 4 (by omega)
    rw [hq4, cells3] at g4
    simp only [Nat.reduceMul, List.drop_zero, List.take_succ_cons, List.take_zero, List.drop_succ_cons] at g4
    obtain ⟨z4, e4a, e4b, e4c, o4⟩ := open_i3 g4
    obtain ⟨q5, hq5⟩ : ∃ q, xs[5]? = some q := ⟨_, List.getElem?_eq_getElem (by omega)⟩
    have g5 := hg 5 (by omega)
    rw [hq5, cells3] at g5
    simp only [Nat.reduceMul, List.drop_zero, List.take_succ_cons, List.take_zero, List.drop_succ_cons] at g5
    obtain ⟨z5, e5a, e5b, e5c, o5⟩ := open_i3 g5
    obtain ⟨q6, hq6⟩ : ∃ q, xs[6]? = some q := ⟨_, List.getElem?_eq_getElem (by omega)⟩
    have g6 := hg 6 (by omega)
    rw [hq6, cells3] at g6
    simp only [Nat.reduceMul, List.drop_zero, List.take_succ_cons, List.take_zero, List.drop_succ_cons] at g6
    obtain ⟨z6, e6a, e6b, e6c, o6⟩ := open_i3 g6
    obtain ⟨q7, hq7⟩ : ∃ q, xs[7]? = some q := ⟨_, List.getElem?_eq_getElem (by omega)⟩
    have g7 := hg 7 (by omega)
    rw [hq7, cells3] at g7
    simp only [Nat.reduceMul, List.drop_zero, List.take_succ_cons, List.take_zero, List.drop_succ_cons] at g7
    obtain ⟨z7, e7a, e7b, e7c, o7⟩ := open_i3 g7
    refine ⟨⟨b, n', m', xsOf z0 z1 z2 z3 z4 z5 z6 z7⟩, ?_, n1, m1, fun i => ?_⟩
    · rw [hb, hn, hm, e0a, e0b, e0c, e1a, e1b, e1c, e2a, e2b, e2c, e3a, e3b, e3c, e4a, e4b, e4c, e5a, e5b, e5c, e6a, e6b, e6c, e7a, e7b, e7c]
      rfl
    · match i with
      | 0 => exact o0
      | 1 => exact o1
      | 2 => exact o2
      | 3 => exact o3
      | 4 => exact o4
      | 5 => exact o5
      | 6 => exact o6
      | 7 => exact o7
      | _ + 8 => exact fun k => (match k with | 0 => (by decide : -128 ≤ (0 : Int) ∧ (0 : Int) ≤ 127) | 1 => (by decide : -128 ≤ (0 : Int) ∧ (0 : Int) ≤ 127) | _ + 2 => (by decide : -128 ≤ (0 : Int) ∧ (0 : Int) ≤ 127) : -128 ≤ (⟨0, 0, 0⟩ : I3).at k ∧ (⟨0, 0, 0⟩ : I3).at k ≤ 127)
end
end Go.Proofs.YtaakmdjicocjpaaGreatDoor

namespace Go.Proofs.YtaakmdjicocjpaaGreatDoor
open Go.ChangeShapes Go.WideShapes Go.ChangeAt Go.WideMaps Go.WideElems Go.RowKit
theorem and_t {a b : Bool} (ha : a = true) (hb : b = true) : (a && b) = true := by rw [ha, hb]; rfl
theorem fct_maps : mapsRowed Tryz.prog = true := by kernel_rfl
theorem fct_stops : (Tryz.prog.stops == []) = true := by kernel_rfl
theorem fct_knobs : (Tryz.prog.stopKnobs == []) = true := by kernel_rfl
theorem fct_keys : (Rows.scaleSubsetsRow.plainKeys == Tryz.prog.plainKeys) = true := by kernel_rfl
theorem fct_heard : Tryz.prog.stopsHeard = true := by kernel_rfl
theorem fct_enter : Tryz.prog.mayEnter = true := by kernel_rfl
theorem fct_lifts : (Rows.scaleSubsetsRow.lifted == Tryz.prog.liftsFinal) = true := by kernel_rfl
theorem fct_make : (Tryz.prog.make == some Rows.scaleSubsetsRow.make) = true := by kernel_rfl
end Go.Proofs.YtaakmdjicocjpaaGreatDoor
