/- Walk: the law CommaLattices. -/
import Derived.Test.YtkamjjjimbbdmaaGreatDoorHForm
import Derived.Test.YtkamjjjimbbdmaaGreatDoorLeastIn
import Derived.Test.YtkamjjjimbbdmaaGreatDoorFormsC
import Derived.Deep.DeepCutAuto
namespace Go.Proofs.YtkamjjjimbbdmaaGreatDoor
open Go.RowKit Go.Lib Go.Shelf Go.Sort

set_option maxRecDepth 100000 in
set_option maxHeartbeats 4000000 in
theorem latt_no (n q h : Nat) (a b c d a1 b1 c1 d1 a2 b2 c2 d2 : Int) (w : World)
    (hmk : ∀ W, Ext w W → Calls Tryz.prog 12 #[.agg #[.int .u8 n, .int .i8 a, .int .i8 b, .int .i8 c, .int .i8 d, .int .u8 h]] W fun e w' => ∃ vp vx, e = .returned (.tuple #[.agg #[vp, .int .i64 (q : Int), vx], .bool false]) ∧ OwnI w' W.heap.size vp (ints (tenP n)) ∧ OwnI w' W.heap.size vx (planX n [a, b, c, d]) ∧ Ext W w')
    (hkn : ∀ W, Ext w W → Calls Tryz.prog 13 #[] W fun e w' => e = .returned (.bool true) ∧ Ext W w') :
    Calls Tryz.prog 11 #[.agg #[.int .u8 n, .int .i8 a, .int .i8 b, .int .i8 c, .int .i8 d, .int .u8 h], .agg #[.int .i8 a1, .int .i8 b1, .int .i8 c1, .int .i8 d1], .agg #[.int .i8 a2, .int .i8 b2, .int .i8 c2, .int .i8 d2]] w fun e w' => e = .returned (.bool true) ∧ Ext w w' := by
  have Hmk := Lib.hid hmk; have Hkn := Lib.hid hkn
  clear hmk hkn
  have hE0 : Ext w (((w.alloc (.cells #[.int .u8 n, .int .i8 a, .int .i8 b, .int .i8 c, .int .i8 d, .int .u8 h] 27)).alloc (.cells #[.int .i8 a1, .int .i8 b1, .int .i8 c1, .int .i8 d1] 23)).alloc (.cells #[.int .i8 a2, .int .i8 b2, .int .i8 c2, .int .i8 d2] 23)) := (((Ext.refl w).alloc _).alloc _).alloc _
  have HE0 := Lib.hid hE0; clear hE0
  go_enter Tryz.func11, Tryz.ntmps11
  go_wp2_with fail
  generalize ((w.alloc (.cells #[.int .u8 n, .int .i8 a, .int .i8 b, .int .i8 c, .int .i8 d, .int .u8 h] 27)).alloc (.cells #[.int .i8 a1, .int .i8 b1, .int .i8 c1, .int .i8 d1] 23)).alloc (.cells #[.int .i8 a2, .int .i8 b2, .int .i8 c2, .int .i8 d2] 23) = W0 at *
  refine (Hmk.out W0 HE0.out).mono ?_
  rintro e W1 ⟨vp, vx, rfl, hvp, hvx, hx1⟩
  obtain ⟨ap, cp, rfl⟩ := own_shape hvp
  obtain ⟨ax, cx, rfl⟩ := own_shape hvx
  have hE1 := HE0.out.trans hx1
  have hE2 : Ext w (W1.alloc (.cells #[.slice ap (ints (tenP n)).length cp, .int .i64 (q : Int), .slice ax (planX n [a, b, c, d]).length cx] 32)) := hE1.alloc _
  have HE2 := Lib.hid hE2; clear hvp hvx hx1 hE1 hE2
  go_wp2_with fail
  generalize W1.alloc (.cells #[.slice ap (ints (tenP n)).length cp, .int .i64 (q : Int), .slice ax (planX n [a, b, c, d]).length cx] 32) = W2 at *
  refine (Hkn.out W2 HE2.out).mono ?_
  rintro e W3 ⟨rfl, hx3⟩
  have HE3 := Lib.hid (HE2.out.trans hx3); clear hx3
  go_wp2_with fail
  refine (Hkn.out W3 HE3.out).mono ?_
  rintro e W4 ⟨rfl, hx4⟩
  have HE4 := Lib.hid (HE3.out.trans hx4); clear hx4
  go_wp2
  go_ret
  exact ⟨rfl, HE4.out⟩

theorem mat_two {w : World} {vx vy : Value} {x y : List Int} (hx : Sl w vx (i64s x)) (hy : Sl w vy (i64s y)) : Mat (w.alloc (.cells #[vx, vy] 30)) (.slice (some ⟨w.heap.size, 0, none⟩) 2 2) [x, y] := by
  refine ⟨[vx, vy], rfl, .inr ⟨w.heap.size, 0, 2, rfl, Nat.le_refl _, by unfold maxLen; omega, ?_⟩, ?_⟩
  · intro i u hu
    match i, hu with
    | 0, hu => simp at hu; subst hu; exact two_new0 w vx vy _
    | 1, hu => simp at hu; subst hu; exact two_new1 w vx vy _
    | i + 2, hu => simp at hu
  · intro i u hu
    match i, hu with
    | 0, hu => simp at hu; subst hu; exact ((Ext.refl w).alloc _).sl hx
    | 1, hu => simp at hu; subst hu; exact ((Ext.refl w).alloc _).sl hy
    | i + 2, hu => simp at hu
/-- How Form ended. -/
def FCase (n : Nat) (B : Nat) (v : Value) (r : Int) (w' : World) : Prop :=
  (r = 0 ∧ ∃ rs, RwL w' B v rs ∧ rs.length ≤ 2 ∧ tChk (rs.map Rw.x) = 0 ∧ isFm (rs.map Rw.x) = true ∧ ∀ s ∈ rs, s.x.length = n) ∨ (r = 4 ∧ v = .slice none 0 0)
theorem hform2_c (va vb : Value) (x y : List Int) (n : Nat) (w : World) (he : Env w) (hr : RngV w) (hx : Sl w va (i64s x)) (hy : Sl w vb (i64s y)) (hlx : x.length = n) (hly : y.length = n) (hnp : 0 < n) (hn : n ≤ 12) (hbx : ∀ z ∈ x, z.natAbs ≤ 999) (hby : ∀ z ∈ y, z.natAbs ≤ 999) :
    Calls Tryz.prog 34 #[.slice (some ⟨w.heap.size, 0, none⟩) 2 2] (w.alloc (.cells #[va, vb] 30)) fun e w' => ∃ v r, e = .returned (.tuple #[v, .int .i64 r]) ∧ FCase n w.heap.size v r w' ∧ Ext (w.alloc (.cells #[va, vb] 30)) w' := by
  have hE : Ext w (w.alloc (.cells #[va, vb] 30)) := (Ext.refl w).alloc _
  refine (hform_c _ [x, y] n _ (he.ext hE) (hr.ext hE) (mat_two hx hy) rfl (fun r hr => ?_) hnp hn (fun r hr => ?_)).mono ?_
  · simp at hr; rcases hr with rfl | rfl <;> assumption
  · simp at hr; rcases hr with rfl | rfl <;> assumption
  · rintro e w' ⟨hp, hx2⟩
    rcases hp with ⟨v, rs, rfl, h1, h2, h3, h4, h5⟩ | rfl
    · exact ⟨_, _, rfl, .inl ⟨rfl, rs, ⟨own_mono h1.1 hE.size, fun r hr => own_mono (h1.2 r hr) hE.size⟩, h2, h3, h4, h5⟩, hx2⟩
    · exact ⟨_, _, rfl, .inr ⟨rfl, rfl⟩, hx2⟩
theorem held9 {V w w' : World} {a1 a2 a3 a4 a5 a6 a7 a8 a9 : Addr} {u1 u2 u3 u4 u5 u6 u7 u8 u9 : Value} (h : Ext V w ∧ w.cell? a1 = some u1 ∧ w.cell? a2 = some u2 ∧ w.cell? a3 = some u3 ∧ w.cell? a4 = some u4 ∧ w.cell? a5 = some u5 ∧ w.cell? a6 = some u6 ∧ w.cell? a7 = some u7 ∧ w.cell? a8 = some u8 ∧ w.cell? a9 = some u9) (hx : Ext w w') :
    Ext V w' ∧ w'.cell? a1 = some u1 ∧ w'.cell? a2 = some u2 ∧ w'.cell? a3 = some u3 ∧ w'.cell? a4 = some u4 ∧ w'.cell? a5 = some u5 ∧ w'.cell? a6 = some u6 ∧ w'.cell? a7 = some u7 ∧ w'.cell? a8 = some u8 ∧ w'.cell? a9 = some u9 :=
  ⟨h.1.trans hx, hx.cell h.2.1, hx.cell h.2.2.1, hx.cell h.2.2.2.1, hx.cell h.2.2.2.2.1, hx.cell h.2.2.2.2.2.1, hx.cell h.2.2.2.2.2.2.1, hx.cell h.2.2.2.2.2.2.2.1, hx.cell h.2.2.2.2.2.2.2.2.1, hx.cell h.2.2.2.2.2.2.2.2.2⟩
theorem FCase.mono {n B B' : Nat} {v : Value} {r : Int} {w' : World} (h : FCase n B v r w') (hB : B' ≤ B) : FCase n B' v r w' := by
  rcases h with ⟨h0, rs, h1, h2⟩ | h
  · exact .inl ⟨h0, rs, ⟨own_mono h1.1 hB, fun r hr => own_mono (h1.2 r hr) hB⟩, h2⟩
  · exact .inr h
def LatCut (n : Nat) (w : World) (v9 v10 : Value) (w' : World) : Prop := ∃ r : Int, v10 = .int .i64 r ∧ FCase n w.heap.size v9 r w' ∧ Ext w w'
theorem ivl_abs {n : Nat} {l : List Int} : ∀ z ∈ ivl n l, z.natAbs ≤ 999 := fun z hz => by
  unfold ivl at hz
  obtain ⟨i, _, rfl⟩ := List.mem_map.1 hz
  have := tmod_ten (nthI l i)
  omega

def FourAt (w : World) (b : Nat) (x y z u : Int) : Prop := w.heap[b]? = some (.cells #[.int .i8 x, .int .i8 y, .int .i8 z, .int .i8 u] 23 (0, 0))
theorem FourAt.ext {w w' : World} (hx : Ext w w') {b : Nat} {x y z u : Int} (h : FourAt w b x y z u) : FourAt w' b x y z u := hx.heap h
theorem FourAt.cells {w : World} {b : Nat} {x y z u : Int} (h : FourAt w b x y z u) : w.cell? ⟨b, 0, none⟩ = some (.int .i8 x) ∧ w.cell? ⟨b, 1, none⟩ = some (.int .i8 y) ∧ w.cell? ⟨b, 2, none⟩ = some (.int .i8 z) ∧ w.cell? ⟨b, 3, none⟩ = some (.int .i8 u) :=
  ⟨row_cell (us := [_, _, _, _]) h rfl, row_cell (us := [_, _, _, _]) h rfl, row_cell (us := [_, _, _, _]) h rfl, row_cell (us := [_, _, _, _]) h rfl⟩

set_option maxRecDepth 100000 in
set_option maxHeartbeats 8000000 in
theorem latt_yes (n q h : Nat) (a b c d a1 b1 c1 d1 a2 b2 c2 d2 : Int) (w : World) (he : Env w) (hrv : RngV w) (h1 : ∀ z ∈ [a1, b1, c1, d1], -128 ≤ z ∧ z ≤ 127) (h2 : ∀ z ∈ [a2, b2, c2, d2], -128 ≤ z ∧ z ≤ 127) (R : List (List Int)) (hR : R.length ≤ 8450) (hRe : ∀ r ∈ R, r.length = (tenP n).length ∧ rowChk r = 0)
    (hmk : ∀ W, Ext w W → Calls Tryz.prog 12 #[.agg #[.int .u8 n, .int .i8 a, .int .i8 b, .int .i8 c, .int .i8 d, .int .u8 h]] W fun e w' => ∃ vp vx, e = .returned (.tuple #[.agg #[vp, .int .i64 (q : Int), vx], .bool true]) ∧ OwnI w' W.heap.size vp (ints (tenP n)) ∧ OwnI w' W.heap.size vx (planX n [a, b, c, d]) ∧ Ext W w')
    (hkn : ∀ W, Ext w W → Calls Tryz.prog 13 #[] W fun e w' => e = .returned (.bool true) ∧ Ext W w')
    (hck : ∀ W vp vx, Ext w W → Sl W vp (i64s (ints (tenP n))) → Sl W vx (i64s (planX n [a, b, c, d])) → Calls Tryz.prog 33 #[.agg #[vp, .int .i64 (q : Int), vx]] W fun e w' => e = .returned (.int .i64 0) ∧ Ext W w')
    (hli : ∀ W vp vx, Ext w W → Sl W vp (i64s (ints (tenP n))) → Sl W vx (i64s (planX n [a, b, c, d])) → Calls Tryz.prog 14 #[.agg #[vp, .int .i64 (q : Int), vx]] W fun e w' => ∃ v rs, e = .returned (.tuple #[v, .int .i64 0]) ∧ RwL w' W.heap.size v rs ∧ rs.map Rw.x = R ∧ Ext W w')
    (hls : ∀ W vp vx, Ext w W → Sl W vp (i64s (ints (tenP n))) → Sl W vx (i64s (planX n [a, b, c, d])) → Calls Tryz.prog 15 #[.agg #[vp, .int .i64 (q : Int), vx]] W fun e w' => ∃ a c u rs, e = .returned (.tuple #[.slice a rs.length c, u]) ∧ RwL w' W.heap.size (.slice a rs.length c) rs ∧ rs.map Rw.x = R ∧ Ext W w') :
    Calls Tryz.prog 11 #[.agg #[.int .u8 n, .int .i8 a, .int .i8 b, .int .i8 c, .int .i8 d, .int .u8 h], .agg #[.int .i8 a1, .int .i8 b1, .int .i8 c1, .int .i8 d1], .agg #[.int .i8 a2, .int .i8 b2, .int .i8 c2, .int .i8 d2]] w fun e w' => e = .returned (.bool true) ∧ Ext w w' := by
  obtain ⟨i0, hi, hz0, hz1, hz2⟩ := info_parts info_row
  have hpn := ten_len n
  have hil : (ints (tenP n)).length = (tenP n).length := ints_length _
  have hiv1 := fun W vp (hp : Sl W vp (i64s (ints (tenP n)))) => interval_c vp (ints (tenP n)) a1 b1 c1 d1 W hp (by omega) h1
  have hiv2 := fun W vp (hp : Sl W vp (i64s (ints (tenP n)))) => interval_c vp (ints (tenP n)) a2 b2 c2 d2 W hp (by omega) h2
  have Hmk := Lib.hid hmk; have Hkn := Lib.hid hkn; have Hck := Lib.hid hck; have Hli := Lib.hid hli; have Hls := Lib.hid hls; have Hiv1 := Lib.hid hiv1; have Hiv2 := Lib.hid hiv2; have He := Lib.hid he; have Hrv := Lib.hid hrv; have HRe := Lib.hid hRe; have Hil := Lib.hid hil
  clear hmk hkn hck hli hls hiv1 hiv2 he hrv hRe hil h1 h2
  have hE0 : Ext w (((w.alloc (.cells #[.int .u8 n, .int .i8 a, .int .i8 b, .int .i8 c, .int .i8 d, .int .u8 h] 27)).alloc (.cells #[.int .i8 a1, .int .i8 b1, .int .i8 c1, .int .i8 d1] 23)).alloc (.cells #[.int .i8 a2, .int .i8 b2, .int .i8 c2, .int .i8 d2] 23)) := (((Ext.refl w).alloc _).alloc _).alloc _
  have hA : FourAt (((w.alloc (.cells #[.int .u8 n, .int .i8 a, .int .i8 b, .int .i8 c, .int .i8 d, .int .u8 h] 27)).alloc (.cells #[.int .i8 a1, .int .i8 b1, .int .i8 c1, .int .i8 d1] 23)).alloc (.cells #[.int .i8 a2, .int .i8 b2, .int .i8 c2, .int .i8 d2] 23)) (w.heap.size + 1) a1 b1 c1 d1 :=
    FourAt.ext ((Ext.refl _).alloc _) (by have := World.alloc_heap_new (w.alloc (.cells #[.int .u8 n, .int .i8 a, .int .i8 b, .int .i8 c, .int .i8 d, .int .u8 h] 27)) (.cells #[.int .i8 a1, .int .i8 b1, .int .i8 c1, .int .i8 d1] 23); rwa [World.size_alloc] at this)
  have hB : FourAt (((w.alloc (.cells #[.int .u8 n, .int .i8 a, .int .i8 b, .int .i8 c, .int .i8 d, .int .u8 h] 27)).alloc (.cells #[.int .i8 a1, .int .i8 b1, .int .i8 c1, .int .i8 d1] 23)).alloc (.cells #[.int .i8 a2, .int .i8 b2, .int .i8 c2, .int .i8 d2] 23)) (w.heap.size + 1 + 1) a2 b2 c2 d2 := by
    have := World.alloc_heap_new ((w.alloc (.cells #[.int .u8 n, .int .i8 a, .int .i8 b, .int .i8 c, .int .i8 d, .int .u8 h] 27)).alloc (.cells #[.int .i8 a1, .int .i8 b1, .int .i8 c1, .int .i8 d1] 23)) (.cells #[.int .i8 a2, .int .i8 b2, .int .i8 c2, .int .i8 d2] 23)
    rw [World.size_alloc, World.size_alloc] at this
    exact this
  have HE0 := Lib.hid hE0; have HA := Lib.hid hA; have HB := Lib.hid hB; clear hE0 hA hB
  go_enter Tryz.func11, Tryz.ntmps11
  go_wp2_with fail
  generalize ((w.alloc (.cells #[.int .u8 n, .int .i8 a, .int .i8 b, .int .i8 c, .int .i8 d, .int .u8 h] 27)).alloc (.cells #[.int .i8 a1, .int .i8 b1, .int .i8 c1, .int .i8 d1] 23)).alloc (.cells #[.int .i8 a2, .int .i8 b2, .int .i8 c2, .int .i8 d2] 23) = W0 at *
  refine (Hmk.out W0 HE0.out).mono ?_
  rintro e W1 ⟨vp, vx, rfl, hvp, hvx, hx1⟩
  obtain ⟨ap, cp, rfl⟩ := own_shape hvp
  obtain ⟨ax, cx, rfl⟩ := own_shape hvx
  have hE1 := HE0.out.trans hx1
  have Hvp := Lib.hid hvp.sl; have Hvx := Lib.hid hvx.sl; have HE1 := Lib.hid hE1; have HA1 := Lib.hid (FourAt.ext hx1 HA.out); have HB1 := Lib.hid (FourAt.ext hx1 HB.out); clear hvp hvx hx1 hE1
  have hbq := World.alloc_heap_new W1 (.cells #[.slice ap (ints (tenP n)).length cp, .int .i64 (q : Int), .slice ax (planX n [a, b, c, d]).length cx] 32)
  have hE2 : Ext W1 (W1.alloc (.cells #[.slice ap (ints (tenP n)).length cp, .int .i64 (q : Int), .slice ax (planX n [a, b, c, d]).length cx] 32)) := (Ext.refl W1).alloc _
  have Hbq := Lib.hid hbq; have HE2 := Lib.hid hE2; clear hbq hE2
  go_wp2_with fail
  generalize W1.alloc (.cells #[.slice ap (ints (tenP n)).length cp, .int .i64 (q : Int), .slice ax (planX n [a, b, c, d]).length cx] 32) = W2 at *
  refine (Hkn.out W2 (HE1.out.trans HE2.out)).mono ?_
  rintro e W3 ⟨rfl, hx3⟩
  have hE23 := HE2.out.trans hx3
  have hbq3 := hx3.heap Hbq.out
  obtain ⟨hc0, hc1, hc2⟩ := box3 hbq3
  obtain ⟨qa0, qa1, qa2, qa3⟩ := (FourAt.ext hE23 HA1.out).cells
  obtain ⟨qb0, qb1, qb2, qb3⟩ := (FourAt.ext hE23 HB1.out).cells
  have HE23 := Lib.hid hE23; have Hbq3 := Lib.hid hbq3; clear hE23 hx3 hbq3
  have hiA := fun W (hE : Ext W3 W) => Hiv1.out W _ ((HE23.out.trans hE).sl Hvp.out)
  have hiB := fun W (hE : Ext W3 W) => Hiv2.out W _ ((HE23.out.trans hE).sl Hvp.out)
  have hfo := fun W va vb (hE : Ext W3 W) (hx : Sl W va (i64s (ivl (ints (tenP n)).length [a1, b1, c1, d1]))) (hy : Sl W vb (i64s (ivl (ints (tenP n)).length [a2, b2, c2, d2]))) =>
    hform2_c va vb _ _ (tenP n).length W (He.out.ext ((HE1.out.trans HE23.out).trans hE)) (Hrv.out.ext ((HE1.out.trans HE23.out).trans hE)) hx hy (by rw [ivl_length, Hil.out]) (by rw [ivl_length, Hil.out]) (by omega) (by omega) ivl_abs ivl_abs
  have HiA := Lib.hid hiA; have HiB := Lib.hid hiB; have Hfo := Lib.hid hfo
  clear hiA hiB hfo
  have Hpn := Lib.hid hpn; clear hpn
  go_upto_region 4 with (fail)
  go_cut [9, 10] (fun v9 v10 wx => LatCut (tenP n).length W3 v9 v10 wx)
  case first =>
    go_region_held3 (fun w' => Ext W3 w' ∧ w'.cell? ⟨W1.heap.size, 0, none⟩ = some (.slice ap (ints (tenP n)).length cp) ∧ w'.cell? ⟨w.heap.size + 1, 0, none⟩ = some (.int .i8 a1) ∧ w'.cell? ⟨w.heap.size + 1, 1, none⟩ = some (.int .i8 b1) ∧ w'.cell? ⟨w.heap.size + 1, 2, none⟩ = some (.int .i8 c1) ∧ w'.cell? ⟨w.heap.size + 1, 3, none⟩ = some (.int .i8 d1) ∧ w'.cell? ⟨w.heap.size + 1 + 1, 0, none⟩ = some (.int .i8 a2) ∧ w'.cell? ⟨w.heap.size + 1 + 1, 1, none⟩ = some (.int .i8 b2) ∧ w'.cell? ⟨w.heap.size + 1 + 1, 2, none⟩ = some (.int .i8 c2) ∧ w'.cell? ⟨w.heap.size + 1 + 1, 3, none⟩ = some (.int .i8 d2))
      (first | exact held9 ⟨Ext.refl W3, hc0, qa0, qa1, qa2, qa3, qb0, qb1, qb2, qb3⟩ ((Ext.refl W3).drew) | exact held9 (by assumption) hxa | exact held9 (by assumption) ((Ext.refl _).alloc _))
      (first
        | (go_at_call_of 20 (Value.agg #[.int .i8 a1, .int .i8 b1, .int .i8 c1, .int .i8 d1]); refine (HiA.out _ (And.left (by assumption))).mono ?_; rintro e9 VA ⟨vA, rfl, howA, hxa⟩; obtain ⟨aA, cA, rfl⟩ := own_shape howA; have HowA := Lib.hid howA; have HEA : Hid (Ext W3 VA) := Lib.hid (Ext.trans (And.left (by assumption)) hxa))
        | (go_at_call_of 20 (Value.agg #[.int .i8 a2, .int .i8 b2, .int .i8 c2, .int .i8 d2]); refine (HiB.out _ (And.left (by assumption))).mono ?_; rintro e9 VB ⟨vB, rfl, howB, hxa⟩; obtain ⟨aB, cB, rfl⟩ := own_shape howB; have HowB := Lib.hid howB; have HxB := Lib.hid hxa; have HEB : Hid (Ext W3 VB) := Lib.hid (Ext.trans HEA.out hxa))
        | (go_at_call 34; refine (Hfo.out VB _ _ HEB.out (HxB.out.sl HowA.out.sl) HowB.out.sl).mono ?_; rintro e9 VF ⟨vF, rF, rfl, hcF, hxa⟩; have HcF := Lib.hid hcF; have HxF := Lib.hid hxa))
    all_goals
      have hfin : LatCut (tenP n).length W3 vF (.int .i64 rF) VF := ⟨rF, rfl, HcF.out.mono HEB.out.size, (HEB.out.trans ((Ext.refl VB).alloc _)).trans HxF.out⟩
      have Hfin := Lib.hid hfin; clear hfin
      go_wp2_with fail
      go_meet
      exact Hfin.out
  case rest =>
    obtain ⟨r, rfl, hF, hx4⟩ := hcut
    obtain ⟨hd0, hd1, hd2⟩ := box3 (hx4.heap Hbq3.out)
    have HE4 := Lib.hid (HE23.out.trans hx4); have Hbq4 := Lib.hid (hx4.heap Hbq3.out)
    clear hx4 hc0 hc1 hc2 qa0 qa1 qa2 qa3 qb0 qb1 qb2 qb3
    rcases hF with ⟨rfl, rs, hrs, hr2, hck4, hfm4, hrl4⟩ | ⟨rfl, rfl⟩
    · obtain ⟨af, cf, rfl⟩ := own_shape hrs.1
      have hmat := hrs.mat
      have hml : (rs.map Rw.x).length = rs.length := List.length_map _
      have hrowM : ∀ i, ((rs.map Rw.x).getD i []).length ≤ 1000000 := fun i => by
        rw [List.getD_eq_getElem?_getD, List.getElem?_map]
        cases hi : rs[i]? with
        | none => simp
        | some s => show s.x.length ≤ 1000000; rw [hrl4 s (List.mem_of_getElem? hi)]; have := Hpn.out; omega
      have hfe : formErr (ints (tenP n)).length (rs.map Rw.x) = 0 := by
        unfold formErr
        rw [if_neg (by simpa using hck4), if_neg (by rw [hfm4]; simp), if_neg]
        rintro ⟨g1, g2⟩
        apply g2
        rw [List.getD_eq_getElem?_getD, List.getElem?_map]
        cases hi : rs[0]? with
        | none => rw [List.getElem?_eq_none_iff] at hi; rw [hml] at g1; omega
        | some s => rw [Hil.out]; exact hrl4 s (List.mem_of_getElem? hi)
      generalize hM : rs.map Rw.x = M at *
      have hin := fun W (hE : Ext wc W) => in_w (.slice ap (ints (tenP n)).length cp) (.slice ax (planX n [a, b, c, d]).length cx) (.slice af rs.length cf) (ints (tenP n)) (planX n [a, b, c, d]) M (q : Int) W (He.out.ext ((HE1.out.trans HE4.out).trans hE)) ((HE4.out.trans hE).sl Hvp.out) ((HE4.out.trans hE).sl Hvx.out) (hE.mat hmat) hrowM (by omega)
        (fun W2 h2 => Hck.out W2 _ _ (((HE1.out.trans HE4.out).trans hE).trans h2) (((HE4.out.trans hE).trans h2).sl Hvp.out) (((HE4.out.trans hE).trans h2).sl Hvx.out)) hfe R (by omega) (fun s hs => by rw [Hil.out]; exact HRe.out s hs) (by rw [Hil.out]; have := Hpn.out; omega)
        (fun W2 h2 => Hli.out W2 _ _ (((HE1.out.trans HE4.out).trans hE).trans h2) (((HE4.out.trans hE).trans h2).sl Hvp.out) (((HE4.out.trans hE).trans h2).sl Hvx.out))
      have hfl : (R.filter (inForm M)).length ≤ 8450 := Nat.le_trans (List.length_filter_le _ _) hR
      have hle := fun W (hE : Ext wc W) => leastIn_w ap ax af (ints (tenP n)).length (planX n [a, b, c, d]).length rs.length cp cx cf (q : Int) W (R.filter (inForm M)) (by omega) (fun W2 h2 => hin W2 (hE.trans h2))
      obtain ⟨dd, hdd⟩ : ∃ dd, dd = decide (0 < (R.filter (inForm M)).length) := ⟨_, rfl⟩
      rw [← hdd] at hle
      have Hdd := Lib.hid hdd
      have Hin := Lib.hid hin; have Hle := Lib.hid hle; have Hmat := Lib.hid hmat; have Hck4 := Lib.hid hck4; have Hfm4 := Lib.hid hfm4; have HM := Lib.hid hM; have Hrl4 := Lib.hid hrl4; have Hfl := Lib.hid hfl; have HRl := Lib.hid hR
      clear hin hle hmat hck4 hfm4 hM hrl4 hfl hR hfe hrowM hml hrs hdd
      go_wp2_with fail
      refine (Hin.out wc (Ext.refl wc)).mono ?_
      rintro e W5 ⟨v5, rs5, rfl, hrs5, hm5, hx5⟩
      obtain ⟨a5, c5, rfl⟩ := own_shape hrs5.1
      obtain ⟨he0, he1, he2⟩ := box3 (hx5.heap Hbq4.out)
      have Hrs5 := Lib.hid hrs5; have Hm5 := Lib.hid hm5; have Hx5 := Lib.hid hx5; have Hbq5 := Lib.hid (hx5.heap Hbq4.out)
      clear hrs5 hm5 hx5 hd0 hd1 hd2
      go_wp2_with fail
      refine (Hle.out W5 Hx5.out).mono ?_
      rintro e W6 ⟨u6, rfl, hu6, hx6⟩
      have hsh : ∃ a l c, u6 = .slice a l c := by
        rcases hu6 with ⟨_, rfl⟩ | ⟨_, _, _, h⟩
        · exact ⟨_, _, _, rfl⟩
        · obtain ⟨a7, c7, rfl⟩ := own_shape h
          exact ⟨_, _, _, rfl⟩
      obtain ⟨a6, l6, c6, rfl⟩ := hsh
      obtain ⟨hd0, hd1, hd2⟩ := box3 (hx6.heap Hbq5.out)
      have Hu6 := Lib.hid hu6; have Hx6 := Lib.hid (Hx5.out.trans hx6); have Hrs6 := Lib.hid (hx6.rwL Hrs5.out)
      clear hu6 hx6 he0 he1 he2
      go_wp2_with fail
      refine (Hls.out W6 _ _ ((HE1.out.trans HE4.out).trans Hx6.out) ((HE4.out.trans Hx6.out).sl Hvp.out) ((HE4.out.trans Hx6.out).sl Hvx.out)).mono ?_
      rintro e W7 ⟨a7, c7, u7, es, rfl, hes, hm7, hx7⟩
      have Hes := Lib.hid hes; have Hm7 := Lib.hid hm7; have Hx7 := Lib.hid (Hx6.out.trans hx7); have Hx67 := Lib.hid hx7; have Hrs7 := Lib.hid (hx7.rwL Hrs6.out)
      clear hes hm7 hx7 hd0 hd1 hd2
      have hel : es.length ≤ 8450 := by have := HRl.out; rw [← Hm7.out, List.length_map] at this; exact this
      go_wp2_with fail
      go_loopw [18, 19] (fun v18 v19 wr => ∃ (i : Nat) (ws : List Rw), v19 = .int .i64 (i : Int) ∧ i ≤ es.length ∧ wr.ownsRow W7.heap.size 30 1 v18 ws.length (rwc ws) ∧ (∀ s ∈ ws, s ∈ es) ∧ ws.map Rw.x = ((es.take i).map Rw.x).filter (inForm M) ∧ ws.length ≤ i ∧ Ext W7 wr) (fun _ v19 _ => es.length - (intOf v19).toNat)
      case atStart => exact ⟨0, [], rfl, Nat.zero_le _, World.ownsRow_nil _ _ _ 1, (fun s h => by cases h), rfl, Nat.le_refl _, Ext.refl _⟩
      case round =>
        obtain ⟨i, ws, rfl, hi0, how, hwe, hwx, hwl, hext⟩ := hrel
        obtain ⟨a8, c8, rfl⟩ := own_shape how
        have How := Lib.hid how; have Hwe := Lib.hid hwe; have Hwx := Lib.hid hwx; have Hext := Lib.hid hext
        clear how hwe hwx hext
        by_cases hie : i < es.length
        · obtain ⟨s, hs⟩ : ∃ s, es[i]? = some s := ⟨_, List.getElem?_eq_getElem hie⟩
          obtain ⟨g7, cg7, eg7, hcs7⟩ := own_slice Hes.out.1 (by omega)
          injection eg7 with eg71 _ eg73
          subst eg71; subst eg73
          have hcell := hcs7 i s.u (by simp [rwc, hs])
          have hsm : s ∈ es := List.mem_of_getElem? hs
          have hsR : s.x ∈ R := by rw [← Hm7.out]; exact List.mem_map_of_mem hsm
          have hse := HRe.out s.x hsR
          have hos := Hes.out.2 s hsm
          have hlenM : 0 < M.length → s.x.length = (M.getD 0 []).length := fun g => by
            have g2 : 0 < rs.length := by rw [← HM.out, List.length_map] at g; exact g
            rw [hse.1, ← HM.out, List.getD_eq_getElem?_getD, List.getElem?_map, List.getElem?_eq_getElem g2]
            exact (Hrl4.out _ (List.getElem_mem g2)).symm
          have hcon := fun W (hE : Ext W7 W) => hContainsF_c (.slice af rs.length cf) s.u M s.x W (He.out.ext (((HE1.out.trans HE4.out).trans Hx7.out).trans hE)) ((Hx7.out.trans hE).mat Hmat.out) (hE.ownI hos).sl Hck4.out Hfm4.out hse.2 (by rw [hse.1]; have := Hpn.out; omega) hlenM
          have htk : (es.take (i + 1)).map Rw.x = (es.take i).map Rw.x ++ [s.x] := by
            obtain ⟨hl, he⟩ := List.getElem?_eq_some_iff.1 hs
            rw [List.take_succ_eq_append_getElem hl, List.map_append, he]; rfl
          obtain ⟨au, cu, hu⟩ := own_shape hos
          rw [hu] at hcon
          have hcellr := Hext.out.cell hcell
          rw [hu] at hcellr
          obtain ⟨bb, hbb⟩ : ∃ bb, bb = inForm M s.x := ⟨_, rfl⟩
          rw [← hbb] at hcon
          have Hcon := Lib.hid (hcon wr Hext.out); have Htk := Lib.hid htk; have Hbb := Lib.hid hbb; have Hu := Lib.hid hu; have Hsm := Lib.hid hsm
          clear hcon htk hbb hu hos hse hsR hsm hlenM hcell hcs7 hs
          generalize s.x.length = lu at *
          have hi1 : (0 : Int) ≤ (i : Int) := by omega
          have hi2 : (i : Int) < (es.length : Int) := by omega
          go_wp2_with fail
          refine Hcon.out.mono ?_
          rintro e W8 ⟨rfl, hx8⟩
          have HE8 := Lib.hid (Hext.out.trans hx8)
          have hcell8 := hx8.cell hcellr
          have Ho8 := Lib.hid (hx8.own How.out)
          have hw78 : W7.heap.size ≤ W8.heap.size := HE8.out.size
          clear hx8 hcellr
          cases bb with
          | false =>
            go_wp2_with fail
            go_roundw
            case rel =>
              have hR : i + 1 ≤ es.length ∧ W8.ownsRow W7.heap.size 30 1 (.slice a8 ws.length c8) ws.length (rwc ws) ∧ (∀ s ∈ ws, s ∈ es) ∧ ws.map Rw.x = ((es.take (i + 1)).map Rw.x).filter (inForm M) ∧ ws.length ≤ i + 1 ∧ Ext W7 W8 :=
                ⟨by omega, Ho8.out, Hwe.out, by rw [Htk.out, List.filter_append, Hwx.out]; simp [← Hbb.out], by omega, HE8.out⟩
              first | exact ⟨i + 1, ws, by go_num, hR⟩ | ((repeat apply Exists.intro); exact ⟨⟨i + 1, ws, by go_num, hR⟩, rfl⟩)
            case measure => simp [intOf]; omega
          | true =>
            have hm1 : ws.length + 1 ≤ maxLen := by unfold maxLen; omega
            have hm2 : (ws.length + 1) * 24 ≤ 140737488355328 := by omega
            go_wp2_with (at_builtin; refine wpList_append_own _ rfl _ _ 36 rfl W7.heap.size 30 i0 (.slice none 0 0) 1 24 Tryz.underlying36 hi hz0 hz1 hz2 rfl (by decide) _ _ _ rfl (Ho8.out.alloc _) ⟨W8.heap.size, 0, none⟩ 1 1 [.slice au lu cu] rfl rfl (cell_one_new _ _ _) (by simp [Value.oneCell']) hm1 hm2 (by rw [World.size_alloc]; omega) ?_; intro v9 W9 hown9 hgrow9 _)
            have hE9 : Ext W7 W9 := (HE8.out.alloc _).grown hgrow9 fun q hq => (World.ownsRow.lt Ho8.out q hq).1
            have Hown9 := Lib.hid hown9; have HE9 := Lib.hid hE9
            clear hown9 hE9 hgrow9
            go_wp2_with fail
            go_roundw
            case rel =>
              have hR : i + 1 ≤ es.length ∧ W9.ownsRow W7.heap.size 30 1 v9 (ws ++ [s]).length (rwc (ws ++ [s])) ∧ (∀ s' ∈ ws ++ [s], s' ∈ es) ∧ (ws ++ [s]).map Rw.x = ((es.take (i + 1)).map Rw.x).filter (inForm M) ∧ (ws ++ [s]).length ≤ i + 1 ∧ Ext W7 W9 := by
                refine ⟨by omega, ?_, fun s' h => ?_, ?_, by simp; omega, HE9.out⟩
                · rw [show rwc (ws ++ [s]) = rwc ws ++ [.slice au lu cu] by simp [rwc, Hu.out], List.length_append]
                  exact Hown9.out
                · rcases List.mem_append.1 h with g | g
                  · exact Hwe.out s' g
                  · rw [List.mem_singleton.1 g]; exact Hsm.out
                · rw [Htk.out, List.filter_append, List.map_append, Hwx.out]; simp [← Hbb.out]
              first | exact ⟨i + 1, ws ++ [s], by go_num, hR⟩ | ((repeat apply Exists.intro); exact ⟨⟨i + 1, ws ++ [s], by go_num, hR⟩, rfl⟩)
            case measure => simp [intOf]; omega
        · obtain rfl : i = es.length := by omega
          have hF : ws.map Rw.x = R.filter (inForm M) := by rw [Hwx.out, List.take_length, Hm7.out]
          have hrw : RwL wr 0 (.slice a8 ws.length c8) ws := ⟨own_mono How.out (Nat.zero_le _), fun s hs => own_mono (Hext.out.ownI (Hes.out.2 s (Hwe.out s hs))) (Nat.zero_le _)⟩
          have hmw := hrw.mat
          rw [hF] at hmw
          have hml := (Hext.out.rwL Hrs7.out).mat
          rw [Hm5.out] at hml
          have hFm : ∀ r ∈ R.filter (inForm M), r.length ≤ 1000 := fun r hr => by
            rw [(HRe.out r (List.mem_filter.1 hr).1).1]; have := Hpn.out; omega
          have hsame := same16_c (.slice a5 rs5.length c5) (.slice a8 ws.length c8) (R.filter (inForm M)) (R.filter (inForm M)) wr hml hmw (by have := Hfl.out; omega) (by have := Hfl.out; omega) (small_rows hFm) (small_rows hFm)
          rw [decide_eq_true rfl] at hsame
          have hlF : ws.length = (R.filter (inForm M)).length := by rw [← hF, List.length_map]
          have Hsame := Lib.hid hsame; have HF := Lib.hid hF; have Hrw := Lib.hid hrw; have HlF := Lib.hid hlF; have HFm := Lib.hid hFm
          clear hsame hmw hml hF hrw hlF hFm
          rcases Nat.eq_zero_or_pos ws.length with hz | hz
          · have hd0 : dd = false := by rw [Hdd.out, ← HlF.out, hz]; rfl
            subst hd0
            have hl6 : l6 = 0 := by
              rcases Hu6.out with ⟨_, h⟩ | ⟨r, t, h, _⟩
              · injection h
              · have := HlF.out; rw [h, hz] at this; simp at this
            subst hl6
            have hws : ws = [] := List.eq_nil_of_length_eq_zero hz
            subst hws
            clear hz
            go_wp2_with fail
            refine Hsame.out.mono ?_
            rintro e W10 ⟨rfl, hq10⟩
            have HE10 := Lib.hid (((HE1.out.trans HE4.out).trans Hx7.out).trans (Hext.out.trans hq10.ext)); clear hq10
            go_wp2
            go_ret
            exact ⟨rfl, HE10.out⟩
          · obtain ⟨s, t, hst⟩ : ∃ s t, ws = s :: t := by
              cases ws with
              | nil => exact absurd hz (by simp)
              | cons s t => exact ⟨s, t, rfl⟩
            have hd0 : dd = true := by rw [Hdd.out, ← HlF.out]; exact decide_eq_true hz
            subst hd0
            obtain ⟨r, t2, hr, hown6⟩ : ∃ r t2, R.filter (inForm M) = r :: t2 ∧ OwnI W6 0 (.slice a6 l6 c6) r := by
              rcases Hu6.out with ⟨h, _⟩ | h
              · have := HlF.out; rw [h, List.length_nil] at this; omega
              · exact h
            have hsx : s.x = r := by
              have h1 := HF.out
              rw [hst, hr, List.map_cons] at h1
              injection h1
            have hos := (Hrw.out.2 s (by rw [hst]; exact List.mem_cons_self))
            rw [hsx] at hos
            obtain ⟨g8, cg8, eg8, hcs8⟩ := own_slice How.out hz
            injection eg8 with eg81 _ eg83
            subst eg81; subst eg83
            have hcell := hcs8 0 s.u (by rw [hst]; rfl)
            have hrl : r.length ≤ 1000000 := by
              have := HFm.out r (by rw [hr]; exact List.mem_cons_self)
              omega
            obtain ⟨au, cu, hu⟩ := own_shape hos
            rw [hu] at hos hcell
            have hx67 : Ext W6 wr := Hx67.out.trans Hext.out
            have hs12 := fun W (hE : Ext wr W) => same12_c (.slice a6 l6 c6) (.slice au r.length cu) r r W ((hx67.trans hE).ownI hown6).sl (hE.ownI hos).sl hrl hrl
            rw [decide_eq_true rfl] at hs12
            have Hs12 := Lib.hid hs12; have Hcell := Lib.hid hcell
            have hz2 : (0 : Int) < (ws.length : Int) := by omega
            clear hs12 hcell hos hrl hcs8 hsx hr hst hu hown6
            generalize r.length = lr at *
            generalize ws.length = lw at *
            go_wp2_with fail
            refine Hsame.out.mono ?_
            rintro e W10 ⟨rfl, hq10⟩
            have hcell10 := hq10.ext.cell Hcell.out
            have HE10 := Lib.hid (Hext.out.trans hq10.ext); have Hs2 := Lib.hid (Hs12.out W10 hq10.ext); clear hq10
            go_wp2_with fail
            refine Hs2.out.mono ?_
            rintro e W11 ⟨rfl, hq11⟩
            have HE11 := Lib.hid (((HE1.out.trans HE4.out).trans Hx7.out).trans (HE10.out.trans hq11.ext)); clear hq11
            go_wp2
            go_ret
            exact ⟨rfl, HE11.out⟩
    · go_wp2
      go_ret
      exact ⟨rfl, HE1.out.trans HE4.out⟩

end Go.Proofs.YtkamjjjimbbdmaaGreatDoor
