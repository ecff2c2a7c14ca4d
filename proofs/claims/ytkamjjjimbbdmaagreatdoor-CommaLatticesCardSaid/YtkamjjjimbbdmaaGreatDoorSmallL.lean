/- The walk of the law CommaSmallest. -/
import Derived.Test.YtkamjjjimbbdmaaGreatDoorLess
import Derived.BigRegion
namespace Go.Proofs.YtkamjjjimbbdmaaGreatDoor
open Go.RowKit Go.Lib Go.Shelf Go.Sort

theorem rwL_take {w : World} {B : Nat} {a : Option Addr} {c k : Nat} {rs : List Rw} (h : RwL w B (.slice a rs.length c) rs) (hk : k ≤ rs.length) : RwL w B (.slice a k c) (rs.take k) := by
  refine ⟨?_, fun r hr => h.2 r (List.mem_of_mem_take hr)⟩
  have e : rwc (rs.take k) = (rwc rs).take k := by simp [rwc]
  have hl : (rs.take k).length = k := by rw [List.length_take]; omega
  rw [e, hl]
  rcases h.1.2 with ⟨e0, h0⟩ | ⟨g, cap, cur, e0, _⟩
  · injection e0 with e1 e2 e3
    subst e1; subst e3
    have : k = 0 := by omega
    subst this
    rw [List.take_zero]
    exact World.ownsRow_nil _ _ _ 1
  · injection e0 with e1 e2 e3
    subst e1; subst e3
    exact own_cut h.1 hk
theorem prc_set : ∀ (l : List (Nat × Nat)) (k : Nat) (e : Nat × Nat), prc (l.set k e) = ((prc l).set (k * 2) (.int .i64 (e.1 : Int))).set (k * 2 + 1) (.int .i64 (e.2 : Int))
  | [], k, e => by simp [prc]
  | a :: r, 0, e => by simp [prc]
  | a :: r, k + 1, e => by
    have := prc_set r k e
    rw [show (k + 1) * 2 = k * 2 + 1 + 1 by omega]
    simp only [List.set_cons_succ, prc, List.flatMap_cons, List.cons_append, List.nil_append] at this ⊢
    rw [this]
theorem rwL_put {w : World} {B g cg k : Nat} {rs : List Rw} {r : Rw} (hs : RwL w B (.slice (some ⟨g, 0, none⟩) rs.length cg) rs) (hr : OwnI w B r.u r.x) : RwL (w.setCell ⟨g, k, none⟩ r.u) B (.slice (some ⟨g, 0, none⟩) rs.length cg) (rs.set k r) ∧ w.grownBy (w.setCell ⟨g, k, none⟩ r.u) (some g) := by
  obtain ⟨h1, hg⟩ := World.ownsRow.stored hs.1 k r.u
  refine ⟨⟨?_, fun s hmem => ?_⟩, hg⟩
  · rw [List.length_set, show rwc (rs.set k r) = (rwc rs).set k r.u by simp [rwc, List.map_set]]
    exact h1
  · have hm : OwnI w B s.u s.x := by
      rcases List.mem_or_eq_of_mem_set hmem with h | h
      · exact hs.2 s h
      · rw [h]; exact hr
    exact World.ownsRow.kept hm hg (own_ne hm hs.1 (by decide))
theorem rwL_keep {w w' : World} {B p n c : Nat} {v : Value} {rs : List Rw} {xs : List Value} (hs : RwL w B v rs) (hp : w.ownsRow B 47 2 (.slice (some ⟨p, 0, none⟩) n c) n xs) (hg : w.grownBy w' (some p)) : RwL w' B v rs :=
  ⟨World.ownsRow.kept hs.1 hg (own_ne hs.1 hp (by decide)), fun r hr => World.ownsRow.kept (hs.2 r hr) hg (own_ne (hs.2 r hr) hp (by decide))⟩
theorem swap_two {V w : World} {g p n cg cp k j : Nat} {fs : List (Rw × Nat × Nat)} {x y : Rw × Nat × Nat} (hV : Ext V w) (hn : fs.length = n) (ht : Two w V.heap.size (.slice (some ⟨g, 0, none⟩) n cg) (.slice (some ⟨p, 0, none⟩) n cp) fs) (hx : x ∈ fs) (hy : y ∈ fs) {W : World}
    (hW : W = (((((w.setCell ⟨g, k, none⟩ y.1.u).setCell ⟨g, j, none⟩ x.1.u).setCell ⟨p, k * 2, none⟩ (.int .i64 (y.2.1 : Int))).setCell ⟨p, k * 2 + 1, none⟩ (.int .i64 (y.2.2 : Int))).setCell ⟨p, j * 2, none⟩ (.int .i64 (x.2.1 : Int))).setCell ⟨p, j * 2 + 1, none⟩ (.int .i64 (x.2.2 : Int))) :
    Two W V.heap.size (.slice (some ⟨g, 0, none⟩) n cg) (.slice (some ⟨p, 0, none⟩) n cp) ((fs.set k y).set j x) ∧ Ext V W := by
  have hr0 := ht.rows
  have hp0 : w.ownsRow V.heap.size 47 2 (.slice (some ⟨p, 0, none⟩) n cp) (fs.map (·.2)).length (prc (fs.map (·.2))) := ht.prs
  rw [List.length_map, hn] at hp0
  have hn1 : (fs.map (·.1)).length = n := by rw [List.length_map, hn]
  rw [← hn1] at hr0
  have hgB := own_blk hr0.1
  have hpB := own_blk hp0
  have hxo := ht.rows.2 x.1 (List.mem_map_of_mem (f := (·.1)) hx)
  obtain ⟨hr1, hg1⟩ := rwL_put (k := k) hr0 (ht.rows.2 y.1 (List.mem_map_of_mem (f := (·.1)) hy))
  have hp1 := World.ownsRow.kept hp0 hg1 (own_ne hp0 hr0.1 (by decide))
  have hE1 : Ext V (w.setCell ⟨g, k, none⟩ y.1.u) := hV.setCell (p := ⟨g, k, none⟩) hgB _
  have hxo1 : OwnI (w.setCell ⟨g, k, none⟩ y.1.u) V.heap.size x.1.u x.1.x := World.ownsRow.kept hxo hg1 (own_ne hxo hr0.1 (by decide))
  rw [show (fs.map (·.1)).length = ((fs.map (·.1)).set k y.1).length by rw [List.length_set]] at hr1
  generalize w.setCell ⟨g, k, none⟩ y.1.u = w1 at *
  obtain ⟨hr2, hg2⟩ := rwL_put (k := j) hr1 hxo1
  have hp2 := World.ownsRow.kept hp1 hg2 (own_ne hp1 hr1.1 (by decide))
  have hE2 : Ext V (w1.setCell ⟨g, j, none⟩ x.1.u) := hE1.setCell (p := ⟨g, j, none⟩) hgB _
  generalize w1.setCell ⟨g, j, none⟩ x.1.u = w2 at *
  obtain ⟨hp3, hg3⟩ := World.ownsRow.stored hp2 (k * 2) (.int .i64 (y.2.1 : Int))
  have hr3 := rwL_keep hr2 hp2 hg3
  have hE3 : Ext V (w2.setCell ⟨p, k * 2, none⟩ (.int .i64 (y.2.1 : Int))) := hE2.setCell (p := ⟨p, k * 2, none⟩) hpB _
  generalize w2.setCell ⟨p, k * 2, none⟩ (.int .i64 (y.2.1 : Int)) = w3 at *
  obtain ⟨hp4, hg4⟩ := World.ownsRow.stored hp3 (k * 2 + 1) (.int .i64 (y.2.2 : Int))
  have hr4 := rwL_keep hr3 hp3 hg4
  have hE4 : Ext V (w3.setCell ⟨p, k * 2 + 1, none⟩ (.int .i64 (y.2.2 : Int))) := hE3.setCell (p := ⟨p, k * 2 + 1, none⟩) hpB _
  generalize w3.setCell ⟨p, k * 2 + 1, none⟩ (.int .i64 (y.2.2 : Int)) = w4 at *
  obtain ⟨hp5, hg5⟩ := World.ownsRow.stored hp4 (j * 2) (.int .i64 (x.2.1 : Int))
  have hr5 := rwL_keep hr4 hp4 hg5
  have hE5 : Ext V (w4.setCell ⟨p, j * 2, none⟩ (.int .i64 (x.2.1 : Int))) := hE4.setCell (p := ⟨p, j * 2, none⟩) hpB _
  generalize w4.setCell ⟨p, j * 2, none⟩ (.int .i64 (x.2.1 : Int)) = w5 at *
  obtain ⟨hp6, hg6⟩ := World.ownsRow.stored hp5 (j * 2 + 1) (.int .i64 (x.2.2 : Int))
  have hr6 := rwL_keep hr5 hp5 hg6
  have hE6 : Ext V (w5.setCell ⟨p, j * 2 + 1, none⟩ (.int .i64 (x.2.2 : Int))) := hE5.setCell (p := ⟨p, j * 2 + 1, none⟩) hpB _
  generalize w5.setCell ⟨p, j * 2 + 1, none⟩ (.int .i64 (x.2.2 : Int)) = w6 at *
  subst hW
  refine ⟨⟨?_, ?_⟩, hE6⟩
  · rw [List.length_set, List.length_map, hn] at hr6
    rw [List.map_set, List.map_set]
    exact hr6
  · unfold PrL
    rw [List.map_set, List.map_set, prc_set, prc_set, List.length_set, List.length_set, List.length_map, hn]
    exact hp6
/-- The state of the outer loop. -/
def SOut (V : World) (v u : Value) (e0 : List (Rw × Nat × Nat)) (iv : Value) (wr : World) : Prop :=
  ∃ (i : Nat) (es : List (Rw × Nat × Nat)), iv = .int .i64 ((i : Int) + 1) ∧ (i < e0.length ∨ i = 0) ∧ es.Perm e0 ∧ SrtTo (es.map (·.2)) (i + 1) ∧ Two wr V.heap.size v u es ∧ Ext V wr
def SIn (V : World) (v u : Value) (e0 : List (Rw × Nat × Nat)) (i : Nat) (kv : Value) (wr : World) : Prop :=
  ∃ (k : Nat) (es : List (Rw × Nat × Nat)), kv = .int .i64 (k : Int) ∧ k ≤ i + 1 ∧ es.Perm e0 ∧ SrtAt (es.map (·.2)) (i + 1) k ∧ Two wr V.heap.size v u es ∧ Ext V wr

set_option maxRecDepth 100000 in
set_option maxHeartbeats 3000000 in
theorem small_yes (n q h cnt : Nat) (a b c d : Int) (w : World) (ex : List (List Int × Nat × Nat)) (hc : cnt ≤ 100) (hR : ex.length ≤ 8450) (hRl : ∀ e ∈ ex, e.1.length ≤ 1000 ∧ e.2.1 ≤ 130 ∧ e.2.2 ≤ 130 ∧ 0 < e.2.2)
    (hmk : ∀ W, Ext w W → Calls Tryz.prog 12 #[.agg #[.int .u8 n, .int .i8 a, .int .i8 b, .int .i8 c, .int .i8 d, .int .u8 h]] W fun e w' => ∃ vp vx, e = .returned (.tuple #[.agg #[vp, .int .i64 (q : Int), vx], .bool true]) ∧ OwnI w' W.heap.size vp (ints (tenP n)) ∧ OwnI w' W.heap.size vx (planX n [a, b, c, d]) ∧ Ext W w')
    (hkn : ∀ W, Ext w W → Calls Tryz.prog 13 #[] W fun e w' => e = .returned (.bool true) ∧ Ext W w')
    (hsml : ∀ W vp vx, Ext w W → Sl W vp (i64s (ints (tenP n))) → Sl W vx (i64s (planX n [a, b, c, d])) → Calls Tryz.prog 17 #[.agg #[vp, .int .i64 (q : Int), vx], .int .i64 (cnt : Int)] W fun e w' => ∃ v rs, e = .returned (.tuple #[v, .int .i64 0]) ∧ RwL w' W.heap.size v rs ∧ (∀ es : List (Rw × Nat × Nat), (es.map fun e => (e.1.x, e.2)).Perm ex → SrtTo (es.map (·.2)) es.length → rs.map Rw.x = (es.map (·.1.x)).take cnt) ∧ Ext W w')
    (hlst : ∀ W vp vx, Ext w W → Sl W vp (i64s (ints (tenP n))) → Sl W vx (i64s (planX n [a, b, c, d])) → Calls Tryz.prog 15 #[.agg #[vp, .int .i64 (q : Int), vx]] W fun e w' => ∃ v u es, e = .returned (.tuple #[v, u]) ∧ Two w' W.heap.size v u es ∧ (es.map fun e => (e.1.x, e.2)) = ex ∧ Ext W w') :
    Calls Tryz.prog 4 #[.agg #[.int .u8 n, .int .i8 a, .int .i8 b, .int .i8 c, .int .i8 d, .int .u8 h], .int .i8 cnt] w fun e w' => e = .returned (.bool true) ∧ Ext w w' := by
  have hsame := fun W va vb x y (h1 : Mat W va x) (h2 : Mat W vb y) (h3 : x.length ≤ 1000000) (h4 : y.length ≤ 1000000) (h5 : ∀ i, (x.getD i []).length ≤ 1000000) (h6 : ∀ i, (y.getD i []).length ≤ 1000000) => same16_c va vb x y W h1 h2 h3 h4 h5 h6
  have Hmk := Lib.hid hmk; have Hkn := Lib.hid hkn; have Hsml := Lib.hid hsml; have Hlst := Lib.hid hlst; have Hsame := Lib.hid hsame; have HRl := Lib.hid hRl
  clear hmk hkn hsml hlst hsame hRl
  have hE0 : Ext w (w.alloc (.cells #[.int .u8 n, .int .i8 a, .int .i8 b, .int .i8 c, .int .i8 d, .int .u8 h] 27)) := (Ext.refl w).alloc _
  have HE0 := Lib.hid hE0; clear hE0
  go_enter Tryz.func4, Tryz.ntmps4
  go_wp2_with fail
  generalize w.alloc (.cells #[.int .u8 n, .int .i8 a, .int .i8 b, .int .i8 c, .int .i8 d, .int .u8 h] 27) = W0 at *
  refine (Hmk.out W0 HE0.out).mono ?_
  rintro e W1 ⟨vp, vx, rfl, hvp, hvx, hx1⟩
  obtain ⟨ap, cp, rfl⟩ := own_shape hvp
  obtain ⟨ax, cx, rfl⟩ := own_shape hvx
  have hE1 := HE0.out.trans hx1
  have Hvp := Lib.hid hvp.sl; have Hvx := Lib.hid hvx.sl; have HE1 := Lib.hid hE1; clear hvp hvx hx1 hE1
  have hbq := World.alloc_heap_new W1 (.cells #[.slice ap (ints (tenP n)).length cp, .int .i64 (q : Int), .slice ax (planX n [a, b, c, d]).length cx] 32)
  have hE2 : Ext W1 (W1.alloc (.cells #[.slice ap (ints (tenP n)).length cp, .int .i64 (q : Int), .slice ax (planX n [a, b, c, d]).length cx] 32)) := (Ext.refl W1).alloc _
  have Hbq := Lib.hid hbq; have HE2 := Lib.hid hE2; clear hbq hE2
  go_wp2_with fail
  generalize W1.alloc (.cells #[.slice ap (ints (tenP n)).length cp, .int .i64 (q : Int), .slice ax (planX n [a, b, c, d]).length cx] 32) = W2 at *
  refine (Hkn.out W2 (HE1.out.trans HE2.out)).mono ?_
  rintro e W3 ⟨rfl, hx3⟩
  have hE23 := HE2.out.trans hx3
  obtain ⟨hc0, hc1, hc2⟩ := box3 (hx3.heap Hbq.out)
  have HE23 := Lib.hid hE23; have Hbq3 := Lib.hid (hx3.heap Hbq.out); clear hE23 hx3
  have ht1 : decide ((cnt : Int) < -1) = false := decide_eq_false (by omega)
  have ht2 : decide (101 < (cnt : Int)) = false := decide_eq_false (by omega)
  have ht3 : decide ((cnt : Int) < 0) = false := decide_eq_false (by omega)
  have ht4 : decide (100 < (cnt : Int)) = false := decide_eq_false (by omega)
  go_wp2_with fail
  refine (Hsml.out W3 _ _ (HE1.out.trans HE23.out) (HE23.out.sl Hvp.out) (HE23.out.sl Hvx.out)).mono ?_
  rintro e W4 ⟨v4, rs4, rfl, hrs4, hm4, hx4⟩
  obtain ⟨a4, c4, rfl⟩ := own_shape hrs4.1
  obtain ⟨hd0, hd1, hd2⟩ := box3 (hx4.heap Hbq3.out)
  have hE4 := HE23.out.trans hx4
  have HE4 := Lib.hid hE4; have Hrs4 := Lib.hid hrs4; have Hm4 := Lib.hid hm4; clear hrs4 hm4 hx4 hE4 hc0 hc1 hc2
  go_wp2_with fail
  refine (Hlst.out W4 _ _ (HE1.out.trans HE4.out) (HE4.out.sl Hvp.out) (HE4.out.sl Hvx.out)).mono ?_
  rintro e W5 ⟨v5, u5, e5, rfl, htwo, hm5, hx5⟩
  obtain ⟨a5, c5, rfl⟩ := own_shape htwo.rows.1
  obtain ⟨b5, d5, rfl⟩ := own_shape htwo.prs
  rw [List.length_map] at *
  rw [List.length_map] at *
  have hl5 : e5.length ≤ 8450 := by rw [← hm5, List.length_map] at hR; exact hR
  have Htwo := Lib.hid htwo; have Hm5 := Lib.hid hm5; have Hx5 := Lib.hid hx5; clear htwo hm5 hx5 hd0 hd1 hd2
  go_wp2_with fail
  go_loopw [11] (fun iv wr => SOut W4 (.slice a5 e5.length c5) (.slice b5 e5.length d5) e5 iv wr) (fun iv _ => e5.length + 1 - (intOf iv).toNat)
  case atStart => exact ⟨0, e5, rfl, .inr rfl, List.Perm.refl _, fun a b x y h1 h2 => by omega, Htwo.out, Hx5.out⟩
  case round =>
    obtain ⟨i, es, rfl, hi, hperm, hsrt, htwo, hext⟩ := hrel
    have hel := hperm.length_eq
    have Hperm := Lib.hid hperm; have Hsrt := Lib.hid hsrt; have Htw := Lib.hid htwo; have Hext := Lib.hid hext; have Hel := Lib.hid hel
    clear hperm hsrt htwo hext hel
    by_cases hlt : i + 1 < e5.length
    · have hlti : (i : Int) + 1 < (e5.length : Int) := by omega
      go_wp2_with fail
      go_loopw [12] (fun kv wr => SIn W4 (.slice a5 e5.length c5) (.slice b5 e5.length d5) e5 i kv wr) (fun kv _ => (intOf kv).toNat)
      case atStart => exact ⟨i + 1, es, by simp, Nat.le_refl _, Hperm.out, srt_start Hsrt.out, Htw.out, Hext.out⟩
      case round =>
        rename_i wo _
        obtain ⟨k, fs, rfl, hk, hperm, hsrt, htwo, hext⟩ := hrel
        have hel := hperm.length_eq
        obtain ⟨g, cg, eg, hrw⟩ := own_slice htwo.rows.1 (by rw [List.length_map]; omega)
        injection eg with eg1 eg3 eg2
        subst eg1; subst eg2
        clear eg3
        obtain ⟨p, cq, ep, hpr⟩ := own_slice htwo.prs (by rw [List.length_map]; omega)
        injection ep with ep1 ep3 ep2
        subst ep1; subst ep2
        clear ep3
        have Hperm2 := Lib.hid hperm; have Hsrt2 := Lib.hid hsrt; have Htwo2 := Lib.hid htwo; have Hext2 := Lib.hid hext; have Hel2 := Lib.hid hel; have Hrw := Lib.hid hrw; have Hpr := Lib.hid hpr
        clear hperm hsrt htwo hext hel hrw hpr
        by_cases hk0 : k = 0
        · subst hk0
          have h0 : decide (0 < ((0 : Nat) : Int)) = false := rfl
          have h0' : ¬ (0 : Int) < ((0 : Nat) : Int) := by simp
          go_wp2_with fail
          go_quiet (fail)
          go_wp2_with fail
          go_roundw
          case rel => exact ⟨i + 1, fs, by simp, .inl hlt, Hperm2.out, srt_end0 Hsrt2.out, ((Ext.refl wr).drewN _).two Htwo2.out, Hext2.out.drewN _⟩
          case measure => simp [intOf]; omega
        · obtain ⟨j, hj⟩ : ∃ j, k = j + 1 := ⟨k - 1, by omega⟩
          obtain ⟨x, hx⟩ : ∃ x, fs[k]? = some x := ⟨_, List.getElem?_eq_getElem (by have := Hel2.out; omega)⟩
          obtain ⟨y, hy⟩ : ∃ y, fs[j]? = some y := ⟨_, List.getElem?_eq_getElem (by have := Hel2.out; omega)⟩
          obtain ⟨hx1, hx2⟩ := prc_at _ k x.2 (show (fs.map (·.2))[k]? = some x.2 by rw [List.getElem?_map, hx]; rfl)
          obtain ⟨hy1, hy2⟩ := prc_at _ j y.2 (show (fs.map (·.2))[j]? = some y.2 by rw [List.getElem?_map, hy]; rfl)
          have hcx1 := Hpr.out _ _ hx1
          have hcx2 := Hpr.out _ _ hx2
          have hcy1 := Hpr.out _ _ hy1
          have hcy2 := Hpr.out _ _ hy2
          clear hx1 hx2 hy1 hy2
          have hmx := HRl.out (x.1.x, x.2) (by rw [← Hm5.out]; exact List.mem_map.2 ⟨x, Hperm2.out.mem_iff.1 (List.mem_of_getElem? hx), rfl⟩)
          have hmy := HRl.out (y.1.x, y.2) (by rw [← Hm5.out]; exact List.mem_map.2 ⟨y, Hperm2.out.mem_iff.1 (List.mem_of_getElem? hy), rfl⟩)
          dsimp only at hmx hmy
          have hless := fun W (h : Ext wr W) => less_c x.2.1 x.2.2 y.2.1 y.2.2 W (by omega) (by omega) (by omega) (by omega)
          generalize hx1 : x.2.1 = x1 at *
          generalize hx2 : x.2.2 = x2 at *
          generalize hy1 : y.2.1 = y1 at *
          generalize hy2 : y.2.2 = y2 at *
          obtain ⟨bb, hbb⟩ : ∃ bb, bb = decide (x1 * y2 < y1 * x2) := ⟨_, rfl⟩
          rw [← hbb] at hless
          have Hbb := Lib.hid hbb; clear hbb
          have Hless := Lib.hid hless; have Hx := Lib.hid hx; have Hy := Lib.hid hy; have Hj := Lib.hid hj
          have h0 : decide (0 < (k : Int)) = true := decide_eq_true (by omega)
          have h0' : decide (0 < k) = true := decide_eq_true (by omega)
          have h0n : 0 < k := by omega
          have hk1 : IntKind.i64.wrap ((k : Int) - 1) = (j : Int) := by rw [IntWalk.i64_in _ (by omega)]; omega
          have hk2 : (0 : Int) ≤ (k : Int) := by omega
          have hk3 : (k : Int) < (e5.length : Int) := by omega
          have hk4 : (0 : Int) ≤ (j : Int) := by omega
          have hk5 : (j : Int) < (e5.length : Int) := by omega
          clear hless hx hy hmx hmy hj
          go_wp2_with fail
          go_region_held3 (fun w' => Ext wr w' ∧ w'.cell? ⟨p, k * 2, none⟩  = some (.int .i64 x1) ∧ w'.cell? ⟨p, k * 2 + 1, none⟩ = some (.int .i64 x2) ∧ w'.cell? ⟨p, j * 2, none⟩ = some (.int .i64 y1) ∧ w'.cell? ⟨p, j * 2 + 1, none⟩ = some (.int .i64 y2))
            (first | exact held4 ⟨Ext.refl wr, hcx1, hcx2, hcy1, hcy2⟩ ((Ext.refl wr).drew) | exact held4 (by assumption) hxa)
            (first | (go_at_call 18; refine (Hless.out _ (And.left (by assumption))).mono ?_; rintro e9 V4 ⟨rfl, hxa⟩))
          have hE4 : Ext wr V4 := (Ext.refl wr).drew.trans hxa
          have htw4 := hE4.two Htwo2.out
          have hxt4 := Hext2.out.trans hE4
          have hj := Hj.out
          cases bb with
          | false =>
            have Htw4 := Lib.hid htw4; have Hxt4 := Lib.hid hxt4; clear htw4 hxt4 hxa hE4 hj
            go_wp2_with fail
            go_roundw
            case rel =>
              have hj := Hj.out
              subst hj
              refine ⟨i + 1, fs, by simp, .inl hlt, Hperm2.out, srt_end (x := x.2) (y := y.2) Hsrt2.out (by rw [List.getElem?_map, Hx.out]; rfl) (by rw [List.getElem?_map, Hy.out]; rfl) ?_ ?_, Htw4.out, Hxt4.out⟩
              · have := of_decide_eq_false Hbb.out.symm
                unfold lePr
                rw [hx1, hx2, hy1, hy2]
                omega
              · intro e he
                obtain ⟨z, hz, rfl⟩ := List.mem_map.1 he
                exact (HRl.out (z.1.x, z.2) (by rw [← Hm5.out]; exact List.mem_map.2 ⟨z, Hperm2.out.mem_iff.1 hz, rfl⟩)).2.2.2
            case measure => simp [intOf]; omega
          | true =>
            obtain ⟨g', cg', eg, hrw4⟩ := own_slice htw4.rows.1 (by rw [List.length_map]; have := Hel2.out; omega)
            injection eg with eg1 eg3 eg2
            injection eg1 with eg1
            injection eg1 with eg1
            subst eg1; subst eg2
            clear eg3
            have hrk := hrw4 k x.1.u (by simp [rwc, Hx.out])
            have hrj := hrw4 j y.1.u (by simp [rwc, Hy.out])
            obtain ⟨hE4', hpk1, hpk2, hpj1, hpj2⟩ := held4 ⟨Ext.refl wr, hcx1, hcx2, hcy1, hcy2⟩ hE4
            have hrr := htw4.rows.1
            have hpp : V4.ownsRow W4.heap.size 47 2 (.slice (some ⟨p, 0, none⟩) e5.length d5) (fs.map (·.2)).length (prc (fs.map (·.2))) := htw4.prs
            rw [List.length_map, Hel2.out] at hrr
            rw [List.length_map, Hel2.out] at hpp
            have hfg : ∀ t, V4.frozen? ⟨g, t, none⟩ = false := fun t => World.ownsRow.frozenAt hrr t
            have hfp : ∀ t, V4.frozen? ⟨p, t, none⟩ = false := fun t => World.ownsRow.frozenAt hpp t
            clear hrr hpp
            have hgp : g ≠ p := by
              rcases own_ne htw4.rows.1 htw4.prs (by decide) with h | h
              · cases h
              · intro e; subst e; exact h rfl
            have hkj : k ≠ j := by omega
            obtain ⟨au, cu, hxu⟩ := own_shape (htw4.rows.2 x.1 (List.mem_map_of_mem (List.mem_of_getElem? Hx.out)))
            obtain ⟨av, cv, hyu⟩ := own_shape (htw4.rows.2 y.1 (List.mem_map_of_mem (List.mem_of_getElem? Hy.out)))
            rw [hxu] at hrk
            rw [hyu] at hrj
            generalize x.1.x.length = lu at *
            generalize y.1.x.length = lv at *
            have Htw4 := Lib.hid htw4; have Hxt4 := Lib.hid hxt4; have Hxu := Lib.hid hxu; have Hyu := Lib.hid hyu; clear htw4 hxt4 hxa hE4 hj hE4' hrw4 hxu hyu hcx1 hcx2 hcy1 hcy2
            generalize V4 = V5 at *
            go_wp2_with fail
            go_region
            generalize hW9 : (((((V5.setCell ⟨g, k, none⟩ (.slice av lv cv)).setCell ⟨g, j, none⟩ (.slice au lu cu)).setCell ⟨p, k * 2, none⟩ (.int .i64 (y1 : Int))).setCell ⟨p, k * 2 + 1, none⟩ (.int .i64 (y2 : Int))).setCell ⟨p, j * 2, none⟩ (.int .i64 (x1 : Int))).setCell ⟨p, j * 2 + 1, none⟩ (.int .i64 (x2 : Int)) = W9 at *
            have hsw := swap_two (k := k) (j := j) Hxt4.out Hel2.out Htw4.out (List.mem_of_getElem? Hx.out) (List.mem_of_getElem? Hy.out) (W := W9) (by rw [← hW9, Hxu.out, Hyu.out, hx1, hx2, hy1, hy2])
            have Hsw := Lib.hid hsw; clear hsw hW9 hrk hrj hpk1 hpk2 hpj1 hpj2 hfg hfp
            go_wp2_with fail
            go_roundw
            case rel =>
              have hj := Hj.out
              subst hj
              refine ⟨j, _, by simp, by omega, (swap_perm Hx.out Hy.out).trans Hperm2.out, ?_, ((Ext.refl W9).drew).two Hsw.out.1, Hsw.out.2.drew⟩
              rw [List.map_set, List.map_set]
              refine srt_swap Hsrt2.out hk (by rw [List.getElem?_map, Hx.out]; rfl) (by rw [List.getElem?_map, Hy.out]; rfl) ?_
              have := of_decide_eq_true Hbb.out.symm
              unfold lePr
              rw [hx1, hx2, hy1, hy2]
              omega
            case measure => have hj := Hj.out; simp [intOf]; omega
    · have hlti : ¬ (i : Int) + 1 < (e5.length : Int) := by omega
      obtain ⟨M, hM1, hM2, hM3⟩ : ∃ M : Nat, min (e5.length : Int) (cnt : Int) = (M : Int) ∧ M ≤ e5.length ∧ M = min cnt e5.length := ⟨min cnt e5.length, by omega, by omega, rfl⟩
      have hrr := Htw.out.rows
      have hln : (es.map (·.1)).length = e5.length := by rw [List.length_map, Hel.out]
      rw [← hln] at hrr
      have hcap := (own_cap hrr.1).1
      rw [hln] at hcap
      have hcut := rwL_take hrr (k := M) (by omega)
      have hmc := hcut.mat
      have hx := Hm4.out es (by rw [← Hm5.out]; exact Hperm.out.map _) (fun a b x y h1 h2 => Hsrt.out a b x y h1 (by have := Hel.out; omega))
      have hcx : ((es.map (·.1)).take M).map Rw.x = rs4.map Rw.x := by
        rw [hx, hM3, List.map_take, List.map_map]
        rcases Nat.le_total cnt e5.length with h | h
        · rw [Nat.min_eq_left h]; rfl
        · rw [Nat.min_eq_right h, List.take_of_length_le (by rw [List.length_map, Hel.out]; exact Nat.le_refl _), List.take_of_length_le (by rw [List.length_map, Hel.out]; exact h)]; rfl
      rw [hcx] at hmc
      have hm4 := (Hext.out.rwL Hrs4.out).mat
      have hlr : (rs4.map Rw.x).length ≤ 8450 := by rw [hx, List.length_take, List.length_map, Hel.out]; omega
      have hrl : ∀ r ∈ rs4.map Rw.x, r.length ≤ 1000 := fun r hr => by
        rw [hx] at hr
        obtain ⟨e, he, rfl⟩ := List.mem_map.1 (List.mem_of_mem_take hr)
        exact (HRl.out (e.1.x, e.2) (by rw [← Hm5.out]; exact List.mem_map.2 ⟨e, Hperm.out.mem_iff.1 he, rfl⟩)).1
      have hsm := Hsame.out wr _ _ _ _ hm4 hmc (by omega) (by omega) (small_rows hrl) (small_rows hrl)
      rw [show decide (rs4.map Rw.x = rs4.map Rw.x) = true from decide_eq_true rfl] at hsm
      have Hsm := Lib.hid hsm
      have hM4 : max (M : Int) 0 = (M : Int) := by omega
      have hM5 : M ≤ c5 := by omega
      clear hsm hm4 hrl hlr hmc hcx hx hcut hrr hln hM3
      go_wp2_with fail
      refine Hsm.out.mono ?_
      rintro e W9 ⟨rfl, hq9⟩
      have HE9 := Lib.hid (hq9.ext); clear hq9
      go_wp2
      go_ret
      exact ⟨rfl, HE1.out.trans (HE4.out.trans (Hext.out.trans HE9.out))⟩

end Go.Proofs.YtkamjjjimbbdmaaGreatDoor
