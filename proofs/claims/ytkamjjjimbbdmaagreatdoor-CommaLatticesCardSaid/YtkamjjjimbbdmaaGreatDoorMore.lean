/- The walk of the law CommaMore. -/
import Derived.Test.YtkamjjjimbbdmaaGreatDoorMoreP
namespace Go.Proofs.YtkamjjjimbbdmaaGreatDoor
open Go.RowKit Go.Lib Go.Shelf Go.Sort

theorem rwL_cut {w : World} {B : Nat} {a : Option Addr} {c k : Nat} {rs : List Rw} (h : RwL w B (.slice a rs.length c) rs) (hk : k ≤ rs.length) : RwL w B (.slice a k c) (rs.take k) := by
  refine ⟨?_, fun r hr => h.2 r (List.mem_of_mem_take hr)⟩
  have e : rwc (rs.take k) = (rwc rs).take k := by simp [rwc]
  have hl : (rs.take k).length = k := by rw [List.length_take]; omega
  rw [e, hl]
  rcases h.1.2 with ⟨e0, h0⟩ | ⟨g, cap, cur, e0, _⟩
  · injection e0 with e1 e2 e3
    subst e1; subst e3
    have : k = 0 := by omega
    subst this
    rw [List.take_zero]
    exact World.ownsRow_nil _ _ _ 1
  · injection e0 with e1 e2 e3
    subst e1; subst e3
    exact own_cut h.1 hk
theorem rwL_off {w : World} {B : Nat} {v : Value} {rs : List Rw} (h : RwL w B v rs) {p : Addr} (hp : p.block < B) (u : Value) : RwL (w.setCell p u) B v rs := ⟨own_off h.1 hp u, fun r hr => own_off (h.2 r hr) hp u⟩

/-- The worlds that the law comes through, up to its tests. -/
def MoreRel (w W : World) (R : List (List Int)) (k : Nat) (v : Value) (wr : World) : Prop := v = .int .i64 k ∧ k ≤ R.length ∧ Ext w W ∧ Ext W wr

set_option maxRecDepth 100000 in
set_option maxHeartbeats 3000000 in
theorem more_yes (n q q2 r2 h g : Nat) (a b c d : Int) (w : World) (R R2 R5 : List (List Int)) (hq1 : 1 ≤ q) (hq : q ≤ 130) (hg : g < 256) (hr2 : g % q = r2) (hq2 : q2 = 1 + r2) (hR : R.length ≤ 8450) (hRl : ∀ r ∈ R, r.length ≤ 1000) (hle : R2.length ≤ R.length) (hpre : R.take R2.length = R2)
    (hmk : ∀ W, Ext w W → Calls Tryz.prog 12 #[.agg #[.int .u8 n, .int .i8 a, .int .i8 b, .int .i8 c, .int .i8 d, .int .u8 h]] W fun e w' => ∃ vp vx, e = .returned (.tuple #[.agg #[vp, .int .i64 (q : Int), vx], .bool true]) ∧ OwnI w' W.heap.size vp (ints (tenP n)) ∧ OwnI w' W.heap.size vx (planX n [a, b, c, d]) ∧ Ext W w')
    (hkn : ∀ W, Ext w W → Calls Tryz.prog 13 #[] W fun e w' => e = .returned (.bool true) ∧ Ext W w')
    (hlist : ∀ W vp vx, Ext w W → Sl W vp (i64s (ints (tenP n))) → Sl W vx (i64s (planX n [a, b, c, d])) → Calls Tryz.prog 14 #[.agg #[vp, .int .i64 (q : Int), vx]] W fun e w' => ∃ v rs, e = .returned (.tuple #[v, .int .i64 0]) ∧ RwL w' W.heap.size v rs ∧ rs.map Rw.x = R ∧ Ext W w')
    (hlist2 : ∀ W vp vx, Ext w W → Sl W vp (i64s (ints (tenP n))) → Sl W vx (i64s (planX n [a, b, c, d])) → Calls Tryz.prog 14 #[.agg #[vp, .int .i64 (q2 : Int), vx]] W fun e w' => ∃ v rs, e = .returned (.tuple #[v, .int .i64 0]) ∧ RwL w' W.heap.size v rs ∧ rs.map Rw.x = R2 ∧ Ext W w')
    (hrec : ∀ W vp vx, Ext w W → Sl W vp (i64s (ints (tenP n))) → Sl W vx (i64s (planX n [a, b, c, d])) → Calls Tryz.prog 25 #[.agg #[vp, .int .i64 (q : Int), vx]] W fun e w' => ∃ v rs, e = .returned (.tuple #[v, .int .i64 0]) ∧ RwL w' W.heap.size v rs ∧ rs.map Rw.x = R5 ∧ Ext W w')
    (hsml : ∀ W vp vx, Ext w W → Sl W vp (i64s (ints (tenP n))) → Sl W vx (i64s (planX n [a, b, c, d])) → Calls Tryz.prog 17 #[.agg #[vp, .int .i64 (q : Int), vx], .int .i64 1] W fun e w' => ∃ v rs, e = .returned (.tuple #[v, .int .i64 0]) ∧ RwL w' W.heap.size v rs ∧ ((R = [] ∧ rs = []) ∨ (R ≠ [] ∧ ∃ z, rs.map Rw.x = [z] ∧ R5.getLast? = some z)) ∧ Ext W w')
    (hsgn : ∀ W vp v z, Ext w W → Sl W vp (i64s (ints (tenP n))) → Sl W v (i64s z) → z ∈ R → Calls Tryz.prog 22 #[vp, v] W fun e w' => e = .returned (.tuple #[.int .i64 1, .int .i64 0]) ∧ Ext W w')
    (h5b : R5.length ≤ 10000) (h5n : R = [] → R5 = []) (h5h : R ≠ [] → R5 ≠ [] ∧ R5.head? = R.head?) (h5l : ∀ r ∈ R5, r.length ≤ 1000) :
    Calls Tryz.prog 7 #[.agg #[.int .u8 n, .int .i8 a, .int .i8 b, .int .i8 c, .int .i8 d, .int .u8 h], .int .u8 g] w fun e w' => e = .returned (.bool true) ∧ Ext w w' := by
  have hsame := fun W va vb x y (h1 : Mat W va x) (h2 : Mat W vb y) (h3 : x.length ≤ 1000000) (h4 : y.length ≤ 1000000) (h5 : ∀ i, (x.getD i []).length ≤ 1000000) (h6 : ∀ i, (y.getD i []).length ≤ 1000000) => same16_c va vb x y W h1 h2 h3 h4 h5 h6
  have hmod : (g : Int) % (q : Int) = (r2 : Int) := by rw [← hr2]; simp
  have hmod2 : (g : Int).tmod (q : Int) = (r2 : Int) := by rw [Int.tmod_eq_emod_of_nonneg (by omega)]; exact hmod
  have hr3 : r2 < q := by rw [← hr2]; exact Nat.mod_lt _ hq1
  have hq3 : 1 + (r2 : Int) = (q2 : Int) := by omega
  have Hmk := Lib.hid hmk; have Hkn := Lib.hid hkn; have Hlist := Lib.hid hlist; have Hlist2 := Lib.hid hlist2; have Hrec := Lib.hid hrec; have Hsml := Lib.hid hsml; have Hsgn := Lib.hid hsgn; have Hsame := Lib.hid hsame
  have H5n := Lib.hid h5n; have H5h := Lib.hid h5h; have H5l := Lib.hid h5l; have HRl := Lib.hid hRl; have Hpre := Lib.hid hpre; have Hmod := Lib.hid hmod; have Hmod2 := Lib.hid hmod2; have Hq3 := Lib.hid hq3
  clear hmk hkn hlist hlist2 hrec hsml hsgn hsame h5n h5h h5l hRl hpre hmod hmod2 hq3 hr2 hq2
  have hE0 : Ext w (w.alloc (.cells #[.int .u8 n, .int .i8 a, .int .i8 b, .int .i8 c, .int .i8 d, .int .u8 h] 27)) := (Ext.refl w).alloc _
  have HE0 := Lib.hid hE0; clear hE0
  go_enter Tryz.func7, Tryz.ntmps7
  go_wp2_with fail
  generalize w.alloc (.cells #[.int .u8 n, .int .i8 a, .int .i8 b, .int .i8 c, .int .i8 d, .int .u8 h] 27) = W0 at *
  refine (Hmk.out W0 HE0.out).mono ?_
  rintro e W1 ⟨vp, vx, rfl, hvp, hvx, hx1⟩
  obtain ⟨ap, cp, rfl⟩ := own_shape hvp
  obtain ⟨ax, cx, rfl⟩ := own_shape hvx
  have hE1 := HE0.out.trans hx1
  have Hvp := Lib.hid hvp.sl; have Hvx := Lib.hid hvx.sl; have HE1 := Lib.hid hE1; clear hvp hvx hx1 hE1
  have hbq := World.alloc_heap_new W1 (.cells #[.slice ap (ints (tenP n)).length cp, .int .i64 (q : Int), .slice ax (planX n [a, b, c, d]).length cx] 32)
  have hE2 : Ext W1 (W1.alloc (.cells #[.slice ap (ints (tenP n)).length cp, .int .i64 (q : Int), .slice ax (planX n [a, b, c, d]).length cx] 32)) := (Ext.refl W1).alloc _
  have Hbq := Lib.hid hbq; have HE2 := Lib.hid hE2; clear hbq hE2
  go_wp2_with fail
  generalize W1.alloc (.cells #[.slice ap (ints (tenP n)).length cp, .int .i64 (q : Int), .slice ax (planX n [a, b, c, d]).length cx] 32) = W2 at *
  have hs12 : W1.heap.size < W2.heap.size := (Array.getElem?_eq_some_iff.1 Hbq.out).1
  refine (Hkn.out W2 (HE1.out.trans HE2.out)).mono ?_
  rintro e W3 ⟨rfl, hx3⟩
  have hE23 := HE2.out.trans hx3
  have hs3 : W1.heap.size < W3.heap.size := Nat.lt_of_lt_of_le hs12 hx3.size
  obtain ⟨hc0, hc1, hc2⟩ := box3 (hx3.heap Hbq.out)
  have HE23 := Lib.hid hE23; have Hbq3 := Lib.hid (hx3.heap Hbq.out); clear hE23 hx3
  go_wp2_with fail
  refine (Hlist.out W3 _ _ (HE1.out.trans HE23.out) (HE23.out.sl Hvp.out) (HE23.out.sl Hvx.out)).mono ?_
  rintro e W4 ⟨v4, rs4, rfl, hrs4, hm4, hx4⟩
  obtain ⟨a4, c4, rfl⟩ := own_shape hrs4.1
  obtain ⟨hd0, hd1, hd2⟩ := box3 (hx4.heap Hbq3.out)
  have hE4 := HE23.out.trans hx4
  have hs4 : W1.heap.size < W4.heap.size := Nat.lt_of_lt_of_le hs3 hx4.size
  have HE4 := Lib.hid hE4; have Hrs4 := Lib.hid hrs4; have Hm4 := Lib.hid hm4; have Hbq4 := Lib.hid (hx4.heap Hbq3.out); clear hrs4 hm4 hx4 hE4 hc0 hc1 hc2
  go_wp2_with fail
  refine (Hrec.out W4 _ _ (HE1.out.trans HE4.out) (HE4.out.sl Hvp.out) (HE4.out.sl Hvx.out)).mono ?_
  rintro e W5 ⟨v5, rs5, rfl, hrs5, hm5, hx5⟩
  obtain ⟨a5, c5, rfl⟩ := own_shape hrs5.1
  obtain ⟨hc0, hc1, hc2⟩ := box3 (hx5.heap Hbq4.out)
  have hE5 := HE4.out.trans hx5
  have hs5 : W1.heap.size < W5.heap.size := Nat.lt_of_lt_of_le hs4 hx5.size
  have hr4 := hx5.rwL Hrs4.out
  have HE5 := Lib.hid hE5; have Hrs5 := Lib.hid hrs5; have Hm5 := Lib.hid hm5; have Hbq5 := Lib.hid (hx5.heap Hbq4.out); have Hr4 := Lib.hid hr4; clear hrs5 hm5 hx5 hE5 hr4 hd0 hd1 hd2
  go_wp2_with fail
  refine (Hsml.out W5 _ _ (HE1.out.trans HE5.out) (HE5.out.sl Hvp.out) (HE5.out.sl Hvx.out)).mono ?_
  rintro e W6 ⟨v6, rs6, rfl, hrs6, hm6, hx6⟩
  obtain ⟨a6, c6, rfl⟩ := own_shape hrs6.1
  obtain ⟨hd0, hd1, hd2⟩ := box3 (hx6.heap Hbq5.out)
  have hbf : W6.frozen? ⟨W1.heap.size, 1, none⟩ = false := by unfold World.frozen?; rw [hx6.heap Hbq5.out]; rfl
  have hE6 := HE5.out.trans hx6
  have hu4 := rwL_off (hx6.rwL Hr4.out) (p := ⟨W1.heap.size, 1, none⟩) hs3 (.int .i64 (q2 : Int))
  have hu5 := rwL_off (hx6.rwL Hrs5.out) (p := ⟨W1.heap.size, 1, none⟩) hs4 (.int .i64 (q2 : Int))
  have hu6 := rwL_off hrs6 (p := ⟨W1.heap.size, 1, none⟩) hs5 (.int .i64 (q2 : Int))
  have hE7 : Ext W1 (W6.setCell ⟨W1.heap.size, 1, none⟩ (.int .i64 (q2 : Int))) := hE6.setCell (p := ⟨W1.heap.size, 1, none⟩) (Nat.le_refl _) _
  have hbq7 := heap_setCell_same W6 W1.heap.size 1 _ _ (.int .i64 (q2 : Int)) (hx6.heap Hbq5.out)
  have Hm6 := Lib.hid hm6; have Hu4 := Lib.hid hu4; have Hu5 := Lib.hid hu5; have Hu6 := Lib.hid hu6; have HE7 := Lib.hid hE7; have Hbq7 := Lib.hid hbq7
  clear hrs6 hm6 hx6 hE6 hu4 hu5 hu6 hE7 hbq7 hc0 hc1 hc2
  have hmod := Hmod.out; have hmod2 := Hmod2.out; have hq3 := Hq3.out
  go_wp2_with fail
  clear hmod hmod2 hq3
  generalize W6.setCell ⟨W1.heap.size, 1, none⟩ (.int .i64 (q2 : Int)) = W7 at *
  refine (Hlist2.out W7 _ _ (HE1.out.trans HE7.out) (HE7.out.sl Hvp.out) (HE7.out.sl Hvx.out)).mono ?_
  rintro e W8 ⟨v8, rs8, rfl, hrs8, hm8, hx8⟩
  obtain ⟨a8, c8, rfl⟩ := own_shape hrs8.1
  have hl8 : rs8.length = R2.length := by rw [← hm8, List.length_map]
  have hl4 : rs4.length = R.length := by have := congrArg List.length Hm4.out; simpa using this
  have hle8 : ¬ (rs4.length : Int) < (rs8.length : Int) := by omega
  have hle9 : decide (rs4.length < rs8.length) = false := decide_eq_false (by omega)
  have hw4 := hx8.rwL Hu4.out
  have hcap := (own_cap hw4.1).1
  have hcut := rwL_cut hw4 (k := rs8.length) (by omega)
  have hmc := hcut.mat
  have hcx : (rs4.take rs8.length).map Rw.x = R2 := by rw [List.map_take, Hm4.out, hl8]; exact Hpre.out
  rw [hcx] at hmc
  have hm8m := hrs8.mat
  rw [hm8] at hm8m
  have hc8 : rs8.length ≤ c4 := by omega
  have hR2 : R2.length ≤ 8450 := by omega
  have hR2l : ∀ r ∈ R2, r.length ≤ 1000 := fun r hr => HRl.out r (List.mem_of_mem_take (by rw [Hpre.out]; exact hr))
  have hsm := Hsame.out W8 _ _ R2 R2 hm8m hmc (by omega) (by omega) (small_rows hR2l) (small_rows hR2l)
  rw [show decide (R2 = R2) = true from decide_eq_true rfl] at hsm
  have hE8 := HE7.out.trans hx8
  obtain ⟨hg0, _, _⟩ := box3 (hx8.heap Hbq7.out)
  have Hsm := Lib.hid hsm; have HE8 := Lib.hid hE8; have Hw4 := Lib.hid hw4; have Hw5 := Lib.hid (hx8.rwL Hu5.out); have Hw6 := Lib.hid (hx8.rwL Hu6.out); have Hl4 := Lib.hid hl4
  clear hsm hE8 hw4 hcut hmc hcx hm8m hrs8 hm8 hl8 hR2l hx8 hcap hbf hd0 hd1 hd2 hl4
  go_wp2_with fail
  refine Hsm.out.mono ?_
  rintro e W9 ⟨rfl, hq9⟩
  have hE9 := HE8.out.trans hq9.ext
  have hg09 := hq9.ext.cell hg0
  have Hz4 := Lib.hid (hq9.ext.rwL Hw4.out); have Hz5 := Lib.hid (hq9.ext.rwL Hw5.out); have Hz6 := Lib.hid (hq9.ext.rwL Hw6.out); have HE9 := Lib.hid hE9
  clear hE9 hq9 hg0
  have hall4 : ∀ r ∈ rs4, r.x ∈ R := fun r hr => by rw [← Hm4.out]; exact List.mem_map_of_mem hr
  have Hall4 := Lib.hid hall4; clear hall4
  have hb4 : rs4.length ≤ 8450 := by have := Hl4.out; omega
  go_wp2_with fail
  go_loopw [15, 16, 17] (fun i _ _ wr => ∃ k : Nat, i = .int .i64 k ∧ k ≤ rs4.length ∧ Ext W9 wr) (fun i _ _ _ => rs4.length - (intOf i).toNat)
  case atStart => exact ⟨0, rfl, Nat.zero_le _, Ext.refl _⟩
  case round =>
    obtain ⟨k, rfl, hk, hext⟩ := hrel
    have Hext := Lib.hid hext; clear hext
    by_cases hkl : k < rs4.length
    · obtain ⟨r, hr⟩ : ∃ r, rs4[k]? = some r := ⟨_, List.getElem?_eq_getElem hkl⟩
      have hrm := List.mem_of_getElem? hr
      obtain ⟨g4, cap4, e0, hcells⟩ := own_slice Hz4.out.1 (by omega)
      injection e0 with e1 e2 e3
      subst e1
      clear e2 e3
      have hcr := Hext.out.cell (hcells k r.u (by simp [rwc, hr]))
      have hgq := Hext.out.cell hg09
      have hor := Hext.out.ownI (Hz4.out.2 r hrm)
      have hsgn := fun W (hE : Ext wr W) => Hsgn.out W _ r.u r.x (((HE1.out.trans HE9.out).trans Hext.out).trans hE) (((HE9.out.trans Hext.out).trans hE).sl Hvp.out) ((hE.ownI hor).sl) (Hall4.out r hrm)
      have Hsgn2 := Lib.hid hsgn; clear hsgn hor hrm hr hcells
      generalize r.u = ru at *
      have hk0 : (0 : Int) ≤ (k : Int) := by omega
      have hk1 : (k : Int) < (rs4.length : Int) := by omega
      have Hkl := Lib.hid hkl
      go_wp2_with fail
      go_region_held3 (fun w' => Ext wr w' ∧ w'.cell? ⟨W1.heap.size, 0, none⟩ = some (.slice ap (ints (tenP n)).length cp) ∧ w'.cell? ⟨g4, k, none⟩ = some ru)
        (first | exact held2 ⟨Ext.refl wr, hgq, hcr⟩ ((Ext.refl wr).drew) | exact held2 (by assumption) hxa)
        (first | (go_at_call 22; refine (Hsgn2.out _ (And.left (by assumption))).mono ?_; rintro e9 V4 ⟨rfl, hxa⟩))
      have HE10 := Lib.hid (Hext.out.trans ((Ext.refl wr).drew.trans hxa)); clear hxa
      go_wp2
      go_roundw
      case rel => exact ⟨k + 1, by go_num, Hkl.out, HE10.out⟩
      case measure => have := Hkl.out; simp [intOf]; omega
    · obtain hkn : k = rs4.length := by omega
      have hl5 : rs5.length = R5.length := by rw [← Hm5.out, List.length_map]
      by_cases hR0 : R = []
      · have h4 : rs4.length = 0 := by rw [Hl4.out, hR0]; rfl
        have h5 : rs5.length = 0 := by rw [hl5, H5n.out hR0]; rfl
        have h6 : rs6.length = 0 := by
          rcases Hm6.out with ⟨_, h⟩ | ⟨h, _⟩
          · rw [h]; rfl
          · exact absurd hR0 h
        have ht1 : ((rs4.length : Int) == 0) = true := by rw [h4]; rfl
        have ht2 : (((rs5.length : Int) + (rs6.length : Int)) == 0) = true := by rw [h5, h6]; rfl
        have hb5 : rs5.length ≤ 8450 := by omega
        have hb6 : rs6.length ≤ 8450 := by omega
        have hkk : ¬ (k : Int) < (rs4.length : Int) := by omega
        clear h4 h5 h6 hl5 hR0 hkn
        go_wp2
        go_ret
        exact ⟨rfl, HE1.out.trans (HE9.out.trans Hext.out)⟩
      · obtain ⟨hz5, hh5⟩ := H5h.out hR0
        obtain ⟨z, hz6, hz⟩ : ∃ z, rs6.map Rw.x = [z] ∧ R5.getLast? = some z := by
          rcases Hm6.out with ⟨h, _⟩ | ⟨_, h⟩
          · exact absurd h hR0
          · exact h
        have h6 : rs6.length = 1 := by have := congrArg List.length hz6; simpa using this
        have h5 : 0 < rs5.length := by rw [hl5]; exact List.length_pos_iff.2 hz5
        have h4 : 0 < rs4.length := by rw [Hl4.out]; exact List.length_pos_iff.2 hR0
        obtain ⟨L, hL⟩ : ∃ L, rs5.length = L + 1 := ⟨rs5.length - 1, by omega⟩
        obtain ⟨p5, hp5⟩ : ∃ r, rs5[0]? = some r := ⟨_, List.getElem?_eq_getElem h5⟩
        obtain ⟨p4, hp4⟩ : ∃ r, rs4[0]? = some r := ⟨_, List.getElem?_eq_getElem h4⟩
        obtain ⟨l5, hl5'⟩ : ∃ r, rs5[L]? = some r := ⟨_, List.getElem?_eq_getElem (by omega)⟩
        obtain ⟨p6, hp6⟩ : ∃ r, rs6[0]? = some r := ⟨_, List.getElem?_eq_getElem (by omega)⟩
        have hx1 : p5.x = p4.x := by
          have e1 : R5.head? = some p5.x := by rw [← Hm5.out, List.head?_eq_getElem?, List.getElem?_map, hp5]; rfl
          have e2 : R.head? = some p4.x := by rw [← Hm4.out, List.head?_eq_getElem?, List.getElem?_map, hp4]; rfl
          rw [e1, e2] at hh5
          exact Option.some.inj hh5
        have hx2 : l5.x = p6.x := by
          have e1 : R5.getLast? = some l5.x := by rw [← Hm5.out, List.getLast?_eq_getElem?, List.length_map, hL, Nat.add_sub_cancel, List.getElem?_map, hl5']; rfl
          have e2 : (rs6.map Rw.x)[0]? = some p6.x := by rw [List.getElem?_map, hp6]; rfl
          rw [hz6] at e2
          rw [hz] at e1
          have e3 : z = p6.x := by simpa using e2
          rw [← e3]
          exact (Option.some.inj e1).symm
        obtain ⟨g4, cap4, e0, hcells4⟩ := own_slice Hz4.out.1 h4
        injection e0 with e1 e2 e3
        subst e1
        clear e2 e3
        obtain ⟨g5, cap5, e0, hcells5⟩ := own_slice Hz5.out.1 h5
        injection e0 with e1 e2 e3
        subst e1
        clear e2 e3
        obtain ⟨g6, cap6, e0, hcells6⟩ := own_slice Hz6.out.1 (by omega)
        injection e0 with e1 e2 e3
        subst e1
        clear e2 e3
        have hc4 := Hext.out.cell (hcells4 0 p4.u (by simp [rwc, hp4]))
        have hc50 := Hext.out.cell (hcells5 0 p5.u (by simp [rwc, hp5]))
        have hc5L := Hext.out.cell (hcells5 L l5.u (by simp [rwc, hl5']))
        have hc6 := Hext.out.cell (hcells6 0 p6.u (by simp [rwc, hp6]))
        have ho4 := Hext.out.ownI (Hz4.out.2 p4 (List.mem_of_getElem? hp4))
        have ho50 := Hext.out.ownI (Hz5.out.2 p5 (List.mem_of_getElem? hp5))
        have ho5L := Hext.out.ownI (Hz5.out.2 l5 (List.mem_of_getElem? hl5'))
        have ho6 := Hext.out.ownI (Hz6.out.2 p6 (List.mem_of_getElem? hp6))
        have hlen5 : ∀ r ∈ rs5, r.x.length ≤ 1000 := fun r hr => H5l.out _ (by rw [← Hm5.out]; exact List.mem_map_of_mem hr)
        have hb50 := hlen5 p5 (List.mem_of_getElem? hp5)
        have hb5L := hlen5 l5 (List.mem_of_getElem? hl5')
        have hsm1 := fun t => same12_c p5.u p4.u p5.x p4.x (wr.drewN t) (((Ext.refl wr).drewN t).ownI ho50).sl (((Ext.refl wr).drewN t).ownI ho4).sl (by omega) (by rw [← hx1]; omega)
        have hsm2 := fun t => same12_c l5.u p6.u l5.x p6.x (wr.drewN t) (((Ext.refl wr).drewN t).ownI ho5L).sl (((Ext.refl wr).drewN t).ownI ho6).sl (by omega) (by rw [← hx2]; omega)
        rw [show decide (p5.x = p4.x) = true from decide_eq_true hx1] at hsm1
        rw [show decide (l5.x = p6.x) = true from decide_eq_true hx2] at hsm2
        generalize p5.u = u5 at *
        generalize p4.u = u4 at *
        generalize l5.u = ul at *
        generalize p6.u = u6 at *
        have hsm : ∀ t va vb, ((va = u5 ∧ vb = u4) ∨ (va = ul ∧ vb = u6)) → Calls Tryz.prog 26 #[va, vb] (wr.drewN t) fun e w' => e = .returned (.bool true) ∧ Qu (wr.drewN t) w' := fun t va vb h => by
          rcases h with ⟨rfl, rfl⟩ | ⟨rfl, rfl⟩
          · exact hsm1 t
          · exact hsm2 t
        have Hsm := Lib.hid hsm
        clear hsm hsm1 hsm2 ho4 ho50 ho5L ho6 hcells4 hcells5 hcells6 hp4 hp5 hp6 hl5' hx1 hx2 hlen5 hb50 hb5L hz6 hz hh5 hz5
        have ht1 : ((rs4.length : Int) == 0) = false := beq_eq_false_iff_ne.2 (by omega)
        have ht2 : decide (0 < (rs5.length : Int)) = true := decide_eq_true (by omega)
        have ht3 : ((rs6.length : Int) == 1) = true := by rw [h6]; rfl
        have hw1 : IntKind.i64.wrap ((rs5.length : Int) - 1) = (L : Int) := by rw [IntWalk.i64_in _ (by omega)]; omega
        have hL0 : (0 : Int) ≤ (L : Int) := by omega
        have hL1 : (L : Int) < (rs5.length : Int) := by omega
        have h6p : 0 < rs6.length := by omega
        have h4i : (0 : Int) < (rs4.length : Int) := by omega
        have h5i : (0 : Int) < (rs5.length : Int) := by omega
        have h6i : (0 : Int) < (rs6.length : Int) := by omega
        have hkk : ¬ (k : Int) < (rs4.length : Int) := by omega
        clear hL h6 hl5 hkn
        go_wp2_with fail
        go_quiet ((go_at_call 26; exact Calls.quiet_of (Hsm.out _ _ _ (by first | exact .inl ⟨rfl, rfl⟩ | exact .inr ⟨rfl, rfl⟩))))
        clear hw1
        go_wp2
        go_ret
        exact ⟨rfl, (HE1.out.trans (HE9.out.trans Hext.out)).drewN _⟩

end Go.Proofs.YtkamjjjimbbdmaaGreatDoor
