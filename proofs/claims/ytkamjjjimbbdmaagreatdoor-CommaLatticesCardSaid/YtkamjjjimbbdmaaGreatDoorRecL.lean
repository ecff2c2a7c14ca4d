/- The walk of the law CommaRecords. -/
import Derived.Test.YtkamjjjimbbdmaaGreatDoorSuperW
import Derived.Test.YtkamjjjimbbdmaaGreatDoorApp
namespace Go.Proofs.YtkamjjjimbbdmaaGreatDoor
open Go.RowKit Go.Lib Go.Shelf Go.Sort

theorem cmpP_less {p x y : List Int} {a b c d : Nat} (h1 : numP p x = a) (h2 : denP p x = b) (h3 : numP p y = c) (h4 : denP p y = d) : (0 ≤ cmpP p x y) = ¬ a * d < c * b := by
  apply propext
  unfold cmpP cmpI
  rw [h1, h2, h3, h4]
  constructor
  · intro h
    split at h <;> omega
  · intro h
    split
    · omega
    · split <;> omega

/-- The law's records among the first i, its superparticular ones among the first j. -/
structure RcSt (V : World) (b : Nat) (p : List Int) (es : List (Rw × Nat × Nat)) (i j : Nat) (v u lv : Value) (rs ss : List Rw) (wr : World) : Prop where
  recs : RwM wr b V.heap.size v rs
  sups : RwM wr b V.heap.size u ss
  apart : ∀ k, v.ownBlock = some k → u.ownBlock ≠ some k
  recsx : rs.map Rw.x = recsOf p ((es.map (·.1.x)).take i)
  supsx : ss.map Rw.x = ((es.map (·.1.x)).take j).filter (superP p)
  recsl : rs.length ≤ i
  supsl : ss.length ≤ j
  last : (rs = [] ∧ lv = .int .i64 (-1)) ∨ ∃ (l : Nat) (e : Rw × Nat × Nat), lv = .int .i64 (l : Int) ∧ es[l]? = some e ∧ (rs.map Rw.x).getLast? = some e.1.x
  ext : Ext V wr
theorem RcSt.mono {V wr w' : World} {b : Nat} {p : List Int} {es : List (Rw × Nat × Nat)} {i j : Nat} {v u lv : Value} {rs ss : List Rw} (h : RcSt V b p es i j v u lv rs ss wr) (hx : Ext wr w') : RcSt V b p es i j v u lv rs ss w' :=
  ⟨hx.rwM h.recs, hx.rwM h.sups, h.apart, h.recsx, h.supsx, h.recsl, h.supsl, h.last, h.ext.trans hx⟩
theorem take_x {es : List (Rw × Nat × Nat)} {i : Nat} {e : Rw × Nat × Nat} (h : es[i]? = some e) : (es.map (·.1.x)).take (i + 1) = (es.map (·.1.x)).take i ++ [e.1.x] := by
  rw [List.take_add_one, List.getElem?_map, h]; rfl
theorem apart_ne {v u : Value} (h : ∀ k, v.ownBlock = some k → u.ownBlock ≠ some k) : v.ownBlock = none ∨ v.ownBlock ≠ u.ownBlock := by
  cases hv : v.ownBlock with
  | none => exact .inl rfl
  | some k => exact .inr fun e => h k hv e.symm
theorem apart_sym {v u : Value} (h : ∀ k, v.ownBlock = some k → u.ownBlock ≠ some k) : ∀ k, u.ownBlock = some k → v.ownBlock ≠ some k := fun k hu hv => h k hv hu
/-- No record. -/
theorem rc_no1 {V wr : World} {b : Nat} {p : List Int} {es : List (Rw × Nat × Nat)} {i j : Nat} {v u lv : Value} {rs ss : List Rw} {e z : Rw × Nat × Nat} (h : RcSt V b p es i j v u lv rs ss wr) (he : es[i]? = some e) (hz : (rs.map Rw.x).getLast? = some z.1.x) (hc : 0 ≤ cmpP p e.1.x z.1.x) :
    RcSt V b p es (i + 1) j v u lv rs ss wr := by
  refine ⟨h.recs, h.sups, h.apart, ?_, h.supsx, Nat.le_succ_of_le h.recsl, h.supsl, h.last, h.ext⟩
  rw [take_x he, recsOf_snoc, ← h.recsx]
  unfold recStep
  rw [hz]
  simp only [if_pos hc]
/-- A record. -/
theorem rc_yes1 {V wr W7 : World} {b : Nat} {p : List Int} {es : List (Rw × Nat × Nat)} {i j : Nat} {v u lv v7 : Value} {rs ss : List Rw} {e : Rw × Nat × Nat} {tmp : Obj} (h : RcSt V b p es i j v u lv rs ss wr) (he : es[i]? = some e) (hrec : recStep p (rs.map Rw.x) e.1.x = rs.map Rw.x ++ [e.1.x])
    (ho : OwnI wr b e.1.u e.1.x) (hl : e.1.x.length ≤ 1000000) (hown7 : W7.ownsRow V.heap.size 30 1 v7 (rs.length + 1) (rwc rs ++ [e.1.u])) (hg7 : (wr.alloc tmp).grownBy W7 v.ownBlock) (hw7 : v7.ownBlock = v.ownBlock ∨ v7.ownBlock = some (wr.alloc tmp).heap.size) :
    RcSt V b p es (i + 1) j v7 u (.int .i64 (i : Int)) (rs ++ [e.1]) ss W7 := by
  obtain ⟨h1, h2⟩ := rwm_more h.recs ho hl h.ext hown7 hg7
  have hal : Ext wr (wr.alloc tmp) := (Ext.refl wr).alloc tmp
  refine ⟨h1, ⟨World.ownsRow.kept (hal.own h.sups.1) hg7 (apart_ne (apart_sym h.apart)), fun r hr => ⟨World.ownsRow.kept (hal.own (h.sups.2 r hr).1) hg7 (own_ne (h.sups.2 r hr).1 h.recs.1 (by decide)), (h.sups.2 r hr).2⟩⟩, ?_, ?_, h.supsx, by rw [List.length_append]; have := h.recsl; simp; omega, h.supsl, .inr ⟨i, e, rfl, he, by simp⟩, h2⟩
  · intro k hk hu
    rcases hw7 with hw | hw
    · rw [hw] at hk
      exact h.apart k hk hu
    · rw [hw] at hk
      injection hk with hk
      have := (World.ownsRow.lt h.sups.1 k hu).2
      rw [World.size_alloc] at hk
      omega
  · rw [take_x he, recsOf_snoc, ← h.recsx, hrec, List.map_append]; rfl
/-- Not superparticular. -/
theorem rc_no2 {V wr : World} {b : Nat} {p : List Int} {es : List (Rw × Nat × Nat)} {i j : Nat} {v u lv : Value} {rs ss : List Rw} {e : Rw × Nat × Nat} (h : RcSt V b p es i j v u lv rs ss wr) (he : es[j]? = some e) (hc : superP p e.1.x = false) : RcSt V b p es i (j + 1) v u lv rs ss wr := by
  refine ⟨h.recs, h.sups, h.apart, h.recsx, ?_, h.recsl, Nat.le_succ_of_le h.supsl, h.last, h.ext⟩
  rw [take_x he, List.filter_append, ← h.supsx]
  simp [hc]
/-- Superparticular. -/
theorem rc_yes2 {V wr W7 : World} {b : Nat} {p : List Int} {es : List (Rw × Nat × Nat)} {i j : Nat} {v u lv u7 : Value} {rs ss : List Rw} {e : Rw × Nat × Nat} {tmp : Obj} (h : RcSt V b p es i j v u lv rs ss wr) (he : es[j]? = some e) (hc : superP p e.1.x = true)
    (ho : OwnI wr b e.1.u e.1.x) (hl : e.1.x.length ≤ 1000000) (hown7 : W7.ownsRow V.heap.size 30 1 u7 (ss.length + 1) (rwc ss ++ [e.1.u])) (hg7 : (wr.alloc tmp).grownBy W7 u.ownBlock) (hw7 : u7.ownBlock = u.ownBlock ∨ u7.ownBlock = some (wr.alloc tmp).heap.size) :
    RcSt V b p es i (j + 1) v u7 lv rs (ss ++ [e.1]) W7 := by
  obtain ⟨h1, h2⟩ := rwm_more h.sups ho hl h.ext hown7 hg7
  have hal : Ext wr (wr.alloc tmp) := (Ext.refl wr).alloc tmp
  refine ⟨⟨World.ownsRow.kept (hal.own h.recs.1) hg7 (apart_ne h.apart), fun r hr => ⟨World.ownsRow.kept (hal.own (h.recs.2 r hr).1) hg7 (own_ne (h.recs.2 r hr).1 h.sups.1 (by decide)), (h.recs.2 r hr).2⟩⟩, h1, ?_, h.recsx, ?_, h.recsl, by rw [List.length_append]; have := h.supsl; simp; omega, h.last, h2⟩
  · intro k hk hu
    rcases hw7 with hw | hw
    · rw [hw] at hu
      exact h.apart k hk hu
    · rw [hw] at hu
      injection hu with hu
      have := (World.ownsRow.lt h.recs.1 k hk).2
      rw [World.size_alloc] at hu
      omega
  · rw [take_x he, List.filter_append, ← h.supsx, List.map_append]
    simp [hc]

set_option maxRecDepth 100000 in
set_option maxHeartbeats 3000000 in
theorem rec_yes (n q h : Nat) (a b c d : Int) (w : World) (ex : List (List Int × Nat × Nat)) (hR : ex.length ≤ 8450) (hRl : ∀ e ∈ ex, e.1.length ≤ 1000 ∧ e.2.1 ≤ 130 ∧ e.2.2 ≤ 130 ∧ numP (ints (tenP n)) e.1 = e.2.1 ∧ denP (ints (tenP n)) e.1 = e.2.2)
    (hmk : ∀ W, Ext w W → Calls Tryz.prog 12 #[.agg #[.int .u8 n, .int .i8 a, .int .i8 b, .int .i8 c, .int .i8 d, .int .u8 h]] W fun e w' => ∃ vp vx, e = .returned (.tuple #[.agg #[vp, .int .i64 (q : Int), vx], .bool true]) ∧ OwnI w' W.heap.size vp (ints (tenP n)) ∧ OwnI w' W.heap.size vx (planX n [a, b, c, d]) ∧ Ext W w')
    (hkn : ∀ W, Ext w W → Calls Tryz.prog 13 #[] W fun e w' => e = .returned (.bool true) ∧ Ext W w')
    (hrec : ∀ W vp vx, Ext w W → Sl W vp (i64s (ints (tenP n))) → Sl W vx (i64s (planX n [a, b, c, d])) → Calls Tryz.prog 25 #[.agg #[vp, .int .i64 (q : Int), vx]] W fun e w' => ∃ v rs, e = .returned (.tuple #[v, .int .i64 0]) ∧ RwL w' W.heap.size v rs ∧ rs.map Rw.x = recsOf (ints (tenP n)) (ex.map (·.1)) ∧ Ext W w')
    (hsup : ∀ W vp vx, Ext w W → Sl W vp (i64s (ints (tenP n))) → Sl W vx (i64s (planX n [a, b, c, d])) → Calls Tryz.prog 27 #[.agg #[vp, .int .i64 (q : Int), vx]] W fun e w' => ∃ v rs, e = .returned (.tuple #[v, .int .i64 0]) ∧ RwL w' W.heap.size v rs ∧ rs.map Rw.x = (ex.map (·.1)).filter (superP (ints (tenP n))) ∧ Ext W w')
    (hlst : ∀ W vp vx, Ext w W → Sl W vp (i64s (ints (tenP n))) → Sl W vx (i64s (planX n [a, b, c, d])) → Calls Tryz.prog 15 #[.agg #[vp, .int .i64 (q : Int), vx]] W fun e w' => ∃ v u es, e = .returned (.tuple #[v, u]) ∧ Two w' W.heap.size v u es ∧ (es.map fun e => (e.1.x, e.2)) = ex ∧ Ext W w')
    (hrm : ∀ r ∈ recsOf (ints (tenP n)) (ex.map (·.1)), r ∈ ex.map (·.1)) (hrl : (recsOf (ints (tenP n)) (ex.map (·.1))).length ≤ 8450) :
    Calls Tryz.prog 8 #[.agg #[.int .u8 n, .int .i8 a, .int .i8 b, .int .i8 c, .int .i8 d, .int .u8 h]] w fun e w' => e = .returned (.bool true) ∧ Ext w w' := by
  obtain ⟨j0, hjr, hy0, hy1, hy2⟩ := info_parts info_row
  have hsame := fun W va vb x y (h1 : Mat W va x) (h2 : Mat W vb y) (h3 : x.length ≤ 1000000) (h4 : y.length ≤ 1000000) (h5 : ∀ i, (x.getD i []).length ≤ 1000000) (h6 : ∀ i, (y.getD i []).length ≤ 1000000) => same16_c va vb x y W h1 h2 h3 h4 h5 h6
  have Hmk := Lib.hid hmk; have Hkn := Lib.hid hkn; have Hrec := Lib.hid hrec; have Hsup := Lib.hid hsup; have Hlst := Lib.hid hlst; have Hsame := Lib.hid hsame; have HRl := Lib.hid hRl; have Hrm := Lib.hid hrm; have Hrl := Lib.hid hrl
  clear hmk hkn hrec hsup hlst hsame hRl hrm hrl
  have hE0 : Ext w (w.alloc (.cells #[.int .u8 n, .int .i8 a, .int .i8 b, .int .i8 c, .int .i8 d, .int .u8 h] 27)) := (Ext.refl w).alloc _
  have HE0 := Lib.hid hE0; clear hE0
  go_enter Tryz.func8, Tryz.ntmps8
  go_wp2_with fail
  generalize w.alloc (.cells #[.int .u8 n, .int .i8 a, .int .i8 b, .int .i8 c, .int .i8 d, .int .u8 h] 27) = W0 at *
  refine (Hmk.out W0 HE0.out).mono ?_
  rintro e W1 ⟨vp, vx, rfl, hvp, hvx, hx1⟩
  obtain ⟨ap, cp, rfl⟩ := own_shape hvp
  obtain ⟨ax, cx, rfl⟩ := own_shape hvx
  have hE1 := HE0.out.trans hx1
  have Hvp := Lib.hid hvp.sl; have Hvx := Lib.hid hvx.sl; have HE1 := Lib.hid hE1; clear hvp hvx hx1 hE1
  have hbq := World.alloc_heap_new W1 (.cells #[.slice ap (ints (tenP n)).length cp, .int .i64 (q : Int), .slice ax (planX n [a, b, c, d]).length cx] 32)
  have hE2 : Ext W1 (W1.alloc (.cells #[.slice ap (ints (tenP n)).length cp, .int .i64 (q : Int), .slice ax (planX n [a, b, c, d]).length cx] 32)) := (Ext.refl W1).alloc _
  have Hbq := Lib.hid hbq; have HE2 := Lib.hid hE2; clear hbq hE2
  go_wp2_with fail
  generalize W1.alloc (.cells #[.slice ap (ints (tenP n)).length cp, .int .i64 (q : Int), .slice ax (planX n [a, b, c, d]).length cx] 32) = W2 at *
  refine (Hkn.out W2 (HE1.out.trans HE2.out)).mono ?_
  rintro e W3 ⟨rfl, hx3⟩
  have hE23 := HE2.out.trans hx3
  obtain ⟨hc0, hc1, hc2⟩ := box3 (hx3.heap Hbq.out)
  have HE23 := Lib.hid hE23; have Hbq3 := Lib.hid (hx3.heap Hbq.out); clear hE23 hx3
  go_wp2_with fail
  refine (Hrec.out W3 _ _ (HE1.out.trans HE23.out) (HE23.out.sl Hvp.out) (HE23.out.sl Hvx.out)).mono ?_
  rintro e W4 ⟨v4, rs4, rfl, hrs4, hm4, hx4⟩
  obtain ⟨a4, c4, rfl⟩ := own_shape hrs4.1
  obtain ⟨hd0, hd1, hd2⟩ := box3 (hx4.heap Hbq3.out)
  have hE4 := HE23.out.trans hx4
  have HE4 := Lib.hid hE4; have Hrs4 := Lib.hid hrs4; have Hm4 := Lib.hid hm4; have Hbq4 := Lib.hid (hx4.heap Hbq3.out); clear hrs4 hm4 hx4 hE4 hc0 hc1 hc2
  go_wp2_with fail
  refine (Hsup.out W4 _ _ (HE1.out.trans HE4.out) (HE4.out.sl Hvp.out) (HE4.out.sl Hvx.out)).mono ?_
  rintro e W5 ⟨v5, rs5, rfl, hrs5, hm5, hx5⟩
  obtain ⟨a5, c5, rfl⟩ := own_shape hrs5.1
  obtain ⟨hc0, hc1, hc2⟩ := box3 (hx5.heap Hbq4.out)
  have hE5 := HE4.out.trans hx5
  have HE5 := Lib.hid hE5; have Hrs5 := Lib.hid hrs5; have Hm5 := Lib.hid hm5; have Hr4 := Lib.hid (hx5.rwL Hrs4.out); clear hrs5 hm5 hx5 hE5 hd0 hd1 hd2
  go_wp2_with fail
  refine (Hlst.out W5 _ _ (HE1.out.trans HE5.out) (HE5.out.sl Hvp.out) (HE5.out.sl Hvx.out)).mono ?_
  rintro e W6 ⟨v6, u6, es, rfl, htwo, hm6, hx6⟩
  obtain ⟨a6, c6, rfl⟩ := own_shape htwo.rows.1
  obtain ⟨b6, d6, rfl⟩ := own_shape htwo.prs
  rw [List.length_map] at *
  rw [List.length_map] at *
  have hl6 : es.length ≤ 8450 := by rw [← hm6, List.length_map] at hR; exact hR
  have HE6 := Lib.hid (HE5.out.trans hx6)
  have Htwo := Lib.hid htwo; have Hm6 := Lib.hid hm6; have Hs4 := Lib.hid (hx6.rwL Hr4.out); have Hs5 := Lib.hid (hx6.rwL Hrs5.out); clear htwo hm6 hx6 hc0 hc1 hc2
  go_wp2_with fail
  go_loopw [11, 12, 13, 14] (fun v u lv i wr => ∃ (k : Nat) (rs ss : List Rw), i = .int .i64 (k : Int) ∧ k ≤ es.length ∧ RcSt W6 W5.heap.size (ints (tenP n)) es k k v u lv rs ss wr) (fun _ _ _ i _ => es.length - (intOf i).toNat)
  case atStart => exact ⟨0, [], [], rfl, Nat.zero_le _, ⟨World.ownsRow_nil _ _ _ 1, fun _ h => by cases h⟩, ⟨World.ownsRow_nil _ _ _ 1, fun _ h => by cases h⟩, (fun k hk => by cases hk), rfl, rfl, Nat.le_refl _, Nat.le_refl _, .inl ⟨rfl, rfl⟩, Ext.refl _⟩
  case round =>
    obtain ⟨k, rs, ss, rfl, hk, hst⟩ := hrel
    obtain ⟨av, cv, rfl⟩ := own_shape hst.recs.1
    obtain ⟨au, cu, rfl⟩ := own_shape hst.sups.1
    by_cases hkl : k < es.length
    · obtain ⟨e, he⟩ : ∃ e, es[k]? = some e := ⟨_, List.getElem?_eq_getElem hkl⟩
      obtain ⟨g, cg, eg, hrw⟩ := own_slice Htwo.out.rows.1 (by rw [List.length_map]; omega)
      injection eg with eg1 eg3 eg2
      subst eg1; subst eg2
      clear eg3
      obtain ⟨p, cq, ep, hpr⟩ := own_slice Htwo.out.prs (by rw [List.length_map]; omega)
      injection ep with ep1 ep3 ep2
      subst ep1; subst ep2
      clear ep3
      have hcr := hrw k e.1.u (by simp [rwc, he])
      have hor := Htwo.out.rows.2 e.1 (List.mem_map_of_mem (List.mem_of_getElem? he))
      obtain ⟨hx1, hx2⟩ := prc_at _ k e.2 (show (es.map (·.2))[k]? = some e.2 by rw [List.getElem?_map, he]; rfl)
      have hcx1 := hpr _ _ hx1
      have hcx2 := hpr _ _ hx2
      obtain ⟨hme1, hme2, hme3, hme4, hme5⟩ := HRl.out (e.1.x, e.2) (by rw [← Hm6.out]; exact List.mem_map.2 ⟨e, List.mem_of_getElem? he, rfl⟩)
      dsimp only at hme1 hme2 hme3 hme4 hme5
      obtain ⟨sp, hsp⟩ : ∃ sp, sp = superP (ints (tenP n)) e.1.x := ⟨_, rfl⟩
      have hsp2 : (((e.2.1 : Nat) : Int) == ((e.2.2 : Nat) : Int) + 1) = sp := by
        rw [hsp]; unfold superP
        rw [hme4, hme5]
        by_cases hq : e.2.1 = e.2.2 + 1
        · rw [decide_eq_true hq, hq]; simp
        · rw [decide_eq_false hq]; exact beq_eq_false_iff_ne.2 (by omega)
      clear hx1 hx2
      obtain ⟨ae, ce, heu⟩ := own_shape hor
      have hcr' := hst.ext.cell hcr
      rw [heu] at hcr'
      have hcx1' := hcx1; have hcx2' := hcx2; have hcr'' := hcr
      rw [heu] at hcr''
      have hc1 := hst.ext.cell hcx1
      have hc2 := hst.ext.cell hcx2
      have hk0 : (0 : Int) ≤ (k : Int) := by omega
      have hk1 : (k : Int) < (es.length : Int) := by omega
      have Heu := Lib.hid heu; have Hor := Lib.hid hor; have He := Lib.hid he; have Hsp := Lib.hid hsp
      clear heu hor he hsp hcr hcx1 hcx2
      generalize hle : e.1.x.length = le at *
      have Hle := Lib.hid hle; clear hle
      have HC := Lib.hid (And.intro hcx1' (And.intro hcx2' hcr''))
      clear hcx1' hcx2' hcr''
      generalize hx1 : e.2.1 = x1 at *
      generalize hx2 : e.2.2 = x2 at *
      rcases hst.last with ⟨hrs0, rfl⟩ | ⟨l, z, rfl, hz, hlast⟩
      · subst hrs0
        have Hst := Lib.hid hst; clear hst
        have hm1 : decide ((-1 : Int) < 0) = true := rfl
        go_wp2_with fail
        go_quiet (fail)
        have hEq : Ext wr (wr.drewN nq) := (Ext.refl wr).drewN nq
        generalize wr.drewN nq = wq at *
        have hst := Hst.out.mono hEq
        have hcr2 := hEq.cell hcr'
        have hszz := hst.ext.size
        have hownr : wq.ownsRow W6.heap.size 30 1 (.slice av 0 cv) 0 [] := hst.recs.1
        have Hst2 := Lib.hid hst; clear hst
        have hm3 : 0 + 1 ≤ maxLen := by unfold maxLen; omega
        have hm4 : (0 + 1) * 24 ≤ 140737488355328 := by omega
        go_wp2_with (at_builtin; refine wpList_append_where _ rfl _ _ 36 rfl W6.heap.size 30 j0 (.slice none 0 0) 1 24 Tryz.underlying36 hjr hy0 hy1 hy2 rfl (by decide) _ _ _ rfl (hownr.alloc _) ⟨wq.heap.size, 0, none⟩ 1 1 [.slice ae le ce] rfl rfl (cell_one_new _ _ _) (by simp [Value.oneCell']) hm3 hm4 (by rw [World.size_alloc]; omega) ?_; intro v7 W7 hown7 hgrow7 hw7)
        have hst7 := rc_yes1 Hst2.out He.out rfl (Hst2.out.ext.ownI Hor.out) (by rw [Hle.out]; omega) (by rw [Heu.out]; exact hown7) hgrow7 hw7
        obtain ⟨av7, cv7, rfl⟩ := own_shape hst7.recs.1
        have Hst7 := Lib.hid hst7; clear hst7 hown7 hgrow7 hw7 hownr hcr2
        have hst := Hst7.out
        have hd1 := hst.ext.cell HC.out.1
        have hd2 := hst.ext.cell HC.out.2.1
        have hd3 := hst.ext.cell HC.out.2.2
        have hul : ss.length ≤ 8450 := by have := hst.supsl; omega
        clear hst
        cases sp with
        | false =>
          go_wp2_with fail
          go_quiet (fail)
          have hEz := (Ext.refl W7).drewN nq
          generalize W7.drewN nq = wz at *
          have Hfin := Lib.hid (rc_no2 (Hst7.out.mono hEz) He.out Hsp.out.symm); clear hEz
          go_wp2_with fail
          go_roundw
          case rel => exact ⟨k + 1, _, _, by go_num, by omega, Hfin.out⟩
          case measure => simp [intOf]; omega
        | true =>
          go_wp2_with fail
          go_quiet (fail)
          have hEz := (Ext.refl W7).drewN nq
          generalize W7.drewN nq = wz at *
          have hst := Hst7.out.mono hEz
          have hd4 := hEz.cell hd3
          have hszy := hst.ext.size
          have hownu : wz.ownsRow W6.heap.size 30 1 (.slice au ss.length cu) ss.length (rwc ss) := hst.sups.1
          have Hst9 := Lib.hid hst; clear hst hEz
          have hm5 : ss.length + 1 ≤ maxLen := by unfold maxLen; omega
          have hm6 : (ss.length + 1) * 24 ≤ 140737488355328 := by omega
          go_wp2_with (at_builtin; refine wpList_append_where _ rfl _ _ 36 rfl W6.heap.size 30 j0 (.slice none 0 0) 1 24 Tryz.underlying36 hjr hy0 hy1 hy2 rfl (by decide) _ _ _ rfl (hownu.alloc _) ⟨wz.heap.size, 0, none⟩ 1 1 [.slice ae le ce] rfl rfl (cell_one_new _ _ _) (by simp [Value.oneCell']) hm5 hm6 (by rw [World.size_alloc]; omega) ?_; intro v9 W9 hown9 hgrow9 hw9)
          have hfin := rc_yes2 Hst9.out He.out Hsp.out.symm (Hst9.out.ext.ownI Hor.out) (by rw [Hle.out]; omega) (by rw [Heu.out]; exact hown9) hgrow9 hw9
          have Hfin := Lib.hid hfin; clear hfin hown9 hgrow9 hw9 hownu
          go_wp2
          go_roundw
          case rel => exact ⟨k + 1, _, _, by go_num, by omega, Hfin.out⟩
          case measure => simp [intOf]; omega
      · obtain ⟨hzl, hze⟩ := List.getElem?_eq_some_iff.1 hz
        obtain ⟨hy1', hy2'⟩ := prc_at _ l z.2 (show (es.map (·.2))[l]? = some z.2 by rw [List.getElem?_map, hz]; rfl)
        have hcz1 := hst.ext.cell (hpr _ _ hy1')
        have hcz2 := hst.ext.cell (hpr _ _ hy2')
        obtain ⟨hmz1, hmz2, hmz3, hmz4, hmz5⟩ := HRl.out (z.1.x, z.2) (by rw [← Hm6.out]; exact List.mem_map.2 ⟨z, List.mem_of_getElem? hz, rfl⟩)
        dsimp only at hmz1 hmz2 hmz3 hmz4 hmz5
        have hcmp := cmpP_less hme4 hme5 hmz4 hmz5
        have hless := fun W (h : Ext wr W) => less_c x1 x2 z.2.1 z.2.2 W (by omega) (by omega) (by omega) (by omega)
        generalize hz1 : z.2.1 = z1 at *
        generalize hz2 : z.2.2 = z2 at *
        obtain ⟨bb, hbb⟩ : ∃ bb, bb = decide (x1 * z2 < z1 * x2) := ⟨_, rfl⟩
        rw [← hbb] at hless
        have hno : bb = false → RcSt W6 W5.heap.size (ints (tenP n)) es (k + 1) k (.slice av rs.length cv) (.slice au ss.length cu) (.int .i64 (l : Int)) rs ss wr := fun hb => rc_no1 hst He.out hlast (by
          rw [hcmp]
          exact of_decide_eq_false (hbb.symm.trans hb))
        have hyes : bb = true → recStep (ints (tenP n)) (rs.map Rw.x) e.1.x = rs.map Rw.x ++ [e.1.x] := fun hb => by
          unfold recStep
          rw [hlast]
          simp only []
          rw [if_neg (by rw [hcmp]; exact fun h => h (of_decide_eq_true (hbb.symm.trans hb)))]
        have Hno := Lib.hid hno; have Hyes := Lib.hid hyes; have Hless := Lib.hid hless; have Hst := Lib.hid hst
        have hrl8 : rs.length ≤ 8450 := by have := hst.recsl; omega
        clear hno hyes hless hst hbb hcmp hlast hz hze hy1' hy2' hmz1 hmz2 hmz3 hmz4 hmz5
        have hl0 : (0 : Int) ≤ (l : Int) := by omega
        have hl1 : (l : Int) < (es.length : Int) := by omega
        have hl2 : decide ((l : Int) < 0) = false := decide_eq_false (by omega)
        have hl3 : ¬ (l : Int) < 0 := by omega
        go_wp2_with fail
        go_region_held3 (fun w' => Ext wr w' ∧ w'.cell? ⟨p, k * 2, none⟩ = some (.int .i64 x1) ∧ w'.cell? ⟨p, k * 2 + 1, none⟩ = some (.int .i64 x2) ∧ w'.cell? ⟨p, l * 2, none⟩ = some (.int .i64 z1) ∧ w'.cell? ⟨p, l * 2 + 1, none⟩ = some (.int .i64 z2))
          (first | exact held4 ⟨Ext.refl wr, hc1, hc2, hcz1, hcz2⟩ ((Ext.refl wr).drew) | exact held4 (by assumption) hxa)
          (first | (go_at_call 18; refine (Hless.out _ (And.left (by assumption))).mono ?_; rintro e9 V4 ⟨rfl, hxa⟩))
        have hE4 : Ext wr V4 := (Ext.refl wr).drew.trans hxa
        cases bb with
        | false =>
          have Hst7 := Lib.hid ((Hno.out rfl).mono hE4); clear hE4 hxa
          generalize V4 = W7 at *
          have hst := Hst7.out
          have hd1 := hst.ext.cell HC.out.1
          have hd2 := hst.ext.cell HC.out.2.1
          have hd3 := hst.ext.cell HC.out.2.2
          have hul : ss.length ≤ 8450 := by have := hst.supsl; omega
          clear hst
          cases sp with
          | false =>
            go_wp2_with fail
            go_quiet (fail)
            have hEz := (Ext.refl W7).drewN nq
            generalize W7.drewN nq = wz at *
            have Hfin := Lib.hid (rc_no2 (Hst7.out.mono hEz) He.out Hsp.out.symm); clear hEz
            go_wp2_with fail
            go_roundw
            case rel => exact ⟨k + 1, _, _, by go_num, by omega, Hfin.out⟩
            case measure => simp [intOf]; omega
          | true =>
            go_wp2_with fail
            go_quiet (fail)
            have hEz := (Ext.refl W7).drewN nq
            generalize W7.drewN nq = wz at *
            have hst := Hst7.out.mono hEz
            have hd4 := hEz.cell hd3
            have hszy := hst.ext.size
            have hownu : wz.ownsRow W6.heap.size 30 1 (.slice au ss.length cu) ss.length (rwc ss) := hst.sups.1
            have Hst9 := Lib.hid hst; clear hst hEz
            have hm5 : ss.length + 1 ≤ maxLen := by unfold maxLen; omega
            have hm6 : (ss.length + 1) * 24 ≤ 140737488355328 := by omega
            go_wp2_with (at_builtin; refine wpList_append_where _ rfl _ _ 36 rfl W6.heap.size 30 j0 (.slice none 0 0) 1 24 Tryz.underlying36 hjr hy0 hy1 hy2 rfl (by decide) _ _ _ rfl (hownu.alloc _) ⟨wz.heap.size, 0, none⟩ 1 1 [.slice ae le ce] rfl rfl (cell_one_new _ _ _) (by simp [Value.oneCell']) hm5 hm6 (by rw [World.size_alloc]; omega) ?_; intro v9 W9 hown9 hgrow9 hw9)
            have hfin := rc_yes2 Hst9.out He.out Hsp.out.symm (Hst9.out.ext.ownI Hor.out) (by rw [Hle.out]; omega) (by rw [Heu.out]; exact hown9) hgrow9 hw9
            have Hfin := Lib.hid hfin; clear hfin hown9 hgrow9 hw9 hownu
            go_wp2
            go_roundw
            case rel => exact ⟨k + 1, _, _, by go_num, by omega, Hfin.out⟩
            case measure => simp [intOf]; omega
        | true =>
          have hst := Hst.out.mono hE4
          have hcr2 := hE4.cell hcr'
          have hszz := hst.ext.size
          have hownr : V4.ownsRow W6.heap.size 30 1 (.slice av rs.length cv) rs.length (rwc rs) := hst.recs.1
          have Hst2 := Lib.hid hst; clear hst hE4 hxa
          have hm3 : rs.length + 1 ≤ maxLen := by unfold maxLen; omega
          have hm4 : (rs.length + 1) * 24 ≤ 140737488355328 := by omega
          go_wp2_with (at_builtin; refine wpList_append_where _ rfl _ _ 36 rfl W6.heap.size 30 j0 (.slice none 0 0) 1 24 Tryz.underlying36 hjr hy0 hy1 hy2 rfl (by decide) _ _ _ rfl (hownr.alloc _) ⟨V4.heap.size, 0, none⟩ 1 1 [.slice ae le ce] rfl rfl (cell_one_new _ _ _) (by simp [Value.oneCell']) hm3 hm4 (by rw [World.size_alloc]; omega) ?_; intro v7 W7 hown7 hgrow7 hw7)
          have hst7 := rc_yes1 Hst2.out He.out (Hyes.out (by first | rfl | trivial)) (Hst2.out.ext.ownI Hor.out) (by rw [Hle.out]; omega) (by rw [Heu.out]; exact hown7) hgrow7 hw7
          obtain ⟨av7, cv7, rfl⟩ := own_shape hst7.recs.1
          rw [show (rs ++ [e.1]).length = rs.length + 1 by simp] at hst7
          have Hst7 := Lib.hid hst7; clear hst7 hown7 hgrow7 hw7 hownr hcr2
          have hst := Hst7.out
          have hd1 := hst.ext.cell HC.out.1
          have hd2 := hst.ext.cell HC.out.2.1
          have hd3 := hst.ext.cell HC.out.2.2
          have hul : ss.length ≤ 8450 := by have := hst.supsl; omega
          clear hst
          cases sp with
          | false =>
            go_wp2_with fail
            go_quiet (fail)
            have hEz := (Ext.refl W7).drewN nq
            generalize W7.drewN nq = wz at *
            have Hfin := Lib.hid (rc_no2 (Hst7.out.mono hEz) He.out Hsp.out.symm); clear hEz
            go_wp2_with fail
            go_roundw
            case rel => exact ⟨k + 1, _, _, by go_num, by omega, by first | exact Hfin.out | (rw [show (rs ++ [e.1]).length = rs.length + 1 by simp]; exact Hfin.out)⟩
            case measure => simp [intOf]; omega
          | true =>
            go_wp2_with fail
            go_quiet (fail)
            have hEz := (Ext.refl W7).drewN nq
            generalize W7.drewN nq = wz at *
            have hst := Hst7.out.mono hEz
            have hd4 := hEz.cell hd3
            have hszy := hst.ext.size
            have hownu : wz.ownsRow W6.heap.size 30 1 (.slice au ss.length cu) ss.length (rwc ss) := hst.sups.1
            have Hst9 := Lib.hid hst; clear hst hEz
            have hm5 : ss.length + 1 ≤ maxLen := by unfold maxLen; omega
            have hm6 : (ss.length + 1) * 24 ≤ 140737488355328 := by omega
            go_wp2_with (at_builtin; refine wpList_append_where _ rfl _ _ 36 rfl W6.heap.size 30 j0 (.slice none 0 0) 1 24 Tryz.underlying36 hjr hy0 hy1 hy2 rfl (by decide) _ _ _ rfl (hownu.alloc _) ⟨wz.heap.size, 0, none⟩ 1 1 [.slice ae le ce] rfl rfl (cell_one_new _ _ _) (by simp [Value.oneCell']) hm5 hm6 (by rw [World.size_alloc]; omega) ?_; intro v9 W9 hown9 hgrow9 hw9)
            have hfin := rc_yes2 Hst9.out He.out Hsp.out.symm (Hst9.out.ext.ownI Hor.out) (by rw [Hle.out]; omega) (by rw [Heu.out]; exact hown9) hgrow9 hw9
            have Hfin := Lib.hid hfin; clear hfin hown9 hgrow9 hw9 hownu
            go_wp2
            go_roundw
            case rel => exact ⟨k + 1, _, _, by go_num, by omega, Hfin.out⟩
            case measure => simp [intOf]; omega
    · have hke : (es.map (·.1.x)).take k = ex.map (·.1) := by
        rw [List.take_of_length_le (by rw [List.length_map]; omega), ← Hm6.out, List.map_map]; rfl
      have hR1 : rs.map Rw.x = recsOf (ints (tenP n)) (ex.map (·.1)) := by rw [hst.recsx, hke]
      have hR2 : ss.map Rw.x = (ex.map (·.1)).filter (superP (ints (tenP n))) := by rw [hst.supsx, hke]
      have hm1 := hst.recs.mat
      have hm2 := hst.sups.mat
      have hm4 := (hst.ext.rwL Hs4.out).mat
      have hm5 := (hst.ext.rwL Hs5.out).mat
      rw [hR1, ← Hm4.out] at hm1
      rw [hR2, ← Hm5.out] at hm2
      have hl4 : (rs4.map Rw.x).length ≤ 1000000 := by rw [Hm4.out]; have := Hrl.out; omega
      have hl5 : (rs5.map Rw.x).length ≤ 1000000 := by rw [Hm5.out]; exact Nat.le_trans (List.length_filter_le _ _) (by rw [List.length_map]; omega)
      have hlen : ∀ r ∈ ex.map (·.1), r.length ≤ 1000 := fun r hr => by
        obtain ⟨e, he, rfl⟩ := List.mem_map.1 hr
        exact (HRl.out e he).1
      have hr4 : ∀ r ∈ rs4.map Rw.x, r.length ≤ 1000 := fun r hr => hlen r (Hrm.out r (by rw [← Hm4.out]; exact hr))
      have hr5 : ∀ r ∈ rs5.map Rw.x, r.length ≤ 1000 := fun r hr => by
        rw [Hm5.out] at hr
        exact hlen r (List.mem_filter.1 hr).1
      have hsm1 := Hsame.out wr _ _ _ _ hm4 hm1 hl4 hl4 (small_rows hr4) (small_rows hr4)
      rw [show decide (rs4.map Rw.x = rs4.map Rw.x) = true from decide_eq_true rfl] at hsm1
      have hsm2 : ∀ W, Ext wr W → Calls Tryz.prog 16 #[.slice a5 rs5.length c5, .slice au ss.length cu] W fun e w' => e = .returned (.bool true) ∧ Qu W w' := fun W h => by
        have := Hsame.out W _ _ _ _ (h.mat hm5) (h.mat hm2) hl5 hl5 (small_rows hr5) (small_rows hr5)
        rwa [show decide (rs5.map Rw.x = rs5.map Rw.x) = true from decide_eq_true rfl] at this
      have Hsm1 := Lib.hid hsm1; have Hsm2 := Lib.hid hsm2; have Hex := Lib.hid hst.ext
      clear hke hR1 hR2 hm1 hm2 hm4 hm5 hl4 hl5 hlen hr4 hr5 hsm1 hsm2 hst
      go_wp2_with fail
      refine Hsm1.out.mono ?_
      rintro e W8 ⟨rfl, hq8⟩
      have Hq8 := Lib.hid hq8.ext; clear hq8
      go_wp2_with fail
      refine (Hsm2.out W8 Hq8.out).mono ?_
      rintro e W9 ⟨rfl, hq9⟩
      have Hq9 := Lib.hid hq9.ext; clear hq9
      go_wp2
      go_ret
      exact ⟨rfl, HE1.out.trans (HE6.out.trans (Hex.out.trans (Hq8.out.trans Hq9.out)))⟩

end Go.Proofs.YtkamjjjimbbdmaaGreatDoor
