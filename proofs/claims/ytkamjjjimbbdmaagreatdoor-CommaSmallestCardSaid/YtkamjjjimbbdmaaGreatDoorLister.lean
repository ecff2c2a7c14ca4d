/- The walk of the law's own list. -/
import Derived.Test.YtkamjjjimbbdmaaGreatDoorPlain
import Derived.Test.YtkamjjjimbbdmaaGreatDoorPlan
import Derived.RegionTactic
import Derived.ChangeAlike
namespace Go.Proofs.YtkamjjjimbbdmaaGreatDoor
open Go.RowKit Go.Lib Go.Shelf Go.Sort

/-- A list of pairs that the call made. -/
def prc (l : List (Nat × Nat)) : List Value := l.flatMap fun e => [.int .i64 (e.1 : Int), .int .i64 (e.2 : Int)]
theorem prc_length (l : List (Nat × Nat)) : (prc l).length = l.length * 2 := by
  induction l with
  | nil => rfl
  | cons e r ih => simp only [prc, List.flatMap_cons, List.length_append, List.length_cons] at *; rw [ih]; simp; omega
theorem prc_snoc (l : List (Nat × Nat)) (e : Nat × Nat) : prc (l ++ [e]) = prc l ++ [.int .i64 (e.1 : Int), .int .i64 (e.2 : Int)] := by simp [prc]
def PrL (w : World) (B : Nat) (v : Value) (l : List (Nat × Nat)) : Prop := w.ownsRow B 47 2 v l.length (prc l)
theorem Ext.prL {w w' : World} (h : Ext w w') {B : Nat} {v : Value} {l : List (Nat × Nat)} (hs : PrL w B v l) : PrL w' B v l := h.own hs
theorem info_pair : (Tryz.prog.info? 47).map (fun i => (i.zero, i.size, i.bytes)) = some (some (.agg #[.int .i64 0, .int .i64 0]), 2, 16) := by kernel_rfl

/-- A difference under way. -/
def dz (x y : List Int) (i L : Nat) : List Int := (List.range L).map fun t => if t < i then nthI x t - nthI y t else 0
theorem dz_length (x y : List Int) (i L : Nat) : (dz x y i L).length = L := by simp [dz]
theorem dz_zero (x y : List Int) (L : Nat) : dz x y 0 L = List.replicate L 0 := by
  apply List.ext_getElem?
  intro j
  unfold dz
  rw [List.getElem?_map]
  rcases Nat.lt_or_ge j L with h | h
  · rw [List.getElem?_range h, List.getElem?_replicate, if_pos h]; rfl
  · rw [List.getElem?_eq_none (by simpa using h), List.getElem?_replicate, if_neg (by omega)]; rfl
theorem dz_set (x y : List Int) {i L : Nat} (h : i < L) : (dz x y i L).set i (nthI x i - nthI y i) = dz x y (i + 1) L := by
  apply List.ext_getElem?
  intro j
  rw [List.getElem?_set]
  unfold dz
  rw [List.getElem?_map, List.getElem?_map]
  by_cases hj : i = j
  · subst hj
    rw [if_pos rfl, if_pos (by simpa using h), List.getElem?_range h]
    simp
  · rw [if_neg hj]
    rcases Nat.lt_or_ge j L with g | g
    · rw [List.getElem?_range g]
      simp only [Option.map_some]
      by_cases g2 : j < i
      · rw [if_pos g2, if_pos (by omega)]
      · rw [if_neg g2, if_neg (by omega)]
    · rw [List.getElem?_eq_none (by simpa using g)]; rfl
theorem dz_full (x y : List Int) {L : Nat} (h : x.length = L) : dz x y L L = diff x y := by
  unfold dz diff
  rw [h]
  apply List.map_congr_left
  intro t ht
  rw [if_pos (List.mem_range.1 ht)]

theorem dz_own {w : World} {B g cap : Nat} {x y : List Int} {t L : Nat} (h : OwnI w B (.slice (some ⟨g, 0, none⟩) L cap) (dz x y t L)) (ht : t < L) :
    (∃ z, w.cell? ⟨g, t, none⟩ = some (.int .i64 z)) ∧ w.frozen? ⟨g, t, none⟩ = false ∧ OwnI (w.setCell ⟨g, t, none⟩ (.int .i64 (nthI x t - nthI y t))) B (.slice (some ⟨g, 0, none⟩) L cap) (dz x y (t + 1) L) := by
  have hl := dz_length x y t L
  have h2 : OwnI w B (.slice (some ⟨g, 0, none⟩) (dz x y t L).length cap) (dz x y t L) := by rw [hl]; exact h
  have h' : w.ownsRow B 3 1 (.slice (some ⟨g, 0, none⟩) (dz x y t L).length cap) (dz x y t L).length (i64s (dz x y t L)) := h2
  refine ⟨⟨_, ownI_cell h2 t (by rw [hl]; exact ht)⟩, World.ownsRow.frozenAt h' t, ?_⟩
  have h3 := ownI_set h2 t (nthI x t - nthI y t)
  rw [hl, dz_set x y ht] at h3
  exact h3
theorem own_at {w : World} {B : Nat} {a : Option Addr} {c : Nat} {x : List Int} {t : Nat} (h : OwnI w B (.slice a x.length c) x) (ht : t < x.length) : ∃ g, a = some ⟨g, 0, none⟩ ∧ w.cell? ⟨g, t, none⟩ = some (.int .i64 (nthI x t)) := by
  obtain ⟨g, cap, e0, _, hc, _⟩ := row_at h ht
  injection e0 with e1 _ _
  exact ⟨g, e1, hc⟩
theorem divs_le1 (q : Nat) : ∀ (f n : Nat), (divs q f n).1 ≤ n
  | 0, n => Nat.le_refl _
  | f + 1, n => by
    rw [divs]
    split
    · exact Nat.le_trans (divs_le1 q f (n / q)) (Nat.div_le_self _ _)
    · exact Nat.le_refl _
theorem expsR_bound : ∀ (p : List Nat) (n t : Nat), 0 ≤ nthI (expsR p n).1 t ∧ nthI (expsR p n).1 t ≤ n
  | [], n, t => by simp [expsR, nthI]
  | q :: r, n, 0 => by
    have := divs_cnt q n n
    simp [expsR, nthI]; omega
  | q :: r, n, t + 1 => by
    have h1 := expsR_bound r (divs q n n).1 t
    have h2 := divs_le1 q n n
    have e : nthI (expsR (q :: r) n).1 (t + 1) = nthI (expsR r (divs q n n).1).1 t := by simp [expsR, nthI]
    rw [e]; omega

theorem wcol_length (num den : Nat) (p : List Nat) (n : Nat) (x : List Int) : ∀ k, (wcol num den p n x k).length ≤ k
  | 0 => Nat.le_refl _
  | k + 1 => by
    have ih := wcol_length num den p n x k
    have h : (wrow num den p n x (k + 1)).length ≤ 1 := by
      rw [wrow]
      cases exps p (k + 1) with
      | none => simp
      | some y => simp only; split <;> simp
    rw [wcol, List.length_append]
    omega

def LOut (num den H : Nat) (p : List Nat) (W1 : World) (v u n : Value) (wr : World) : Prop :=
  ∃ (j : Nat) (rs : List Rw), n = .int .i64 ((j : Int) + 1) ∧ 1 ≤ j ∧ j ≤ H ∧ RwL wr W1.heap.size v rs ∧ PrL wr W1.heap.size u ((wall num den p j).map (·.2)) ∧ rs.map Rw.x = (wall num den p j).map (·.1) ∧ Ext W1 wr
def LIn (num den j : Nat) (p : List Nat) (ex : List Int) (W1 : World) (xv v u d : Value) (wr : World) : Prop :=
  ∃ (i : Nat) (rs : List Rw), d = .int .i64 ((i : Int) + 1) ∧ i ≤ j ∧ RwL wr W1.heap.size v rs ∧ PrL wr W1.heap.size u ((wall num den p j ++ wcol num den p (j + 1) ex i).map (·.2)) ∧ rs.map Rw.x = (wall num den p j ++ wcol num den p (j + 1) ex i).map (·.1) ∧ OwnI wr W1.heap.size xv ex ∧ Ext W1 wr
theorem lin_same {num den j i : Nat} {p : List Nat} {ex : List Int} {W1 W6 W7 : World} {xv v u : Value} {rs : List Rw} (hi : i < j) (hr : RwL W6 W1.heap.size v rs) (hp : PrL W6 W1.heap.size u ((wall num den p j ++ wcol num den p (j + 1) ex i).map (·.2))) (hm : rs.map Rw.x = (wall num den p j ++ wcol num den p (j + 1) ex i).map (·.1))
    (hx : OwnI W6 W1.heap.size xv ex) (hE : Ext W1 W6) (h7 : Ext W6 W7) (hw : wrow num den p (j + 1) ex (i + 1) = []) : LIn num den j p ex W1 xv v u (.int .i64 ((i : Int) + 1 + 1)) W7 := by
  refine ⟨i + 1, rs, by simp, by omega, h7.rwL hr, ?_, ?_, h7.ownI hx, hE.trans h7⟩
  · rw [wcol, hw, List.append_nil]; exact h7.prL hp
  · rw [wcol, hw, List.append_nil]; exact hm
theorem lin_more {num den j i : Nat} {p : List Nat} {ex dd : List Int} {W1 W6 W7 W8 : World} {xv v u zv v7 u8 : Value} {rs : List Rw} {t1 t2 : Obj} (hi : i < j) (hr : RwL W6 W1.heap.size v rs) (hp : PrL W6 W1.heap.size u ((wall num den p j ++ wcol num den p (j + 1) ex i).map (·.2))) (hm : rs.map Rw.x = (wall num den p j ++ wcol num den p (j + 1) ex i).map (·.1))
    (hx : OwnI W6 W1.heap.size xv ex) (hz : OwnI W6 W1.heap.size zv dd) (hone : zv.oneCell' = true) (hE : Ext W1 W6) (hw : wrow num den p (j + 1) ex (i + 1) = [(dd, j + 1, i + 1)])
    (hown7 : W7.ownsRow W1.heap.size 30 1 v7 (rs.length + 1) (rwc rs ++ [zv])) (hg7 : (W6.alloc t1).grownBy W7 v.ownBlock)
    (hown8 : W8.ownsRow W1.heap.size 47 2 u8 (((wall num den p j ++ wcol num den p (j + 1) ex i).map (·.2)).length + 1) (prc ((wall num den p j ++ wcol num den p (j + 1) ex i).map (·.2)) ++ [.int .i64 ((j : Int) + 1), .int .i64 ((i : Int) + 1)])) (hg8 : (W7.alloc t2).grownBy W8 u.ownBlock) : LIn num den j p ex W1 xv v7 u8 (.int .i64 ((i : Int) + 1 + 1)) W8 := by
  have hE7 : Ext W1 W7 := ext_grown hE hr.1 hg7
  have hp7 : PrL W7 W1.heap.size u ((wall num den p j ++ wcol num den p (j + 1) ex i).map (·.2)) := World.ownsRow.kept (((Ext.refl W6).alloc t1).prL hp) hg7 (own_ne hp hr.1 (by decide))
  have hE8 : Ext W1 W8 := ext_grown hE7 hp7 hg8
  have keep7 : ∀ {a x}, OwnI W6 W1.heap.size a x → OwnI W7 W1.heap.size a x := fun ho => World.ownsRow.kept (((Ext.refl W6).alloc t1).ownI ho) hg7 (own_ne ho hr.1 (by decide))
  have keep8 : ∀ {a x}, OwnI W7 W1.heap.size a x → OwnI W8 W1.heap.size a x := fun ho => World.ownsRow.kept (((Ext.refl W7).alloc t2).ownI ho) hg8 (own_ne ho hp7 (by decide))
  have hv8 : W8.ownsRow W1.heap.size 30 1 v7 (rs.length + 1) (rwc rs ++ [zv]) := World.ownsRow.kept (((Ext.refl W7).alloc t2).own hown7) hg8 (own_ne hown7 hp7 (by decide))
  refine ⟨i + 1, rs ++ [⟨dd, zv, hone⟩], by simp, by omega, ⟨?_, ?_⟩, ?_, ?_, keep8 (keep7 hx), hE8⟩
  · rw [List.length_append, show rwc (rs ++ [⟨dd, zv, hone⟩]) = rwc rs ++ [zv] by simp [rwc]]
    exact hv8
  · intro r hmem
    rcases List.mem_append.1 hmem with h | h
    · exact keep8 (keep7 (hr.2 r h))
    · simp only [List.mem_singleton] at h
      subst h
      exact keep8 (keep7 hz)
  · rw [wcol, hw, ← List.append_assoc, List.map_append]
    unfold PrL
    rw [List.length_append, show ([(dd, j + 1, i + 1)] : List (List Int × Nat × Nat)).map (·.2) = [(j + 1, i + 1)] from rfl, prc_snoc]
    have e1 : (((j + 1 : Nat) : Int)) = (j : Int) + 1 := by omega
    have e2 : (((i + 1 : Nat) : Int)) = (i : Int) + 1 := by omega
    rw [e1, e2]
    exact hown8
  · rw [wcol, hw, ← List.append_assoc, List.map_append, List.map_append, hm]
    rfl

set_option maxRecDepth 100000 in
set_option maxHeartbeats 4000000 in
theorem lister_c (vp vx : Value) (p : List Nat) (x : List Int) (H : Nat) (w : World) (he : Env w) (hp : Sl w vp (i64s (ints p))) (hx : Sl w vx (i64s x)) (hn : Nice (ints p) x) (hlen : x.length = (ints p).length) (hl : p.length ≤ 64) (hq : ∀ i, i < p.length → 2 ≤ nth p i ∧ nth p i ≤ 1000) (h1 : 1 ≤ H) (hH : H ≤ 1000) :
    Calls Tryz.prog 15 #[.agg #[vp, .int .i64 H, vx]] w fun e w' => ∃ v u rs, e = .returned (.tuple #[v, u]) ∧ RwL w' w.heap.size v rs ∧ PrL w' w.heap.size u ((wall (numP (ints p) x) (denP (ints p) x) p H).map (·.2)) ∧ rs.map Rw.x = (wall (numP (ints p) x) (denP (ints p) x) p H).map (·.1) ∧ Ext w w' := by
  obtain ⟨i0, hi, hz0, hz1, hz2⟩ := info_parts info_int
  obtain ⟨j0, hj, hy0, hy1, hy2⟩ := info_parts info_row
  obtain ⟨k0, hk0, hv0, hv1, hv2⟩ := info_parts info_pair
  have hva := fun W (hE : Ext w W) => value_c vp vx (ints p) x W (he.ext hE) (hE.sl hp) (hE.sl hx) hn hlen
  have hex := fun W (hE : Ext w W) (n : Nat) (h1 : 1 ≤ n) (hn : n ≤ 1000000) => exps_c vp p n W (hE.sl hp) hl hq h1 hn
  have hnd := numP_digits hn
  have hdd := denP_digits hn
  obtain ⟨ap, cp, rfl, _, _, _⟩ := hp.parts
  obtain ⟨ax, cx, rfl, _, _, _⟩ := hx.parts
  clear hp hx hq hn hlen
  rw [i64s_length, ints_length] at *
  rw [i64s_length] at *
  generalize numP (ints p) x = num at *
  generalize denP (ints p) x = den at *
  have hfn : Fit (num : Int) := by show nDigits num ≤ 400000; omega
  have hfd : Fit (den : Int) := by show nDigits den ≤ 400000; omega
  have fit2 : ∀ m k : Nat, m ≤ 1000000 → nDigits k ≤ 256001 → Fit ((m : Int) * (k : Int)) := fun m k h1 h2 => by
    rw [← Int.natCast_mul]; show nDigits (m * k) ≤ 400000
    have h3 := nDigits_lt (n := m) (k := 7) (by omega) (by omega)
    have h4 := nDigits_mul m k
    omega
  have fit1 : ∀ m : Nat, m ≤ 1000000 → Fit (m : Int) := fun m h1 => by
    show nDigits m ≤ 400000
    have h3 := nDigits_lt (n := m) (k := 7) (by omega) (by omega)
    omega
  have Hva := Lib.hid hva; have Hex := Lib.hid hex; have Hnd := Lib.hid hnd; have Hdd := Lib.hid hdd; have Hfn := Lib.hid hfn; have Hfd := Lib.hid hfd; have Fit2 := Lib.hid fit2; have Fit1 := Lib.hid fit1; have He := Lib.hid he
  clear hva hex hnd hdd hfn hfd fit2 fit1 he
  obtain ⟨hb0, hb1, hb2⟩ := three_new w (.slice ap p.length cp) (.int .i64 H) (.slice ax x.length cx) 32
  have hE0 : Ext w (w.alloc (.cells #[.slice ap p.length cp, .int .i64 H, .slice ax x.length cx] 32)) := (Ext.refl w).alloc _
  generalize hw0 : w.alloc (.cells #[.slice ap p.length cp, .int .i64 H, .slice ax x.length cx] 32) = W0 at *
  go_enter Tryz.func15, Tryz.ntmps15
  go_wp2_with fail
  refine (Hva.out W0 hE0).mono ?_
  rintro e W1 ⟨rfl, hx1⟩
  have hE1 := hE0.trans hx1
  have hc0 := hx1.cell hb0
  have hc1 := hx1.cell hb1
  have HE1 := Lib.hid hE1; clear hE1 hx1 hE0
  go_wp2_with fail
  go_loopw [6, 7, 8] (fun v u n wr => LOut num den H p W1 v u n wr) (fun _ _ n _ => H + 1 - (intOf n).toNat)
  case atStart => 
    refine ⟨1, [], rfl, Nat.le_refl _, h1, RwL.nil _ _, ?_, ?_, Ext.refl _⟩
    · have : wall num den p 1 = [] := by
        rw [wall, wall, wover]; cases exps p (0 + 1) <;> rfl
      rw [this]; exact World.ownsRow_nil _ _ _ 2
    · have : wall num den p 1 = [] := by
        rw [wall, wall, wover]; cases exps p (0 + 1) <;> rfl
      rw [this]; rfl
  case round =>
    obtain ⟨j, rs, rfl, hj1, hjH, hrs, hps, hmp, hext⟩ := hrel
    obtain ⟨av, cv, rfl⟩ := own_shape hrs.1
    obtain ⟨au, cu, rfl⟩ := own_shape hps
    have hlw := wall_length num den p j
    have hjj : j * j ≤ 1000 * 1000 := Nat.mul_le_mul (by omega) (by omega)
    have Hrs := Lib.hid hrs; have Hps := Lib.hid hps; have Hmp := Lib.hid hmp; have Hext := Lib.hid hext
    clear hrs hps hmp hext
    generalize hL1 : (wall num den p j).map (·.2) = L1 at *
    have HL1 := Lib.hid hL1; clear hL1
    have hcc0 := Hext.out.cell hc0
    have hcc1 := Hext.out.cell hc1
    by_cases hlt : j < H
    · have hjlt : (j : Int) + 1 ≤ (H : Int) := by omega
      have hexn := Hex.out wr (HE1.out.trans Hext.out) (j + 1) (by omega) (by omega)
      rw [show (((j + 1 : Nat)) : Int) = (j : Int) + 1 by omega] at hexn
      have Hexn := Lib.hid hexn; clear hexn
      go_wp2_with fail
      refine Hexn.out.mono ?_
      rintro e W4 ⟨xv, rfl, hxv, hx4⟩
      have hxv : OwnI W4 W1.heap.size xv (expsR p (j + 1)).1 := own_mono hxv Hext.out.size
      have hE4 := Hext.out.trans hx4
      have hrs4 := hx4.rwL Hrs.out
      have hps4 := hx4.prL Hps.out
      have Hrs4 := Lib.hid hrs4; have Hps4 := Lib.hid hps4; have HE4 := Lib.hid hE4; have Hxv := Lib.hid hxv; clear hrs4 hps4 hE4 hxv hx4 Hexn
      by_cases hyes : (expsR p (j + 1)).2 = 1
      · have hexj : exps p (j + 1) = some (expsR p (j + 1)).1 := by unfold exps; rw [if_pos hyes]
        rw [decide_eq_true hyes]
        have hxl := expsR_length p (j + 1)
        have hxb := expsR_bound p (j + 1)
        generalize (expsR p (j + 1)).1 = ex at *
        obtain ⟨axv, cxv, rfl⟩ := own_shape Hxv.out
        have Hexj := Lib.hid hexj; have Hxl := Lib.hid hxl; have Hxb := Lib.hid hxb; clear hexj hyes hxl hxb
        go_wp2_with fail
        go_loopw [6, 7, 11] (fun v u d wr => LIn num den j p ex W1 (.slice axv ex.length cxv) v u d wr) (fun _ _ d _ => j + 1 - (intOf d).toNat)
        case atStart =>
          exact ⟨0, rs, rfl, Nat.zero_le _, Hrs4.out, by rw [wcol, List.append_nil, HL1.out]; exact Hps4.out, by rw [wcol, List.append_nil]; exact Hmp.out, Hxv.out, HE4.out⟩
        case round =>
          obtain ⟨i, rs2, rfl, hij, hrs2, hps2, hmp2, hxv2, hext2⟩ := hrel
          obtain ⟨av2, cv2, rfl⟩ := own_shape hrs2.1
          obtain ⟨au2, cu2, rfl⟩ := own_shape hps2
          have hcl := wcol_length num den p (j + 1) ex i
          have hlen2 := congrArg List.length hmp2
          simp only [List.length_map, List.length_append] at hlen2
          have hlenb : rs2.length ≤ 1001000 := by omega
          have hlenp : ((wall num den p j ++ wcol num den p (j + 1) ex i).map (·.2)).length ≤ 1001000 := by simp only [List.length_map, List.length_append]; omega
          have Hrs2 := Lib.hid hrs2; have Hps2 := Lib.hid hps2; have Hmp2 := Lib.hid hmp2; have Hxv2 := Lib.hid hxv2; have Hext2 := Lib.hid hext2
          clear hrs2 hps2 hmp2 hxv2 hext2 hlen2 hcl
          generalize hL2 : (wall num den p j ++ wcol num den p (j + 1) ex i).map (·.2) = L2 at *
          have HL2 := Lib.hid hL2; clear hL2
          have hd0 := Hext2.out.cell hc0
          by_cases hil : i < j
          · have hilt : (i : Int) + 1 < (j : Int) + 1 := by omega
            have hexd := Hex.out wr (HE1.out.trans Hext2.out) (i + 1) (by omega) (by omega)
            rw [show (((i + 1 : Nat)) : Int) = (i : Int) + 1 by omega] at hexd
            have Hexd := Lib.hid hexd; clear hexd
            go_wp2_with fail
            refine Hexd.out.mono ?_
            rintro e W6 ⟨yv, rfl, hyv, hx6⟩
            have hyv : OwnI W6 W1.heap.size yv (expsR p (i + 1)).1 := own_mono hyv Hext2.out.size
            have hE6 := Hext2.out.trans hx6
            have hrs6 := hx6.rwL Hrs2.out
            have hps6 := hx6.prL Hps2.out
            have hxv6 := hx6.ownI Hxv2.out
            have Hrs6 := Lib.hid hrs6; have Hps6 := Lib.hid hps6; have Hxv6 := Lib.hid hxv6; have HE6 := Lib.hid hE6; have Hyv := Lib.hid hyv; clear hrs6 hps6 hxv6 hE6 hyv hx6 Hexd
            by_cases hyd : (expsR p (i + 1)).2 = 1
            · have hexi : exps p (i + 1) = some (expsR p (i + 1)).1 := by unfold exps; rw [if_pos hyd]
              rw [decide_eq_true hyd]
              have hyl := expsR_length p (i + 1)
              have hyb := expsR_bound p (i + 1)
              generalize (expsR p (i + 1)).1 = ey at *
              obtain ⟨ayv, cyv, rfl⟩ := own_shape Hyv.out
              clear hyd
              have hgc := fun W => gcd_c (j + 1) (i + 1) W (by omega) (by omega)
              simp only [show (((j + 1 : Nat)) : Int) = (j : Int) + 1 by omega, show (((i + 1 : Nat)) : Int) = (i : Int) + 1 by omega] at hgc
              have hwr : wrow num den p (j + 1) ex (i + 1) = if Nat.gcd (j + 1) (i + 1) = 1 ∧ ¬ (i + 1) * num < (j + 1) * den then [(diff ex ey, j + 1, i + 1)] else [] := by rw [wrow, hexi]
              have Hgc := Lib.hid hgc; have Hwr := Lib.hid hwr; have Hyl := Lib.hid hyl; have Hyb := Lib.hid hyb; clear hgc hwr hexi hyl hyb
              by_cases hg : Nat.gcd (j + 1) (i + 1) = 1
              · rw [hg] at Hgc
                have hgt : ((((1 : Nat)) : Int) != 1) = false := rfl
                go_wp2_with fail
                refine (Hgc.out W6).mono ?_
                rintro e W7 ⟨rfl, hq7⟩
                have Hx67 := Lib.hid hq7.ext; clear hq7
                have hej : (((j + 1 : Nat)) : Int) = (j : Int) + 1 := by omega
                have hei : (((i + 1 : Nat)) : Int) = (i : Int) + 1 := by omega
                have hf1 : Fit ((j : Int) + 1) := by rw [← hej]; exact Fit1.out (j + 1) (by omega)
                have hf2 : Fit ((i : Int) + 1) := by rw [← hei]; exact Fit1.out (i + 1) (by omega)
                have hf3 : Fit (((j : Int) + 1) * (den : Int)) := by rw [← hej]; exact Fit2.out (j + 1) den (by omega) Hdd.out
                have hf4 : Fit ((num : Int) * ((i : Int) + 1)) := by rw [← hei, Int.mul_comm]; exact Fit2.out (i + 1) num (by omega) Hnd.out
                have hcv : 0 < cmpI (((j : Int) + 1) * (den : Int)) ((num : Int) * ((i : Int) + 1)) ↔ (i + 1) * num < (j + 1) * den := by
                  rw [← hej, ← hei, ← Int.natCast_mul, ← Int.natCast_mul, Nat.mul_comm num]
                  unfold cmpI
                  by_cases h : (j + 1) * den < (i + 1) * num
                  · rw [if_pos (by omega)]; omega
                  · rw [if_neg (by omega)]; split <;> omega
                have Hf1 := Lib.hid hf1; have Hf2 := Lib.hid hf2; have Hf3 := Lib.hid hf3; have Hf4 := Lib.hid hf4; have Hcv := Lib.hid hcv; clear hf1 hf2 hf3 hf4 hcv hej hei
                go_wp2_with fail
                refine (wholeOf_c ((j : Int) + 1) (by omega) (by omega) W7 (He.out.ext ((HE1.out.trans HE6.out).trans Hx67.out))).mono ?_
                rintro e W8 ⟨rfl, hx8⟩
                have hE68 := Hx67.out.trans hx8
                have HE68 := Lib.hid hE68; clear hE68 hx8
                go_wp2_with fail
                refine (mul_c ((j : Int) + 1) (den : Int) W8 (He.out.ext ((HE1.out.trans HE6.out).trans HE68.out)) Hf1.out Hfd.out).mono ?_
                rintro e W9 ⟨rfl, hx9⟩
                have hE69 := HE68.out.trans hx9
                have HE69 := Lib.hid hE69; clear hE69 hx9
                go_wp2_with fail
                refine (wholeOf_c ((i : Int) + 1) (by omega) (by omega) W9 (He.out.ext ((HE1.out.trans HE6.out).trans HE69.out))).mono ?_
                rintro e W10 ⟨rfl, hx10⟩
                have hE610 := HE69.out.trans hx10
                have HE610 := Lib.hid hE610; clear hE610 hx10
                go_wp2_with fail
                refine (mul_c (num : Int) ((i : Int) + 1) W10 (He.out.ext ((HE1.out.trans HE6.out).trans HE610.out)) Hfn.out Hf2.out).mono ?_
                rintro e W11 ⟨rfl, hx11⟩
                have hE611 := HE610.out.trans hx11
                have HE611 := Lib.hid hE611; clear hE611 hx11
                go_wp2_with fail
                refine (cmp_c (((j : Int) + 1) * (den : Int)) ((num : Int) * ((i : Int) + 1)) W11 Hf3.out Hf4.out).mono ?_
                rintro e W12 ⟨rfl, hx12⟩
                have hE612 := HE611.out.trans hx12
                have HE612 := Lib.hid hE612; clear hE612 hx12 HE611 HE610 HE69 HE68
                by_cases hbr : (i + 1) * num < (j + 1) * den
                · have hcp : 0 < cmpI (((j : Int) + 1) * (den : Int)) ((num : Int) * ((i : Int) + 1)) := Hcv.out.2 hbr
                  have hwr : wrow num den p (j + 1) ex (i + 1) = [] := by rw [Hwr.out, if_neg (fun h => h.2 hbr)]
                  have Hwr2 := Lib.hid hwr; clear hwr Hwr hbr
                  generalize cmpI (((j : Int) + 1) * (den : Int)) ((num : Int) * ((i : Int) + 1)) = cc at *
                  go_wp2_with fail
                  go_roundw
                  case rel => exact lin_same hil Hrs6.out (by rw [HL2.out]; exact Hps6.out) Hmp2.out Hxv6.out HE6.out HE612.out Hwr2.out
                  case measure => simp [intOf]; omega
                · have hcp : ¬ 0 < cmpI (((j : Int) + 1) * (den : Int)) ((num : Int) * ((i : Int) + 1)) := fun h => hbr (Hcv.out.1 h)
                  have hwr : wrow num den p (j + 1) ex (i + 1) = [(diff ex ey, j + 1, i + 1)] := by rw [Hwr.out, if_pos ⟨hg, hbr⟩]
                  have Hwr2 := Lib.hid hwr; clear hwr Hwr hbr hg
                  generalize cmpI (((j : Int) + 1) * (den : Int)) ((num : Int) * ((i : Int) + 1)) = cc at *
                  have hexl : ex.length ≤ 64 := by have := Hxl.out; omega
                  have hrs12 := HE612.out.rwL Hrs6.out
                  have hps12 := HE612.out.prL Hps6.out
                  have hxv12 := HE612.out.ownI Hxv6.out
                  have hyv12 := HE612.out.ownI Hyv.out
                  have hE12 := HE6.out.trans HE612.out
                  have Hrs12 := Lib.hid hrs12; have Hps12 := Lib.hid hps12; have Hxv12 := Lib.hid hxv12; have Hyv12 := Lib.hid hyv12; have HE12 := Lib.hid hE12
                  clear hrs12 hps12 hxv12 hyv12 hE12
                  go_wp2_with (at_make; refine wpList_make_full _ rfl _ _ 30 rfl W12.heap.size 3 i0 (.int .i64 0) 1 Tryz.underlying30 hi hz0 hz1 _ _ _ _ ex.length rfl rfl rfl rfl (by rw [hz2]; omega) (by unfold maxLen; omega) (Nat.le_refl _) ?_; intro W13 hown13 hgrow13)
                  have hown13' : OwnI W13 W12.heap.size (.slice (some ⟨W12.heap.size, 0, none⟩) ex.length ex.length) (dz ex ey 0 ex.length) := by
                    unfold OwnI
                    rw [dz_length, dz_zero]
                    have e : i64s (List.replicate ex.length 0) = (madeCells #[Value.int .i64 0] (ex.length * 1)).toList := by
                      rw [Nat.mul_one, toList_madeCells_one]; simp [i64s]
                    rw [e]; exact hown13
                  have hE13 : Ext W12 W13 := (Ext.refl _).grown hgrow13 (by simp)
                  have Hown13 := Lib.hid hown13'; have HE13 := Lib.hid hE13; clear hown13 hown13' hE13 hgrow13
                  go_loopw [15] (fun t wr => ∃ k : Nat, t = .int .i64 k ∧ k ≤ ex.length ∧ OwnI wr W12.heap.size (.slice (some ⟨W12.heap.size, 0, none⟩) ex.length ex.length) (dz ex ey k ex.length) ∧ Ext W12 wr) (fun t _ => ex.length - (intOf t).toNat)
                  case atStart => exact ⟨0, rfl, Nat.zero_le _, Hown13.out, HE13.out⟩
                  case round =>
                    obtain ⟨k, rfl, hk, hownz, hextz⟩ := hrel
                    have Hownz := Lib.hid hownz; have Hextz := Lib.hid hextz; clear hownz hextz
                    by_cases hkl : k < ex.length
                    · obtain ⟨gx, rfl, hcx⟩ := own_at (Hextz.out.ownI Hxv12.out) hkl
                      obtain ⟨gy, rfl, hcy⟩ := own_at (Hextz.out.ownI Hyv12.out) (show k < ey.length by have := Hxl.out; have := Hyl.out; omega)
                      obtain ⟨⟨z0, hcz⟩, hfz, hnz⟩ := dz_own Hownz.out hkl
                      have hb1 := Hxb.out k
                      have hb2 := Hyb.out k
                      have hky : (k : Int) < (ey.length : Int) := by have := Hxl.out; have := Hyl.out; omega
                      have hkx : (k : Int) < (ex.length : Int) := by omega
                      have hk0 : (0 : Int) ≤ (k : Int) := by omega
                      have Hnz := Lib.hid hnz; clear hnz
                      have hEz : Ext W12 (wr.setCell ⟨W12.heap.size, k, none⟩ (.int .i64 (nthI ex k - nthI ey k))) := Hextz.out.setCell (Nat.le_refl _) _
                      have HEz := Lib.hid hEz; clear hEz
                      generalize nthI ex k = zx at *
                      generalize nthI ey k = zy at *
                      go_wp2_with fail
                      go_region
                      go_wp2
                      go_roundw
                      case rel => exact ⟨k + 1, by go_num, by omega, ((Ext.refl _).drew).ownI Hnz.out, HEz.out.drew⟩
                      case measure => simp [intOf]; omega
                    · obtain rfl : k = ex.length := by omega
                      have hownr := (Hextz.out.rwL Hrs12.out).1
                      have hpz := Hextz.out.prL Hps12.out
                      have hxz := Hextz.out.ownI Hxv12.out
                      have hzz : OwnI wr W1.heap.size (.slice (some ⟨W12.heap.size, 0, none⟩) ex.length ex.length) (diff ex ey) := by
                        have h := Hownz.out
                        rw [dz_full ex ey rfl] at h
                        exact own_mono h HE12.out.size
                      have hEz := HE12.out.trans Hextz.out
                      have hsz := hEz.size
                      have Hpz := Lib.hid hpz; have Hxz := Lib.hid hxz; have Hzz := Lib.hid hzz; have HEz := Lib.hid hEz; have Hownr := Lib.hid hownr
                      clear hxz hzz
                      have hm3 : rs2.length + 1 ≤ maxLen := by unfold maxLen; omega
                      have hm4 : (rs2.length + 1) * 24 ≤ 140737488355328 := by omega
                      have hq3 : L2.length + 1 ≤ maxLen := by unfold maxLen; omega
                      have hq4 : (L2.length + 1) * 16 ≤ 140737488355328 := by omega
                      go_wp2_with (first | (at_builtin; refine wpList_append_own _ rfl _ _ 36 rfl W1.heap.size 30 j0 (.slice none 0 0) 1 24 Tryz.underlying36 hj hy0 hy1 hy2 rfl (by decide) _ _ _ rfl (hownr.alloc _) ⟨wr.heap.size, 0, none⟩ 1 1 [.slice (some ⟨W12.heap.size, 0, none⟩) ex.length ex.length] rfl rfl (cell_one_new _ _ _) (by simp [Value.oneCell']) hm3 hm4 (by rw [World.size_alloc]; omega) ?_; intro v7 W17 hown7 hgrow7 _; have hp7 : PrL W17 W1.heap.size (.slice au2 L2.length cu2) L2 := World.ownsRow.kept (hpz.alloc _) hgrow7 (own_ne hpz hownr (by decide)); have hs17 := (ext_grown hEz hownr hgrow7).size) | (at_builtin; refine wpList_append_own _ rfl _ _ 40 rfl W1.heap.size 47 k0 (.agg #[.int .i64 0, .int .i64 0]) 2 16 Tryz.underlying40 hk0 hv0 hv1 hv2 rfl (by decide) _ _ _ rfl (World.ownsRow.alloc hp7 _) ⟨W17.heap.size, 0, none⟩ 1 1 [.int .i64 ((j : Int) + 1), .int .i64 ((i : Int) + 1)] rfl rfl (cell_two_new _ _ _ _) (by simp [Value.oneCell']) hq3 hq4 (by rw [World.size_alloc]; omega) ?_; intro v8 W18 hown8 hgrow8 _))
                      go_roundw
                      case rel =>
                        have hrz : RwL wr W1.heap.size (.slice av2 rs2.length cv2) rs2 := Hextz.out.rwL Hrs12.out
                        have h2 := HL2.out
                        subst h2
                        exact lin_more hil hrz Hpz.out Hmp2.out Hxz.out Hzz.out rfl HEz.out Hwr2.out hown7 hgrow7 hown8 hgrow8
                      case measure => simp [intOf]; omega
              · have hgn : ((((Nat.gcd (j + 1) (i + 1) : Nat)) : Int) != 1) = true := by rw [bne_iff_ne]; omega
                have hwr : wrow num den p (j + 1) ex (i + 1) = [] := by rw [Hwr.out, if_neg (fun h => hg h.1)]
                have Hwr2 := Lib.hid hwr; clear hwr hg Hwr
                generalize Nat.gcd (j + 1) (i + 1) = gg at *
                go_wp2_with fail
                refine (Hgc.out W6).mono ?_
                rintro e W7 ⟨rfl, hq7⟩
                have Hx67 := Lib.hid hq7.ext; clear hq7
                go_wp2_with fail
                go_roundw
                case rel => exact lin_same hil Hrs6.out (by rw [HL2.out]; exact Hps6.out) Hmp2.out Hxv6.out HE6.out Hx67.out Hwr2.out
                case measure => simp [intOf]; omega
            · have hexi : exps p (i + 1) = none := by unfold exps; rw [if_neg hyd]
              have hwr : wrow num den p (j + 1) ex (i + 1) = [] := by rw [wrow, hexi]
              rw [decide_eq_false hyd]
              obtain ⟨ayv, cyv, rfl⟩ := own_shape Hyv.out
              have Hwr := Lib.hid hwr; clear hwr hexi hyd
              go_wp2_with fail
              go_roundw
              case rel => exact lin_same hil Hrs6.out (by rw [HL2.out]; exact Hps6.out) Hmp2.out Hxv6.out HE6.out (Ext.refl _) Hwr.out
              case measure => simp [intOf]; omega
          · obtain rfl : i = j := by omega
            have hij' : ¬ (i : Int) + 1 < (i : Int) + 1 := by omega
            have hwv : wall num den p (i + 1) = wall num den p i ++ wcol num den p (i + 1) ex i := by rw [wall, wover, Hexj.out]
            have Hwv := Lib.hid hwv; clear hwv
            go_wp2
            go_roundw
            case rel => exact ⟨i + 1, rs2, by go_num, by omega, by omega, Hrs2.out, by rw [Hwv.out, HL2.out]; exact Hps2.out, by rw [Hwv.out]; exact Hmp2.out, Hext2.out⟩
            case measure => simp [intOf]; omega
      · have hexj : exps p (j + 1) = none := by unfold exps; rw [if_neg hyes]
        have hwv : wall num den p (j + 1) = wall num den p j := by rw [wall, wover, hexj]; simp
        rw [decide_eq_false hyes]
        have Hwv := Lib.hid hwv; clear hwv hexj hyes
        obtain ⟨axv, cxv, rfl⟩ := own_shape Hxv.out
        go_wp2
        go_roundw
        case rel => exact ⟨j + 1, rs, by go_num, by omega, by omega, Hrs4.out, by rw [Hwv.out, HL1.out]; exact Hps4.out, by rw [Hwv.out]; exact Hmp.out, HE4.out⟩
        case measure => simp [intOf]; omega
    · obtain rfl : j = H := by omega
      have hjn : ¬ (j : Int) + 1 ≤ (j : Int) := by omega
      go_wp2
      go_ret2
      exact ⟨_, _, rfl, rs, ⟨own_mono Hrs.out.1 HE1.out.size, fun r hr => own_mono (Hrs.out.2 r hr) HE1.out.size⟩, by rw [HL1.out]; exact own_mono Hps.out HE1.out.size, Hmp.out, HE1.out.trans Hext.out⟩

end Go.Proofs.YtkamjjjimbbdmaaGreatDoor
