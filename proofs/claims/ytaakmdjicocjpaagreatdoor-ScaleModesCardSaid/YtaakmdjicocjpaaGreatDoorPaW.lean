/- Walk: size.Sort of at most twelve sizes. Walks: equal sizes: slices.Equal at fractions, size.Equal. Walks: slices.Clone at sizes and at primes; a list of sizes with one more. Walk: size.Sort of at most twelve sizes: the whole. Walks: slices.IndexFunc and slices.ContainsFunc at lists of sizes, with a closure that makes memory. What the reduction asks of sizes; the closure of scale.collect. -/
import Derived.Test.YtaakmdjicocjpaaGreatDoorPaV
import Derived.Test.YtaakmdjicocjpaaGreatDoorPaO
import Derived.Test.YtaakmdjicocjpaaGreatDoorPaK
import Derived.Test.YtaakmdjicocjpaaGreatDoorPaJ
import Derived.Test.YtaakmdjicocjpaaGreatDoorShelfE
import Derived.Shelf.Abstract
import Derived.Test.YtaakmdjicocjpaaGreatDoorPaT
import Derived.Test.YtaakmdjicocjpaaGreatDoorPaS
namespace Go.Proofs.YtaakmdjicocjpaaGreatDoor
open Go.RowKit Go.Lib Go.Shelf

attribute [local go_sem] Oper.semAt_some

/-- Sizes that compare quickly and rightly. -/
structure Cmpb (p : List Int) (l : List (List Rat)) : Prop where
  pe : primesErr p = 0
  few : p.length ≤ 100
  len : ∀ x ∈ l, x.length = p.length
  ft : ∀ x ∈ l, ∀ q ∈ x, Ft 30 q
  quick : ∀ x ∈ l, ∀ y ∈ l, Quick p (subZ x y)
  sgn : ∀ x ∈ l, ∀ y ∈ l, (sgnT (tms p (dn (subZ x y)) (subZ x y)) < 0 ↔ sF p x < sF p y)
def keyAt (p : List Int) (rs : List Qw) (i : Nat) : Rat := sF p (((rs[i]?).map Qw.x).getD [])

set_option maxRecDepth 100000 in
set_option maxHeartbeats 2000000 in
theorem sort1_c (vp vl : Value) (p : List Int) (rs : List Qw) (bp bl : Nat) (i k : Nat) (w : World) (he : Env w) (h0 : w.cell? ⟨bp, 0, none⟩ = some vp) (h1 : w.cell? ⟨bl, 0, none⟩ = some vl) (hp : Sl w vp (i64s p)) (hl : RdM w vl rs) (hc : Cmpb p (rs.map Qw.x)) (hi : i < rs.length) (hk : k < rs.length) (_hn : rs.length ≤ 1000) :
    Calls Tryz.prog 167 #[.int .i64 i, .int .i64 k, .pointer (some ⟨bp, 0, none⟩), .pointer (some ⟨bl, 0, none⟩)] w fun e w' => (∃ z : Int, e = .returned (.int .i64 z) ∧ (z < 0 ↔ keyAt p rs i < keyAt p rs k)) ∧ Ext w w' := by
  obtain ⟨r, hr⟩ : ∃ r, rs[i]? = some r := ⟨_, List.getElem?_eq_getElem hi⟩
  obtain ⟨s, hs⟩ : ∃ s, rs[k]? = some s := ⟨_, List.getElem?_eq_getElem hk⟩
  have hrm := List.mem_of_getElem? hr
  have hsm := List.mem_of_getElem? hs
  have hrx := List.mem_map_of_mem (f := Qw.x) hrm
  have hsx := List.mem_map_of_mem (f := Qw.x) hsm
  have hco := fun W (hE : Ext w W) => compare_c vp r.u s.u p r.x s.x W (he.ext hE) (hE.sl hp) (hE.rd (hl.2 r hrm)) (hE.rd (hl.2 s hsm)) hc.few (hc.len _ hrx) (hc.len _ hsx) (fun q hq => (hc.ft _ hrx q hq).mono (by omega)) (fun q hq => (hc.ft _ hsx q hq).mono (by omega)) (hc.quick _ hrx _ hsx)
  have hsg := hc.sgn _ hrx _ hsx
  have hkey : keyAt p rs i = sF p r.x ∧ keyAt p rs k = sF p s.x := by unfold keyAt; rw [hr, hs]; exact ⟨rfl, rfl⟩
  rw [hkey.1, hkey.2]
  obtain ⟨ap, cp, rfl, _, _, _⟩ := hp.parts
  obtain ⟨al, cl, rfl, _, _, hcl⟩ := hl.1.parts
  obtain ⟨b, off, rfl, h2⟩ := hcl i r.u (by unfold qwc; rw [List.getElem?_map, hr]; rfl)
  obtain ⟨b', off', e', h3⟩ := hcl k s.u (by unfold qwc; rw [List.getElem?_map, hs]; rfl)
  cases e'
  obtain ⟨ar, cr, hru, _, _, _⟩ := (hl.2 r hrm).parts
  obtain ⟨as', cs, hsu, _, _, _⟩ := (hl.2 s hsm).parts
  rw [hru] at hco h2
  rw [hsu] at hco h3
  rw [i64s_length] at *
  rw [qwc_length] at *
  generalize r.x.length = n1 at *
  generalize s.x.length = n2 at *
  generalize sgnT (tms p (dn (subZ r.x s.x)) (subZ r.x s.x)) = z at *
  generalize rs.length = n at *
  have hi0 : (0 : Int) ≤ (i : Int) := by omega
  have hi1 : (i : Int) < (n : Int) := by omega
  have hk0 : (0 : Int) ≤ (k : Int) := by omega
  have hk1 : (k : Int) < (n : Int) := by omega
  clear he hp hl hc hr hs hrm hsm hrx hsx hkey hcl hru hsu
  have Hco := Lib.hid hco; have Hsg := Lib.hid hsg; clear hco hsg
  go_enter Tryz.func167, Tryz.ntmps167
  go_wp2_with fail
  go_region_held3 (fun w' => Ext w w' ∧ w'.cell? ⟨bp, 0, none⟩ = some (.slice ap p.length cp) ∧ w'.cell? ⟨bl, 0, none⟩ = some (.slice (some ⟨b, off, none⟩) n cl) ∧ w'.cell? ⟨b, off + i, none⟩ = some (.slice ar n1 cr) ∧ w'.cell? ⟨b, off + k, none⟩ = some (.slice as' n2 cs))
    (first | (with_reducible assumption) | exact ⟨(Ext.refl w).drew, h0, h1, h2, h3⟩)
    (first | (go_at_call 121; refine (Hco.out _ (And.left (by assumption))).mono ?_; rintro e9 VA ⟨rfl, hxa⟩; have hEA := ((Ext.refl w).drew).trans hxa; have hS2 : Ext w VA ∧ VA.cell? ⟨bp, 0, none⟩ = some (.slice ap p.length cp) ∧ VA.cell? ⟨bl, 0, none⟩ = some (.slice (some ⟨b, off, none⟩) n cl) ∧ VA.cell? ⟨b, off + i, none⟩ = some (.slice ar n1 cr) ∧ VA.cell? ⟨b, off + k, none⟩ = some (.slice as' n2 cs) := ⟨hEA, hEA.cell h0, hEA.cell h1, hEA.cell h2, hEA.cell h3⟩; have HEA := Lib.hid hEA; clear hxa hEA))
  all_goals
    clear hS2 h0 h1 h2 h3
    go_wp2
    go_ret
    exact ⟨⟨z, rfl, Hsg.out⟩, HEA.out⟩
end Go.Proofs.YtaakmdjicocjpaaGreatDoor

namespace Go.Proofs.YtaakmdjicocjpaaGreatDoor
open Go.RowKit Go.Lib

attribute [local go_sem] Oper.semAt_some

theorem toList_inj {s t : ByteArray} (h : s.toList = t.toList) : s = t := by
  rw [Lib.toList_data, Lib.toList_data] at h
  exact ByteArray.ext (Array.toList_inj.1 h)

set_option maxRecDepth 100000 in
set_option maxHeartbeats 2000000 in
theorem slEq_c (va vb : Value) (x y : List Rat) (w : World) (ha : Rd w va x) (hb : Rd w vb y) (hx : x.length ≤ 1000) (hy : y.length ≤ 1000) :
    Calls Tryz.prog 72 #[va, vb] w fun e w' => e = .returned (.bool (decide (x = y))) ∧ Ext w w' := by
  obtain ⟨aa, ca, rfl, _, _, hca⟩ := ha.parts
  obtain ⟨ab, cb, rfl, _, _, hcb⟩ := hb.parts
  clear ha hb
  by_cases hl : x.length = y.length
  · have Hl := Lib.hid hl
    rw [← hl]
    have hfin : (∀ i, i < x.length → x[i]? = y[i]?) → decide (x = y) = true := fun h => by
      rw [decide_eq_true_eq]
      apply List.ext_getElem? 
      intro i
      rcases Nat.lt_or_ge i x.length with g | g
      · exact h i g
      · rw [List.getElem?_eq_none g, List.getElem?_eq_none (by omega)]
    generalize hn : x.length = n at *
    have hbad : ∀ (i : Nat) (q r : Rat), x[i]? = some q → y[i]? = some r → q ≠ r → decide (x = y) = false := fun i q r h1 h2 h3 => by
      rw [decide_eq_false_iff_not]
      rintro rfl
      rw [h1] at h2
      exact h3 (Option.some.inj h2)
    clear hl hy
    have Hca := Lib.hid hca; have Hcb := Lib.hid hcb; have Hfin := Lib.hid hfin; have Hbad := Lib.hid hbad; have Hn := Lib.hid hn; clear hca hcb hfin hbad hn
    go_enter Tryz.func72, Tryz.ntmps72
    go_wp2_with fail
    go_loopw [5, 13] (fun v5 v13 wr => ∃ k : Nat, v13 = .int .i64 k ∧ k ≤ n ∧ (∀ i, i < k → x[i]? = y[i]?) ∧ Ext w wr) (fun _ v13 _ => n - (intOf v13).toNat)
    case atStart => exact ⟨0, rfl, Nat.zero_le _, fun i h => by omega, Ext.refl _⟩
    case round =>
      obtain ⟨k, rfl, hk, hall, hE⟩ := hrel
      by_cases hkn : k < n
      · obtain ⟨q, hq⟩ : ∃ q, x[k]? = some q := ⟨_, List.getElem?_eq_getElem (by rw [Hn.out]; exact hkn)⟩
        obtain ⟨r, hr⟩ : ∃ r, y[k]? = some r := ⟨_, List.getElem?_eq_getElem (by rw [← Hl.out]; exact hkn)⟩
        obtain ⟨ba, oa, rfl, hx0, hx1⟩ := Hca.out k q hq
        obtain ⟨bb, ob, rfl, hy0, hy1⟩ := Hcb.out k r hr
        have c0 := hE.cell hx0; have c1 := hE.cell hx1
        have e0 := hE.cell hy0; have e1 := hE.cell hy1
        have hk0 : (0 : Int) ≤ (k : Int) := by omega
        have hk1 : (k : Int) < (n : Int) := by omega
        clear hx0 hx1 hy0 hy1
        by_cases hqr : q = r
        · subst hqr
          have hnx : ∀ i, i < k + 1 → x[i]? = y[i]? := fun i hi => by
            rcases Nat.lt_or_ge i k with g | g
            · exact hall i g
            · rw [show i = k by omega, hq, hr]
          generalize I q.num = s1 at *
          generalize I (q.den : Int) = s2 at *
          clear hall hq hr
          have Hnx := Lib.hid hnx; have HE := Lib.hid hE; clear hnx hE
          go_wp2_with fail
          go_quiet (fail)
          go_wp2_with fail
          go_roundw
          case rel => exact ⟨k + 1, by go_num, by omega, Hnx.out, HE.out.drewN _⟩
          case measure => simp [intOf]; omega
        · have hb1 := Hbad.out k q r hq hr hqr
          have hpart : ¬ (I q.num).toList = (I r.num).toList ∨ ((I r.num).toList = (I q.num).toList ∧ ¬ (I (q.den : Int)).toList = (I (r.den : Int)).toList) := by
            by_cases g : (I q.num).toList = (I r.num).toList
            · refine Or.inr ⟨g.symm, fun g2 => hqr (Rv_inj ?_)⟩
              unfold Rv
              rw [toList_inj g, toList_inj g2]
            · exact Or.inl g
          generalize I q.num = s1 at *
          generalize I (q.den : Int) = s2 at *
          generalize I r.num = s3 at *
          generalize I (r.den : Int) = s4 at *
          clear hall hq hr hqr
          have Hb1 := Lib.hid hb1; have HE := Lib.hid hE; clear hb1 hE
          rcases hpart with g | ⟨g, g2⟩
          all_goals
            go_wp2_with fail
            go_quiet (fail)
            go_wp2
            go_ret
            exact ⟨by rw [Hb1.out]; rfl, HE.out.drewN _⟩
      · obtain rfl : n = k := by omega
        have hf := Hfin.out hall
        clear hall
        have Hf := Lib.hid hf; have HE := Lib.hid hE; clear hf hE
        go_wp2
        go_ret
        exact ⟨by rw [Hf.out]; rfl, HE.out⟩
  · have hne : decide (x = y) = false := by
      rw [decide_eq_false_iff_not]
      rintro rfl
      exact hl rfl
    rw [hne]
    clear hca hcb hne
    have hl2 : ¬ (x.length : Int) = (y.length : Int) := by omega
    generalize x.length = n at *
    generalize y.length = m at *
    go_enter Tryz.func72, Tryz.ntmps72
    go_wp2
    go_ret
    exact ⟨rfl, Ext.refl _⟩

set_option maxHeartbeats 400000 in
theorem sEq_c (va vb : Value) (x y : List Rat) (w : World) (ha : Rd w va x) (hb : Rd w vb y) (hx : x.length ≤ 1000) (hy : y.length ≤ 1000) :
    Calls Tryz.prog 28 #[va, vb] w fun e w' => e = .returned (.bool (decide (x = y))) ∧ Ext w w' := by
  have h := slEq_c va vb x y w ha hb hx hy
  obtain ⟨aa, ca, rfl, _, _, _⟩ := ha.parts
  obtain ⟨ab, cb, rfl, _, _, _⟩ := hb.parts
  generalize decide (x = y) = b at *
  clear ha hb
  have H := Lib.hid h; clear h
  go_enter Tryz.func28, Tryz.ntmps28
  go_wp2_with fail
  refine (H.out).mono ?_
  rintro e w1 ⟨rfl, hx1⟩
  have Hx1 := Lib.hid hx1; clear hx1
  go_wp2
  go_ret
  exact ⟨rfl, Hx1.out⟩
end Go.Proofs.YtaakmdjicocjpaaGreatDoor

namespace Go.Proofs.YtaakmdjicocjpaaGreatDoor
open Go.RowKit Go.Lib

theorem cloneQ_c (v : Value) (x : List Rat) (w : World) (hx : Rd w v x) (hl : x.length ≤ 1000000) (hne : x ≠ []) :
    Calls Tryz.prog 67 #[v] w fun e w' => ∃ u, e = .returned u ∧ OwnQ w' w.heap.size u x ∧ Ext w w' := by
  obtain ⟨i0, hi, hz0, hz1, hz2⟩ := info_parts info_rat
  rcases hx with ⟨a, cap, rfl, hm, e⟩ | ⟨b, off, cap, rfl, h1, h2, hc⟩
  · exact absurd e hne
  · have hcell : ∀ j u, (rcs x)[j]? = some u → w.cell? ⟨b, off + j, none⟩ = some u := fun j u hu => by
      have hj : j < (rcs x).length := (List.getElem?_eq_some_iff.1 hu).1
      rw [rcs_length] at hj
      obtain ⟨r, hr⟩ : ∃ r, x[j / 2]? = some r := ⟨_, List.getElem?_eq_getElem (by omega)⟩
      obtain ⟨e1, e2⟩ := rcs_at hr
      obtain ⟨g1, g2⟩ := hc (j / 2) r hr
      rcases (by omega : j = j / 2 * 2 ∨ j = j / 2 * 2 + 1) with e | e
      · rw [e, e1] at hu; cases hu; rw [e]; exact g1
      · rw [e, e2] at hu; cases hu; rw [e, ← Nat.add_assoc]; exact g2
    exact (AnyE.slices_Clone Tryz.lCloneQ i0 (.agg #[.string ByteArray.empty, .string ByteArray.empty]) 2 32 hi hz0 hz1 hz2 rfl (by decide) Tryz.sizeOf97 b off x.length cap (rcs x) w (by rw [rcs_length]; omega) (by unfold maxLen; omega) (by omega) hcell (by
      intro u hu
      unfold rcs at hu
      obtain ⟨r, _, hr⟩ := List.mem_flatMap.1 hu
      simp only [rc, List.mem_cons, List.not_mem_nil, or_false] at hr
      rcases hr with rfl | rfl <;> rfl)).mono fun e w' ⟨v', he, ho, _, hb⟩ => ⟨v', he, ho, hb⟩

theorem cloneP_c (v : Value) (p : List Int) (w : World) (hx : Sl w v (i64s p)) (hl : p.length ≤ 1000000) (hne : p ≠ []) :
    Calls Tryz.prog 96 #[v] w fun e w' => ∃ u, e = .returned u ∧ OwnI w' w.heap.size u p ∧ Ext w w' := by
  obtain ⟨i0, hi, hz0, hz1, hz2⟩ := info_parts info_int
  obtain ⟨a, cap, rfl, hm, h1, hc⟩ := hx.parts
  obtain ⟨q, hq⟩ : ∃ q, p[0]? = some q := ⟨_, List.getElem?_eq_getElem (List.length_pos_iff.2 hne)⟩
  obtain ⟨b, off, rfl, _⟩ := hc 0 (.int .i64 q) (by unfold i64s; rw [List.getElem?_map, hq]; rfl)
  have hcell : ∀ j u, (i64s p)[j]? = some u → w.cell? ⟨b, off + j, none⟩ = some u := fun j u hu => by
    obtain ⟨b2, off2, e, h⟩ := hc j u hu
    cases e
    exact h
  refine (AnyE.slices_Clone Tryz.lCloneP i0 (.int .i64 0) 1 8 hi hz0 hz1 hz2 rfl (by decide) Tryz.sizeOf3 b off (i64s p).length cap (i64s p) w (by omega) (by rw [i64s_length]; unfold maxLen; omega) (by rw [i64s_length]; omega) hcell (by simp [i64s, Value.oneCell'])).mono fun e w' ⟨v', he, ho, _, hb⟩ => ⟨v', he, ?_, hb⟩
  rw [i64s_length] at ho
  exact ho

theorem qwc_snoc (rs : List Qw) (r : Qw) : qwc (rs ++ [r]) = qwc rs ++ [r.u] := by simp [qwc]
theorem QwM.nil (w : World) (b B : Nat) : QwM w b B (.slice none 0 0) [] := ⟨World.ownsRow_nil w _ _ 1, fun _ h => by cases h⟩
/-- A list of sizes with one more: behind the append. -/
theorem QwM.more {w0 W V : World} {o : Obj} {v v7 : Value} {rs : List Qw} {r : Qw} (hE : Ext w0 W) (h : QwM W w0.heap.size w0.heap.size v rs) (hr : OwnQ W w0.heap.size r.u r.x)
    (hown : V.ownsRow w0.heap.size 41 1 v7 (rs.length + 1) (qwc rs ++ [r.u])) (hgrow : (W.alloc o).grownBy V v.ownBlock) : QwM V w0.heap.size w0.heap.size v7 (rs ++ [r]) ∧ Ext w0 V := by
  have hal := h.1.alloc o
  have hkeep : ∀ s : Qw, OwnQ W w0.heap.size s.u s.x → OwnQ V w0.heap.size s.u s.x := fun s hs => World.ownsRow.kept (World.ownsRow.alloc hs o) hgrow (own_ne (World.ownsRow.alloc hs o) hal (by decide))
  refine ⟨⟨?_, fun s hs => ?_⟩, (hE.alloc o).grown hgrow fun k hk => (World.ownsRow.lt hal k hk).1⟩
  · rw [List.length_append, List.length_singleton, qwc_snoc]; exact hown
  · rcases List.mem_append.1 hs with g | g
    · exact hkeep s (h.2 s g)
    · rw [List.mem_singleton] at g
      subst g
      exact hkeep s hr
end Go.Proofs.YtaakmdjicocjpaaGreatDoor

namespace Go.Proofs.YtaakmdjicocjpaaGreatDoor
open Go.RowKit Go.Lib Go.Shelf

attribute [local go_sem] Oper.semAt_some

def natI (l : List Nat) : List Value := l.map fun (i : Nat) => .int .i64 (i : Int)
theorem natI_snoc (k : Nat) : natI (List.range (k + 1)) = natI (List.range k) ++ [.int .i64 k] := by unfold natI; rw [List.range_succ, List.map_append]; rfl
theorem eg_sort1 : ∀ args w, (callFunc 167 args).run Tryz.prog w = .ok (.enter 167 args) w := enters_of Tryz.func167 (by kernel_rfl) rfl

/-- The order that Sort answers. -/
def OrdV (w' : World) (B : Nat) (u : Value) (p : List Int) (rs : List Qw) (ord : List Nat) : Prop := w'.ownsRow B 3 1 u rs.length (natI ord) ∧ ord.Perm (List.range rs.length) ∧ ord.Pairwise fun i k => keyAt p rs i ≤ keyAt p rs k

set_option maxRecDepth 100000 in
set_option maxHeartbeats 4000000 in
theorem szSort_c (vp vl : Value) (p : List Int) (rs : List Qw) (w : World) (he : Env w) (hp : Sl w vp (i64s p)) (hl : RdM w vl rs) (hc : Cmpb p (rs.map Qw.x)) (hn12 : rs.length ≤ 12) :
    Calls Tryz.prog 135 #[vp, vl] w fun e w' => ∃ u ord, e = .returned (.tuple #[u, .int .i64 0]) ∧ OrdV w' w.heap.size u p rs ord ∧ Ext w w' := by
  obtain ⟨i0, hi, hz0, hz1, hz2⟩ := info_parts info_int
  have hall : ∀ r ∈ rs, r.x.length = p.length ∧ ∀ q ∈ r.x, Ft 30 q := fun r hr => ⟨hc.len _ (List.mem_map_of_mem hr), hc.ft _ (List.mem_map_of_mem hr)⟩
  have hca := fun W (hE : Ext w W) => sCheckAll_c vp vl p rs W (he.ext hE) (hE.sl hp) (hE.rdM hl) hc.pe (by omega) hall
  have hs1 := fun W W' (bp bl i k : Nat) (hE : Ext w W) (hg : W.grownBy W' none) => True.intro
  clear hs1
  have hcl := fun W (bp bl i k : Nat) (he' : Env W) (h0 : W.cell? ⟨bp, 0, none⟩ = some vp) (h1 : W.cell? ⟨bl, 0, none⟩ = some vl) (hp' : Sl W vp (i64s p)) (hl' : RdM W vl rs) (hi : i < rs.length) (hk : k < rs.length) => sort1_c vp vl p rs bp bl i k W he' h0 h1 hp' hl' hc hi hk (by omega)
  obtain ⟨ap, cp, rfl, _, _, _⟩ := hp.parts
  obtain ⟨al, cl, rfl, _, _, _⟩ := hl.1.parts
  rw [i64s_length] at *
  rw [qwc_length] at *
  have hE0 : Ext w ((w.alloc (.cells #[.slice ap p.length cp] 29)).alloc (.cells #[.slice al rs.length cl] 30)) := ((Ext.refl w).alloc _).alloc _
  have b1 : ((w.alloc (.cells #[.slice ap p.length cp] 29)).alloc (.cells #[.slice al rs.length cl] 30)).heap[w.heap.size]? = some (.cells #[.slice ap p.length cp] 29 (0, 0)) := ((Ext.refl _).alloc _).heap (World.alloc_heap_new w _)
  have b2 : ((w.alloc (.cells #[.slice ap p.length cp] 29)).alloc (.cells #[.slice al rs.length cl] 30)).heap[w.heap.size + 1]? = some (.cells #[.slice al rs.length cl] 30 (0, 0)) := by
    have := World.alloc_heap_new (w.alloc (.cells #[.slice ap p.length cp] 29)) (.cells #[.slice al rs.length cl] 30)
    rwa [World.size_alloc] at this
  generalize hn : rs.length = n at *
  have Hn := Lib.hid hn
  have Hp := Lib.hid hp; have Hl := Lib.hid hl; have Hcl := Lib.hid hcl; have HE0 := Lib.hid hE0; have B1 := Lib.hid b1; have B2 := Lib.hid b2; have Hca := Lib.hid hca; have He := Lib.hid he
  clear hp hl hc hall hcl hE0 b1 b2 hca he hn
  have cell1 : ∀ (W : World) (b : Nat) (x : Value) (t : TypeId), W.heap[b]? = some (.cells #[x] t (0, 0)) → W.cell? ⟨b, 0, none⟩ = some x := fun W b x t h => by unfold World.cell?; dsimp only; rw [h]; rfl
  have Cell1 := Lib.hid cell1
  clear cell1
  go_enter Tryz.func135, Tryz.ntmps135
  have q0 := Cell1.out _ _ _ _ B1.out
  have q1 := Cell1.out _ _ _ _ B2.out
  go_wp2_with fail
  refine (Hca.out _ HE0.out).mono ?_
  rintro e w1 ⟨rfl, hx1⟩
  have q0 := hx1.cell q0
  have q1 := hx1.cell q1
  have Hx1 := Lib.hid hx1
  clear hx1
  go_wp2_with fail
  go_loopw [7, 8, 17] (fun v7 v8 v17 wr => ∃ k : Nat, v17 = .int .i64 k ∧ k ≤ n ∧ wr.ownsRow w1.heap.size 3 1 v7 k (natI (List.range k)) ∧ Ext w1 wr) (fun _ _ v17 _ => n - (intOf v17).toNat)
  case atStart => exact ⟨0, rfl, Nat.zero_le _, World.ownsRow_nil w1 _ _ 1, Ext.refl _⟩
  case round =>
    clear q0 q1
    obtain ⟨k, rfl, hk, ho, hE⟩ := hrel
    obtain ⟨a7, c7, rfl⟩ := own_shape ho
    by_cases hkn : k < n
    · have hk1 : (k : Int) < (n : Int) := by omega
      have hm3 : k + 1 ≤ maxLen := by unfold maxLen; omega
      have hm4 : (k + 1) * 8 ≤ 140737488355328 := by omega
      have hbase := hE.size
      have HE := Lib.hid hE
      clear hE
      go_wp2_with (at_builtin; refine wpList_append_own _ rfl _ _ 28 rfl w1.heap.size 3 i0 (.int .i64 0) 1 8 Tryz.underlying28 hi hz0 hz1 hz2 rfl (by decide) _ _ _ rfl (ho.alloc _) ⟨wr.heap.size, 0, none⟩ 1 1 [.int .i64 k] rfl rfl (cell_one_new _ _ _) (by simp [Value.oneCell']) hm3 hm4 (by rw [World.size_alloc]; omega) ?_; intro v7 V7 hown7 hgrow7 _)
      go_roundw
      case rel => exact ⟨k + 1, by go_num, by omega, by rw [natI_snoc]; exact hown7, (HE.out.alloc _).grown hgrow7 fun j hj => (World.ownsRow.lt ho j hj).1⟩
      case measure => simp [intOf]; omega
    · obtain rfl : n = k := by omega
      have q0 := hE.cell (Hx1.out.cell (Cell1.out _ _ _ _ B1.out))
      have q1 := hE.cell (Hx1.out.cell (Cell1.out _ _ _ _ B2.out))
      have hEw := (HE0.out.trans Hx1.out).trans hE
      have hlo := (HE0.out.trans Hx1.out).size
      have HE := Lib.hid hE; have HEw := Lib.hid hEw
      clear hE hEw
      rcases ho.2 with ⟨e0, hn0⟩ | ⟨g, cap, cur, e0, hb, hg, h1, h2, h3, h4⟩
      · obtain rfl : n = 0 := hn0
        injection e0 with e1 e2 e3
        subst e1; subst e3
        have hst := fun W => stable0_c 167 #[.pointer (some ⟨w.heap.size, 0, none⟩), .pointer (some ⟨w.heap.size + 1, 0, none⟩)] W
        have Hst := Lib.hid hst
        clear hst ho e2
        go_wp2_with fail
        refine (Hst.out _).mono ?_
        rintro e w5 ⟨rfl, hx5⟩
        have Hx5 := Lib.hid hx5
        clear hx5 q0 q1
        go_wp2
        go_ret2
        exact ⟨_, [], rfl, ⟨by rw [Hn.out]; exact World.ownsRow_nil _ _ _ 1, by rw [Hn.out]; exact List.Perm.refl _, List.Pairwise.nil⟩, HEw.out.trans Hx5.out⟩
      · injection e0 with e1 e2 e3
        subst e1; subst e3
        have hgne : g ≠ w.heap.size ∧ g ≠ w.heap.size + 1 := by
          have l1 : w.heap.size + 1 < w1.heap.size := by
            have := Hx1.out.heap B2.out
            exact (Array.getElem?_eq_some_iff.1 this).1
          omega
        have hpr : ∀ W, wr.grownBy W (some g) → Sl W (.slice ap p.length cp) (i64s p) ∧ RdM W (.slice al n cl) rs ∧ Env W ∧ W.cell? ⟨w.heap.size, 0, none⟩ = some (.slice ap p.length cp) ∧ W.cell? ⟨w.heap.size + 1, 0, none⟩ = some (.slice al n cl) := fun W hg => by
          have hx : Ext w W := HEw.out.grown hg (fun k hk => by cases hk; omega)
          refine ⟨hx.sl Hp.out, hx.rdM Hl.out, He.out.ext hx, ?_, ?_⟩
          · exact Cell1.out _ _ _ _ ((hg.block _ (by have := HE.out.size; have := (Array.getElem?_eq_some_iff.1 (Hx1.out.heap B1.out)).1; omega) (by intro e; cases e; exact hgne.1 rfl)).trans ((HE.out.heap (Hx1.out.heap B1.out))))
          · exact Cell1.out _ _ _ _ ((hg.block _ (by have := HE.out.size; have := (Array.getElem?_eq_some_iff.1 (Hx1.out.heap B2.out)).1; omega) (by intro e; cases e; exact hgne.2 rfl)).trans ((HE.out.heap (Hx1.out.heap B2.out))))
        have hst := stable_c (fun i : Nat => Value.int .i64 (i : Int)) (keyAt p rs) 167 #[.pointer (some ⟨w.heap.size, 0, none⟩), .pointer (some ⟨w.heap.size + 1, 0, none⟩)] w1.heap.size g c7 (List.range n) wr (by rw [List.length_range]; exact ho) (by rw [List.length_range]; exact hn12) (fun _ => rfl) eg_sort1 (fun W hg x hx y hy => by
          obtain ⟨a1, a2, a3, a4, a5⟩ := hpr W hg
          rw [List.mem_range] at hx hy
          exact Hcl.out W w.heap.size (w.heap.size + 1) x y a3 a4 a5 a1 a2 hx hy)
        rw [List.length_range] at hst
        have Hst := Lib.hid hst
        clear hst hpr ho hg h1 h2 h3 h4 q0 q1 e2
        go_wp2_with fail
        refine Hst.out.mono ?_
        rintro e w5 ⟨rfl, d5, hR5, hS5⟩
        have HR5 := Lib.hid hR5; have HS5 := Lib.hid hS5
        clear hR5 hS5
        go_wp2
        go_ret2
        have hown := HR5.out.own
        rw [List.length_range] at hown
        exact ⟨_, d5, rfl, ⟨by rw [Hn.out]; exact own_mono hown hlo, by rw [Hn.out]; exact HR5.out.perm, HS5.out⟩, HEw.out.grown HR5.out.only fun k hk => by cases hk; omega⟩
end Go.Proofs.YtaakmdjicocjpaaGreatDoor

namespace Go.Proofs.YtaakmdjicocjpaaGreatDoor
open Go.RowKit Go.Lib Go.Shelf

/-- Where IndexFunc finds the first one. -/
def IdxAt (P : List Rat → Bool) (rs : List Qw) (z : Int) : Prop := (z = -1 ∧ ∀ r ∈ rs, P r.x = false) ∨ ∃ (k : Nat) (r : Qw), z = k ∧ rs[k]? = some r ∧ P r.x = true ∧ ∀ s ∈ rs.take k, P s.x = false
theorem IdxAt.any {P : List Rat → Bool} {rs : List Qw} {z : Int} (h : IdxAt P rs z) : rs.any (fun r => P r.x) = decide (0 ≤ z) := by
  rcases h with ⟨rfl, h⟩ | ⟨k, r, rfl, h1, h2, _⟩
  · rw [show decide ((0 : Int) ≤ -1) = false by decide, List.any_eq_false]
    intro r hr
    rw [h r hr]
    simp
  · rw [show decide ((0 : Int) ≤ (k : Int)) = true from decide_eq_true (by omega), List.any_eq_true]
    exact ⟨r, List.mem_of_getElem? h1, h2⟩
set_option maxRecDepth 100000 in
set_option maxHeartbeats 1000000 in
theorem idxQ_c (g : Nat) (cb : Array Value) (v : Value) (rs : List Qw) (P : List Rat → Bool) (w : World) (hv : Sl w v (qwc rs)) (hl : rs.length ≤ 1000)
    (eg : ∀ args w, (callFunc g args).run Tryz.prog w = .ok (.enter g args) w)
    (hp : ∀ W, Ext w W → ∀ r ∈ rs, Calls Tryz.prog g (#[r.u] ++ cb) W fun e w' => e = .returned (.bool (P r.x)) ∧ Ext W w') :
    Calls Tryz.prog 93 #[v, .func (.func g) #[] cb] w fun e w' => ∃ z : Int, e = .returned (.int .i64 z) ∧ IdxAt P rs z ∧ Ext w w' := by
  obtain ⟨a, c, rfl, _, _, hc⟩ := hv.parts
  rw [qwc_length]
  have hcell : ∀ k r, rs[k]? = some r → ∃ b off, a = some ⟨b, off, none⟩ ∧ w.cell? ⟨b, off + k, none⟩ = some r.u := fun k r hr => hc k r.u (by unfold qwc; rw [List.getElem?_map, hr]; rfl)
  generalize hn : rs.length = n at *
  have Hn := Lib.hid hn; have Hp := Lib.hid hp; have Hc := Lib.hid hcell
  clear hv hc hn hp hcell
  go_enter Tryz.func93, Tryz.ntmps93
  go_wp2_with fail
  go_loopw [5, 8] (fun v5 v8 wr => ∃ k : Nat, v8 = .int .i64 k ∧ k ≤ n ∧ (∀ s ∈ rs.take k, P s.x = false) ∧ Ext w wr) (fun _ v8 _ => n - (intOf v8).toNat)
  case atStart => exact ⟨0, rfl, Nat.zero_le _, fun r h => by simp at h, Ext.refl _⟩
  case round =>
    obtain ⟨k, rfl, hk, hall, hE⟩ := hrel
    have Hall := Lib.hid hall
    clear hall
    by_cases hlt : k < n
    · obtain ⟨r, hr⟩ : ∃ r, rs[k]? = some r := ⟨_, List.getElem?_eq_getElem (by rw [Hn.out]; exact hlt)⟩
      obtain ⟨b, off, rfl, h0⟩ := Hc.out k r hr
      have hc0 := hE.cell h0
      have hd := Hp.out wr hE r (List.mem_of_getElem? hr)
      have HE := Lib.hid hE
      have Hr := Lib.hid hr
      clear hr h0 hE
      generalize r.u = u at *
      generalize hdx : P r.x = dx at *
      have Hd := Lib.hid hd; have Hdx := Lib.hid hdx; clear hd hdx
      have hk0 : (0 : Int) ≤ (k : Int) := by omega
      have hk1 : (k : Int) < (n : Int) := by omega
      go_wp2_with fail
      refine Hd.out.mono ?_
      rintro e W2 ⟨rfl, hx2⟩
      have HE2 := Lib.hid (HE.out.trans hx2); clear hx2
      cases dx with
      | true =>
        go_wp2
        go_ret
        exact ⟨_, rfl, .inr ⟨k, r, rfl, Hr.out, Hdx.out, Hall.out⟩, HE2.out⟩
      | false =>
        go_wp2_with fail
        go_roundw
        case rel => exact ⟨k + 1, by go_num, hlt, fun s hs => by
          obtain ⟨hl2, e⟩ := List.getElem?_eq_some_iff.1 Hr.out
          rw [List.take_succ_eq_append_getElem hl2] at hs
          rcases List.mem_append.1 hs with h | h
          · exact Hall.out s h
          · rw [List.mem_singleton] at h; rw [h, e]; exact Hdx.out, HE2.out⟩
        case measure => simp [intOf]; omega
    · have hkk : ¬ (k : Int) < (n : Int) := by omega
      have hkl : k = n := by omega
      have Hkl := Lib.hid hkl; clear hkl
      have HE := Lib.hid hE
      clear hE
      go_wp2
      go_ret
      exact ⟨-1, rfl, .inl ⟨rfl, fun r hr => Hall.out r (by rw [Hkl.out, ← Hn.out, List.take_length]; exact hr)⟩, HE.out⟩

set_option maxHeartbeats 1000000 in
theorem containsQ_c (g : Nat) (cb : Array Value) (v : Value) (rs : List Qw) (P : List Rat → Bool) (w : World) (hv : Sl w v (qwc rs)) (hl : rs.length ≤ 1000)
    (eg : ∀ args w, (callFunc g args).run Tryz.prog w = .ok (.enter g args) w)
    (hp : ∀ W, Ext w W → ∀ r ∈ rs, Calls Tryz.prog g (#[r.u] ++ cb) W fun e w' => e = .returned (.bool (P r.x)) ∧ Ext W w') :
    Calls Tryz.prog 65 #[v, .func (.func g) #[] cb] w fun e w' => e = .returned (.bool (rs.any fun r => P r.x)) ∧ Ext w w' := by
  have hi := idxQ_c g cb v rs P w hv hl eg hp
  obtain ⟨a, c, rfl, _, _, _⟩ := hv.parts
  have Hi := Lib.hid hi
  clear hi hp hv
  go_enter Tryz.func65, Tryz.ntmps65
  go_wp2_with fail
  refine Hi.out.mono ?_
  rintro e w1 ⟨z, rfl, hz, hx⟩
  have Hz := Lib.hid hz.any; have Hx := Lib.hid hx
  clear hz hx
  go_wp2
  go_ret
  exact ⟨by rw [Hz.out]; rfl, Hx.out⟩
end Go.Proofs.YtaakmdjicocjpaaGreatDoor

namespace Go.Proofs.YtaakmdjicocjpaaGreatDoor
open Go.RowKit Go.Lib Go.Shelf

theorem add_shf2 {q : Int} : ∀ {x : List Rat}, addZ x (shf q (zer x.length)) = shf q x
  | [] => rfl
  | a :: x => by
    unfold zer addZ
    rw [List.length_cons, List.replicate_succ]
    simp only [shf, List.zipWith_cons_cons]
    congr 1
    · grind
    · have : ∀ l : List Rat, List.zipWith (· + ·) l (List.replicate l.length 0) = l := fun l => by
        induction l with
        | nil => rfl
        | cons b l ih => rw [List.length_cons, List.replicate_succ, List.zipWith_cons_cons, ih]; congr 1; grind
      exact this x
theorem int_ft {k : Nat} {z : Int} (h : z.natAbs < 10 ^ k) (hk : 0 < k) : Ft k (z : Rat) := by
  refine ⟨?_, ?_⟩
  · rw [Rat.num_intCast]; exact Dec.nDigits_le hk h
  · rw [Rat.den_intCast]; exact Dec.nDigits_le hk (Nat.one_lt_pow (by omega) (by decide))
/-- What the reduction asks. -/
structure RedOk (p : List Int) (a : Rat) (tl : List Rat) : Prop where
  len : tl.length + 1 = p.length
  pr : Pr p (tl.length + 1)
  ft : ∀ q ∈ a :: tl, Ft 30 q
  qf : QF p (a :: tl)
  fk : Ft 400 ((-flP p (a :: tl) : Int) : Rat)
  fit : Fit (flP p (a :: tl))
  res : ∀ q ∈ rst p (a :: tl), Ft 30 q
theorem Lw.red {p : List Int} {c : Int} {l : List (List Rat)} (h : Lw p c l) {x : List Rat} (hx : x ∈ l) : ∃ a tl, x = a :: tl ∧ RedOk p a tl := by
  obtain ⟨n, hn⟩ := h.nic
  have hl := h.len x hx
  have hp : Pr p x.length := by rw [hl]; exact h.pr
  have hq := h.quick x hx
  have hr := h.range hx
  have hni := hn x hx
  have hfl := fl_bd hp hni (h.bd x hx).1 (h.bd x hx).2
  have hc := h.c1
  have hrq : Quick p (rst p x) := nic_quick (c := 1) (by unfold rst; rw [shf_len]; exact hp) (nic_shf hni) (by omega) (by omega) (by
    rw [show ((1 * 67108864 : Int) : Rat) = 67108864 from rfl]; grind) (by
    rw [show ((1 * 67108864 : Int) : Rat) = 67108864 from rfl]; grind)
  obtain ⟨a, tl, rfl, htl, hb⟩ := nic_tail hp hni
  refine ⟨a, tl, rfl, htl, hp, hq.1, ?_, ?_, ?_, hrq.1⟩
  · by_cases hz : ∀ r ∈ tl, r = 0
    · left; rw [List.tail_cons, List.all_eq_true]; simpa using hz
    · have hbx := hb.resolve_right hz
      have hA := head_bd hp hbx (h.bd _ hx).1 (h.bd _ hx).2
      exact (bx_ok (m := 100000) hp hbx (by omega) (by omega) (fun a' ha' => by cases ha'; omega)).qf hp hbx
  · exact (int_ft (k := 5) (by show _ < 100000; omega) (by omega)).mono (by omega)
  · show nDigits _ ≤ _
    have := Dec.nDigits_le (n := (flP p (a :: tl)).natAbs) (k := 5) (by omega) (by show _ < 100000; omega)
    omega
theorem RedOk.eq {p : List Int} {a : Rat} {tl : List Rat} (_h : RedOk p a tl) : addZ (a :: tl) (mulZ (ov tl.length) ((-flP p (a :: tl) : Int) : Rat)) = rst p (a :: tl) := by
  rw [mul_ov]
  exact add_shf2 (x := a :: tl)

set_option maxHeartbeats 400000 in
theorem collect1_c (va vb : Value) (x y : List Rat) (bx : Nat) (w : World) (h0 : w.cell? ⟨bx, 0, none⟩ = some va) (ha : Rd w va x) (hb : Rd w vb y) (hx : x.length ≤ 1000) (hy : y.length ≤ 1000) :
    Calls Tryz.prog 134 #[vb, .pointer (some ⟨bx, 0, none⟩)] w fun e w' => e = .returned (.bool (decide (x = y))) ∧ Ext w w' := by
  have h := sEq_c va vb x y w ha hb hx hy
  obtain ⟨aa, ca, rfl, _, _, _⟩ := ha.parts
  obtain ⟨ab, cb, rfl, _, _, _⟩ := hb.parts
  generalize decide (x = y) = b at *
  clear ha hb
  have H := Lib.hid h; clear h
  go_enter Tryz.func134, Tryz.ntmps134
  go_wp2_with fail
  refine H.out.mono ?_
  rintro e w1 ⟨rfl, hx1⟩
  have Hx1 := Lib.hid hx1
  clear hx1
  go_wp2
  go_ret
  exact ⟨rfl, Hx1.out⟩
theorem eg_coll1 : ∀ args w, (callFunc 134 args).run Tryz.prog w = .ok (.enter 134 args) w := enters_of Tryz.func134 (by kernel_rfl) rfl
end Go.Proofs.YtaakmdjicocjpaaGreatDoor
