/- The walk of comma.Combine: all sums. -/
import Derived.Test.YtkamjjjimbbdmaaGreatDoorComb
import Derived.Test.YtkamjjjimbbdmaaGreatDoorPrimes
import Derived.RegionTactic
import Derived.ChangeAlike
namespace Go.Proofs.YtkamjjjimbbdmaaGreatDoor
open Go.RowKit Go.Lib Go.Shelf Go.Sort

theorem rwm_mono {w : World} {b b' B B' : Nat} {v : Value} {rs : List Rw} (h : RwM w b B v rs) (hb : b' ≤ b) (hB : B' ≤ B) : RwM w b' B' v rs := ⟨own_mono h.1 hB, fun r hr => ⟨own_mono (h.2 r hr).1 hb, (h.2 r hr).2⟩⟩
theorem rwm_nil (w : World) (b B : Nat) : RwM w b B (.slice none 0 0) [] := ⟨World.ownsRow_nil w _ _ 1, fun _ h => by cases h⟩

/-- One more row at the end of a list. -/
theorem rwm_more {b : Nat} {W2 W6 W7 : World} {v v7 : Value} {rs : List Rw} {r : Rw} {tmp : Obj} (hr : RwM W6 b W2.heap.size v rs) (hu : OwnI W6 b r.u r.x) (hl : r.x.length ≤ 1000000) (hE : Ext W2 W6)
    (hown7 : W7.ownsRow W2.heap.size 30 1 v7 (rs.length + 1) (rwc rs ++ [r.u])) (hg7 : (W6.alloc tmp).grownBy W7 v.ownBlock) : RwM W7 b W2.heap.size v7 (rs ++ [r]) ∧ Ext W2 W7 := by
  have keep : ∀ {a x}, OwnI W6 b a x → OwnI W7 b a x := fun ho => World.ownsRow.kept (((Ext.refl W6).alloc tmp).ownI ho) hg7 (own_ne ho hr.1 (by decide))
  refine ⟨⟨?_, ?_⟩, ext_grown hE hr.1 hg7⟩
  · rw [List.length_append, show rwc (rs ++ [r]) = rwc rs ++ [r.u] by simp [rwc]]
    exact hown7
  · intro s hs
    rcases List.mem_append.1 hs with h | h
    · exact ⟨keep (hr.2 s h).1, (hr.2 s h).2⟩
    · simp only [List.mem_singleton] at h
      subst h
      exact ⟨keep hu, hl⟩

def CbOut (m L B : Nat) (l : List (List Int)) (w : World) (v i : Value) (wr : World) : Prop :=
  ∃ (k : Nat) (rs : List Rw), i = .int .i64 k ∧ k ≤ l.length ∧ RwM wr B B v rs ∧ rs.map Rw.x = combAll m (l.take k) [List.replicate L 0] ∧ rs.length = pw m k ∧ Tame L ((k : Int) * 10000000) (rs.map Rw.x) ∧ Ext w wr
def CbMid (m B : Nat) (x : List Int) (rs : List Rw) (W2 : World) (v j : Value) (wr : World) : Prop :=
  ∃ (k : Nat) (rs2 : List Rw), j = .int .i64 k ∧ k ≤ rs.length ∧ RwM wr B W2.heap.size v rs2 ∧ rs2.map Rw.x = spread m x ((rs.map Rw.x).take k) ∧ Ext W2 wr
def CbIn (m B k : Nat) (x y : List Int) (rs : List Rw) (W2 : World) (v t : Value) (wr : World) : Prop :=
  ∃ (s : Nat) (rs2 : List Rw), t = .int .i64 ((s : Int) - (m : Int)) ∧ s ≤ 2 * m + 1 ∧ RwM wr B W2.heap.size v rs2 ∧ rs2.map Rw.x = spread m x ((rs.map Rw.x).take k) ++ fan m x y s ∧ Ext W2 wr

def CombPost (p : List Int) (all : List (List Int)) (w : World) (e : Ending) (w' : World) : Prop :=
  ((∃ z ∈ all, oneErr p z ≠ 0) ∧ e = .returned (.tuple #[.slice none 0 0, .int .i64 4]) ∧ Ext w w') ∨
  ((∀ z ∈ all, oneErr p z = 0) ∧ ∃ v rs, e = .returned (.tuple #[v, .int .i64 0]) ∧ RwM w' w.heap.size w.heap.size v rs ∧ CombOf p all (rs.map Rw.x) ∧ Ext w w')
def CbPos (p : List Int) (B : Nat) (rs : List Rw) (W5 : World) (v i : Value) (wr : World) : Prop :=
  ∃ (k : Nat) (rs2 : List Rw), i = .int .i64 k ∧ k ≤ rs.length ∧ RwM wr B W5.heap.size v rs2 ∧ rs2 = (rs.take k).filter (fun r => decide (0 < signP p r.x)) ∧ (∀ r ∈ rs.take k, oneErr p r.x = 0) ∧ Ext W5 wr
theorem filter_more {rs : List Rw} {k : Nat} {r : Rw} (f : Rw → Bool) (h : rs[k]? = some r) : (rs.take (k + 1)).filter f = (rs.take k).filter f ++ (if f r then [r] else []) := by
  rw [List.take_add_one, h, List.filter_append]
  cases hf : f r <;> simp [hf]

set_option maxRecDepth 100000 in
set_option maxHeartbeats 8000000 in
theorem combine_w (vp vl : Value) (p : List Int) (l : List (List Int)) (m : Nat) (w : World) (he : Env w) (hp : Sl w vp (i64s p)) (hl : Mat w vl l) (hll : l.length ≤ 100) (hrow : ∀ i, (l.getD i []).length ≤ 1000000) (hc : allErr p l = 0) (hm : l = [] ∨ m ≤ 10000) (hm2 : m ≤ 4611686018427387904) (hx : pw m l.length ≤ 10000) :
    Calls Tryz.prog 21 #[vp, vl, .int .i64 m] w fun e w' => CombPost p (combAll m l [List.replicate p.length 0]) w e w' := by
  obtain ⟨i0, hi, hz0, hz1, hz2⟩ := info_parts info_int
  obtain ⟨j0, hjr, hy0, hy1, hy2⟩ := info_parts info_row
  obtain ⟨hpe, hlx⟩ := allErr_zero hc
  have hlp : p.length ≤ 6 := (primesErr_zero hpe).2.1
  have hck := checkAll_c vp vl p l w hp hl (by omega) (by omega) hrow
  rw [hc] at hck
  have hsg := fun W (hE : Ext w W) v z (hv : Sl W v (i64s z)) (hzl : z.length ≤ 1000000) => msign_c vp v p z W (he.ext hE) (hE.sl hp) hv (by omega) hzl
  have hrw : ∀ i, i < l.length → ∃ x, l[i]? = some x ∧ x.length = p.length ∧ ∀ j, -1000 ≤ nthI x j ∧ nthI x j ≤ 1000 := fun i hi => by
    refine ⟨l[i], List.getElem?_eq_getElem hi, hlx _ (List.getElem_mem hi)⟩
  obtain ⟨ap, cp, rfl, _, _, _⟩ := hp.parts
  obtain ⟨vs, hvs, hsl, hrows⟩ := hl
  obtain ⟨al, cl, rfl, _, _, hcl⟩ := hsl.parts
  have hlr : ∀ i x, l[i]? = some x → ∃ u b off, vs[i]? = some u ∧ al = some ⟨b, off, none⟩ ∧ w.cell? ⟨b, off + i, none⟩ = some u ∧ Sl w u (i64s x) := fun i x hx => by
    have hi := (List.getElem?_eq_some_iff.1 hx).1
    obtain ⟨u, hu⟩ : ∃ u, vs[i]? = some u := ⟨_, List.getElem?_eq_getElem (by omega)⟩
    obtain ⟨b, off, h1, h2⟩ := hcl i u hu
    refine ⟨u, b, off, hu, h1, h2, ?_⟩
    have := hrows i u hu
    rw [List.getD_eq_getElem?_getD, hx] at this
    exact this
  rw [i64s_length] at *
  rw [hvs] at *
  have hxp : ∀ i, i ≤ l.length → pw m i ≤ 10000 := fun i h => Nat.le_trans (pw_mono m h) hx
  have Hxp := Lib.hid hxp; clear hxp
  have hp0 : 0 < p.length := (primesErr_zero hpe).1
  have Hck := Lib.hid hck; have Hsg := Lib.hid hsg; have Hrw := Lib.hid hrw; have Hlr := Lib.hid hlr; have Hx := Lib.hid hx; have He := Lib.hid he; have Hm := Lib.hid hm
  clear hck hsg hrw hlr hx he hc hpe hlx hp hsl hrows hcl hrow hvs hm
  go_enter Tryz.func21, Tryz.ntmps21
  go_wp2_with fail
  refine Hck.out.mono ?_
  rintro e w1 ⟨rfl, rfl⟩
  go_wp2_with fail
  go_loop [9, 34] (fun v9 v34 => CntRel m l.length v9 v34) (fun _ v34 => l.length - (intOf v34).toNat)
  case atStart => exact ⟨0, rfl, Nat.zero_le _, by rw [pw_zero]; rfl, by rw [pw_zero]; omega⟩
  case round =>
    obtain ⟨k, rfl, hk, rfl, hpw⟩ := hrel
    by_cases hlt : k < l.length
    · have hm10 : m ≤ 10000 := by
        rcases Hm.out with h | h
        · rw [h] at hlt; simp at hlt
        · exact h
      have hmul := cnt_mul m k
      have hle := cnt_le hm10 hpw
      have hb : pw m (k + 1) ≤ 10000 := Nat.le_trans (pw_mono m hlt) Hx.out
      have hn1 : ¬ (10000 : Int) < (m : Int) := by omega
      go_wp2
      go_round
      case rel => exact ⟨k + 1, by go_num, by omega, by rfl, by omega⟩
      case measure => simp [intOf]; omega
    · obtain rfl : k = l.length := by omega
      generalize pw m l.length = pc at *
      go_wp2_with (at_make; refine wpList_make_full _ rfl _ _ 30 rfl w.heap.size 3 i0 (.int .i64 0) 1 Tryz.underlying30 hi hz0 hz1 _ _ _ _ p.length rfl rfl rfl rfl (by rw [hz2]; omega) (by unfold maxLen; omega) (Nat.le_refl _) ?_; intro W1 hown1 hgrow1)
      have hownz : OwnI W1 w.heap.size (.slice (some ⟨w.heap.size, 0, none⟩) p.length p.length) (List.replicate p.length 0) := by
        unfold OwnI
        rw [List.length_replicate]
        have e : i64s (List.replicate p.length 0) = (madeCells #[Value.int .i64 0] (p.length * 1)).toList := by
          rw [Nat.mul_one, toList_madeCells_one]; simp [i64s]
        rw [e]; exact hown1
      have hE1 : Ext w W1 := (Ext.refl w).grown hgrow1 (by simp)
      have hE2 : Ext w (W1.alloc (.cells #[.slice (some ⟨w.heap.size, 0, none⟩) p.length p.length] 30)) := hE1.alloc _
      have hrw2 : RwM (W1.alloc (.cells #[.slice (some ⟨w.heap.size, 0, none⟩) p.length p.length] 30)) w.heap.size w.heap.size (.slice (some ⟨W1.heap.size, 0, none⟩) 1 1) [⟨List.replicate p.length 0, .slice (some ⟨w.heap.size, 0, none⟩) p.length p.length, rfl⟩] := by
        refine ⟨own_block (xs := [.slice (some ⟨w.heap.size, 0, none⟩) p.length p.length]) (World.alloc_heap_new W1 _) hE1.size (by simp [maxLen]), fun r hr => ?_⟩
        simp only [List.mem_singleton] at hr
        subst hr
        exact ⟨((Ext.refl W1).alloc _).ownI hownz, by simp; omega⟩
      have htame0 : Tame p.length ((0 : Nat) * 10000000 : Int) [List.replicate p.length 0] := by
        intro y hy
        simp only [List.mem_singleton] at hy
        subst hy
        refine ⟨by simp, fun i => ?_⟩
        have : nthI (List.replicate p.length 0) i = 0 := by
          unfold nthI
          rw [List.getD_eq_getElem?_getD, List.getElem?_replicate]
          split <;> rfl
        rw [this]; omega
      generalize W1.alloc (.cells #[.slice (some ⟨w.heap.size, 0, none⟩) p.length p.length] 30) = W1a at *
      have HE2 := Lib.hid hE2; have Hrw2 := Lib.hid hrw2; have Htame0 := Lib.hid htame0
      clear hownz hown1 hgrow1 hE1 hE2 hrw2 htame0
      go_loopw [10, 58] (fun v i wr => CbOut m p.length w.heap.size l w v i wr) (fun _ i _ => l.length - (intOf i).toNat)
      case atStart => exact ⟨0, _, rfl, Nat.zero_le _, Hrw2.out, by simp [combAll], by rw [pw_zero]; rfl, by simpa using Htame0.out, HE2.out⟩
      case round =>
        obtain ⟨k, rs, rfl, hk, hrs, hmap, hlen, htame, hext⟩ := hrel
        obtain ⟨av, cv, rfl⟩ := own_shape hrs.1
        have hlen2 : rs.length ≤ 10000 := by rw [hlen]; exact Hxp.out k hk
        have Hrs := Lib.hid hrs; have Hmap := Lib.hid hmap; have Hlen := Lib.hid hlen; have Htame := Lib.hid htame; have Hext := Lib.hid hext
        clear hrs hmap hlen htame hext
        by_cases hlt : k < l.length
        · have hm10 : m ≤ 10000 := by
            rcases Hm.out with h | h
            · rw [h] at hlt; simp at hlt
            · exact h
          obtain ⟨x, hxk, hxl, hxb⟩ := Hrw.out k hlt
          obtain ⟨u, b, off, _, rfl, hcu, hslu⟩ := Hlr.out k x hxk
          have hcu2 := Hext.out.cell hcu
          have hslu2 := Hext.out.sl hslu
          obtain ⟨axx, cxx, rfl, _, _, hcxx⟩ := hslu2.parts
          rw [i64s_length, hxl] at hcu2
          have Hxk := Lib.hid hxk; have Hxl := Lib.hid hxl; have Hxb := Lib.hid hxb; have Hcxx := Lib.hid hcxx
          clear hxk hxl hxb hcu hslu hslu2 hcxx
          obtain ⟨wo, hwo⟩ : ∃ wo : World, wo = wr := ⟨_, rfl⟩
          subst hwo
          go_wp2_with fail
          go_loopw [13, 64] (fun v j wr => CbMid m w.heap.size x rs wo v j wr) (fun _ j _ => rs.length - (intOf j).toNat)
          case atStart => exact ⟨0, [], rfl, Nat.zero_le _, rwm_nil _ _ _, by simp [spread], Ext.refl _⟩
          case round =>
            obtain ⟨j, rs2, rfl, hj, hrs2, hmap2, hext2⟩ := hrel
            obtain ⟨av2, cv2, rfl⟩ := own_shape hrs2.1
            have Hrs2 := Lib.hid hrs2; have Hmap2 := Lib.hid hmap2; have Hext2 := Lib.hid hext2
            clear hrs2 hmap2 hext2
            by_cases hjl : j < rs.length
            · obtain ⟨y, hy⟩ : ∃ y, rs[j]? = some y := ⟨_, List.getElem?_eq_getElem hjl⟩
              have hymem := List.mem_of_getElem? hy
              obtain ⟨g, cap, e0, hcells⟩ := own_slice Hrs.out.1 (by omega)
              injection e0 with e1 _ e3
              subst e1; subst e3
              have hcy0 := hcells j y.u (by simp [rwc, hy])
              have hcy := Hext2.out.cell hcy0
              obtain ⟨hoy, _⟩ := Hrs.out.2 y hymem
              have hty := Htame.out y.x (List.mem_map_of_mem hymem)
              have hyx : (rs.map Rw.x)[j]? = some y.x := by rw [List.getElem?_map, hy]; rfl
              have Hyr := Lib.hid hy
              obtain ⟨yx, yu, hyu⟩ := y
              dsimp only at hcy hoy hty hyx
              have hoy2 := Hext2.out.ownI hoy
              obtain ⟨ay, cy, rfl⟩ := own_shape hoy2
              have Hoy := Lib.hid hoy; have Hty := Lib.hid hty; have Hyx := Lib.hid hyx
              clear hy hymem hcells hcy0 hoy hoy2 hty hyx
              obtain ⟨wm, hwm⟩ : ∃ wm : World, wm = wr := ⟨_, rfl⟩
              subst hwm
              have hjm : j * (2 * m + 1) ≤ 10000 * 20001 := Nat.mul_le_mul (by omega) (by omega)
              have hlr2 := congrArg List.length Hmap2.out
              rw [List.length_map, spread_length, List.length_take, List.length_map, Nat.min_eq_left (Nat.le_of_lt hjl)] at hlr2
              have hlr3 : rs2.length ≤ 200010000 := by omega
              clear hlr2 hjm
              go_wp2_with fail
              go_loopw [13, 16] (fun v t wr => CbIn m w.heap.size j x yx rs wo v t wr) (fun _ t _ => (2 * m + 1) - (intOf t + m).toNat)
              case atStart => exact ⟨0, rs2, by simp, Nat.zero_le _, Hrs2.out, by rw [Hmap2.out]; simp [fan], Hext2.out⟩
              case round =>
                obtain ⟨s, rs3, rfl, hs, hrs3, hmap3, hext3⟩ := hrel
                obtain ⟨av3, cv3, rfl⟩ := own_shape hrs3.1
                have hl3 := congrArg List.length hmap3
                rw [List.length_append, List.length_map, spread_length, List.length_take, List.length_map, Nat.min_eq_left (Nat.le_of_lt hjl), fan_length] at hl3
                have hjm : j * (2 * m + 1) ≤ 10000 * 20001 := Nat.mul_le_mul (by omega) (by omega)
                have hl4 : rs3.length ≤ 300000000 := by omega
                have Hrs3 := Lib.hid hrs3; have Hmap3 := Lib.hid hmap3; have Hext3 := Lib.hid hext3
                clear hrs3 hmap3 hext3 hl3 hjm
                by_cases hsl : s < 2 * m + 1
                · obtain ⟨wk, hwk⟩ : ∃ wk : World, wk = wr := ⟨_, rfl⟩
                  subst hwk
                  have hst : (s : Int) - (m : Int) ≤ (m : Int) := by omega
                  have hyl : yx.length = p.length := Hty.out.1
                  have hcl := clone_c (.slice ay yx.length cy) yx wk (Hext3.out.ownI (own_mono (Hrs.out.2 _ (List.mem_of_getElem? (show rs[j]? = some _ from Hyr.out))).1 (Nat.le_refl _))).sl (by omega)
                  have Hcl := Lib.hid hcl; have Hyl := Lib.hid hyl; clear hcl hyl
                  have hk1 : -(m : Int) ≤ (s : Int) - (m : Int) := by omega
                  obtain ⟨kk, hkk⟩ : ∃ kk : Int, (s : Int) - (m : Int) = kk := ⟨_, rfl⟩
                  have Hkk := Lib.hid hkk
                  have hkk1 : -(m : Int) ≤ kk := by omega
                  have hkk2 : kk ≤ (m : Int) := by omega
                  rw [hkk]
                  clear hkk hst hk1
                  have hwo3 := Hext3.out.size
                  have Hwo3 := Lib.hid hwo3; clear hwo3
                  go_wp2_with fail
                  refine Hcl.out.mono ?_
                  rintro e W5 ⟨zv, rfl, hzv, hx5⟩
                  obtain ⟨az, cz, rfl⟩ := own_shape hzv
                  obtain ⟨gz, capz, e0, hgz, _⟩ := row_at hzv (k := 0) (by have := Hyl.out; omega)
                  injection e0 with e1 e2 e3
                  subst e1
                  clear e2 e3
                  have Hzv := Lib.hid hzv; have Hx5 := Lib.hid hx5; clear hzv hx5
                  go_wp2_with fail
                  go_loopw [79] (fun t wr => ∃ i : Nat, t = .int .i64 i ∧ i ≤ yx.length ∧ OwnI wr wk.heap.size (.slice (some ⟨gz, 0, none⟩) yx.length cz) (addTo yx x kk i) ∧ Ext wk wr) (fun t _ => yx.length - (intOf t).toNat)
                  case atStart => exact ⟨0, rfl, Nat.zero_le _, by rw [addTo_zero]; exact Hzv.out, Hx5.out⟩
                  case round =>
                    obtain ⟨i, rfl, hil, hoz, hez⟩ := hrel
                    have Hoz := Lib.hid hoz; have Hez := Lib.hid hez; clear hoz hez
                    by_cases hiL : i < yx.length
                    · have hix : i < x.length := by have := Hxl.out; have := Hyl.out; omega
                      obtain ⟨bx, ox, rfl, hcx0⟩ := Hcxx.out i _ (i64s_at hix)
                      have hcx := (Hext3.out.trans Hez.out).cell hcx0
                      have hoz' : OwnI wr wk.heap.size (.slice (some ⟨gz, 0, none⟩) (addTo yx x kk i).length cz) (addTo yx x kk i) := by rw [addTo_length]; exact Hoz.out
                      have hcz := ownI_cell hoz' i (by rw [addTo_length]; exact hiL)
                      rw [nthI_addTo yx x kk hiL (Nat.le_refl _)] at hcz
                      have hfz : wr.frozen? ⟨gz, i, none⟩ = false := World.ownsRow.frozenAt hoz' i
                      have hset := ownI_set hoz' i (nthI yx i + kk * nthI x i)
                      rw [addTo_set yx x kk hiL, addTo_length] at hset
                      have hb1 := Hty.out.2 i
                      have hb2 := Hxb.out i
                      have hb3 := mul_bd hkk1 hkk2 hb2.1 hb2.2 (by omega)
                      have hEz : Ext wk (wr.setCell ⟨gz, i, none⟩ (.int .i64 (nthI yx i + kk * nthI x i))) := Hez.out.setCell hgz _
                      have Hset := Lib.hid hset; have HEz := Lib.hid hEz
                      clear hoz' hset hEz hcx0
                      have hi0 : (0 : Int) ≤ (i : Int) := by omega
                      have hi1 : (i : Int) < (yx.length : Int) := by omega
                      have hi2 : (i : Int) < (p.length : Int) := by have := Hyl.out; omega
                      obtain ⟨hb11, hb12⟩ := hb1
                      obtain ⟨hb31, hb32⟩ := hb3
                      have hb13 : -1000000000 ≤ nthI yx i := by omega
                      have hb14 : nthI yx i ≤ 1000000000 := by omega
                      have hb33 : -10000000 ≤ kk * nthI x i := by omega
                      have hb34 : kk * nthI x i ≤ 10000000 := by omega
                      clear hb2 hb11 hb12 hb31 hb32
                      generalize nthI yx i = zy at *
                      generalize nthI x i = zx at *
                      go_wp2_with fail
                      go_region
                      go_wp2
                      go_roundw
                      case rel => exact ⟨i + 1, by go_num, by omega, ((Ext.refl _).drew).ownI Hset.out, HEz.out.drew⟩
                      case measure => simp [intOf]; omega
                    · obtain rfl : i = yx.length := by omega
                      have hoz := Hoz.out
                      rw [addTo_full] at hoz
                      have hzz : OwnI wr w.heap.size (.slice (some ⟨gz, 0, none⟩) yx.length cz) (addK yx x kk) := own_mono hoz (Nat.le_trans Hext.out.size Hwo3.out)
                      have hownr := (Hez.out.rwM Hrs3.out).1
                      have hrz := Hez.out.rwM Hrs3.out
                      have hEz := Hext3.out.trans Hez.out
                      have hszz := hEz.size
                      have Hzz := Lib.hid hzz; have Hrz := Lib.hid hrz; have HEz := Lib.hid hEz
                      clear hoz hzz hrz
                      have hm3 : rs3.length + 1 ≤ maxLen := by unfold maxLen; omega
                      have hm4 : (rs3.length + 1) * 24 ≤ 140737488355328 := by omega
                      go_wp2_with (at_builtin; refine wpList_append_own _ rfl _ _ 36 rfl wo.heap.size 30 j0 (.slice none 0 0) 1 24 Tryz.underlying36 hjr hy0 hy1 hy2 rfl (by decide) _ _ _ rfl (hownr.alloc _) ⟨wr.heap.size, 0, none⟩ 1 1 [.slice (some ⟨gz, 0, none⟩) yx.length cz] rfl rfl (cell_one_new _ _ _) (by simp [Value.oneCell']) hm3 hm4 (by rw [World.size_alloc]; omega) ?_; intro v7 W7 hown7 hgrow7 _)
                      have hfin := rwm_more (r := ⟨addK yx x kk, .slice (some ⟨gz, 0, none⟩) yx.length cz, rfl⟩) Hrz.out Hzz.out (by rw [addK_length]; have := Hyl.out; omega) HEz.out hown7 hgrow7
                      have hmapE : (rs3 ++ [(⟨addK yx x kk, .slice (some ⟨gz, 0, none⟩) yx.length cz, rfl⟩ : Rw)]).map Rw.x = spread m x ((rs.map Rw.x).take j) ++ fan m x yx (s + 1) := by
                        rw [List.map_append, Hmap3.out, fan_succ, ← List.append_assoc, Hkk.out]; rfl
                      have HmapE := Lib.hid hmapE; have Hfin := Lib.hid hfin; clear hmapE hfin hown7 hgrow7 hownr hEz
                      have hks : kk + 1 = ((s + 1 : Nat) : Int) - (m : Int) := by have := Hkk.out; omega
                      go_wp2
                      go_roundw
                      case rel => exact ⟨s + 1, _, by rw [← hks], by omega, Hfin.out.1, HmapE.out, Hfin.out.2⟩
                      case measure => simp [intOf]; omega
                · obtain rfl : s = 2 * m + 1 := by omega
                  have hns : ¬ (((2 * m + 1 : Nat) : Int) - (m : Int) ≤ (m : Int)) := by omega
                  have hmapE : rs3.map Rw.x = spread m x ((rs.map Rw.x).take (j + 1)) := by
                    rw [Hmap3.out, List.take_add_one, Hyx.out]
                    exact (spread_snoc m x _ yx).symm
                  have HmapE := Lib.hid hmapE; clear hmapE
                  go_wp2
                  go_roundw
                  case rel => exact ⟨j + 1, rs3, by go_num, by omega, Hrs3.out, HmapE.out, Hext3.out⟩
                  case measure => simp [intOf]; omega
            · obtain rfl : j = rs.length := by omega
              have hmapE : rs2.map Rw.x = combAll m (l.take (k + 1)) [List.replicate p.length 0] := by
                rw [Hmap2.out, List.take_of_length_le (by rw [List.length_map]; exact Nat.le_refl _), Hmap.out, List.take_add_one, Hxk.out]
                exact (combAll_snoc m _ x _).symm
              have hlenE : rs2.length = pw m (k + 1) := by
                have h1 := congrArg List.length Hmap2.out
                rw [List.length_map, spread_length, List.take_of_length_le (by rw [List.length_map]; exact Nat.le_refl _), List.length_map, Hlen.out] at h1
                rw [h1, pw_succ]
              have htameE : Tame p.length (((k + 1 : Nat) : Int) * 10000000) (rs2.map Rw.x) := by
                rw [Hmap2.out, List.take_of_length_le (by rw [List.length_map]; exact Nat.le_refl _)]
                have h1 := spread_tame (m := m) (x := x) hm10 Htame.out Hxb.out (by omega)
                have e : ((k : Int) * 10000000 + 10000000) = (((k + 1 : Nat) : Int) * 10000000) := by omega
                rw [← e]; exact h1
              have HmapE := Lib.hid hmapE; have HlenE := Lib.hid hlenE; have HtameE := Lib.hid htameE; clear hmapE hlenE htameE
              go_wp2
              go_roundw
              case rel => exact ⟨k + 1, rs2, by go_num, by omega, rwm_mono Hrs2.out (Nat.le_refl _) Hext.out.size, HmapE.out, HlenE.out, HtameE.out, Hext.out.trans Hext2.out⟩
              case measure => simp [intOf]; omega
        · obtain rfl : k = l.length := by omega
          have hall : rs.map Rw.x = combAll m l [List.replicate p.length 0] := by rw [Hmap.out, List.take_length]
          have hrl : ∀ r ∈ rs, r.x.length ≤ 1000000 := fun r hr => (Hrs.out.2 r hr).2
          have Hall := Lib.hid hall; have Hrl := Lib.hid hrl; clear hall hrl
          obtain ⟨w5, hw5⟩ : ∃ w5 : World, w5 = wr := ⟨_, rfl⟩
          subst hw5
          go_wp2_with fail
          go_loopw [19, 104] (fun v i wr => CbPos p w.heap.size rs w5 v i wr) (fun _ i _ => rs.length - (intOf i).toNat)
          case atStart => exact ⟨0, [], rfl, Nat.zero_le _, rwm_nil _ _ _, by simp, by simp, Ext.refl _⟩
          case round =>
            obtain ⟨k, rs2, rfl, hk2, hrs2, hf2, he2, hext2⟩ := hrel
            obtain ⟨av2, cv2, rfl⟩ := own_shape hrs2.1
            have hl2 : rs2.length ≤ 10000 := by
              rw [hf2]; exact Nat.le_trans (List.length_filter_le _ _) (by rw [List.length_take]; omega)
            have Hrs2 := Lib.hid hrs2; have Hf2 := Lib.hid hf2; have He2 := Lib.hid he2; have Hext2 := Lib.hid hext2
            clear hrs2 hf2 he2 hext2
            by_cases hkl : k < rs.length
            · obtain ⟨r, hr⟩ : ∃ r, rs[k]? = some r := ⟨_, List.getElem?_eq_getElem hkl⟩
              have hrm := List.mem_of_getElem? hr
              obtain ⟨g, cap, e0, hcells⟩ := own_slice Hrs.out.1 (by omega)
              injection e0 with e1 _ e3
              subst e1; subst e3
              have hcr := Hext2.out.cell (hcells k r.u (by simp [rwc, hr]))
              have hor := Hext2.out.ownI (Hrs.out.2 r hrm).1
              have hsgn := Hsg.out wr (Hext.out.trans Hext2.out) r.u r.x hor.sl (Hrl.out r hrm)
              have hmore := filter_more (fun r : Rw => decide (0 < signP p r.x)) hr
              have hin : r.x ∈ combAll m l [List.replicate p.length 0] := by rw [← Hall.out]; exact List.mem_map_of_mem hrm
              have hee : oneErr p r.x = 0 → ∀ s ∈ rs.take (k + 1), oneErr p s.x = 0 := fun h0 s hs => by
                rw [List.take_add_one, hr] at hs
                rcases List.mem_append.1 hs with h | h
                · exact He2.out s h
                · simp only [Option.toList_some, List.mem_singleton] at h
                  rw [h]; exact h0
              have hbad : oneErr p r.x ≠ 0 → ∃ z ∈ combAll m l [List.replicate p.length 0], oneErr p z ≠ 0 := fun h => ⟨_, hin, h⟩
              have hrl := Hrl.out r hrm
              obtain ⟨rx, ru, hru⟩ := r
              dsimp only at hcr hor hsgn hmore hee hbad hrl
              obtain ⟨aru, cru, rfl⟩ := own_shape hor
              generalize hsp : signP p rx = sg at *
              generalize hop : oneErr p rx = er at *
              have Hor := Lib.hid hor; have Hsgn := Lib.hid hsgn; have Hmore := Lib.hid hmore; have Hee := Lib.hid hee; have Hbad := Lib.hid hbad; have Hsp := Lib.hid hsp
              clear hor hsgn hmore hee hbad hin hrm hr hcells hsp hop
              by_cases her : er = 0
              · subst her
                go_wp2_with fail
                refine Hsgn.out.mono ?_
                rintro e W6 ⟨rfl, hx6⟩
                have hE6 := Hext2.out.trans hx6
                have hr6 := hx6.rwM Hrs2.out
                have hu6 := hx6.ownI Hor.out
                by_cases hsg : 0 < sg
                · have hownr := hr6.1
                  have hszz := hE6.size
                  have Hr6 := Lib.hid hr6; have Hu6 := Lib.hid hu6; have HE6 := Lib.hid hE6; clear hr6 hu6 hx6
                  have hm3 : rs2.length + 1 ≤ maxLen := by unfold maxLen; omega
                  have hm4 : (rs2.length + 1) * 24 ≤ 140737488355328 := by omega
                  go_wp2_with (at_builtin; refine wpList_append_own _ rfl _ _ 36 rfl w5.heap.size 30 j0 (.slice none 0 0) 1 24 Tryz.underlying36 hjr hy0 hy1 hy2 rfl (by decide) _ _ _ rfl (hownr.alloc _) ⟨W6.heap.size, 0, none⟩ 1 1 [.slice aru rx.length cru] rfl rfl (cell_one_new _ _ _) (by simp [Value.oneCell']) hm3 hm4 (by rw [World.size_alloc]; omega) ?_; intro v7 W7 hown7 hgrow7 _)
                  have hfin := rwm_more (r := ⟨rx, .slice aru rx.length cru, hru⟩) Hr6.out Hu6.out hrl HE6.out hown7 hgrow7
                  have hmoreE : rs2 ++ [(⟨rx, .slice aru rx.length cru, hru⟩ : Rw)] = (rs.take (k + 1)).filter (fun r : Rw => decide (0 < signP p r.x)) := by
                    rw [Hmore.out, ← Hf2.out, if_pos (decide_eq_true hsg)]
                  have Hfin := Lib.hid hfin; have HmoreE := Lib.hid hmoreE; clear hfin hmoreE hown7 hgrow7 hownr hE6
                  go_wp2
                  go_roundw
                  case rel => exact ⟨k + 1, _, by go_num, by omega, Hfin.out.1, HmoreE.out, Hee.out (by first | rfl | trivial), Hfin.out.2⟩
                  case measure => simp [intOf]; omega
                · have hmoreE : rs2 = (rs.take (k + 1)).filter (fun r : Rw => decide (0 < signP p r.x)) := by
                    rw [Hmore.out, ← Hf2.out, if_neg (by rw [decide_eq_true_eq]; exact hsg), List.append_nil]
                  have Hr6 := Lib.hid hr6; have HE6 := Lib.hid hE6; have HmoreE := Lib.hid hmoreE; clear hr6 hu6 hx6 hE6 hmoreE
                  go_wp2
                  go_roundw
                  case rel => exact ⟨k + 1, rs2, by go_num, by omega, Hr6.out, HmoreE.out, Hee.out (by first | rfl | trivial), HE6.out⟩
                  case measure => simp [intOf]; omega
              · have hne : (er != 0) = true := by rw [bne_iff_ne]; exact her
                have hbz := Hbad.out her
                have Hbz := Lib.hid hbz; clear hbz her
                go_wp2_with fail
                refine Hsgn.out.mono ?_
                rintro e W6 ⟨rfl, hx6⟩
                have hE6 := (Hext.out.trans Hext2.out).trans hx6
                have HE6 := Lib.hid hE6; clear hx6 hE6
                go_wp2
                go_ret2
                exact .inl ⟨Hbz.out, rfl, HE6.out⟩
            · obtain rfl : k = rs.length := by omega
              have hgood : ∀ z ∈ combAll m l [List.replicate p.length 0], oneErr p z = 0 := by
                intro z hz
                rw [← Hall.out] at hz
                obtain ⟨r, hr, rfl⟩ := List.mem_map.1 hz
                exact He2.out r (by rw [List.take_length]; exact hr)
              have hpos : rs2.map Rw.x = posOf p (combAll m l [List.replicate p.length 0]) := by
                rw [Hf2.out, List.take_length, ← Hall.out]
                unfold posOf
                rw [List.filter_map]
                rfl
              have hsort := sortR_c Hrs2.out (by omega)
              have Hsort := Lib.hid hsort; have Hgood := Lib.hid hgood; have Hpos := Lib.hid hpos; clear hsort hgood hpos
              go_wp2_with fail
              refine Hsort.out.mono ?_
              rintro e W8 ⟨rfl, rs8, hrs8, hperm, hpw, hx8⟩
              have hE8 := hx8 w5 Hext2.out rfl
              have hl8 := hperm.length_eq
              have hcmp := compact_c (a := av2) (cap := cv2) (by rw [hl8]; exact hrs8) (by omega)
              rw [hl8] at hcmp
              have Hcmp := Lib.hid hcmp; have HE8 := Lib.hid hE8; have Hperm := Lib.hid hperm; have Hpw := Lib.hid hpw; have Hl8 := Lib.hid hl8
              clear hcmp hE8 hperm hpw hrs8 hx8 hl8
              go_wp2_with fail
              refine Hcmp.out.mono ?_
              rintro e W9 ⟨v9, rfl, hrs9, hx9⟩
              have hE9 := hx9 w5 HE8.out rfl
              obtain ⟨a9, c9, rfl⟩ := own_shape hrs9.1
              have Hrs9 := Lib.hid hrs9; have HE9 := Lib.hid hE9; clear hrs9 hE9 hx9
              go_wp2
              go_ret2
              refine .inr ⟨Hgood.out, _, cpTo Rw.x rs8 rs2.length, rfl, rwm_mono Hrs9.out (Nat.le_refl _) Hext.out.size, ⟨rs8.map Rw.x, ?_, ?_, ?_⟩, Hext.out.trans HE9.out⟩
              · rw [← Hpos.out]; exact Hperm.out.map _
              · rw [List.pairwise_map]; exact Hpw.out
              · rw [cpTo_map, List.length_map, Hl8.out]

end Go.Proofs.YtkamjjjimbbdmaaGreatDoor
