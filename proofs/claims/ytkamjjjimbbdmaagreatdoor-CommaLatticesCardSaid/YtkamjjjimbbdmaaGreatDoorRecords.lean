/- The walks of monzo.Compare and comma.Records. -/
import Derived.Test.YtkamjjjimbbdmaaGreatDoorLwB
import Derived.Deep.RegionHeld3
namespace Go.Proofs.YtkamjjjimbbdmaaGreatDoor
open Go.RowKit Go.Lib Go.Shelf Go.Sort

theorem two_rows {w : World} {vx vy : Value} {x y : List Int} (hx : Sl w vx (i64s x)) (hy : Sl w vy (i64s y)) : Mat (w.alloc (.cells #[vx, vy] 30)) (.slice (some ⟨w.heap.size, 0, none⟩) 2 2) [x, y] ∧ Ext w (w.alloc (.cells #[vx, vy] 30)) := by
  have hE : Ext w (w.alloc (.cells #[vx, vy] 30)) := (Ext.refl w).alloc _
  refine ⟨mat_block (us := [vx, vy]) (l := [x, y]) (World.alloc_heap_new w _) rfl (by simp [maxLen]) (fun i u hu => ?_), hE⟩
  match i, hu with
  | 0, hu => simp at hu; subst hu; exact hE.sl hx
  | 1, hu => simp at hu; subst hu; exact hE.sl hy
  | k + 2, hu => simp at hu

theorem row_fine' {n : Nat} {x : List Int} (hl : x.length = n) (h : ∀ i, -1000 ≤ nthI x i ∧ nthI x i ≤ 1000) : rowErr n x = 0 := by
  unfold rowErr
  rw [if_neg (by simpa using hl), any_far_no (fun k hk => far_no (by have := h k; omega) (by have := h k; omega))]
  rfl
/-- The order of two intervals. -/
def cmpP (p x y : List Int) : Int := cmpI ((numP p x * denP p y : Nat) : Int) ((numP p y * denP p x : Nat) : Int)

set_option maxRecDepth 100000 in
set_option maxHeartbeats 1000000 in
theorem mcompare_c (vp vx vy : Value) (p x y : List Int) (w : World) (he : Env w) (hp : Sl w vp (i64s p)) (hx : Sl w vx (i64s x)) (hy : Sl w vy (i64s y)) (hc : allErr p [x, y] = 0) :
    Calls Tryz.prog 59 #[vp, vx, vy] w fun e w' => e = .returned (.tuple #[.int .i64 (cmpP p x y), .int .i64 0]) ∧ Ext w w' := by
  obtain ⟨hpe, hlx⟩ := allErr_zero hc
  have hl1 := hlx x (by simp)
  have hl2 := hlx y (by simp)
  have hp6 := (primesErr_zero hpe).2.1
  have hn1 : Nice p x := nice_of hpe (row_fine' hl1.1 hl1.2)
  have hn2 : Nice p y := nice_of hpe (row_fine' hl2.1 hl2.2)
  have hck := fun W vl (hE : Ext w W) (hl : Mat W vl [x, y]) => checkAll_c vp vl p [x, y] W (hE.sl hp) hl (by omega) (by simp) (fun i => by
    match i with
    | 0 => show x.length ≤ _; omega
    | 1 => show y.length ≤ _; omega
    | k + 2 => simp)
  rw [hc] at hck
  have hs1 := fun W (hE : Ext w W) => msides_c vp vx p x W (he.ext hE) (hE.sl hp) (hE.sl hx) hn1
  have hs2 := fun W (hE : Ext w W) => msides_c vp vy p y W (he.ext hE) (hE.sl hp) (hE.sl hy) hn2
  have d1 := numP_digits hn1; have d2 := denP_digits hn1; have d3 := numP_digits hn2; have d4 := denP_digits hn2
  unfold cmpP
  generalize numP p x = n1 at *
  generalize denP p x = m1 at *
  generalize numP p y = n2 at *
  generalize denP p y = m2 at *
  have hd1 := nDigits_mul n1 m2
  have hd2 := nDigits_mul n2 m1
  have hcm := fun W => decCmp_c (n1 * m2) (n2 * m1) W (by omega) (by omega)
  have hmu1 := fun W (hE : Ext w W) => decMul_c n1 m2 W (he.ext hE) (by omega) (by omega)
  have hmu2 := fun W (hE : Ext w W) => decMul_c n2 m1 W (he.ext hE) (by omega) (by omega)
  have Hx := Lib.hid hx; have Hy := Lib.hid hy
  obtain ⟨ap, cp, rfl, _, _, _⟩ := hp.parts
  obtain ⟨ax, cx, rfl, _, _, _⟩ := hx.parts
  obtain ⟨ay, cy, rfl, _, _, _⟩ := hy.parts
  rw [i64s_length] at *
  rw [i64s_length] at *
  rw [i64s_length] at *
  have Hck := Lib.hid hck; have Hs1 := Lib.hid hs1; have Hs2 := Lib.hid hs2; have Hcm := Lib.hid hcm; have Hmu1 := Lib.hid hmu1; have Hmu2 := Lib.hid hmu2
  clear hck hs1 hs2 hcm hmu1 hmu2 hx hy hp he hc hlx hl1 hl2 hn1 hn2 hpe d1 d2 d3 d4 hd1 hd2
  obtain ⟨hm, hmE⟩ := two_rows Hx.out Hy.out
  have Hm := Lib.hid hm; have HmE := Lib.hid hmE; clear hm hmE
  go_enter Tryz.func59, Tryz.ntmps59
  go_wp2_with fail
  generalize w.alloc (.cells #[.slice ax x.length cx, .slice ay y.length cy] 30) = W2 at *
  refine (Hck.out W2 _ HmE.out Hm.out).mono ?_
  rintro e W2' ⟨rfl, rfl⟩
  go_wp2_with fail
  refine (Hs1.out W2 HmE.out).mono ?_
  rintro e W3 ⟨rfl, hx3⟩
  have HE3 := Lib.hid (HmE.out.trans hx3); clear hx3
  go_wp2_with fail
  refine (Hs2.out W3 HE3.out).mono ?_
  rintro e W4 ⟨rfl, hx4⟩
  have HE4 := Lib.hid (HE3.out.trans hx4); clear hx4
  go_wp2_with fail
  refine (Hmu1.out W4 HE4.out).mono ?_
  rintro e W5 ⟨rfl, hx5⟩
  have HE5 := Lib.hid (HE4.out.trans hx5); clear hx5
  go_wp2_with fail
  refine (Hmu2.out W5 HE5.out).mono ?_
  rintro e W6 ⟨rfl, hx6⟩
  have HE6 := Lib.hid (HE5.out.trans hx6); clear hx6
  go_wp2_with fail
  refine (Hcm.out W6).mono ?_
  rintro e W6' ⟨rfl, rfl⟩
  go_wp2
  go_ret2
  exact ⟨rfl, HE6.out⟩

/-- Those that are less than all before them. -/
def recStep (p : List Int) (out : List (List Int)) (x : List Int) : List (List Int) :=
  match out.getLast? with
  | none => out ++ [x]
  | some y => if 0 ≤ cmpP p x y then out else out ++ [x]
def recsOf (p : List Int) (R : List (List Int)) : List (List Int) := R.foldl (recStep p) []
theorem recsOf_snoc (p : List Int) (R : List (List Int)) (x : List Int) : recsOf p (R ++ [x]) = recStep p (recsOf p R) x := by
  unfold recsOf; rw [List.foldl_append]; rfl
def RecRel (p : List Int) (b : Nat) (rs : List Rw) (W2 : World) (v i : Value) (wr : World) : Prop :=
  ∃ (k : Nat) (rs2 : List Rw), i = .int .i64 k ∧ k ≤ rs.length ∧ RwM wr b W2.heap.size v rs2 ∧ rs2.map Rw.x = recsOf p ((rs.map Rw.x).take k) ∧ rs2.length ≤ k ∧ (∀ r ∈ rs2, r.x ∈ rs.map Rw.x) ∧ Ext W2 wr
theorem held2 {V w w' : World} {a1 a2 : Addr} {u1 u2 : Value} (h : Ext V w ∧ w.cell? a1 = some u1 ∧ w.cell? a2 = some u2) (hx : Ext w w') : Ext V w' ∧ w'.cell? a1 = some u1 ∧ w'.cell? a2 = some u2 := ⟨h.1.trans hx, hx.cell h.2.1, hx.cell h.2.2⟩

set_option maxRecDepth 100000 in
set_option maxHeartbeats 4000000 in
theorem records_w (vp vx : Value) (p x : List Int) (lim : Int) (w : World) (he : Env w) (hp : Sl w vp (i64s p)) (hx : Sl w vx (i64s x)) (R : List (List Int)) (hR : R.length ≤ 10000) (hRl : ∀ r ∈ R, r.length ≤ 1000000) (hRe : ∀ r ∈ R, ∀ s ∈ R, allErr p [r, s] = 0)
    (hl : ∀ W, Ext w W → Calls Tryz.prog 14 #[.agg #[vp, .int .i64 lim, vx]] W fun e w' => ∃ v rs, e = .returned (.tuple #[v, .int .i64 0]) ∧ RwL w' W.heap.size v rs ∧ rs.map Rw.x = R ∧ Ext W w') :
    Calls Tryz.prog 25 #[.agg #[vp, .int .i64 lim, vx]] w fun e w' => ∃ v rs, e = .returned (.tuple #[v, .int .i64 0]) ∧ RwL w' w.heap.size v rs ∧ rs.map Rw.x = recsOf p R ∧ Ext w w' := by
  obtain ⟨j0, hjr, hy0, hy1, hy2⟩ := info_parts info_row
  have hcmp := fun W vx vy x y (hE : Ext w W) (hx : Sl W vx (i64s x)) (hy : Sl W vy (i64s y)) (h1 : x ∈ R) (h2 : y ∈ R) => mcompare_c vp vx vy p x y W (he.ext hE) (hE.sl hp) hx hy (hRe x h1 y h2)
  obtain ⟨ap, cp, rfl, _, _, _⟩ := hp.parts
  obtain ⟨ax, cx, rfl, _, _, _⟩ := hx.parts
  rw [i64s_length] at *
  rw [i64s_length] at *
  have Hcmp := Lib.hid hcmp; have Hl := Lib.hid hl; have HRl := Lib.hid hRl
  clear hcmp hl hp hx he hRe hRl
  obtain ⟨hb0, hb1, hb2⟩ := three_new w (.slice ap p.length cp) (.int .i64 lim) (.slice ax x.length cx) 32
  have hE0 : Ext w (w.alloc (.cells #[.slice ap p.length cp, .int .i64 lim, .slice ax x.length cx] 32)) := (Ext.refl w).alloc _
  generalize hw0 : w.alloc (.cells #[.slice ap p.length cp, .int .i64 lim, .slice ax x.length cx] 32) = W0 at *
  have HE0 := Lib.hid hE0; clear hE0
  go_enter Tryz.func25, Tryz.ntmps25
  go_wp2_with fail
  refine (Hl.out W0 HE0.out).mono ?_
  rintro e W2 ⟨v2, rs, rfl, hrs, hm, hx2⟩
  obtain ⟨a2, c2, rfl⟩ := own_shape hrs.1
  have hq0 := hx2.cell hb0
  have hrl : rs.length ≤ 10000 := by rw [← hm, List.length_map] at hR; exact hR
  have hE2 := HE0.out.trans hx2
  have Hrs := Lib.hid hrs; have Hm := Lib.hid hm; have HE2 := Lib.hid hE2; clear hrs hm hE2 hx2
  go_wp2_with fail
  go_loopw [6, 18] (fun v i wr => RecRel p W0.heap.size rs W2 v i wr) (fun _ i _ => rs.length - (intOf i).toNat)
  case atStart => exact ⟨0, [], rfl, Nat.zero_le _, ⟨World.ownsRow_nil _ _ _ 1, fun _ h => by cases h⟩, rfl, Nat.le_refl _, (fun _ h => by cases h), Ext.refl _⟩
  case round =>
    obtain ⟨k, rs2, rfl, hk, hrs2, hm2, hk2, hin2, hext2⟩ := hrel
    have Hm2 := Lib.hid hm2; have Hin2 := Lib.hid hin2; have Hext2 := Lib.hid hext2
    clear hm2 hin2 hext2
    by_cases hkl : k < rs.length
    · obtain ⟨r, hr⟩ : ∃ r, rs[k]? = some r := ⟨_, List.getElem?_eq_getElem hkl⟩
      have hrm := List.mem_of_getElem? hr
      obtain ⟨g, cap, e0, hcells⟩ := own_slice Hrs.out.1 (by omega)
      injection e0 with e1 _ e3
      subst e1; subst e3
      have hcr := Hext2.out.cell (hcells k r.u (by simp [rwc, hr]))
      have hor := Hext2.out.ownI (Hrs.out.2 r hrm)
      have hxR : r.x ∈ R := by rw [← Hm.out]; exact List.mem_map_of_mem hrm
      have hrx : (rs.map Rw.x)[k]? = some r.x := by rw [List.getElem?_map, hr]; rfl
      have hstep : recsOf p ((rs.map Rw.x).take (k + 1)) = recStep p (recsOf p ((rs.map Rw.x).take k)) r.x := by
        rw [List.take_add_one, hrx]; exact recsOf_snoc p _ r.x
      have hxm : r.x ∈ rs.map Rw.x := List.mem_map_of_mem hrm
      have hrl2 := HRl.out r.x hxR
      obtain ⟨rx, ru, hru⟩ := r
      dsimp only at hcr hor hxR hstep hxm hrl2
      obtain ⟨aru, cru, rfl⟩ := own_shape hor
      have Hor := Lib.hid hor; have HxR := Lib.hid hxR; have Hstep := Lib.hid hstep; have Hxm := Lib.hid hxm
      clear hor hxR hrx hstep hr hrm hcells hxm
      rcases List.eq_nil_or_concat rs2 with rfl | ⟨init, z, rfl⟩
      · obtain ⟨av2, cv2, rfl⟩ := own_shape hrs2.1
        have hnil : recsOf p ((rs.map Rw.x).take (k + 1)) = [rx] := by rw [Hstep.out, ← Hm2.out]; rfl
        have Hnil := Lib.hid hnil; have Hrs2 := Lib.hid hrs2; clear hnil hrs2
        have hownr : wr.ownsRow W2.heap.size 30 1 (.slice av2 0 cv2) 0 [] := Hrs2.out.1
        have hszz := Hext2.out.size
        have hm3 : 0 + 1 ≤ maxLen := by unfold maxLen; omega
        have hm4 : (0 + 1) * 24 ≤ 140737488355328 := by omega
        go_wp2_with (at_builtin; refine wpList_append_own _ rfl _ _ 36 rfl W2.heap.size 30 j0 (.slice none 0 0) 1 24 Tryz.underlying36 hjr hy0 hy1 hy2 rfl (by decide) _ _ _ rfl (hownr.alloc _) ⟨wr.heap.size, 0, none⟩ 1 1 [.slice aru rx.length cru] rfl rfl (cell_one_new _ _ _) (by simp [Value.oneCell']) hm3 hm4 (by rw [World.size_alloc]; omega) ?_; intro v7 W7 hown7 hgrow7 _)
        have hfin := rwm_more (rs := []) (r := ⟨rx, .slice aru rx.length cru, hru⟩) Hrs2.out Hor.out hrl2 Hext2.out hown7 hgrow7
        have Hfin := Lib.hid hfin; clear hfin hown7 hgrow7 hownr
        go_wp2
        go_roundw
        case rel => exact ⟨k + 1, _, by go_num, by omega, Hfin.out.1, by rw [Hnil.out]; rfl, by simp, fun r hr => by simp at hr; rw [hr]; exact Hxm.out, Hfin.out.2⟩
        case measure => simp [intOf]; omega
      · obtain ⟨av2, cv2, rfl⟩ := own_shape hrs2.1
        rw [List.concat_eq_append] at *
        have hz := hrs2.2 z (by simp)
        have hzR : z.x ∈ R := by rw [← Hm.out]; exact Hin2.out z (by simp)
        obtain ⟨g2, cap2, e0, hcells2⟩ := own_slice hrs2.1 (by simp)
        injection e0 with e1 e2 e3
        subst e1; subst e3
        clear e2
        have hcz := hcells2 init.length z.u (by simp [rwc])
        have hlast : recStep p (recsOf p ((rs.map Rw.x).take k)) rx = if 0 ≤ cmpP p rx z.x then (init ++ [z]).map Rw.x else (init ++ [z]).map Rw.x ++ [rx] := by
          rw [← Hm2.out]
          unfold recStep
          simp
        have hqq := (Hext2.out).cell hq0
        have hcmp := fun W (hE : Ext wr W) => Hcmp.out W _ _ _ _ ((HE2.out.trans Hext2.out).trans hE) ((hE.ownI Hor.out).sl) ((hE.ownI hz.1).sl) HxR.out hzR
        have hlz : (init ++ [z]).length = init.length + 1 := by simp
        have hl2 : init.length + 1 ≤ 10000 := by rw [hlz] at hk2; omega
        have hNk : init.length + 1 ≤ k := by rw [hlz] at hk2; exact hk2
        generalize hcc : cmpP p rx z.x = cc at *
        have hown2 : wr.ownsRow W2.heap.size 30 1 (.slice (some ⟨g2, 0, none⟩) (init.length + 1) cv2) (init.length + 1) (rwc (init ++ [z])) := by
          have := hrs2.1
          rw [hlz] at this
          exact this
        have Hcmp2 := Lib.hid hcmp; have Hlast := Lib.hid hlast; have Hrs2 := Lib.hid hrs2; have Hown2 := Lib.hid hown2; have Hhz := Lib.hid hz
        clear hcmp hlast hrs2 hz hzR hcells2 hcc hk2 hown2
        rw [hlz]
        clear hlz
        generalize hN2 : init.length + 1 = N2 at *
        have HN2 := Lib.hid hN2
        have hzu : wr.cell? ⟨g2, init.length, none⟩ = some z.u := hcz
        clear hcz
        generalize hzz : z.u = zu at *
        have Hzz := Lib.hid hzz; clear hzz
        have hw1 : IntKind.i64.wrap ((N2 : Int) - 1) = (init.length : Int) := by rw [IntWalk.i64_in _ (by omega)]; omega
        have hi0 : (0 : Int) ≤ (init.length : Int) := by omega
        have hi1 : (init.length : Int) < (N2 : Int) := by omega
        have hi2 : 0 < N2 := by omega
        clear hN2
        go_wp2_with fail
        go_region_held3 (fun w' => Ext wr w' ∧ w'.cell? ⟨w.heap.size, 0, none⟩ = some (.slice ap p.length cp) ∧ w'.cell? ⟨g2, init.length, none⟩ = some zu)
          (first | exact held2 ⟨Ext.refl wr, hqq, hzu⟩ ((Ext.refl wr).drew) | exact held2 (by assumption) hxa)
          (first | (go_at_call 59; refine (Hcmp2.out _ (And.left (by assumption))).mono ?_; rintro e9 V4 ⟨rfl, hxa⟩))
        have hE7 : Ext wr V4 := (Ext.refl wr).drew.trans hxa
        have HE7 := Lib.hid hE7; clear hxa hE7 hw1
        by_cases hcc : 0 ≤ cc
        · have hsame : recsOf p ((rs.map Rw.x).take (k + 1)) = (init ++ [z]).map Rw.x := by rw [Hstep.out, Hlast.out, if_pos hcc]
          have Hsame := Lib.hid hsame; clear hsame
          go_wp2
          go_roundw
          case rel => exact ⟨k + 1, init ++ [z], by go_num, by omega, by
            have h := HE7.out.rwM Hrs2.out
            rwa [show (init ++ [z]).length = N2 by rw [← HN2.out]; simp] at h, Hsame.out.symm, by have := HN2.out; simp; omega, Hin2.out, Hext2.out.trans HE7.out⟩
          case measure => simp [intOf]; omega
        · have hsame : recsOf p ((rs.map Rw.x).take (k + 1)) = (init ++ [z]).map Rw.x ++ [rx] := by rw [Hstep.out, Hlast.out, if_neg hcc]
          have Hsame := Lib.hid hsame; clear hsame
          have hrz := HE7.out.rwM Hrs2.out
          have hownr := HE7.out.own Hown2.out
          have hoz := HE7.out.ownI Hor.out
          have hEz := Hext2.out.trans HE7.out
          have hszz := hEz.size
          have Hrz := Lib.hid hrz; have Hoz := Lib.hid hoz; have HEz := Lib.hid hEz; clear hrz hoz hEz
          have hm3 : N2 + 1 ≤ maxLen := by unfold maxLen; omega
          have hm4 : (N2 + 1) * 24 ≤ 140737488355328 := by omega
          go_wp2_with (at_builtin; refine wpList_append_own _ rfl _ _ 36 rfl W2.heap.size 30 j0 (.slice none 0 0) 1 24 Tryz.underlying36 hjr hy0 hy1 hy2 rfl (by decide) _ _ _ rfl (hownr.alloc _) ⟨V4.heap.size, 0, none⟩ 1 1 [.slice aru rx.length cru] rfl rfl (cell_one_new _ _ _) (by simp [Value.oneCell']) hm3 hm4 (by rw [World.size_alloc]; omega) ?_; intro v7 W7 hown7 hgrow7 _)
          have hfin := rwm_more (rs := init ++ [z]) (r := ⟨rx, .slice aru rx.length cru, hru⟩) Hrz.out Hoz.out hrl2 HEz.out (by rw [show (init ++ [z]).length = N2 by rw [← HN2.out]; simp]; exact hown7) (by rw [show (init ++ [z]).length = N2 by rw [← HN2.out]; simp]; exact hgrow7)
          have Hfin := Lib.hid hfin; clear hfin hown7 hgrow7 hownr
          go_wp2
          go_roundw
          case rel => exact ⟨k + 1, _, by go_num, by omega, Hfin.out.1, by rw [Hsame.out, List.map_append]; rfl, by have := HN2.out; simp; omega, fun r hr => by
            rcases List.mem_append.1 hr with h | h
            · exact Hin2.out r h
            · simp at h; rw [h]; exact Hxm.out, Hfin.out.2⟩
          case measure => simp [intOf]; omega
    · obtain rfl : k = rs.length := by omega
      obtain ⟨av2, cv2, rfl⟩ := own_shape hrs2.1
      have hfin : rs2.map Rw.x = recsOf p R := by
        rw [Hm2.out, List.take_of_length_le (by rw [List.length_map]; exact Nat.le_refl _), Hm.out]
      have Hfin := Lib.hid hfin; have Hrs2 := Lib.hid hrs2; clear hfin hrs2
      go_wp2
      go_ret2
      refine ⟨_, rs2, rfl, ⟨own_mono Hrs2.out.1 HE2.out.size, fun r hr => own_mono (Hrs2.out.2 r hr).1 HE0.out.size⟩, Hfin.out, HE2.out.trans Hext2.out⟩

end Go.Proofs.YtkamjjjimbbdmaaGreatDoor
