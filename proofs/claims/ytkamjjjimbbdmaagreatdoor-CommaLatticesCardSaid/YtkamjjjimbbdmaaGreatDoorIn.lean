/- Walk: comma.In at any form. -/
import Derived.Test.YtkamjjjimbbdmaaGreatDoorInDel
import Derived.Test.YtkamjjjimbbdmaaGreatDoorHermC
namespace Go.Proofs.YtkamjjjimbbdmaaGreatDoor
open Go.RowKit Go.Lib Go.Shelf Go.Sort

/-- The error of a form for so many primes. -/
def formErr (n : Nat) (m : List (List Int)) : Int := if tChk m ≠ 0 then tChk m else if isFm m = false then 7 else if 0 < m.length ∧ (m.getD 0 []).length ≠ n then 5 else 0

set_option maxRecDepth 100000 in
set_option maxHeartbeats 2000000 in
theorem inErr_w (vp vx vm : Value) (p x : List Int) (m : List (List Int)) (lim r : Int) (w : World) (hp : Sl w vp (i64s p)) (hx : Sl w vx (i64s x)) (hm : Mat w vm m) (hrow : ∀ i, (m.getD i []).length ≤ 1000000) (hml : m.length ≤ 1000000)
    (hck : ∀ W, Ext w W → Calls Tryz.prog 33 #[.agg #[vp, .int .i64 lim, vx]] W fun e w' => e = .returned (.int .i64 0) ∧ Ext W w') (hr : formErr p.length m = r) (hr0 : r ≠ 0) :
    Calls Tryz.prog 30 #[.agg #[vp, .int .i64 lim, vx], vm] w fun e w' => e = .returned (.tuple #[.slice none 0 0, .int .i64 r]) ∧ Ext w w' := by
  have htc := fun W (hE : Ext w W) => tcheck_c vm m W (hE.mat hm) hrow hml
  have hif := fun W (hE : Ext w W) => isformE_c vm m W (hE.mat hm) hrow hml
  obtain ⟨vs, hvs, hsl, hrows⟩ := hm
  obtain ⟨am, cm, rfl, _, hlc, hcm⟩ := hsl.parts
  obtain ⟨ap, cp, rfl, _, _, _⟩ := hp.parts
  obtain ⟨ax, cx, rfl, _, _, _⟩ := hx.parts
  rw [i64s_length] at hck ⊢
  rw [i64s_length] at hck ⊢
  rw [hvs] at htc hif ⊢
  have hc0 : 0 < m.length → ∃ b off a0 c0, am = some ⟨b, off, none⟩ ∧ w.cell? ⟨b, off, none⟩ = some (.slice a0 (m.getD 0 []).length c0) := fun h0 => by
    obtain ⟨u, hu⟩ : ∃ u, vs[0]? = some u := ⟨_, List.getElem?_eq_getElem (by omega)⟩
    obtain ⟨b, off, e1, hcu⟩ := hcm 0 u hu
    obtain ⟨a0, c0, rfl, _, _, _⟩ := (hrows 0 u hu).parts
    rw [i64s_length] at hcu
    exact ⟨b, off, a0, c0, e1, hcu⟩
  have Htc := Lib.hid htc; have Hif := Lib.hid hif; have Hck := Lib.hid hck; have Hc0 := Lib.hid hc0
  clear htc hif hck hc0 hsl hrows hcm hvs hlc hp hx hrow
  obtain ⟨hb0, hb1, hb2⟩ := three_new w (.slice ap p.length cp) (.int .i64 lim) (.slice ax x.length cx) 32
  have hE0 : Ext w (w.alloc (.cells #[.slice ap p.length cp, .int .i64 lim, .slice ax x.length cx] 32)) := (Ext.refl w).alloc _
  have hs0 : (w.alloc (.cells #[.slice ap p.length cp, .int .i64 lim, .slice ax x.length cx] 32)).heap.size = w.heap.size + 1 := by rw [World.size_alloc]
  generalize hw0 : w.alloc (.cells #[.slice ap p.length cp, .int .i64 lim, .slice ax x.length cx] 32) = W0 at *
  have hE01 : Ext W0 (W0.alloc (.cells #[.slice am m.length cm] 62)) := (Ext.refl W0).alloc _
  have hbm := box_new W0 (.slice am m.length cm) 62
  have hszz := hs0
  clear hs0 hszz
  generalize hw1 : W0.alloc (.cells #[.slice am m.length cm] 62) = W1 at *
  have hd0 := hE01.cell hb0
  have hd1 := hE01.cell hb1
  have hd2 := hE01.cell hb2
  have HE1 := Lib.hid (hE0.trans hE01); have Hd0 := Lib.hid hd0; have Hbm := Lib.hid hbm
  clear hE0 hE01 hb0 hb1 hb2
  go_enter Tryz.func30, Tryz.ntmps30
  go_wp2_with fail
  refine (Hck.out W1 HE1.out).mono ?_
  rintro e W2 ⟨rfl, hx2⟩
  have hm2 := hx2.cell Hbm.out
  have HE2 := Lib.hid (HE1.out.trans hx2); have Hp2 := Lib.hid (hx2.cell Hd0.out)
  have HT := Lib.hid (Htc.out W2 HE2.out)
  clear hx2 hd0 hd1 hd2 hbm
  unfold formErr at hr
  generalize hmr : (m.getD 0 []).length = mr at *
  clear hmr
  by_cases ht : tChk m = 0
  · rw [if_neg (by simpa using ht)] at hr
    have hiE : isFmE m = isFm m := by unfold isFmE; rw [if_neg (by simpa using ht)]
    rw [ht] at HT
    have Hif2 : ∀ W, Ext w W → Calls Tryz.prog 29 #[.slice am m.length cm] W fun e w' => e = .returned (.tuple #[.bool (isFm m), .int .i64 0]) ∧ Ext W w' := fun W hE => by have := Hif.out W hE; rwa [hiE, ht] at this
    have HI := Lib.hid Hif2
    clear Hif2 hiE ht Htc Hif
    go_wp2_with fail
    refine HT.out.mono ?_
    rintro e W3 ⟨rfl, hx3⟩
    have hm3 := hx3.cell hm2
    have HE3 := Lib.hid (HE2.out.trans hx3); have Hp3 := Lib.hid (hx3.cell Hp2.out); have Hm3 := Lib.hid hm3
    clear hx3 hm2
    go_wp2_with fail
    refine (HI.out W3 HE3.out).mono ?_
    rintro e W4 ⟨rfl, hx4⟩
    have HE4 := Lib.hid (HE3.out.trans hx4); have Hp4 := Lib.hid (hx4.cell Hp3.out); have Hm4 := Lib.hid (hx4.cell Hm3.out)
    clear hx4 hm3
    cases hf : isFm m with
    | false =>
      rw [if_pos hf] at hr
      subst hr
      clear hf
      go_wp2
      go_ret2
      exact ⟨rfl, HE4.out⟩
    | true =>
      rw [if_neg (by rw [hf]; simp)] at hr
      by_cases hl : 0 < m.length ∧ mr ≠ p.length
      · rw [if_pos hl] at hr
        subst hr
        obtain ⟨b, off, a0, c0, rfl, hc⟩ := Hc0.out hl.1
        have hcu := HE4.out.cell hc
        have hm4 := Hm4.out
        have hp4 := Hp4.out
        have hi1 : (0 : Int) < (m.length : Int) := by omega
        have hne : ((mr : Int) != (p.length : Int)) = true := by rw [bne_iff_ne]; omega
        have hd1 : decide (0 < m.length) = true := decide_eq_true hl.1
        clear hf hl hc hr0
        go_wp2
        go_quiet (fail)
        go_wp2
        go_ret2
        exact ⟨rfl, HE4.out.drewN _⟩
      · rw [if_neg hl] at hr
        exact absurd hr.symm hr0
  · rw [if_pos ht] at hr
    rw [hr] at HT
    have hq : (r != 0) = true := by rw [bne_iff_ne]; exact hr0
    clear hr ht Htc Hif hr0
    go_wp2_with fail
    refine HT.out.mono ?_
    rintro e W3 ⟨rfl, hx3⟩
    have HE3 := Lib.hid (HE2.out.trans hx3)
    clear hx3 hm2
    go_wp2
    go_ret2
    exact ⟨rfl, HE3.out⟩

set_option maxRecDepth 100000 in
set_option maxHeartbeats 4000000 in
theorem in_w (vp vx vm : Value) (p x : List Int) (m : List (List Int)) (lim : Int) (w : World) (he : Env w) (hp : Sl w vp (i64s p)) (hx : Sl w vx (i64s x)) (hm : Mat w vm m) (hrow : ∀ i, (m.getD i []).length ≤ 1000000) (hml : m.length ≤ 1000000)
    (hck : ∀ W, Ext w W → Calls Tryz.prog 33 #[.agg #[vp, .int .i64 lim, vx]] W fun e w' => e = .returned (.int .i64 0) ∧ Ext W w') (hr : formErr p.length m = 0)
    (R : List (List Int)) (hR : R.length ≤ 10000) (hRe : ∀ r ∈ R, r.length = p.length ∧ rowChk r = 0) (hpl : p.length ≤ 12)
    (hl : ∀ W, Ext w W → Calls Tryz.prog 14 #[.agg #[vp, .int .i64 lim, vx]] W fun e w' => ∃ v rs, e = .returned (.tuple #[v, .int .i64 0]) ∧ RwL w' W.heap.size v rs ∧ rs.map Rw.x = R ∧ Ext W w') :
    Calls Tryz.prog 30 #[.agg #[vp, .int .i64 lim, vx], vm] w fun e w' => ∃ v rs, e = .returned (.tuple #[v, .int .i64 0]) ∧ RwL w' w.heap.size v rs ∧ rs.map Rw.x = R.filter (inForm m) ∧ Ext w w' := by
  unfold formErr at hr
  have ht : tChk m = 0 := by
    by_cases h : tChk m = 0
    · exact h
    · rw [if_pos h] at hr; exact absurd hr h
  rw [if_neg (by simpa using ht)] at hr
  have hf : isFm m = true := by
    cases h : isFm m with
    | true => rfl
    | false => rw [if_pos h] at hr; cases hr
  rw [if_neg (by rw [hf]; simp)] at hr
  have hsz : ¬ (0 < m.length ∧ (m.getD 0 []).length ≠ p.length) := fun h => by rw [if_pos h] at hr; cases hr
  clear hr
  have hiE : isFmE m = true := by unfold isFmE; rw [if_neg (by simpa using ht)]; exact hf
  have htc := fun W (hE : Ext w W) => tcheck_c vm m W (hE.mat hm) hrow hml
  have hif := fun W (hE : Ext w W) => isformE_c vm m W (hE.mat hm) hrow hml
  rw [ht] at htc
  rw [ht, hiE] at hif
  have hcl := fun (W : World) (b : Nat) (u : Value) (r : List Int) (hE : Ext w W) (hu : Sl W u (i64s r)) (hb : W.cell? ⟨b, 0, none⟩ = some vm) (hr : r ∈ R) =>
    inf_c vm u b m r W (he.ext hE) (hE.mat hm) hu hb ht hf (hRe r hr).2 (by rw [(hRe r hr).1]; exact hpl) (fun h0 => by rw [(hRe r hr).1]; exact (Classical.byContradiction fun g => hsz ⟨h0, fun e => g e.symm⟩))
  obtain ⟨vs, hvs, hsl, hrows⟩ := hm
  obtain ⟨am, cm, rfl, _, hlc, hcm⟩ := hsl.parts
  obtain ⟨ap, cp, rfl, _, _, _⟩ := hp.parts
  obtain ⟨ax, cx, rfl, _, _, _⟩ := hx.parts
  rw [i64s_length] at hck hl ⊢
  rw [i64s_length] at hck hl ⊢
  rw [hvs] at htc hif hcl ⊢
  have hc0 : 0 < m.length → ∃ b off a0 c0, am = some ⟨b, off, none⟩ ∧ w.cell? ⟨b, off, none⟩ = some (.slice a0 p.length c0) := fun h0 => by
    obtain ⟨u, hu⟩ : ∃ u, vs[0]? = some u := ⟨_, List.getElem?_eq_getElem (by omega)⟩
    obtain ⟨b, off, e1, hcu⟩ := hcm 0 u hu
    obtain ⟨a0, c0, rfl, _, _, _⟩ := (hrows 0 u hu).parts
    rw [i64s_length, Classical.byContradiction fun g => hsz ⟨h0, g⟩] at hcu
    exact ⟨b, off, a0, c0, e1, hcu⟩
  have Htc := Lib.hid htc; have Hif := Lib.hid hif; have Hck := Lib.hid hck; have Hc0 := Lib.hid hc0; have Hcl := Lib.hid hcl; have Hl := Lib.hid hl
  clear htc hif hck hc0 hcl hl hsl hrows hcm hvs hlc hp hx hrow hsz ht hf hiE he hRe
  obtain ⟨hb0, hb1, hb2⟩ := three_new w (.slice ap p.length cp) (.int .i64 lim) (.slice ax x.length cx) 32
  have hE0 : Ext w (w.alloc (.cells #[.slice ap p.length cp, .int .i64 lim, .slice ax x.length cx] 32)) := (Ext.refl w).alloc _
  generalize hw0 : w.alloc (.cells #[.slice ap p.length cp, .int .i64 lim, .slice ax x.length cx] 32) = W0 at *
  have hE01 : Ext W0 (W0.alloc (.cells #[.slice am m.length cm] 62)) := (Ext.refl W0).alloc _
  have hbm := box_new W0 (.slice am m.length cm) 62
  generalize hw1 : W0.alloc (.cells #[.slice am m.length cm] 62) = W1 at *
  have hd0 := hE01.cell hb0
  have hd1 := hE01.cell hb1
  have hd2 := hE01.cell hb2
  have HE1 := Lib.hid (hE0.trans hE01); have Hd0 := Lib.hid hd0; have Hd1 := Lib.hid hd1; have Hd2 := Lib.hid hd2; have Hbm := Lib.hid hbm
  clear hE0 hE01 hb0 hb1 hb2
  go_enter Tryz.func30, Tryz.ntmps30
  go_wp2_with fail
  refine (Hck.out W1 HE1.out).mono ?_
  rintro e W2 ⟨rfl, hx2⟩
  have hm2 := hx2.cell Hbm.out
  have HE2 := Lib.hid (HE1.out.trans hx2); have Hx12 := Lib.hid hx2
  clear hx2 hd0 hd1 hd2 hbm
  go_wp2_with fail
  refine (Htc.out W2 HE2.out).mono ?_
  rintro e W3 ⟨rfl, hx3⟩
  have hm3 := hx3.cell hm2
  have HE3 := Lib.hid (HE2.out.trans hx3); have Hx13 := Lib.hid (Hx12.out.trans hx3)
  clear hx3 hm2
  go_wp2_with fail
  refine (Hif.out W3 HE3.out).mono ?_
  rintro e W4 ⟨rfl, hx4⟩
  have HE4 := Lib.hid (HE3.out.trans hx4); have Hx14 := Lib.hid (Hx13.out.trans hx4)
  have hm4 := Hx14.out.cell Hbm.out
  have hq40 := Hx14.out.cell Hd0.out
  clear hx4 hm3
  have hcase : (decide (0 < m.length) = false) ∨ (decide (0 < m.length) = true ∧ (0 : Int) < (m.length : Int) ∧ ∃ b off a0 c0, am = some ⟨b, off, none⟩ ∧ w.cell? ⟨b, off, none⟩ = some (.slice a0 p.length c0)) := by
    rcases Nat.eq_zero_or_pos m.length with h0 | h0
    · exact .inl (decide_eq_false (by omega))
    · exact .inr ⟨decide_eq_true h0, by omega, Hc0.out h0⟩
  have hne : ((p.length : Int) != (p.length : Int)) = false := by rw [bne_eq_false_iff_eq]
  rcases hcase with hd | ⟨hd, hi1, b, off, a0, c0, rfl, hcw⟩
  all_goals
    try have hcu := HE4.out.cell hcw
    try clear hcw
    go_wp2
    go_quiet (fail)
    have hx5 := Hx14.out.drewN nq
    have hE5 := HE4.out.drewN nq
    generalize W4.drewN nq = W5 at *
    have hq0 := hx5.cell Hd0.out
    have hq1 := hx5.cell Hd1.out
    have hq2 := hx5.cell Hd2.out
    have hmb := hx5.cell Hbm.out
    have HE5 := Lib.hid hE5; have Hmb := Lib.hid hmb
    clear hE5 hx5 hmb
    go_wp2_with fail
    refine (Hl.out W5 HE5.out).mono ?_
    rintro e W6 ⟨v6, rs, rfl, hrs, hm6, hx6⟩
    have hrl : rs.length ≤ 10000 := by rw [← hm6, List.length_map] at hR; exact hR
    have hE6 := HE5.out.trans hx6
    obtain ⟨a6, c6, rfl⟩ := own_shape hrs.1
    rcases Nat.eq_zero_or_pos rs.length with hz | hz
    · have hrs0 : rs = [] := List.eq_nil_of_length_eq_zero hz
      subst hrs0
      have hR0 : R = [] := by rw [← hm6]; rfl
      have Hrs := Lib.hid hrs; have HE6 := Lib.hid hE6; have HR0 := Lib.hid hR0
      clear hrs hE6 hR0 hm6 hx6 hz hq0 hq1 hq2
      have hd := fun f => delete0_c a6 c6 f W6
      have Hd := Lib.hid hd; clear hd
      go_wp2_with fail
      refine (Hd.out _).mono ?_
      rintro e W7 ⟨rfl, hx7⟩
      have Hx7 := Lib.hid hx7; clear hx7
      go_wp2
      go_ret2
      refine ⟨_, [], rfl, ⟨?_, fun r h => by cases h⟩, by rw [HR0.out]; rfl, HE6.out.trans Hx7.out⟩
      exact own_mono (Hx7.out.rwL Hrs.out).1 HE5.out.size
    · obtain ⟨g, cg, eg, _⟩ := own_slice hrs.1 hz
      injection eg with eg1 eg3 eg2
      subst eg1; subst eg2
      clear eg3
      have hgB := own_blk hrs.1
      have hd := deleteIn_c (del := fun x => !inForm m x) W0.heap.size hrs (by omega) (fun W' hg r hr => by
        have hgk : Ext w W' := hE6.grown hg fun k hk => by cases hk; exact Nat.le_trans HE5.out.size hgB
        have hor : OwnI W' W5.heap.size r.u r.x := World.ownsRow.kept (hrs.2 r hr) hg (own_ne (hrs.2 r hr) hrs.1 (by decide))
        have h2 : Ext W5 W' := hx6.grown hg fun k hk => by cases hk; exact hgB
        exact Hcl.out W' W0.heap.size r.u r.x hgk hor.sl (h2.cell Hmb.out) (by rw [← hm6]; exact List.mem_map_of_mem hr))
      have hgE : ∀ W', W6.grownBy W' (some g) → Ext w W' := fun W' hg => hE6.grown hg fun k hk => by cases hk; exact Nat.le_trans HE5.out.size hgB
      have Hd := Lib.hid hd; have HgE := Lib.hid hgE; have Hm6 := Lib.hid hm6; have Hrs := Lib.hid hrs
      clear hd hgE hm6 hrs hE6 hx6 hq0 hq1 hq2
      go_wp2_with fail
      refine Hd.out.mono ?_
      rintro e W7 ⟨v, rfl, hrw, hg⟩
      rw [show (rs.filter fun r => !(fun x => !inForm m x) r.x) = rs.filter fun r => inForm m r.x by simp] at hrw
      obtain ⟨a3, c3, rfl⟩ := own_shape hrw.1
      have Hrw := Lib.hid hrw; have Hg := Lib.hid hg; clear hrw hg
      go_wp2
      go_ret2
      refine ⟨_, _, rfl, ⟨own_mono Hrw.out.1 HE5.out.size, fun r hr => own_mono (Hrw.out.2 r hr) HE5.out.size⟩, ?_, HgE.out W7 Hg.out⟩
      rw [← Hm6.out, List.filter_map]
      rfl

end Go.Proofs.YtkamjjjimbbdmaaGreatDoor
