/- Walks: scale.mode, scale.Mode. Plain: which lists of indices a subset takes, and what it is. -/
import Derived.Test.YtaakmdjicocjpaaGreatDoorPbH
import Derived.Test.YtaakmdjicocjpaaGreatDoorPaX
import Derived.Test.YtaakmdjicocjpaaGreatDoorPaT
import Derived.Test.YtaakmdjicocjpaaGreatDoorPaW
import Derived.Test.YtaakmdjicocjpaaGreatDoorShelfF
namespace Go.Proofs.YtaakmdjicocjpaaGreatDoor
open Go.RowKit Go.Lib Go.Shelf

attribute [local go_sem] Oper.semAt_some

set_option maxRecDepth 100000 in
set_option maxHeartbeats 800000 in
theorem mode_c (v : Value) (p : List Int) (rs : List Qw) (m : Int) (w : World) (he : Env w) (hv : ScV w v p rs) (h : Wd p (rs.map Qw.x)) (hm0 : -500 ≤ m) (hm1 : m ≤ 500) :
    Calls Tryz.prog 78 #[v, .int .i64 m] w fun e w' => ∃ v out, e = .returned (.tuple #[v, .int .i64 0]) ∧ ScO w' w.heap.size v p out ∧ out.map Qw.x = md p (rs.map Qw.x) m ∧ Ext w w' := by
  obtain ⟨j0, hj, hy0, hy1, hy2⟩ := info_parts info_size
  have hpe : primesErr p = 0 ∧ p.length ≤ 100 ∧ 0 < p.length := by rcases h.pr with ⟨e, _⟩ | ⟨e, _⟩ <;> rw [e] <;> decide
  have hnt := fun (k : Int) (h0 : -1000 ≤ k) (h1 : k ≤ 1000) W (hE : Ext w W) => nt_c v p rs k W (he.ext hE) (hv.ext hE) h h0 h1
  have hfew := h.few
  have hL : (rs.map Qw.x).length = rs.length := List.length_map ..
  rw [hL] at hfew
  obtain ⟨vp, vn, rfl, hp, hs, hmr⟩ := hv
  have hsb := fun (k : Int) (h0 : -1000 ≤ k) (h1 : k ≤ 1000) W va vb (hE : Ext w W) (ha : Rd W va (nt p (rs.map Qw.x) k)) (hb : Rd W vb (nt p (rs.map Qw.x) m)) => sSub_c vp va vb p _ _ W (he.ext hE) (hE.sl hp) ha hb hpe.1 (h.ntlen k) (h.ntlen m) (h.nt_quick k h0 h1).1 (h.nt_quick m (by omega) (by omega)).1 (h.nt_sub_quick k m h0 h1 (by omega) (by omega)).1
  have hcp := fun W (hE : Ext w W) => cloneP_c vp p W (hE.sl hp) (by omega) (by intro e; rw [e] at hpe; exact absurd hpe.2.2 (by simp))
  have hmd : ∀ i, i < rs.length → (md p (rs.map Qw.x) m).take (i + 1) = (md p (rs.map Qw.x) m).take i ++ [subZ (nt p (rs.map Qw.x) (m + (i : Int) + 1)) (nt p (rs.map Qw.x) m)] := fun i hi => by
    have := md_at (p := p) (N := rs.map Qw.x) (m := m) (i := i) (by rw [hL]; exact hi)
    obtain ⟨hl, e⟩ := List.getElem?_eq_some_iff.1 this
    rw [List.take_succ_eq_append_getElem hl, e]
  have hmf : (md p (rs.map Qw.x) m).take rs.length = md p (rs.map Qw.x) m := List.take_of_length_le (by rw [md_len, hL]; exact Nat.le_refl _)
  obtain ⟨ap, cp, rfl, _, _, _⟩ := hp.parts
  obtain ⟨an, cn, rfl, _, _, _⟩ := hs.parts
  rw [i64s_length] at *
  rw [qwc_length] at *
  generalize hn : rs.length = n at *
  have hE0 : Ext w ((w.alloc (.cells #[.slice ap p.length cp, .slice an n cn] 32)).alloc (.cells #[.slice none 0 0, .slice none 0 0] 32)) := ((Ext.refl w).alloc _).alloc _
  have b1 := (BoxT.new 32 w (.slice ap p.length cp) (.slice an n cn)).ext ((Ext.refl _).alloc (.cells #[.slice none 0 0, .slice none 0 0] 32))
  have b2 := BoxT.new 32 (w.alloc (.cells #[.slice ap p.length cp, .slice an n cn] 32)) (.slice none 0 0) (.slice none 0 0)
  rw [World.size_alloc] at b2
  have Hnt := Lib.hid hnt; have Hsb := Lib.hid hsb; have Hcp := Lib.hid hcp; have Hmd := Lib.hid hmd; have Hmf := Lib.hid hmf; have HE0 := Lib.hid hE0; have B1 := Lib.hid b1; have B2 := Lib.hid b2; have Hn := Lib.hid hn
  clear hp hs hmr he h hpe hnt hsb hcp hmd hmf hE0 b1 b2 hL hn
  go_enter Tryz.func78, Tryz.ntmps78
  have q0 := B1.out.c0
  have q1 := B1.out.c1
  go_wp2_with fail
  refine (Hnt.out m (by omega) (by omega) _ HE0.out).mono ?_
  rintro e w1 ⟨g1, rfl, ho1, hx1⟩
  have q0 := (B1.out.ext hx1).c0
  have q1 := (B1.out.ext hx1).c1
  have Ho1 := Lib.hid ho1.rd; have Hx1 := Lib.hid hx1
  clear ho1 hx1
  go_wp2_with fail
  refine (Hcp.out w1 (HE0.out.trans Hx1.out)).mono ?_
  rintro e w6 ⟨u6, rfl, ho6, hx6⟩
  obtain ⟨a6, c6, rfl⟩ := own_shape ho6
  have Hx6 := Lib.hid (Hx1.out.trans hx6)
  have Ho6 := Lib.hid (own_mono ho6 (HE0.out.trans Hx1.out).size)
  have Ho16 := Lib.hid (hx6.rd Ho1.out)
  clear ho6 hx6 q0 q1
  have Hb7 := Lib.hid (BoxT.new 32 w6 (.slice a6 p.length c6) (.slice none 0 0))
  have H6x : Hid (Ext w6 (w6.alloc (.cells #[.slice a6 p.length c6, .slice none 0 0] 32))) := Lib.hid ((Ext.refl w6).alloc _)
  go_wp2_with fail
  go_loopw [9, 10, 11] (fun v9 v10 v11 wr => ∃ i : Nat, v9 = .int .i64 ((i : Int) + 1) ∧ i ≤ n ∧ NtR w6.heap.size w6 w6.heap.size (.slice a6 p.length c6) ((md p (rs.map Qw.x) m).take i) wr) (fun v9 _ _ _ => n + 1 - (intOf v9).toNat)
  case atStart => exact ⟨0, rfl, Nat.zero_le _, .slice none 0 0, [], Hb7.out, QwM.nil _ _ _, rfl, H6x.out⟩
  case round =>
    obtain ⟨i, rfl, hi, ⟨vn, nts, hbn, hqn, hmn, hEn⟩⟩ := hrel
    have hE6 := Hx6.out.trans hEn
    have hEw := HE0.out.trans hE6
    have q0 := (B1.out.ext hE6).c0
    have q1 := (B1.out.ext hE6).c1
    by_cases hin : i < n
    · have hik : (i : Int) + 1 ≤ (n : Int) := by omega
      have hnk := Hnt.out (m + ((i : Int) + 1)) (by omega) (by omega) wr hEw
      have hw1 : IntKind.i64.wrap (m + ((i : Int) + 1)) = m + ((i : Int) + 1) := by rw [IntKind.wrap_i64]; omega
      have Hbn := Lib.hid hbn; have Hqn := Lib.hid hqn; have Hmn := Lib.hid hmn; have HEn := Lib.hid hEn; have HE6 := Lib.hid hE6; have HEw := Lib.hid hEw; have Hnk := Lib.hid hnk
      clear hbn hqn hmn hEn hE6 hEw hnk
      go_wp2_with fail
      refine Hnk.out.mono ?_
      rintro e w8 ⟨g8, rfl, ho8, hx8⟩
      have q0 := hx8.cell q0
      have q1 := hx8.cell q1
      have hsk := Hsb.out (m + ((i : Int) + 1)) (by omega) (by omega) w8 _ _ (HEw.out.trans hx8) ho8.rd ((HEn.out.trans hx8).rd Ho16.out)
      have Hsk := Lib.hid hsk; have Hx8 := Lib.hid hx8
      clear hsk hx8 ho8
      go_wp2_with fail
      refine Hsk.out.mono ?_
      rintro e w9 ⟨g9, rfl, ho9, hx9⟩
      have hx89 := Hx8.out.trans hx9
      obtain ⟨avn, cvn, rfl⟩ := own_shape Hqn.out.1
      have hnl : nts.length = i := by
        have := congrArg List.length Hmn.out
        rw [List.length_map, List.length_take, md_len, List.length_map, Hn.out] at this
        omega
      have hbk := Hbn.out.ext hx89
      rw [hnl] at hbk
      have hqk := hx89.qwM Hqn.out
      rw [hnl] at hqk
      have hqo := hx89.own Hqn.out.1
      rw [hnl] at hqo
      have hEk := HEn.out.trans hx89
      have hbase := hEk.size
      have hok := ho9.mono (HEn.out.trans Hx8.out).size
      have hm3 : i + 1 ≤ maxLen := by unfold maxLen; omega
      have hm4 : (i + 1) * 24 ≤ 140737488355328 := by omega
      have r1 := hbk.c1
      have Hbk := Lib.hid hbk; have Hqk := Lib.hid hqk; have Hnl := Lib.hid hnl; have HEk := Lib.hid hEk; have Hok := Lib.hid hok
      clear hbk hqk hnl hEk hok hx89 ho9 hx9 q0 q1
      go_wp2_with (at_builtin; refine wpList_append_own _ rfl _ _ 30 rfl w6.heap.size 41 j0 (.slice none 0 0) 1 24 Tryz.underlying30 hj hy0 hy1 hy2 rfl (by decide) _ _ _ rfl (hqo.alloc _) ⟨w9.heap.size, 0, none⟩ 1 1 [.slice (some ⟨g9, 0, none⟩) p.length p.length] rfl rfl (cell_one_new _ _ _) (by simp [Value.oneCell']) hm3 hm4 (by rw [World.size_alloc]; omega) ?_; intro v7 V7 hown7 hgrow7 _; have hbV : BoxT 32 V7 w6.heap.size (.slice a6 p.length c6) (.slice avn i cvn) := kept_box (((Ext.refl w9).alloc _).heap Hbk.out) (hqo.alloc (.cells #[.slice (some ⟨g9, 0, none⟩) p.length p.length] 41)) (by decide) hgrow7; have d1 := hbV.c1; have e1 := hbV.fz 1; obtain ⟨a7, c7, rfl⟩ := own_shape hown7)
      have hR := NtR.more (W6 := w6) (W := w9) (v7 := .slice a7 (i + 1) c7) (Nat.le_refl _) Hbk.out Hqk.out Hmn.out HEk.out Hok.out (by rw [Hnl.out]; exact hown7) hgrow7
      rw [show m + ((i : Int) + 1) = m + (i : Int) + 1 by omega, ← Hmd.out i hin] at hR
      have HR := Lib.hid hR
      clear hR d1 e1 r1 hgrow7 hown7 hbV
      generalize V7.setCell ⟨w6.heap.size, 1, none⟩ (.slice a7 (i + 1) c7) = V2 at *
      go_roundw
      case rel => exact ⟨i + 1, by go_num, by omega, HR.out⟩
      case measure => simp [intOf]; omega
    · obtain rfl : n = i := by omega
      have hik : ¬ (n : Int) + 1 ≤ (n : Int) := by omega
      have hmn2 := hmn.trans Hmf.out
      obtain ⟨avn, cvn, rfl⟩ := own_shape hqn.1
      have r0 := hbn.c0
      have r1 := hbn.c1
      have hbr := B2.out.ext hE6
      have hK : K0 32 w wr (w.heap.size + 1) := ⟨hEw, _, _, hbr⟩
      have k0 := hK.res.c0; have k1 := hK.res.c1; have z0 := hK.res.fz 0; have z1 := hK.res.fz 1
      have hfin := hK.fin (by omega) (.slice a6 p.length c6) (.slice avn nts.length cvn)
      have hq4 := (hqn.set hbr 0 (.slice a6 p.length c6)).set (BoxT.put0 hbr (.slice a6 p.length c6)) 1 (.slice avn nts.length cvn)
      have ho4 := own_set_apart (BoxT.put0 hbr (.slice a6 p.length c6)) (own_set_apart hbr (hEn.own Ho6.out) (by decide) 0 (.slice a6 p.length c6)) (by decide) 1 (.slice avn nts.length cvn)
      have hlo := (HE0.out.trans Hx6.out).size
      have Hfin := Lib.hid hfin; have Hq4 := Lib.hid hq4; have Ho4 := Lib.hid ho4; have Hmn2 := Lib.hid hmn2
      clear hfin hq4 ho4 hmn2 hK hbr hqn hbn hmn hEn hE6 hEw
      go_wp2_with fail
      obtain ⟨hb5, hx5⟩ := Hfin.out
      have hd0 := hb5.c0
      have hd1 := hb5.c1
      exact bodyPost_ret (v := .tuple #[.agg #[.slice a6 p.length c6, .slice avn nts.length cvn], .int .i64 0]) (by simp [results, Tryz.results78, go_sem, hd0, hd1]) rfl ⟨_, rfl, nts, ⟨_, _, rfl, Ho4.out, Hq4.out.mono hlo hlo⟩, Hmn2.out, hx5⟩
end Go.Proofs.YtaakmdjicocjpaaGreatDoor

namespace Go.Proofs.YtaakmdjicocjpaaGreatDoor
open Go.RowKit Go.Lib

/-- What an index of the list says. -/
def stepE (n : Nat) (l : List Int) (k : Nat) : Int :=
  if (l[k]?).getD 0 < 0 ∨ (n : Int) ≤ (l[k]?).getD 0 then 3 else if 0 < k ∧ (l[k]?).getD 0 ≤ (l[k - 1]?).getD 0 then 6 else 0
/-- The first error from an index on. -/
def subFrom (n : Nat) (l : List Int) (k : Nat) : Nat → Int
  | 0 => 0
  | m + 1 => if stepE n l k = 0 then subFrom n l (k + 1) m else stepE n l k
def subE (n : Nat) (l : List Int) : Int := if l = [] then 13 else subFrom n l 0 l.length
theorem sub_go {n : Nat} {l : List Int} {k : Nat} (hk : k < l.length) (h : stepE n l k = 0) : subFrom n l k (l.length - k) = subFrom n l (k + 1) (l.length - (k + 1)) := by
  rw [show l.length - k = (l.length - (k + 1)) + 1 by omega, subFrom, if_pos h]
theorem sub_stop {n : Nat} {l : List Int} {k : Nat} (hk : k < l.length) (h : stepE n l k ≠ 0) : subFrom n l k (l.length - k) = stepE n l k := by
  rw [show l.length - k = (l.length - (k + 1)) + 1 by omega, subFrom, if_neg h]
theorem sub_all {n : Nat} {l : List Int} : ∀ (m k : Nat), subFrom n l k m = 0 → ∀ i, k ≤ i → i < k + m → stepE n l i = 0
  | 0, k, _, i, h1, h2 => by omega
  | m + 1, k, h, i, h1, h2 => by
    rw [subFrom] at h
    by_cases e : stepE n l k = 0
    · rw [if_pos e] at h
      by_cases hi : i = k
      · rw [hi]; exact e
      · exact sub_all m (k + 1) h i (by omega) (by omega)
    · rw [if_neg e] at h
      exact absurd h e
theorem step_ok {n : Nat} {l : List Int} {k : Nat} (h : stepE n l k = 0) : (0 ≤ (l[k]?).getD 0 ∧ (l[k]?).getD 0 < (n : Int)) ∧ (0 < k → (l[k - 1]?).getD 0 < (l[k]?).getD 0) := by
  unfold stepE at h
  split at h
  · cases h
  · split at h
    · cases h
    · rename_i h1 h2
      exact ⟨by omega, fun hk => by omega⟩
theorem sub_ok {n : Nat} {l : List Int} (h : subFrom n l 0 l.length = 0) : (∀ x ∈ l, 0 ≤ x ∧ x < (n : Int)) ∧ l.Pairwise (· < ·) := by
  have ha := fun i (hi : i < l.length) => step_ok (sub_all l.length 0 h i (Nat.zero_le _) (by omega))
  refine ⟨fun x hx => ?_, ?_⟩
  · obtain ⟨i, hi, rfl⟩ := List.mem_iff_getElem.1 hx
    have := (ha i hi).1
    rw [List.getElem?_eq_getElem hi] at this
    exact this
  · rw [List.pairwise_iff_getElem]
    have key : ∀ d i (hi : i + d + 1 < l.length), l[i]'(by omega) < l[i + d + 1] := by
      intro d
      induction d with
      | zero =>
        intro i hi
        have := (ha (i + 1) hi).2 (by omega)
        rw [Nat.add_sub_cancel, List.getElem?_eq_getElem hi, List.getElem?_eq_getElem (by omega)] at this
        exact this
      | succ d ih =>
        intro i hi
        have h1 := ih i (by omega)
        have := (ha (i + d + 1 + 1) hi).2 (by omega)
        rw [Nat.add_sub_cancel, List.getElem?_eq_getElem (show i + d + 1 + 1 < l.length by omega), List.getElem?_eq_getElem (show i + d + 1 < l.length by omega)] at this
        exact Int.lt_trans h1 this
    intro i j hi hj hij
    obtain ⟨d, rfl⟩ : ∃ d, j = i + d + 1 := ⟨j - i - 1, by omega⟩
    exact key d i hj
/-- The indices of a subset's notes. -/
def subK (n : Nat) (l : List Int) : List Int := l.tail ++ [l.headD 0 + (n : Int)]
/-- The subset. -/
def subN (p : List Int) (N : List (List Rat)) (l : List Int) : List (List Rat) := (subK N.length l).map fun k => subZ (nt p N k) (nt p N (l.headD 0))
theorem subK_len (n : Nat) {l : List Int} (h : l ≠ []) : (subK n l).length = l.length := by
  cases l with
  | nil => exact absurd rfl h
  | cons a l => simp [subK]
theorem subK_up {n : Nat} {l : List Int} (h : l ≠ []) (hb : ∀ x ∈ l, 0 ≤ x ∧ x < (n : Int)) (hu : l.Pairwise (· < ·)) : (l.headD 0 :: subK n l).Pairwise (· < ·) := by
  cases l with
  | nil => exact absurd rfl h
  | cons a l =>
    unfold subK
    simp only [List.headD_cons, List.tail_cons]
    rw [List.pairwise_cons] at hu
    rw [List.pairwise_cons, List.pairwise_append]
    have ha := hb a (List.mem_cons_self ..)
    refine ⟨fun x hx => ?_, hu.2, List.pairwise_singleton _ _, fun x hx y hy => ?_⟩
    · rcases List.mem_append.1 hx with e | e
      · exact hu.1 x e
      · rw [List.mem_singleton] at e; omega
    · rw [List.mem_singleton] at hy
      have := hb x (List.mem_cons_of_mem _ hx)
      omega
theorem sub_wd {p : List Int} {N : List (List Rat)} (h : Wd p N) {l : List Int} (hl : l ≠ []) (hl10 : l.length ≤ 10) (hb : ∀ x ∈ l, 0 ≤ x ∧ x < (N.length : Int)) (hu : l.Pairwise (· < ·)) : Wd p (subN p N l) :=
  h.pick (l.headD 0) (subK N.length l) (by rw [subK_len _ hl]; exact hl10) (subK_up hl hb hu) (by
    unfold subK
    rw [List.length_append, List.length_singleton, Nat.add_sub_cancel, List.getElem?_append_right (Nat.le_refl _), Nat.sub_self]
    rfl)

/-- slices.Clone at ints, an empty slice too. -/
theorem cloneI_c (b off c : Nat) (l : List Int) (w : World) (hl : l.length ≤ 1000000) (hc : ∀ j z, l[j]? = some z → w.cell? ⟨b, off + j, none⟩ = some (.int .i64 z)) :
    Calls Tryz.prog 44 #[.slice (some ⟨b, off, none⟩) l.length c] w fun e w' => ∃ u, e = .returned u ∧ OwnI w' w.heap.size u l ∧ u ≠ .slice none 0 0 ∧ Ext w w' := by
  obtain ⟨i0, hi, hz0, hz1, hz2⟩ := info_parts info_int
  have hcell : ∀ j u, (i64s l)[j]? = some u → w.cell? ⟨b, off + j, none⟩ = some u := fun j u hu => by
    unfold i64s at hu
    rw [List.getElem?_map] at hu
    cases hz : l[j]? with
    | none => rw [hz] at hu; cases hu
    | some z => rw [hz] at hu; cases hu; exact hc j z hz
  refine (AnyE.slices_Clone Tryz.lCloneI i0 (.int .i64 0) 1 8 hi hz0 hz1 hz2 rfl (by decide) Tryz.sizeOf3 b off l.length c (i64s l) w (by rw [i64s_length]; omega) (by unfold maxLen; omega) (by omega) hcell (by simp [i64s, Value.oneCell'])).mono fun e w' ⟨v', he, ho, hn, hb⟩ => ⟨v', he, ho, hn, hb⟩
end Go.Proofs.YtaakmdjicocjpaaGreatDoor
