/- slices.IndexFunc and slices.DeleteFunc at rows, with comma.In's closure (turned from XDelete by a program). -/
import Derived.Test.YtkamjjjimbbdmaaGreatDoorSuperW
namespace Go.Proofs.YtkamjjjimbbdmaaGreatDoor
open Go.RowKit Go.Lib Go.Shelf Go.Sort

set_option maxRecDepth 100000 in
set_option maxHeartbeats 1000000 in
theorem indexIn_c {W : World} {g cap : Nat} {rs : List Rw} {del : List Int → Bool} (b : Nat) (hl : rs.length ≤ 1000000) (hcell : ∀ (j : Nat) (r : Rw), rs[j]? = some r → W.cell? ⟨g, j, none⟩ = some r.u)
    (hdel : ∀ W', Ext W W' → ∀ r ∈ rs, Calls Tryz.prog 66 #[r.u, .pointer (some ⟨b, 0, none⟩)] W' fun e w' => e = .returned (.bool (del r.x)) ∧ Ext W' w') :
    Calls Tryz.prog 93 #[.slice (some ⟨g, 0, none⟩) rs.length cap, .func (.func 66) #[] #[.pointer (some ⟨b, 0, none⟩)]] W fun e w' => ∃ i : Int, e = .returned (.int .i64 i) ∧ ((i = -1 ∧ ∀ r ∈ rs, del r.x = false) ∨ ∃ k : Nat, i = k ∧ k < rs.length ∧ (∀ r ∈ rs.take k, del r.x = false) ∧ ∃ r, rs[k]? = some r ∧ del r.x = true) ∧ Ext W w' := by
  have Hcell := Lib.hid hcell; have Hdel := Lib.hid hdel; clear hcell hdel
  go_enter Tryz.func93, Tryz.ntmps93
  go_wp2_with fail
  go_loopw [8] (fun i wr => ∃ k : Nat, i = .int .i64 (k : Int) ∧ k ≤ rs.length ∧ (∀ r ∈ rs.take k, del r.x = false) ∧ Ext W wr) (fun i _ => rs.length - (intOf i).toNat)
  case atStart => exact ⟨0, rfl, Nat.zero_le _, fun r h => by simp at h, Ext.refl _⟩
  case round =>
    obtain ⟨k, rfl, hk, hall, hext⟩ := hrel
    have Hall := Lib.hid hall; have Hext := Lib.hid hext; clear hall hext
    by_cases hlt : k < rs.length
    · obtain ⟨r, hr⟩ : ∃ r, rs[k]? = some r := ⟨_, List.getElem?_eq_getElem hlt⟩
      have hc := Hext.out.cell (Hcell.out k r hr)
      have hd := Hdel.out wr Hext.out r (List.mem_of_getElem? hr)
      have Hr := Lib.hid hr; clear hr
      generalize hu : r.u = u at *
      generalize hdx : del r.x = dx at *
      have Hd := Lib.hid hd; have Hdx := Lib.hid hdx; clear hd hu hdx
      have hk0 : (0 : Int) ≤ (k : Int) := by omega
      have hk1 : (k : Int) < (rs.length : Int) := by omega
      go_wp2_with fail
      refine Hd.out.mono ?_
      rintro e W2 ⟨rfl, hx2⟩
      have HE2 := Lib.hid (Hext.out.trans hx2); clear hx2
      cases dx with
      | true =>
        go_wp2
        go_ret
        exact ⟨_, rfl, .inr ⟨k, rfl, hlt, Hall.out, r, Hr.out, Hdx.out⟩, HE2.out⟩
      | false =>
        go_wp2_with fail
        go_roundw
        case rel => exact ⟨k + 1, by go_num, hlt, fun s hs => by
          obtain ⟨hl2, e⟩ := List.getElem?_eq_some_iff.1 Hr.out
          rw [List.take_succ_eq_append_getElem hl2] at hs
          rcases List.mem_append.1 hs with h | h
          · exact Hall.out s h
          · rw [List.mem_singleton] at h; rw [h, e]; exact Hdx.out, HE2.out⟩
        case measure => simp [intOf]; omega
    · have hkk : ¬ (k : Int) < (rs.length : Int) := by omega
      have hkl : k = rs.length := by omega
      have Hkl := Lib.hid hkl; clear hkl
      go_wp2
      go_ret
      exact ⟨-1, rfl, .inl ⟨rfl, fun r hr => Hall.out r (by rw [Hkl.out, List.take_length]; exact hr)⟩, Hext.out⟩

set_option maxRecDepth 100000 in
set_option maxHeartbeats 2000000 in
theorem deleteIn_c {W : World} {B g cap : Nat} {rs : List Rw} {del : List Int → Bool} (b : Nat) (hs : RwL W B (.slice (some ⟨g, 0, none⟩) rs.length cap) rs) (hl : rs.length ≤ 1000000)
    (hdel : ∀ W', W.grownBy W' (some g) → ∀ r ∈ rs, Calls Tryz.prog 66 #[r.u, .pointer (some ⟨b, 0, none⟩)] W' fun e w' => e = .returned (.bool (del r.x)) ∧ Ext W' w') :
    Calls Tryz.prog 60 #[.slice (some ⟨g, 0, none⟩) rs.length cap, .func (.func 66) #[] #[.pointer (some ⟨b, 0, none⟩)]] W fun e w' => ∃ v, e = .returned v ∧ RwL w' B v (rs.filter fun r => !del r.x) ∧ W.grownBy w' (some g) := by
  have hcell : ∀ (j : Nat) (r : Rw), rs[j]? = some r → W.cell? ⟨g, j, none⟩ = some r.u := fun j r h => own_cellAt hs.1 (by simp [rwc, h])
  have hix := indexIn_c (cap := cap) b hl hcell (fun W' hE => hdel W' (only_ext (only_refl W _) hE))
  have hcap : rs.length ≤ cap := (own_cap hs.1).1
  have hcap2 : cap ≤ maxLen := by
    rcases hs.1.2 with ⟨e0, _⟩ | ⟨g', cap', cur, e0, _, _, _, hm, _⟩
    · cases e0
    · injection e0 with _ _ e3; omega
  unfold maxLen at hcap2
  have Hs := Lib.hid hs; have Hix := Lib.hid hix; have Hdel := Lib.hid hdel
  clear hs hix hdel hcell
  go_enter Tryz.func60, Tryz.ntmps60
  go_wp2_with fail
  refine Hix.out.mono ?_
  rintro e W1 ⟨i, rfl, hi, hx1⟩
  rcases hi with ⟨rfl, hall⟩ | ⟨k, rfl, hk, hall, r0, hr0, hd0⟩
  · have hfl : (rs.filter fun r => !del r.x) = rs := List.filter_eq_self.2 fun r hr => by rw [hall r hr]; rfl
    have Hfl := Lib.hid hfl; have Hx1 := Lib.hid hx1; clear hfl hall hx1
    go_wp2
    go_ret
    exact ⟨_, rfl, by rw [Hfl.out]; exact Hx1.out.rwL Hs.out, only_ext (only_refl W _) Hx1.out⟩
  · have hk1 : keptTo del rs (k + 1) = rs.take k := by rw [keptTo_step hr0, hd0, if_pos rfl, List.append_nil]; exact keptTo_all hall
    have hown : W1.ownsRow B 30 1 (.slice (some ⟨g, 0, none⟩) rs.length cap) rs.length (rwc (keptTo del rs (k + 1) ++ rs.drop k)) := by
      rw [hk1, List.take_append_drop]; exact hx1.own Hs.out.1
    have hlk : (keptTo del rs (k + 1)).length = k := by rw [hk1, List.length_take]; omega
    have hgr := only_ext (only_refl W (some g)) hx1
    have Hown := Lib.hid hown; have Hlk := Lib.hid hlk; have Hgr := Lib.hid hgr
    clear hall hr0 hd0 hk1 hown hlk hgr hx1
    have hkm : ((k : Int) == -1) = false := beq_eq_false_iff_ne.2 (by omega)
    go_wp2_with fail
    go_loopw [5, 6] (fun v5 v6 wr => DlRel W B g cap rs del v5 v6 wr) (fun _ v6 _ => rs.length - (intOf v6).toNat)
    case atStart => exact ⟨k + 1, k, rfl, by simp, hk, Hlk.out, Nat.le_refl _, Hown.out, Hgr.out⟩
    case round =>
      obtain ⟨m, c, rfl, rfl, hm, hC, hc, ho, hg⟩ := hrel
      by_cases hlt : m < rs.length
      · obtain ⟨r, hr⟩ : ∃ r, rs[m]? = some r := ⟨_, List.getElem?_eq_getElem hlt⟩
        obtain ⟨t, ht⟩ : ∃ r, rs[c]? = some r := ⟨_, List.getElem?_eq_getElem (by omega)⟩
        have hmid := fun {m' : Nat} {r : Rw} (h : rs[m']? = some r) (hm' : c ≤ m') => own_cellAt ho (by have := mid_at (C := keptTo del rs m) h (by rw [hC]; exact hm'); rw [hC] at this; exact this)
        have hcm : wr.cell? ⟨g, m, none⟩ = some r.u := hmid hr (by omega)
        have hck : wr.cell? ⟨g, c, none⟩ = some t.u := hmid ht (Nat.le_refl _)
        have hrm := List.mem_of_getElem? hr
        have hor := World.ownsRow.kept (Hs.out.2 r hrm) hg (own_ne (Hs.out.2 r hrm) Hs.out.1 (by decide))
        have hd := Hdel.out wr hg r hrm
        have hskip := fun (e : del r.x = true) W2 (hx : Ext wr W2) => dl_skip hr e hC hc ho hg hx
        have hkeep := fun (e : del r.x = false) W2 (hx : Ext wr W2) => dl_keep hr e hC hc ho hg hx
        have hfk := fun W2 (hx : Ext wr W2) => World.ownsRow.frozenAt (hx.own ho) c
        obtain ⟨au, cu, hu⟩ := own_shape hor
        rw [hu] at hcm hd hkeep
        generalize r.x.length = lu at *
        generalize t.u = tu at *
        generalize del r.x = dx at *
        have Hd := Lib.hid hd; have Hskip := Lib.hid hskip; have Hkeep := Lib.hid hkeep; have Hfk := Lib.hid hfk
        clear hd hskip hkeep hfk hmid hor hu ho hg hC hr ht hrm
        have h1 : (0 : Int) ≤ (m : Int) := by omega
        have h2 : (m : Int) < (rs.length : Int) := by omega
        have h3 : (0 : Int) ≤ (c : Int) := by omega
        have h4 : (c : Int) < (rs.length : Int) := by omega
        go_wp2_with fail
        refine Hd.out.mono ?_
        rintro e W2 ⟨rfl, hx2⟩
        cases dx with
        | true =>
          have Hx2 := Lib.hid hx2; clear hx2
          go_wp2_with fail
          go_roundw
          case rel => exact Hskip.out (by first | rfl | trivial) _ Hx2.out
          case measure => simp [intOf]; omega
        | false =>
          have hck2 := hx2.cell hck
          have hfk2 := Hfk.out _ hx2
          have Hx2 := Lib.hid hx2; clear hx2
          go_wp2_with fail
          go_roundw
          case rel => exact Hkeep.out (by first | rfl | trivial) _ Hx2.out
          case measure => simp [intOf]; omega
      · obtain rfl : m = rs.length := by omega
        have hmn : ¬ ((rs.length : Nat) : Int) < (rs.length : Int) := by omega
        have hcn : c < rs.length := by omega
        have hcap3 : c < cap := by omega
        have hnil : ∀ w, (zeroValue 30).run Tryz.prog w = .ok (.slice none 0 0) w := fun w => by kernel_rfl
        have hcl : ∀ ty, (Builtin.clear_ #[36] ty #[.slice (some ⟨g, c, none⟩) (rs.length - c) (cap - c)]).run Tryz.prog wr = .ok (.tuple #[]) (wr.setCells g c (List.replicate (rs.length - c) (.slice none 0 0))) := fun ty =>
          Lib.run_clear_slice wr _ _ ty _ Tryz.underlying36 hnil rfl rfl g c _ _ (by omega) (fun t ht => by
            obtain ⟨r, hr⟩ : ∃ r, rs[c + t]? = some r := ⟨_, List.getElem?_eq_getElem (by omega)⟩
            have := own_cellAt ho (by have := mid_at (C := keptTo del rs rs.length) hr (by omega); rw [hC] at this; exact this)
            rw [this]; rfl) (fun t _ => World.ownsRow.frozenAt ho (c + t))
        have hE9 : W.grownBy (wr.setCells g c (List.replicate (rs.length - c) (.slice none 0 0))) (some g) := only_setCells hg _ _
        have ho9 := own_cut (own_cells (List.replicate (rs.length - c) (.slice none 0 0)) c ho (by simp; omega)) (Nat.le_of_lt hcn)
        have hrow9 : (wr.setCells g c (List.replicate (rs.length - c) (.slice none 0 0))).ownsRow B 30 1 (.slice (some ⟨g, 0, none⟩) c cap) c (rwc (keptTo del rs rs.length)) := by
          have e : ((rwc (keptTo del rs rs.length ++ rs.drop c)).take c ++ List.replicate (rs.length - c) (Value.slice none 0 0) ++ (rwc (keptTo del rs rs.length ++ rs.drop c)).drop (c + (List.replicate (rs.length - c) (Value.slice none 0 0)).length)).take c = rwc (keptTo del rs rs.length) := by
            have hl : (rwc (keptTo del rs rs.length)).length = c := by rw [rwc_length, hC]
            rw [show rwc (keptTo del rs rs.length ++ rs.drop c) = rwc (keptTo del rs rs.length) ++ rwc (rs.drop c) by simp [rwc]]
            rw [List.append_assoc, List.take_left' (by rw [List.length_take, List.length_append]; omega), List.take_left' hl]
          rw [e] at ho9
          exact ho9
        have hr9 : ∀ r ∈ keptTo del rs rs.length, OwnI (wr.setCells g c (List.replicate (rs.length - c) (.slice none 0 0))) B r.u r.x := fun r hr => by
          have hm := Hs.out.2 r (keptTo_mem hr)
          exact World.ownsRow.kept hm hE9 (own_ne hm Hs.out.1 (by decide))
        have HC := Lib.hid hC; have Hrow9 := Lib.hid hrow9; have Hr9 := Lib.hid hr9; have HE9 := Lib.hid hE9
        clear hC hrow9 hr9 hE9 ho9 ho hg hnil
        go_wp2
        go_ret
        exact ⟨_, rfl, by rw [← keptTo_full]; exact ⟨by rw [HC.out]; exact Hrow9.out, Hr9.out⟩, HE9.out⟩

end Go.Proofs.YtkamjjjimbbdmaaGreatDoor
