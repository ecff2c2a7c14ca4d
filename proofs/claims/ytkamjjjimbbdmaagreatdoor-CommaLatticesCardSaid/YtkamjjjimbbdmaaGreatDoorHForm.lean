/- Walk: hermite.Form, at two rows. -/
import Derived.Test.YtkamjjjimbbdmaaGreatDoorEch
import Derived.Test.YtkamjjjimbbdmaaGreatDoorFrmB
namespace Go.Proofs.YtkamjjjimbbdmaaGreatDoor
open Go.RowKit Go.Lib Go.Shelf

theorem tRows_ok {n : Nat} (hn : n ≤ 12) : ∀ (l : List (List Int)), (∀ x ∈ l, x.length = n ∧ x.all fitsI = true) → tRows n l = 0
  | [], _ => rfl
  | x :: r, h => by
    obtain ⟨h1, h2⟩ := h x (List.mem_cons_self)
    have h3 : tRow n x = 0 := by
      unfold tRow
      rw [if_neg (by omega), if_neg (by omega), if_neg]
      rw [List.any_eq_true]
      rintro ⟨z, hz, hf⟩
      have := List.all_eq_true.1 h2 z hz
      rw [this] at hf; cases hf
    rw [tRows, if_neg (by rw [h3]; simp)]
    exact tRows_ok hn r fun y hy => h y (List.mem_cons_of_mem _ hy)
theorem tChk_ok {n : Nat} (hn : n ≤ 12) {m : List (List Int)} (hm : m.length ≤ 12) (h : ∀ x ∈ m, x.length = n ∧ x.all fitsI = true) : tChk m = 0 := by
  unfold tChk
  rw [if_neg (by omega)]
  cases m with
  | nil => rfl
  | cons x r =>
    show tRows x.length (x :: r) = 0
    rw [(h x (List.mem_cons_self)).1]
    exact tRows_ok hn _ h

set_option maxHeartbeats 400000 in
theorem columns_c (vm : Value) (m : List (List Int)) (n : Nat) (w : World) (hm : Mat w vm m) (h0 : 0 < m.length) (hn : (m.getD 0 []).length = n) (hml : m.length ≤ 1000) :
    Calls Tryz.prog 69 #[vm] w fun e w' => e = .returned (.int .i64 n) ∧ Ext w w' := by
  obtain ⟨vs, hvs, hsl, hrows⟩ := hm
  obtain ⟨am, cm, rfl, _, _, hcm⟩ := hsl.parts
  obtain ⟨u, hu⟩ : ∃ u, vs[0]? = some u := ⟨_, List.getElem?_eq_getElem (by omega)⟩
  obtain ⟨b, off, e1, hcu⟩ := hcm 0 u hu
  subst e1
  obtain ⟨a0, c0, rfl, _, _, _⟩ := (hrows 0 u hu).parts
  rw [i64s_length, hn, Nat.add_zero] at hcu
  rw [hvs]
  clear hsl hrows hcm hvs hu hn
  have hi1 : (0 : Int) < (m.length : Int) := by omega
  have hne : ((m.length : Int) == 0) = false := beq_eq_false_iff_ne.2 (by omega)
  go_enter Tryz.func69, Tryz.ntmps69
  go_wp2
  go_ret
  exact ⟨rfl, Ext.refl _⟩

/-- What Form answers: a form, or the error of the limit. -/
def HfPost (n : Nat) (w : World) (e : Ending) (w' : World) : Prop :=
  (∃ v rs, e = .returned (.tuple #[v, .int .i64 0]) ∧ RwL w' w.heap.size v rs ∧ rs.length ≤ 2 ∧ tChk (rs.map Rw.x) = 0 ∧ isFm (rs.map Rw.x) = true ∧ ∀ r ∈ rs, r.x.length = n) ∨ e = .returned (.tuple #[.slice none 0 0, .int .i64 4])

set_option maxRecDepth 100000 in
set_option maxHeartbeats 4000000 in
theorem hform_c (vm : Value) (m : List (List Int)) (n : Nat) (w : World) (he : Env w) (hr : RngV w) (hm : Mat w vm m) (hml : m.length = 2) (hlen : ∀ x ∈ m, x.length = n) (hnp : 0 < n) (hn : n ≤ 12) (hb : ∀ x ∈ m, ∀ z ∈ x, z.natAbs ≤ 999) :
    Calls Tryz.prog 34 #[vm] w fun e w' => HfPost n w e w' ∧ Ext w w' := by
  obtain ⟨i0, hi, hz0, hz1, hz2⟩ := info_parts info_row
  have hb9 : ∀ x ∈ m, ∀ z ∈ x, -1000000000 ≤ z ∧ z ≤ 1000000000 := fun x hx z hz => by have := hb x hx z hz; omega
  have hck : tChk m = 0 := tChk_ok hn (by omega) fun x hx => ⟨hlen x hx, List.all_eq_true.2 fun z hz => fits_at.2 (hb9 x hx z hz)⟩
  have h00 : (m.getD 0 []).length = n := by
    rw [List.getD_eq_getElem?_getD, List.getElem?_eq_getElem (by omega)]
    exact hlen _ (List.getElem_mem (by omega))
  have hgl : ∀ i, (m.getD i []).length ≤ 1000000 := fun i => by
    rw [List.getD_eq_getElem?_getD]
    by_cases g : i < m.length
    · rw [List.getElem?_eq_getElem g]; have := hlen _ (List.getElem_mem g); show (m[i]).length ≤ 1000000; omega
    · rw [List.getElem?_eq_none (by omega)]; simp
  have htc := tcheck_c vm m w hm hgl (by omega)
  rw [hck] at htc
  have hln := fun W (hE : Ext w W) => lines2_c vm m n W (he.ext hE) (hE.mat hm) hlen hb9 (by omega) (by omega) hnp
  have hco := fun W (hE : Ext w W) => columns_c vm m n W (hE.mat hm) (by omega) h00 (by omega)
  obtain ⟨vs, hvs, hsl, _⟩ := hm
  obtain ⟨am, cm, rfl, _, hlc, _⟩ := hsl.parts
  rw [hvs, hml] at htc hln hco hlc ⊢
  have Htc := Lib.hid htc; have Hln := Lib.hid hln; have Hco := Lib.hid hco; have He := Lib.hid he; have Hr := Lib.hid hr; have Hlen := Lib.hid hlen; have Hb := Lib.hid hb; have Hml := Lib.hid hml
  clear htc hln hco he hr hlen hb hb9 hck h00 hgl hsl hvs hml
  go_enter Tryz.func34, Tryz.ntmps34
  go_wp2_with fail
  refine Htc.out.mono ?_
  rintro e W1 ⟨rfl, hx1⟩
  have Hx1 := Lib.hid hx1; clear hx1
  go_wp2_with fail
  refine (Hln.out W1 Hx1.out).mono ?_
  rintro e W2 ⟨v2, rfl, ls0, hls, hmap, hby, hx2⟩
  have hl2 : ls0.length = 2 := by
    have := congrArg List.length hmap
    rw [List.length_map, Hml.out] at this
    exact this
  have hrow0 : ∀ e ∈ ls0, e.x.length = n ∧ e.b.length = 2 := fun e he => by
    refine ⟨Hlen.out e.x (by rw [← hmap]; exact List.mem_map_of_mem he), ?_⟩
    have := (hls.2.1 e he).2.1
    rw [strs_length, Nat.mul_one] at this
    exact this
  have hown := hls.1
  rw [hl2] at hown
  obtain ⟨gs, cap, rfl, _⟩ := sm_slice hown (by omega)
  have hcap : 2 ≤ cap ∧ cap ≤ 9223372036854775807 := by
    rcases hown.2 with ⟨e0, _⟩ | ⟨g', cap', cur, e0, _, _, h5, hm5, _⟩
    · cases e0
    · injection e0 with _ _ e3
      unfold maxLen at hm5
      omega
  have hT : LiT W2 W1.heap.size n 2 gs cap ls0 := ⟨by rw [hl2]; exact hown, hls.2.1, apart_of_nodup _ hls.2.2⟩
  have HT := Lib.hid hT; have Hl2 := Lib.hid hl2; have Hrow0 := Lib.hid hrow0; have Hcap := Lib.hid hcap; have Hx2 := Lib.hid (Hx1.out.trans hx2); have Hx22 := Lib.hid hx2
  have hbb : ∀ e ∈ ls0, (∀ z ∈ e.x, z.natAbs ≤ 999) ∧ ∀ z ∈ e.b, z.natAbs ≤ 999 := fun e he => ⟨Hb.out e.x (by rw [← hmap]; exact List.mem_map_of_mem he), fun z hz => by have := hby e he z hz; omega⟩
  have Hbb := Lib.hid hbb
  clear hls hmap hby hx2 hl2 hrow0 hown hcap hT hbb
  go_wp2_with fail
  refine (Hco.out W2 Hx2.out).mono ?_
  rintro e W3 ⟨rfl, hx3⟩
  have hec := echelon_c n 2 gs cap ls0 w W3 W1.heap.size He.out (Hx2.out.trans hx3) Hx1.out.size (Nat.le_trans Hx22.out.size hx3.size) (HT.out.ext hx3) Hrow0.out Hl2.out Hcap.out.1 Hcap.out.2 hn (by omega) Hbb.out
  have Hec := Lib.hid hec; have Hx3 := Lib.hid (Hx2.out.trans hx3); have Hx13 := Lib.hid (Hx22.out.trans hx3)
  clear hx3 hec
  go_wp2_with fail
  refine Hec.out.mono ?_
  rintro e W4 ⟨done, ls, rfl, hd2, hT4, hb4, hfm, hl4, hrow4, hfit4⟩
  have hE4 : Ext w W4 := Below.trans Hx3.out (Below.mono hb4 Hx1.out.size)
  have HT4 := Lib.hid hT4; have Hfm := Lib.hid hfm; have Hl4 := Lib.hid hl4; have Hrow4 := Lib.hid hrow4; have Hfit4 := Lib.hid hfit4; have HE4 := Lib.hid hE4
  have hcap2 := Hcap.out.1
  have hcap3 := Hcap.out.2
  clear hT4 hb4 hfm hl4 hrow4 hfit4 hE4
  go_wp2_with fail
  go_loopw [6, 25] (fun v6 v25 wr => ∃ (k : Nat) (rs : List Rw), v25 = .int .i64 (k : Int) ∧ k ≤ done ∧ wr.ownsRow W4.heap.size 30 1 v6 k (rwc rs) ∧ (∀ r ∈ rs, OwnI wr W4.heap.size r.u r.x) ∧ rs.map Rw.x = (ls.take k).map Li.x ∧ (∀ x ∈ rs.map Rw.x, x.all fitsI = true) ∧ Ext W4 wr) (fun _ v25 _ => done - (intOf v25).toNat)
  case atStart => exact ⟨0, [], rfl, Nat.zero_le _, World.ownsRow_nil _ _ _ 1, (fun r h => by cases h), rfl, (fun x h => by cases h), Ext.refl _⟩
  case round =>
    obtain ⟨k, rs, rfl, hk, ho, hrs, hmap, hall, hext⟩ := hrel
    have hrl : rs.length = k := by have := ho.1; rw [rwc_length, Nat.mul_one] at this; exact this
    obtain ⟨a6, c6, rfl⟩ := own_shape ho
    have Ho := Lib.hid ho; have Hrs := Lib.hid hrs; have Hmap := Lib.hid hmap; have Hall := Lib.hid hall; have Hext := Lib.hid hext; have Hrl := Lib.hid hrl
    clear ho hrs hmap hall hext hrl
    by_cases hkd : k < done
    · obtain ⟨e, hle⟩ : ∃ e, ls[k]? = some e := ⟨_, List.getElem?_eq_getElem (by rw [Hl4.out]; omega)⟩
      have hTr := HT4.out.ext Hext.out
      obtain ⟨hc0, hc1⟩ := hTr.at hle
      have hre := hTr.rows e (List.mem_of_getElem? hle)
      have hxl := Hrow4.out e (List.mem_of_getElem? hle)
      have hfe := Hfit4.out e (List.mem_of_getElem? hle)
      have htk : (ls.take (k + 1)).map Li.x = (ls.take k).map Li.x ++ [e.x] := by
        obtain ⟨hl, he⟩ := List.getElem?_eq_some_iff.1 hle
        rw [List.take_succ_eq_append_getElem hl, List.map_append, he]; rfl
      unfold Li.u at hc0
      unfold Li.y at hc1
      have hE5 : Ext wr (wr.alloc (.cells #[.slice (some ⟨e.g, 0, none⟩) n e.cg, .slice (some ⟨e.h, 0, none⟩) 2 e.ch] 118)) := (Ext.refl wr).alloc _
      have hb0 := two_new0 wr (.slice (some ⟨e.g, 0, none⟩) n e.cg) (.slice (some ⟨e.h, 0, none⟩) 2 e.ch) 118
      have hb1 := two_new1 wr (.slice (some ⟨e.g, 0, none⟩) n e.cg) (.slice (some ⟨e.h, 0, none⟩) 2 e.ch) 118
      generalize hw5 : wr.alloc (.cells #[.slice (some ⟨e.g, 0, none⟩) n e.cg, .slice (some ⟨e.h, 0, none⟩) 2 e.ch] 118) = W5 at *
      have hs5 := hsmall_c (.slice (some ⟨e.g, 0, none⟩) n e.cg) e.x W5 (Hr.out.ext ((HE4.out.trans Hext.out).trans hE5)) (hE5.sl (sl_own hre.1)) (by omega) hfe
      have Hs5 := Lib.hid hs5; have HE5 := Lib.hid (Hext.out.trans hE5); have HE51 := Lib.hid hE5; have Htk := Lib.hid htk; have Hxl := Lib.hid hxl
      clear hs5 hE5 htk hTr hre hxl hfe hle
      have hk0 : (0 : Int) ≤ (k : Int) := by omega
      have hk1 : (k : Int) < (done : Int) := by omega
      go_wp2_with fail
      refine Hs5.out.mono ?_
      rintro e6 W6 ⟨hp, hx6⟩
      rcases hp with ⟨hal, a7, c7, rfl, hown7⟩ | ⟨hal, rfl⟩
      · have Ho6 := Lib.hid (hx6.own (HE51.out.own Ho.out))
        have Hown7 := Lib.hid hown7; have HE6 := Lib.hid (HE5.out.trans hx6); have Hal := Lib.hid hal; have HE61 := Lib.hid (HE51.out.trans hx6)
        have hW5s : W4.heap.size ≤ W5.heap.size := HE5.out.size
        have hw6 : W4.heap.size ≤ W6.heap.size := by have := hx6.size; omega
        have hm1 : k + 1 ≤ maxLen := by unfold maxLen; omega
        have hm2 : (k + 1) * 24 ≤ 140737488355328 := by omega
        have HW5s := Lib.hid hW5s
        clear hx6 hown7 hal hW5s
        go_wp2_with (at_builtin; refine wpList_append_own _ rfl _ _ 62 rfl W4.heap.size 30 i0 (.slice none 0 0) 1 24 Tryz.underlying62 hi hz0 hz1 hz2 rfl (by decide) _ _ _ rfl (Ho6.out.alloc _) ⟨W6.heap.size, 0, none⟩ 1 1 [.slice a7 e.x.length c7] rfl rfl (cell_one_new _ _ _) (by simp [Value.oneCell']) hm1 hm2 (by rw [World.size_alloc]; omega) ?_; intro v8 W8 hown8 hgrow8 _)
        have hE8 : Ext W4 W8 := (HE6.out.alloc _).grown hgrow8 fun q hq => (World.ownsRow.lt Ho6.out q hq).1
        have hnew : OwnI W8 W4.heap.size (.slice a7 e.x.length c7) e.x := World.ownsRow.kept ((own_mono Hown7.out HW5s.out).alloc _) hgrow8 (own_ne Hown7.out Ho6.out (by decide))
        have hold : ∀ r ∈ rs, OwnI W8 W4.heap.size r.u r.x := fun r hr => World.ownsRow.kept ((HE61.out.own (Hrs.out r hr)).alloc _) hgrow8 (own_ne (HE61.out.own (Hrs.out r hr)) Ho6.out (by decide))
        have Hown8 := Lib.hid hown8; have HE8 := Lib.hid hE8; have Hnew := Lib.hid hnew; have Hold := Lib.hid hold
        clear hown8 hE8 hnew hold hgrow8
        go_wp2_with fail
        go_roundw
        case rel =>
          have hR : k + 1 ≤ done ∧ W8.ownsRow W4.heap.size 30 1 v8 (k + 1) (rwc (rs ++ [⟨e.x, .slice a7 e.x.length c7, rfl⟩])) ∧ (∀ r ∈ rs ++ [(⟨e.x, .slice a7 e.x.length c7, rfl⟩ : Rw)], OwnI W8 W4.heap.size r.u r.x) ∧ (rs ++ [(⟨e.x, .slice a7 e.x.length c7, rfl⟩ : Rw)]).map Rw.x = (ls.take (k + 1)).map Li.x ∧ (∀ x ∈ (rs ++ [(⟨e.x, .slice a7 e.x.length c7, rfl⟩ : Rw)]).map Rw.x, x.all fitsI = true) ∧ Ext W4 W8 := by
            refine ⟨by omega, ?_, ?_, ?_, ?_, HE8.out⟩
            · rw [show rwc (rs ++ [(⟨e.x, .slice a7 e.x.length c7, rfl⟩ : Rw)]) = rwc rs ++ [.slice a7 e.x.length c7] by simp [rwc]]
              exact Hown8.out
            · intro r hr
              rcases List.mem_append.1 hr with g | g
              · exact Hold.out r g
              · rw [List.mem_singleton.1 g]; exact Hnew.out
            · rw [List.map_append, Hmap.out, Htk.out]; rfl
            · intro x hx
              rw [List.map_append] at hx
              rcases List.mem_append.1 hx with g | g
              · exact Hall.out x g
              · rw [List.mem_singleton.1 g]; exact Hal.out
          first
            | exact ⟨k + 1, _, by go_num, hR⟩
            | ((repeat apply Exists.intro); exact ⟨⟨k + 1, _, by go_num, hR⟩, rfl⟩)
        case measure => simp [intOf]; omega
      · have HE6 := Lib.hid (HE5.out.trans hx6); clear hx6 hal
        go_wp2
        go_ret2
        exact ⟨.inr rfl, HE4.out.trans HE6.out⟩
    · obtain rfl : k = done := by omega
      have hfin : tChk (rs.map Rw.x) = 0 := tChk_ok hn (by rw [List.length_map, Hrl.out]; omega) fun x hx => ⟨by
        rw [Hmap.out] at hx
        obtain ⟨e, he, rfl⟩ := List.mem_map.1 hx
        exact Hrow4.out e (List.mem_of_mem_take he), Hall.out x hx⟩
      have hf2 : isFm (rs.map Rw.x) = true := by rw [Hmap.out]; exact Hfm.out
      have hlr : ∀ r ∈ rs, r.x.length = n := fun r hr => by
        have hx : r.x ∈ (ls.take k).map Li.x := by rw [← Hmap.out]; exact List.mem_map_of_mem hr
        obtain ⟨e, he, h1⟩ := List.mem_map.1 hx
        rw [← h1]
        exact Hrow4.out e (List.mem_of_mem_take he)
      have Hfin := Lib.hid hfin; have Hf2 := Lib.hid hf2; have Hlr := Lib.hid hlr
      clear hfin hf2 hlr
      go_wp2
      go_ret2
      refine ⟨.inl ⟨_, rs, rfl, ⟨?_, fun r hr => own_mono (Hrs.out r hr) HE4.out.size⟩, by rw [Hrl.out]; exact hd2, Hfin.out, Hf2.out, Hlr.out⟩, HE4.out.trans Hext.out⟩
      rw [Hrl.out]
      exact own_mono Ho.out HE4.out.size

end Go.Proofs.YtkamjjjimbbdmaaGreatDoor
