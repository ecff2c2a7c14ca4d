/- Walks: class.look: the view of a scale: its notes up to two periods. Walks: schismaref03's trim, Int. Walks: schismaref03's To and Of at one digit. -/
import Derived.Test.YtajdfggocldeaaaGreatDoorPb22
import Derived.Test.YtajdfggocldeaaaGreatDoorPb03
import Derived.Test.YtajdfggocldeaaaGreatDoorShelfF
import Derived.Shelf.Strings.Prefix
import Derived.Test.YtajdfggocldeaaaGreatDoorPb13
set_option maxRecDepth 100000
set_option maxHeartbeats 2000000
namespace Go.Proofs.YtajdfggocldeaaaGreatDoor
open Go.RowKit Go.Lib Go.Shelf
attribute [local go_sem] Oper.semAt_some
theorem ntN_c (v : Value) (p : List Int) (rs : List Qw) (k : Int) (w : World) (he : Env w) (hv : ScV w v p rs) (h : Wd p (rs.map Qw.x)) (hk0 : -1000 ≤ k) (hk1 : k ≤ 1000) :
    Calls Tryz.prog 53 #[v, .int .i64 k] w fun e w' => ∃ g, e = .returned (.tuple #[.slice (some ⟨g, 0, none⟩) p.length p.length, .int .i64 0]) ∧ OwnQ w' w.heap.size (.slice (some ⟨g, 0, none⟩) p.length p.length) (nt p (rs.map Qw.x) k) ∧ Ext w w' := by
  have hpos := h.pos
  rw [List.length_map] at hpos
  obtain ⟨n, hn⟩ : ∃ n, rs.length = n + 1 := ⟨rs.length - 1, by omega⟩
  obtain ⟨r, hr⟩ : ∃ r, rs[n]? = some r := ⟨_, List.getElem?_eq_getElem (by omega)⟩
  have hrx : r.x = ov (p.length - 1) := by
    have := h.last
    rw [List.length_map, hn, Nat.add_sub_cancel, List.getElem?_map, hr] at this
    exact Option.some.inj this
  have hnq := h.noteQ hn k
  have hq := h.nt_quick k hk0 hk1
  have hd := div_bd (a := k) (b := (n : Int) + 1) (m := 1000) (by omega) hk0 hk1 (by omega)
  have := scNote_c v p rs n k r w he hv h.right hn hr (by omega) (by omega) ((int_ft (k := 5) (by show _ < 100000; omega) (by omega)).mono (by omega)) (by rw [hrx]; exact mul_ov_ft (by omega) (by omega)) (by rw [hnq]; exact hq.1)
  rw [hnq] at this
  exact this
/-- The cells of a view. -/
def BoxV (w : World) (b : Nat) (u v s : Value) : Prop := w.heap[b]? = some (.cells #[u, v, s] 93 (0, 0))
section
variable {w w' : World} {b : Nat} {u v s : Value}
theorem BoxV.new (w : World) (u v s : Value) : BoxV (w.alloc (.cells #[u, v, s] 93)) w.heap.size u v s := World.alloc_heap_new w _
theorem BoxV.ext (hx : Ext w w') (h : BoxV w b u v s) : BoxV w' b u v s := hx.heap h
theorem BoxV.c0 (h : BoxV w b u v s) : w.cell? ⟨b, 0, none⟩ = some u := by unfold World.cell?; dsimp only; rw [h]; rfl
theorem BoxV.c1 (h : BoxV w b u v s) : w.cell? ⟨b, 1, none⟩ = some v := by unfold World.cell?; dsimp only; rw [h]; rfl
theorem BoxV.c2 (h : BoxV w b u v s) : w.cell? ⟨b, 2, none⟩ = some s := by unfold World.cell?; dsimp only; rw [h]; rfl
theorem BoxV.fz (h : BoxV w b u v s) (k : Nat) : w.frozen? ⟨b, k, none⟩ = false := frozen_of_row w b k #[u, v, s] _ h
theorem BoxV.put2 (h : BoxV w b u v s) (x : Value) : BoxV (w.setCell ⟨b, 2, none⟩ x) b u v x := heap_setCell_same w b 2 _ _ x h
end
theorem QwM.setV {W : World} {b B : Nat} {v : Value} {rs : List Qw} (h : QwM W b B v rs) {c : Nat} {cs : Array Value} (hc : W.heap[c]? = some (.cells cs 93 (0, 0))) (k : Nat) (u : Value) : QwM (W.setCell ⟨c, k, none⟩ u) b B v rs :=
  ⟨own_set_apart hc h.1 (by decide) k u, fun r hr => own_set_apart hc (h.2 r hr) (by decide) k u⟩
/-- The notes of a view under way. -/
def NvR (b : Nat) (W6 : World) (bs : Nat) (vp vn : Value) (xs : List (List Rat)) (wr : World) : Prop := ∃ (vs : Value) (nts : List Qw), BoxV wr bs vp vn vs ∧ QwM wr b W6.heap.size vs nts ∧ nts.map Qw.x = xs ∧ Ext W6 wr
theorem NvR.more {b : Nat} {W6 W V : World} {bs : Nat} {vp vn vs v7 u : Value} {x : List Rat} {nts : List Qw} {xs : List (List Rat)} {o : Obj} (hbs : W6.heap.size ≤ bs) (hb : BoxV W bs vp vn vs) (hq : QwM W b W6.heap.size vs nts) (hm : nts.map Qw.x = xs) (hE : Ext W6 W) (ho : OwnQ W b u x)
    (hown : V.ownsRow W6.heap.size 28 1 v7 (nts.length + 1) (qwc nts ++ [u])) (hgrow : (W.alloc o).grownBy V vs.ownBlock) : NvR b W6 bs vp vn (xs ++ [x]) (V.setCell ⟨bs, 2, none⟩ v7) := by
  have h1 := QwM.more2 (r := ⟨_, u, rd_one ho.rd⟩) hE (Nat.le_refl _) hq ho hown hgrow
  have hbV : BoxV V bs vp vn vs := kept_box (((Ext.refl W).alloc o).heap hb) (World.ownsRow.alloc hq.1 o) (by decide) hgrow
  exact ⟨v7, _, hbV.put2 v7, h1.1.setV hbV 2 v7, by rw [List.map_append, hm]; rfl, h1.2.setCell hbs v7⟩
/-- The notes up to two periods. -/
def nts2 (p : List Int) (N : List (List Rat)) : List (List Rat) := (List.range (2 * N.length + 1)).map fun (i : Nat) => nt p N (i : Int)
theorem nts2_len (p : List Int) (N : List (List Rat)) : (nts2 p N).length = 2 * N.length + 1 := by unfold nts2; simp
theorem nts2_at {p : List Int} {N : List (List Rat)} {i : Nat} (hi : i < 2 * N.length + 1) : (nts2 p N)[i]? = some (nt p N (i : Int)) := by
  unfold nts2
  rw [List.getElem?_map, List.getElem?_range hi]
  rfl
/-- A view. -/
def Vw (w : World) (u : Value) (p : List Int) (rs : List Qw) : Prop := ∃ b vp vn vs nts, u = .pointer (some ⟨b, 0, none⟩) ∧ BoxV w b vp vn vs ∧ Sl w vp (i64s p) ∧ RdM w vn rs ∧ RdM w vs nts ∧ nts.map Qw.x = nts2 p (rs.map Qw.x)
theorem Vw.ext {w w' : World} {u : Value} {p : List Int} {rs : List Qw} (h : Vw w u p rs) (hx : Ext w w') : Vw w' u p rs := by
  obtain ⟨b, vp, vn, vs, nts, e, h1, h2, h3, h4, h5⟩ := h
  exact ⟨b, vp, vn, vs, nts, e, h1.ext hx, hx.sl h2, hx.rdM h3, hx.rdM h4, h5⟩
theorem look_c (v : Value) (p : List Int) (rs : List Qw) (w : World) (he : Env w) (hv : ScV w v p rs) (h : Wd p (rs.map Qw.x)) :
    Calls Tryz.prog 24 #[v] w fun e w' => ∃ u, e = .returned (.tuple #[u, .int .i64 0]) ∧ Vw w' u p rs ∧ Ext w w' := by
  obtain ⟨j0, hj, hy0, hy1, hy2⟩ := info_parts info_size
  have hck := fun W (hE : Ext w W) => scCheck_c v p rs W (he.ext hE) (hv.ext hE) h.right
  have hnt := fun (k : Int) (h0 : -1000 ≤ k) (h1 : k ≤ 1000) W (hE : Ext w W) => ntN_c v p rs k W (he.ext hE) (hv.ext hE) h h0 h1
  have hfew := h.few
  have hL : (rs.map Qw.x).length = rs.length := List.length_map ..
  rw [hL] at hfew
  have hmd : ∀ i, i < 2 * rs.length + 1 → (nts2 p (rs.map Qw.x)).take (i + 1) = (nts2 p (rs.map Qw.x)).take i ++ [nt p (rs.map Qw.x) (i : Int)] := fun i hi => by
    have := nts2_at (p := p) (N := rs.map Qw.x) (i := i) (by rw [hL]; exact hi)
    rw [List.take_add_one, this]
    rfl
  have hmf : (nts2 p (rs.map Qw.x)).take (2 * rs.length + 1) = nts2 p (rs.map Qw.x) := List.take_of_length_le (by rw [nts2_len, hL]; exact Nat.le_refl _)
  have hml : (nts2 p (rs.map Qw.x)).length = 2 * rs.length + 1 := by rw [nts2_len, hL]
  obtain ⟨vp, vn, rfl, hp, hs, hmr⟩ := hv
  obtain ⟨ap, cp, rfl, _, _, _⟩ := hp.parts
  obtain ⟨an, cn, rfl, _, _, _⟩ := hs.parts
  rw [i64s_length] at *
  rw [qwc_length] at *
  generalize hn : rs.length = n at *
  have hE0 : Ext w (w.alloc (.cells #[.slice ap p.length cp, .slice an n cn] 35)) := (Ext.refl w).alloc _
  have b1 := BoxT.new 35 w (.slice ap p.length cp) (.slice an n cn)
  have Hck := Lib.hid hck; have Hnt := Lib.hid hnt; have Hmd := Lib.hid hmd; have Hmf := Lib.hid hmf; have Hml := Lib.hid hml; have HE0 := Lib.hid hE0; have B1 := Lib.hid b1; have Hp := Lib.hid hp; have Hs := Lib.hid (And.intro hs hmr); have Hn := Lib.hid hn
  clear hck hnt hmd hmf hml hE0 b1 hp hs hmr hn h he hL
  have q0 := B1.out.c0
  have q1 := B1.out.c1
  go_enter Tryz.func24, Tryz.ntmps24
  go_wp2_with fail
  refine (Hck.out _ HE0.out).mono ?_
  rintro e w6 ⟨rfl, hx6⟩
  have q0 := (B1.out.ext hx6).c0
  have q1 := (B1.out.ext hx6).c1
  have Hx6 := Lib.hid hx6
  clear hx6
  have Hb7 := Lib.hid (BoxV.new w6 (.slice ap p.length cp) (.slice an n cn) (.slice none 0 0))
  have H6x : Hid (Ext w6 (w6.alloc (.cells #[.slice ap p.length cp, .slice an n cn, .slice none 0 0] 93))) := Lib.hid ((Ext.refl w6).alloc _)
  have s0 := (B1.out.ext (Hx6.out.trans H6x.out)).c0
  have s1 := (B1.out.ext (Hx6.out.trans H6x.out)).c1
  go_wp2_with fail
  have hw0 : IntKind.i64.wrap (IntKind.i64.wrap (2 * (n : Int)) + 1) = 2 * (n : Int) + 1 := by rw [IntWalk.i64_in (2 * (n : Int)) (by omega), IntWalk.i64_in _ (by omega)]
  go_loopw [22] (fun v22 wr => ∃ i : Nat, v22 = .int .i64 (i : Int) ∧ i ≤ 2 * n + 1 ∧ NvR w6.heap.size w6 w6.heap.size (.slice ap p.length cp) (.slice an n cn) ((nts2 p (rs.map Qw.x)).take i) wr) (fun v22 _ => 2 * n + 2 - (intOf v22).toNat)
  case atStart => exact ⟨0, rfl, Nat.zero_le _, .slice none 0 0, [], Hb7.out, QwM.nil _ _ _, rfl, H6x.out⟩
  case round =>
    obtain ⟨i, rfl, hi, ⟨vs, nts, hbn, hqn, hmn, hEn⟩⟩ := hrel
    have hE6 := Hx6.out.trans hEn
    have hEw := HE0.out.trans hE6
    have q0 := (B1.out.ext hE6).c0
    have q1 := (B1.out.ext hE6).c1
    by_cases hin : i < 2 * n + 1
    · have hik : (i : Int) < 2 * (n : Int) + 1 := by omega
      have hnk := Hnt.out (i : Int) (by omega) (by omega) wr hEw
      have Hbn := Lib.hid hbn; have Hqn := Lib.hid hqn; have Hmn := Lib.hid hmn; have HEn := Lib.hid hEn; have HE6 := Lib.hid hE6; have HEw := Lib.hid hEw; have Hnk := Lib.hid hnk
      clear hbn hqn hmn hEn hE6 hEw hnk
      go_wp2_with fail
      refine Hnk.out.mono ?_
      rintro e w8 ⟨g8, rfl, ho8, hx8⟩
      obtain ⟨avs, cvs, rfl⟩ := own_shape Hqn.out.1
      have hnl : nts.length = i := by
        have := congrArg List.length Hmn.out
        rw [List.length_map, List.length_take, Hml.out] at this
        omega
      have hbk := Hbn.out.ext hx8
      rw [hnl] at hbk
      have hqk := hx8.qwM Hqn.out
      rw [hnl] at hqk
      have hqo := hx8.own Hqn.out.1
      rw [hnl] at hqo
      have hEk := HEn.out.trans hx8
      have hbase := hEk.size
      have hok := ho8.mono HEn.out.size
      have hm3 : i + 1 ≤ maxLen := by unfold maxLen; omega
      have hm4 : (i + 1) * 24 ≤ 140737488355328 := by omega
      have r2 := hbk.c2
      have Hbk := Lib.hid hbk; have Hqk := Lib.hid hqk; have Hnl := Lib.hid hnl; have HEk := Lib.hid hEk; have Hok := Lib.hid hok
      clear hbk hqk hnl hEk hok ho8 hx8 q0 q1
      go_wp2_with (at_builtin; refine wpList_append_own _ rfl _ _ 33 rfl w6.heap.size 28 j0 (.slice none 0 0) 1 24 Tryz.underlying33 hj hy0 hy1 hy2 rfl (by decide) _ _ _ rfl (hqo.alloc _) ⟨w8.heap.size, 0, none⟩ 1 1 [.slice (some ⟨g8, 0, none⟩) p.length p.length] rfl rfl (cell_one_new _ _ _) (by simp [Value.oneCell']) hm3 hm4 (by rw [World.size_alloc]; omega) ?_; intro v7 V7 hown7 hgrow7 _; have hbV : BoxV V7 w6.heap.size (.slice ap p.length cp) (.slice an n cn) (.slice avs i cvs) := kept_box (((Ext.refl w8).alloc _).heap Hbk.out) (hqo.alloc (.cells #[.slice (some ⟨g8, 0, none⟩) p.length p.length] 28)) (by decide) hgrow7; have d1 := hbV.c2; have e1 := hbV.fz 2; obtain ⟨a7, c7, rfl⟩ := own_shape hown7)
      have hR := NvR.more (W6 := w6) (W := w8) (v7 := .slice a7 (i + 1) c7) (Nat.le_refl _) Hbk.out Hqk.out Hmn.out HEk.out Hok.out (by rw [Hnl.out]; exact hown7) hgrow7
      rw [← Hmd.out i hin] at hR
      have HR := Lib.hid hR
      clear hR d1 e1 r2 hgrow7 hown7 hbV
      generalize V7.setCell ⟨w6.heap.size, 2, none⟩ (.slice a7 (i + 1) c7) = V2 at *
      go_roundw
      case rel => exact ⟨i + 1, by go_num, by omega, HR.out⟩
      case measure => simp [intOf]; omega
    · obtain rfl : i = 2 * n + 1 := by omega
      have hik : ¬ ((2 * n + 1 : Nat) : Int) < 2 * (n : Int) + 1 := by omega
      have hmn2 := hmn.trans Hmf.out
      have hfin : Vw wr (.pointer (some ⟨w6.heap.size, 0, none⟩)) p rs := by
        refine ⟨_, _, _, _, nts, rfl, hbn, hEw.sl Hp.out, ?_, hqn.rd, hmn2⟩
        have := hEw.rdM Hs.out
        exact this
      have Hfin := Lib.hid hfin; have HEw := Lib.hid hEw
      clear hfin hEw hmn2 hmn hbn hqn hEn hE6
      go_wp2_with fail
      exact bodyPost_ret (v := .tuple #[.pointer (some ⟨w6.heap.size, 0, none⟩), .int .i64 0]) (by simp [results, Tryz.results24, go_sem]) rfl ⟨_, rfl, Hfin.out, HEw.out⟩
end Go.Proofs.YtajdfggocldeaaaGreatDoor

namespace Go.Proofs.YtajdfggocldeaaaGreatDoor
open Go.RowKit Go.Lib
theorem rInt_c (n : Int) (w : World) (he : Env w) (h0 : -9223372036854775808 ≤ n) (h1 : n ≤ 9223372036854775807) :
    Calls Tryz.prog 114 #[.int .i64 n] w fun e w' => e = .returned (.string (I n)) ∧ Ext w w' := by
  have hi := itoa_c n h0 h1 w he
  generalize I n = s at *
  clear he
  have Hi := Lib.hid hi; clear hi
  go_enter Tryz.func114, Tryz.ntmps114
  go_wp2_with fail
  refine (Hi.out).mono ?_
  rintro e w1 ⟨rfl, hx1⟩
  have Hx1 := Lib.hid hx1; clear hx1
  go_wp2
  go_ret
  exact ⟨rfl, Hx1.out⟩
/-- How many cells a slice in a block's second cell has. -/
def lenAt (w : World) (b : Nat) : Nat := match w.cell? ⟨b, 1, none⟩ with | some (.slice _ n _) => n | _ => 0
theorem rtrim_c (u : Value) (b : Bool) (ds : List Int) (w : World) (hu : Sl w u (i64s ds)) (hl : ds.length ≤ 1000) :
    Calls Tryz.prog 111 #[.agg #[.bool b, u]] w fun e w' => ∃ (u' : Value) (k : Nat), e = .returned (.agg #[.bool (b && decide (0 < k)), u']) ∧ k ≤ ds.length ∧ (∀ j, k ≤ j → j < ds.length → ds[j]? = some 0) ∧ (∀ j, k = j + 1 → ds[j]? ≠ some 0) ∧ Sl w' u' (i64s (ds.take k)) ∧ Ext w w' := by
  have htk : ∀ k, k ≤ ds.length → ∀ a c, u = .slice a ds.length c → ∀ W, Ext w W → Sl W (.slice a k c) (i64s (ds.take k)) := fun k hk a c e W hE => by
    have hs := hE.sl hu
    have hlen : (i64s (ds.take k)).length = k := by rw [i64s_length, List.length_take]; omega
    rcases hs with ⟨a', cap, e', hm, h0⟩ | ⟨b', off, cap, e', h1, h2, hc⟩
    · rw [e] at e'
      injection e' with e1 e2 e3
      have : k = 0 := by omega
      subst this
      exact .inl ⟨a, c, rfl, by omega, by simp [i64s]⟩
    · rw [e] at e'
      injection e' with e1 e2 e3
      refine .inr ⟨b', off, c, by rw [hlen, e1], by rw [hlen]; rw [i64s_length] at h1; omega, by omega, fun i x hx => hc i x ?_⟩
      have hi : i < k := by have := (List.getElem?_eq_some_iff.1 hx).1; omega
      unfold i64s at hx ⊢
      rw [List.getElem?_map, List.getElem?_take, if_pos hi] at hx
      rw [List.getElem?_map]
      exact hx
  obtain ⟨a, c, rfl, hcm, hcl, hc⟩ := hu.parts
  rw [i64s_length] at htk hcl ⊢
  have hcell : ∀ j d, ds[j]? = some d → ∃ b' off, a = some ⟨b', off, none⟩ ∧ w.cell? ⟨b', off + j, none⟩ = some (.int .i64 d) := fun j d hd => hc j _ (by unfold i64s; rw [List.getElem?_map, hd]; rfl)
  have hE0 : Ext w ((w.alloc (.cells #[.bool b, .slice a ds.length c] 110)).alloc (.cells #[.bool false, .slice none 0 0] 110)) := ((Ext.refl _).alloc _).alloc _
  have b1 := (BoxT.new 110 w (.bool b) (.slice a ds.length c)).ext ((Ext.refl _).alloc (.cells #[.bool false, .slice none 0 0] 110))
  have b2 := BoxT.new 110 (w.alloc (.cells #[.bool b, .slice a ds.length c] 110)) (.bool false) (.slice none 0 0)
  rw [World.size_alloc] at b2
  have htk2 := fun k hk W hE => htk k hk a c rfl W hE
  clear hu hc htk
  generalize hn : ds.length = n at *
  have Hn := Lib.hid hn
  clear hn
  have hw0 := Nat.lt_succ_self w.heap.size
  have Hcell := Lib.hid hcell; have HE0 := Lib.hid hE0; have Htk2 := Lib.hid htk2; have B1 := Lib.hid b1; have B2 := Lib.hid b2; clear hcell hE0 htk2 b1 b2
  go_enter Tryz.func111, Tryz.ntmps111
  go_wp2_with fail
  go_loopw [3] (fun _ wr => ∃ k : Nat, k ≤ n ∧ BoxT 110 wr w.heap.size (.bool b) (.slice a k c) ∧ K0 110 w wr (w.heap.size + 1) ∧ ∀ j, k ≤ j → j < n → ds[j]? = some 0) (fun _ wr => lenAt wr w.heap.size)
  case atStart => exact ⟨n, Nat.le_refl _, B1.out, ⟨HE0.out, _, _, B2.out⟩, fun j h1 h2 => by omega⟩
  case round =>
    obtain ⟨k, hk, hb, hK, hz⟩ := hrel
    have q0 := hb.c0
    have q1 := hb.c1
    have f0 := hb.fz 0
    have f1 := hb.fz 1
    have hme : lenAt wr w.heap.size = k := by unfold lenAt; rw [q1]
    have Hb := Lib.hid hb; have HK := Lib.hid hK; have Hz := Lib.hid hz; have Hme := Lib.hid hme
    clear hb hK hz hme
    by_cases hk0 : 0 < k
    · obtain ⟨j, hkj⟩ : ∃ j, k = j + 1 := ⟨k - 1, by omega⟩
      obtain ⟨d, hd⟩ : ∃ d, ds[j]? = some d := ⟨_, List.getElem?_eq_getElem (by rw [Hn.out]; omega)⟩
      obtain ⟨b', off, rfl, hc1⟩ := Hcell.out j d hd
      have hc2 := HK.out.x.cell hc1
      have hwj : IntKind.i64.wrap ((k : Int) - 1) = (j : Int) := by rw [IntKind.wrap_i64]; omega
      have hj0 : (0 : Int) ≤ (j : Int) := by omega
      have hj1 : (j : Int) < (k : Int) := by omega
      have hj2 : ¬ (k : Int) < (j : Int) := by omega
      have hkz : (0 : Int) < (k : Int) := by omega
      have hkd : decide ((k : Int) > 0) = true := decide_eq_true (by omega)
      have Hd := Lib.hid hd
      clear hd hc1
      have hjc : (j : Int) ≤ (c : Int) := by omega
      by_cases hd0 : d = 0
      · subst hd0
        have hS := Hb.out.put1 (.slice (some ⟨b', off, none⟩) j c)
        have hKS := HK.out.set (b := w.heap.size) (Nat.le_refl _) (by omega) 1 (.slice (some ⟨b', off, none⟩) j c)
        have HS := Lib.hid hS; have HKS := Lib.hid hKS; have Hkj := Lib.hid hkj
        clear hS hKS hkj
        go_wp2_with fail
        go_roundw
        case rel => exact ⟨j, by have := Hkj.out; omega, HS.out, HKS.out, fun i h1 h2 => by
          have := Hkj.out
          rcases (by omega : i = j ∨ k ≤ i) with e | e
          · rw [e]; exact Hd.out
          · exact Hz.out i e h2⟩
        case measure =>
          have h1 : lenAt (wr.setCell ⟨w.heap.size, 1, none⟩ (.slice (some ⟨b', off, none⟩) j c)) w.heap.size = j := by unfold lenAt; rw [HS.out.c1]
          have := Hkj.out
          rw [h1, Hme.out]
          omega
      · have hdn : decide (d = 0) = false := decide_eq_false hd0
        have hdd : (d == 0) = false := by simpa using hd0
        have Hd0 := Lib.hid hd0
        have Hkj := Lib.hid hkj
        clear hkj
        cases b with
        | true =>
          have hS := Hb.out.put0 (.bool true)
          have hKS := HK.out.set (b := w.heap.size) (Nat.le_refl _) (by omega) 0 (.bool true)
          have hsl := Htk2.out k hk _ hKS.x
          have s0 := hS.c0
          have s1 := hS.c1
          have k0 := hKS.res.c0; have k1 := hKS.res.c1; have z0 := hKS.res.fz 0; have z1 := hKS.res.fz 1
          obtain ⟨hb5, hx5⟩ := hKS.fin (by omega) (.bool true) (.slice (some ⟨b', off, none⟩) k c)
          have hsl2 := Htk2.out k hk _ hx5
          have Hb5 := Lib.hid hb5; have Hx5 := Lib.hid hx5; have Hsl2 := Lib.hid hsl2
          clear hS hKS hsl hb5 hx5 hsl2
          go_wp2_with fail
          have hd0' := Hb5.out.c0
          have hd1' := Hb5.out.c1
          exact bodyPost_ret (v := .agg #[.bool true, .slice (some ⟨b', off, none⟩) k c]) (by simp [results, Tryz.results111, go_sem, hd0', hd1']) rfl ⟨_, k, by rw [decide_eq_true hk0], hk, fun i h1 h2 => Hz.out i h1 h2, fun i e => by rw [show i = j by have := Hkj.out; omega, Hd.out]; exact fun e => Hd0.out (Option.some.inj e), Hsl2.out, Hx5.out⟩
        | false =>
          have hS := Hb.out.put0 (.bool false)
          have hKS := HK.out.set (b := w.heap.size) (Nat.le_refl _) (by omega) 0 (.bool false)
          have hsl := Htk2.out k hk _ hKS.x
          have s0 := hS.c0
          have s1 := hS.c1
          have k0 := hKS.res.c0; have k1 := hKS.res.c1; have z0 := hKS.res.fz 0; have z1 := hKS.res.fz 1
          obtain ⟨hb5, hx5⟩ := hKS.fin (by omega) (.bool false) (.slice (some ⟨b', off, none⟩) k c)
          have hsl2 := Htk2.out k hk _ hx5
          have Hb5 := Lib.hid hb5; have Hx5 := Lib.hid hx5; have Hsl2 := Lib.hid hsl2
          clear hS hKS hsl hb5 hx5 hsl2
          go_wp2_with fail
          have hd0' := Hb5.out.c0
          have hd1' := Hb5.out.c1
          exact bodyPost_ret (v := .agg #[.bool false, .slice (some ⟨b', off, none⟩) k c]) (by simp [results, Tryz.results111, go_sem, hd0', hd1']) rfl ⟨_, rfl, k, hk, fun i h1 h2 => Hz.out i h1 h2, fun i e => by rw [show i = j by have := Hkj.out; omega, Hd.out]; exact fun e => Hd0.out (Option.some.inj e), Hsl2.out, Hx5.out⟩
    · obtain rfl : k = 0 := by omega
      have hkd : decide (((0 : Nat) : Int) > 0) = false := by decide
      cases b with
      | true =>
        have hS := Hb.out.put0 (.bool false)
        have hKS := HK.out.set (b := w.heap.size) (Nat.le_refl _) (by omega) 0 (.bool false)
        have hsl := Htk2.out 0 hk _ hKS.x
        have s0 := hS.c0
        have s1 := hS.c1
        have k0 := hKS.res.c0; have k1 := hKS.res.c1; have z0 := hKS.res.fz 0; have z1 := hKS.res.fz 1
        obtain ⟨hb5, hx5⟩ := hKS.fin (by omega) (.bool false) (.slice a 0 c)
        have hsl2 := Htk2.out 0 hk _ hx5
        have Hb5 := Lib.hid hb5; have Hx5 := Lib.hid hx5; have Hsl2 := Lib.hid hsl2
        clear hS hKS hsl hb5 hx5 hsl2
        go_wp2_with fail
        have hd0' := Hb5.out.c0
        have hd1' := Hb5.out.c1
        exact bodyPost_ret (v := .agg #[.bool false, .slice a 0 c]) (by simp [results, Tryz.results111, go_sem, hd0', hd1']) rfl ⟨_, 0, rfl, Nat.zero_le _, fun i h1 h2 => Hz.out i h1 h2, fun i e => by omega, Hsl2.out, Hx5.out⟩
      | false =>
        have hS := Hb.out.put0 (.bool false)
        have hKS := HK.out.set (b := w.heap.size) (Nat.le_refl _) (by omega) 0 (.bool false)
        have hsl := Htk2.out 0 hk _ hKS.x
        have s0 := hS.c0
        have s1 := hS.c1
        have k0 := hKS.res.c0; have k1 := hKS.res.c1; have z0 := hKS.res.fz 0; have z1 := hKS.res.fz 1
        obtain ⟨hb5, hx5⟩ := hKS.fin (by omega) (.bool false) (.slice a 0 c)
        have hsl2 := Htk2.out 0 hk _ hx5
        have Hb5 := Lib.hid hb5; have Hx5 := Lib.hid hx5; have Hsl2 := Lib.hid hsl2
        clear hS hKS hsl hb5 hx5 hsl2
        go_wp2_with fail
        have hd0' := Hb5.out.c0
        have hd1' := Hb5.out.c1
        exact bodyPost_ret (v := .agg #[.bool false, .slice a 0 c]) (by simp [results, Tryz.results111, go_sem, hd0', hd1']) rfl ⟨_, 0, rfl, Nat.zero_le _, fun i h1 h2 => Hz.out i h1 h2, fun i e => by omega, Hsl2.out, Hx5.out⟩
end Go.Proofs.YtajdfggocldeaaaGreatDoor

namespace Go.Proofs.YtajdfggocldeaaaGreatDoor
open Go.RowKit Go.Lib Go.Shelf
attribute [local go_sem] Oper.semAt_some
/-- Ints do not lie in a block that holds none. -/
theorem sl_past {T : TypeId} {W : World} {c : Nat} {u v s : Value} {xs : List Int} (hs : Sl W s (i64s xs)) (hb : BoxT T W c u v) (hu : ∀ z, u ≠ .int .i64 z) (hv : ∀ z, v ≠ .int .i64 z) (x y : Value) : Sl ((W.setCell ⟨c, 0, none⟩ x).setCell ⟨c, 1, none⟩ y) s (i64s xs) := by
  rcases hs with ⟨a, cap, e, hm, h0⟩ | ⟨b, off, cap, e, h1, h2, hc⟩
  · exact .inl ⟨a, cap, e, hm, h0⟩
  · refine .inr ⟨b, off, cap, e, h1, h2, fun i q hq => ?_⟩
    have h := hc i q hq
    have hbc : b ≠ c := by
      rintro rfl
      obtain ⟨z, rfl⟩ : ∃ z, q = .int .i64 z := by
        unfold i64s at hq
        rw [List.getElem?_map] at hq
        cases hz : xs[i]? with
        | none => rw [hz] at hq; cases hq
        | some z => rw [hz] at hq; exact ⟨z, (Option.some.inj hq).symm⟩
      unfold World.cell? at h
      dsimp only at h
      rw [hb] at h
      rcases (by omega : off + i = 0 ∨ off + i = 1 ∨ 2 ≤ off + i) with g | g | g
      · rw [g] at h
        exact hu z (Option.some.inj h)
      · rw [g] at h
        exact hv z (Option.some.inj h)
      · have : (#[u, v] : Array Value)[off + i]? = none := Array.getElem?_eq_none (by simpa using g)
        simp [this] at h
    rw [World.cell?_setCell_other _ _ _ _ (by intro e'; simp only [Addr.mk.injEq] at e'; exact hbc e'.1.symm), World.cell?_setCell_other _ _ _ _ (by intro e'; simp only [Addr.mk.injEq] at e'; exact hbc e'.1.symm)]
    exact h
/-- The digits of a number of one digit. -/
def dg (z : Int) : List Int := if z = 0 then [] else [(z.natAbs : Int)]
/-- A number of one digit, as the reference holds it. -/
def W1 (w : World) (v : Value) (z : Int) : Prop := ∃ u, v = .agg #[.bool (decide (z < 0)), u] ∧ Sl w u (i64s (dg z))
theorem W1.ext {w w' : World} {v : Value} {z : Int} (hx : Ext w w') (h : W1 w v z) : W1 w' v z := by
  obtain ⟨u, e, h⟩ := h
  exact ⟨u, e, hx.sl h⟩
def sgn1 (b : Bool) (m : Nat) : Int := if b then -(m : Int) else m
/-- trim of a digit with zeros behind it. -/
theorem rtrim1_c (u : Value) (b : Bool) (m zs : Nat) (w : World) (hu : Sl w u (i64s ((m : Int) :: List.replicate zs 0))) (hz : zs ≤ 100) :
    Calls Tryz.prog 111 #[.agg #[.bool b, u]] w fun e w' => ∃ v, e = .returned v ∧ W1 w' v (sgn1 b m) ∧ Ext w w' := by
  refine (rtrim_c u b _ w hu (by simp; omega)).mono ?_
  rintro e w' ⟨u', k, rfl, hk, h0, h1, hs, hx⟩
  refine ⟨_, rfl, ⟨u', ?_, ?_⟩, hx⟩
  all_goals
    have hk1 : k ≤ 1 := by
      rcases Nat.lt_or_ge 1 k with g | g
      · exfalso
        obtain ⟨j, rfl⟩ : ∃ j, k = j + 2 := ⟨k - 2, by omega⟩
        refine h1 (j + 1) (by omega) ?_
        rw [List.getElem?_cons_succ, List.getElem?_replicate, if_pos (by simp at hk; omega)]
      · exact g
    have hkm : (k = 0 ∧ m = 0) ∨ (k = 1 ∧ m ≠ 0) := by
      rcases (by omega : k = 0 ∨ k = 1) with e | e
      · left
        have := h0 0 (by omega) (by simp)
        simp at this
        exact ⟨e, by omega⟩
      · right
        refine ⟨e, fun g => h1 0 (by omega) ?_⟩
        rw [g]; rfl
  · rcases hkm with ⟨rfl, rfl⟩ | ⟨rfl, hm⟩
    · cases b <;> simp [sgn1]
    · cases b
      · simp [sgn1]
      · simp [sgn1]; omega
  · rcases hkm with ⟨rfl, rfl⟩ | ⟨rfl, hm⟩
    · have : dg (sgn1 b 0) = [] := by cases b <;> rfl
      rw [this]
      exact hs
    · have : dg (sgn1 b m) = [(m : Int)] := by
        unfold dg sgn1
        cases b
        · rw [if_neg (by simp; omega)]; simp
        · rw [if_neg (by simp; omega)]; simp
      rw [this]
      exact hs
theorem rtrim0_c (u : Value) (b : Bool) (w : World) (hu : Sl w u (i64s [])) :
    Calls Tryz.prog 111 #[.agg #[.bool b, u]] w fun e w' => ∃ v, e = .returned v ∧ W1 w' v 0 ∧ Ext w w' := by
  refine (rtrim_c u b _ w hu (by simp)).mono ?_
  rintro e w' ⟨u', k, rfl, hk, h0, h1, hs, hx⟩
  obtain rfl : k = 0 := by simpa using hk
  exact ⟨_, rfl, ⟨u', by simp, hs⟩, hx⟩
theorem hasNeg (z : Int) : Lib.hasPrefix (I z).data.toList (⟨#[45]⟩ : ByteArray).data.toList = decide (z < 0) := by
  unfold Lib.hasPrefix
  rw [show (I z).data.toList = (I z).toList from (Lib.toList_data _).symm]
  show ([45] : List UInt8).isPrefixOf (I z).toList = _
  rcases (by omega : z < 0 ∨ 0 ≤ z) with h | h
  · obtain ⟨n, rfl⟩ : ∃ n : Nat, z = -(n : Int) := ⟨z.natAbs, by omega⟩
    rw [I_neg_list n (by omega), decide_eq_true h]
    rfl
  · obtain ⟨n, rfl⟩ : ∃ n : Nat, z = (n : Int) := ⟨z.toNat, by omega⟩
    rw [I_nat, D_list, decide_eq_false (by omega)]
    cases hd : decDigits n with
    | nil => rfl
    | cons c l =>
      have h1 := Dec.dig_dec n c (by rw [hd]; exact List.mem_cons_self ..)
      show ([45].isPrefixOf (c :: l)) = false
      have hc : ((45 : UInt8) == c) = false := by
        rw [beq_eq_false_iff_ne]
        rintro rfl
        revert h1
        decide
      simp [List.isPrefixOf, hc]
theorem to_c (z : Int) (w : World) (h0 : -1000000000 < z) (h1 : z < 1000000000) :
    Calls Tryz.prog 73 #[.string (I z)] w fun e w' => ∃ v, e = .returned v ∧ W1 w' v z ∧ Ext w w' := by
  obtain ⟨i0, hi, hz0, hz1, hz2⟩ := info_parts info_int
  obtain ⟨m, hm⟩ : ∃ m : Nat, m = z.natAbs := ⟨_, rfl⟩
  have hpf := fun W => Any.strings_HasPrefix Tryz.lHasPrefix (I z) ⟨#[45]⟩ W
  rw [hasNeg] at hpf
  have hat := fun W => atoi_c (m : Int) (by omega) (by omega) W
  rw [I_nat] at hat
  have hsz : (D m).size ≤ 9 ∧ 0 < (D m).size := by
    rw [D_size]
    exact ⟨Dec.nDigits_le (by omega) (by show m < 1000000000; omega), nDigits_pos m⟩
  have htr := fun (W : World) (u : Value) (hu : Sl W u (i64s [(m : Int)])) => rtrim1_c u (decide (z < 0)) m 0 W hu (by omega)
  have hsg : sgn1 (decide (z < 0)) m = z := by
    unfold sgn1
    by_cases h : z < 0
    · rw [decide_eq_true h, if_pos rfl]; omega
    · rw [decide_eq_false h, if_neg (by simp)]; omega
  rw [hsg] at htr
  have hcut : z < 0 → (I z).extract 1 (I z).size = D m ∧ (1 : Int) ≤ ((I z).size : Int) := fun h => by
    obtain rfl : z = -(m : Int) := by omega
    refine ⟨I_neg_tail m (by omega), ?_⟩
    rw [I_neg_size m (by omega)]
    omega
  have hpos : ¬ z < 0 → I z = D m := fun h => by rw [← I_nat]; congr 1; omega
  have hex : (D m).extract 0 (D m).size = D m := by
    apply ByteArray.ext
    rw [ByteArray.data_extract]
    show (D m).data.extract 0 (D m).data.size = _
    rw [Array.extract_size]
  have hmb : (m : Int) < 1000000000 := by omega
  generalize hb : decide (z < 0) = b at *
  generalize hsI : I z = sz at *
  generalize hsD : D m = sm at *
  have hb0 : b = true → z < 0 := fun h => by rw [h] at hb; exact of_decide_eq_true hb
  have hb1 : b = false → ¬ z < 0 := fun h => by rw [h] at hb; exact of_decide_eq_false hb
  have ht0 : sm.extract 0 0 = ⟨#[]⟩ := by
    apply ByteArray.ext
    rw [ByteArray.data_extract, Array.extract_empty_of_stop_le_start (Nat.le_refl _)]
  have hE1 : Ext w ((w.alloc (.cells #[.bool false, .slice none 0 0] 110)).alloc (.cells #[.bool b, .slice none 0 0] 110)) := ((Ext.refl w).alloc _).alloc _
  have b1 := (BoxT.new 110 w (.bool false) (.slice none 0 0)).ext ((Ext.refl _).alloc (.cells #[.bool b, .slice none 0 0] 110))
  have b2 := BoxT.new 110 (w.alloc (.cells #[.bool false, .slice none 0 0] 110)) (.bool b) (.slice none 0 0)
  rw [World.size_alloc] at b2
  obtain ⟨hs9, hs0⟩ := hsz
  have hs9i : (sm.size : Int) ≤ 9 := by omega
  have hs0i : (0 : Int) < (sm.size : Int) := by omega
  have hsd : decide ((sm.size : Int) > 0) = true := decide_eq_true (by omega)
  have hmx : max (0 : Int) ((sm.size : Int) - 9) = 0 := by omega
  have hwx : IntKind.i64.wrap ((sm.size : Int) - 9) = (sm.size : Int) - 9 := by rw [IntKind.wrap_i64]; omega
  have Hpf := Lib.hid hpf; have Hat := Lib.hid hat; have Htr := Lib.hid htr; have HE1 := Lib.hid hE1; have B1 := Lib.hid b1; have B2 := Lib.hid b2
  clear hpf hat htr hE1 b1 b2 hsg hb hm h0 h1
  cases b
  · have hsm : sz = sm := by exact hpos (hb1 rfl)
    subst hsm
    clear hsI hsD hcut hpos hb0 hb1
    have q0 := B2.out.c0
    have q1 := B2.out.c1
    have f1 := B2.out.fz 1
    go_enter Tryz.func73, Tryz.ntmps73
    go_wp2_with fail
    refine (Hpf.out _).mono ?_
    rintro e w1 ⟨rfl, rfl⟩
    go_wp2_with fail
    refine wp_loop_rounds 2 ?_
    rw [rounds_succ]
    go_wp2_with fail
    refine (Hat.out _).mono ?_
    rintro e w2 ⟨rfl, hx2⟩
    have hb2' := B2.out.ext hx2
    have hEw2 := HE1.out.trans hx2
    have hR2 := B1.out.ext hx2
    have r1 := hb2'.c1
    have hbase : w.heap.size ≤ w2.heap.size := hEw2.size
    have HB2 := Lib.hid hb2'; have HEw2 := Lib.hid hEw2; have HR2 := Lib.hid hR2
    clear hb2' hx2 hEw2 hR2 q0 q1 f1
    go_wp2_with (at_builtin; refine wpList_append_own _ rfl _ _ 31 rfl w.heap.size 3 i0 (.int .i64 0) 1 8 Tryz.underlying31 hi hz0 hz1 hz2 rfl (by decide) _ _ _ rfl ((World.ownsRow_nil w2 _ _ 1).alloc _) ⟨w2.heap.size, 0, none⟩ 1 1 [.int .i64 m] rfl rfl (cell_one_new _ _ _) (by simp [Value.oneCell']) (by decide) (by decide) (by rw [World.size_alloc]; omega) ?_; intro v7 V7 hown7 hgrow7 _; have hbV : BoxT 110 V7 (w.heap.size + 1) (.bool false) (.slice none 0 0) := kept_box (((Ext.refl w2).alloc _).heap HB2.out) ((World.ownsRow_nil w2 w.heap.size 3 1).alloc (.cells #[.int .i64 m] 3)) (by decide) hgrow7; have hrV : BoxT 110 V7 w.heap.size (.bool false) (.slice none 0 0) := kept_box (((Ext.refl w2).alloc _).heap HR2.out) ((World.ownsRow_nil w2 w.heap.size 3 1).alloc (.cells #[.int .i64 m] 3)) (by decide) hgrow7; have d1 := hbV.c1; have e1 := hbV.fz 1; obtain ⟨a7, c7, rfl⟩ := own_shape hown7)
    have hEV : Ext w (V7.setCell ⟨w.heap.size + 1, 1, none⟩ (.slice a7 (0 + 1) c7)) := ((HEw2.out.alloc _).grown hgrow7 (fun k hk => (World.ownsRow.lt ((World.ownsRow_nil w2 w.heap.size 3 1).alloc (.cells #[.int .i64 m] 3)) k hk).1)).setCell (by show w.heap.size ≤ w.heap.size + 1; omega) _
    have hb8 := hbV.put1 (.slice a7 (0 + 1) c7)
    have hr8 := hrV.past1 (c := w.heap.size + 1) 1 (by omega) (.slice a7 (0 + 1) c7)
    have hs8 : Sl (V7.setCell ⟨w.heap.size + 1, 1, none⟩ (.slice a7 (0 + 1) c7)) (.slice a7 (0 + 1) c7) (i64s [(m : Int)]) := sl_own (own_set_apart hbV hown7 (by decide) 1 (.slice a7 (0 + 1) c7))
    have HEV := Lib.hid hEV; have Hb8 := Lib.hid hb8; have Hr8 := Lib.hid hr8; have Hs8 := Lib.hid hs8
    clear hEV hb8 hr8 hs8 hown7 hgrow7 hbV hrV d1 e1 r1 hbase
    generalize V7.setCell ⟨w.heap.size + 1, 1, none⟩ (.slice a7 (0 + 1) c7) = V8 at *
    have s0 := Hb8.out.c0
    have s1 := Hb8.out.c1
    rw [rounds_succ]
    go_wp2_with fail
    have htr8 := Htr.out V8 _ Hs8.out
    have Htr8 := Lib.hid htr8
    clear htr8
    go_wp2_with fail
    refine Htr8.out.mono ?_
    rintro e W9 ⟨v9, rfl, hw9, hx9⟩
    obtain ⟨u9, rfl, hs9'⟩ := hw9
    obtain ⟨a9, c9, rfl, _, _, _⟩ := hs9'.parts
    have hK : K0 110 w W9 w.heap.size := ⟨HEV.out.trans hx9, _, _, Hr8.out.ext hx9⟩
    have k0 := hK.res.c0; have k1 := hK.res.c1; have z0 := hK.res.fz 0; have z1 := hK.res.fz 1
    obtain ⟨hb5, hx5⟩ := hK.fin (Nat.le_refl _) (.bool (decide (z < 0))) (.slice a9 (i64s (dg z)).length c9)
    have hs5 := sl_past hs9' (Hr8.out.ext hx9) (by simp) (by simp) (.bool (decide (z < 0))) (.slice a9 (i64s (dg z)).length c9)
    have Hb5 := Lib.hid hb5; have Hx5 := Lib.hid hx5
    clear hb5 hx5
    go_wp2_with fail
    have hd0' := Hb5.out.c0
    have hd1' := Hb5.out.c1
    exact bodyPost_ret (v := .agg #[.bool (decide (z < 0)), .slice a9 (i64s (dg z)).length c9]) (by simp [results, Tryz.results73, go_sem, hd0', hd1']) rfl ⟨_, rfl, ⟨_, rfl, hs5⟩, Hx5.out⟩
  · obtain ⟨hc1, hc2⟩ := hcut (hb0 rfl)
    clear hsI hsD hcut hpos hb0 hb1
    have q0 := B2.out.c0
    have q1 := B2.out.c1
    have f1 := B2.out.fz 1
    go_enter Tryz.func73, Tryz.ntmps73
    go_wp2_with fail
    refine (Hpf.out _).mono ?_
    rintro e w1 ⟨rfl, rfl⟩
    go_wp2_with fail
    refine wp_loop_rounds 2 ?_
    rw [rounds_succ]
    go_wp2_with fail
    refine (Hat.out _).mono ?_
    rintro e w2 ⟨rfl, hx2⟩
    have hb2' := B2.out.ext hx2
    have hEw2 := HE1.out.trans hx2
    have hR2 := B1.out.ext hx2
    have r1 := hb2'.c1
    have hbase : w.heap.size ≤ w2.heap.size := hEw2.size
    have HB2 := Lib.hid hb2'; have HEw2 := Lib.hid hEw2; have HR2 := Lib.hid hR2
    clear hb2' hx2 hEw2 hR2 q0 q1 f1
    go_wp2_with (at_builtin; refine wpList_append_own _ rfl _ _ 31 rfl w.heap.size 3 i0 (.int .i64 0) 1 8 Tryz.underlying31 hi hz0 hz1 hz2 rfl (by decide) _ _ _ rfl ((World.ownsRow_nil w2 _ _ 1).alloc _) ⟨w2.heap.size, 0, none⟩ 1 1 [.int .i64 m] rfl rfl (cell_one_new _ _ _) (by simp [Value.oneCell']) (by decide) (by decide) (by rw [World.size_alloc]; omega) ?_; intro v7 V7 hown7 hgrow7 _; have hbV : BoxT 110 V7 (w.heap.size + 1) (.bool true) (.slice none 0 0) := kept_box (((Ext.refl w2).alloc _).heap HB2.out) ((World.ownsRow_nil w2 w.heap.size 3 1).alloc (.cells #[.int .i64 m] 3)) (by decide) hgrow7; have hrV : BoxT 110 V7 w.heap.size (.bool false) (.slice none 0 0) := kept_box (((Ext.refl w2).alloc _).heap HR2.out) ((World.ownsRow_nil w2 w.heap.size 3 1).alloc (.cells #[.int .i64 m] 3)) (by decide) hgrow7; have d1 := hbV.c1; have e1 := hbV.fz 1; obtain ⟨a7, c7, rfl⟩ := own_shape hown7)
    have hEV : Ext w (V7.setCell ⟨w.heap.size + 1, 1, none⟩ (.slice a7 (0 + 1) c7)) := ((HEw2.out.alloc _).grown hgrow7 (fun k hk => (World.ownsRow.lt ((World.ownsRow_nil w2 w.heap.size 3 1).alloc (.cells #[.int .i64 m] 3)) k hk).1)).setCell (by show w.heap.size ≤ w.heap.size + 1; omega) _
    have hb8 := hbV.put1 (.slice a7 (0 + 1) c7)
    have hr8 := hrV.past1 (c := w.heap.size + 1) 1 (by omega) (.slice a7 (0 + 1) c7)
    have hs8 : Sl (V7.setCell ⟨w.heap.size + 1, 1, none⟩ (.slice a7 (0 + 1) c7)) (.slice a7 (0 + 1) c7) (i64s [(m : Int)]) := sl_own (own_set_apart hbV hown7 (by decide) 1 (.slice a7 (0 + 1) c7))
    have HEV := Lib.hid hEV; have Hb8 := Lib.hid hb8; have Hr8 := Lib.hid hr8; have Hs8 := Lib.hid hs8
    clear hEV hb8 hr8 hs8 hown7 hgrow7 hbV hrV d1 e1 r1 hbase
    generalize V7.setCell ⟨w.heap.size + 1, 1, none⟩ (.slice a7 (0 + 1) c7) = V8 at *
    have s0 := Hb8.out.c0
    have s1 := Hb8.out.c1
    rw [rounds_succ]
    go_wp2_with fail
    have htr8 := Htr.out V8 _ Hs8.out
    have Htr8 := Lib.hid htr8
    clear htr8
    go_wp2_with fail
    refine Htr8.out.mono ?_
    rintro e W9 ⟨v9, rfl, hw9, hx9⟩
    obtain ⟨u9, rfl, hs9'⟩ := hw9
    obtain ⟨a9, c9, rfl, _, _, _⟩ := hs9'.parts
    have hK : K0 110 w W9 w.heap.size := ⟨HEV.out.trans hx9, _, _, Hr8.out.ext hx9⟩
    have k0 := hK.res.c0; have k1 := hK.res.c1; have z0 := hK.res.fz 0; have z1 := hK.res.fz 1
    obtain ⟨hb5, hx5⟩ := hK.fin (Nat.le_refl _) (.bool (decide (z < 0))) (.slice a9 (i64s (dg z)).length c9)
    have hs5 := sl_past hs9' (Hr8.out.ext hx9) (by simp) (by simp) (.bool (decide (z < 0))) (.slice a9 (i64s (dg z)).length c9)
    have Hb5 := Lib.hid hb5; have Hx5 := Lib.hid hx5
    clear hb5 hx5
    go_wp2_with fail
    have hd0' := Hb5.out.c0
    have hd1' := Hb5.out.c1
    exact bodyPost_ret (v := .agg #[.bool (decide (z < 0)), .slice a9 (i64s (dg z)).length c9]) (by simp [results, Tryz.results73, go_sem, hd0', hd1']) rfl ⟨_, rfl, ⟨_, rfl, hs5⟩, Hx5.out⟩
end Go.Proofs.YtajdfggocldeaaaGreatDoor
