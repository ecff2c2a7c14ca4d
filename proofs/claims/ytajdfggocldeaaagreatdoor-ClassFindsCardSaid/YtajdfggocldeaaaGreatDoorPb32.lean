/- Walks: slices.DeleteFunc at a list of sizes that a call made, with a closure that makes memory: how many stay. Walks: class.Varieties. Walks: slices.IndexFunc and slices.ContainsFunc at lists of classes, with a closure that makes memory. -/
import Derived.Test.YtajdfggocldeaaaGreatDoorPb22
import Derived.Test.YtajdfggocldeaaaGreatDoorPb20
import Derived.Test.YtajdfggocldeaaaGreatDoorPb31
import Derived.Shelf.Abstract
set_option maxRecDepth 100000
set_option maxHeartbeats 2000000
namespace Go.Proofs.YtajdfggocldeaaaGreatDoor
open Go.RowKit Go.Lib Go.Shelf Go.Sort
theorem only_setCells {a w : World} {g : Nat} (h : a.grownBy w (some g)) : ∀ (us : List Value) (o : Nat), a.grownBy (w.setCells g o us) (some g) := by
  intro us
  induction us generalizing w with
  | nil => intro o; exact h
  | cons u us ih => intro o; exact ih (only_setCell h rfl u) (o + 1)
theorem own_cellAt {w : World} {B E g n cap : Nat} {xs : List Value} (h : w.ownsRow B E 1 (.slice (some ⟨g, 0, none⟩) n cap) n xs) {j : Nat} {u : Value} (hj : xs[j]? = some u) : w.cell? ⟨g, j, none⟩ = some u := by
  have := h.cells (g := g) rfl j u hj
  rwa [show ((⟨g, 0, none⟩ : Addr).add j) = ⟨g, j, none⟩ by unfold Addr.add; split <;> simp_all] at this
theorem own_cap {w : World} {B : Nat} {a : Option Addr} {E s k c n : Nat} {xs : List Value} (h : w.ownsRow B E s (.slice a k c) n xs) : n ≤ c ∧ k = n := by
  rcases h.2 with ⟨e0, h0⟩ | ⟨g, cap, cur, e0, _, _, h1, _⟩
  · injection e0 with _ e2 e3; omega
  · injection e0 with _ e2 e3; omega
theorem midD_at {rs C : List Qw} {m : Nat} {r : Qw} (h : rs[m]? = some r) (hC : C.length ≤ m) : (qwc (C ++ rs.drop C.length))[m]? = some r.u := by
  unfold qwc
  rw [List.getElem?_map, List.getElem?_append_right hC, List.getElem?_drop, show C.length + (m - C.length) = m by omega, h]
  rfl
theorem midD_set {rs C : List Qw} {r : Qw} (hC : C.length < rs.length) : (qwc (C ++ rs.drop C.length)).set C.length r.u = qwc ((C ++ [r]) ++ rs.drop (C ++ [r]).length) := by
  unfold qwc
  rw [List.drop_eq_getElem_cons hC, List.map_append, List.set_append_right _ _ (by simp), List.length_map, Nat.sub_self, List.map_cons, List.set_cons_zero]
  simp
/-- Those of the first m that stay. -/
def keptQ (del : List Rat → Bool) (rs : List Qw) (m : Nat) : List Qw := (rs.take m).filter fun r => !del r.x
theorem keptQ_step {del : List Rat → Bool} {rs : List Qw} {m : Nat} {r : Qw} (h : rs[m]? = some r) : keptQ del rs (m + 1) = keptQ del rs m ++ (if del r.x then [] else [r]) := by
  obtain ⟨hl, rfl⟩ := List.getElem?_eq_some_iff.1 h
  unfold keptQ
  rw [List.take_succ_eq_append_getElem hl, List.filter_append]
  congr 1
  cases hd : del rs[m].x <;> simp [hd]
theorem keptQ_all {del : List Rat → Bool} {rs : List Qw} {m : Nat} (h : ∀ r ∈ rs.take m, del r.x = false) : keptQ del rs m = rs.take m := by
  unfold keptQ
  rw [List.filter_eq_self.2]
  intro r hr
  rw [h r hr]; rfl
theorem keptQ_full (del : List Rat → Bool) (rs : List Qw) : keptQ del rs rs.length = rs.filter fun r => !del r.x := by unfold keptQ; rw [List.take_length]
/-- The loop of DeleteFunc. -/
def DlQ (W : World) (B g cap : Nat) (rs : List Qw) (del : List Rat → Bool) (v5 v6 : Value) (wr : World) : Prop :=
  ∃ m c : Nat, v5 = .int .i64 c ∧ v6 = .int .i64 (m : Int) ∧ m ≤ rs.length ∧ (keptQ del rs m).length = c ∧ c + 1 ≤ m ∧ wr.ownsRow B 28 1 (.slice (some ⟨g, 0, none⟩) rs.length cap) rs.length (qwc (keptQ del rs m ++ rs.drop c)) ∧ W.grownBy wr (some g)
theorem dlq_skip {W wr w' : World} {B g cap m c : Nat} {rs : List Qw} {del : List Rat → Bool} {r : Qw} (hr : rs[m]? = some r) (hk : del r.x = true) (hC : (keptQ del rs m).length = c) (hc : c + 1 ≤ m)
    (ho : wr.ownsRow B 28 1 (.slice (some ⟨g, 0, none⟩) rs.length cap) rs.length (qwc (keptQ del rs m ++ rs.drop c))) (hg : W.grownBy wr (some g)) (hx : Ext wr w') : DlQ W B g cap rs del (.int .i64 c) (.int .i64 ((m : Int) + 1)) w' := by
  have e : keptQ del rs (m + 1) = keptQ del rs m := by rw [keptQ_step hr, hk]; simp
  have hl := (List.getElem?_eq_some_iff.1 hr).1
  refine ⟨m + 1, c, rfl, by simp, by omega, by rw [e]; exact hC, by omega, ?_, only_ext hg hx⟩
  rw [e]
  exact hx.own ho
theorem dlq_keep {W wr w' : World} {B g cap m c : Nat} {rs : List Qw} {del : List Rat → Bool} {r : Qw} (hr : rs[m]? = some r) (hk : del r.x = false) (hC : (keptQ del rs m).length = c) (hc : c + 1 ≤ m)
    (ho : wr.ownsRow B 28 1 (.slice (some ⟨g, 0, none⟩) rs.length cap) rs.length (qwc (keptQ del rs m ++ rs.drop c))) (hg : W.grownBy wr (some g)) (hx : Ext wr w') : DlQ W B g cap rs del (.int .i64 ((c : Int) + 1)) (.int .i64 ((m : Int) + 1)) (w'.setCell ⟨g, c, none⟩ r.u) := by
  have e : keptQ del rs (m + 1) = keptQ del rs m ++ [r] := by rw [keptQ_step hr, hk]; simp
  have hl := (List.getElem?_eq_some_iff.1 hr).1
  have ho2 := (World.ownsRow.stored (hx.own ho) c r.u).1
  refine ⟨m + 1, c + 1, by simp, by simp, by omega, by rw [e, List.length_append, hC]; rfl, by omega, ?_, only_setCell (only_ext hg hx) rfl _⟩
  rw [e]
  subst hC
  rw [midD_set (by omega)] at ho2
  rw [List.length_append] at ho2
  exact ho2
theorem deleteQ_c {W : World} {B g cap : Nat} {rs : List Qw} {del : List Rat → Bool} (gf : Nat) (cb : Array Value) (hs : QwM W B B (.slice (some ⟨g, 0, none⟩) rs.length cap) rs) (hl : rs.length ≤ 1000) (eg : ∀ args w, (callFunc gf args).run Tryz.prog w = .ok (.enter gf args) w)
    (hdel : ∀ W', W.grownBy W' (some g) → ∀ r ∈ rs, Calls Tryz.prog gf (#[r.u] ++ cb) W' fun e w' => e = .returned (.bool (del r.x)) ∧ Ext W' w') :
    Calls Tryz.prog 31 #[.slice (some ⟨g, 0, none⟩) rs.length cap, .func (.func gf) #[] cb] W fun e w' => ∃ c, e = .returned (.slice (some ⟨g, 0, none⟩) (rs.filter fun r => !del r.x).length c) ∧ W.grownBy w' (some g) := by
  have hcell : ∀ (j : Nat) (r : Qw), rs[j]? = some r → W.cell? ⟨g, j, none⟩ = some r.u := fun j r h => own_cellAt hs.1 (by simp [qwc, h])
  have hix := idxQ_c gf cb _ rs del W (sl_own hs.1) hl eg (fun W' hE => hdel W' (only_ext (only_refl W _) hE))
  have hcap : rs.length ≤ cap := (own_cap hs.1).1
  have hcap2 : cap ≤ maxLen := by
    rcases hs.1.2 with ⟨e0, _⟩ | ⟨g', cap', cur, e0, _, _, _, hm, _⟩
    · cases e0
    · injection e0 with _ _ e3; omega
  unfold maxLen at hcap2
  have Hs := Lib.hid hs; have Hix := Lib.hid hix; have Hdel := Lib.hid hdel
  clear hs hix hdel hcell
  go_enter Tryz.func31, Tryz.ntmps31
  go_wp2_with fail
  refine Hix.out.mono ?_
  rintro e W1 ⟨i, rfl, hi, hx1⟩
  rcases hi with ⟨rfl, hall⟩ | ⟨k, r0, rfl, hr0, hd0, hall⟩
  · have hfl : (rs.filter fun r => !del r.x) = rs := List.filter_eq_self.2 fun r hr => by rw [hall r hr]; rfl
    have Hfl := Lib.hid hfl; have Hx1 := Lib.hid hx1; clear hfl hall hx1
    go_wp2
    go_ret
    first | exact ⟨cap, by rw [Hfl.out]; rfl, only_ext (only_refl W _) Hx1.out⟩ | exact ⟨⟨cap, by rw [Hfl.out]; rfl⟩, only_ext (only_refl W _) Hx1.out⟩
  · have hk : k < rs.length := (List.getElem?_eq_some_iff.1 hr0).1
    have hk1 : keptQ del rs (k + 1) = rs.take k := by rw [keptQ_step hr0, hd0, if_pos rfl, List.append_nil]; exact keptQ_all hall
    have hown : W1.ownsRow B 28 1 (.slice (some ⟨g, 0, none⟩) rs.length cap) rs.length (qwc (keptQ del rs (k + 1) ++ rs.drop k)) := by
      rw [hk1, List.take_append_drop]; exact hx1.own Hs.out.1
    have hlk : (keptQ del rs (k + 1)).length = k := by rw [hk1, List.length_take]; omega
    have hgr := only_ext (only_refl W (some g)) hx1
    have Hown := Lib.hid hown; have Hlk := Lib.hid hlk; have Hgr := Lib.hid hgr
    clear hall hr0 hd0 hk1 hown hlk hgr hx1
    have hkm : ((k : Int) == -1) = false := beq_eq_false_iff_ne.2 (by omega)
    go_wp2_with fail
    go_loopw [5, 6] (fun v5 v6 wr => DlQ W B g cap rs del v5 v6 wr) (fun _ v6 _ => rs.length - (intOf v6).toNat)
    case atStart => exact ⟨k + 1, k, rfl, by simp, hk, Hlk.out, Nat.le_refl _, Hown.out, Hgr.out⟩
    case round =>
      obtain ⟨m, c, rfl, rfl, hm, hC, hc, ho, hg⟩ := hrel
      by_cases hlt : m < rs.length
      · obtain ⟨r, hr⟩ : ∃ r, rs[m]? = some r := ⟨_, List.getElem?_eq_getElem hlt⟩
        obtain ⟨t, ht⟩ : ∃ r, rs[c]? = some r := ⟨_, List.getElem?_eq_getElem (by omega)⟩
        have hmid := fun {m' : Nat} {r : Qw} (h : rs[m']? = some r) (hm' : c ≤ m') => own_cellAt ho (by have := midD_at (C := keptQ del rs m) h (by rw [hC]; exact hm'); rw [hC] at this; exact this)
        have hcm : wr.cell? ⟨g, m, none⟩ = some r.u := hmid hr (by omega)
        have hck : wr.cell? ⟨g, c, none⟩ = some t.u := hmid ht (Nat.le_refl _)
        have hrm := List.mem_of_getElem? hr
        have hor := World.ownsRow.kept (Hs.out.2 r hrm) hg (own_ne (Hs.out.2 r hrm) Hs.out.1 (by decide))
        have hd := Hdel.out wr hg r hrm
        have hskip := fun (e : del r.x = true) W2 (hx : Ext wr W2) => dlq_skip hr e hC hc ho hg hx
        have hkeep := fun (e : del r.x = false) W2 (hx : Ext wr W2) => dlq_keep hr e hC hc ho hg hx
        have hfk := fun W2 (hx : Ext wr W2) => World.ownsRow.frozenAt (hx.own ho) c
        obtain ⟨au, cu, hu⟩ := own_shape hor
        rw [hu] at hcm hd hkeep
        generalize r.x.length = lu at *
        generalize t.u = tu at *
        generalize del r.x = dx at *
        have Hd := Lib.hid hd; have Hskip := Lib.hid hskip; have Hkeep := Lib.hid hkeep; have Hfk := Lib.hid hfk
        clear hd hskip hkeep hfk hmid hor hu ho hg hC hr ht hrm
        have h1 : (0 : Int) ≤ (m : Int) := by omega
        have h2 : (m : Int) < (rs.length : Int) := by omega
        have h3 : (0 : Int) ≤ (c : Int) := by omega
        have h4 : (c : Int) < (rs.length : Int) := by omega
        go_wp2_with fail
        refine Hd.out.mono ?_
        rintro e W2 ⟨rfl, hx2⟩
        cases dx with
        | true =>
          have Hx2 := Lib.hid hx2; clear hx2
          go_wp2_with fail
          go_roundw
          case rel => exact Hskip.out (by first | rfl | trivial) _ Hx2.out
          case measure => simp [intOf]; omega
        | false =>
          have hck2 := hx2.cell hck
          have hfk2 := Hfk.out _ hx2
          have Hx2 := Lib.hid hx2; clear hx2
          go_wp2_with fail
          go_roundw
          case rel => exact Hkeep.out (by first | rfl | trivial) _ Hx2.out
          case measure => simp [intOf]; omega
      · obtain rfl : m = rs.length := by omega
        have hmn : ¬ ((rs.length : Nat) : Int) < (rs.length : Int) := by omega
        have hcn : c < rs.length := by omega
        have hcap3 : c < cap := by omega
        have hnil : ∀ w, (zeroValue 28).run Tryz.prog w = .ok (.slice none 0 0) w := fun w => by kernel_rfl
        have hcl : ∀ ty, (Builtin.clear_ #[33] ty #[.slice (some ⟨g, c, none⟩) (rs.length - c) (cap - c)]).run Tryz.prog wr = .ok (.tuple #[]) (wr.setCells g c (List.replicate (rs.length - c) (.slice none 0 0))) := fun ty =>
          Lib.run_clear_slice wr _ _ ty _ Tryz.underlying33 hnil rfl rfl g c _ _ (by omega) (fun t ht => by
            obtain ⟨r, hr⟩ : ∃ r, rs[c + t]? = some r := ⟨_, List.getElem?_eq_getElem (by omega)⟩
            have := own_cellAt ho (by have := midD_at (C := keptQ del rs rs.length) hr (by omega); rw [hC] at this; exact this)
            rw [this]; rfl) (fun t _ => World.ownsRow.frozenAt ho (c + t))
        have hE9 : W.grownBy (wr.setCells g c (List.replicate (rs.length - c) (.slice none 0 0))) (some g) := only_setCells hg _ _
        have HC := Lib.hid hC; have HE9 := Lib.hid hE9
        clear hC hE9 ho hg hnil
        go_wp2
        go_ret
        exact ⟨⟨cap, by rw [← keptQ_full, HC.out]; rfl⟩, HE9.out⟩
end Go.Proofs.YtajdfggocldeaaaGreatDoor

namespace Go.Proofs.YtajdfggocldeaaaGreatDoor
open Go.RowKit Go.Lib Go.Shelf
attribute [local go_sem] Oper.semAt_some
/-- The numbers of sizes of the classes between. -/
def vrs (p : List Int) (N : List (List Rat)) : List Int := (List.range (N.length - 1)).map fun (d : Nat) => ((cls p N ((d + 1 : Nat) : Int)).length : Int)
theorem vrs_len (p : List Int) (N : List (List Rat)) : (vrs p N).length = N.length - 1 := by unfold vrs; simp
theorem vrs_take {p : List Int} {N : List (List Rat)} {i : Nat} (hi : i < N.length - 1) : (vrs p N).take (i + 1) = (vrs p N).take i ++ [((cls p N ((i + 1 : Nat) : Int)).length : Int)] := by
  have : (vrs p N)[i]? = some ((cls p N ((i + 1 : Nat) : Int)).length : Int) := by
    unfold vrs
    rw [List.getElem?_map, List.getElem?_range hi]
    rfl
  rw [List.take_add_one, this]
  rfl
/-- A class of a list of classes. -/
theorem lqm_at {w : World} {B : Nat} {v : Value} {p : List Int} {N : List (List Rat)} {ls : List Lq} (h : LqM w B B v ls) (hx : lqx ls = clss p N) {d : Nat} (hd : d ≤ N.length) :
    ∃ l a c, ls[d]? = some l ∧ l.u = .slice a (cls p N (d : Int)).length c ∧ QwM w B B (.slice a (cls p N (d : Int)).length c) l.rs ∧ l.rs.map Qw.x = cls p N (d : Int) := by
  have h1 : (clss p N)[d]? = some (cls p N (d : Int)) := by
    unfold clss
    rw [List.getElem?_map, List.getElem?_range (by omega)]
    rfl
  rw [← hx] at h1
  unfold lqx at h1
  rw [List.getElem?_map] at h1
  obtain ⟨l, hl, e⟩ := Option.map_eq_some_iff.1 h1
  have hq := h.2 l (List.mem_of_getElem? hl)
  obtain ⟨a, c, hu⟩ := own_shape hq.1
  have hlen : l.rs.length = (cls p N (d : Int)).length := by rw [← e, List.length_map]
  rw [hlen] at hu
  rw [hu] at hq
  exact ⟨l, a, c, hl, hu, hq, e⟩
theorem vars_c (v : Value) (p : List Int) (rs : List Qw) (w : World) (he : Env w) (hv : ScV w v p rs) (h : Wc p (rs.map Qw.x)) :
    Calls Tryz.prog 13 #[v] w fun e w' => ∃ u, e = .returned (.tuple #[u, .int .i64 0]) ∧ OwnI w' w.heap.size u (vrs p (rs.map Qw.x)) ∧ Ext w w' := by
  obtain ⟨i0, hj, hz0, hz1, hz2⟩ := info_parts info_int
  have hop := fun W (hE : Ext w W) => open_c v p rs W (he.ext hE) (hv.ext hE) h
  have hL : (rs.map Qw.x).length = rs.length := List.length_map ..
  have hfew := h.wd.few
  have hpos := h.wd.pos
  rw [hL] at hfew hpos
  have hvt := fun (i : Nat) (hi : i < rs.length - 1) => vrs_take (p := p) (N := rs.map Qw.x) (i := i) (by rw [hL]; exact hi)
  have hvl : (vrs p (rs.map Qw.x)).length = rs.length - 1 := by rw [vrs_len, hL]
  have hcl := fun (d : Int) => (cls_len (p := p) (N := rs.map Qw.x) (d := d))
  rw [hL] at hcl
  have hat := fun W B vv ls (hq : LqM W B B vv ls) (hx : lqx ls = clss p (rs.map Qw.x)) (d : Nat) (hd : d ≤ rs.length) => lqm_at hq hx (d := d) (by rw [hL]; exact hd)
  have hcs : (clss p (rs.map Qw.x)).length = rs.length + 1 := by rw [clss_len, hL]
  obtain ⟨vp, vn, rfl, hp, hs, hmr⟩ := hv
  obtain ⟨ap, cp, rfl, _, _, _⟩ := hp.parts
  obtain ⟨an, cn, rfl, _, _, _⟩ := hs.parts
  rw [i64s_length] at *
  rw [qwc_length] at *
  generalize rs.length = n at *
  have hE0 : Ext w (w.alloc (.cells #[.slice ap p.length cp, .slice an n cn] 35)) := (Ext.refl w).alloc _
  have b1 := BoxT.new 35 w (.slice ap p.length cp) (.slice an n cn)
  have Hop := Lib.hid hop; have Hvt := Lib.hid hvt; have Hvl := Lib.hid hvl; have Hat := Lib.hid hat; have HE0 := Lib.hid hE0; have Hcs := Lib.hid hcs; have Hcl := Lib.hid hcl
  have q0 := b1.c0
  have q1 := b1.c1
  clear hop hvt hvl hat hE0 hcs hcl b1 hp hs hmr he h hL
  go_enter Tryz.func13, Tryz.ntmps13
  go_wp2_with fail
  refine (Hop.out _ HE0.out).mono ?_
  rintro e w2 ⟨u, v4, ls, rfl, hu, hq, hm, hx2⟩
  have hll : ls.length = n + 1 := by
    have := congrArg List.length hm
    unfold lqx at this
    rwa [List.length_map, Hcs.out] at this
  have hq1 := hq.1
  obtain ⟨g, cap, rfl, hcell⟩ := own_slice hq1 (by omega)
  have hcap : n + 1 ≤ cap ∧ cap ≤ maxLen := by
    rcases hq1.2 with ⟨e, _⟩ | ⟨g', cap', cur, e, _, _, k1, k2, _⟩
    · cases e
    · injection e with _ _ e3
      rw [e3, ← hll]
      exact ⟨k1, k2⟩
  rw [hll]
  obtain ⟨m, hmm⟩ : ∃ m, n = m + 1 := ⟨n - 1, by omega⟩
  have hx := HE0.out.trans hx2
  have hcc : ∀ i : Nat, i < m → ∃ a c, w2.cell? ⟨g, 1 + i, none⟩ = some (.slice a (cls p (rs.map Qw.x) ((i + 1 : Nat) : Int)).length c) := fun i hi => by
    obtain ⟨l, a, c, h1, h2, _, _⟩ := Hat.out w2 _ _ ls hq hm (i + 1) (by omega)
    exact ⟨a, c, by rw [Nat.add_comm 1 i]; exact hcell (i + 1) _ (by unfold lqc; rw [List.getElem?_map, h1, ← h2]; rfl)⟩
  subst hmm
  have hc1 : ¬ cap = 1 := by omega
  have hw1 : IntKind.i64.wrap (((m + 1 + 1 : Nat) : Int) - 1) = (m : Int) + 1 := by rw [IntWalk.i64_in _ (by omega)]; omega
  have Hx := Lib.hid hx; have Hcc := Lib.hid hcc
  clear hx hcc hq hm hu hx2 q0 q1 hq1 hll hcell
  go_wp2_with fail
  go_loopw [7, 25] (fun v7 v25 wr => ∃ i : Nat, v25 = .int .i64 (i : Int) ∧ i ≤ m ∧ OwnI wr w2.heap.size v7 ((vrs p (rs.map Qw.x)).take i) ∧ Ext w2 wr) (fun _ v25 _ => m - (intOf v25).toNat)
  case atStart => exact ⟨0, rfl, Nat.zero_le _, World.ownsRow_nil _ _ _ _, Ext.refl _⟩
  case round =>
    obtain ⟨i, rfl, hi, ho, hE⟩ := hrel
    have hol : ((vrs p (rs.map Qw.x)).take i).length = i := by rw [List.length_take, Hvl.out]; omega
    unfold OwnI at ho
    rw [hol] at ho
    obtain ⟨a7, c7, rfl⟩ := own_shape ho
    by_cases him : i < m
    · have hik : (i : Int) < (m : Int) := by omega
      have hi0 : (0 : Int) ≤ (i : Int) := by omega
      obtain ⟨a5, c5, hc5⟩ := Hcc.out i him
      have k0 := hE.cell hc5
      have hbase := hE.size
      have hvt := Hvt.out i (by omega)
      have hcl := Hcl.out ((i + 1 : Nat) : Int)
      generalize hz : (cls p (rs.map Qw.x) ((i + 1 : Nat) : Int)).length = z at *
      have hm3 : i + 1 ≤ maxLen := by unfold maxLen; omega
      have hm4 : (i + 1) * 8 ≤ 140737488355328 := by omega
      have hzz : (z : Int) ≤ 10 := by omega
      have Ho := Lib.hid ho; have HE := Lib.hid hE; have Hvi := Lib.hid hvt; have Hol := Lib.hid hol
      clear ho hE hvt hol hz hc5
      go_wp2_with (at_builtin; refine wpList_append_own _ rfl _ _ 31 rfl w2.heap.size 3 i0 (.int .i64 0) 1 8 Tryz.underlying31 hj hz0 hz1 hz2 rfl (by decide) _ _ _ rfl (World.ownsRow.alloc Ho.out _) ⟨wr.heap.size, 0, none⟩ 1 1 [.int .i64 (z : Int)] rfl rfl (cell_one_new _ _ _) (by simp [Value.oneCell']) hm3 hm4 (by rw [World.size_alloc]; omega) ?_; intro v7 V7 hown7 hgrow7 _)
      go_roundw
      case rel => exact ⟨i + 1, by go_num, by omega, by rw [Hvi.out]; unfold OwnI; rw [List.length_append, Hol.out, i64s, List.map_append]; exact hown7, (HE.out.alloc _).grown hgrow7 (fun k hk => (World.ownsRow.lt Ho.out k hk).1)⟩
      case measure => simp [intOf]; omega
    · obtain rfl : i = m := by omega
      have hik : ¬ (i : Int) < (i : Int) := by omega
      rw [List.take_of_length_le (by rw [Hvl.out]; exact Nat.le_refl _)] at ho
      have hof : OwnI wr w.heap.size (.slice a7 i c7) (vrs p (rs.map Qw.x)) := by unfold OwnI; rw [Hvl.out]; exact own_mono ho Hx.out.size
      have Ho := Lib.hid hof; have HE := Lib.hid (Hx.out.trans hE); have Hol := Lib.hid hol
      clear ho hE hol hof
      go_wp2_with fail
      exact bodyPost_ret (v := .tuple #[.slice a7 i c7, .int .i64 0]) (by simp [results, Tryz.results13, go_sem]) rfl ⟨_, rfl, Ho.out, HE.out⟩
end Go.Proofs.YtajdfggocldeaaaGreatDoor

namespace Go.Proofs.YtajdfggocldeaaaGreatDoor
open Go.RowKit Go.Lib Go.Shelf
theorem lqc_length (ls : List Lq) : (lqc ls).length = ls.length := by unfold lqc; exact List.length_map ..
/-- Where IndexFunc finds the first one. -/
def IdxAtL (P : Lq → Bool) (rs : List Lq) (z : Int) : Prop := (z = -1 ∧ ∀ r ∈ rs, P r = false) ∨ ∃ (k : Nat) (r : Lq), z = k ∧ rs[k]? = some r ∧ P r = true ∧ ∀ s ∈ rs.take k, P s = false
theorem IdxAtL.any {P : Lq → Bool} {rs : List Lq} {z : Int} (h : IdxAtL P rs z) : rs.any (fun r => P r) = decide (0 ≤ z) := by
  rcases h with ⟨rfl, h⟩ | ⟨k, r, rfl, h1, h2, _⟩
  · rw [show decide ((0 : Int) ≤ -1) = false by decide, List.any_eq_false]
    intro r hr
    rw [h r hr]
    simp
  · rw [show decide ((0 : Int) ≤ (k : Int)) = true from decide_eq_true (by omega), List.any_eq_true]
    exact ⟨r, List.mem_of_getElem? h1, h2⟩
theorem idxL_c (g : Nat) (cb : Array Value) (v : Value) (rs : List Lq) (P : Lq → Bool) (w : World) (hv : Sl w v (lqc rs)) (hl : rs.length ≤ 1000)
    (eg : ∀ args w, (callFunc g args).run Tryz.prog w = .ok (.enter g args) w)
    (hp : ∀ W, Ext w W → ∀ r ∈ rs, Calls Tryz.prog g (#[r.u] ++ cb) W fun e w' => e = .returned (.bool (P r)) ∧ Ext W w') :
    Calls Tryz.prog 64 #[v, .func (.func g) #[] cb] w fun e w' => ∃ z : Int, e = .returned (.int .i64 z) ∧ IdxAtL P rs z ∧ Ext w w' := by
  obtain ⟨a, c, rfl, _, _, hc⟩ := hv.parts
  rw [lqc_length]
  have hcell : ∀ k r, rs[k]? = some r → ∃ b off, a = some ⟨b, off, none⟩ ∧ w.cell? ⟨b, off + k, none⟩ = some r.u := fun k r hr => hc k r.u (by unfold lqc; rw [List.getElem?_map, hr]; rfl)
  generalize hn : rs.length = n at *
  have Hn := Lib.hid hn; have Hp := Lib.hid hp; have Hc := Lib.hid hcell
  clear hv hc hn hp hcell
  go_enter Tryz.func64, Tryz.ntmps64
  go_wp2_with fail
  go_loopw [5, 8] (fun v5 v8 wr => ∃ k : Nat, v8 = .int .i64 k ∧ k ≤ n ∧ (∀ s ∈ rs.take k, P s = false) ∧ Ext w wr) (fun _ v8 _ => n - (intOf v8).toNat)
  case atStart => exact ⟨0, rfl, Nat.zero_le _, fun r h => by simp at h, Ext.refl _⟩
  case round =>
    obtain ⟨k, rfl, hk, hall, hE⟩ := hrel
    have Hall := Lib.hid hall
    clear hall
    by_cases hlt : k < n
    · obtain ⟨r, hr⟩ : ∃ r, rs[k]? = some r := ⟨_, List.getElem?_eq_getElem (by rw [Hn.out]; exact hlt)⟩
      obtain ⟨b, off, rfl, h0⟩ := Hc.out k r hr
      have hc0 := hE.cell h0
      have hd := Hp.out wr hE r (List.mem_of_getElem? hr)
      have HE := Lib.hid hE
      have Hr := Lib.hid hr
      clear hr h0 hE
      generalize r.u = u at *
      generalize hdx : P r = dx at *
      have Hd := Lib.hid hd; have Hdx := Lib.hid hdx; clear hd hdx
      have hk0 : (0 : Int) ≤ (k : Int) := by omega
      have hk1 : (k : Int) < (n : Int) := by omega
      go_wp2_with fail
      refine Hd.out.mono ?_
      rintro e W2 ⟨rfl, hx2⟩
      have HE2 := Lib.hid (HE.out.trans hx2); clear hx2
      cases dx with
      | true =>
        go_wp2
        go_ret
        exact ⟨_, rfl, .inr ⟨k, r, rfl, Hr.out, Hdx.out, Hall.out⟩, HE2.out⟩
      | false =>
        go_wp2_with fail
        go_roundw
        case rel => exact ⟨k + 1, by go_num, hlt, fun s hs => by
          obtain ⟨hl2, e⟩ := List.getElem?_eq_some_iff.1 Hr.out
          rw [List.take_succ_eq_append_getElem hl2] at hs
          rcases List.mem_append.1 hs with h | h
          · exact Hall.out s h
          · rw [List.mem_singleton] at h; rw [h, e]; exact Hdx.out, HE2.out⟩
        case measure => simp [intOf]; omega
    · have hkk : ¬ (k : Int) < (n : Int) := by omega
      have hkl : k = n := by omega
      have Hkl := Lib.hid hkl; clear hkl
      have HE := Lib.hid hE
      clear hE
      go_wp2
      go_ret
      exact ⟨-1, rfl, .inl ⟨rfl, fun r hr => Hall.out r (by rw [Hkl.out, ← Hn.out, List.take_length]; exact hr)⟩, HE.out⟩
theorem containsL_c (g : Nat) (cb : Array Value) (v : Value) (rs : List Lq) (P : Lq → Bool) (w : World) (hv : Sl w v (lqc rs)) (hl : rs.length ≤ 1000)
    (eg : ∀ args w, (callFunc g args).run Tryz.prog w = .ok (.enter g args) w)
    (hp : ∀ W, Ext w W → ∀ r ∈ rs, Calls Tryz.prog g (#[r.u] ++ cb) W fun e w' => e = .returned (.bool (P r)) ∧ Ext W w') :
    Calls Tryz.prog 39 #[v, .func (.func g) #[] cb] w fun e w' => e = .returned (.bool (rs.any fun r => P r)) ∧ Ext w w' := by
  have hi := idxL_c g cb v rs P w hv hl eg hp
  obtain ⟨a, c, rfl, _, _, _⟩ := hv.parts
  have Hi := Lib.hid hi
  clear hi hp hv
  go_enter Tryz.func39, Tryz.ntmps39
  go_wp2_with fail
  refine Hi.out.mono ?_
  rintro e w1 ⟨z, rfl, hz, hx⟩
  have Hz := Lib.hid hz.any; have Hx := Lib.hid hx
  clear hz hx
  go_wp2
  go_ret
  exact ⟨by rw [Hz.out]; rfl, Hx.out⟩
end Go.Proofs.YtajdfggocldeaaaGreatDoor
