/- Walks: slices.DeleteFunc at a list of sizes that a call made, with a closure that makes memory: how many stay. Walks: class.Count. Walks: the law ClassSizes. -/
import Derived.Test.YtaakmdjicocjpaaGreatDoorPb21
import Derived.Test.YtaakmdjicocjpaaGreatDoorPb18
import Derived.Test.YtaakmdjicocjpaaGreatDoorPs00
import Derived.Test.YtaakmdjicocjpaaGreatDoorPb37
import Derived.Test.YtaakmdjicocjpaaGreatDoorPb34
set_option maxRecDepth 100000
set_option maxHeartbeats 4000000
namespace Go.Proofs.YtaakmdjicocjpaaGreatDoor
open Go.RowKit Go.Lib Go.Shelf Go.Sort
theorem only_setCells {a w : World} {g : Nat} (h : a.grownBy w (some g)) : ∀ (us : List Value) (o : Nat), a.grownBy (w.setCells g o us) (some g) := by
  intro us
  induction us generalizing w with
  | nil => intro o; exact h
  | cons u us ih => intro o; exact ih (only_setCell h rfl u) (o + 1)
theorem own_cellAt {w : World} {B E g n cap : Nat} {xs : List Value} (h : w.ownsRow B E 1 (.slice (some ⟨g, 0, none⟩) n cap) n xs) {j : Nat} {u : Value} (hj : xs[j]? = some u) : w.cell? ⟨g, j, none⟩ = some u := by
  have := h.cells (g := g) rfl j u hj
  rwa [show ((⟨g, 0, none⟩ : Addr).add j) = ⟨g, j, none⟩ by unfold Addr.add; split <;> simp_all] at this
theorem own_cap {w : World} {B : Nat} {a : Option Addr} {E s k c n : Nat} {xs : List Value} (h : w.ownsRow B E s (.slice a k c) n xs) : n ≤ c ∧ k = n := by
  rcases h.2 with ⟨e0, h0⟩ | ⟨g, cap, cur, e0, _, _, h1, _⟩
  · injection e0 with _ e2 e3; omega
  · injection e0 with _ e2 e3; omega
theorem midD_at {rs C : List Qw} {m : Nat} {r : Qw} (h : rs[m]? = some r) (hC : C.length ≤ m) : (qwc (C ++ rs.drop C.length))[m]? = some r.u := by
  unfold qwc
  rw [List.getElem?_map, List.getElem?_append_right hC, List.getElem?_drop, show C.length + (m - C.length) = m by omega, h]
  rfl
theorem midD_set {rs C : List Qw} {r : Qw} (hC : C.length < rs.length) : (qwc (C ++ rs.drop C.length)).set C.length r.u = qwc ((C ++ [r]) ++ rs.drop (C ++ [r]).length) := by
  unfold qwc
  rw [List.drop_eq_getElem_cons hC, List.map_append, List.set_append_right _ _ (by simp), List.length_map, Nat.sub_self, List.map_cons, List.set_cons_zero]
  simp
/-- Those of the first m that stay. -/
def keptQ (del : List Rat → Bool) (rs : List Qw) (m : Nat) : List Qw := (rs.take m).filter fun r => !del r.x
theorem keptQ_step {del : List Rat → Bool} {rs : List Qw} {m : Nat} {r : Qw} (h : rs[m]? = some r) : keptQ del rs (m + 1) = keptQ del rs m ++ (if del r.x then [] else [r]) := by
  obtain ⟨hl, rfl⟩ := List.getElem?_eq_some_iff.1 h
  unfold keptQ
  rw [List.take_succ_eq_append_getElem hl, List.filter_append]
  congr 1
  cases hd : del rs[m].x <;> simp [hd]
theorem keptQ_le (del : List Rat → Bool) (rs : List Qw) (m : Nat) : (keptQ del rs m).length ≤ m := by
  unfold keptQ
  exact Nat.le_trans (List.length_filter_le _ _) (by rw [List.length_take]; exact Nat.min_le_left _ _)
theorem keptQ_all {del : List Rat → Bool} {rs : List Qw} {m : Nat} (h : ∀ r ∈ rs.take m, del r.x = false) : keptQ del rs m = rs.take m := by
  unfold keptQ
  rw [List.filter_eq_self.2]
  intro r hr
  rw [h r hr]; rfl
theorem keptQ_mem {del : List Rat → Bool} {rs : List Qw} {m : Nat} {r : Qw} (h : r ∈ keptQ del rs m) : r ∈ rs := List.mem_of_mem_take (List.mem_filter.1 h).1
theorem keptQ_full (del : List Rat → Bool) (rs : List Qw) : keptQ del rs rs.length = rs.filter fun r => !del r.x := by unfold keptQ; rw [List.take_length]
/-- The loop of DeleteFunc. -/
def DlQ (W : World) (B g cap : Nat) (rs : List Qw) (del : List Rat → Bool) (v5 v6 : Value) (wr : World) : Prop :=
  ∃ m c : Nat, v5 = .int .i64 c ∧ v6 = .int .i64 (m : Int) ∧ m ≤ rs.length ∧ (keptQ del rs m).length = c ∧ c + 1 ≤ m ∧ wr.ownsRow B 41 1 (.slice (some ⟨g, 0, none⟩) rs.length cap) rs.length (qwc (keptQ del rs m ++ rs.drop c)) ∧ W.grownBy wr (some g)
theorem dlq_skip {W wr w' : World} {B g cap m c : Nat} {rs : List Qw} {del : List Rat → Bool} {r : Qw} (hr : rs[m]? = some r) (hk : del r.x = true) (hC : (keptQ del rs m).length = c) (hc : c + 1 ≤ m)
    (ho : wr.ownsRow B 41 1 (.slice (some ⟨g, 0, none⟩) rs.length cap) rs.length (qwc (keptQ del rs m ++ rs.drop c))) (hg : W.grownBy wr (some g)) (hx : Ext wr w') : DlQ W B g cap rs del (.int .i64 c) (.int .i64 ((m : Int) + 1)) w' := by
  have e : keptQ del rs (m + 1) = keptQ del rs m := by rw [keptQ_step hr, hk]; simp
  have hl := (List.getElem?_eq_some_iff.1 hr).1
  refine ⟨m + 1, c, rfl, by simp, by omega, by rw [e]; exact hC, by omega, ?_, only_ext hg hx⟩
  rw [e]
  exact hx.own ho
theorem dlq_keep {W wr w' : World} {B g cap m c : Nat} {rs : List Qw} {del : List Rat → Bool} {r : Qw} (hr : rs[m]? = some r) (hk : del r.x = false) (hC : (keptQ del rs m).length = c) (hc : c + 1 ≤ m)
    (ho : wr.ownsRow B 41 1 (.slice (some ⟨g, 0, none⟩) rs.length cap) rs.length (qwc (keptQ del rs m ++ rs.drop c))) (hg : W.grownBy wr (some g)) (hx : Ext wr w') : DlQ W B g cap rs del (.int .i64 ((c : Int) + 1)) (.int .i64 ((m : Int) + 1)) (w'.setCell ⟨g, c, none⟩ r.u) := by
  have e : keptQ del rs (m + 1) = keptQ del rs m ++ [r] := by rw [keptQ_step hr, hk]; simp
  have hl := (List.getElem?_eq_some_iff.1 hr).1
  have ho2 := (World.ownsRow.stored (hx.own ho) c r.u).1
  refine ⟨m + 1, c + 1, by simp, by simp, by omega, by rw [e, List.length_append, hC]; rfl, by omega, ?_, only_setCell (only_ext hg hx) rfl _⟩
  rw [e]
  subst hC
  rw [midD_set (by omega)] at ho2
  rw [List.length_append] at ho2
  exact ho2
theorem deleteQ_c {W : World} {B g cap : Nat} {rs : List Qw} {del : List Rat → Bool} (gf : Nat) (cb : Array Value) (hs : QwM W B B (.slice (some ⟨g, 0, none⟩) rs.length cap) rs) (hl : rs.length ≤ 1000) (eg : ∀ args w, (callFunc gf args).run Tryz.prog w = .ok (.enter gf args) w)
    (hdel : ∀ W', W.grownBy W' (some g) → ∀ r ∈ rs, Calls Tryz.prog gf (#[r.u] ++ cb) W' fun e w' => e = .returned (.bool (del r.x)) ∧ Ext W' w') :
    Calls Tryz.prog 79 #[.slice (some ⟨g, 0, none⟩) rs.length cap, .func (.func gf) #[] cb] W fun e w' => ∃ c, e = .returned (.slice (some ⟨g, 0, none⟩) (rs.filter fun r => !del r.x).length c) ∧ W.grownBy w' (some g) := by
  have hcell : ∀ (j : Nat) (r : Qw), rs[j]? = some r → W.cell? ⟨g, j, none⟩ = some r.u := fun j r h => own_cellAt hs.1 (by simp [qwc, h])
  have hix := idxQ_c gf cb _ rs del W (sl_own hs.1) hl eg (fun W' hE => hdel W' (only_ext (only_refl W _) hE))
  have hcap : rs.length ≤ cap := (own_cap hs.1).1
  have hcap2 : cap ≤ maxLen := by
    rcases hs.1.2 with ⟨e0, _⟩ | ⟨g', cap', cur, e0, _, _, _, hm, _⟩
    · cases e0
    · injection e0 with _ _ e3; omega
  unfold maxLen at hcap2
  have Hs := Lib.hid hs; have Hix := Lib.hid hix; have Hdel := Lib.hid hdel
  clear hs hix hdel hcell
  go_enter Tryz.func79, Tryz.ntmps79
  go_wp2_with fail
  refine Hix.out.mono ?_
  rintro e W1 ⟨i, rfl, hi, hx1⟩
  rcases hi with ⟨rfl, hall⟩ | ⟨k, r0, rfl, hr0, hd0, hall⟩
  · have hfl : (rs.filter fun r => !del r.x) = rs := List.filter_eq_self.2 fun r hr => by rw [hall r hr]; rfl
    have Hfl := Lib.hid hfl; have Hx1 := Lib.hid hx1; clear hfl hall hx1
    go_wp2
    go_ret
    first | exact ⟨cap, by rw [Hfl.out]; rfl, only_ext (only_refl W _) Hx1.out⟩ | exact ⟨⟨cap, by rw [Hfl.out]; rfl⟩, only_ext (only_refl W _) Hx1.out⟩
  · have hk : k < rs.length := (List.getElem?_eq_some_iff.1 hr0).1
    have hk1 : keptQ del rs (k + 1) = rs.take k := by rw [keptQ_step hr0, hd0, if_pos rfl, List.append_nil]; exact keptQ_all hall
    have hown : W1.ownsRow B 41 1 (.slice (some ⟨g, 0, none⟩) rs.length cap) rs.length (qwc (keptQ del rs (k + 1) ++ rs.drop k)) := by
      rw [hk1, List.take_append_drop]; exact hx1.own Hs.out.1
    have hlk : (keptQ del rs (k + 1)).length = k := by rw [hk1, List.length_take]; omega
    have hgr := only_ext (only_refl W (some g)) hx1
    have Hown := Lib.hid hown; have Hlk := Lib.hid hlk; have Hgr := Lib.hid hgr
    clear hall hr0 hd0 hk1 hown hlk hgr hx1
    have hkm : ((k : Int) == -1) = false := beq_eq_false_iff_ne.2 (by omega)
    go_wp2_with fail
    go_loopw [5, 6] (fun v5 v6 wr => DlQ W B g cap rs del v5 v6 wr) (fun _ v6 _ => rs.length - (intOf v6).toNat)
    case atStart => exact ⟨k + 1, k, rfl, by simp, hk, Hlk.out, Nat.le_refl _, Hown.out, Hgr.out⟩
    case round =>
      obtain ⟨m, c, rfl, rfl, hm, hC, hc, ho, hg⟩ := hrel
      by_cases hlt : m < rs.length
      · obtain ⟨r, hr⟩ : ∃ r, rs[m]? = some r := ⟨_, List.getElem?_eq_getElem hlt⟩
        obtain ⟨t, ht⟩ : ∃ r, rs[c]? = some r := ⟨_, List.getElem?_eq_getElem (by omega)⟩
        have hmid := fun {m' : Nat} {r : Qw} (h : rs[m']? = some r) (hm' : c ≤ m') => own_cellAt ho (by have := midD_at (C := keptQ del rs m) h (by rw [hC]; exact hm'); rw [hC] at this; exact this)
        have hcm : wr.cell? ⟨g, m, none⟩ = some r.u := hmid hr (by omega)
        have hck : wr.cell? ⟨g, c, none⟩ = some t.u := hmid ht (Nat.le_refl _)
        have hrm := List.mem_of_getElem? hr
        have hor := World.ownsRow.kept (Hs.out.2 r hrm) hg (own_ne (Hs.out.2 r hrm) Hs.out.1 (by decide))
        have hd := Hdel.out wr hg r hrm
        have hskip := fun (e : del r.x = true) W2 (hx : Ext wr W2) => dlq_skip hr e hC hc ho hg hx
        have hkeep := fun (e : del r.x = false) W2 (hx : Ext wr W2) => dlq_keep hr e hC hc ho hg hx
        have hfk := fun W2 (hx : Ext wr W2) => World.ownsRow.frozenAt (hx.own ho) c
        obtain ⟨au, cu, hu⟩ := own_shape hor
        rw [hu] at hcm hd hkeep
        generalize r.x.length = lu at *
        generalize t.u = tu at *
        generalize del r.x = dx at *
        have Hd := Lib.hid hd; have Hskip := Lib.hid hskip; have Hkeep := Lib.hid hkeep; have Hfk := Lib.hid hfk
        clear hd hskip hkeep hfk hmid hor hu ho hg hC hr ht hrm
        have h1 : (0 : Int) ≤ (m : Int) := by omega
        have h2 : (m : Int) < (rs.length : Int) := by omega
        have h3 : (0 : Int) ≤ (c : Int) := by omega
        have h4 : (c : Int) < (rs.length : Int) := by omega
        go_wp2_with fail
        refine Hd.out.mono ?_
        rintro e W2 ⟨rfl, hx2⟩
        cases dx with
        | true =>
          have Hx2 := Lib.hid hx2; clear hx2
          go_wp2_with fail
          go_roundw
          case rel => exact Hskip.out (by first | rfl | trivial) _ Hx2.out
          case measure => simp [intOf]; omega
        | false =>
          have hck2 := hx2.cell hck
          have hfk2 := Hfk.out _ hx2
          have Hx2 := Lib.hid hx2; clear hx2
          go_wp2_with fail
          go_roundw
          case rel => exact Hkeep.out (by first | rfl | trivial) _ Hx2.out
          case measure => simp [intOf]; omega
      · obtain rfl : m = rs.length := by omega
        have hmn : ¬ ((rs.length : Nat) : Int) < (rs.length : Int) := by omega
        have hcn : c < rs.length := by omega
        have hcap3 : c < cap := by omega
        have hnil : ∀ w, (zeroValue 41).run Tryz.prog w = .ok (.slice none 0 0) w := fun w => by kernel_rfl
        have hcl : ∀ ty, (Builtin.clear_ #[30] ty #[.slice (some ⟨g, c, none⟩) (rs.length - c) (cap - c)]).run Tryz.prog wr = .ok (.tuple #[]) (wr.setCells g c (List.replicate (rs.length - c) (.slice none 0 0))) := fun ty =>
          Lib.run_clear_slice wr _ _ ty _ Tryz.underlying30 hnil rfl rfl g c _ _ (by omega) (fun t ht => by
            obtain ⟨r, hr⟩ : ∃ r, rs[c + t]? = some r := ⟨_, List.getElem?_eq_getElem (by omega)⟩
            have := own_cellAt ho (by have := midD_at (C := keptQ del rs rs.length) hr (by omega); rw [hC] at this; exact this)
            rw [this]; rfl) (fun t _ => World.ownsRow.frozenAt ho (c + t))
        have hE9 : W.grownBy (wr.setCells g c (List.replicate (rs.length - c) (.slice none 0 0))) (some g) := only_setCells hg _ _
        have HC := Lib.hid hC; have HE9 := Lib.hid hE9
        clear hC hE9 ho hg hnil
        go_wp2
        go_ret
        exact ⟨⟨cap, by rw [← keptQ_full, HC.out]; rfl⟩, HE9.out⟩
end Go.Proofs.YtaakmdjicocjpaaGreatDoor

namespace Go.Proofs.YtaakmdjicocjpaaGreatDoor
open Go.RowKit Go.Lib Go.Shelf
attribute [local go_sem] Oper.semAt_some
theorem BoxX.ext {w w' : World} {b : Nat} {u : Value} (h : BoxX w b u) (hx : Ext w w') : BoxX w' b u := hx.heap h
/-- How often a size is in a class. -/
def cnt (p : List Int) (N : List (List Rat)) (d : Int) (x : List Rat) : Nat := ((dfs p N d).filter fun y => decide (x = y)).length
theorem cnt_le (p : List Int) (N : List (List Rat)) (d : Int) (x : List Rat) : cnt p N d x ≤ N.length := by
  have := List.length_filter_le (fun y => decide (x = y)) (dfs p N d)
  rw [dfs_len] at this
  exact this
theorem cnt_of {p : List Int} {N : List (List Rat)} {d : Int} {rs : List Qw} (h : rs.map Qw.x = dfs p N d) (x : List Rat) : (rs.filter fun r => !(!decide (x = r.x))).length = cnt p N d x := by
  unfold cnt
  rw [← h, List.filter_map, List.length_map]
  congr 2
  funext r
  simp
theorem count1_c (b : Nat) (uX uY : Value) (x y : List Rat) (W : World) (hb : W.cell? ⟨b, 0, none⟩ = some uX) (hx : Rd W uX x) (hy : Rd W uY y) (lx : x.length ≤ 1000) (ly : y.length ≤ 1000) :
    Calls Tryz.prog 80 #[uY, .pointer (some ⟨b, 0, none⟩)] W fun e w' => e = .returned (.bool (!decide (x = y))) ∧ Ext W w' := by
  have hs := sEq_c uX uY x y W hx hy lx ly
  obtain ⟨aA, cA, rfl, _, _, _⟩ := hx.parts
  obtain ⟨aB, cB, rfl, _, _, _⟩ := hy.parts
  generalize decide (x = y) = dd at *
  generalize x.length = l1 at *
  generalize y.length = l2 at *
  have Hs := Lib.hid hs
  clear hs hx hy
  go_enter Tryz.func80, Tryz.ntmps80
  go_wp2_with fail
  refine Hs.out.mono ?_
  rintro e w1 ⟨rfl, hx1⟩
  have Hx1 := Lib.hid hx1; clear hx1
  go_wp2
  go_ret
  exact ⟨rfl, Hx1.out⟩
theorem count_c (v vx : Value) (p : List Int) (rs : List Qw) (x : List Rat) (d : Nat) (w : World) (he : Env w) (hv : ScV w v p rs) (h : Wc p (rs.map Qw.x)) (hd : d ≤ rs.length) (hx : Rd w vx x) (hxl : x.length = p.length) (hxf : ∀ r ∈ x, Ft 30 r) :
    Calls Tryz.prog 33 #[v, .int .i64 (d : Int), vx] w fun e w' => e = .returned (.tuple #[.int .i64 (cnt p (rs.map Qw.x) (d : Int) x : Int), .int .i64 0]) ∧ Ext w w' := by
  have hcl := fun W (hE : Ext w W) => classed_c v p rs d W (he.ext hE) (hv.ext hE) h hd
  have hdf := fun u W (hE : Ext w W) (hu : Vw W u p rs) => diffs_c u p rs d W (he.ext hE) hu h hd
  have hpe : primesErr p = 0 ∧ p.length ≤ 100 := by rcases h.wd.pr with ⟨e, _⟩ | ⟨e, _⟩ <;> rw [e] <;> decide
  have hL : (rs.map Qw.x).length = rs.length := List.length_map ..
  have hfew := h.wd.few
  have hpos := h.wd.pos
  rw [hL] at hfew hpos
  have hil : ∀ y ∈ dfs p (rs.map Qw.x) (d : Int), y.length = p.length := fun y hy => by
    unfold dfs at hy
    obtain ⟨i, _, rfl⟩ := List.mem_map.1 hy
    exact h.ivlen _ _
  have hdl : (dfs p (rs.map Qw.x) (d : Int)).length = rs.length := by rw [dfs_len, hL]
  obtain ⟨vp, vn, rfl, hp, hs, hmr⟩ := hv
  have hck := fun W (hE : Ext w W) => sCheck_c vp vx p x W (he.ext hE) (hE.sl hp) (hE.rd hx) hpe.1 hxl hxf
  obtain ⟨ap, cp, rfl, _, _, _⟩ := hp.parts
  obtain ⟨an, cn, rfl, _, _, _⟩ := hs.parts
  obtain ⟨ax, cx, rfl, _, _, _⟩ := hx.parts
  rw [i64s_length] at *
  rw [qwc_length] at *
  have hcnt := fun (out : List Qw) (hm : out.map Qw.x = dfs p (rs.map Qw.x) (d : Int)) => cnt_of hm x
  generalize rs.length = n at *
  generalize hlx : x.length = lx at *
  have hE0 : Ext w (w.alloc (.cells #[.slice ap p.length cp, .slice an n cn] 32)) := (Ext.refl w).alloc _
  have hE1 := hE0.alloc (.cells #[.slice ax lx cx] 41)
  have b1 := (BoxT.new 32 w (.slice ap p.length cp) (.slice an n cn)).ext ((Ext.refl _).alloc (.cells #[.slice ax lx cx] 41))
  have b2 : BoxX ((w.alloc (.cells #[.slice ap p.length cp, .slice an n cn] 32)).alloc (.cells #[.slice ax lx cx] 41)) (w.heap.size + 1) (.slice ax lx cx) := by
    have : (w.alloc (.cells #[.slice ap p.length cp, .slice an n cn] 32)).heap.size = w.heap.size + 1 := World.size_alloc ..
    rw [← this]
    exact World.alloc_heap_new _ _
  have q0 := b1.c0
  have q1 := b1.c1
  have q2 := b2.c0
  have Hcl := Lib.hid hcl; have Hdf := Lib.hid hdf; have Hck := Lib.hid hck; have HE1 := Lib.hid hE1; have B1 := Lib.hid b1; have B2 := Lib.hid b2; have Hx := Lib.hid hx; have Hcnt := Lib.hid hcnt; have Hil := Lib.hid hil; have Hdl := Lib.hid hdl; have Hlx := Lib.hid hlx; have Hxl := Lib.hid hxl; have Hpl := Lib.hid hpe.2
  clear hcl hdf hck hE0 hE1 b1 b2 hp hs hmr he h hx hcnt hil hdl hlx hxl hpe hL
  go_enter Tryz.func33, Tryz.ntmps33
  go_wp2_with fail
  refine (Hcl.out _ HE1.out).mono ?_
  rintro e w2 ⟨u, rfl, hu, hx2⟩
  have q0 := (B1.out.ext hx2).c0
  have q2 := (B2.out.ext hx2).c0
  have hE2 := HE1.out.trans hx2
  have hdf := fun W (hE : Ext w2 W) => Hdf.out u W (hE2.trans hE) (hu.ext hE)
  have hck := Hck.out w2 hE2
  obtain ⟨b, v1, v2, v3, nts, rfl, hrest⟩ := hu
  have Hdf2 := Lib.hid hdf; have Hck2 := Lib.hid hck; have HE2 := Lib.hid hE2; have B22 := Lib.hid (B2.out.ext hx2)
  clear hdf hck hE2 hrest hx2
  go_wp2_with fail
  refine Hck2.out.mono ?_
  rintro e w3 ⟨rfl, hx3⟩
  have hd3 := Hdf2.out w3 hx3
  have b3 := B22.out.ext hx3
  have Hd3 := Lib.hid hd3; have HE3 := Lib.hid (HE2.out.trans hx3); have B3 := Lib.hid b3
  clear hd3 hx3 b3 q0 q2
  go_wp2_with fail
  refine Hd3.out.mono ?_
  rintro e w4 ⟨v4, out, rfl, hq, hm, hx4⟩
  have hol : out.length = n := by
    have := congrArg List.length hm
    rwa [List.length_map, Hdl.out] at this
  obtain ⟨g, cap, rfl, _⟩ := own_slice hq.1 (by omega)
  have hdel := deleteQ_c (W := w4) (del := fun y => !decide (x = y)) 80 #[.pointer (some ⟨w.heap.size + 1, 0, none⟩)] hq (by omega) (fun _ _ => rfl) (fun W' hg r hr => by
    have hne : some (w.heap.size + 1) ≠ some g := by
      intro e
      injection e with e
      have h1 := (World.ownsRow.lt hq.1 g rfl).1
      have h2 := B3.out.lt
      omega
    have hlt : w.heap.size + 1 < w4.heap.size := Nat.lt_of_lt_of_le B3.out.lt hx4.size
    have hb4 := (hg.block _ hlt hne).trans (B3.out.ext hx4)
    have hEE : Ext w W' := ((HE3.out.trans hx4).grown hg fun k hk => by cases hk; exact Nat.le_trans HE3.out.size (World.ownsRow.lt hq.1 g rfl).1)
    exact count1_c (w.heap.size + 1) (.slice ax lx cx) r.u x r.x W' (BoxX.c0 hb4) (hEE.rd Hx.out) (OwnQ.rd (World.ownsRow.kept (hq.2 r hr) hg (own_ne (hq.2 r hr) hq.1 (by decide)))) (by rw [Hlx.out, Hxl.out]; have := Hpl.out; omega) (by rw [Hil.out r.x (by rw [← hm]; exact List.mem_map_of_mem hr)]; have := Hpl.out; omega))
  rw [Hcnt.out out hm, hol] at hdel
  have hfin : ∀ W', w4.grownBy W' (some g) → Ext w W' := fun W' hg => (HE3.out.trans hx4).grown hg fun k hk => by cases hk; exact Nat.le_trans HE3.out.size (World.ownsRow.lt hq.1 g rfl).1
  rw [hol]
  have Hdel := Lib.hid hdel; have Hfin := Lib.hid hfin
  clear hdel hfin hq hm hol hx4
  go_wp2_with fail
  refine Hdel.out.mono ?_
  rintro e w5 ⟨c5, rfl, hg5⟩
  have Hx5 := Lib.hid (Hfin.out w5 hg5)
  clear hg5
  go_wp2_with fail
  exact bodyPost_ret (v := .tuple #[.int .i64 (cnt p (rs.map Qw.x) (d : Int) x : Int), .int .i64 0]) (by simp [results, Tryz.results33, go_sem]) rfl ⟨rfl, Hx5.out⟩
end Go.Proofs.YtaakmdjicocjpaaGreatDoor

namespace Go.Proofs.YtaakmdjicocjpaaGreatDoor
open Go.RowKit Go.Lib Go.Shelf
attribute [local go_sem] Oper.semAt_some
/-- How often the first ones are x. -/
def cntTo (p : List Int) (N : List (List Rat)) (d : Int) (x : List Rat) (c : Nat) : Nat := (((dfs p N d).take c).filter fun y => decide (x = y)).length
theorem cntTo_step {p : List Int} {N : List (List Rat)} {d : Int} {x : List Rat} {c : Nat} (hc : c < N.length) : cntTo p N d x (c + 1) = cntTo p N d x c + (if iv p N (c : Int) d = x then 1 else 0) := by
  unfold cntTo
  rw [List.take_add_one, dfs_at hc, List.filter_append, List.length_append]
  congr 1
  by_cases h : iv p N (c : Int) d = x
  · subst h; simp
  · rw [if_neg h]
    have : ¬ x = iv p N (c : Int) d := fun e => h e.symm
    simp [this]
theorem cntTo_full (p : List Int) (N : List (List Rat)) (d : Int) (x : List Rat) : cntTo p N d x N.length = cnt p N d x := by
  unfold cntTo cnt
  rw [List.take_of_length_le (by rw [dfs_len]; exact Nat.le_refl _)]
theorem cntTo_le (p : List Int) (N : List (List Rat)) (d : Int) (x : List Rat) (c : Nat) : cntTo p N d x c ≤ c := by
  unfold cntTo
  exact Nat.le_trans (List.length_filter_le ..) (by rw [List.length_take]; exact Nat.min_le_left ..)
/-- The counts of the first sizes, together. -/
def sumC (p : List Int) (N : List (List Rat)) (d : Int) (i : Nat) : Nat := (((cls p N d).take i).map (cnt p N d)).sum
theorem sumC_step {p : List Int} {N : List (List Rat)} {d : Int} {i : Nat} {x : List Rat} (hx : (cls p N d)[i]? = some x) : sumC p N d (i + 1) = sumC p N d i + cnt p N d x := by
  unfold sumC
  rw [List.take_add_one, hx]
  simp
theorem sum_parts {α : Type} [DecidableEq α] (L : List α) (hL : L.Nodup) : ∀ D : List α, (∀ y ∈ D, y ∈ L) → (L.map fun x => (D.filter fun y => decide (x = y)).length).sum = D.length
  | [], _ => by
    induction L with
    | nil => rfl
    | cons a t ih => simpa using ih (List.nodup_cons.1 hL).2
  | y :: D, h => by
    have ih := sum_parts L hL D (fun z hz => h z (List.mem_cons_of_mem _ hz))
    rw [List.length_cons, ← ih]
    have hy := h y (List.mem_cons_self ..)
    clear ih h
    induction L with
    | nil => cases hy
    | cons a t ih =>
      have hn := List.nodup_cons.1 hL
      rw [List.map_cons, List.map_cons, List.sum_cons, List.sum_cons]
      by_cases e : a = y
      · subst e
        have ht : (t.map fun x => ((a :: D).filter fun y => decide (x = y)).length) = t.map fun x => (D.filter fun y => decide (x = y)).length := List.map_congr_left fun x hx => by
          have : ¬ x = a := fun e => hn.1 (e ▸ hx)
          simp [this]
        rw [ht]
        simp
        omega
      · have hyt : y ∈ t := by
          rcases List.mem_cons.1 hy with g | g
          · exact absurd g.symm e
          · exact g
        have := ih hn.2 hyt
        rw [this]
        simp [e]
        omega
theorem Wc.sumC_full {p : List Int} {N : List (List Rat)} (h : Wc p N) (d : Int) : sumC p N d (cls p N d).length = N.length := by
  unfold sumC
  rw [List.take_length]
  have hn : (cls p N d).Nodup := by
    have := h.cls_srt d
    unfold Srt at this
    exact this.imp fun {a b} g e => by rw [e] at g; exact absurd g (Rat.lt_irrefl)
  have := sum_parts (cls p N d) hn (dfs p N d) (fun y hy => by
    unfold dfs at hy
    obtain ⟨i, _, rfl⟩ := List.mem_map.1 hy
    exact h.cls_mem.2 ⟨_, rfl⟩)
  rw [dfs_len] at this
  exact this
theorem sizess_c (a : Wl) (b : Nat) (w : World) (he : Env w) (ha : a.Ok) (hb : b < 256) :
    Calls Tryz.prog 9 #[a.v, .int .u8 b] w fun e w' => e = .returned (.bool true) ∧ Ext w w' := by
  have hkn := fun W (hE : Ext w W) => known32_c W (he.ext hE)
  have hmk := fun W (hE : Ext w W) => lMake_c a W (he.ext hE) ha
  have hrl := wl_box a w
  have hun := Tryz.underlying26
  have hin := wl_info a
  have hE0 : Ext w (w.alloc (.cells a.cs 26)) := (Ext.refl w).alloc _
  have Hkn := Lib.hid hkn; have Hmk := Lib.hid hmk; have Hrl := Lib.hid hrl; have Hun := Lib.hid hun; have Hin := Lib.hid hin; have HE0 := Lib.hid hE0; clear hkn hmk hrl hun hin hE0
  have He := Lib.hid he; clear he ha
  have hv : a.v = .agg a.cs := rfl
  have Hv := Lib.hid hv
  rw [hv]
  clear hv
  rw [wl_cs]
  go_enter Tryz.func9, Tryz.ntmps9
  rw [← wl_cs]
  go_wp2_with fail
  refine (Hkn.out _ HE0.out).mono ?_
  rintro e w1 ⟨rfl, hx1⟩
  have hrl1 := Hrl.out w1 hx1
  have Hx1 := Lib.hid (HE0.out.trans hx1); have Hrl1 := Lib.hid hrl1
  clear hx1 hrl1
  have Hmk1 := Lib.hid (Hmk.out w1 Hx1.out)
  go_wp2_with (refine wpList_load_mid rfl 26 (.tmp 2) rfl w.heap.size 0 rfl a.cs.toList _ Hrl1.out Hun.out rfl Hin.out ?_)
  rw [← Hv.out]
  refine Hmk1.out.mono ?_
  rintro e w2 ⟨v2, rs, rfl, hs2, hc2, hx2⟩
  have hw2 := wl_wc a hc2
  obtain ⟨a2, c2, b2, d2, rfl, hs2⟩ := scv_cut hs2
  have hL : (rs.map Qw.x).length = rs.length := List.length_map ..
  have hfew := hw2.wd.few
  have hpos := hw2.wd.pos
  rw [hL] at hfew hpos
  have hlp : a.p.length ≤ 100 ∧ primesErr a.p = 0 := by rcases a.pw with e | e <;> rw [e] <;> decide
  have hb2 := BoxT.new 32 w2 (.slice a2 a.p.length c2) (.slice b2 rs.length d2)
  have hE2 := (Ext.refl w2).alloc (.cells #[.slice a2 a.p.length c2, .slice b2 rs.length d2] 32)
  have Hx2 := Lib.hid ((Hx1.out.trans hx2).trans hE2); have Hs2 := Lib.hid (hs2.ext hE2); have Hw2 := Lib.hid hw2; have Hb2 := Lib.hid hb2; have HL := Lib.hid hL; have Hlp := Lib.hid hlp
  have q0 := hb2.c0
  have q1 := hb2.c1
  clear hx2 hs2 hw2 hb2 hE2 hc2 hL hlp
  have hcsz := fun (d : Nat) (hd : d ≤ rs.length) => cSizes_c _ a.p rs d _ (He.out.ext Hx2.out) Hs2.out Hw2.out hd
  have hsz := fun (d : Nat) (hd : d ≤ rs.length) W (hE : Ext (w2.alloc (.cells #[.slice a2 a.p.length c2, .slice b2 rs.length d2] 32)) W) => lsizes_c _ a.p rs d W (He.out.ext (Hx2.out.trans hE)) (Hs2.out.ext hE) Hw2.out hd
  have hcn := fun (d : Nat) (hd : d ≤ rs.length) vx x W (hE : Ext (w2.alloc (.cells #[.slice a2 a.p.length c2, .slice b2 rs.length d2] 32)) W) hx hxl hxf => count_c _ vx a.p rs x d W (He.out.ext (Hx2.out.trans hE)) (Hs2.out.ext hE) Hw2.out hd hx hxl hxf
  have hiv := fun (i d : Nat) (hi : i ≤ 100) (hd : d ≤ 100) W (hE : Ext (w2.alloc (.cells #[.slice a2 a.p.length c2, .slice b2 rs.length d2] 32)) W) => interval_c _ a.p rs i d W (He.out.ext (Hx2.out.trans hE)) (Hs2.out.ext hE) Hw2.out hi hd
  have hdm : b % (rs.length + 1) < rs.length + 1 := Nat.mod_lt _ (by omega)
  have hr1 : ((b : Nat) : Int).tmod ((rs.length : Int) + 1) = ((b % (rs.length + 1) : Nat) : Int) := by rw [Int.tmod_eq_emod_of_nonneg (by omega)]; rfl
  obtain ⟨d, hdd⟩ : ∃ d, d = b % (rs.length + 1) := ⟨_, rfl⟩
  rw [← hdd] at hdm hr1
  have hcl := fun (d : Nat) => cls_len (p := a.p) (N := rs.map Qw.x) (d := (d : Int))
  have hcp := Hw2.out.cls_pos (d : Int)
  rw [HL.out] at hcl
  have Hcsz := Lib.hid hcsz; have Hsz := Lib.hid hsz; have Hcn := Lib.hid hcn; have Hiv := Lib.hid hiv; have Hcl := Lib.hid hcl; have Hdd := Lib.hid hdd; clear hcsz hsz hcn hiv hcl hdd
  clear Hmk1 Hkn Hmk Hrl Hrl1 Hun Hin
  generalize hN : rs.length = n at *
  have HN := Lib.hid hN
  clear hN
  have hw1 : IntKind.i64.wrap ((b : Nat) : Int) = ((b : Nat) : Int) := IntWalk.i64_in _ (by omega)
  have hw2 : IntKind.i64.wrap ((n : Int) + 1) = (n : Int) + 1 := IntWalk.i64_in _ (by omega)
  have hw3 : IntKind.i64.wrap (d : Int) = (d : Int) := IntWalk.i64_in _ (by omega)
  have hw4 : ((b : Nat) : Int) % ((n : Int) + 1) = (d : Int) := by rw [Hdd.out]; rfl
  have hnz : ¬ (n : Int) + 1 = 0 := by omega
  go_wp2_with fail
  generalize w2.alloc (.cells #[.slice a2 a.p.length c2, .slice b2 n d2] 32) = W2 at *
  refine (Hcsz.out d (by omega)).mono ?_
  rintro e w3 ⟨u3, out3, rfl, hq3, hm3, hx3⟩
  have hlen3 : ∀ r ∈ out3, r.x.length = a.p.length := fun r hr => Hw2.out.cls_lt (d := (d : Int)) (by rw [← hm3]; exact List.mem_map_of_mem hr)
  have hl3 : out3.length ≤ 10 := by rw [← List.length_map (f := Qw.x), hm3]; have := Hcl.out d; omega
  have hrd3 := hq3.rd
  obtain ⟨g3, c3, rfl, hr3⟩ := cls_row Hw2.out hq3 hm3
  have q0 := (Hb2.out.ext hx3).c0
  have q1 := (Hb2.out.ext hx3).c1
  have hs3 := Hsz.out d (by omega) w3 hx3
  have hft : ∀ x ∈ cls a.p (rs.map Qw.x) (d : Int), x.length = a.p.length ∧ ∀ r ∈ x, Ft 30 r := fun x hx => by
    obtain ⟨i, rfl⟩ := Hw2.out.cls_mem.1 hx
    exact ⟨Hw2.out.ivlen _ _, (Hw2.out.iv_quick (by omega) (by rw [HL.out]; omega)).1⟩
  have hsf := Hw2.out.sumC_full (d : Int)
  have hlz := Hcl.out d
  have hat : ∀ i, i < (cls a.p (rs.map Qw.x) (d : Int)).length → ∃ x, (cls a.p (rs.map Qw.x) (d : Int))[i]? = some x := fun i hi => ⟨_, List.getElem?_eq_getElem hi⟩
  rw [HL.out] at hsf
  have Hs3 := Lib.hid hs3; have Hrd3 := Lib.hid hrd3; have Hr3 := Lib.hid hr3; have Hft := Lib.hid hft; have Hsf := Lib.hid hsf; have Hat := Lib.hid hat; have Hlen3 := Lib.hid hlen3; have Hl3 := Lib.hid hl3; have Hm3 := Lib.hid hm3; clear hs3 hrd3 hr3 hft hsf hat hlen3 hl3 hm3
  have H3 := Lib.hid hx3
  clear hq3 hx3
  generalize (cls a.p (rs.map Qw.x) (d : Int)).length = z at *
  clear hr1 hw1 hw4 hnz
  go_wp2_with fail
  refine Hs3.out.mono ?_
  rintro e w4 ⟨u4, rfl, out4, hq4, hm4, hx4⟩
  have hsm := lsame32_c (.slice (some ⟨g3, 0, none⟩) z c3) u4 out3 out4 w4 (hx4.rdM Hrd3.out) hq4.rd (by have := Hl3.out; omega) (by rw [← List.length_map (f := Qw.x), hm4, ← Hm3.out, List.length_map]; have := Hl3.out; omega) (fun r hr => by rw [Hlen3.out r hr]; have := Hlp.out.1; omega) (fun r hr => by rw [(Hft.out r.x (by rw [← hm4]; exact List.mem_map_of_mem hr)).1]; have := Hlp.out.1; omega)
  rw [Hm3.out, hm4] at hsm
  simp only [decide_true] at hsm
  obtain ⟨a4, c4, rfl⟩ := own_shape hq4.1
  generalize out4.length = z4 at *
  have Hsm := Lib.hid hsm; have H34 := Lib.hid hx4
  clear hsm hq4 hm4 hx4 q0 q1
  go_wp2_with fail
  refine Hsm.out.mono ?_
  rintro e w5 ⟨rfl, hx5⟩
  have H35 := Lib.hid (H34.out.trans hx5)
  clear hx5
  go_wp2_with fail
  go_loopw [9, 10] (fun v9 v10 wr => ∃ i T : Nat, v9 = .int .i64 (T : Int) ∧ v10 = .int .i64 (i : Int) ∧ i ≤ z ∧ T ≤ 10 * i ∧ Hid (T = sumC a.p (rs.map Qw.x) (d : Int) i) ∧ Hid (Ext w5 wr)) (fun _ v10 _ => z + 1 - (intOf v10).toNat)
  case atStart => exact ⟨0, 0, rfl, rfl, Nat.zero_le _, Nat.le_refl _, Lib.hid rfl, Lib.hid (Ext.refl _)⟩
  case round =>
    obtain ⟨i, T, rfl, rfl, hi, hT, HT, HE⟩ := hrel
    have h3r := H35.out.trans HE.out
    have h2r := H3.out.trans h3r
    have q0 := (Hb2.out.ext h2r).c0
    have q1 := (Hb2.out.ext h2r).c1
    by_cases hiz : i < z
    · have hiz2 : (i : Int) < (z : Int) := by omega
      have hi0 : (0 : Int) ≤ (i : Int) := by omega
      obtain ⟨x, hx⟩ := Hat.out i hiz
      obtain ⟨ax, cx, hcx, hox⟩ := Hr3.out i x hx
      have hf := Hft.out x (List.mem_of_getElem? hx)
      have hS : ∀ W, Ext wr W → Ext wr W ∧ W.cell? ⟨w2.heap.size, 0, none⟩ = some (.slice a2 a.p.length c2) ∧ W.cell? ⟨w2.heap.size, 1, none⟩ = some (.slice b2 n d2) ∧ W.cell? ⟨g3, i, none⟩ = some (.slice ax a.p.length cx) := fun W hW => ⟨hW, (Hb2.out.ext (h2r.trans hW)).c0, (Hb2.out.ext (h2r.trans hW)).c1, (h3r.trans hW).cell hcx⟩
      obtain ⟨_, e0, e1, e2⟩ := hS _ (Ext.refl wr).drew
      have hcnt := Hcn.out d (by omega) (.slice ax a.p.length cx) x wr.drew h2r.drew (h3r.drew.ownQ hox).rd hf.1 hf.2
      have HXr : Hid (Ext wr wr) := Lib.hid (Ext.refl wr)
      have hst := sumC_step hx
      have hcb := cnt_le a.p (rs.map Qw.x) (d : Int) x
      rw [HL.out] at hcb
      have hcf := cntTo_full a.p (rs.map Qw.x) (d : Int) x
      rw [HL.out] at hcf
      generalize cnt a.p (rs.map Qw.x) (d : Int) x = K at *
      have Hx := Lib.hid hx; have Hox := Lib.hid hox; have HS := Lib.hid hS; have Hcnt := Lib.hid hcnt; have Hst := Lib.hid hst; have Hcf := Lib.hid hcf; have H3r := Lib.hid h3r; have H2r := Lib.hid h2r; have Hf := Lib.hid hf
      clear hx hox hS hcnt hst hcf h3r h2r hf hcx q0 q1
      go_wp2_with fail
      go_region_held3 (fun w' => Ext wr w' ∧ w'.cell? ⟨w2.heap.size, 0, none⟩ = some (.slice a2 a.p.length c2) ∧ w'.cell? ⟨w2.heap.size, 1, none⟩ = some (.slice b2 n d2) ∧ w'.cell? ⟨g3, i, none⟩ = some (.slice ax a.p.length cx))
        (first | (with_reducible assumption) | exact HS.out _ HXr.out.drew | exact HS.out _ HxA.out)
        (first | (go_at_call 33; refine Hcnt.out.mono ?_; rintro e9 VA ⟨rfl, hxa⟩; have HxA := Lib.hid (HXr.out.drew.trans hxa); clear hxa))
      clear e0 e1 e2
      go_wp2_with fail
      obtain ⟨wa, hwa⟩ : ∃ wa, wa = wr := ⟨_, rfl⟩
      subst hwa
      go_loopw [13, 14] (fun v13 v14 wr => ∃ c O : Nat, v13 = .int .i64 (O : Int) ∧ v14 = .int .i64 (c : Int) ∧ c ≤ n ∧ O ≤ c ∧ Hid (O = cntTo a.p (rs.map Qw.x) (d : Int) x c) ∧ Hid (Ext VA wr)) (fun _ v14 _ => n + 1 - (intOf v14).toNat)
      case atStart => exact ⟨0, 0, rfl, rfl, Nat.zero_le _, Nat.le_refl _, Lib.hid rfl, Lib.hid (Ext.refl _)⟩
      case round =>
        obtain ⟨c, O, rfl, rfl, hc, hO, HO, HE2⟩ := hrel
        have h3r := H3r.out.trans (HxA.out.trans HE2.out)
        have h2r := H3.out.trans h3r
        have q0 := (Hb2.out.ext h2r).c0
        have q1 := (Hb2.out.ext h2r).c1
        by_cases hcn : c < n
        · have hcn2 : (c : Int) < (n : Int) := by omega
          have hS2 : ∀ W, Ext wr W → Ext wr W ∧ W.cell? ⟨w2.heap.size, 0, none⟩ = some (.slice a2 a.p.length c2) ∧ W.cell? ⟨w2.heap.size, 1, none⟩ = some (.slice b2 n d2) ∧ W.cell? ⟨g3, i, none⟩ = some (.slice ax a.p.length cx) := fun W hW => ⟨hW, (Hb2.out.ext (h2r.trans hW)).c0, (Hb2.out.ext (h2r.trans hW)).c1, (HS.out _ (HxA.out.trans (HE2.out.trans hW))).2.2.2⟩
          obtain ⟨_, e0, e1, e2⟩ := hS2 _ (Ext.refl wr).drew
          have hivc := Hiv.out c d (by omega) (by omega) wr.drew h2r.drew
          have hsm2 := fun W ui (hE : Ext wr W) (ho : Rd W ui (iv a.p (rs.map Qw.x) (c : Int) (d : Int))) => lSame24_c ui (.slice ax a.p.length cx) (iv a.p (rs.map Qw.x) (c : Int) (d : Int)) x W ho ((h3r.trans hE).ownQ Hox.out).rd (by rw [Hw2.out.ivlen]; have := Hlp.out.1; omega) (by rw [Hf.out.1]; have := Hlp.out.1; omega)
          have hcs := cntTo_step (p := a.p) (N := rs.map Qw.x) (d := (d : Int)) (x := x) (c := c) (by rw [HL.out]; exact hcn)
          have HXr2 : Hid (Ext wr wr) := Lib.hid (Ext.refl wr)
          have HS2 := Lib.hid hS2; have Hivc := Lib.hid hivc; have Hcs := Lib.hid hcs
          clear hS2 hivc hcs h3r h2r q0
          by_cases hxy : iv a.p (rs.map Qw.x) (c : Int) (d : Int) = x
          · have Hsm2 := Lib.hid (fun W ui hE ho => show Calls Tryz.prog 21 #[ui, .slice ax a.p.length cx] W fun e w' => e = .returned (.bool true) ∧ Ext W w' from by have := hsm2 W ui hE ho; rwa [decide_eq_true hxy] at this)
            have Hxy := Lib.hid hxy
            clear hsm2 hxy
            go_wp2_with fail
            go_region_held3 (fun w' => Ext wr w' ∧ w'.cell? ⟨w2.heap.size, 0, none⟩ = some (.slice a2 a.p.length c2) ∧ w'.cell? ⟨w2.heap.size, 1, none⟩ = some (.slice b2 n d2) ∧ w'.cell? ⟨g3, i, none⟩ = some (.slice ax a.p.length cx))
              (first | (with_reducible assumption) | exact HS2.out _ HXr2.out.drew | exact HS2.out _ HxC.out | exact HS2.out _ HxB.out)
              (first | (have hpv := HxB; clear hpv; go_at_call 21; refine (Hsm2.out _ _ HxB.out HoB.out.rd).mono ?_; rintro e9 VC ⟨rfl, hxc⟩; have HxC := Lib.hid (HxB.out.trans hxc); clear hxc) | (go_at_call 30; refine Hivc.out.mono ?_; rintro e9 VB ⟨uB, rfl, hoB, hxb⟩; have HxB := Lib.hid (HXr2.out.drew.trans hxb); have HoB := Lib.hid hoB; clear hxb hoB))
            have hwo : IntKind.i64.wrap ((O : Int) + 1) = (O : Int) + 1 := IntWalk.i64_in _ (by omega)
            clear e0 e1 e2
            go_wp2_with fail
            go_roundw
            case rel => exact ⟨c + 1, O + 1, by go_num, by go_num, by omega, by omega, Lib.hid (by rw [Hcs.out, if_pos Hxy.out, HO.out]), Lib.hid (HE2.out.trans HxC.out)⟩
            case measure => simp [intOf]; omega
          · have Hsm2 := Lib.hid (fun W ui hE ho => show Calls Tryz.prog 21 #[ui, .slice ax a.p.length cx] W fun e w' => e = .returned (.bool false) ∧ Ext W w' from by have := hsm2 W ui hE ho; rwa [decide_eq_false hxy] at this)
            have Hxy := Lib.hid hxy
            clear hsm2 hxy
            go_wp2_with fail
            go_region_held3 (fun w' => Ext wr w' ∧ w'.cell? ⟨w2.heap.size, 0, none⟩ = some (.slice a2 a.p.length c2) ∧ w'.cell? ⟨w2.heap.size, 1, none⟩ = some (.slice b2 n d2) ∧ w'.cell? ⟨g3, i, none⟩ = some (.slice ax a.p.length cx))
              (first | (with_reducible assumption) | exact HS2.out _ HXr2.out.drew | exact HS2.out _ HxC.out | exact HS2.out _ HxB.out)
              (first | (have hpv := HxB; clear hpv; go_at_call 21; refine (Hsm2.out _ _ HxB.out HoB.out.rd).mono ?_; rintro e9 VC ⟨rfl, hxc⟩; have HxC := Lib.hid (HxB.out.trans hxc); clear hxc) | (go_at_call 30; refine Hivc.out.mono ?_; rintro e9 VB ⟨uB, rfl, hoB, hxb⟩; have HxB := Lib.hid (HXr2.out.drew.trans hxb); have HoB := Lib.hid hoB; clear hxb hoB))
            clear e0 e1 e2
            go_wp2_with fail
            go_roundw
            case rel => exact ⟨c + 1, O, by go_num, by go_num, by omega, by omega, Lib.hid (by rw [Hcs.out, if_neg Hxy.out, Nat.add_zero]; exact HO.out), Lib.hid (HE2.out.trans HxC.out)⟩
            case measure => simp [intOf]; omega
        · obtain rfl : c = n := by omega
          have hcn2 : ¬ (c : Int) < (c : Int) := by omega
          obtain rfl : O = K := by rw [HO.out]; exact Hcf.out
          have hwt : IntKind.i64.wrap ((T : Int) + (O : Int)) = (T : Int) + (O : Int) := IntWalk.i64_in _ (by omega)
          clear h3r h2r
          go_wp2_with fail
          go_roundw
          case rel => exact ⟨i + 1, T + O, by go_num, by go_num, by omega, by omega, Lib.hid (by rw [Hst.out, HT.out]), Lib.hid (HE.out.trans (HxA.out.trans HE2.out))⟩
          case measure => simp [intOf]; omega
    · obtain rfl : i = z := by omega
      have hiz2 : ¬ (i : Int) < (i : Int) := by omega
      obtain rfl : T = n := by rw [HT.out]; exact Hsf.out
      have Hend := Lib.hid (Hx2.out.trans h2r)
      clear h2r h3r q0
      go_wp2_with fail
      go_ret
      exact ⟨rfl, Hend.out⟩
end Go.Proofs.YtaakmdjicocjpaaGreatDoor
