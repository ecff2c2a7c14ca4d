/- The walk of row.Sub: a range over the pairs of two rows. -/
import Derived.RangeFuncNested
import Derived.RangeFuncBound
import Derived.RangeFuncCalls
import Derived.RangeFuncLeaves
import Derived.RangeFuncBox
import Derived.RangeFuncWrites
import Derived.Shelf.Abstract
import Derived.OwnWalkIn
import Derived.TacticsInMore
import Derived.LoopNIn
import Derived.LoopIn
import Derived.Maps.AppendAt
import Derived.Test.YtkamjjjimbbdmaaGreatDoorRow
namespace Go.Proofs.YtkamjjjimbbdmaaGreatDoor
open Go.RowKit Go.Lib

attribute [local go_sem] Oper.semAt_some

/-- What the rounds keep: what lay below n₀, and block Bb. -/
def KeepB (n₀ Bb : Nat) (W W' : World) : Prop := Below n₀ W W' ∧ W'.heap[Bb]? = W.heap[Bb]?

set_option maxRecDepth 100000 in
set_option maxHeartbeats 2000000 in
theorem pairs1_in (F : Fence) (n : Nat) (h8 : F.fn 116) (hro : F.round = none) (hn : 1 ≤ n) (l Ba Bb n₀ : Nat) (aa ab : Option Addr) (ca cb : Nat) (x y : List Int) (hlen : x.length = y.length) (hreach : x.length ≤ 1000000) (J Jx : List Nat → World → Prop)
    (hY : ∀ pre p W, J pre W → pre.length < x.length → YieldAt F (n - 1) Tryz.prog l #[.int .i64 (nthI x p), .int .i64 (nthI y p)] W fun e W' =>
      (e = .returned (.bool true) ∧ J (pre ++ [p]) W' ∧ KeepB n₀ Bb W W') ∨ (e = .returned (.bool false) ∧ Jx (pre ++ [p]) W'))
    (W : World) (hBa : W.cell? ⟨Ba, 0, none⟩ = some (.slice aa x.length ca)) (hBb : W.cell? ⟨Bb, 0, none⟩ = some (.slice ab y.length cb))
    (hx : ∀ i, i < x.length → ∃ b off, aa = some ⟨b, off, none⟩ ∧ b < n₀ ∧ W.cell? ⟨b, off + i, none⟩ = some (.int .i64 (nthI x i)))
    (hy : ∀ i, i < y.length → ∃ b off, ab = some ⟨b, off, none⟩ ∧ b < n₀ ∧ W.cell? ⟨b, off + i, none⟩ = some (.int .i64 (nthI y i))) (h0 : J [] W) :
    CallsIn F n Tryz.prog 116 #[.func (.yield l) #[] #[], .pointer (some ⟨Ba, 0, none⟩), .pointer (some ⟨Bb, 0, none⟩)] W fun e W' => (∃ v, e = .returned v) ∧
      ((∃ ys, ys = List.range x.length ∧ J ys W') ∨ (∃ pre, True ∧ Jx pre W')) := by
  have Hx := Lib.hid hx; clear hx
  have Hy := Lib.hid hy; clear hy
  have Hlen := Lib.hid hlen; clear hlen
  refine callsIn_of_wp Tryz.func116 rfl h8 ?_ hro
  simp only [Tryz.ntmps116, List.size_toArray, List.length_cons, List.length_nil, Nat.reduceAdd, Nat.reduceSub, Array.replicate_succ, Array.replicate_zero, List.push_toArray, List.append_toArray, List.nil_append, List.cons_append]
  gi_wp2
  gi_loopw [8] (fun i wr => ∃ k : Nat, k ≤ x.length ∧ i = .int .i64 k ∧ J (List.range k) wr ∧ KeepB n₀ Bb W wr)
    (fun i _ => x.length - (intOf i).toNat)
  case atStart => exact ⟨0, Nat.zero_le _, rfl, h0, Below.refl _ _, rfl⟩
  case round =>
    obtain ⟨k, hk, rfl, hJs, hnx⟩ := hrel
    by_cases hlt : k < x.length
    · obtain ⟨bx, ox, rfl, hbx, hcx0⟩ := Hx.out k hlt
      have hky : k < y.length := by rw [← Hlen.out]; exact hlt
      obtain ⟨by_, oy, rfl, hby, hcy0⟩ := Hy.out k hky
      have hcx : wr.cell? ⟨bx, ox + k, none⟩ = some (.int .i64 (nthI x k)) := (hnx.1.cell (p := ⟨bx, ox + k, none⟩) hbx).trans hcx0
      have hBbr : wr.cell? ⟨Bb, 0, none⟩ = some (.slice (some ⟨by_, oy, none⟩) y.length cb) := (World.cell?_of_block (a := ⟨Bb, 0, none⟩) hnx.2).trans hBb
      have hcy : wr.cell? ⟨by_, oy + k, none⟩ = some (.int .i64 (nthI y k)) := (hnx.1.cell (p := ⟨by_, oy + k, none⟩) hby).trans hcy0
      have hup : List.range (k + 1) = List.range k ++ [k] := List.range_succ
      have Hup := Lib.hid hup; clear hup hcx0 hcy0
      have Hnx := Lib.hid hnx; clear hnx
      obtain ⟨fn, tmps, assign, body, hy1, hR⟩ := hY _ k wr hJs (by rw [List.length_range]; exact hlt)
      have HR := Lib.hid hR; clear hR
      clear hY
      gi_wp2
      refine HR.out.mono ?_
      rintro e W3 (⟨rfl, hJ3, hk3⟩ | ⟨rfl, hJx3⟩)
      · gi_wp2
        go_roundw
        case rel => exact ⟨k + 1, by omega, by simp, by rw [Hup.out]; exact hJ3, Hnx.out.1.trans hk3.1, hk3.2.trans Hnx.out.2⟩
        case measure => simp [intOf]; omega
      · gi_wp2
        refine bodyPost_ret (results_none rfl _ _ _) rfl ?_
        exact ⟨⟨_, rfl⟩, .inr ⟨_, trivial, hJx3⟩⟩
    · obtain rfl : k = x.length := by omega
      clear hY
      gi_wp2
      go_end0
      exact ⟨⟨_, rfl⟩, .inl ⟨_, rfl, hJs⟩⟩

set_option maxHeartbeats 1000000 in
theorem pairs_in (F : Fence) (n : Nat) (h5 : F.fn 83) (hro : F.round = none) (aa ab : Option Addr) (la ca lb cb : Nat) (w : World) :
    CallsIn F n Tryz.prog 83 #[.slice aa la ca, .slice ab lb cb] w fun e w' => e = .returned (.func (.func 116) #[] #[.pointer (some ⟨w.heap.size, 0, none⟩), .pointer (some ⟨w.heap.size + 1, 0, none⟩)]) ∧
      w' = (w.alloc (.cells #[.slice aa la ca] 30)).alloc (.cells #[.slice ab lb cb] 30) := by
  refine callsIn_of_wp Tryz.func83 rfl h5 ?_ hro
  simp only [Tryz.ntmps83, List.size_toArray, List.length_cons, List.length_nil, Nat.reduceAdd, Nat.reduceSub, Array.replicate_succ, Array.replicate_zero, List.push_toArray, List.append_toArray, List.nil_append, List.cons_append]
  gi_wp2
  go_ret
  exact ⟨rfl, rfl⟩

theorem pairs_stops (F : Fence) (n : Nat) (h8 : F.fn 116) (hro : F.round = none) (hn : 1 ≤ n) (Ba Bb n₀ : Nat) (aa ab : Option Addr) (ca cb : Nat) (x y : List Int) (hlen : x.length = y.length) (hreach : x.length ≤ 1000000) (w : World)
    (hBa : w.cell? ⟨Ba, 0, none⟩ = some (.slice aa x.length ca)) (hBb : w.cell? ⟨Bb, 0, none⟩ = some (.slice ab y.length cb))
    (hx : ∀ i, i < x.length → ∃ b off, aa = some ⟨b, off, none⟩ ∧ b < n₀ ∧ w.cell? ⟨b, off + i, none⟩ = some (.int .i64 (nthI x i)))
    (hy : ∀ i, i < y.length → ∃ b off, ab = some ⟨b, off, none⟩ ∧ b < n₀ ∧ w.cell? ⟨b, off + i, none⟩ = some (.int .i64 (nthI y i))) :
    SeqStopsK F n Tryz.prog 116 #[.pointer (some ⟨Ba, 0, none⟩), .pointer (some ⟨Bb, 0, none⟩)] (fun p : Nat => #[Value.int .i64 (nthI x p), Value.int .i64 (nthI y p)]) (KeepB n₀ Bb) (fun ys => ys = List.range x.length) (fun _ => True) x.length w := fun l J Jx W hW _ _ hY h0 => by
  have hext : Ext w W := hW
  exact pairs1_in F n h8 hro hn l Ba Bb n₀ aa ab ca cb x y hlen hreach J Jx hY W (hext.cell hBa) (hext.cell hBb)
    (fun i hi => by obtain ⟨b, off, e, hb, hc⟩ := hx i hi; exact ⟨b, off, e, hb, hext.cell hc⟩)
    (fun i hi => by obtain ⟨b, off, e, hb, hc⟩ := hy i hi; exact ⟨b, off, e, hb, hext.cell hc⟩) h0

theorem info_int : (Tryz.prog.info? 3).map (fun i => (i.zero, i.size, i.bytes)) = some (some (.int .i64 0), 1, 8) := by kernel_rfl

/-- A row that a call made. -/
def OwnI (w : World) (B : Nat) (v : Value) (l : List Int) : Prop := w.ownsRow B 3 1 v l.length (i64s l)
theorem Ext.ownI {w w' : World} (h : Ext w w') {B : Nat} {v : Value} {l : List Int} (ho : OwnI w B v l) : OwnI w' B v l := h.own ho
theorem OwnI.sl {w : World} {B : Nat} {v : Value} {l : List Int} (ho : OwnI w B v l) : Sl w v (i64s l) := sl_own ho

theorem boxed_own {β : Type} {B : Nat} {t : TypeId} {v : Value} : Go.Own (fun (_ : β) W => Boxed W B t v) := by
  intro s X Y row hv hg hrow
  refine hv.kept hg (fun e' => ?_)
  obtain ⟨o, ho, hc⟩ := hrow B e'.symm
  rw [show X.heap[B]? = _ from hv] at ho; cases ho; cases hc

/-- The differences. -/
def diff (x y : List Int) : List Int := (List.range x.length).map fun p => nthI x p - nthI y p

set_option maxRecDepth 100000 in
set_option maxHeartbeats 2000000 in
theorem sub_c (vx vy : Value) (x y : List Int) (w : World) (hx : Sl w vx (i64s x)) (hy : Sl w vy (i64s y)) (hlen : x.length = y.length) (hl : x.length ≤ 64) (hb : bothErr x y = 0) (hd : rowChk (diff x y) = 0)
    (hin : ∀ i, i < x.length → -1000000000000 ≤ nthI x i - nthI y i ∧ nthI x i - nthI y i ≤ 1000000000000) :
    Calls Tryz.prog 43 #[vx, vy] w fun e w' => ∃ v, e = .returned (.tuple #[v, .int .i64 0]) ∧ OwnI w' w.heap.size v (diff x y) ∧ Ext w w' := by
  obtain ⟨i0, hi, hz0, hz1, hz2⟩ := info_parts info_int
  have hboth := rboth_c vx vy x y w hx hy (by omega) (by omega)
  rw [hb] at hboth
  have Hboth := Lib.hid hboth; clear hboth hb
  have Hd := Lib.hid hd; clear hd
  have hall : ∀ i, -1000000000000 ≤ nthI x i - nthI y i ∧ nthI x i - nthI y i ≤ 1000000000000 := fun i => by
    rcases Nat.lt_or_ge i x.length with h | h
    · exact hin i h
    · have e1 : nthI x i = 0 := by unfold nthI; rw [List.getD_eq_getElem?_getD, List.getElem?_eq_none h]; rfl
      have e2 : nthI y i = 0 := by unfold nthI; rw [List.getD_eq_getElem?_getD, List.getElem?_eq_none (by omega)]; rfl
      rw [e1, e2]; omega
  have Hall := Lib.hid hall; clear hall hin
  have Hlen := Lib.hid hlen; clear hlen
  obtain ⟨aa, ca, rfl, _, _, hcx⟩ := hx.parts
  obtain ⟨ab, cb, rfl, _, _, hcy⟩ := hy.parts
  rw [i64s_length] at *
  rw [i64s_length] at *
  have Hcx := Lib.hid hcx; clear hcx hx
  have Hcy := Lib.hid hcy; clear hcy hy
  refine (callsIn_wide (n := 3)).1 ?_
  refine callsIn_of_wp_marks Tryz.func43 rfl trivial ?_ rfl
  simp only [Tryz.ntmps43, List.size_toArray, List.length_cons, List.length_nil, Nat.reduceAdd, Nat.reduceSub, Array.replicate_succ, Array.replicate_zero, List.push_toArray, List.append_toArray, List.nil_append, List.cons_append]
  gi_wp2_with fail
  refine ⟨trivial, ?_⟩
  refine (callsIn_wide.2 Hboth.out).mono ?_
  rintro e w1 ⟨rfl, hx1⟩
  have hs1 := hx1.size
  have Hx1 := Lib.hid hx1; clear hx1
  gi_wp2_with (gi_at_make; refine wpListIn_make_own _ rfl _ _ 30 rfl w.heap.size 3 i0 (.int .i64 0) 1 Tryz.underlying30 hi hz0 hz1 .i64 .i64 x.length x.length rfl rfl rfl (by rw [hz2]; omega) (by unfold maxLen; omega) hs1 ?_; intro w2 hown2 hgrow2)
  refine ⟨trivial, ?_⟩
  refine (pairs_in Fence.wide _ trivial rfl _ _ _ _ _ _ _).mono ?_
  rintro e w' ⟨rfl, rfl⟩
  have hs2 := hgrow2.size
  have bO := Boxed.new w2 30 (.slice (some ⟨w1.heap.size, 0, none⟩) 0 x.length)
  have bA := Boxed.new (w2.alloc (.cells #[.slice (some ⟨w1.heap.size, 0, none⟩) 0 x.length] 30)) 30 (.slice aa x.length ca)
  have bB := Boxed.new ((w2.alloc (.cells #[.slice (some ⟨w1.heap.size, 0, none⟩) 0 x.length] 30)).alloc (.cells #[.slice aa x.length ca] 30)) 30 (.slice ab y.length cb)
  simp only [World.size_alloc] at bO bA bB
  have hE2 : Ext w w2 := Hx1.out.grown hgrow2 (fun k e => by cases e)
  have hE5 := ((hE2.alloc (.cells #[.slice (some ⟨w1.heap.size, 0, none⟩) 0 x.length] 30)).alloc (.cells #[.slice aa x.length ca] 30)).alloc (.cells #[.slice ab y.length cb] 30)
  have hrow5 := ((hown2.alloc (.cells #[.slice (some ⟨w1.heap.size, 0, none⟩) 0 x.length] 30)).alloc (.cells #[.slice aa x.length ca] 30)).alloc (.cells #[.slice ab y.length cb] 30)
  have HE5 := Lib.hid hE5; clear hE5
  gi_wp2_with fail
  refine wpIn_rangeFunc_ownG (n := 3) rfl (by omega) (gf := 116) (lb := #[.pointer (some ⟨w2.heap.size + 1, 0, none⟩), .pointer (some ⟨w2.heap.size + 1 + 1, 0, none⟩)]) rfl trivial (enters_of Tryz.func116 (by kernel_rfl) rfl)
    (pairs_stops Fence.wide (3 - 1) trivial rfl (by omega) (w2.heap.size + 1) (w2.heap.size + 1 + 1) w.heap.size aa ab ca cb x y Hlen.out (by omega) _ (bA.alloc _).cell bB.cell
      (fun i hi => by obtain ⟨b, off, e, hc⟩ := Hcx.out i _ (i64s_at hi); exact ⟨b, off, e, World.block_lt_of_cell? _ _ hc, HE5.out.cell hc⟩)
      (fun i hi => by obtain ⟨b, off, e, hc⟩ := Hcy.out i _ (i64s_at hi); exact ⟨b, off, e, World.block_lt_of_cell? _ _ hc, HE5.out.cell hc⟩))
    (fun h k => ⟨h.1.trans k.1, k.2.trans h.2⟩) (fun W l o o' hl h hc hw => ⟨belowK_b HE5.out.size W l o o' hl h hc hw, World.putObj_heap_other (by simp [World.size_alloc] at hl; omega)⟩) (Below.refl _ _) (fun _ => rfl)
    (fun pre W => (∃ v, Boxed W w2.heap.size 30 v ∧ W.ownsRow w.heap.size 3 1 v pre.length (i64s (pre.map fun p => nthI x p - nthI y p)) ∧ True) ∧ Boxed W (w2.heap.size + 1 + 1) 30 (.slice ab y.length cb) ∧ Below w.heap.size w W)
    (fun _ _ _ => False)
    (OwnFrom.and (Go.Own.from (holdsRow_own w.heap.size w2.heap.size 30 3 1 (fun pre : List Nat => pre.length) (fun pre => i64s (pre.map fun p => nthI x p - nthI y p)) (fun pre v => True)) _) (OwnFrom.and (Go.Own.from boxed_own _) (ownFrom_below (Nat.le_refl _) HE5.out.size)))
    (fun _ _ _ _ _ hs _ _ => hs)
    ⟨⟨_, (bO.alloc _).alloc _, hrow5, trivial⟩, bB, HE5.out⟩
    (fun p => { tmps := #[.slice aa x.length ca, .slice ab y.length cb, undef, undef, .slice none 0 0, .int .i64 0, .int .i64 0, .pointer (some ⟨w2.heap.size, 0, none⟩),
          .int .i64 (nthI x p), .int .i64 (nthI y p), .slice aa x.length ca, .slice ab y.length cb, .int .i64 0, .int .i64 0, .bool false, undef, .slice aa x.length ca, .int .i64 x.length,
          .slice (some ⟨w1.heap.size, 0, none⟩) 0 x.length, .slice aa x.length ca, .slice ab y.length cb,
          .func (.func 116) #[] #[.pointer (some ⟨w2.heap.size + 1, 0, none⟩), .pointer (some ⟨w2.heap.size + 1 + 1, 0, none⟩)],
          .int .i64 (nthI x p), .int .i64 (nthI y p), undef, undef, undef, undef, undef, undef, undef, undef, undef, undef], defers := [] }) ?assign ?body ?done ?stop
  case assign =>
    intro l p W K hK
    gi_wp2
    exact hK
  case body =>
    rintro l pre p W ⟨⟨v, hv, hrow, _⟩, hvb, hB⟩ hlt
    have hc := hv.cell
    have hpb := Hall.out p
    have hlt2 : pre.length < 64 := by omega
    clear hlt
    gi_wp2_with (gi_at_builtin; refine wpListIn_append_own _ rfl _ _ 30 rfl w.heap.size 3 i0 (.int .i64 0) 1 8 Tryz.underlying30 hi hz0 hz1 hz2 rfl (by decide) _ _ _ rfl (hrow.alloc _) ⟨W.heap.size, 0, none⟩ 1 1 [.int .i64 (nthI x p - nthI y p)] rfl rfl (cell_one_new _ _ _) (by simp [Value.oneCell']) (by unfold maxLen; omega) (by omega) (by have := hB.size; simp; omega) ?_; intro v' w6 hown' hgrow _; obtain ⟨g', cap', rfl⟩ := ownsRow_succ hown'; obtain ⟨hv1, hv2, hr2, hk2, hb2⟩ := hv.appended (by decide) hrow hB.size (by omega) hown' hgrow; have hc1 := hv1.cell; have hf1 := hv1.frozen)
    have hvb2 : Boxed w6 (w2.heap.size + 1 + 1) 30 (.slice ab y.length cb) := (hvb.alloc _).kept hgrow (hvb.not_row (by decide) hrow)
    have hvb3 : Boxed (w6.setCell ⟨w2.heap.size, 0, none⟩ (.slice (some ⟨g', 0, none⟩) (pre.length + 1) cap')) (w2.heap.size + 1 + 1) 30 (.slice ab y.length cb) := (Below.heap_setCell w6 ⟨w2.heap.size, 0, none⟩ _ (w2.heap.size + 1 + 1) (by dsimp only; omega)).trans hvb2
    exact ⟨hk2.from _, ⟨hb2, hvb3.trans hvb.symm⟩, ⟨_, hv2, by simpa [i64s] using hr2, trivial⟩, hvb3, Below.trans hB hb2⟩
  case done =>
    rintro D ys W hD rfl ⟨⟨v, hv, hrow, _⟩, hvb, hB⟩ hK
    have hc := hv.cell
    rw [List.length_range] at hrow
    have hrow' : OwnI W w.heap.size v (diff x y) := by
      have e : (diff x y).length = x.length := by unfold diff; rw [List.length_map, List.length_range]
      show W.ownsRow _ _ 1 v (diff x y).length _
      rw [e]; exact hrow
    have hrc := rresult_c v (diff x y) W hrow'.sl (by unfold diff; rw [List.length_map, List.length_range]; omega) Hd.out
    have Hrc := Lib.hid hrc; clear hrc
    gi_wp2_with fail
    refine ⟨trivial, ?_⟩
    refine (callsIn_wide.2 Hrc.out).mono ?_
    rintro e w9 ⟨rfl, hx9⟩
    have hs9 := hx9.size
    have hs5 := HE5.out.size
    have hK9 := hx9.heap hK
    have hE9 : Ext w w9 := Ext.trans hB hx9
    have hrow9 := hx9.ownI hrow'
    gi_wp2
    refine ⟨by simp, .inl ⟨_, _, rfl, run_takeDeferred hK9, ?_⟩⟩
    refine ⟨_, results_tmp2 rfl _ _ _, v, rfl, ?_, ?_⟩
    · exact ownsRow_putObj hrow9 _ hK9 rfl
    · exact Below.trans hE9 (belowK_b (w := w) (Nat.le_refl _) w9 D _ _ (by omega) hK9 rfl rfl)
  case stop =>
    rintro D c pre W _ _ h _
    exact h.elim

end Go.Proofs.YtkamjjjimbbdmaaGreatDoor
