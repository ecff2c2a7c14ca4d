/- Walks: a size's terms as an iterator; near: whole numbers between which a size lies. A region that draws, within a round of a loop over a function: the walk that serves outside of rounds serves there too, where nothing is deferred. -/
import Derived.Test.YtajdfggocldeaaaGreatDoorPb13
import Derived.Test.YtajdfggocldeaaaGreatDoorPb04
import Derived.RangeFuncNested
import Derived.RangeFuncBound
import Derived.RangeFuncCalls
import Derived.RangeFuncLeaves
import Derived.RangeFuncBox
import Derived.RangeFuncWrites
import Derived.Shelf.Abstract
import Derived.OwnWalkIn
import Derived.TacticsInMore
import Derived.LoopNIn
import Derived.LoopIn
import Derived.BigRegionIn
import Derived.Test.YtajdfggocldeaaaGreatDoorProg
import Derived.Deep.RegionHeld3
set_option maxRecDepth 100000
set_option maxHeartbeats 2000000
namespace Go.Proofs.YtajdfggocldeaaaGreatDoor
open Go.RowKit Go.Lib
attribute [local go_sem] Oper.semAt_some
/-- What the rounds keep: what lay below n₀, and block Bb. -/
def KeepB (n₀ Bb : Nat) (W W' : World) : Prop := Below n₀ W W' ∧ W'.heap[Bb]? = W.heap[Bb]?
def nthP (l : List (Int × Int)) (k : Nat) : Int × Int := l.getD k (2, 0)
theorem strs_at (l : List (Int × Int)) (k : Nat) (h : k < l.length) : (strs (l.map Prod.snd))[k]? = some (.string (I (nthP l k).2)) := by
  unfold strs nthP; simp [List.getD_eq_getElem?_getD, List.getElem?_map, List.getElem?_eq_getElem h]
theorem ints_at (l : List (Int × Int)) (k : Nat) (h : k < l.length) : (i64s (l.map Prod.fst))[k]? = some (.int .i64 (nthP l k).1) := by
  unfold i64s nthP; simp [List.getD_eq_getElem?_getD, List.getElem?_map, List.getElem?_eq_getElem h]
theorem strs_len (l : List Int) : (strs l).length = l.length := by unfold strs; simp
theorem all1_in (F : Fence) (n : Nat) (h8 : F.fn 208) (hro : F.round = none) (hn : 1 ≤ n) (l Ba n₀ : Nat) (aa ab : Option Addr) (ca cb : Nat) (z : Value) (x : List (Int × Int)) (hreach : x.length ≤ 1000000) (J Jx : List Nat → World → Prop)
    (hY : ∀ pre p W, J pre W → pre.length < x.length → YieldAt F (n - 1) Tryz.prog l #[.int .i64 (nthP x p).1, .string (I (nthP x p).2)] W fun e W' =>
      (e = .returned (.bool true) ∧ J (pre ++ [p]) W' ∧ KeepB n₀ Ba W W') ∨ (e = .returned (.bool false) ∧ Jx (pre ++ [p]) W'))
    (W : World) (hBa : Box3 W Ba (.slice aa x.length ca) (.slice ab x.length cb) z)
    (hx : ∀ i, i < x.length → ∃ b off, aa = some ⟨b, off, none⟩ ∧ b < n₀ ∧ W.cell? ⟨b, off + i, none⟩ = some (.int .i64 (nthP x i).1))
    (hy : ∀ i, i < x.length → ∃ b off, ab = some ⟨b, off, none⟩ ∧ b < n₀ ∧ W.cell? ⟨b, off + i, none⟩ = some (.string (I (nthP x i).2))) (h0 : J [] W) :
    CallsIn F n Tryz.prog 208 #[.func (.yield l) #[] #[], .pointer (some ⟨Ba, 0, none⟩)] W fun e W' => (∃ v, e = .returned v) ∧
      ((∃ ys, ys = List.range x.length ∧ J ys W') ∨ (∃ pre, True ∧ Jx pre W')) := by
  have Hx := Lib.hid hx; clear hx
  have Hy := Lib.hid hy; clear hy
  have hc0 := hBa.c.1
  have HBa := Lib.hid hBa; clear hBa
  refine callsIn_of_wp Tryz.func208 rfl h8 ?_ hro
  simp only [Tryz.ntmps208, List.size_toArray, List.length_cons, List.length_nil, Nat.reduceAdd, Nat.reduceSub, Array.replicate_succ, Array.replicate_zero, List.push_toArray, List.append_toArray, List.nil_append, List.cons_append]
  gi_wp2
  clear hc0
  gi_loopw [8] (fun i wr => ∃ k : Nat, k ≤ x.length ∧ i = .int .i64 k ∧ J (List.range k) wr ∧ KeepB n₀ Ba W wr)
    (fun i _ => x.length - (intOf i).toNat)
  case atStart => exact ⟨0, Nat.zero_le _, rfl, h0, Below.refl _ _, rfl⟩
  case round =>
    obtain ⟨k, hk, rfl, hJs, hnx⟩ := hrel
    by_cases hlt : k < x.length
    · obtain ⟨bx, ox, rfl, hbx, hcx0⟩ := Hx.out k hlt
      obtain ⟨by_, oy, rfl, hby, hcy0⟩ := Hy.out k hlt
      have hcx : wr.cell? ⟨bx, ox + k, none⟩ = some (.int .i64 (nthP x k).1) := (hnx.1.cell (p := ⟨bx, ox + k, none⟩) hbx).trans hcx0
      have hb3 : Box3 wr Ba (.slice (some ⟨bx, ox, none⟩) x.length ca) (.slice (some ⟨by_, oy, none⟩) x.length cb) z := hnx.2.trans HBa.out
      obtain ⟨_, hBbr, _⟩ := hb3.c
      have hcy : wr.cell? ⟨by_, oy + k, none⟩ = some (.string (I (nthP x k).2)) := (hnx.1.cell (p := ⟨by_, oy + k, none⟩) hby).trans hcy0
      have hup : List.range (k + 1) = List.range k ++ [k] := List.range_succ
      have Hup := Lib.hid hup; clear hup hcx0 hcy0 hb3
      have Hnx := Lib.hid hnx; clear hnx
      obtain ⟨fn, tmps, assign, body, hy1, hR⟩ := hY _ k wr hJs (by rw [List.length_range]; exact hlt)
      have HR := Lib.hid hR; clear hR
      clear hY
      gi_wp2
      refine HR.out.mono ?_
      rintro e W3 (⟨rfl, hJ3, hk3⟩ | ⟨rfl, hJx3⟩)
      · gi_wp2
        go_roundw
        case rel => exact ⟨k + 1, by omega, by simp, by rw [Hup.out]; exact hJ3, Hnx.out.1.trans hk3.1, hk3.2.trans Hnx.out.2⟩
        case measure => simp [intOf]; omega
      · gi_wp2
        refine bodyPost_ret (results_none rfl _ _ _) rfl ?_
        exact ⟨⟨_, rfl⟩, .inr ⟨_, trivial, hJx3⟩⟩
    · obtain rfl : k = x.length := by omega
      clear hY
      gi_wp2
      go_end0
      exact ⟨⟨_, rfl⟩, .inl ⟨_, rfl, hJs⟩⟩
theorem all_in (F : Fence) (n : Nat) (h5 : F.fn 182) (hro : F.round = none) (a b c : Value) (w : World) :
    CallsIn F n Tryz.prog 182 #[.agg #[a, b, c]] w fun e w' => e = .returned (.func (.func 208) #[] #[.pointer (some ⟨w.heap.size, 0, none⟩)]) ∧
      w' = w.alloc (.cells #[a, b, c] 176) := by
  refine callsIn_of_wp Tryz.func182 rfl h5 ?_ hro
  simp only [Tryz.ntmps182, List.size_toArray, List.length_cons, List.length_nil, Nat.reduceAdd, Nat.reduceSub, Array.replicate_succ, Array.replicate_zero, List.push_toArray, List.append_toArray, List.nil_append, List.cons_append]
  gi_wp2
  go_ret
  exact ⟨rfl, rfl⟩
theorem all_stops (F : Fence) (n : Nat) (h8 : F.fn 208) (hro : F.round = none) (hn : 1 ≤ n) (Ba n₀ : Nat) (aa ab : Option Addr) (ca cb : Nat) (z : Value) (x : List (Int × Int)) (hreach : x.length ≤ 1000000) (w : World)
    (hBa : Box3 w Ba (.slice aa x.length ca) (.slice ab x.length cb) z)
    (hx : ∀ i, i < x.length → ∃ b off, aa = some ⟨b, off, none⟩ ∧ b < n₀ ∧ w.cell? ⟨b, off + i, none⟩ = some (.int .i64 (nthP x i).1))
    (hy : ∀ i, i < x.length → ∃ b off, ab = some ⟨b, off, none⟩ ∧ b < n₀ ∧ w.cell? ⟨b, off + i, none⟩ = some (.string (I (nthP x i).2))) :
    SeqStopsK F n Tryz.prog 208 #[.pointer (some ⟨Ba, 0, none⟩)] (fun p : Nat => #[Value.int .i64 (nthP x p).1, Value.string (I (nthP x p).2)]) (KeepB n₀ Ba) (fun ys => ys = List.range x.length) (fun _ => True) x.length w := fun l J Jx W hW _ _ hY h0 => by
  have hext : Ext w W := hW
  exact all1_in F n h8 hro hn l Ba n₀ aa ab ca cb z x hreach J Jx hY W (hBa.ext hext)
    (fun i hi => by obtain ⟨b, off, e, hb, hc⟩ := hx i hi; exact ⟨b, off, e, hb, hext.cell hc⟩)
    (fun i hi => by obtain ⟨b, off, e, hb, hc⟩ := hy i hi; exact ⟨b, off, e, hb, hext.cell hc⟩) h0
end Go.Proofs.YtajdfggocldeaaaGreatDoor

namespace Go.Proofs.YtajdfggocldeaaaGreatDoor
open Go
def noDefer (ops : Array Oper) : Bool := ops.toList.all fun o => match o.op with | .defer _ => false | _ => true
theorem noDefer_spec {ops : Array Oper} (h : noDefer ops = true) {j : Nat} {o : Oper} (hj : ops[j]? = some o) : ∀ c, o.op ≠ .defer c := by
  intro c hc
  have hm : o ∈ ops.toList := by
    rw [← Array.getElem?_toList] at hj
    exact List.mem_of_getElem? hj
  have := List.all_eq_true.1 h o hm
  rw [hc] at this
  cases this
section
variable {F : Fence} {n l : Nat} {P : Program} {ops : Array Oper} {Q : Exit → Act → World → Prop} {md : Region.Mode}
theorem wpOpIn_round (h : noDefer ops = true) (i : Nat) (K : Act → World → Prop) (a : Act) (w : World) : wpOpIn (F.inRound l) n P ops Q i K a w = wpOpIn F.plain n P ops Q i K a w := by
  unfold wpOpIn
  cases ho : ops[i]? with
  | none => rfl
  | some o =>
    have e : o.wpIn (F.inRound l) n P a w K Q = o.wpIn F.plain n P a w K Q := by
      unfold Oper.wpIn
      rw [Oper.semAt_eq _ _ _ (noDefer_spec h ho), Oper.semAt_eq _ _ _ (noDefer_spec h ho)]
      rfl
    simp only [e]
    rfl
theorem wpAnyIn_round (h : noDefer ops = true) : ∀ (fuel : Nat) (listed : Array Bool) (a : Act) (w : World), wpAnyIn (F.inRound l) n P md ops Q fuel listed a w = wpAnyIn F.plain n P md ops Q fuel listed a w
  | 0, _, _, _ => rfl
  | fuel + 1, listed, a, w => by
    have ih := fun i => (funext fun a => funext fun w => wpAnyIn_round h fuel (listed.setIfInBounds i true) a w : wpAnyIn (F.inRound l) n P md ops Q fuel (listed.setIfInBounds i true) = _)
    show ((Region.ready md ops listed = [] → Q .normal a w) ∧ ∀ i ∈ Region.ready md ops listed, wpOpIn (F.inRound l) n P ops Q i (wpAnyIn (F.inRound l) n P md ops Q fuel (listed.setIfInBounds i true)) a w) = ((Region.ready md ops listed = [] → Q .normal a w) ∧ ∀ i ∈ Region.ready md ops listed, wpOpIn F.plain n P ops Q i (wpAnyIn F.plain n P md ops Q fuel (listed.setIfInBounds i true)) a w)
    simp only [ih, wpOpIn_round h]
theorem wpIn_region_round {id : Nat} {a : Act} {w : World} (hm : P.follows .mixedOrders = true) (h : noDefer ops = true)
    (H : wpAnyIn F.plain n P .any ops (NoPanic Q) ops.size (Array.replicate ops.size false) a w.drew) : (Code.region id ops true).wpIn (F.inRound l) n P Q a w :=
  wpIn_mono (wpIn_region_any hm ((wpAnyIn_round h _ _ _ _).mpr H)) NoPanic.imp
end
end Go.Proofs.YtajdfggocldeaaaGreatDoor
