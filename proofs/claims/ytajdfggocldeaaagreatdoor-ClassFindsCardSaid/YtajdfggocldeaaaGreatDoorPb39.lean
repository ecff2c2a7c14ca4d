/- What the rows' condition gives the walks, and the last step of a law (the seat of chapters 31 and 32). A world that came in. A slice of fractions (pairs of strings) that came in, read. -/
import Derived.Test.YtajdfggocldeaaaGreatDoorPb01
import Derived.Below
import Derived.ChangeSame
import Derived.OpenShut
import Derived.LaidMore
import Derived.ProofKit
import Derived.Stop.Joined
import Derived.Laws.IdiomArrays
import Derived.Test.YtajdfggocldeaaaGreatDoorRows
import Derived.Test.YtajdfggocldeaaaGreatDoorTie
import Derived.Test.YtajdfggocldeaaaGreatDoorCards
import Derived.Handy
import Derived.Lay
import Derived.SevenTiedAt
import Derived.Stop.LaidErr
import Derived.Carry
import Derived.Test.YtajdfggocldeaaaGreatDoorPb36
import Derived.Lib.SmallJoins
import Derived.Test.YtajdfggocldeaaaGreatDoorPb35
import Derived.ChangeSlices
import Derived.WideShapes
import Derived.ChangeShapes
import Derived.DataReads
import Derived.Deep.SlicePairs
set_option maxRecDepth 100000
namespace Go.Proofs.YtajdfggocldeaaaGreatDoor
open Go.ChangeShapes Go.WideShapes Go.ChangeAt Go.WideMaps Go.WideElems Go.RowKit
theorem bounds_u8 {n : Int} (h : (Lit.int .u8 n).wf = true) : 0 ≤ n ∧ n ≤ 255 := by
  simp [Lit.wf, IntKind.min, IntKind.max, IntKind.signed, IntKind.bits] at h
  omega
section
variable {H : Type} {enc : TypeId × Value → H} {P : Program}
theorem post_of_below {f : Func} {s : ChangeSpec} {apart fresh handsOn again : Bool} {W W' : World} {args : Array Value} {v : Value} {ds gs : List (DataW H)} {before pa pv : List MemPlace}
    (hW : DataW.Whole enc P f.params.toList s.vars apart W args.toList ds gs before)
    (hres : ∀ (b : Nat) (sp : Nat → Bool) (hd : Bool), DataW.TrodAll enc P W' b sp hd f.resultTypes.toList (v.resultList f.resultTypes.size) (s.fn H (ds ++ gs)).results [])
    (hargs : ∀ sp : Nat → Bool, (∀ p ∈ before, sp p.block = true) → DataW.TrodAll enc P W' 0 sp true f.params.toList args.toList (s.fn H (ds ++ gs)).args pa)
    (hvars : ∀ sp : Nat → Bool, (∀ p ∈ before, sp p.block = true) → DataW.TrodVars enc P W' sp s.vars (s.fn H (ds ++ gs)).vars pv)
    (hps : before = pa ++ pv) (hb : Below W.heap.size W W')
    (hok : ∀ (j : Nat) (t : TypeId) (r : Value), f.resultTypes[j]? = some t → (v.resultList f.resultTypes.size)[j]? = some r → Value.okWide P W' .any 0 t r) :
    s.post enc P f apart fresh handsOn again W args v W' := by
  have hlt : ∀ p ∈ before, p.block < W.heap.size := fun p hp => hW.lt p hp
  have hold : ∀ p ∈ before, (fun b => decide (b < W.heap.size)) p.block = true := fun p hp => by simpa using hlt p hp
  refine ⟨ds, gs, before, [], pa, pv, hW, hres _ _ _, hargs _ hold, hvars _ hold, World.keptBut_mono (fun p hp => ⟨hp, ?_⟩) (hb.frame (· ∈ before)), fun _ => ?_⟩
  · rw [hps, List.mem_append] at hp
    exact Or.inr hp
  · obtain ⟨_, _, _, _, _, hz, hn⟩ := hW
    refine ⟨hok, _, _, ([] ++ pa) ++ pv, ⟨[] ++ pa, pv, trodAll_append (hargs _ (fun _ _ => rfl)) (hres _ _ _), hvars _ (fun _ _ => rfl), rfl, ?_, ?_⟩, ?_⟩
    · intro b off hp
      have hin : MemPlace.cell b off ∈ before := by rw [hps]; simpa using hp
      rw [hb.frozen (hlt _ hin)]
      exact hz b off hin
    · intro ha
      have := hn ha
      rw [hps] at this
      simpa using this
    · intro p hp _
      rw [hps]
      simpa using hp
end
theorem ownKnob_none : ownKnob Tryz.prog.godebug = none := by kernel_rfl
theorem pow10_type : (Tryz.prog.globals[2]?).map (·.type) = some 277 := by kernel_rfl
theorem cells_u64 : Tryz.prog.cellsOf 140 = 1 := by kernel_rfl
theorem cells_pow10 : Tryz.prog.cellsOf 277 = 20 := by kernel_rfl
theorem env_of_laid {W : World} (h : laidMetH Tryz.prog [("math/bits.deBruijn32tab", Rows.laid_math_bits_deBruijn32tab), ("math/bits.deBruijn64tab", Rows.laid_math_bits_deBruijn64tab), ("internal/strconv.uint64pow10", Rows.laid_internal_strconv_uint64pow10), ("strconv.ErrRange", Rows.laid_strconv_ErrRange), ("strconv.ErrSyntax", Rows.laid_strconv_ErrSyntax)] W) : Env W := by
  rw [MakeChecks.laidMetH_plain _ _ _ (by kernel_rfl)] at h
  exact Lib.tabIs_of_head (k := .u64) (zs := Lib.pow10Tab) globalAt pow10_type Tryz.underlying277 Tryz.underlying140 cells_u64 cells_pow10 h.tail.tail
/-- The cells that the rows list. -/
def rowLaid : List (String × DataW Unit) := [("math/bits.deBruijn32tab", Rows.laid_math_bits_deBruijn32tab), ("math/bits.deBruijn64tab", Rows.laid_math_bits_deBruijn64tab), ("internal/strconv.uint64pow10", Rows.laid_internal_strconv_uint64pow10), ("strconv.ErrRange", Rows.laid_strconv_ErrRange), ("strconv.ErrSyntax", Rows.laid_strconv_ErrSyntax)]
theorem rows_shaped (os : Os) (args : Array Value) : ((World.laidAll Tryz.prog os rowLaid).forCall (fun _ _ => 0) ⟨#[], args, []⟩).Shaped Tryz.prog := World.shaped_of_ZipB (by kernel_rfl) (by kernel_rfl)
theorem rows_met (os : Os) (args : Array Value) : laidMetH Tryz.prog rowLaid ((World.laidAll Tryz.prog os rowLaid).forCall (fun _ _ => 0) ⟨#[], args, []⟩).memory := by
  rw [MakeChecks.laidMetH_plain _ _ _ (by kernel_rfl)]; exact laidMet_laidAll _ (by kernel_rfl) (by kernel_rfl)
theorem laidOut_yes : laidOutB Tryz.prog = true := by kernel_rfl
section
variable {H : Type} {enc : TypeId × Value → H} {W W' : World} {sp : Nat → Bool}
theorem trodAll_stays : ∀ {ts : List TypeId} {vs : List Value} {ds : List (DataW H)} {ps : List MemPlace}, (∀ t ∈ ts, Tryz.prog.readableRec t = true ∧ t < Tryz.prog.types.size) →
    DataW.TrodAll enc Tryz.prog W 0 (fun _ => true) true ts vs ds ps → (∀ x ∈ ps, W.sameAt W' x) → (∀ x ∈ ps, sp x.block = true) → DataW.TrodAll enc Tryz.prog W' 0 sp true ts vs ds ps
  | [], _, _, _, _, h, _, _ => by
    obtain ⟨rfl, rfl, rfl⟩ := trodAll_nil h
    exact trodAll_mk0
  | t :: ts, vs, ds, ps, hts, h, hs, hp => by
    obtain ⟨v, vs', d, ds', p, p', rfl, rfl, rfl, h1, h2⟩ := trodAll_cons h
    obtain ⟨hr, hw⟩ := hts t (List.mem_cons_self ..)
    exact trodAll_cons_mk (WideElems.Trod_stays laidOut_yes hr hw h1 (fun x hx => hs x (List.mem_append_left _ hx)) (fun x hx => hp x (List.mem_append_left _ hx)))
      (trodAll_stays (fun t ht => hts t (List.mem_cons_of_mem _ ht)) h2 (fun x hx => hs x (List.mem_append_right _ hx)) (fun x hx => hp x (List.mem_append_right _ hx)))
end
/-- A law that returned true, and laid new blocks alone. -/
theorem law_post {H : Type} {enc : TypeId × Value → H} {f : Func} {s : ChangeSpec} {W W' : World} {args : Array Value} {ds : List (DataW H)} {before : List MemPlace} (hv : s.vars = []) (hts : ∀ t ∈ f.params.toList, Tryz.prog.readableRec t = true ∧ t < Tryz.prog.types.size)
    (hres : f.resultTypes = #[4]) (hfn : s.fn H ds = { results := [.lit (.bool true)], args := ds })
    (hW : DataW.Whole enc Tryz.prog f.params.toList s.vars false W args.toList ds [] before) (hb : Below W.heap.size W W') : s.post enc Tryz.prog f false true false false W args (.bool true) W' := by
  have hW' := hW
  obtain ⟨p, q, hA0, hV, rfl, _, _⟩ := hW
  rw [hv] at hV
  obtain ⟨_, rfl⟩ := trodVars_none hV
  have hlt : ∀ x ∈ p ++ [], x.block < W.heap.size := fun x hx => hW'.lt x hx
  refine post_of_below (pa := p) (pv := []) hW' (fun _ _ _ => ?_) (fun sp hsp => ?_) (fun _ _ => ?_) rfl hb ?_
  · rw [List.append_nil, hfn, hres]
    exact trodAll_mk1 (shut_bool Tryz.underlying4 _)
  · rw [List.append_nil, hfn]
    exact trodAll_stays hts hA0 (fun x hx => hb.same (hlt x (List.mem_append_left _ hx))) (fun x hx => hsp x (List.mem_append_left _ hx))
  · rw [List.append_nil, hfn, hv]; rfl
  · exact ok_one hres rfl (okWide_bool_mk Tryz.underlying4 _)
end Go.Proofs.YtajdfggocldeaaaGreatDoor

namespace Go.Proofs.YtajdfggocldeaaaGreatDoor
open Go.ChangeShapes Go.WideShapes Go.ChangeAt Go.WideMaps Go.WideElems Go.RowKit
theorem cellsB : Tryz.prog.cellsOf 4 = 1 := by kernel_rfl
theorem cellsU : Tryz.prog.cellsOf 5 = 1 := by kernel_rfl
theorem cellsI8 : Tryz.prog.cellsOf 22 = 1 := by kernel_rfl
theorem cells3 : Tryz.prog.cellsOf 23 = 3 := by kernel_rfl
theorem cells24 : Tryz.prog.cellsOf 24 = 24 := by kernel_rfl
theorem cells27w : Tryz.prog.cellsOf 26 = 27 := by kernel_rfl
section
variable {H : Type} {enc : TypeId × Value → H} {w : World} {base : Nat} {spare : Nat → Bool} {held : Bool}
theorem open_i3 {fuel : Nat} {c0 c1 c2 : Value} {x : DataW H × List MemPlace} (h : DataW.trod enc Tryz.prog w base spare held fuel 23 [c0, c1, c2] = some x) :
    ∃ z : I3, c0 = .int .i8 z.a ∧ c1 = .int .i8 z.b ∧ c2 = .int .i8 z.c ∧ z.ok := by
  obtain ⟨y0, y1, y2, n, rfl, h0, h1, h2⟩ := trod_array3 Tryz.underlying23 cellsI8 h
  obtain ⟨a, ha, rfl, wa⟩ := DataW.trod_int Tryz.underlying22 h0
  obtain ⟨b, hb, rfl, wb⟩ := DataW.trod_int Tryz.underlying22 h1
  obtain ⟨c, hc, rfl, wc⟩ := DataW.trod_int Tryz.underlying22 h2
  simp only [List.cons.injEq, and_true] at ha hb hc
  have ba := bounds_i8 wa; have bb := bounds_i8 wb; have bc := bounds_i8 wc
  refine ⟨⟨a, b, c⟩, ha, hb, hc, fun i => ?_⟩
  match i with
  | 0 => exact ba
  | 1 => exact bb
  | _ + 2 => exact bc
theorem wf_u8 {n : Int} (h : (Lit.int .u8 n).wf = true) : ∃ k : Nat, n = k ∧ k < 256 := by
  have := bounds_u8 h
  exact ⟨n.toNat, by omega, by omega⟩
/-- Eight triples by their index. -/
def xsOf (z0 z1 z2 z3 z4 z5 z6 z7 : I3) : Nat → I3
  | 0 => z0
  | 1 => z1
  | 2 => z2
  | 3 => z3
  | 4 => z4
  | 5 => z5
  | 6 => z6
  | 7 => z7
  | _ => ⟨0, 0, 0⟩
theorem open_world {r : Reach} {b0 : Nat} {v : Value} {d : DataW H} {p : List MemPlace} (hv : Value.okWide Tryz.prog w r b0 26 v) (h : DataW.Trod enc Tryz.prog w base spare held 26 v d p) :
    ∃ a : Wl, v = a.v ∧ a.Ok := by
  obtain ⟨cs, rfl, hsz⟩ := okWide_struct Tryz.underlying26 hv
  rw [cells27w] at hsz
  obtain ⟨l⟩ := cs
  match l, hsz with
  | [c0, c1, c2, c3, c4, c5, c6, c7, c8, c9, c10, c11, c12, c13, c14, c15, c16, c17, c18, c19, c20, c21, c22, c23, c24, c25, c26], _ =>
    obtain ⟨fuel, hf⟩ := h
    obtain ⟨y0, y1, y2, y3, k, hx, _, h0, h1, h2, h3⟩ := Go.Joins.trod_struct4 Tryz.underlying26 hf
    simp only [Value.cells, cellsB, cellsU, cells24, List.drop_zero, List.take_succ_cons, List.take_zero, List.drop_succ_cons] at h0 h1 h2 h3
    obtain ⟨b, hb, rfl⟩ := DataW.trod_bool Tryz.underlying4 h0
    obtain ⟨n, hn, rfl, wn⟩ := DataW.trod_int Tryz.underlying5 h1
    obtain ⟨m, hm, rfl, wm⟩ := DataW.trod_int Tryz.underlying5 h2
    simp only [List.cons.injEq, and_true] at hb hn hm
    obtain ⟨n', rfl, n1⟩ := wf_u8 wn
    obtain ⟨m', rfl, m1⟩ := wf_u8 wm
    obtain ⟨xs, j, _, _, _, hxl, hg⟩ := DataW.trod_array Tryz.underlying24 h3
    obtain ⟨q0, hq0⟩ : ∃ q, xs[0]? = some q := ⟨_, List.getElem?_eq_getElem (by omega)⟩
    have g0 := hg 0 (by omega)
    rw [hq0, cells3] at g0
    simp only [Nat.reduceMul, List.drop_zero, List.take_succ_cons, List.take_zero] at g0
    obtain ⟨z0, e0a, e0b, e0c, o0⟩ := open_i3 g0
    obtain ⟨q1, hq1⟩ : ∃ q, xs[1]? = some q := ⟨_, List.getElem?_eq_getElem (by omega)⟩
    have g1 := hg 1 (by omega)
    rw [hq1, cells3] at g1
    simp only [Nat.reduceMul, List.drop_zero, List.take_succ_cons, List.take_zero, List.drop_succ_cons] at g1
    obtain ⟨z1, e1a, e1b, e1c, o1⟩ := open_i3 g1
    obtain ⟨q2, hq2⟩ : ∃ q, xs[2]? = some q := ⟨_, List.getElem?_eq_getElem (by omega)⟩
    have g2 := hg 2 (by omega)
    rw [hq2, cells3] at g2
    simp only [Nat.reduceMul, List.drop_zero, List.take_succ_cons, List.take_zero, List.drop_succ_cons] at g2
    obtain ⟨z2, e2a, e2b, e2c, o2⟩ := open_i3 g2
    obtain ⟨q3, hq3⟩ : ∃ q, xs[3]? = some q := ⟨_, List.getElem?_eq_getElem (by omega)⟩
    have g3 := hg 3 (by omega)
    rw [hq3, cells3] at g3
    simp only [Nat.reduceMul, List.drop_zero, List.take_succ_cons, List.take_zero, List.drop_succ_cons] at g3
    obtain ⟨z3, e3a, e3b, e3c, o3⟩ := open_i3 g3
    obtain ⟨q4, hq4⟩ : ∃ q, xs[4]? = some q := ⟨_, List.getElem?_eq_getElem (by omega)⟩
    have g4 := hg 4 (by omega)
    rw [hq4, cells3] at g4
    simp only [Nat.reduceMul, List.drop_zero, List.take_succ_cons, List.take_zero, List.drop_succ_cons] at g4
    obtain ⟨z4, e4a, e4b, e4c, o4⟩ := open_i3 g4
    obtain ⟨q5, hq5⟩ : ∃ q, xs[5]? = some q := ⟨_, List.getElem?_eq_getElem (by omega)⟩
    have g5 := hg 5 (by omega)
    rw [hq5, cells3] at g5
    simp only [Nat.reduceMul, List.drop_zero, List.take_succ_cons, List.take_zero, List.drop_succ_cons] at g5
    obtain ⟨z5, e5a, e5b, e5c, o5⟩ := open_i3 g5
    obtain ⟨q6, hq6⟩ : ∃ q, xs[6]? = some q := ⟨_, List.getElem?_eq_getElem (by omega)⟩
    have g6 := hg 6 (by omega)
    rw [hq6, cells3] at g6
    simp only [Nat.reduceMul, List.drop_zero, List.take_succ_cons, List.take_zero, List.drop_succ_cons] at g6
    obtain ⟨z6, e6a, e6b, e6c, o6⟩ := open_i3 g6
    obtain ⟨q7, hq7⟩ : ∃ q, xs[7]? = some q := ⟨_, List.getElem?_eq_getElem (by omega)⟩
    have g7 := hg 7 (by omega)
    rw [hq7, cells3] at g7
    simp only [Nat.reduceMul, List.drop_zero, List.take_succ_cons, List.take_zero, List.drop_succ_cons] at g7
    obtain ⟨z7, e7a, e7b, e7c, o7⟩ := open_i3 g7
    refine ⟨⟨b, n', m', xsOf z0 z1 z2 z3 z4 z5 z6 z7⟩, ?_, n1, m1, fun i => ?_⟩
    · rw [hb, hn, hm, e0a, e0b, e0c, e1a, e1b, e1c, e2a, e2b, e2c, e3a, e3b, e3c, e4a, e4b, e4c, e5a, e5b, e5c, e6a, e6b, e6c, e7a, e7b, e7c]
      rfl
    · match i with
      | 0 => exact o0
      | 1 => exact o1
      | 2 => exact o2
      | 3 => exact o3
      | 4 => exact o4
      | 5 => exact o5
      | 6 => exact o6
      | 7 => exact o7
      | _ + 8 => exact fun k => (match k with | 0 => (by decide : -128 ≤ (0 : Int) ∧ (0 : Int) ≤ 127) | 1 => (by decide : -128 ≤ (0 : Int) ∧ (0 : Int) ≤ 127) | _ + 2 => (by decide : -128 ≤ (0 : Int) ∧ (0 : Int) ≤ 127) : -128 ≤ (⟨0, 0, 0⟩ : I3).at k ∧ (⟨0, 0, 0⟩ : I3).at k ≤ 127)
end
end Go.Proofs.YtajdfggocldeaaaGreatDoor

namespace Go.Proofs.YtajdfggocldeaaaGreatDoor
open Go.ChangeShapes Go.WideShapes Go.RowKit Go.Lib
theorem choose_upto {α : Type} [Inhabited α] (P : Nat → α → Prop) : ∀ n : Nat, (∀ i, i < n → ∃ a, P i a) → ∃ l : List α, l.length = n ∧ ∀ i a, l[i]? = some a → P i a
  | 0, _ => ⟨[], rfl, fun i a h => by simp at h⟩
  | n + 1, h => by
    obtain ⟨l, hl, hp⟩ := choose_upto P n fun i hi => h i (by omega)
    obtain ⟨a, ha⟩ := h n (by omega)
    refine ⟨l ++ [a], by simp [hl], fun i b hb => ?_⟩
    rcases Nat.lt_or_ge i n with hi | hi
    · rw [List.getElem?_append_left (by omega)] at hb
      exact hp i b hb
    · have hi2 := (List.getElem?_eq_some_iff.1 hb).1
      rw [List.length_append, List.length_singleton] at hi2
      obtain rfl : i = n := by omega
      rw [List.getElem?_append_right (by omega), hl, Nat.sub_self] at hb
      obtain rfl := Option.some.inj hb
      exact ha
theorem rb_in {H : Type} {enc : TypeId × Value → H} {r : Reach} {b0 : Nat} {w : World} {base : Nat} {spare : Nat → Bool} {held : Bool} {t : TypeId} {v : Value} {d : DataW H} {p : List MemPlace} (ht : Tryz.prog.underlying t = some (.slice 55)) (hv : Value.okWide Tryz.prog w r b0 t v) (h : DataW.Trod enc Tryz.prog w base spare held t v d p) :
    ∃ l : List (ByteArray × ByteArray), Rb w v l ∧ l.length ≤ 9223372036854775807 := by
  obtain ⟨a, len, cap, rfl⟩ := okWide_slice ht hv
  obtain ⟨fuel, hf⟩ := h
  have hu := Tryz.underlying55
  rcases Go.Deep.open_slice_pairs ht hu (by kernel_rfl) rfl rfl (by kernel_rfl) (by kernel_rfl) hf with ⟨h1, _⟩ | ⟨a', len', cap', m, n, V0, V1, D0, D1, P0, P1, h1, _, hl, hm, hmm, _, hc⟩
  · simp only [Value.cells, List.cons.injEq, Value.slice.injEq, and_true] at h1
    obtain ⟨rfl, rfl, rfl⟩ := h1
    exact ⟨[], ⟨none, 0, rfl, Nat.zero_le _, Nat.le_refl _, fun i e h => by simp at h⟩, Nat.zero_le _⟩
  · simp only [Value.cells, List.cons.injEq, Value.slice.injEq, and_true] at h1
    obtain ⟨rfl, rfl, rfl⟩ := h1
    have hlm : len ≤ m := by rw [hmm]; split <;> omega
    have hlx : len ≤ 9223372036854775807 := by unfold maxLen at hm; omega
    obtain ⟨l, hll, hp⟩ := choose_upto (fun i (e : ByteArray × ByteArray) => w.cell? (a'.add (i * 2)) = some (.string e.1) ∧ w.cell? (a'.add (i * 2 + 1)) = some (.string e.2)) len fun i hi => by
      obtain ⟨k0, k1, t0, t1⟩ := hc i (by omega)
      obtain ⟨s0, e0, _⟩ := DataW.trod_string Tryz.underlying53 t0
      obtain ⟨s1, e1, _⟩ := DataW.trod_string Tryz.underlying53 t1
      rw [List.cons.injEq] at e0 e1
      exact ⟨(s0, s1), by rw [k0, e0.1], by rw [k1, e1.1]⟩
    subst hll
    refine ⟨l, ⟨some a', cap, rfl, hm, hl, fun i e he => ?_⟩, hlx⟩
    obtain ⟨k0, k1⟩ := hp i e he
    obtain ⟨b, off, sp⟩ := a'
    obtain ⟨e0, he0⟩ : ∃ e0, l[0]? = some e0 := ⟨_, List.getElem?_eq_getElem (Nat.lt_of_le_of_lt (Nat.zero_le _) (List.getElem?_eq_some_iff.1 he).1)⟩
    have hs := World.cell?_spot (hp 0 e0 he0).1
    rw [Nat.zero_mul] at hs
    have hs' : sp = none := by
      cases sp with
      | none => rfl
      | some s => simp [Addr.add] at hs
    subst hs'
    have ea : ∀ j, (⟨b, off, none⟩ : Addr).add j = ⟨b, off + j, none⟩ := fun j => by unfold Addr.add; split <;> simp_all
    rw [ea] at k0 k1
    exact ⟨b, off, rfl, k0, by rwa [← Nat.add_assoc] at k1⟩
end Go.Proofs.YtajdfggocldeaaaGreatDoor
