/- How a plan reads as data, and the last step of each row. -/
import Derived.Test.YtkamjjjimbbdmaaGreatDoorKit
import Derived.Below
import Derived.ChangeSame
import Derived.OpenShut
import Derived.LaidMore
import Derived.ProofKit
import Derived.Stop.Joined
import Derived.Laws.IdiomArrays
namespace Go.Proofs.YtkamjjjimbbdmaaGreatDoor
open Go.ChangeShapes Go.WideShapes Go.ChangeAt Go.WideMaps Go.WideElems Go.RowKit

section
variable {H : Type} {enc : TypeId × Value → H} {P : Program}
theorem post_of_below {f : Func} {s : ChangeSpec} {apart fresh handsOn again : Bool} {W W' : World} {args : Array Value} {v : Value} {ds gs : List (DataW H)} {before pa pv : List MemPlace}
    (hW : DataW.Whole enc P f.params.toList s.vars apart W args.toList ds gs before)
    (hres : ∀ (b : Nat) (sp : Nat → Bool) (hd : Bool), DataW.TrodAll enc P W' b sp hd f.resultTypes.toList (v.resultList f.resultTypes.size) (s.fn H (ds ++ gs)).results [])
    (hargs : ∀ sp : Nat → Bool, (∀ p ∈ before, sp p.block = true) → DataW.TrodAll enc P W' 0 sp true f.params.toList args.toList (s.fn H (ds ++ gs)).args pa)
    (hvars : ∀ sp : Nat → Bool, (∀ p ∈ before, sp p.block = true) → DataW.TrodVars enc P W' sp s.vars (s.fn H (ds ++ gs)).vars pv)
    (hps : before = pa ++ pv) (hb : Below W.heap.size W W')
    (hok : ∀ (j : Nat) (t : TypeId) (r : Value), f.resultTypes[j]? = some t → (v.resultList f.resultTypes.size)[j]? = some r → Value.okWide P W' .any 0 t r) :
    s.post enc P f apart fresh handsOn again W args v W' := by
  have hlt : ∀ p ∈ before, p.block < W.heap.size := fun p hp => hW.lt p hp
  have hold : ∀ p ∈ before, (fun b => decide (b < W.heap.size)) p.block = true := fun p hp => by simpa using hlt p hp
  refine ⟨ds, gs, before, [], pa, pv, hW, hres _ _ _, hargs _ hold, hvars _ hold, World.keptBut_mono (fun p hp => ⟨hp, ?_⟩) (hb.frame (· ∈ before)), fun _ => ?_⟩
  · rw [hps, List.mem_append] at hp
    exact Or.inr hp
  · obtain ⟨_, _, _, _, _, hz, hn⟩ := hW
    refine ⟨hok, _, _, ([] ++ pa) ++ pv, ⟨[] ++ pa, pv, trodAll_append (hargs _ (fun _ _ => rfl)) (hres _ _ _), hvars _ (fun _ _ => rfl), rfl, ?_, ?_⟩, ?_⟩
    · intro b off hp
      have hin : MemPlace.cell b off ∈ before := by rw [hps]; simpa using hp
      rw [hb.frozen (hlt _ hin)]
      exact hz b off hin
    · intro ha
      have := hn ha
      rw [hps] at this
      simpa using this
    · intro p hp _
      rw [hps]
      simpa using hp
end

theorem cells5 : Tryz.prog.cellsOf 5 = 1 := by kernel_rfl
theorem cells22 : Tryz.prog.cellsOf 22 = 1 := by kernel_rfl
theorem cells23 : Tryz.prog.cellsOf 23 = 4 := by kernel_rfl
theorem cells25 : Tryz.prog.cellsOf 25 = 5 := by kernel_rfl
theorem cells27 : Tryz.prog.cellsOf 27 = 6 := by kernel_rfl

section
variable {H : Type} {enc : TypeId × Value → H} {w : World} {base : Nat} {spare : Nat → Bool} {held : Bool}
/-- What a plan reads as. -/
def fourD (a b c d : Int) : DataW H := .agg [.lit (.int .i8 a), .lit (.int .i8 b), .lit (.int .i8 c), .lit (.int .i8 d)]
def planD12 (n a b c d : Int) : DataW H := .agg [.lit (.int .u8 n), fourD a b c d]
def planD16 (n a b c d h : Int) : DataW H := .agg [planD12 n a b c d, .lit (.int .u8 h)]
def Small8 (a b c d : Int) : Prop := ∀ z ∈ [a, b, c, d], (Lit.int .i8 z).wf = true
theorem Small8.bounds {a b c d : Int} (h : Small8 a b c d) : ∀ z ∈ [a, b, c, d], -128 ≤ z ∧ z ≤ 127 := fun z hz => bounds_i8 (h z hz)
theorem bounds_u8 {n : Int} (h : (Lit.int .u8 n).wf = true) : 0 ≤ n ∧ n ≤ 255 := by
  simp [Lit.wf, IntKind.min, IntKind.max, IntKind.signed, IntKind.bits] at h
  omega

theorem trod_four {fuel : Nat} {c0 c1 c2 c3 : Value} {x : DataW H × List MemPlace} (h : DataW.trod enc Tryz.prog w base spare held fuel 23 [c0, c1, c2, c3] = some x) :
    ∃ a b c d, c0 = .int .i8 a ∧ c1 = .int .i8 b ∧ c2 = .int .i8 c ∧ c3 = .int .i8 d ∧ x = (fourD a b c d, []) ∧ Small8 a b c d := by
  obtain ⟨y0, y1, y2, y3, n, rfl, h0, h1, h2, h3⟩ := trod_array4 Tryz.underlying23 cells22 h
  obtain ⟨a, ha, rfl, wa⟩ := DataW.trod_int Tryz.underlying22 h0
  obtain ⟨b, hb, rfl, wb⟩ := DataW.trod_int Tryz.underlying22 h1
  obtain ⟨c, hc, rfl, wc⟩ := DataW.trod_int Tryz.underlying22 h2
  obtain ⟨d, hd, rfl, wd⟩ := DataW.trod_int Tryz.underlying22 h3
  simp only [List.cons.injEq, and_true] at ha hb hc hd
  refine ⟨a, b, c, d, ha, hb, hc, hd, rfl, fun z hz => ?_⟩
  simp only [List.mem_cons, List.not_mem_nil, or_false] at hz
  rcases hz with rfl | rfl | rfl | rfl
  · exact wa
  · exact wb
  · exact wc
  · exact wd
theorem four_mk {a b c d : Int} (hs : Small8 a b c d) (m : Nat) : DataW.trod enc Tryz.prog w base spare held (m + 2) 23 [.int .i8 a, .int .i8 b, .int .i8 c, .int .i8 d] = some (fourD a b c d, []) := by
  have e : ∀ z ∈ [a, b, c, d], DataW.trod enc Tryz.prog w base spare held (m + 1) 22 [.int .i8 z] = some (.lit (.int .i8 z), []) := fun z hz => trod_int_mk m Tryz.underlying22 (hs z hz)
  have r4 : List.range 4 = [0, 1, 2, 3] := rfl
  unfold DataW.trod
  rw [Tryz.underlying23]
  simp [r4, cells22, cells23, e a (by simp), e b (by simp), e c (by simp), e d (by simp), fourD]

theorem trod_plan12 {fuel : Nat} {c0 c1 c2 c3 c4 : Value} {x : DataW H × List MemPlace} (h : DataW.trod enc Tryz.prog w base spare held fuel 25 [c0, c1, c2, c3, c4] = some x) :
    ∃ n a b c d, c0 = .int .u8 n ∧ c1 = .int .i8 a ∧ c2 = .int .i8 b ∧ c3 = .int .i8 c ∧ c4 = .int .i8 d ∧ x = (planD12 n a b c d, []) ∧ (Lit.int .u8 n).wf = true ∧ Small8 a b c d := by
  obtain ⟨y0, y1, k, rfl, _, h0, h1⟩ := trod_struct2 Tryz.underlying25 h
  simp only [cells5, cells23, List.drop_zero, List.take_succ_cons, List.take_zero, List.drop_succ_cons] at h0 h1
  obtain ⟨n, hn, rfl, wn⟩ := DataW.trod_int Tryz.underlying5 h0
  obtain ⟨a, b, c, d, e1, e2, e3, e4, rfl, hs⟩ := trod_four h1
  simp only [List.cons.injEq, and_true] at hn
  exact ⟨n, a, b, c, d, hn, e1, e2, e3, e4, rfl, wn, hs⟩
set_option maxRecDepth 100000 in
theorem plan12_mk {n a b c d : Int} (hn : (Lit.int .u8 n).wf = true) (hs : Small8 a b c d) (m : Nat) : DataW.trod enc Tryz.prog w base spare held (m + 3) 25 [.int .u8 n, .int .i8 a, .int .i8 b, .int .i8 c, .int .i8 d] = some (planD12 n a b c d, []) := by
  refine trod_struct2_mk (y0 := (.lit (.int .u8 n), [])) (y1 := (fourD a b c d, [])) Tryz.underlying25 (by rw [cells25]; rfl) ?_ ?_
  · simp only [cells5, List.drop_zero, List.take_succ_cons, List.take_zero]
    exact trod_int_mk (m + 1) Tryz.underlying5 hn
  · simp only [cells23, List.take_succ_cons, List.take_zero, List.drop_succ_cons, List.drop_zero]
    exact four_mk hs m
set_option maxRecDepth 100000 in
theorem open_plan16 {r : Reach} {b0 : Nat} {v : Value} {d : DataW H} {p : List MemPlace} (hv : Value.okWide Tryz.prog w r b0 27 v) (h : DataW.Trod enc Tryz.prog w base spare held 27 v d p) :
    ∃ n a b c e g, v = .agg #[.int .u8 n, .int .i8 a, .int .i8 b, .int .i8 c, .int .i8 e, .int .u8 g] ∧ d = planD16 n a b c e g ∧ p = [] ∧ (Lit.int .u8 n).wf = true ∧ Small8 a b c e ∧ (Lit.int .u8 g).wf = true := by
  obtain ⟨cs, rfl, hsz⟩ := okWide_struct Tryz.underlying27 hv
  rw [cells27] at hsz
  obtain ⟨l⟩ := cs
  match l, hsz with
  | [c0, c1, c2, c3, c4, c5], _ =>
    obtain ⟨fuel, hf⟩ := h
    obtain ⟨y0, y1, k, hx, _, h0, h1⟩ := trod_struct2 Tryz.underlying27 hf
    simp only [Value.cells, cells25, cells5, List.drop_zero, List.take_succ_cons, List.take_zero, List.drop_succ_cons] at h0 h1
    obtain ⟨n, a, b, c, e, e0, e1, e2, e3, e4, rfl, wn, hs⟩ := trod_plan12 h0
    obtain ⟨g, hg, rfl, wg⟩ := DataW.trod_int Tryz.underlying5 h1
    simp only [List.cons.injEq, and_true] at hg
    simp only [Prod.mk.injEq, List.append_nil] at hx
    exact ⟨n, a, b, c, e, g, by rw [e0, e1, e2, e3, e4, hg], hx.1, hx.2, wn, hs, wg⟩
set_option maxRecDepth 100000 in
theorem shut_plan16 {n a b c e g : Int} (hn : (Lit.int .u8 n).wf = true) (hs : Small8 a b c e) (hg : (Lit.int .u8 g).wf = true) : DataW.Trod enc Tryz.prog w base spare held 27 (.agg #[.int .u8 n, .int .i8 a, .int .i8 b, .int .i8 c, .int .i8 e, .int .u8 g]) (planD16 n a b c e g) [] := by
  refine ⟨4, ?_⟩
  refine trod_struct2_mk (y0 := (planD12 n a b c e, [])) (y1 := (.lit (.int .u8 g), [])) Tryz.underlying27 (by rw [cells27]; rfl) ?_ ?_
  · simp only [Value.cells, cells25, List.drop_zero, List.take_succ_cons, List.take_zero]
    exact plan12_mk hn hs 0
  · simp only [Value.cells, cells5, List.take_succ_cons, List.take_zero, List.drop_succ_cons, List.drop_zero]
    exact trod_int_mk 2 Tryz.underlying5 hg
end

end Go.Proofs.YtkamjjjimbbdmaaGreatDoor
