/- ClassFinds: for any described scale and any size of at most 4 coefficients (numbers of at most 9 bytes), Classes returns the classes that have it, and Count how often the class 1 does, or the error of size.Check. (The walk, lifted.) What the rows ask of the program as a whole (once a seat). -/
import Derived.Test.YtajdfggocldeaaaGreatDoorPb38
import Derived.Test.YtajdfggocldeaaaGreatDoorPb39
set_option maxRecDepth 100000
namespace Go.Proofs.YtajdfggocldeaaaGreatDoor
open Go.ChangeShapes Go.WideShapes Go.ChangeAt Go.WideMaps Go.WideElems Go.RowKit
theorem finds_lifted (os : Os) (started : os.Started) (H : Type) (enc : TypeId × Value → H) :
    ReturnsInHanded {} Tryz.checked os 3 .any (fun w args => (Rows.classFindsSpec.pre enc Tryz.prog Tryz.f3 [] false w args ∧ laidMetH Tryz.prog Rows.classFindsRow.laid w) ∧ sizedMet enc Tryz.prog Tryz.f3 (OpenSpec.ofChange Rows.classFindsSpec) false w args)
      (Rows.classFindsSpec.post enc Tryz.prog Tryz.f3 false true false false) := by
  refine returnsInHanded_of_change_and (C := Tryz.checked) (X := fun w _ => laidMetH Tryz.prog Rows.classFindsRow.laid w) (fun _ _ _ hh h => h.of_heap hh) ownKnob_none started (by kernel_rfl) Tryz.func3
    (ChangeSpec.witness_shaped (enc := enc) (C := Tryz.checked) (os := os) (X := fun w _ => laidMetH Tryz.prog Rows.classFindsRow.laid w) false (World.laidAll Tryz.prog os rowLaid) #[.agg #[.bool false, .int .u8 0, .int .u8 0, .int .i8 0, .int .i8 0, .int .i8 0, .int .i8 0, .int .i8 0, .int .i8 0, .int .i8 0, .int .i8 0, .int .i8 0, .int .i8 0, .int .i8 0, .int .i8 0, .int .i8 0, .int .i8 0, .int .i8 0, .int .i8 0, .int .i8 0, .int .i8 0, .int .i8 0, .int .i8 0, .int .i8 0, .int .i8 0, .int .i8 0, .int .i8 0], .slice none 0 0] 8 (World.laidAll_os _ _ _)
      (rows_shaped os _) (by kernel_rfl) (by kernel_rfl) (by kernel_rfl)
      (rows_met os _)) ?_
  intro W base args ds gs before hval0 hW _ _ hL _
  have hval : ∀ (j : Nat) t v, Tryz.f3.params[j]? = some t → args[j]? = some v → Value.okWide Tryz.prog W .any base t v := hval0
  have hW' := hW
  obtain ⟨p, q, hA0, hV, rfl, _, _⟩ := hW
  have hA : DataW.TrodAll enc Tryz.prog W 0 (fun _ => true) true Tryz.f3.params.toList args.toList ds p := hA0
  rw [Tryz.params3] at hA hval
  obtain ⟨v0, v1, d0, d1, p0, p1, rfl, rfl, rfl, h0, h1⟩ := trodAll_two hA
  obtain ⟨rfl, rfl⟩ := trodVars_none hV
  have hE := env_of_laid hL
  obtain ⟨a, rfl, ha⟩ := open_world (hval 0 26 v0 rfl rfl) h0
  obtain ⟨l, hl, hln⟩ := rb_in Tryz.underlying28 (hval 1 28 v1 rfl rfl) h1
  refine (finds_c a v1 l W hE ha hl hln).mono fun e' W' ⟨he', hb⟩ => ?_
  subst he'
  exact ⟨_, rfl, law_post rfl (by rw [Tryz.params3]; decide +kernel) rfl rfl hW' hb⟩
end Go.Proofs.YtajdfggocldeaaaGreatDoor

namespace Go.Proofs.YtajdfggocldeaaaGreatDoor
open Go.ChangeShapes Go.WideShapes Go.ChangeAt Go.WideMaps Go.WideElems Go.RowKit
theorem and_t {a b : Bool} (ha : a = true) (hb : b = true) : (a && b) = true := by rw [ha, hb]; rfl
theorem fct_maps : mapsRowed Tryz.prog = true := by kernel_rfl
theorem fct_stops : (Tryz.prog.stops == []) = true := by kernel_rfl
theorem fct_knobs : (Tryz.prog.stopKnobs == []) = true := by kernel_rfl
theorem fct_keys : (Rows.classFindsRow.plainKeys == Tryz.prog.plainKeys) = true := by kernel_rfl
theorem fct_heard : Tryz.prog.stopsHeard = true := by kernel_rfl
theorem fct_enter : Tryz.prog.mayEnter = true := by kernel_rfl
theorem fct_lifts : (Rows.classFindsRow.lifted == Tryz.prog.liftsFinal) = true := by kernel_rfl
theorem fct_make : (Tryz.prog.make == some Rows.classFindsRow.make) = true := by kernel_rfl
end Go.Proofs.YtajdfggocldeaaaGreatDoor
