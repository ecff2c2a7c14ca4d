/- ScaleModes: for any two described scales and any int, Mode returns the mode of the first one at this index, or ErrRange; Same says whether they are one scale; and Rotation the least mode of the first one that is the second one. (The walk, lifted.) -/
import Derived.Test.YtaakmdjicocjpaaGreatDoorPcC
import Derived.Test.YtaakmdjicocjpaaGreatDoorPbP
namespace Go.Proofs.YtaakmdjicocjpaaGreatDoor
open Go.ChangeShapes Go.WideShapes Go.ChangeAt Go.WideMaps Go.WideElems Go.RowKit

set_option maxRecDepth 100000 in
theorem modes_lifted (os : Os) (started : os.Started) (H : Type) (enc : TypeId × Value → H) :
    ReturnsInHanded {} Tryz.checked os 13 .any (fun w args => (Rows.scaleModesSpec.pre enc Tryz.prog Tryz.f13 [] false w args ∧ laidMetH Tryz.prog Rows.scaleModesRow.laid w) ∧ sizedMet enc Tryz.prog Tryz.f13 (OpenSpec.ofChange Rows.scaleModesSpec) false w args)
      (Rows.scaleModesSpec.post enc Tryz.prog Tryz.f13 false true false false) := by
  refine returnsInHanded_of_change_and (C := Tryz.checked) (X := fun w _ => laidMetH Tryz.prog Rows.scaleModesRow.laid w) (fun _ _ _ hh h => h.of_heap hh) ownKnob_none started (by kernel_rfl) Tryz.func13
    (ChangeSpec.witness_shaped (enc := enc) (C := Tryz.checked) (os := os) (X := fun w _ => laidMetH Tryz.prog Rows.scaleModesRow.laid w) false (World.laidAll Tryz.prog os rowLaid) #[.agg #[.bool false, .int .u8 0, .int .u8 0, .int .i8 0, .int .i8 0, .int .i8 0, .int .i8 0, .int .i8 0, .int .i8 0, .int .i8 0, .int .i8 0, .int .i8 0, .int .i8 0, .int .i8 0, .int .i8 0, .int .i8 0, .int .i8 0, .int .i8 0, .int .i8 0, .int .i8 0, .int .i8 0, .int .i8 0, .int .i8 0, .int .i8 0, .int .i8 0, .int .i8 0, .int .i8 0], .agg #[.bool false, .int .u8 0, .int .u8 0, .int .i8 0, .int .i8 0, .int .i8 0, .int .i8 0, .int .i8 0, .int .i8 0, .int .i8 0, .int .i8 0, .int .i8 0, .int .i8 0, .int .i8 0, .int .i8 0, .int .i8 0, .int .i8 0, .int .i8 0, .int .i8 0, .int .i8 0, .int .i8 0, .int .i8 0, .int .i8 0, .int .i8 0, .int .i8 0, .int .i8 0, .int .i8 0], .int .i64 0] 8 (World.laidAll_os _ _ _)
      (rows_shaped os _) (by kernel_rfl) (by kernel_rfl) (by kernel_rfl)
      (rows_met os _)) ?_
  intro W base args ds gs before hval0 hW _ _ hL _
  have hval : ∀ (j : Nat) t v, Tryz.f13.params[j]? = some t → args[j]? = some v → Value.okWide Tryz.prog W .any base t v := hval0
  have hW' := hW
  obtain ⟨p, q, hA0, hV, rfl, _, _⟩ := hW
  have hA : DataW.TrodAll enc Tryz.prog W 0 (fun _ => true) true Tryz.f13.params.toList args.toList ds p := hA0
  rw [Tryz.params13] at hA hval
  obtain ⟨v0, v1, v2, d0, d1, d2, p0, p1, p2, rfl, rfl, rfl, h0, h1, h2⟩ := trodAll_three hA
  obtain ⟨rfl, rfl⟩ := trodVars_none hV
  have hE := env_of_laid hL
  obtain ⟨a, rfl, ha⟩ := open_world (hval 0 26 v0 rfl rfl) h0
  obtain ⟨b, rfl, hy⟩ := open_world (hval 1 26 v1 rfl rfl) h1
  obtain ⟨m, rfl, rfl, rfl, wm⟩ := open_int Tryz.underlying3 (hval 2 3 v2 rfl rfl) h2
  refine (modes_c a b m W hE ha hy).mono fun e' W' ⟨he', hb⟩ => ?_
  subst he'
  exact ⟨_, rfl, law_post rfl (by rw [Tryz.params13]; decide +kernel) rfl rfl hW' hb⟩

end Go.Proofs.YtaakmdjicocjpaaGreatDoor
