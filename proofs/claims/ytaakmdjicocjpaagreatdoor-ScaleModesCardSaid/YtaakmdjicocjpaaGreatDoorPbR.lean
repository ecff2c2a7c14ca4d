/- What the rows ask of the program as a whole (once a seat). -/
import Derived.Test.YtaakmdjicocjpaaGreatDoorPbP
namespace Go.Proofs.YtaakmdjicocjpaaGreatDoor
open Go.ChangeShapes Go.WideShapes Go.ChangeAt Go.WideMaps Go.WideElems Go.RowKit

theorem and_t {a b : Bool} (ha : a = true) (hb : b = true) : (a && b) = true := by rw [ha, hb]; rfl
theorem fct_maps : mapsRowed Tryz.prog = true := by kernel_rfl
theorem fct_stops : (Tryz.prog.stops == []) = true := by kernel_rfl
theorem fct_knobs : (Tryz.prog.stopKnobs == []) = true := by kernel_rfl
theorem fct_keys : (Rows.scaleSubsetsRow.plainKeys == Tryz.prog.plainKeys) = true := by kernel_rfl
theorem fct_heard : Tryz.prog.stopsHeard = true := by kernel_rfl
theorem fct_enter : Tryz.prog.mayEnter = true := by kernel_rfl
theorem fct_lifts : (Rows.scaleSubsetsRow.lifted == Tryz.prog.liftsFinal) = true := by kernel_rfl
theorem fct_make : (Tryz.prog.make == some Rows.scaleSubsetsRow.make) = true := by kernel_rfl
end Go.Proofs.YtaakmdjicocjpaaGreatDoor
