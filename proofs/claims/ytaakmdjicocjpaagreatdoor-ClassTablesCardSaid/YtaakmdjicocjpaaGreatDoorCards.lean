/-
  DERIVED. GIVEN WITH THE SEED: THE CARDS: each row of YtaakmdjicocjpaaGreatDoorRows.lean that lists a variable, with what it lists TIED to the program's text (the seventh form; the later family's looks); each row that meets fmt, with fmt's text TOLD by the authors' own Lean function (tested against real Go, not proved from fmt's source: count such statements apart). THE CARD IS WHAT COUNTS. Prove the row's statement (the work); the ties are given (YtaakmdjicocjpaaGreatDoorTie.lean); close each card by the builder's one call (the guide's Derived/Test/ToyasCard.lean, 'card_holds'). Laid BY PROGRAM, IN A SANDBOX (cutbox-door.mjs). By AI agents, Wed Nov 11 2026. No macro, syntax, notation, axiom, sorry.
-/
import Derived.Test.YtaakmdjicocjpaaGreatDoorRows
import GoSem.ClaimSeven
namespace Go.Proofs.YtaakmdjicocjpaaGreatDoor
namespace Rows

/-- THE TIED CARD OF 'schismalaw32.ClassKinds'. -/
def classKindsCard : Claim7 := { stood := { row := classKindsRow, standIns := [], harness := (true, "d5a242ecfc9588e8c1554cec436e32834b7b7744528efc5077adeecd1e642f41"), looks := true }, kinds := [], alts := [], laidByText := true, laidKinds := [.data, .data, .data, .sentinel, .sentinel], laidTests := true, laidLooks := .later }
def ClassKindsCardSaid : Prop := Claim7.holds Tryz.pinned (.plain (OpenSpec.ofChange classKindsSpec)) classKindsCard

/-- THE TIED CARD OF 'schismalaw32.ClassConstants'. -/
def classConstantsCard : Claim7 := { stood := { row := classConstantsRow, standIns := [], harness := (true, "d5a242ecfc9588e8c1554cec436e32834b7b7744528efc5077adeecd1e642f41"), looks := true }, kinds := [], alts := [], laidByText := true, laidKinds := [.data, .data, .data, .sentinel, .sentinel], laidTests := true, laidLooks := .later }
def ClassConstantsCardSaid : Prop := Claim7.holds Tryz.pinned (.plain (OpenSpec.ofChange classConstantsSpec)) classConstantsCard

/-- THE TIED CARD OF 'schismalaw32.ClassProper'. -/
def classProperCard : Claim7 := { stood := { row := classProperRow, standIns := [], harness := (true, "d5a242ecfc9588e8c1554cec436e32834b7b7744528efc5077adeecd1e642f41"), looks := true }, kinds := [], alts := [], laidByText := true, laidKinds := [.data, .data, .data, .sentinel, .sentinel], laidTests := true, laidLooks := .later }
def ClassProperCardSaid : Prop := Claim7.holds Tryz.pinned (.plain (OpenSpec.ofChange classProperSpec)) classProperCard

/-- THE TIED CARD OF 'schismalaw32.ClassInverts'. -/
def classInvertsCard : Claim7 := { stood := { row := classInvertsRow, standIns := [], harness := (true, "d5a242ecfc9588e8c1554cec436e32834b7b7744528efc5077adeecd1e642f41"), looks := true }, kinds := [], alts := [], laidByText := true, laidKinds := [.data, .data, .data, .sentinel, .sentinel], laidTests := true, laidLooks := .later }
def ClassInvertsCardSaid : Prop := Claim7.holds Tryz.pinned (.plain (OpenSpec.ofChange classInvertsSpec)) classInvertsCard

/-- THE TIED CARD OF 'schismalaw32.ClassTables'. -/
def classTablesCard : Claim7 := { stood := { row := classTablesRow, standIns := [], harness := (true, "d5a242ecfc9588e8c1554cec436e32834b7b7744528efc5077adeecd1e642f41"), looks := true }, kinds := [], alts := [], laidByText := true, laidKinds := [.data, .data, .data, .sentinel, .sentinel], laidTests := true, laidLooks := .later }
def ClassTablesCardSaid : Prop := Claim7.holds Tryz.pinned (.plain (OpenSpec.ofChange classTablesSpec)) classTablesCard

/-- THE TIED CARD OF 'schismalaw32.ClassModes'. -/
def classModesCard : Claim7 := { stood := { row := classModesRow, standIns := [], harness := (true, "d5a242ecfc9588e8c1554cec436e32834b7b7744528efc5077adeecd1e642f41"), looks := true }, kinds := [], alts := [], laidByText := true, laidKinds := [.data, .data, .data, .sentinel, .sentinel], laidTests := true, laidLooks := .later }
def ClassModesCardSaid : Prop := Claim7.holds Tryz.pinned (.plain (OpenSpec.ofChange classModesSpec)) classModesCard

/-- THE TIED CARD OF 'schismalaw32.ClassSizes'. -/
def classSizesCard : Claim7 := { stood := { row := classSizesRow, standIns := [], harness := (true, "d5a242ecfc9588e8c1554cec436e32834b7b7744528efc5077adeecd1e642f41"), looks := true }, kinds := [], alts := [], laidByText := true, laidKinds := [.data, .data, .data, .sentinel, .sentinel], laidTests := true, laidLooks := .later }
def ClassSizesCardSaid : Prop := Claim7.holds Tryz.pinned (.plain (OpenSpec.ofChange classSizesSpec)) classSizesCard

/-- THE TIED CARD OF 'schismalaw32.ClassFinds'. -/
def classFindsCard : Claim7 := { stood := { row := classFindsRow, standIns := [], harness := (true, "d5a242ecfc9588e8c1554cec436e32834b7b7744528efc5077adeecd1e642f41"), looks := true }, kinds := [], alts := [], laidByText := true, laidKinds := [.data, .data, .data, .sentinel, .sentinel], laidTests := true, laidLooks := .later }
def ClassFindsCardSaid : Prop := Claim7.holds Tryz.pinned (.plain (OpenSpec.ofChange classFindsSpec)) classFindsCard

/-- THE TIED CARD OF 'schismalaw31.ScaleNotes'. -/
def scaleNotesCard : Claim7 := { stood := { row := scaleNotesRow, standIns := [], harness := (true, "d5a242ecfc9588e8c1554cec436e32834b7b7744528efc5077adeecd1e642f41"), looks := true }, kinds := [], alts := [], laidByText := true, laidKinds := [.data, .data, .data, .sentinel, .sentinel], laidTests := true, laidLooks := .later }
def ScaleNotesCardSaid : Prop := Claim7.holds Tryz.pinned (.plain (OpenSpec.ofChange scaleNotesSpec)) scaleNotesCard

/-- THE TIED CARD OF 'schismalaw31.ScaleSubsets'. -/
def scaleSubsetsCard : Claim7 := { stood := { row := scaleSubsetsRow, standIns := [], harness := (true, "d5a242ecfc9588e8c1554cec436e32834b7b7744528efc5077adeecd1e642f41"), looks := true }, kinds := [], alts := [], laidByText := true, laidKinds := [.data, .data, .data, .sentinel, .sentinel], laidTests := true, laidLooks := .later }
def ScaleSubsetsCardSaid : Prop := Claim7.holds Tryz.pinned (.plain (OpenSpec.ofChange scaleSubsetsSpec)) scaleSubsetsCard

/-- THE TIED CARD OF 'schismalaw31.ScaleModes'. -/
def scaleModesCard : Claim7 := { stood := { row := scaleModesRow, standIns := [], harness := (true, "d5a242ecfc9588e8c1554cec436e32834b7b7744528efc5077adeecd1e642f41"), looks := true }, kinds := [], alts := [], laidByText := true, laidKinds := [.data, .data, .data, .sentinel, .sentinel], laidTests := true, laidLooks := .later }
def ScaleModesCardSaid : Prop := Claim7.holds Tryz.pinned (.plain (OpenSpec.ofChange scaleModesSpec)) scaleModesCard

/-- THE TIED CARD OF 'schismalaw31.ScaleTurns'. -/
def scaleTurnsCard : Claim7 := { stood := { row := scaleTurnsRow, standIns := [], harness := (true, "d5a242ecfc9588e8c1554cec436e32834b7b7744528efc5077adeecd1e642f41"), looks := true }, kinds := [], alts := [], laidByText := true, laidKinds := [.data, .data, .data, .sentinel, .sentinel], laidTests := true, laidLooks := .later }
def ScaleTurnsCardSaid : Prop := Claim7.holds Tryz.pinned (.plain (OpenSpec.ofChange scaleTurnsSpec)) scaleTurnsCard

/-- THE SECOND FORM's CARD OF 'schismalaw32.ClassKinds'. -/
def classKindsUptoCard : Claim7 := { stood := { row := classKindsUptoRow, standIns := [], harness := (true, "d5a242ecfc9588e8c1554cec436e32834b7b7744528efc5077adeecd1e642f41"), looks := true }, kinds := [], alts := [], laidByText := true, laidKinds := [.data, .data, .data, .sentinel, .sentinel], laidTests := true, laidLooks := .later }
def ClassKindsUptoCardSaid : Prop := Claim7.holds Tryz.pinned (.plain (OpenSpec.upto classKindsSpec)) classKindsUptoCard

/-- THE SECOND FORM's CARD OF 'schismalaw32.ClassConstants'. -/
def classConstantsUptoCard : Claim7 := { stood := { row := classConstantsUptoRow, standIns := [], harness := (true, "d5a242ecfc9588e8c1554cec436e32834b7b7744528efc5077adeecd1e642f41"), looks := true }, kinds := [], alts := [], laidByText := true, laidKinds := [.data, .data, .data, .sentinel, .sentinel], laidTests := true, laidLooks := .later }
def ClassConstantsUptoCardSaid : Prop := Claim7.holds Tryz.pinned (.plain (OpenSpec.upto classConstantsSpec)) classConstantsUptoCard

/-- THE SECOND FORM's CARD OF 'schismalaw32.ClassProper'. -/
def classProperUptoCard : Claim7 := { stood := { row := classProperUptoRow, standIns := [], harness := (true, "d5a242ecfc9588e8c1554cec436e32834b7b7744528efc5077adeecd1e642f41"), looks := true }, kinds := [], alts := [], laidByText := true, laidKinds := [.data, .data, .data, .sentinel, .sentinel], laidTests := true, laidLooks := .later }
def ClassProperUptoCardSaid : Prop := Claim7.holds Tryz.pinned (.plain (OpenSpec.upto classProperSpec)) classProperUptoCard

/-- THE SECOND FORM's CARD OF 'schismalaw32.ClassInverts'. -/
def classInvertsUptoCard : Claim7 := { stood := { row := classInvertsUptoRow, standIns := [], harness := (true, "d5a242ecfc9588e8c1554cec436e32834b7b7744528efc5077adeecd1e642f41"), looks := true }, kinds := [], alts := [], laidByText := true, laidKinds := [.data, .data, .data, .sentinel, .sentinel], laidTests := true, laidLooks := .later }
def ClassInvertsUptoCardSaid : Prop := Claim7.holds Tryz.pinned (.plain (OpenSpec.upto classInvertsSpec)) classInvertsUptoCard

/-- THE SECOND FORM's CARD OF 'schismalaw32.ClassTables'. -/
def classTablesUptoCard : Claim7 := { stood := { row := classTablesUptoRow, standIns := [], harness := (true, "d5a242ecfc9588e8c1554cec436e32834b7b7744528efc5077adeecd1e642f41"), looks := true }, kinds := [], alts := [], laidByText := true, laidKinds := [.data, .data, .data, .sentinel, .sentinel], laidTests := true, laidLooks := .later }
def ClassTablesUptoCardSaid : Prop := Claim7.holds Tryz.pinned (.plain (OpenSpec.upto classTablesSpec)) classTablesUptoCard

/-- THE SECOND FORM's CARD OF 'schismalaw32.ClassModes'. -/
def classModesUptoCard : Claim7 := { stood := { row := classModesUptoRow, standIns := [], harness := (true, "d5a242ecfc9588e8c1554cec436e32834b7b7744528efc5077adeecd1e642f41"), looks := true }, kinds := [], alts := [], laidByText := true, laidKinds := [.data, .data, .data, .sentinel, .sentinel], laidTests := true, laidLooks := .later }
def ClassModesUptoCardSaid : Prop := Claim7.holds Tryz.pinned (.plain (OpenSpec.upto classModesSpec)) classModesUptoCard

/-- THE SECOND FORM's CARD OF 'schismalaw32.ClassSizes'. -/
def classSizesUptoCard : Claim7 := { stood := { row := classSizesUptoRow, standIns := [], harness := (true, "d5a242ecfc9588e8c1554cec436e32834b7b7744528efc5077adeecd1e642f41"), looks := true }, kinds := [], alts := [], laidByText := true, laidKinds := [.data, .data, .data, .sentinel, .sentinel], laidTests := true, laidLooks := .later }
def ClassSizesUptoCardSaid : Prop := Claim7.holds Tryz.pinned (.plain (OpenSpec.upto classSizesSpec)) classSizesUptoCard

/-- THE SECOND FORM's CARD OF 'schismalaw32.ClassFinds'. -/
def classFindsUptoCard : Claim7 := { stood := { row := classFindsUptoRow, standIns := [], harness := (true, "d5a242ecfc9588e8c1554cec436e32834b7b7744528efc5077adeecd1e642f41"), looks := true }, kinds := [], alts := [], laidByText := true, laidKinds := [.data, .data, .data, .sentinel, .sentinel], laidTests := true, laidLooks := .later }
def ClassFindsUptoCardSaid : Prop := Claim7.holds Tryz.pinned (.plain (OpenSpec.upto classFindsSpec)) classFindsUptoCard

/-- THE SECOND FORM's CARD OF 'schismalaw31.ScaleNotes'. -/
def scaleNotesUptoCard : Claim7 := { stood := { row := scaleNotesUptoRow, standIns := [], harness := (true, "d5a242ecfc9588e8c1554cec436e32834b7b7744528efc5077adeecd1e642f41"), looks := true }, kinds := [], alts := [], laidByText := true, laidKinds := [.data, .data, .data, .sentinel, .sentinel], laidTests := true, laidLooks := .later }
def ScaleNotesUptoCardSaid : Prop := Claim7.holds Tryz.pinned (.plain (OpenSpec.upto scaleNotesSpec)) scaleNotesUptoCard

/-- THE SECOND FORM's CARD OF 'schismalaw31.ScaleSubsets'. -/
def scaleSubsetsUptoCard : Claim7 := { stood := { row := scaleSubsetsUptoRow, standIns := [], harness := (true, "d5a242ecfc9588e8c1554cec436e32834b7b7744528efc5077adeecd1e642f41"), looks := true }, kinds := [], alts := [], laidByText := true, laidKinds := [.data, .data, .data, .sentinel, .sentinel], laidTests := true, laidLooks := .later }
def ScaleSubsetsUptoCardSaid : Prop := Claim7.holds Tryz.pinned (.plain (OpenSpec.upto scaleSubsetsSpec)) scaleSubsetsUptoCard

/-- THE SECOND FORM's CARD OF 'schismalaw31.ScaleModes'. -/
def scaleModesUptoCard : Claim7 := { stood := { row := scaleModesUptoRow, standIns := [], harness := (true, "d5a242ecfc9588e8c1554cec436e32834b7b7744528efc5077adeecd1e642f41"), looks := true }, kinds := [], alts := [], laidByText := true, laidKinds := [.data, .data, .data, .sentinel, .sentinel], laidTests := true, laidLooks := .later }
def ScaleModesUptoCardSaid : Prop := Claim7.holds Tryz.pinned (.plain (OpenSpec.upto scaleModesSpec)) scaleModesUptoCard

/-- THE SECOND FORM's CARD OF 'schismalaw31.ScaleTurns'. -/
def scaleTurnsUptoCard : Claim7 := { stood := { row := scaleTurnsUptoRow, standIns := [], harness := (true, "d5a242ecfc9588e8c1554cec436e32834b7b7744528efc5077adeecd1e642f41"), looks := true }, kinds := [], alts := [], laidByText := true, laidKinds := [.data, .data, .data, .sentinel, .sentinel], laidTests := true, laidLooks := .later }
def ScaleTurnsUptoCardSaid : Prop := Claim7.holds Tryz.pinned (.plain (OpenSpec.upto scaleTurnsSpec)) scaleTurnsUptoCard
end Rows
end Go.Proofs.YtaakmdjicocjpaaGreatDoor
