/-
  DERIVED. GIVEN WITH THE SEED: THE CARDS: each row of YtipjmpdndokdlaaGreatDoorRows.lean that lists a variable, with what it lists TIED to the program's text (the seventh form; the later family's looks); each row that meets fmt, with fmt's text TOLD by the authors' own Lean function (tested against real Go, not proved from fmt's source: count such statements apart). THE CARD IS WHAT COUNTS. Prove the row's statement (the work); the ties are given (YtipjmpdndokdlaaGreatDoorTie.lean); close each card by the builder's one call (the guide's Derived/Test/ToyasCard.lean, 'card_holds'). Laid BY PROGRAM, IN A SANDBOX (cutbox-door.mjs). By AI agents, Wed Nov 11 2026. No macro, syntax, notation, axiom, sorry.
-/
import Derived.Test.YtipjmpdndokdlaaGreatDoorRows
import GoSem.ClaimSeven
namespace Go.Proofs.YtipjmpdndokdlaaGreatDoor
namespace Rows

/-- THE TIED CARD OF 'schismalaw38.SubsetTurns'. -/
def subsetTurnsCard : Claim7 := { stood := { row := subsetTurnsRow, standIns := [], harness := (true, "13e1029adf651137bc5089b5cf3a78d1a267e460e95d8fe8bd9443154de8043b"), looks := true }, kinds := [], alts := [], laidByText := true, laidKinds := [.data, .data, .data, .sentinel, .sentinel], laidTests := true, laidLooks := .later }
def SubsetTurnsCardSaid : Prop := Claim7.holds Tryz.pinned (.plain (OpenSpec.ofChange subsetTurnsSpec)) subsetTurnsCard

/-- THE TIED CARD OF 'schismalaw38.SubsetFits'. -/
def subsetFitsCard : Claim7 := { stood := { row := subsetFitsRow, standIns := [], harness := (true, "13e1029adf651137bc5089b5cf3a78d1a267e460e95d8fe8bd9443154de8043b"), looks := true }, kinds := [], alts := [], laidByText := true, laidKinds := [.data, .data, .data, .sentinel, .sentinel], laidTests := true, laidLooks := .later }
def SubsetFitsCardSaid : Prop := Claim7.holds Tryz.pinned (.plain (OpenSpec.ofChange subsetFitsSpec)) subsetFitsCard

/-- THE TIED CARD OF 'schismalaw38.SubsetStricter'. -/
def subsetStricterCard : Claim7 := { stood := { row := subsetStricterRow, standIns := [], harness := (true, "13e1029adf651137bc5089b5cf3a78d1a267e460e95d8fe8bd9443154de8043b"), looks := true }, kinds := [], alts := [], laidByText := true, laidKinds := [.data, .data, .data, .sentinel, .sentinel], laidTests := true, laidLooks := .later }
def SubsetStricterCardSaid : Prop := Claim7.holds Tryz.pinned (.plain (OpenSpec.ofChange subsetStricterSpec)) subsetStricterCard

/-- THE TIED CARD OF 'schismalaw38.SubsetModes'. -/
def subsetModesCard : Claim7 := { stood := { row := subsetModesRow, standIns := [], harness := (true, "13e1029adf651137bc5089b5cf3a78d1a267e460e95d8fe8bd9443154de8043b"), looks := true }, kinds := [], alts := [], laidByText := true, laidKinds := [.data, .data, .data, .sentinel, .sentinel], laidTests := true, laidLooks := .later }
def SubsetModesCardSaid : Prop := Claim7.holds Tryz.pinned (.plain (OpenSpec.ofChange subsetModesSpec)) subsetModesCard

/-- THE TIED CARD OF 'schismalaw38.SubsetHolds'. -/
def subsetHoldsCard : Claim7 := { stood := { row := subsetHoldsRow, standIns := [], harness := (true, "13e1029adf651137bc5089b5cf3a78d1a267e460e95d8fe8bd9443154de8043b"), looks := true }, kinds := [], alts := [], laidByText := true, laidKinds := [.data, .data, .data, .sentinel, .sentinel], laidTests := true, laidLooks := .later }
def SubsetHoldsCardSaid : Prop := Claim7.holds Tryz.pinned (.plain (OpenSpec.ofChange subsetHoldsSpec)) subsetHoldsCard

/-- THE SECOND FORM's CARD OF 'schismalaw38.SubsetTurns'. -/
def subsetTurnsUptoCard : Claim7 := { stood := { row := subsetTurnsUptoRow, standIns := [], harness := (true, "13e1029adf651137bc5089b5cf3a78d1a267e460e95d8fe8bd9443154de8043b"), looks := true }, kinds := [], alts := [], laidByText := true, laidKinds := [.data, .data, .data, .sentinel, .sentinel], laidTests := true, laidLooks := .later }
def SubsetTurnsUptoCardSaid : Prop := Claim7.holds Tryz.pinned (.plain (OpenSpec.upto subsetTurnsSpec)) subsetTurnsUptoCard

/-- THE SECOND FORM's CARD OF 'schismalaw38.SubsetFits'. -/
def subsetFitsUptoCard : Claim7 := { stood := { row := subsetFitsUptoRow, standIns := [], harness := (true, "13e1029adf651137bc5089b5cf3a78d1a267e460e95d8fe8bd9443154de8043b"), looks := true }, kinds := [], alts := [], laidByText := true, laidKinds := [.data, .data, .data, .sentinel, .sentinel], laidTests := true, laidLooks := .later }
def SubsetFitsUptoCardSaid : Prop := Claim7.holds Tryz.pinned (.plain (OpenSpec.upto subsetFitsSpec)) subsetFitsUptoCard

/-- THE SECOND FORM's CARD OF 'schismalaw38.SubsetStricter'. -/
def subsetStricterUptoCard : Claim7 := { stood := { row := subsetStricterUptoRow, standIns := [], harness := (true, "13e1029adf651137bc5089b5cf3a78d1a267e460e95d8fe8bd9443154de8043b"), looks := true }, kinds := [], alts := [], laidByText := true, laidKinds := [.data, .data, .data, .sentinel, .sentinel], laidTests := true, laidLooks := .later }
def SubsetStricterUptoCardSaid : Prop := Claim7.holds Tryz.pinned (.plain (OpenSpec.upto subsetStricterSpec)) subsetStricterUptoCard

/-- THE SECOND FORM's CARD OF 'schismalaw38.SubsetModes'. -/
def subsetModesUptoCard : Claim7 := { stood := { row := subsetModesUptoRow, standIns := [], harness := (true, "13e1029adf651137bc5089b5cf3a78d1a267e460e95d8fe8bd9443154de8043b"), looks := true }, kinds := [], alts := [], laidByText := true, laidKinds := [.data, .data, .data, .sentinel, .sentinel], laidTests := true, laidLooks := .later }
def SubsetModesUptoCardSaid : Prop := Claim7.holds Tryz.pinned (.plain (OpenSpec.upto subsetModesSpec)) subsetModesUptoCard

/-- THE SECOND FORM's CARD OF 'schismalaw38.SubsetHolds'. -/
def subsetHoldsUptoCard : Claim7 := { stood := { row := subsetHoldsUptoRow, standIns := [], harness := (true, "13e1029adf651137bc5089b5cf3a78d1a267e460e95d8fe8bd9443154de8043b"), looks := true }, kinds := [], alts := [], laidByText := true, laidKinds := [.data, .data, .data, .sentinel, .sentinel], laidTests := true, laidLooks := .later }
def SubsetHoldsUptoCardSaid : Prop := Claim7.holds Tryz.pinned (.plain (OpenSpec.upto subsetHoldsSpec)) subsetHoldsUptoCard
end Rows
end Go.Proofs.YtipjmpdndokdlaaGreatDoor
