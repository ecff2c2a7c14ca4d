/-
  DERIVED. GIVEN WITH THE SEED: THE CARDS: each row of YtnppiicceblfkaaGreatDoorRows.lean that lists a variable, with what it lists TIED to the program's text (the seventh form; the later family's looks); each row that meets fmt, with fmt's text TOLD by the authors' own Lean function (tested against real Go, not proved from fmt's source: count such statements apart). THE CARD IS WHAT COUNTS. Prove the row's statement (the work); the ties are given (YtnppiicceblfkaaGreatDoorTie.lean); close each card by the builder's one call (the guide's Derived/Test/ToyasCard.lean, 'card_holds'). Laid BY PROGRAM, IN A SANDBOX (cutbox-door.mjs). By AI agents, Wed Nov 11 2026. No macro, syntax, notation, axiom, sorry.
-/
import Derived.Test.YtnppiicceblfkaaGreatDoorRows
import GoSem.ClaimSeven
namespace Go.Proofs.YtnppiicceblfkaaGreatDoor
namespace Rows

/-- THE TIED CARD OF 'schismalaw31.ScaleFinds'. -/
def scaleFindsCard : Claim7 := { stood := { row := scaleFindsRow, standIns := [], harness := (true, "684ec45bc43f761c04d1b741c1aa80bb3d9d2b61d406a7caec29c2bc691b7bb2"), looks := true }, kinds := [], alts := [], laidByText := true, laidKinds := [.data, .data, .data, .sentinel, .sentinel], laidTests := true, laidLooks := .later }
def ScaleFindsCardSaid : Prop := Claim7.holds Tryz.pinned (.plain (OpenSpec.ofChange scaleFindsSpec)) scaleFindsCard

/-- THE TIED CARD OF 'schismalaw31.ScaleNotes'. -/
def scaleNotesCard : Claim7 := { stood := { row := scaleNotesRow, standIns := [], harness := (true, "684ec45bc43f761c04d1b741c1aa80bb3d9d2b61d406a7caec29c2bc691b7bb2"), looks := true }, kinds := [], alts := [], laidByText := true, laidKinds := [.data, .data, .data, .sentinel, .sentinel], laidTests := true, laidLooks := .later }
def ScaleNotesCardSaid : Prop := Claim7.holds Tryz.pinned (.plain (OpenSpec.ofChange scaleNotesSpec)) scaleNotesCard

/-- THE SECOND FORM's CARD OF 'schismalaw31.ScaleFinds'. -/
def scaleFindsUptoCard : Claim7 := { stood := { row := scaleFindsUptoRow, standIns := [], harness := (true, "684ec45bc43f761c04d1b741c1aa80bb3d9d2b61d406a7caec29c2bc691b7bb2"), looks := true }, kinds := [], alts := [], laidByText := true, laidKinds := [.data, .data, .data, .sentinel, .sentinel], laidTests := true, laidLooks := .later }
def ScaleFindsUptoCardSaid : Prop := Claim7.holds Tryz.pinned (.plain (OpenSpec.upto scaleFindsSpec)) scaleFindsUptoCard

/-- THE SECOND FORM's CARD OF 'schismalaw31.ScaleNotes'. -/
def scaleNotesUptoCard : Claim7 := { stood := { row := scaleNotesUptoRow, standIns := [], harness := (true, "684ec45bc43f761c04d1b741c1aa80bb3d9d2b61d406a7caec29c2bc691b7bb2"), looks := true }, kinds := [], alts := [], laidByText := true, laidKinds := [.data, .data, .data, .sentinel, .sentinel], laidTests := true, laidLooks := .later }
def ScaleNotesUptoCardSaid : Prop := Claim7.holds Tryz.pinned (.plain (OpenSpec.upto scaleNotesSpec)) scaleNotesUptoCard
end Rows
end Go.Proofs.YtnppiicceblfkaaGreatDoor
