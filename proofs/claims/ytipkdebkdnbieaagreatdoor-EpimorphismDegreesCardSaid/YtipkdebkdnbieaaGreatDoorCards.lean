/-
  DERIVED. GIVEN WITH THE SEED: THE CARDS: each row of YtipkdebkdnbieaaGreatDoorRows.lean that lists a variable, with what it lists TIED to the program's text (the seventh form; the later family's looks); each row that meets fmt, with fmt's text TOLD by the authors' own Lean function (tested against real Go, not proved from fmt's source: count such statements apart). THE CARD IS WHAT COUNTS. Prove the row's statement (the work); the ties are given (YtipkdebkdnbieaaGreatDoorTie.lean); close each card by the builder's one call (the guide's Derived/Test/ToyasCard.lean, 'card_holds'). Laid BY PROGRAM, IN A SANDBOX (cutbox-door.mjs). By AI agents, Wed Nov 11 2026. No macro, syntax, notation, axiom, sorry.
-/
import Derived.Test.YtipkdebkdnbieaaGreatDoorRows
import GoSem.ClaimSeven
namespace Go.Proofs.YtipkdebkdnbieaaGreatDoor
namespace Rows

/-- THE TIED CARD OF 'schismalaw37.EpimorphismLeavesOut'. -/
def epimorphismLeavesOutCard : Claim7 := { stood := { row := epimorphismLeavesOutRow, standIns := [], harness := (true, "e06008c54a02090a161cea70120af34e49b9a3f0b38af524bb26aa78a929c797"), looks := true }, kinds := [], alts := [], laidByText := true, laidKinds := [.data, .data, .data, .sentinel, .sentinel], laidTests := true, laidLooks := .later }
def EpimorphismLeavesOutCardSaid : Prop := Claim7.holds Tryz.pinned (.plain (OpenSpec.ofChange epimorphismLeavesOutSpec)) epimorphismLeavesOutCard

/-- THE TIED CARD OF 'schismalaw37.EpimorphismDegrees'. -/
def epimorphismDegreesCard : Claim7 := { stood := { row := epimorphismDegreesRow, standIns := [], harness := (true, "e06008c54a02090a161cea70120af34e49b9a3f0b38af524bb26aa78a929c797"), looks := true }, kinds := [], alts := [], laidByText := true, laidKinds := [.data, .data, .data, .sentinel, .sentinel], laidTests := true, laidLooks := .later }
def EpimorphismDegreesCardSaid : Prop := Claim7.holds Tryz.pinned (.plain (OpenSpec.ofChange epimorphismDegreesSpec)) epimorphismDegreesCard

/-- THE TIED CARD OF 'schismalaw37.EpimorphismNotes'. -/
def epimorphismNotesCard : Claim7 := { stood := { row := epimorphismNotesRow, standIns := [], harness := (true, "e06008c54a02090a161cea70120af34e49b9a3f0b38af524bb26aa78a929c797"), looks := true }, kinds := [], alts := [], laidByText := true, laidKinds := [.data, .data, .data, .sentinel, .sentinel], laidTests := true, laidLooks := .later }
def EpimorphismNotesCardSaid : Prop := Claim7.holds Tryz.pinned (.plain (OpenSpec.ofChange epimorphismNotesSpec)) epimorphismNotesCard

/-- THE SECOND FORM's CARD OF 'schismalaw37.EpimorphismLeavesOut'. -/
def epimorphismLeavesOutUptoCard : Claim7 := { stood := { row := epimorphismLeavesOutUptoRow, standIns := [], harness := (true, "e06008c54a02090a161cea70120af34e49b9a3f0b38af524bb26aa78a929c797"), looks := true }, kinds := [], alts := [], laidByText := true, laidKinds := [.data, .data, .data, .sentinel, .sentinel], laidTests := true, laidLooks := .later }
def EpimorphismLeavesOutUptoCardSaid : Prop := Claim7.holds Tryz.pinned (.plain (OpenSpec.upto epimorphismLeavesOutSpec)) epimorphismLeavesOutUptoCard

/-- THE SECOND FORM's CARD OF 'schismalaw37.EpimorphismDegrees'. -/
def epimorphismDegreesUptoCard : Claim7 := { stood := { row := epimorphismDegreesUptoRow, standIns := [], harness := (true, "e06008c54a02090a161cea70120af34e49b9a3f0b38af524bb26aa78a929c797"), looks := true }, kinds := [], alts := [], laidByText := true, laidKinds := [.data, .data, .data, .sentinel, .sentinel], laidTests := true, laidLooks := .later }
def EpimorphismDegreesUptoCardSaid : Prop := Claim7.holds Tryz.pinned (.plain (OpenSpec.upto epimorphismDegreesSpec)) epimorphismDegreesUptoCard

/-- THE SECOND FORM's CARD OF 'schismalaw37.EpimorphismNotes'. -/
def epimorphismNotesUptoCard : Claim7 := { stood := { row := epimorphismNotesUptoRow, standIns := [], harness := (true, "e06008c54a02090a161cea70120af34e49b9a3f0b38af524bb26aa78a929c797"), looks := true }, kinds := [], alts := [], laidByText := true, laidKinds := [.data, .data, .data, .sentinel, .sentinel], laidTests := true, laidLooks := .later }
def EpimorphismNotesUptoCardSaid : Prop := Claim7.holds Tryz.pinned (.plain (OpenSpec.upto epimorphismNotesSpec)) epimorphismNotesUptoCard
end Rows
end Go.Proofs.YtipkdebkdnbieaaGreatDoor
