/-
  DERIVED. GIVEN WITH THE SEED: THE CARDS: each row of YtajdfggocldeaaaGreatDoorRows.lean that lists a variable, with what it lists TIED to the program's text (the seventh form; the later family's looks); each row that meets fmt, with fmt's text TOLD by the authors' own Lean function (tested against real Go, not proved from fmt's source: count such statements apart). THE CARD IS WHAT COUNTS. Prove the row's statement (the work); the ties are given (YtajdfggocldeaaaGreatDoorTie.lean); close each card by the builder's one call (the guide's Derived/Test/ToyasCard.lean, 'card_holds'). Laid BY PROGRAM, IN A SANDBOX (cutbox-door.mjs). By AI agents, Wed Nov 11 2026. No macro, syntax, notation, axiom, sorry.
-/
import Derived.Test.YtajdfggocldeaaaGreatDoorRows
import GoSem.ClaimSeven
namespace Go.Proofs.YtajdfggocldeaaaGreatDoor
namespace Rows

/-- THE TIED CARD OF 'schismalaw32.ClassFinds'. -/
def classFindsCard : Claim7 := { stood := { row := classFindsRow, standIns := [], harness := (true, "4bff2b48b832311ff7d656567f003f8c2b6ca26953c1d5229013ef7b1efe1ff9"), looks := true }, kinds := [], alts := [], laidByText := true, laidKinds := [.data, .data, .data, .sentinel, .sentinel], laidTests := true, laidLooks := .later }
def ClassFindsCardSaid : Prop := Claim7.holds Tryz.pinned (.plain (OpenSpec.ofChange classFindsSpec)) classFindsCard

/-- THE SECOND FORM's CARD OF 'schismalaw32.ClassFinds'. -/
def classFindsUptoCard : Claim7 := { stood := { row := classFindsUptoRow, standIns := [], harness := (true, "4bff2b48b832311ff7d656567f003f8c2b6ca26953c1d5229013ef7b1efe1ff9"), looks := true }, kinds := [], alts := [], laidByText := true, laidKinds := [.data, .data, .data, .sentinel, .sentinel], laidTests := true, laidLooks := .later }
def ClassFindsUptoCardSaid : Prop := Claim7.holds Tryz.pinned (.plain (OpenSpec.upto classFindsSpec)) classFindsUptoCard
end Rows
end Go.Proofs.YtajdfggocldeaaaGreatDoor
