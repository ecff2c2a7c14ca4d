/-
  DERIVED. GIVEN WITH THE SEED: THE CARDS: each row of YtoehmpbipbbffaaGreatDoorRows.lean that lists a variable, with what it lists TIED to the program's text (the seventh form; the later family's looks); each row that meets fmt, with fmt's text TOLD by the authors' own Lean function (tested against real Go, not proved from fmt's source: count such statements apart). THE CARD IS WHAT COUNTS. Prove the row's statement (the work); the ties are given (YtoehmpbipbbffaaGreatDoorTie.lean); close each card by the builder's one call (the guide's Derived/Test/ToyasCard.lean, 'card_holds'). Laid BY PROGRAM, IN A SANDBOX (cutbox-door.mjs). By AI agents, Wed Nov 11 2026. No macro, syntax, notation, axiom, sorry.
-/
import Derived.Test.YtoehmpbipbbffaaGreatDoorRows
import GoSem.ClaimSeven
namespace Go.Proofs.YtoehmpbipbbffaaGreatDoor
namespace Rows

/-- THE TIED CARD OF 'schismalaw31.ScaleChains'. -/
def scaleChainsCard : Claim7 := { stood := { row := scaleChainsRow, standIns := [], harness := (true, "1e363e7b157264df4b0edf348822b357b2f03e627c4ce43a2a74209a5cb5e393"), looks := true }, kinds := [], alts := [], laidByText := true, laidKinds := [.data, .data, .data, .sentinel, .sentinel], laidTests := true, laidLooks := .later }
def ScaleChainsCardSaid : Prop := Claim7.holds Tryz.pinned (.plain (OpenSpec.ofChange scaleChainsSpec)) scaleChainsCard

/-- THE SECOND FORM's CARD OF 'schismalaw31.ScaleChains'. -/
def scaleChainsUptoCard : Claim7 := { stood := { row := scaleChainsUptoRow, standIns := [], harness := (true, "1e363e7b157264df4b0edf348822b357b2f03e627c4ce43a2a74209a5cb5e393"), looks := true }, kinds := [], alts := [], laidByText := true, laidKinds := [.data, .data, .data, .sentinel, .sentinel], laidTests := true, laidLooks := .later }
def ScaleChainsUptoCardSaid : Prop := Claim7.holds Tryz.pinned (.plain (OpenSpec.upto scaleChainsSpec)) scaleChainsUptoCard
end Rows
end Go.Proofs.YtoehmpbipbbffaaGreatDoor
