/-
  DERIVED. GIVEN WITH THE SEED: THE CARDS: each row of YtbkfhacmekbniaaGreatDoorRows.lean that lists a variable, with what it lists TIED to the program's text (the seventh form; the later family's looks); each row that meets fmt, with fmt's text TOLD by the authors' own Lean function (tested against real Go, not proved from fmt's source: count such statements apart). THE CARD IS WHAT COUNTS. Prove the row's statement (the work); the ties are given (YtbkfhacmekbniaaGreatDoorTie.lean); close each card by the builder's one call (the guide's Derived/Test/ToyasCard.lean, 'card_holds'). Laid BY PROGRAM, IN A SANDBOX (cutbox-door.mjs). By AI agents, Wed Nov 11 2026. No macro, syntax, notation, axiom, sorry.
-/
import Derived.Test.YtbkfhacmekbniaaGreatDoorRows
import GoSem.ClaimSeven
namespace Go.Proofs.YtbkfhacmekbniaaGreatDoor
namespace Rows

/-- THE TIED CARD OF 'schismalaw31.ScaleChains'. -/
def scaleChainsCard : Claim7 := { stood := { row := scaleChainsRow, standIns := [], harness := (true, "eaf05ff7214ec4fb75701f91c8452b021800c37f9ac1bb0e2d9ff2d434eb902b"), looks := true }, kinds := [], alts := [], laidByText := true, laidKinds := [.data, .data, .data, .sentinel, .sentinel], laidTests := true, laidLooks := .later }
def ScaleChainsCardSaid : Prop := Claim7.holds Tryz.pinned (.plain (OpenSpec.ofChange scaleChainsSpec)) scaleChainsCard

/-- THE TIED CARD OF 'schismalaw31.ScaleFinds'. -/
def scaleFindsCard : Claim7 := { stood := { row := scaleFindsRow, standIns := [], harness := (true, "eaf05ff7214ec4fb75701f91c8452b021800c37f9ac1bb0e2d9ff2d434eb902b"), looks := true }, kinds := [], alts := [], laidByText := true, laidKinds := [.data, .data, .data, .sentinel, .sentinel], laidTests := true, laidLooks := .later }
def ScaleFindsCardSaid : Prop := Claim7.holds Tryz.pinned (.plain (OpenSpec.ofChange scaleFindsSpec)) scaleFindsCard

/-- THE TIED CARD OF 'schismalaw31.ScaleUnions'. -/
def scaleUnionsCard : Claim7 := { stood := { row := scaleUnionsRow, standIns := [], harness := (true, "eaf05ff7214ec4fb75701f91c8452b021800c37f9ac1bb0e2d9ff2d434eb902b"), looks := true }, kinds := [], alts := [], laidByText := true, laidKinds := [.data, .data, .data, .sentinel, .sentinel], laidTests := true, laidLooks := .later }
def ScaleUnionsCardSaid : Prop := Claim7.holds Tryz.pinned (.plain (OpenSpec.ofChange scaleUnionsSpec)) scaleUnionsCard

/-- THE SECOND FORM's CARD OF 'schismalaw31.ScaleChains'. -/
def scaleChainsUptoCard : Claim7 := { stood := { row := scaleChainsUptoRow, standIns := [], harness := (true, "eaf05ff7214ec4fb75701f91c8452b021800c37f9ac1bb0e2d9ff2d434eb902b"), looks := true }, kinds := [], alts := [], laidByText := true, laidKinds := [.data, .data, .data, .sentinel, .sentinel], laidTests := true, laidLooks := .later }
def ScaleChainsUptoCardSaid : Prop := Claim7.holds Tryz.pinned (.plain (OpenSpec.upto scaleChainsSpec)) scaleChainsUptoCard

/-- THE SECOND FORM's CARD OF 'schismalaw31.ScaleFinds'. -/
def scaleFindsUptoCard : Claim7 := { stood := { row := scaleFindsUptoRow, standIns := [], harness := (true, "eaf05ff7214ec4fb75701f91c8452b021800c37f9ac1bb0e2d9ff2d434eb902b"), looks := true }, kinds := [], alts := [], laidByText := true, laidKinds := [.data, .data, .data, .sentinel, .sentinel], laidTests := true, laidLooks := .later }
def ScaleFindsUptoCardSaid : Prop := Claim7.holds Tryz.pinned (.plain (OpenSpec.upto scaleFindsSpec)) scaleFindsUptoCard

/-- THE SECOND FORM's CARD OF 'schismalaw31.ScaleUnions'. -/
def scaleUnionsUptoCard : Claim7 := { stood := { row := scaleUnionsUptoRow, standIns := [], harness := (true, "eaf05ff7214ec4fb75701f91c8452b021800c37f9ac1bb0e2d9ff2d434eb902b"), looks := true }, kinds := [], alts := [], laidByText := true, laidKinds := [.data, .data, .data, .sentinel, .sentinel], laidTests := true, laidLooks := .later }
def ScaleUnionsUptoCardSaid : Prop := Claim7.holds Tryz.pinned (.plain (OpenSpec.upto scaleUnionsSpec)) scaleUnionsUptoCard
end Rows
end Go.Proofs.YtbkfhacmekbniaaGreatDoor
