/-
  DERIVED. GIVEN WITH THE SEED: THE CARDS: each row of YtkdgmahilfnnmaaGreatDoorRows.lean that lists a variable, with what it lists TIED to the program's text (the seventh form; the later family's looks); each row that meets fmt, with fmt's text TOLD by the authors' own Lean function (tested against real Go, not proved from fmt's source: count such statements apart). THE CARD IS WHAT COUNTS. Prove the row's statement (the work); the ties are given (YtkdgmahilfnnmaaGreatDoorTie.lean); close each card by the builder's one call (the guide's Derived/Test/ToyasCard.lean, 'card_holds'). Laid BY PROGRAM, IN A SANDBOX (cutbox-door.mjs). By AI agents, Wed Nov 11 2026. No macro, syntax, notation, axiom, sorry.
-/
import Derived.Test.YtkdgmahilfnnmaaGreatDoorRows
import GoSem.ClaimSeven
namespace Go.Proofs.YtkdgmahilfnnmaaGreatDoor
namespace Rows

/-- THE TIED CARD OF 'schismalaw37.EpimorphismNumbers'. -/
def epimorphismNumbersCard : Claim7 := { stood := { row := epimorphismNumbersRow, standIns := [], harness := (true, "0992f62b085ac4041780323991ec609653000c83810ea732ffed895aa5216808"), looks := true }, kinds := [], alts := [], laidByText := true, laidKinds := [.data, .data, .data, .sentinel, .sentinel], laidTests := true, laidLooks := .later }
def EpimorphismNumbersCardSaid : Prop := Claim7.holds Tryz.pinned (.plain (OpenSpec.ofChange epimorphismNumbersSpec)) epimorphismNumbersCard

/-- THE TIED CARD OF 'schismalaw37.EpimorphismChecks'. -/
def epimorphismChecksCard : Claim7 := { stood := { row := epimorphismChecksRow, standIns := [], harness := (true, "0992f62b085ac4041780323991ec609653000c83810ea732ffed895aa5216808"), looks := true }, kinds := [], alts := [], laidByText := true, laidKinds := [.data, .data, .data, .sentinel, .sentinel], laidTests := true, laidLooks := .later }
def EpimorphismChecksCardSaid : Prop := Claim7.holds Tryz.pinned (.plain (OpenSpec.ofChange epimorphismChecksSpec)) epimorphismChecksCard

/-- THE SECOND FORM's CARD OF 'schismalaw37.EpimorphismNumbers'. -/
def epimorphismNumbersUptoCard : Claim7 := { stood := { row := epimorphismNumbersUptoRow, standIns := [], harness := (true, "0992f62b085ac4041780323991ec609653000c83810ea732ffed895aa5216808"), looks := true }, kinds := [], alts := [], laidByText := true, laidKinds := [.data, .data, .data, .sentinel, .sentinel], laidTests := true, laidLooks := .later }
def EpimorphismNumbersUptoCardSaid : Prop := Claim7.holds Tryz.pinned (.plain (OpenSpec.upto epimorphismNumbersSpec)) epimorphismNumbersUptoCard

/-- THE SECOND FORM's CARD OF 'schismalaw37.EpimorphismChecks'. -/
def epimorphismChecksUptoCard : Claim7 := { stood := { row := epimorphismChecksUptoRow, standIns := [], harness := (true, "0992f62b085ac4041780323991ec609653000c83810ea732ffed895aa5216808"), looks := true }, kinds := [], alts := [], laidByText := true, laidKinds := [.data, .data, .data, .sentinel, .sentinel], laidTests := true, laidLooks := .later }
def EpimorphismChecksUptoCardSaid : Prop := Claim7.holds Tryz.pinned (.plain (OpenSpec.upto epimorphismChecksSpec)) epimorphismChecksUptoCard
end Rows
end Go.Proofs.YtkdgmahilfnnmaaGreatDoor
