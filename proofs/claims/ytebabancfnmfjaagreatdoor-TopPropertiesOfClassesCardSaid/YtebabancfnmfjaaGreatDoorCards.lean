/-
  DERIVED. GIVEN WITH THE SEED: THE CARDS: each row of YtebabancfnmfjaaGreatDoorRows.lean that lists a variable, with what it lists TIED to the program's text (the seventh form; the later family's looks); each row that meets fmt, with fmt's text TOLD by the authors' own Lean function (tested against real Go, not proved from fmt's source: count such statements apart). THE CARD IS WHAT COUNTS. Prove the row's statement (the work); the ties are given (YtebabancfnmfjaaGreatDoorTie.lean); close each card by the builder's one call (the guide's Derived/Test/ToyasCard.lean, 'card_holds'). Laid BY PROGRAM, IN A SANDBOX (cutbox-door.mjs). By AI agents, Wed Nov 11 2026. No macro, syntax, notation, axiom, sorry.
-/
import Derived.Test.YtebabancfnmfjaaGreatDoorRows
import GoSem.ClaimSeven
namespace Go.Proofs.YtebabancfnmfjaaGreatDoor
namespace Rows

/-- THE TIED CARD OF 'schismatop.TopPropertiesOfClasses'. -/
def topPropertiesOfClassesCard : Claim7 := { stood := { row := topPropertiesOfClassesRow, standIns := [], harness := (true, "8e33af504aa1186791a3cdadd0ddfcb9c9d627480483b354117e9a33c8394c68"), looks := true }, kinds := [], alts := [], laidByText := true, laidKinds := [.data, .data, .data, .sentinel, .sentinel], laidTests := true, laidLooks := .later }
def TopPropertiesOfClassesCardSaid : Prop := Claim7.holds Tryz.pinned (.plain (OpenSpec.ofChange topPropertiesOfClassesSpec)) topPropertiesOfClassesCard

/-- THE TIED CARD OF 'schismalaw38.SubsetLimits'. -/
def subsetLimitsCard : Claim7 := { stood := { row := subsetLimitsRow, standIns := [], harness := (true, "8e33af504aa1186791a3cdadd0ddfcb9c9d627480483b354117e9a33c8394c68"), looks := true }, kinds := [], alts := [], laidByText := true, laidKinds := [.data, .data, .data, .sentinel, .sentinel], laidTests := true, laidLooks := .later }
def SubsetLimitsCardSaid : Prop := Claim7.holds Tryz.pinned (.plain (OpenSpec.ofChange subsetLimitsSpec)) subsetLimitsCard

/-- THE TIED CARD OF 'schismalaw38.SubsetChecks'. -/
def subsetChecksCard : Claim7 := { stood := { row := subsetChecksRow, standIns := [], harness := (true, "8e33af504aa1186791a3cdadd0ddfcb9c9d627480483b354117e9a33c8394c68"), looks := true }, kinds := [], alts := [], laidByText := true, laidKinds := [.data, .data, .data, .sentinel, .sentinel], laidTests := true, laidLooks := .later }
def SubsetChecksCardSaid : Prop := Claim7.holds Tryz.pinned (.plain (OpenSpec.ofChange subsetChecksSpec)) subsetChecksCard

/-- THE SECOND FORM's CARD OF 'schismatop.TopPropertiesOfClasses'. -/
def topPropertiesOfClassesUptoCard : Claim7 := { stood := { row := topPropertiesOfClassesUptoRow, standIns := [], harness := (true, "8e33af504aa1186791a3cdadd0ddfcb9c9d627480483b354117e9a33c8394c68"), looks := true }, kinds := [], alts := [], laidByText := true, laidKinds := [.data, .data, .data, .sentinel, .sentinel], laidTests := true, laidLooks := .later }
def TopPropertiesOfClassesUptoCardSaid : Prop := Claim7.holds Tryz.pinned (.plain (OpenSpec.upto topPropertiesOfClassesSpec)) topPropertiesOfClassesUptoCard

/-- THE SECOND FORM's CARD OF 'schismalaw38.SubsetLimits'. -/
def subsetLimitsUptoCard : Claim7 := { stood := { row := subsetLimitsUptoRow, standIns := [], harness := (true, "8e33af504aa1186791a3cdadd0ddfcb9c9d627480483b354117e9a33c8394c68"), looks := true }, kinds := [], alts := [], laidByText := true, laidKinds := [.data, .data, .data, .sentinel, .sentinel], laidTests := true, laidLooks := .later }
def SubsetLimitsUptoCardSaid : Prop := Claim7.holds Tryz.pinned (.plain (OpenSpec.upto subsetLimitsSpec)) subsetLimitsUptoCard

/-- THE SECOND FORM's CARD OF 'schismalaw38.SubsetChecks'. -/
def subsetChecksUptoCard : Claim7 := { stood := { row := subsetChecksUptoRow, standIns := [], harness := (true, "8e33af504aa1186791a3cdadd0ddfcb9c9d627480483b354117e9a33c8394c68"), looks := true }, kinds := [], alts := [], laidByText := true, laidKinds := [.data, .data, .data, .sentinel, .sentinel], laidTests := true, laidLooks := .later }
def SubsetChecksUptoCardSaid : Prop := Claim7.holds Tryz.pinned (.plain (OpenSpec.upto subsetChecksSpec)) subsetChecksUptoCard
end Rows
end Go.Proofs.YtebabancfnmfjaaGreatDoor
