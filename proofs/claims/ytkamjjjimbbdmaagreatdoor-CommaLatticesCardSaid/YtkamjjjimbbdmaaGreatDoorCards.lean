/-
  DERIVED. GIVEN WITH THE SEED: THE CARDS: each row of YtkamjjjimbbdmaaGreatDoorRows.lean that lists a variable, with what it lists TIED to the program's text (the seventh form; the later family's looks); each row that meets fmt, with fmt's text TOLD by the authors' own Lean function (tested against real Go, not proved from fmt's source: count such statements apart). THE CARD IS WHAT COUNTS. Prove the row's statement (the work); the ties are given (YtkamjjjimbbdmaaGreatDoorTie.lean); close each card by the builder's one call (the guide's Derived/Test/ToyasCard.lean, 'card_holds'). Laid BY PROGRAM, IN A SANDBOX (cutbox-door.mjs). By AI agents, Wed Nov 11 2026. No macro, syntax, notation, axiom, sorry.
-/
import Derived.Test.YtkamjjjimbbdmaaGreatDoorRows
import GoSem.ClaimSeven
namespace Go.Proofs.YtkamjjjimbbdmaaGreatDoor
namespace Rows

/-- THE TIED CARD OF 'schismalaw16.CommaLists'. -/
def commaListsCard : Claim7 := { stood := { row := commaListsRow, standIns := [], harness := (true, "ef9bef160808dab75bcc16a36ad70f1427a7490e534792e8ba55f790fc90c504"), looks := true }, kinds := [], alts := [], laidByText := true, laidKinds := [.data, .data, .data, .sentinel, .sentinel], laidTests := true, laidLooks := .later }
def CommaListsCardSaid : Prop := Claim7.holds Tryz.pinned (.plain (OpenSpec.ofChange commaListsSpec)) commaListsCard

/-- THE TIED CARD OF 'schismalaw16.CommaSmallest'. -/
def commaSmallestCard : Claim7 := { stood := { row := commaSmallestRow, standIns := [], harness := (true, "ef9bef160808dab75bcc16a36ad70f1427a7490e534792e8ba55f790fc90c504"), looks := true }, kinds := [], alts := [], laidByText := true, laidKinds := [.data, .data, .data, .sentinel, .sentinel], laidTests := true, laidLooks := .later }
def CommaSmallestCardSaid : Prop := Claim7.holds Tryz.pinned (.plain (OpenSpec.ofChange commaSmallestSpec)) commaSmallestCard

/-- THE TIED CARD OF 'schismalaw16.CommaCombines'. -/
def commaCombinesCard : Claim7 := { stood := { row := commaCombinesRow, standIns := [], harness := (true, "ef9bef160808dab75bcc16a36ad70f1427a7490e534792e8ba55f790fc90c504"), looks := true }, kinds := [], alts := [], laidByText := true, laidKinds := [.data, .data, .data, .sentinel, .sentinel], laidTests := true, laidLooks := .later }
def CommaCombinesCardSaid : Prop := Claim7.holds Tryz.pinned (.plain (OpenSpec.ofChange commaCombinesSpec)) commaCombinesCard

/-- THE TIED CARD OF 'schismalaw16.CommaWrong'. -/
def commaWrongCard : Claim7 := { stood := { row := commaWrongRow, standIns := [], harness := (true, "ef9bef160808dab75bcc16a36ad70f1427a7490e534792e8ba55f790fc90c504"), looks := true }, kinds := [], alts := [], laidByText := true, laidKinds := [.data, .data, .data, .sentinel, .sentinel], laidTests := true, laidLooks := .later }
def CommaWrongCardSaid : Prop := Claim7.holds Tryz.pinned (.plain (OpenSpec.ofChange commaWrongSpec)) commaWrongCard

/-- THE TIED CARD OF 'schismalaw16.CommaMore'. -/
def commaMoreCard : Claim7 := { stood := { row := commaMoreRow, standIns := [], harness := (true, "ef9bef160808dab75bcc16a36ad70f1427a7490e534792e8ba55f790fc90c504"), looks := true }, kinds := [], alts := [], laidByText := true, laidKinds := [.data, .data, .data, .sentinel, .sentinel], laidTests := true, laidLooks := .later }
def CommaMoreCardSaid : Prop := Claim7.holds Tryz.pinned (.plain (OpenSpec.ofChange commaMoreSpec)) commaMoreCard

/-- THE TIED CARD OF 'schismalaw16.CommaRecords'. -/
def commaRecordsCard : Claim7 := { stood := { row := commaRecordsRow, standIns := [], harness := (true, "ef9bef160808dab75bcc16a36ad70f1427a7490e534792e8ba55f790fc90c504"), looks := true }, kinds := [], alts := [], laidByText := true, laidKinds := [.data, .data, .data, .sentinel, .sentinel], laidTests := true, laidLooks := .later }
def CommaRecordsCardSaid : Prop := Claim7.holds Tryz.pinned (.plain (OpenSpec.ofChange commaRecordsSpec)) commaRecordsCard

/-- THE TIED CARD OF 'schismalaw16.CommaForms'. -/
def commaFormsCard : Claim7 := { stood := { row := commaFormsRow, standIns := [], harness := (true, "ef9bef160808dab75bcc16a36ad70f1427a7490e534792e8ba55f790fc90c504"), looks := true }, kinds := [], alts := [], laidByText := true, laidKinds := [.data, .data, .data, .sentinel, .sentinel], laidTests := true, laidLooks := .later }
def CommaFormsCardSaid : Prop := Claim7.holds Tryz.pinned (.plain (OpenSpec.ofChange commaFormsSpec)) commaFormsCard

/-- THE TIED CARD OF 'schismalaw16.CommaChecks'. -/
def commaChecksCard : Claim7 := { stood := { row := commaChecksRow, standIns := [], harness := (true, "ef9bef160808dab75bcc16a36ad70f1427a7490e534792e8ba55f790fc90c504"), looks := true }, kinds := [], alts := [], laidByText := true, laidKinds := [.data, .data, .data, .sentinel, .sentinel], laidTests := true, laidLooks := .later }
def CommaChecksCardSaid : Prop := Claim7.holds Tryz.pinned (.plain (OpenSpec.ofChange commaChecksSpec)) commaChecksCard

/-- THE TIED CARD OF 'schismalaw16.CommaLattices'. -/
def commaLatticesCard : Claim7 := { stood := { row := commaLatticesRow, standIns := [], harness := (true, "ef9bef160808dab75bcc16a36ad70f1427a7490e534792e8ba55f790fc90c504"), looks := true }, kinds := [], alts := [], laidByText := true, laidKinds := [.data, .data, .data, .sentinel, .sentinel], laidTests := true, laidLooks := .later }
def CommaLatticesCardSaid : Prop := Claim7.holds Tryz.pinned (.plain (OpenSpec.ofChange commaLatticesSpec)) commaLatticesCard

/-- THE SECOND FORM's CARD OF 'schismalaw16.CommaLists'. -/
def commaListsUptoCard : Claim7 := { stood := { row := commaListsUptoRow, standIns := [], harness := (true, "ef9bef160808dab75bcc16a36ad70f1427a7490e534792e8ba55f790fc90c504"), looks := true }, kinds := [], alts := [], laidByText := true, laidKinds := [.data, .data, .data, .sentinel, .sentinel], laidTests := true, laidLooks := .later }
def CommaListsUptoCardSaid : Prop := Claim7.holds Tryz.pinned (.plain (OpenSpec.upto commaListsSpec)) commaListsUptoCard

/-- THE SECOND FORM's CARD OF 'schismalaw16.CommaSmallest'. -/
def commaSmallestUptoCard : Claim7 := { stood := { row := commaSmallestUptoRow, standIns := [], harness := (true, "ef9bef160808dab75bcc16a36ad70f1427a7490e534792e8ba55f790fc90c504"), looks := true }, kinds := [], alts := [], laidByText := true, laidKinds := [.data, .data, .data, .sentinel, .sentinel], laidTests := true, laidLooks := .later }
def CommaSmallestUptoCardSaid : Prop := Claim7.holds Tryz.pinned (.plain (OpenSpec.upto commaSmallestSpec)) commaSmallestUptoCard

/-- THE SECOND FORM's CARD OF 'schismalaw16.CommaCombines'. -/
def commaCombinesUptoCard : Claim7 := { stood := { row := commaCombinesUptoRow, standIns := [], harness := (true, "ef9bef160808dab75bcc16a36ad70f1427a7490e534792e8ba55f790fc90c504"), looks := true }, kinds := [], alts := [], laidByText := true, laidKinds := [.data, .data, .data, .sentinel, .sentinel], laidTests := true, laidLooks := .later }
def CommaCombinesUptoCardSaid : Prop := Claim7.holds Tryz.pinned (.plain (OpenSpec.upto commaCombinesSpec)) commaCombinesUptoCard

/-- THE SECOND FORM's CARD OF 'schismalaw16.CommaWrong'. -/
def commaWrongUptoCard : Claim7 := { stood := { row := commaWrongUptoRow, standIns := [], harness := (true, "ef9bef160808dab75bcc16a36ad70f1427a7490e534792e8ba55f790fc90c504"), looks := true }, kinds := [], alts := [], laidByText := true, laidKinds := [.data, .data, .data, .sentinel, .sentinel], laidTests := true, laidLooks := .later }
def CommaWrongUptoCardSaid : Prop := Claim7.holds Tryz.pinned (.plain (OpenSpec.upto commaWrongSpec)) commaWrongUptoCard

/-- THE SECOND FORM's CARD OF 'schismalaw16.CommaMore'. -/
def commaMoreUptoCard : Claim7 := { stood := { row := commaMoreUptoRow, standIns := [], harness := (true, "ef9bef160808dab75bcc16a36ad70f1427a7490e534792e8ba55f790fc90c504"), looks := true }, kinds := [], alts := [], laidByText := true, laidKinds := [.data, .data, .data, .sentinel, .sentinel], laidTests := true, laidLooks := .later }
def CommaMoreUptoCardSaid : Prop := Claim7.holds Tryz.pinned (.plain (OpenSpec.upto commaMoreSpec)) commaMoreUptoCard

/-- THE SECOND FORM's CARD OF 'schismalaw16.CommaRecords'. -/
def commaRecordsUptoCard : Claim7 := { stood := { row := commaRecordsUptoRow, standIns := [], harness := (true, "ef9bef160808dab75bcc16a36ad70f1427a7490e534792e8ba55f790fc90c504"), looks := true }, kinds := [], alts := [], laidByText := true, laidKinds := [.data, .data, .data, .sentinel, .sentinel], laidTests := true, laidLooks := .later }
def CommaRecordsUptoCardSaid : Prop := Claim7.holds Tryz.pinned (.plain (OpenSpec.upto commaRecordsSpec)) commaRecordsUptoCard

/-- THE SECOND FORM's CARD OF 'schismalaw16.CommaForms'. -/
def commaFormsUptoCard : Claim7 := { stood := { row := commaFormsUptoRow, standIns := [], harness := (true, "ef9bef160808dab75bcc16a36ad70f1427a7490e534792e8ba55f790fc90c504"), looks := true }, kinds := [], alts := [], laidByText := true, laidKinds := [.data, .data, .data, .sentinel, .sentinel], laidTests := true, laidLooks := .later }
def CommaFormsUptoCardSaid : Prop := Claim7.holds Tryz.pinned (.plain (OpenSpec.upto commaFormsSpec)) commaFormsUptoCard

/-- THE SECOND FORM's CARD OF 'schismalaw16.CommaChecks'. -/
def commaChecksUptoCard : Claim7 := { stood := { row := commaChecksUptoRow, standIns := [], harness := (true, "ef9bef160808dab75bcc16a36ad70f1427a7490e534792e8ba55f790fc90c504"), looks := true }, kinds := [], alts := [], laidByText := true, laidKinds := [.data, .data, .data, .sentinel, .sentinel], laidTests := true, laidLooks := .later }
def CommaChecksUptoCardSaid : Prop := Claim7.holds Tryz.pinned (.plain (OpenSpec.upto commaChecksSpec)) commaChecksUptoCard

/-- THE SECOND FORM's CARD OF 'schismalaw16.CommaLattices'. -/
def commaLatticesUptoCard : Claim7 := { stood := { row := commaLatticesUptoRow, standIns := [], harness := (true, "ef9bef160808dab75bcc16a36ad70f1427a7490e534792e8ba55f790fc90c504"), looks := true }, kinds := [], alts := [], laidByText := true, laidKinds := [.data, .data, .data, .sentinel, .sentinel], laidTests := true, laidLooks := .later }
def CommaLatticesUptoCardSaid : Prop := Claim7.holds Tryz.pinned (.plain (OpenSpec.upto commaLatticesSpec)) commaLatticesUptoCard
end Rows
end Go.Proofs.YtkamjjjimbbdmaaGreatDoor
