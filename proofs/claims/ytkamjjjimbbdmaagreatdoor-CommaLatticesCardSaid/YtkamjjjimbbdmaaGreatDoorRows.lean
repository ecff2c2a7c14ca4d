/-
  NARROWER THAN 'FOR EVERY INPUT', by the rows' own cells (each row's printed sentence says how): CommaLists: laid · CommaSmallest: laid · CommaCombines: laid · CommaWrong: laid · CommaMore: laid · CommaRecords: laid · CommaForms: laid · CommaChecks: laid · CommaLattices: laid.
  DERIVED. THE GIVEN ROWS OF THIS SEAT. 9 by the template 'for every input the law returns true; each argument reads behind the call as it read before'; 0 by the template 'total and deterministic' (their statements: YtkamjjjimbbdmaaGreatDoorTotals.lean).
  GIVEN WITH THE SEED: the statements are not yours to turn. If you find one false, say at which input.
  Laid BY PROGRAM, IN A SANDBOX (cutbox-rows.mjs): the forced cells as the released guide's own fill.sh prints them over the translation ef552b7a9818df6e… (all of the seat's roots in one cut). By AI agents, Wed Nov 11 2026. No macro, syntax, notation, axiom, sorry.
-/
import Derived.Test.YtkamjjjimbbdmaaGreatDoorChecked
import GoSem.Claim
import GoSem.ClaimJoined
import GoSem.ClaimMapViews
import Derived.JoinedTies
import Derived.KernelRfl
namespace Go.Proofs.YtkamjjjimbbdmaaGreatDoor
/- THE CELL 'sum', in the pinned program and in every row, IS THE sha256 OF THE DUMP (.gsa) THAT YtkamjjjimbbdmaaGreatDoorProg.lean LOADS. Nothing in Lean hashes anything: it is a label: what it is worth is what the hold of that sum in a sandbox is worth. -/
noncomputable def Tryz.pinned : Pinned := { name := "ytkamjjjimbbdmaagreatdoor", sum := "ef552b7a9818df6e6f951b0fed13bae8181adf783f5a3948b72268d9bd773580", checked := Tryz.checked }
namespace Rows
def none {H : Type} : Left H := { results := [], args := [] }

/- WHAT THE LISTED PACKAGE-LEVEL VARIABLES READ AS WHEN THE CALL BEGINS. Each datum BY PROGRAM (the guide's laid-datum.mjs) off the statement by which the dump's own 'gosem.cut.vars' lays the variable. In a bare row this is a premise. The card (YtkamjjjimbbdmaaGreatDoorCards.lean) ties it to the program's text. -/
def laid_math_bits_deBruijn32tab {H : Type} : DataW H := .agg [.lit (.int .u8 0), .lit (.int .u8 1), .lit (.int .u8 28), .lit (.int .u8 2), .lit (.int .u8 29), .lit (.int .u8 14), .lit (.int .u8 24), .lit (.int .u8 3), .lit (.int .u8 30), .lit (.int .u8 22), .lit (.int .u8 20), .lit (.int .u8 15), .lit (.int .u8 25), .lit (.int .u8 17), .lit (.int .u8 4), .lit (.int .u8 8), .lit (.int .u8 31), .lit (.int .u8 27), .lit (.int .u8 13), .lit (.int .u8 23), .lit (.int .u8 21), .lit (.int .u8 19), .lit (.int .u8 16), .lit (.int .u8 7), .lit (.int .u8 26), .lit (.int .u8 12), .lit (.int .u8 18), .lit (.int .u8 6), .lit (.int .u8 11), .lit (.int .u8 5), .lit (.int .u8 10), .lit (.int .u8 9)]
def laid_math_bits_deBruijn64tab {H : Type} : DataW H := .agg [.lit (.int .u8 0), .lit (.int .u8 1), .lit (.int .u8 56), .lit (.int .u8 2), .lit (.int .u8 57), .lit (.int .u8 49), .lit (.int .u8 28), .lit (.int .u8 3), .lit (.int .u8 61), .lit (.int .u8 58), .lit (.int .u8 42), .lit (.int .u8 50), .lit (.int .u8 38), .lit (.int .u8 29), .lit (.int .u8 17), .lit (.int .u8 4), .lit (.int .u8 62), .lit (.int .u8 47), .lit (.int .u8 59), .lit (.int .u8 36), .lit (.int .u8 45), .lit (.int .u8 43), .lit (.int .u8 51), .lit (.int .u8 22), .lit (.int .u8 53), .lit (.int .u8 39), .lit (.int .u8 33), .lit (.int .u8 30), .lit (.int .u8 24), .lit (.int .u8 18), .lit (.int .u8 12), .lit (.int .u8 5), .lit (.int .u8 63), .lit (.int .u8 55), .lit (.int .u8 48), .lit (.int .u8 27), .lit (.int .u8 60), .lit (.int .u8 41), .lit (.int .u8 37), .lit (.int .u8 16), .lit (.int .u8 46), .lit (.int .u8 35), .lit (.int .u8 44), .lit (.int .u8 21), .lit (.int .u8 52), .lit (.int .u8 32), .lit (.int .u8 23), .lit (.int .u8 11), .lit (.int .u8 54), .lit (.int .u8 26), .lit (.int .u8 40), .lit (.int .u8 15), .lit (.int .u8 34), .lit (.int .u8 20), .lit (.int .u8 31), .lit (.int .u8 10), .lit (.int .u8 25), .lit (.int .u8 14), .lit (.int .u8 19), .lit (.int .u8 9), .lit (.int .u8 13), .lit (.int .u8 8), .lit (.int .u8 7), .lit (.int .u8 6)]
def laid_internal_strconv_uint64pow10 {H : Type} : DataW H := .agg [.lit (.int .u64 1), .lit (.int .u64 10), .lit (.int .u64 100), .lit (.int .u64 1000), .lit (.int .u64 10000), .lit (.int .u64 100000), .lit (.int .u64 1000000), .lit (.int .u64 10000000), .lit (.int .u64 100000000), .lit (.int .u64 1000000000), .lit (.int .u64 10000000000), .lit (.int .u64 100000000000), .lit (.int .u64 1000000000000), .lit (.int .u64 10000000000000), .lit (.int .u64 100000000000000), .lit (.int .u64 1000000000000000), .lit (.int .u64 10000000000000000), .lit (.int .u64 100000000000000000), .lit (.int .u64 1000000000000000000), .lit (.int .u64 10000000000000000000)]
def laid_strconv_ErrRange {H : Type} : DataW H := .iface "*errors.errorString" (.ptr (.agg [.lit (.string [118, 97, 108, 117, 101, 32, 111, 117, 116, 32, 111, 102, 32, 114, 97, 110, 103, 101])]))
def laid_strconv_ErrSyntax {H : Type} : DataW H := .iface "*errors.errorString" (.ptr (.agg [.lit (.string [105, 110, 118, 97, 108, 105, 100, 32, 115, 121, 110, 116, 97, 120])]))

/-- 'schismalaw16.CommaLists': WHATEVER THE INPUT: true; the input reads as it did. -/
def commaListsSpec : ChangeSpec := { name := "commaLists", fn := fun _ => fun
  | [d] => { results := [.lit (.bool true)], args := [d] }
  | _ => none }
def commaListsRow : OpenClaim := { program := "ytkamjjjimbbdmaagreatdoor", sum := "ef552b7a9818df6e6f951b0fed13bae8181adf783f5a3948b72268d9bd773580", func := "schisma/schismalaw16.CommaLists", spec := "commaLists", unfollowed := true, recurses := true, named := ["internal/strconv.uint64pow10", "math/bits.deBruijn32tab", "math/bits.deBruijn64tab", "strconv.ErrSyntax", "strconv.ErrRange"], apart := false, laid := [("math/bits.deBruijn32tab", laid_math_bits_deBruijn32tab), ("math/bits.deBruijn64tab", laid_math_bits_deBruijn64tab), ("internal/strconv.uint64pow10", laid_internal_strconv_uint64pow10), ("strconv.ErrRange", laid_strconv_ErrRange), ("strconv.ErrSyntax", laid_strconv_ErrSyntax)] }
def CommaListsSaid : Prop := commaListsRow.holds Tryz.pinned (OpenSpec.ofChange commaListsSpec)

/-- ITS FALSE NEIGHBOUR: 'it returns false'. Refute it at one input. -/
def commaListsWrong : ChangeSpec := { name := "commaLists", fn := fun _ => fun
  | [d] => { results := [.lit (.bool false)], args := [d] }
  | _ => none }
def CommaListsWrongFalsely : Prop := commaListsRow.holds Tryz.pinned (OpenSpec.ofChange commaListsWrong)

/-- 'schismalaw16.CommaSmallest': WHATEVER THE INPUT: true; the input reads as it did. -/
def commaSmallestSpec : ChangeSpec := { name := "commaSmallest", fn := fun _ => fun
  | [d1, d2] => { results := [.lit (.bool true)], args := [d1, d2] }
  | _ => none }
def commaSmallestRow : OpenClaim := { program := "ytkamjjjimbbdmaagreatdoor", sum := "ef552b7a9818df6e6f951b0fed13bae8181adf783f5a3948b72268d9bd773580", func := "schisma/schismalaw16.CommaSmallest", spec := "commaSmallest", unfollowed := true, recurses := true, named := ["internal/strconv.uint64pow10", "math/bits.deBruijn32tab", "math/bits.deBruijn64tab", "strconv.ErrSyntax", "strconv.ErrRange"], apart := false, laid := [("math/bits.deBruijn32tab", laid_math_bits_deBruijn32tab), ("math/bits.deBruijn64tab", laid_math_bits_deBruijn64tab), ("internal/strconv.uint64pow10", laid_internal_strconv_uint64pow10), ("strconv.ErrRange", laid_strconv_ErrRange), ("strconv.ErrSyntax", laid_strconv_ErrSyntax)] }
def CommaSmallestSaid : Prop := commaSmallestRow.holds Tryz.pinned (OpenSpec.ofChange commaSmallestSpec)

/-- ITS FALSE NEIGHBOUR: 'it returns false'. Refute it at one input. -/
def commaSmallestWrong : ChangeSpec := { name := "commaSmallest", fn := fun _ => fun
  | [d1, d2] => { results := [.lit (.bool false)], args := [d1, d2] }
  | _ => none }
def CommaSmallestWrongFalsely : Prop := commaSmallestRow.holds Tryz.pinned (OpenSpec.ofChange commaSmallestWrong)

/-- 'schismalaw16.CommaCombines': WHATEVER THE INPUT: true; the input reads as it did. -/
def commaCombinesSpec : ChangeSpec := { name := "commaCombines", fn := fun _ => fun
  | [d1, d2, d3] => { results := [.lit (.bool true)], args := [d1, d2, d3] }
  | _ => none }
def commaCombinesRow : OpenClaim := { program := "ytkamjjjimbbdmaagreatdoor", sum := "ef552b7a9818df6e6f951b0fed13bae8181adf783f5a3948b72268d9bd773580", func := "schisma/schismalaw16.CommaCombines", spec := "commaCombines", unfollowed := true, recurses := true, named := ["internal/strconv.uint64pow10", "math/bits.deBruijn32tab", "math/bits.deBruijn64tab", "strconv.ErrSyntax", "strconv.ErrRange"], apart := false, laid := [("math/bits.deBruijn32tab", laid_math_bits_deBruijn32tab), ("math/bits.deBruijn64tab", laid_math_bits_deBruijn64tab), ("internal/strconv.uint64pow10", laid_internal_strconv_uint64pow10), ("strconv.ErrRange", laid_strconv_ErrRange), ("strconv.ErrSyntax", laid_strconv_ErrSyntax)] }
def CommaCombinesSaid : Prop := commaCombinesRow.holds Tryz.pinned (OpenSpec.ofChange commaCombinesSpec)

/-- ITS FALSE NEIGHBOUR: 'it returns false'. Refute it at one input. -/
def commaCombinesWrong : ChangeSpec := { name := "commaCombines", fn := fun _ => fun
  | [d1, d2, d3] => { results := [.lit (.bool false)], args := [d1, d2, d3] }
  | _ => none }
def CommaCombinesWrongFalsely : Prop := commaCombinesRow.holds Tryz.pinned (OpenSpec.ofChange commaCombinesWrong)

/-- 'schismalaw16.CommaWrong': WHATEVER THE INPUT: true; the input reads as it did. -/
def commaWrongSpec : ChangeSpec := { name := "commaWrong", fn := fun _ => fun
  | [d1, d2, d3] => { results := [.lit (.bool true)], args := [d1, d2, d3] }
  | _ => none }
def commaWrongRow : OpenClaim := { program := "ytkamjjjimbbdmaagreatdoor", sum := "ef552b7a9818df6e6f951b0fed13bae8181adf783f5a3948b72268d9bd773580", func := "schisma/schismalaw16.CommaWrong", spec := "commaWrong", unfollowed := true, recurses := true, named := ["internal/strconv.uint64pow10", "math/bits.deBruijn32tab", "math/bits.deBruijn64tab", "strconv.ErrSyntax", "strconv.ErrRange"], apart := false, laid := [("math/bits.deBruijn32tab", laid_math_bits_deBruijn32tab), ("math/bits.deBruijn64tab", laid_math_bits_deBruijn64tab), ("internal/strconv.uint64pow10", laid_internal_strconv_uint64pow10), ("strconv.ErrRange", laid_strconv_ErrRange), ("strconv.ErrSyntax", laid_strconv_ErrSyntax)] }
def CommaWrongSaid : Prop := commaWrongRow.holds Tryz.pinned (OpenSpec.ofChange commaWrongSpec)

/-- ITS FALSE NEIGHBOUR: 'it returns false'. Refute it at one input. -/
def commaWrongWrong : ChangeSpec := { name := "commaWrong", fn := fun _ => fun
  | [d1, d2, d3] => { results := [.lit (.bool false)], args := [d1, d2, d3] }
  | _ => none }
def CommaWrongWrongFalsely : Prop := commaWrongRow.holds Tryz.pinned (OpenSpec.ofChange commaWrongWrong)

/-- 'schismalaw16.CommaMore': WHATEVER THE INPUT: true; the input reads as it did. -/
def commaMoreSpec : ChangeSpec := { name := "commaMore", fn := fun _ => fun
  | [d1, d2] => { results := [.lit (.bool true)], args := [d1, d2] }
  | _ => none }
def commaMoreRow : OpenClaim := { program := "ytkamjjjimbbdmaagreatdoor", sum := "ef552b7a9818df6e6f951b0fed13bae8181adf783f5a3948b72268d9bd773580", func := "schisma/schismalaw16.CommaMore", spec := "commaMore", unfollowed := true, recurses := true, named := ["internal/strconv.uint64pow10", "math/bits.deBruijn32tab", "math/bits.deBruijn64tab", "strconv.ErrSyntax", "strconv.ErrRange"], apart := false, laid := [("math/bits.deBruijn32tab", laid_math_bits_deBruijn32tab), ("math/bits.deBruijn64tab", laid_math_bits_deBruijn64tab), ("internal/strconv.uint64pow10", laid_internal_strconv_uint64pow10), ("strconv.ErrRange", laid_strconv_ErrRange), ("strconv.ErrSyntax", laid_strconv_ErrSyntax)] }
def CommaMoreSaid : Prop := commaMoreRow.holds Tryz.pinned (OpenSpec.ofChange commaMoreSpec)

/-- ITS FALSE NEIGHBOUR: 'it returns false'. Refute it at one input. -/
def commaMoreWrong : ChangeSpec := { name := "commaMore", fn := fun _ => fun
  | [d1, d2] => { results := [.lit (.bool false)], args := [d1, d2] }
  | _ => none }
def CommaMoreWrongFalsely : Prop := commaMoreRow.holds Tryz.pinned (OpenSpec.ofChange commaMoreWrong)

/-- 'schismalaw16.CommaRecords': WHATEVER THE INPUT: true; the input reads as it did. -/
def commaRecordsSpec : ChangeSpec := { name := "commaRecords", fn := fun _ => fun
  | [d] => { results := [.lit (.bool true)], args := [d] }
  | _ => none }
def commaRecordsRow : OpenClaim := { program := "ytkamjjjimbbdmaagreatdoor", sum := "ef552b7a9818df6e6f951b0fed13bae8181adf783f5a3948b72268d9bd773580", func := "schisma/schismalaw16.CommaRecords", spec := "commaRecords", unfollowed := true, recurses := true, named := ["internal/strconv.uint64pow10", "math/bits.deBruijn32tab", "math/bits.deBruijn64tab", "strconv.ErrSyntax", "strconv.ErrRange"], apart := false, laid := [("math/bits.deBruijn32tab", laid_math_bits_deBruijn32tab), ("math/bits.deBruijn64tab", laid_math_bits_deBruijn64tab), ("internal/strconv.uint64pow10", laid_internal_strconv_uint64pow10), ("strconv.ErrRange", laid_strconv_ErrRange), ("strconv.ErrSyntax", laid_strconv_ErrSyntax)] }
def CommaRecordsSaid : Prop := commaRecordsRow.holds Tryz.pinned (OpenSpec.ofChange commaRecordsSpec)

/-- ITS FALSE NEIGHBOUR: 'it returns false'. Refute it at one input. -/
def commaRecordsWrong : ChangeSpec := { name := "commaRecords", fn := fun _ => fun
  | [d] => { results := [.lit (.bool false)], args := [d] }
  | _ => none }
def CommaRecordsWrongFalsely : Prop := commaRecordsRow.holds Tryz.pinned (OpenSpec.ofChange commaRecordsWrong)

/-- 'schismalaw16.CommaForms': WHATEVER THE INPUT: true; the input reads as it did. -/
def commaFormsSpec : ChangeSpec := { name := "commaForms", fn := fun _ => fun
  | [d1, d2] => { results := [.lit (.bool true)], args := [d1, d2] }
  | _ => none }
def commaFormsRow : OpenClaim := { program := "ytkamjjjimbbdmaagreatdoor", sum := "ef552b7a9818df6e6f951b0fed13bae8181adf783f5a3948b72268d9bd773580", func := "schisma/schismalaw16.CommaForms", spec := "commaForms", unfollowed := true, recurses := true, named := ["internal/strconv.uint64pow10", "math/bits.deBruijn32tab", "math/bits.deBruijn64tab", "strconv.ErrSyntax", "strconv.ErrRange"], apart := false, laid := [("math/bits.deBruijn32tab", laid_math_bits_deBruijn32tab), ("math/bits.deBruijn64tab", laid_math_bits_deBruijn64tab), ("internal/strconv.uint64pow10", laid_internal_strconv_uint64pow10), ("strconv.ErrRange", laid_strconv_ErrRange), ("strconv.ErrSyntax", laid_strconv_ErrSyntax)] }
def CommaFormsSaid : Prop := commaFormsRow.holds Tryz.pinned (OpenSpec.ofChange commaFormsSpec)

/-- ITS FALSE NEIGHBOUR: 'it returns false'. Refute it at one input. -/
def commaFormsWrong : ChangeSpec := { name := "commaForms", fn := fun _ => fun
  | [d1, d2] => { results := [.lit (.bool false)], args := [d1, d2] }
  | _ => none }
def CommaFormsWrongFalsely : Prop := commaFormsRow.holds Tryz.pinned (OpenSpec.ofChange commaFormsWrong)

/-- 'schismalaw16.CommaChecks': WHATEVER THE INPUT: true; the input reads as it did. -/
def commaChecksSpec : ChangeSpec := { name := "commaChecks", fn := fun _ => fun
  | [d1, d2, d3] => { results := [.lit (.bool true)], args := [d1, d2, d3] }
  | _ => none }
def commaChecksRow : OpenClaim := { program := "ytkamjjjimbbdmaagreatdoor", sum := "ef552b7a9818df6e6f951b0fed13bae8181adf783f5a3948b72268d9bd773580", func := "schisma/schismalaw16.CommaChecks", spec := "commaChecks", unfollowed := true, recurses := true, named := ["internal/strconv.uint64pow10", "math/bits.deBruijn32tab", "math/bits.deBruijn64tab", "strconv.ErrSyntax", "strconv.ErrRange"], apart := false, laid := [("math/bits.deBruijn32tab", laid_math_bits_deBruijn32tab), ("math/bits.deBruijn64tab", laid_math_bits_deBruijn64tab), ("internal/strconv.uint64pow10", laid_internal_strconv_uint64pow10), ("strconv.ErrRange", laid_strconv_ErrRange), ("strconv.ErrSyntax", laid_strconv_ErrSyntax)] }
def CommaChecksSaid : Prop := commaChecksRow.holds Tryz.pinned (OpenSpec.ofChange commaChecksSpec)

/-- ITS FALSE NEIGHBOUR: 'it returns false'. Refute it at one input. -/
def commaChecksWrong : ChangeSpec := { name := "commaChecks", fn := fun _ => fun
  | [d1, d2, d3] => { results := [.lit (.bool false)], args := [d1, d2, d3] }
  | _ => none }
def CommaChecksWrongFalsely : Prop := commaChecksRow.holds Tryz.pinned (OpenSpec.ofChange commaChecksWrong)

/-- 'schismalaw16.CommaLattices': WHATEVER THE INPUT: true; the input reads as it did. -/
def commaLatticesSpec : ChangeSpec := { name := "commaLattices", fn := fun _ => fun
  | [d1, d2, d3] => { results := [.lit (.bool true)], args := [d1, d2, d3] }
  | _ => none }
def commaLatticesRow : OpenClaim := { program := "ytkamjjjimbbdmaagreatdoor", sum := "ef552b7a9818df6e6f951b0fed13bae8181adf783f5a3948b72268d9bd773580", func := "schisma/schismalaw16.CommaLattices", spec := "commaLattices", unfollowed := true, recurses := true, named := ["internal/strconv.uint64pow10", "math/bits.deBruijn32tab", "math/bits.deBruijn64tab", "strconv.ErrSyntax", "strconv.ErrRange"], apart := false, laid := [("math/bits.deBruijn32tab", laid_math_bits_deBruijn32tab), ("math/bits.deBruijn64tab", laid_math_bits_deBruijn64tab), ("internal/strconv.uint64pow10", laid_internal_strconv_uint64pow10), ("strconv.ErrRange", laid_strconv_ErrRange), ("strconv.ErrSyntax", laid_strconv_ErrSyntax)] }
def CommaLatticesSaid : Prop := commaLatticesRow.holds Tryz.pinned (OpenSpec.ofChange commaLatticesSpec)

/-- ITS FALSE NEIGHBOUR: 'it returns false'. Refute it at one input. -/
def commaLatticesWrong : ChangeSpec := { name := "commaLattices", fn := fun _ => fun
  | [d1, d2, d3] => { results := [.lit (.bool false)], args := [d1, d2, d3] }
  | _ => none }
def CommaLatticesWrongFalsely : Prop := commaLatticesRow.holds Tryz.pinned (OpenSpec.ofChange commaLatticesWrong)

/- THE SECOND FORM. 'bulk': how many values and letters a reading holds, each counted each time it is reached (what is shared counts as often as it is met; a slice's spare places count too). A statement '..UptoSaid' is the law's where the arguments, and the package variables that the reading takes, are together of bulk at most 1048576: NARROWER than '..Said'. Prove '..Said' where nothing that the law and all that it calls make is longer than what came in: it says more and counts as full. Else prove '..UptoSaid'. A law counts once. -/
mutual
def uptoBulk {H : Type} : DataW H → Nat
  | .lit (.string bytes) => bytes.length + 1
  | .lit _ => 1
  | .nil => 1
  | .ptr d => uptoBulk d + 1
  | .slice elems spare => uptoBulkAll elems + uptoBulkAll spare + 1
  | .agg parts => uptoBulkAll parts + 1
  | .iface _ d => uptoBulk d + 1
  | .map entries => uptoBulkEntries entries + 1
  | .held _ => 1
def uptoBulkAll {H : Type} : List (DataW H) → Nat
  | [] => 0
  | d :: r => uptoBulk d + uptoBulkAll r
def uptoBulkEntries {H : Type} : List (Lit × DataW H) → Nat
  | [] => 0
  | x :: r => uptoBulkEntry x + uptoBulkEntries r
def uptoBulkEntry {H : Type} : Lit × DataW H → Nat
  | (.string bytes, d) => bytes.length + uptoBulk d + 1
  | (_, d) => uptoBulk d + 1
 end
def uptoSmall : (H : Type) → List (DataW H) → Bool := fun _ ds => decide (uptoBulkAll ds ≤ 1048576)
def OpenSpec.upto (s : _root_.Go.ChangeSpec) : _root_.Go.OpenSpec := { _root_.Go.OpenSpec.ofChange s with cond := some uptoSmall }

/-- 'schismalaw16.CommaLists', WHERE WHAT IT READS IS OF BULK AT MOST 1048576: true; the input reads as it did. -/
def commaListsUptoRow : OpenClaim := { program := "ytkamjjjimbbdmaagreatdoor", sum := "ef552b7a9818df6e6f951b0fed13bae8181adf783f5a3948b72268d9bd773580", func := "schisma/schismalaw16.CommaLists", spec := "commaLists", unfollowed := true, recurses := true, named := ["internal/strconv.uint64pow10", "math/bits.deBruijn32tab", "math/bits.deBruijn64tab", "strconv.ErrSyntax", "strconv.ErrRange"], apart := false, laid := [("math/bits.deBruijn32tab", laid_math_bits_deBruijn32tab), ("math/bits.deBruijn64tab", laid_math_bits_deBruijn64tab), ("internal/strconv.uint64pow10", laid_internal_strconv_uint64pow10), ("strconv.ErrRange", laid_strconv_ErrRange), ("strconv.ErrSyntax", laid_strconv_ErrSyntax)], narrowed := true }
def CommaListsUptoSaid : Prop := commaListsUptoRow.holds Tryz.pinned (OpenSpec.upto commaListsSpec)

/-- 'schismalaw16.CommaSmallest', WHERE WHAT IT READS IS OF BULK AT MOST 1048576: true; the input reads as it did. -/
def commaSmallestUptoRow : OpenClaim := { program := "ytkamjjjimbbdmaagreatdoor", sum := "ef552b7a9818df6e6f951b0fed13bae8181adf783f5a3948b72268d9bd773580", func := "schisma/schismalaw16.CommaSmallest", spec := "commaSmallest", unfollowed := true, recurses := true, named := ["internal/strconv.uint64pow10", "math/bits.deBruijn32tab", "math/bits.deBruijn64tab", "strconv.ErrSyntax", "strconv.ErrRange"], apart := false, laid := [("math/bits.deBruijn32tab", laid_math_bits_deBruijn32tab), ("math/bits.deBruijn64tab", laid_math_bits_deBruijn64tab), ("internal/strconv.uint64pow10", laid_internal_strconv_uint64pow10), ("strconv.ErrRange", laid_strconv_ErrRange), ("strconv.ErrSyntax", laid_strconv_ErrSyntax)], narrowed := true }
def CommaSmallestUptoSaid : Prop := commaSmallestUptoRow.holds Tryz.pinned (OpenSpec.upto commaSmallestSpec)

/-- 'schismalaw16.CommaCombines', WHERE WHAT IT READS IS OF BULK AT MOST 1048576: true; the input reads as it did. -/
def commaCombinesUptoRow : OpenClaim := { program := "ytkamjjjimbbdmaagreatdoor", sum := "ef552b7a9818df6e6f951b0fed13bae8181adf783f5a3948b72268d9bd773580", func := "schisma/schismalaw16.CommaCombines", spec := "commaCombines", unfollowed := true, recurses := true, named := ["internal/strconv.uint64pow10", "math/bits.deBruijn32tab", "math/bits.deBruijn64tab", "strconv.ErrSyntax", "strconv.ErrRange"], apart := false, laid := [("math/bits.deBruijn32tab", laid_math_bits_deBruijn32tab), ("math/bits.deBruijn64tab", laid_math_bits_deBruijn64tab), ("internal/strconv.uint64pow10", laid_internal_strconv_uint64pow10), ("strconv.ErrRange", laid_strconv_ErrRange), ("strconv.ErrSyntax", laid_strconv_ErrSyntax)], narrowed := true }
def CommaCombinesUptoSaid : Prop := commaCombinesUptoRow.holds Tryz.pinned (OpenSpec.upto commaCombinesSpec)

/-- 'schismalaw16.CommaWrong', WHERE WHAT IT READS IS OF BULK AT MOST 1048576: true; the input reads as it did. -/
def commaWrongUptoRow : OpenClaim := { program := "ytkamjjjimbbdmaagreatdoor", sum := "ef552b7a9818df6e6f951b0fed13bae8181adf783f5a3948b72268d9bd773580", func := "schisma/schismalaw16.CommaWrong", spec := "commaWrong", unfollowed := true, recurses := true, named := ["internal/strconv.uint64pow10", "math/bits.deBruijn32tab", "math/bits.deBruijn64tab", "strconv.ErrSyntax", "strconv.ErrRange"], apart := false, laid := [("math/bits.deBruijn32tab", laid_math_bits_deBruijn32tab), ("math/bits.deBruijn64tab", laid_math_bits_deBruijn64tab), ("internal/strconv.uint64pow10", laid_internal_strconv_uint64pow10), ("strconv.ErrRange", laid_strconv_ErrRange), ("strconv.ErrSyntax", laid_strconv_ErrSyntax)], narrowed := true }
def CommaWrongUptoSaid : Prop := commaWrongUptoRow.holds Tryz.pinned (OpenSpec.upto commaWrongSpec)

/-- 'schismalaw16.CommaMore', WHERE WHAT IT READS IS OF BULK AT MOST 1048576: true; the input reads as it did. -/
def commaMoreUptoRow : OpenClaim := { program := "ytkamjjjimbbdmaagreatdoor", sum := "ef552b7a9818df6e6f951b0fed13bae8181adf783f5a3948b72268d9bd773580", func := "schisma/schismalaw16.CommaMore", spec := "commaMore", unfollowed := true, recurses := true, named := ["internal/strconv.uint64pow10", "math/bits.deBruijn32tab", "math/bits.deBruijn64tab", "strconv.ErrSyntax", "strconv.ErrRange"], apart := false, laid := [("math/bits.deBruijn32tab", laid_math_bits_deBruijn32tab), ("math/bits.deBruijn64tab", laid_math_bits_deBruijn64tab), ("internal/strconv.uint64pow10", laid_internal_strconv_uint64pow10), ("strconv.ErrRange", laid_strconv_ErrRange), ("strconv.ErrSyntax", laid_strconv_ErrSyntax)], narrowed := true }
def CommaMoreUptoSaid : Prop := commaMoreUptoRow.holds Tryz.pinned (OpenSpec.upto commaMoreSpec)

/-- 'schismalaw16.CommaRecords', WHERE WHAT IT READS IS OF BULK AT MOST 1048576: true; the input reads as it did. -/
def commaRecordsUptoRow : OpenClaim := { program := "ytkamjjjimbbdmaagreatdoor", sum := "ef552b7a9818df6e6f951b0fed13bae8181adf783f5a3948b72268d9bd773580", func := "schisma/schismalaw16.CommaRecords", spec := "commaRecords", unfollowed := true, recurses := true, named := ["internal/strconv.uint64pow10", "math/bits.deBruijn32tab", "math/bits.deBruijn64tab", "strconv.ErrSyntax", "strconv.ErrRange"], apart := false, laid := [("math/bits.deBruijn32tab", laid_math_bits_deBruijn32tab), ("math/bits.deBruijn64tab", laid_math_bits_deBruijn64tab), ("internal/strconv.uint64pow10", laid_internal_strconv_uint64pow10), ("strconv.ErrRange", laid_strconv_ErrRange), ("strconv.ErrSyntax", laid_strconv_ErrSyntax)], narrowed := true }
def CommaRecordsUptoSaid : Prop := commaRecordsUptoRow.holds Tryz.pinned (OpenSpec.upto commaRecordsSpec)

/-- 'schismalaw16.CommaForms', WHERE WHAT IT READS IS OF BULK AT MOST 1048576: true; the input reads as it did. -/
def commaFormsUptoRow : OpenClaim := { program := "ytkamjjjimbbdmaagreatdoor", sum := "ef552b7a9818df6e6f951b0fed13bae8181adf783f5a3948b72268d9bd773580", func := "schisma/schismalaw16.CommaForms", spec := "commaForms", unfollowed := true, recurses := true, named := ["internal/strconv.uint64pow10", "math/bits.deBruijn32tab", "math/bits.deBruijn64tab", "strconv.ErrSyntax", "strconv.ErrRange"], apart := false, laid := [("math/bits.deBruijn32tab", laid_math_bits_deBruijn32tab), ("math/bits.deBruijn64tab", laid_math_bits_deBruijn64tab), ("internal/strconv.uint64pow10", laid_internal_strconv_uint64pow10), ("strconv.ErrRange", laid_strconv_ErrRange), ("strconv.ErrSyntax", laid_strconv_ErrSyntax)], narrowed := true }
def CommaFormsUptoSaid : Prop := commaFormsUptoRow.holds Tryz.pinned (OpenSpec.upto commaFormsSpec)

/-- 'schismalaw16.CommaChecks', WHERE WHAT IT READS IS OF BULK AT MOST 1048576: true; the input reads as it did. -/
def commaChecksUptoRow : OpenClaim := { program := "ytkamjjjimbbdmaagreatdoor", sum := "ef552b7a9818df6e6f951b0fed13bae8181adf783f5a3948b72268d9bd773580", func := "schisma/schismalaw16.CommaChecks", spec := "commaChecks", unfollowed := true, recurses := true, named := ["internal/strconv.uint64pow10", "math/bits.deBruijn32tab", "math/bits.deBruijn64tab", "strconv.ErrSyntax", "strconv.ErrRange"], apart := false, laid := [("math/bits.deBruijn32tab", laid_math_bits_deBruijn32tab), ("math/bits.deBruijn64tab", laid_math_bits_deBruijn64tab), ("internal/strconv.uint64pow10", laid_internal_strconv_uint64pow10), ("strconv.ErrRange", laid_strconv_ErrRange), ("strconv.ErrSyntax", laid_strconv_ErrSyntax)], narrowed := true }
def CommaChecksUptoSaid : Prop := commaChecksUptoRow.holds Tryz.pinned (OpenSpec.upto commaChecksSpec)

/-- 'schismalaw16.CommaLattices', WHERE WHAT IT READS IS OF BULK AT MOST 1048576: true; the input reads as it did. -/
def commaLatticesUptoRow : OpenClaim := { program := "ytkamjjjimbbdmaagreatdoor", sum := "ef552b7a9818df6e6f951b0fed13bae8181adf783f5a3948b72268d9bd773580", func := "schisma/schismalaw16.CommaLattices", spec := "commaLattices", unfollowed := true, recurses := true, named := ["internal/strconv.uint64pow10", "math/bits.deBruijn32tab", "math/bits.deBruijn64tab", "strconv.ErrSyntax", "strconv.ErrRange"], apart := false, laid := [("math/bits.deBruijn32tab", laid_math_bits_deBruijn32tab), ("math/bits.deBruijn64tab", laid_math_bits_deBruijn64tab), ("internal/strconv.uint64pow10", laid_internal_strconv_uint64pow10), ("strconv.ErrRange", laid_strconv_ErrRange), ("strconv.ErrSyntax", laid_strconv_ErrSyntax)], narrowed := true }
def CommaLatticesUptoSaid : Prop := commaLatticesUptoRow.holds Tryz.pinned (OpenSpec.upto commaLatticesSpec)

end Rows
end Go.Proofs.YtkamjjjimbbdmaaGreatDoor
