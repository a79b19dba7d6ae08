/-
  NARROWER THAN 'FOR EVERY INPUT', by the rows' own cells (each row's printed sentence says how): ElementTexts: laid · ElementLetters: laid · ElementSorted: laid · ElementAnswers: laid · ElementParts: laid.
  DERIVED. THE GIVEN ROWS OF THIS SEAT. 5 by the template 'for every input the law returns true; each argument reads behind the call as it read before'; 0 by the template 'total and deterministic' (their statements: YtpjnlbippcgnoaaDoorTotals.lean).
  GIVEN WITH THE SEED: the statements are not yours to turn. If you find one false, say at which input.
  Laid BY PROGRAM, IN A SANDBOX (cutbox-rows.mjs): the forced cells as the released guide's own fill.sh prints them over the translation 57a5f05f7ab43f7b… (all of the seat's roots in one cut). By AI agents, Wed Nov 11 2026. No macro, syntax, notation, axiom, sorry.
-/
import Derived.Test.YtpjnlbippcgnoaaDoorChecked
import GoSem.Claim
import GoSem.ClaimJoined
import GoSem.ClaimMapViews
import Derived.JoinedTies
import Derived.KernelRfl
namespace Go.Proofs.YtpjnlbippcgnoaaDoor
/- THE CELL 'sum', in the pinned program and in every row, IS THE sha256 OF THE DUMP (.gsa) THAT YtpjnlbippcgnoaaDoorProg.lean LOADS. Nothing in Lean hashes anything: it is a label: what it is worth is what the hold of that sum in a sandbox is worth. -/
noncomputable def Tryd.pinned : Pinned := { name := "ytpjnlbippcgnoaadoor", sum := "57a5f05f7ab43f7b9023ce1a8bdfef47dc9b33d1f2849521acc5418a4321f2ed", checked := Tryd.checked }
namespace Rows
def none {H : Type} : Left H := { results := [], args := [] }

/- WHAT THE LISTED PACKAGE-LEVEL VARIABLES READ AS WHEN THE CALL BEGINS. Each datum BY PROGRAM (the guide's laid-datum.mjs) off the statement by which the dump's own 'gosem.cut.vars' lays the variable. In a bare row this is a premise. The card (YtpjnlbippcgnoaaDoorCards.lean) ties it to the program's text. -/
def laid_synoptic_element_bounds {H : Type} : DataW H := .agg [.agg [.lit (.int .i64 8000), .lit (.int .i64 11000)], .agg [.lit (.int .i64 1800), .lit (.int .i64 3300)], .agg [.lit (.int .i64 1800), .lit (.int .i64 3300)], .agg [.lit (.int .i64 (-1000)), .lit (.int .i64 1000)], .agg [.lit (.int .i64 (-1000)), .lit (.int .i64 1000)], .agg [.lit (.int .i64 900), .lit (.int .i64 1700)], .agg [.lit (.int .i64 2000), .lit (.int .i64 3200)], .agg [.lit (.int .i64 2400), .lit (.int .i64 3400)], .agg [.lit (.int .i64 2000), .lit (.int .i64 3000)], .agg [.lit (.int .i64 4400), .lit (.int .i64 6200)], .agg [.lit (.int .i64 2000), .lit (.int .i64 2900)]]

/-- 'synopticlaw04.ElementTexts': WHATEVER THE INPUT: true; the input reads as it did. -/
def elementTextsSpec : ChangeSpec := { name := "elementTexts", fn := fun _ => fun
  | [d1, d2, d3, d4, d5] => { results := [.lit (.bool true)], args := [d1, d2, d3, d4, d5] }
  | _ => none }
def elementTextsRow : OpenClaim := { program := "ytpjnlbippcgnoaadoor", sum := "57a5f05f7ab43f7b9023ce1a8bdfef47dc9b33d1f2849521acc5418a4321f2ed", func := "synoptic/synopticlaw04.ElementTexts", spec := "elementTexts", inPlace := ["internal/abi.NoEscape", "internal/bytealg.MakeNoZero", "internal/bytealg.IndexByteString", "internal/bytealg.IndexString"], named := ["synoptic/element.bounds", "internal/bytealg.MaxLen"], apart := false, laid := [("synoptic/element.bounds", laid_synoptic_element_bounds)] }
def ElementTextsSaid : Prop := elementTextsRow.holds Tryd.pinned (OpenSpec.ofChange elementTextsSpec)

/-- ITS FALSE NEIGHBOUR: 'it returns false'. Refute it at one input. -/
def elementTextsWrong : ChangeSpec := { name := "elementTexts", fn := fun _ => fun
  | [d1, d2, d3, d4, d5] => { results := [.lit (.bool false)], args := [d1, d2, d3, d4, d5] }
  | _ => none }
def ElementTextsWrongFalsely : Prop := elementTextsRow.holds Tryd.pinned (OpenSpec.ofChange elementTextsWrong)

/-- 'synopticlaw04.ElementLetters': WHATEVER THE INPUT: true; the input reads as it did. -/
def elementLettersSpec : ChangeSpec := { name := "elementLetters", fn := fun _ => fun
  | [d] => { results := [.lit (.bool true)], args := [d] }
  | _ => none }
def elementLettersRow : OpenClaim := { program := "ytpjnlbippcgnoaadoor", sum := "57a5f05f7ab43f7b9023ce1a8bdfef47dc9b33d1f2849521acc5418a4321f2ed", func := "synoptic/synopticlaw04.ElementLetters", spec := "elementLetters", inPlace := ["internal/bytealg.IndexByteString", "internal/bytealg.IndexString", "internal/abi.NoEscape", "internal/bytealg.MakeNoZero"], named := ["synoptic/element.bounds", "internal/bytealg.MaxLen"], apart := false, laid := [("synoptic/element.bounds", laid_synoptic_element_bounds)] }
def ElementLettersSaid : Prop := elementLettersRow.holds Tryd.pinned (OpenSpec.ofChange elementLettersSpec)

/-- ITS FALSE NEIGHBOUR: 'it returns false'. Refute it at one input. -/
def elementLettersWrong : ChangeSpec := { name := "elementLetters", fn := fun _ => fun
  | [d] => { results := [.lit (.bool false)], args := [d] }
  | _ => none }
def ElementLettersWrongFalsely : Prop := elementLettersRow.holds Tryd.pinned (OpenSpec.ofChange elementLettersWrong)

/-- 'synopticlaw04.ElementSorted': WHATEVER THE INPUT: true; the input reads as it did. -/
def elementSortedSpec : ChangeSpec := { name := "elementSorted", fn := fun _ => fun
  | [d] => { results := [.lit (.bool true)], args := [d] }
  | _ => none }
def elementSortedRow : OpenClaim := { program := "ytpjnlbippcgnoaadoor", sum := "57a5f05f7ab43f7b9023ce1a8bdfef47dc9b33d1f2849521acc5418a4321f2ed", func := "synoptic/synopticlaw04.ElementSorted", spec := "elementSorted", inPlace := ["internal/abi.NoEscape", "internal/bytealg.MakeNoZero", "internal/bytealg.IndexByteString", "internal/bytealg.IndexString"], unfollowed := true, recurses := true, named := ["synoptic/element.bounds", "internal/bytealg.MaxLen"], apart := false, laid := [("synoptic/element.bounds", laid_synoptic_element_bounds)] }
def ElementSortedSaid : Prop := elementSortedRow.holds Tryd.pinned (OpenSpec.ofChange elementSortedSpec)

/-- ITS FALSE NEIGHBOUR: 'it returns false'. Refute it at one input. -/
def elementSortedWrong : ChangeSpec := { name := "elementSorted", fn := fun _ => fun
  | [d] => { results := [.lit (.bool false)], args := [d] }
  | _ => none }
def ElementSortedWrongFalsely : Prop := elementSortedRow.holds Tryd.pinned (OpenSpec.ofChange elementSortedWrong)

/-- 'synopticlaw04.ElementAnswers': WHATEVER THE INPUT: true; the input reads as it did. -/
def elementAnswersSpec : ChangeSpec := { name := "elementAnswers", fn := fun _ => fun
  | [d1, d2, d3, d4, d5] => { results := [.lit (.bool true)], args := [d1, d2, d3, d4, d5] }
  | _ => none }
def elementAnswersRow : OpenClaim := { program := "ytpjnlbippcgnoaadoor", sum := "57a5f05f7ab43f7b9023ce1a8bdfef47dc9b33d1f2849521acc5418a4321f2ed", func := "synoptic/synopticlaw04.ElementAnswers", spec := "elementAnswers", inPlace := ["internal/abi.NoEscape", "internal/bytealg.MakeNoZero", "internal/bytealg.IndexByteString", "internal/bytealg.IndexString"], unfollowed := true, recurses := true, named := ["synoptic/element.bounds", "internal/bytealg.MaxLen"], apart := false, laid := [("synoptic/element.bounds", laid_synoptic_element_bounds)] }
def ElementAnswersSaid : Prop := elementAnswersRow.holds Tryd.pinned (OpenSpec.ofChange elementAnswersSpec)

/-- ITS FALSE NEIGHBOUR: 'it returns false'. Refute it at one input. -/
def elementAnswersWrong : ChangeSpec := { name := "elementAnswers", fn := fun _ => fun
  | [d1, d2, d3, d4, d5] => { results := [.lit (.bool false)], args := [d1, d2, d3, d4, d5] }
  | _ => none }
def ElementAnswersWrongFalsely : Prop := elementAnswersRow.holds Tryd.pinned (OpenSpec.ofChange elementAnswersWrong)

/-- 'synopticlaw04.ElementParts': WHATEVER THE INPUT: true; the input reads as it did. -/
def elementPartsSpec : ChangeSpec := { name := "elementParts", fn := fun _ => fun
  | [d1, d2] => { results := [.lit (.bool true)], args := [d1, d2] }
  | _ => none }
def elementPartsRow : OpenClaim := { program := "ytpjnlbippcgnoaadoor", sum := "57a5f05f7ab43f7b9023ce1a8bdfef47dc9b33d1f2849521acc5418a4321f2ed", func := "synoptic/synopticlaw04.ElementParts", spec := "elementParts", inPlace := ["internal/abi.NoEscape", "internal/bytealg.MakeNoZero", "internal/bytealg.IndexByteString", "internal/bytealg.IndexString"], unfollowed := true, recurses := true, named := ["synoptic/element.bounds", "internal/bytealg.MaxLen"], apart := false, laid := [("synoptic/element.bounds", laid_synoptic_element_bounds)] }
def ElementPartsSaid : Prop := elementPartsRow.holds Tryd.pinned (OpenSpec.ofChange elementPartsSpec)

/-- ITS FALSE NEIGHBOUR: 'it returns false'. Refute it at one input. -/
def elementPartsWrong : ChangeSpec := { name := "elementParts", fn := fun _ => fun
  | [d1, d2] => { results := [.lit (.bool false)], args := [d1, d2] }
  | _ => none }
def ElementPartsWrongFalsely : Prop := elementPartsRow.holds Tryd.pinned (OpenSpec.ofChange elementPartsWrong)

/- THE SECOND FORM. 'bulk': how many values and letters a reading holds, each counted each time it is reached (what is shared counts as often as it is met; a slice's spare places count too). A statement '..UptoSaid' is the law's where the arguments, and the package variables that the reading takes, are together of bulk at most 1048576: NARROWER than '..Said'. Prove '..Said' where nothing that the law and all that it calls make is longer than what came in: it says more and counts as full. Else prove '..UptoSaid'. A law counts once. -/
mutual
def uptoBulk {H : Type} : DataW H → Nat
  | .lit (.string bytes) => bytes.length + 1
  | .lit _ => 1
  | .nil => 1
  | .ptr d => uptoBulk d + 1
  | .slice elems spare => uptoBulkAll elems + uptoBulkAll spare + 1
  | .agg parts => uptoBulkAll parts + 1
  | .iface _ d => uptoBulk d + 1
  | .map entries => uptoBulkEntries entries + 1
  | .held _ => 1
def uptoBulkAll {H : Type} : List (DataW H) → Nat
  | [] => 0
  | d :: r => uptoBulk d + uptoBulkAll r
def uptoBulkEntries {H : Type} : List (Lit × DataW H) → Nat
  | [] => 0
  | x :: r => uptoBulkEntry x + uptoBulkEntries r
def uptoBulkEntry {H : Type} : Lit × DataW H → Nat
  | (.string bytes, d) => bytes.length + uptoBulk d + 1
  | (_, d) => uptoBulk d + 1
 end
def uptoSmall : (H : Type) → List (DataW H) → Bool := fun _ ds => decide (uptoBulkAll ds ≤ 1048576)
def OpenSpec.upto (s : _root_.Go.ChangeSpec) : _root_.Go.OpenSpec := { _root_.Go.OpenSpec.ofChange s with cond := some uptoSmall }

/-- 'synopticlaw04.ElementTexts', WHERE WHAT IT READS IS OF BULK AT MOST 1048576: true; the input reads as it did. -/
def elementTextsUptoRow : OpenClaim := { program := "ytpjnlbippcgnoaadoor", sum := "57a5f05f7ab43f7b9023ce1a8bdfef47dc9b33d1f2849521acc5418a4321f2ed", func := "synoptic/synopticlaw04.ElementTexts", spec := "elementTexts", inPlace := ["internal/abi.NoEscape", "internal/bytealg.MakeNoZero", "internal/bytealg.IndexByteString", "internal/bytealg.IndexString"], named := ["synoptic/element.bounds", "internal/bytealg.MaxLen"], apart := false, laid := [("synoptic/element.bounds", laid_synoptic_element_bounds)], narrowed := true }
def ElementTextsUptoSaid : Prop := elementTextsUptoRow.holds Tryd.pinned (OpenSpec.upto elementTextsSpec)

/-- 'synopticlaw04.ElementLetters', WHERE WHAT IT READS IS OF BULK AT MOST 1048576: true; the input reads as it did. -/
def elementLettersUptoRow : OpenClaim := { program := "ytpjnlbippcgnoaadoor", sum := "57a5f05f7ab43f7b9023ce1a8bdfef47dc9b33d1f2849521acc5418a4321f2ed", func := "synoptic/synopticlaw04.ElementLetters", spec := "elementLetters", inPlace := ["internal/bytealg.IndexByteString", "internal/bytealg.IndexString", "internal/abi.NoEscape", "internal/bytealg.MakeNoZero"], named := ["synoptic/element.bounds", "internal/bytealg.MaxLen"], apart := false, laid := [("synoptic/element.bounds", laid_synoptic_element_bounds)], narrowed := true }
def ElementLettersUptoSaid : Prop := elementLettersUptoRow.holds Tryd.pinned (OpenSpec.upto elementLettersSpec)

/-- 'synopticlaw04.ElementSorted', WHERE WHAT IT READS IS OF BULK AT MOST 1048576: true; the input reads as it did. -/
def elementSortedUptoRow : OpenClaim := { program := "ytpjnlbippcgnoaadoor", sum := "57a5f05f7ab43f7b9023ce1a8bdfef47dc9b33d1f2849521acc5418a4321f2ed", func := "synoptic/synopticlaw04.ElementSorted", spec := "elementSorted", inPlace := ["internal/abi.NoEscape", "internal/bytealg.MakeNoZero", "internal/bytealg.IndexByteString", "internal/bytealg.IndexString"], unfollowed := true, recurses := true, named := ["synoptic/element.bounds", "internal/bytealg.MaxLen"], apart := false, laid := [("synoptic/element.bounds", laid_synoptic_element_bounds)], narrowed := true }
def ElementSortedUptoSaid : Prop := elementSortedUptoRow.holds Tryd.pinned (OpenSpec.upto elementSortedSpec)

/-- 'synopticlaw04.ElementAnswers', WHERE WHAT IT READS IS OF BULK AT MOST 1048576: true; the input reads as it did. -/
def elementAnswersUptoRow : OpenClaim := { program := "ytpjnlbippcgnoaadoor", sum := "57a5f05f7ab43f7b9023ce1a8bdfef47dc9b33d1f2849521acc5418a4321f2ed", func := "synoptic/synopticlaw04.ElementAnswers", spec := "elementAnswers", inPlace := ["internal/abi.NoEscape", "internal/bytealg.MakeNoZero", "internal/bytealg.IndexByteString", "internal/bytealg.IndexString"], unfollowed := true, recurses := true, named := ["synoptic/element.bounds", "internal/bytealg.MaxLen"], apart := false, laid := [("synoptic/element.bounds", laid_synoptic_element_bounds)], narrowed := true }
def ElementAnswersUptoSaid : Prop := elementAnswersUptoRow.holds Tryd.pinned (OpenSpec.upto elementAnswersSpec)

/-- 'synopticlaw04.ElementParts', WHERE WHAT IT READS IS OF BULK AT MOST 1048576: true; the input reads as it did. -/
def elementPartsUptoRow : OpenClaim := { program := "ytpjnlbippcgnoaadoor", sum := "57a5f05f7ab43f7b9023ce1a8bdfef47dc9b33d1f2849521acc5418a4321f2ed", func := "synoptic/synopticlaw04.ElementParts", spec := "elementParts", inPlace := ["internal/abi.NoEscape", "internal/bytealg.MakeNoZero", "internal/bytealg.IndexByteString", "internal/bytealg.IndexString"], unfollowed := true, recurses := true, named := ["synoptic/element.bounds", "internal/bytealg.MaxLen"], apart := false, laid := [("synoptic/element.bounds", laid_synoptic_element_bounds)], narrowed := true }
def ElementPartsUptoSaid : Prop := elementPartsUptoRow.holds Tryd.pinned (OpenSpec.upto elementPartsSpec)

end Rows
end Go.Proofs.YtpjnlbippcgnoaaDoor
