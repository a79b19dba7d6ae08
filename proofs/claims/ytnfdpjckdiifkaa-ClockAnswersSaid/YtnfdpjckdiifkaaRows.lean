/-
  No cell of these rows narrows 'for every input' (looked for: loops, veiled, ifaces, maps, wideKeys, modest, calm, conditions, laid).
  DERIVED. THE GIVEN ROWS OF THIS SEAT. 7 by the template 'for every input the law returns true; each argument reads behind the call as it read before'; 0 by the template 'total and deterministic' (their statements: YtnfdpjckdiifkaaTotals.lean).
  GIVEN WITH THE SEED: the statements are not yours to turn. If you find one false, say at which input.
  Laid BY PROGRAM, IN A SANDBOX (cutbox-rows.mjs): the forced cells as the released guide's own fill.sh prints them over the translation 8de6da1e2899871b… (all of the seat's roots in one cut). By AI agents, Wed Nov 11 2026. No macro, syntax, notation, axiom, sorry.
-/
import Derived.Test.YtnfdpjckdiifkaaChecked
import GoSem.Claim
import GoSem.ClaimJoined
import GoSem.ClaimMapViews
import Derived.JoinedTies
import Derived.KernelRfl
namespace Go.Proofs.Ytnfdpjckdiifkaa
/- THE CELL 'sum', in the pinned program and in every row, IS THE sha256 OF THE DUMP (.gsa) THAT YtnfdpjckdiifkaaProg.lean LOADS. Nothing in Lean hashes anything: it is a label: what it is worth is what the hold of that sum in a sandbox is worth. -/
noncomputable def Try.pinned : Pinned := { name := "ytnfdpjckdiifkaa", sum := "8de6da1e2899871ba3fc9c87d4df699f72bab2a07060171355f442385f348b7d", checked := Try.checked }
namespace Rows
def none {H : Type} : Left H := { results := [], args := [] }

/-- 'synopticlaw01.ClockAnswers': WHATEVER THE INPUT: true; the input reads as it did. -/
def clockAnswersSpec : ChangeSpec := { name := "clockAnswers", fn := fun _ => fun
  | [d1, d2, d3] => { results := [.lit (.bool true)], args := [d1, d2, d3] }
  | _ => none }
def clockAnswersRow : OpenClaim := { program := "ytnfdpjckdiifkaa", sum := "8de6da1e2899871ba3fc9c87d4df699f72bab2a07060171355f442385f348b7d", func := "synoptic/synopticlaw01.ClockAnswers", spec := "clockAnswers", apart := false }
def ClockAnswersSaid : Prop := clockAnswersRow.holds Try.pinned (OpenSpec.ofChange clockAnswersSpec)

/-- ITS FALSE NEIGHBOUR: 'it returns false'. Refute it at one input. -/
def clockAnswersWrong : ChangeSpec := { name := "clockAnswers", fn := fun _ => fun
  | [d1, d2, d3] => { results := [.lit (.bool false)], args := [d1, d2, d3] }
  | _ => none }
def ClockAnswersWrongFalsely : Prop := clockAnswersRow.holds Try.pinned (OpenSpec.ofChange clockAnswersWrong)

/-- 'synopticlaw01.ClockBack': WHATEVER THE INPUT: true; the input reads as it did. -/
def clockBackSpec : ChangeSpec := { name := "clockBack", fn := fun _ => fun
  | [d] => { results := [.lit (.bool true)], args := [d] }
  | _ => none }
def clockBackRow : OpenClaim := { program := "ytnfdpjckdiifkaa", sum := "8de6da1e2899871ba3fc9c87d4df699f72bab2a07060171355f442385f348b7d", func := "synoptic/synopticlaw01.ClockBack", spec := "clockBack", apart := false }
def ClockBackSaid : Prop := clockBackRow.holds Try.pinned (OpenSpec.ofChange clockBackSpec)

/-- ITS FALSE NEIGHBOUR: 'it returns false'. Refute it at one input. -/
def clockBackWrong : ChangeSpec := { name := "clockBack", fn := fun _ => fun
  | [d] => { results := [.lit (.bool false)], args := [d] }
  | _ => none }
def ClockBackWrongFalsely : Prop := clockBackRow.holds Try.pinned (OpenSpec.ofChange clockBackWrong)

/-- 'synopticlaw01.ClockResolves': WHATEVER THE INPUT: true; the input reads as it did. -/
def clockResolvesSpec : ChangeSpec := { name := "clockResolves", fn := fun _ => fun
  | [d1, d2, d3, d4, d5] => { results := [.lit (.bool true)], args := [d1, d2, d3, d4, d5] }
  | _ => none }
def clockResolvesRow : OpenClaim := { program := "ytnfdpjckdiifkaa", sum := "8de6da1e2899871ba3fc9c87d4df699f72bab2a07060171355f442385f348b7d", func := "synoptic/synopticlaw01.ClockResolves", spec := "clockResolves", apart := false }
def ClockResolvesSaid : Prop := clockResolvesRow.holds Try.pinned (OpenSpec.ofChange clockResolvesSpec)

/-- ITS FALSE NEIGHBOUR: 'it returns false'. Refute it at one input. -/
def clockResolvesWrong : ChangeSpec := { name := "clockResolves", fn := fun _ => fun
  | [d1, d2, d3, d4, d5] => { results := [.lit (.bool false)], args := [d1, d2, d3, d4, d5] }
  | _ => none }
def ClockResolvesWrongFalsely : Prop := clockResolvesRow.holds Try.pinned (OpenSpec.ofChange clockResolvesWrong)

/-- 'synopticlaw01.ClockNear': WHATEVER THE INPUT: true; the input reads as it did. -/
def clockNearSpec : ChangeSpec := { name := "clockNear", fn := fun _ => fun
  | [d] => { results := [.lit (.bool true)], args := [d] }
  | _ => none }
def clockNearRow : OpenClaim := { program := "ytnfdpjckdiifkaa", sum := "8de6da1e2899871ba3fc9c87d4df699f72bab2a07060171355f442385f348b7d", func := "synoptic/synopticlaw01.ClockNear", spec := "clockNear", apart := false }
def ClockNearSaid : Prop := clockNearRow.holds Try.pinned (OpenSpec.ofChange clockNearSpec)

/-- ITS FALSE NEIGHBOUR: 'it returns false'. Refute it at one input. -/
def clockNearWrong : ChangeSpec := { name := "clockNear", fn := fun _ => fun
  | [d] => { results := [.lit (.bool false)], args := [d] }
  | _ => none }
def ClockNearWrongFalsely : Prop := clockNearRow.holds Try.pinned (OpenSpec.ofChange clockNearWrong)

/-- 'synopticlaw01.ClockTexts': WHATEVER THE INPUT: true; the input reads as it did. -/
def clockTextsSpec : ChangeSpec := { name := "clockTexts", fn := fun _ => fun
  | [d1, d2, d3, d4, d5] => { results := [.lit (.bool true)], args := [d1, d2, d3, d4, d5] }
  | _ => none }
def clockTextsRow : OpenClaim := { program := "ytnfdpjckdiifkaa", sum := "8de6da1e2899871ba3fc9c87d4df699f72bab2a07060171355f442385f348b7d", func := "synoptic/synopticlaw01.ClockTexts", spec := "clockTexts", apart := false }
def ClockTextsSaid : Prop := clockTextsRow.holds Try.pinned (OpenSpec.ofChange clockTextsSpec)

/-- ITS FALSE NEIGHBOUR: 'it returns false'. Refute it at one input. -/
def clockTextsWrong : ChangeSpec := { name := "clockTexts", fn := fun _ => fun
  | [d1, d2, d3, d4, d5] => { results := [.lit (.bool false)], args := [d1, d2, d3, d4, d5] }
  | _ => none }
def ClockTextsWrongFalsely : Prop := clockTextsRow.holds Try.pinned (OpenSpec.ofChange clockTextsWrong)

/-- 'synopticlaw01.ClockDays': WHATEVER THE INPUT: true; the input reads as it did. -/
def clockDaysSpec : ChangeSpec := { name := "clockDays", fn := fun _ => fun
  | [d1, d2] => { results := [.lit (.bool true)], args := [d1, d2] }
  | _ => none }
def clockDaysRow : OpenClaim := { program := "ytnfdpjckdiifkaa", sum := "8de6da1e2899871ba3fc9c87d4df699f72bab2a07060171355f442385f348b7d", func := "synoptic/synopticlaw01.ClockDays", spec := "clockDays", apart := false }
def ClockDaysSaid : Prop := clockDaysRow.holds Try.pinned (OpenSpec.ofChange clockDaysSpec)

/-- ITS FALSE NEIGHBOUR: 'it returns false'. Refute it at one input. -/
def clockDaysWrong : ChangeSpec := { name := "clockDays", fn := fun _ => fun
  | [d1, d2] => { results := [.lit (.bool false)], args := [d1, d2] }
  | _ => none }
def ClockDaysWrongFalsely : Prop := clockDaysRow.holds Try.pinned (OpenSpec.ofChange clockDaysWrong)

/-- 'synopticlaw01.ClockOrder': WHATEVER THE INPUT: true; the input reads as it did. -/
def clockOrderSpec : ChangeSpec := { name := "clockOrder", fn := fun _ => fun
  | [d] => { results := [.lit (.bool true)], args := [d] }
  | _ => none }
def clockOrderRow : OpenClaim := { program := "ytnfdpjckdiifkaa", sum := "8de6da1e2899871ba3fc9c87d4df699f72bab2a07060171355f442385f348b7d", func := "synoptic/synopticlaw01.ClockOrder", spec := "clockOrder", apart := false }
def ClockOrderSaid : Prop := clockOrderRow.holds Try.pinned (OpenSpec.ofChange clockOrderSpec)

/-- ITS FALSE NEIGHBOUR: 'it returns false'. Refute it at one input. -/
def clockOrderWrong : ChangeSpec := { name := "clockOrder", fn := fun _ => fun
  | [d] => { results := [.lit (.bool false)], args := [d] }
  | _ => none }
def ClockOrderWrongFalsely : Prop := clockOrderRow.holds Try.pinned (OpenSpec.ofChange clockOrderWrong)

/- THE SECOND FORM. 'bulk': how many values and letters a reading holds, each counted each time it is reached (what is shared counts as often as it is met; a slice's spare places count too). A statement '..UptoSaid' is the law's where the arguments, and the package variables that the reading takes, are together of bulk at most 1048576: NARROWER than '..Said'. Prove '..Said' where nothing that the law and all that it calls make is longer than what came in: it says more and counts as full. Else prove '..UptoSaid'. A law counts once. -/
mutual
def uptoBulk {H : Type} : DataW H → Nat
  | .lit (.string bytes) => bytes.length + 1
  | .lit _ => 1
  | .nil => 1
  | .ptr d => uptoBulk d + 1
  | .slice elems spare => uptoBulkAll elems + uptoBulkAll spare + 1
  | .agg parts => uptoBulkAll parts + 1
  | .iface _ d => uptoBulk d + 1
  | .map entries => uptoBulkEntries entries + 1
  | .held _ => 1
def uptoBulkAll {H : Type} : List (DataW H) → Nat
  | [] => 0
  | d :: r => uptoBulk d + uptoBulkAll r
def uptoBulkEntries {H : Type} : List (Lit × DataW H) → Nat
  | [] => 0
  | x :: r => uptoBulkEntry x + uptoBulkEntries r
def uptoBulkEntry {H : Type} : Lit × DataW H → Nat
  | (.string bytes, d) => bytes.length + uptoBulk d + 1
  | (_, d) => uptoBulk d + 1
 end
def uptoSmall : (H : Type) → List (DataW H) → Bool := fun _ ds => decide (uptoBulkAll ds ≤ 1048576)
def OpenSpec.upto (s : _root_.Go.ChangeSpec) : _root_.Go.OpenSpec := { _root_.Go.OpenSpec.ofChange s with cond := some uptoSmall }

/-- 'synopticlaw01.ClockAnswers', WHERE WHAT IT READS IS OF BULK AT MOST 1048576: true; the input reads as it did. -/
def clockAnswersUptoRow : OpenClaim := { program := "ytnfdpjckdiifkaa", sum := "8de6da1e2899871ba3fc9c87d4df699f72bab2a07060171355f442385f348b7d", func := "synoptic/synopticlaw01.ClockAnswers", spec := "clockAnswers", apart := false, narrowed := true }
def ClockAnswersUptoSaid : Prop := clockAnswersUptoRow.holds Try.pinned (OpenSpec.upto clockAnswersSpec)

/-- 'synopticlaw01.ClockBack', WHERE WHAT IT READS IS OF BULK AT MOST 1048576: true; the input reads as it did. -/
def clockBackUptoRow : OpenClaim := { program := "ytnfdpjckdiifkaa", sum := "8de6da1e2899871ba3fc9c87d4df699f72bab2a07060171355f442385f348b7d", func := "synoptic/synopticlaw01.ClockBack", spec := "clockBack", apart := false, narrowed := true }
def ClockBackUptoSaid : Prop := clockBackUptoRow.holds Try.pinned (OpenSpec.upto clockBackSpec)

/-- 'synopticlaw01.ClockResolves', WHERE WHAT IT READS IS OF BULK AT MOST 1048576: true; the input reads as it did. -/
def clockResolvesUptoRow : OpenClaim := { program := "ytnfdpjckdiifkaa", sum := "8de6da1e2899871ba3fc9c87d4df699f72bab2a07060171355f442385f348b7d", func := "synoptic/synopticlaw01.ClockResolves", spec := "clockResolves", apart := false, narrowed := true }
def ClockResolvesUptoSaid : Prop := clockResolvesUptoRow.holds Try.pinned (OpenSpec.upto clockResolvesSpec)

/-- 'synopticlaw01.ClockNear', WHERE WHAT IT READS IS OF BULK AT MOST 1048576: true; the input reads as it did. -/
def clockNearUptoRow : OpenClaim := { program := "ytnfdpjckdiifkaa", sum := "8de6da1e2899871ba3fc9c87d4df699f72bab2a07060171355f442385f348b7d", func := "synoptic/synopticlaw01.ClockNear", spec := "clockNear", apart := false, narrowed := true }
def ClockNearUptoSaid : Prop := clockNearUptoRow.holds Try.pinned (OpenSpec.upto clockNearSpec)

/-- 'synopticlaw01.ClockTexts', WHERE WHAT IT READS IS OF BULK AT MOST 1048576: true; the input reads as it did. -/
def clockTextsUptoRow : OpenClaim := { program := "ytnfdpjckdiifkaa", sum := "8de6da1e2899871ba3fc9c87d4df699f72bab2a07060171355f442385f348b7d", func := "synoptic/synopticlaw01.ClockTexts", spec := "clockTexts", apart := false, narrowed := true }
def ClockTextsUptoSaid : Prop := clockTextsUptoRow.holds Try.pinned (OpenSpec.upto clockTextsSpec)

/-- 'synopticlaw01.ClockDays', WHERE WHAT IT READS IS OF BULK AT MOST 1048576: true; the input reads as it did. -/
def clockDaysUptoRow : OpenClaim := { program := "ytnfdpjckdiifkaa", sum := "8de6da1e2899871ba3fc9c87d4df699f72bab2a07060171355f442385f348b7d", func := "synoptic/synopticlaw01.ClockDays", spec := "clockDays", apart := false, narrowed := true }
def ClockDaysUptoSaid : Prop := clockDaysUptoRow.holds Try.pinned (OpenSpec.upto clockDaysSpec)

/-- 'synopticlaw01.ClockOrder', WHERE WHAT IT READS IS OF BULK AT MOST 1048576: true; the input reads as it did. -/
def clockOrderUptoRow : OpenClaim := { program := "ytnfdpjckdiifkaa", sum := "8de6da1e2899871ba3fc9c87d4df699f72bab2a07060171355f442385f348b7d", func := "synoptic/synopticlaw01.ClockOrder", spec := "clockOrder", apart := false, narrowed := true }
def ClockOrderUptoSaid : Prop := clockOrderUptoRow.holds Try.pinned (OpenSpec.upto clockOrderSpec)

end Rows
end Go.Proofs.Ytnfdpjckdiifkaa
