/-
  Two arrays of five ints compared: whether all five are the same.
-/
import Derived.Test.YtnfdpjckdiifkaaNear
import Derived.ChangeKeysEq
import Derived.Laws.StructEq
namespace Go.Proofs.Ytnfdpjckdiifkaa
open Go.RowKit

/-- are all five the same? -/
def same5 (a b c d e a' b' c' d' e' : Int) : Bool := a == a' && (b == b' && (c == c' && (d == d' && e == e')))

@[go_sem] theorem run_equal53 (w : World) (a b c d e a' b' c' d' e' : Int) :
    (Op.equalIn 10000 53 (.agg #[.int .i64 a, .int .i64 b, .int .i64 c, .int .i64 d, .int .i64 e]) (.agg #[.int .i64 a', .int .i64 b', .int .i64 c', .int .i64 d', .int .i64 e'])).run Try.prog w =
      .ok (same5 a b c d e a' b' c' d' e') w := by
  have hu : Try.prog.underlying 53 = some (.array 5 3) := by kernel_rfl
  obtain ⟨i, hi⟩ : ∃ i, Try.prog.info? 3 = some i := ⟨_, by rfl⟩
  have hc : Try.prog.cellsOf 3 = 1 := by kernel_rfl
  rw [run_equalIn_array w 9999 _ _ hu hi, hc]
  simp [Op.eqItems, List.range, List.range.loop, go_sem, same5]
  by_cases c1 : a = a'
  · by_cases c2 : b = b'
    · by_cases c3 : c = c'
      · by_cases c4 : d = d'
        · by_cases c5 : e = e' <;> simp [*]
        · simp [*]
      · simp [*]
    · simp [*]
  · simp [*]
@[go_sem] theorem run_eql53 (w : World) (a b c d e a' b' c' d' e' : Int) :
    (binOp .eql 53 (.agg #[.int .i64 a, .int .i64 b, .int .i64 c, .int .i64 d, .int .i64 e]) (.agg #[.int .i64 a', .int .i64 b', .int .i64 c', .int .i64 d', .int .i64 e'])).run Try.prog w =
      .ok (.bool (same5 a b c d e a' b' c' d' e')) w := by
  rw [run_eql_struct, run_equal53]; rfl
@[go_sem] theorem run_guard53 (op : BinOp) (x y : Operand) (xs ys : Array Value) (w : World) : (eqGuard op 53 x y (.agg xs) (.agg ys)).run Try.prog w = .ok () w :=
  run_eqGuard_agg w op 53 x y xs ys (by kernel_rfl)
theorem same5_iff {a b c d e a' b' c' d' e' : Int} : same5 a b c d e a' b' c' d' e' = true ↔ (a = a' ∧ b = b' ∧ c = c' ∧ d = d' ∧ e = e') := by simp [same5]
end Go.Proofs.Ytnfdpjckdiifkaa
