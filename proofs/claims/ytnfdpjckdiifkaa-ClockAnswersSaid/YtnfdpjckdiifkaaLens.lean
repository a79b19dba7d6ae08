/-
  The lengths of the months of a year, and the days before a month: what clock.lengths, clock.Days and the reference's before return for the years 2000 to 2099.
-/
import Derived.Test.YtnfdpjckdiifkaaBase
namespace Go.Proofs.Ytnfdpjckdiifkaa
open Go.RowKit Cal

theorem bcell {W w1 : World} (hb : Below W.heap.size W w1) : (∀ b o, b < W.heap.size → w1.cell? ⟨b, o, none⟩ = W.cell? ⟨b, o, none⟩) ∧ (∀ b o, b < W.heap.size → w1.frozen? ⟨b, o, none⟩ = W.frozen? ⟨b, o, none⟩) :=
  ⟨fun b o h => hb.cell (p := ⟨b, o, none⟩) h, fun b o h => hb.frozen (p := ⟨b, o, none⟩) h⟩

/-- the value of clock.lengths -/
def lenV (y : Int) : Value := .agg #[.int .i64 31, .int .i64 (dim y 2), .int .i64 31, .int .i64 30, .int .i64 31, .int .i64 30, .int .i64 31, .int .i64 31, .int .i64 30, .int .i64 31, .int .i64 30, .int .i64 31]

set_option maxHeartbeats 400000 in
theorem lengths_any (y : Int) (w : World) (h0 : 2000 ≤ y) (h1 : y ≤ 2100) : Calls Try.prog 32 #[.int .i64 y] w fun e w' => e = .returned (lenV y) ∧ Below w.heap.size w w' := by
  by_cases c : y % 4 = 0
  · have c1 : (y % 4 == 0) = true := by simpa using c
    have e2 : dim y 2 = 29 := by simp [dim, c]
    have E2 := Lib.hid e2
    clear e2 c
    go_enter Try.func32, Try.ntmps32
    go_wp2
    refine bodyPost_ret (v := .agg #[.int .i64 31, .int .i64 29, .int .i64 31, .int .i64 30, .int .i64 31, .int .i64 30, .int .i64 31, .int .i64 31, .int .i64 30, .int .i64 31, .int .i64 30, .int .i64 31]) (by simp [results, Try.results32, go_sem]) rfl ⟨by unfold lenV; rw [E2.out], ?_⟩
    repeat (first | exact Below.refl _ _ | refine Below.alloc ?_ (by simp) _ | refine Below.setCell ?_ (by simp) _)
  · have c1 : (y % 4 == 0) = false := by simpa using c
    have e2 : dim y 2 = 28 := by simp [dim, c]
    have E2 := Lib.hid e2
    clear e2 c
    go_enter Try.func32, Try.ntmps32
    go_wp2
    refine bodyPost_ret (v := .agg #[.int .i64 31, .int .i64 28, .int .i64 31, .int .i64 30, .int .i64 31, .int .i64 30, .int .i64 31, .int .i64 31, .int .i64 30, .int .i64 31, .int .i64 30, .int .i64 31]) (by simp [results, Try.results32, go_sem]) rfl ⟨by unfold lenV; rw [E2.out], ?_⟩
    repeat (first | exact Below.refl _ _ | refine Below.alloc ?_ (by simp) _ | refine Below.setCell ?_ (by simp) _)

theorem lengths_out (y : Int) (w : World) (h0 : 2000 ≤ y) (h1 : y ≤ 2100) : Calls Try.prog 32 #[.int .i64 y] w fun e w' =>
    e = .returned (.agg #[.int .i64 31, .int .i64 (dim y 2), .int .i64 31, .int .i64 30, .int .i64 31, .int .i64 30, .int .i64 31, .int .i64 31, .int .i64 30, .int .i64 31, .int .i64 30, .int .i64 31]) ∧ Below w.heap.size w w' := lengths_any y w h0 h1

/-- reading an element of the lengths -/
theorem len_index (y m : Int) (h1 : 1 ≤ m) (h2 : m ≤ 12) (w : World) : (Instr.index 56 (lenV y) (.int .i64 (m - 1))).run Try.prog w = .ok (.int .i64 (dim y m)) w := by
  unfold lenV
  rcases cases12 h1 h2 with rfl | rfl | rfl | rfl | rfl | rfl | rfl | rfl | rfl | rfl | rfl | rfl <;> kernel_rfl

set_option maxHeartbeats 400000 in
theorem days_any (y m : Int) (w : World) : Calls Try.prog 16 #[.int .i64 y, .int .i64 m] w fun e w' => e = .returned (.int .i64 (days y m)) ∧ Below w.heap.size w w' := by
  by_cases c1 : y < 2000
  · go_enter Try.func16, Try.ntmps16
    go_wp2
    go_ret
    exact ⟨ret_int (by unfold days; rw [if_neg (by omega)]), Below.refl _ _⟩
  by_cases c2 : 2099 < y
  · go_enter Try.func16, Try.ntmps16
    go_wp2
    go_ret
    exact ⟨ret_int (by unfold days; rw [if_neg (by omega)]), Below.refl _ _⟩
  by_cases c3 : m < 1
  · go_enter Try.func16, Try.ntmps16
    go_wp2
    go_ret
    exact ⟨ret_int (by unfold days; rw [if_neg (by omega)]), Below.refl _ _⟩
  by_cases c4 : 12 < m
  · go_enter Try.func16, Try.ntmps16
    go_wp2
    go_ret
    exact ⟨ret_int (by unfold days; rw [if_neg (by omega)]), Below.refl _ _⟩
  have e : days y m = dim y m := days_eq (by omega) (by omega) (by omega) (by omega)
  have E := Lib.hid e
  clear e
  have hi := fun wx : World => len_index y m (by omega) (by omega) wx
  go_enter Try.func16, Try.ntmps16
  go_wp2_with (go_at_call 32; refine (lengths_any _ _ (by omega) (by omega)).mono ?_; rintro e w' ⟨rfl, hb⟩)
  go_ret
  exact ⟨ret_int E.out.symm, hb⟩
end Go.Proofs.Ytnfdpjckdiifkaa
