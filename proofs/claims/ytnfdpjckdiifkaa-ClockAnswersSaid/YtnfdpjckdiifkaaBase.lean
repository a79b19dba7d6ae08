/-
  The leaves of the clock: what each small function returns, whatever the arguments are (or within the bounds that stand ahead).
-/
import Derived.Test.YtnfdpjckdiifkaaResm
import Derived.Test.YtnfdpjckdiifkaaNear
namespace Go.Proofs.Ytnfdpjckdiifkaa
open Go.RowKit Cal

/-- an hour and a minute of the hour -/
def timeB (h i : Int) : Bool := decide (0 ≤ h ∧ h ≤ 23 ∧ 0 ≤ i ∧ i ≤ 59)
/-- a minute of the range -/
def inB (n : Int) : Bool := decide (0 ≤ n ∧ n ≤ 52595999)

theorem ret_int {k : IntKind} {a b : Int} (h : a = b) : Ending.returned (.int k a) = .returned (.int k b) := by rw [h]
theorem ret_tup {k l : IntKind} {a b c d : Int} (h : a = b) (g : c = d) : Ending.returned (.tuple #[.int k a, .int l c]) = .returned (.tuple #[.int k b, .int l d]) := by rw [h, g]
theorem ret_bool {a b : Bool} (h : a = b) : Ending.returned (.bool a) = .returned (.bool b) := by rw [h]

set_option maxHeartbeats 400000 in
theorem time_any (h i : Int) (w : World) : Calls Try.prog 35 #[.int .i64 h, .int .i64 i] w fun e w' => e = .returned (.bool (timeB h i)) ∧ w = w' := by
  by_cases c1 : 0 ≤ h
  · by_cases c2 : h < 24
    · by_cases c3 : 0 ≤ i
      · by_cases c4 : i < 60
        · go_enter Try.func35, Try.ntmps35
          go_wp2
          go_ret
          exact ⟨ret_bool (by simp [timeB]; omega), rfl⟩
        · go_enter Try.func35, Try.ntmps35
          go_wp2
          go_ret
          exact ⟨ret_bool (by simp [timeB]; omega), rfl⟩
      · go_enter Try.func35, Try.ntmps35
        go_wp2
        go_ret
        exact ⟨ret_bool (by simp [timeB]; omega), rfl⟩
    · go_enter Try.func35, Try.ntmps35
      go_wp2
      go_ret
      exact ⟨ret_bool (by simp [timeB]; omega), rfl⟩
  · go_enter Try.func35, Try.ntmps35
    go_wp2
    go_ret
    exact ⟨ret_bool (by simp [timeB]; omega), rfl⟩

set_option maxHeartbeats 400000 in
theorem in_any (n : Int) (w : World) : Calls Try.prog 36 #[.int .i64 n] w fun e w' => e = .returned (.bool (inB n)) ∧ w = w' := by
  by_cases c1 : 0 ≤ n
  · by_cases c2 : n ≤ 52595999
    · go_enter Try.func36, Try.ntmps36
      go_wp2
      go_ret
      exact ⟨ret_bool (by simp [inB]; omega), rfl⟩
    · go_enter Try.func36, Try.ntmps36
      go_wp2
      go_ret
      exact ⟨ret_bool (by simp [inB]; omega), rfl⟩
  · go_enter Try.func36, Try.ntmps36
    go_wp2
    go_ret
    exact ⟨ret_bool (by simp [inB]; omega), rfl⟩

set_option maxHeartbeats 400000 in
theorem In_any (n : Int) (w : World) : Calls Try.prog 37 #[.int .i64 n] w fun e w' => e = .returned (.bool (inB n)) ∧ w = w' := by
  by_cases c1 : 0 ≤ n
  · by_cases c2 : n ≤ 52595999
    · go_enter Try.func37, Try.ntmps37
      go_wp2
      go_ret
      exact ⟨ret_bool (by simp [inB]; omega), rfl⟩
    · go_enter Try.func37, Try.ntmps37
      go_wp2
      go_ret
      exact ⟨ret_bool (by simp [inB]; omega), rfl⟩
  · go_enter Try.func37, Try.ntmps37
    go_wp2
    go_ret
    exact ⟨ret_bool (by simp [inB]; omega), rfl⟩

set_option maxHeartbeats 400000 in
theorem first_any (y : Int) (w : World) (h0 : 2000 ≤ y) (h1 : y ≤ 2100) : Calls Try.prog 33 #[.int .i64 y] w fun e w' => e = .returned (.int .i64 (dby y * 1440)) ∧ w = w' := by
  go_enter Try.func33, Try.ntmps33
  go_wp2
  go_ret
  exact ⟨ret_int (by unfold dby; omega), rfl⟩

set_option maxHeartbeats 400000 in
theorem rdays_any (y m : Int) (w : World) : Calls Try.prog 17 #[.int .i64 y, .int .i64 m] w fun e w' => e = .returned (.int .i64 (days y m)) ∧ w = w' := by
  by_cases c1 : y < 2000
  · go_enter Try.func17, Try.ntmps17
    go_wp2
    go_ret
    exact ⟨ret_int (by unfold days; rw [if_neg (by omega)]), rfl⟩
  by_cases c2 : 2099 < y
  · go_enter Try.func17, Try.ntmps17
    go_wp2
    go_ret
    exact ⟨ret_int (by unfold days; rw [if_neg (by omega)]), rfl⟩
  by_cases c3 : m < 1
  · go_enter Try.func17, Try.ntmps17
    go_wp2
    go_ret
    exact ⟨ret_int (by unfold days; rw [if_neg (by omega)]), rfl⟩
  by_cases c4 : 12 < m
  · go_enter Try.func17, Try.ntmps17
    go_wp2
    go_ret
    exact ⟨ret_int (by unfold days; rw [if_neg (by omega)]), rfl⟩
  have e : days y m = dim y m := days_eq (by omega) (by omega) (by omega) (by omega)
  rw [e]
  rcases cases12 (m := m) (by omega) (by omega) with rfl | rfl | rfl | rfl | rfl | rfl | rfl | rfl | rfl | rfl | rfl | rfl
  all_goals
    clear e
    go_enter Try.func17, Try.ntmps17
    go_wp2
    all_goals
      go_ret
      exact ⟨ret_int (by first | (simp [dim] <;> omega) | (simp_all [dim]; done) | (simp_all [dim]; omega)), rfl⟩

set_option maxHeartbeats 400000 in
theorem distance_any (a b : Int) (w : World) (h0 : -99999999999 ≤ a) (h1 : a ≤ 99999999999) (h2 : -99999999999 ≤ b) (h3 : b ≤ 99999999999) :
    Calls Try.prog 40 #[.int .i64 a, .int .i64 b] w fun e w' => e = .returned (.int .i64 (dist a b)) ∧ w = w' := by
  go_enter Try.func40, Try.ntmps40
  go_wp2
  all_goals
    go_ret
    exact ⟨ret_int (by unfold dist; omega), rfl⟩
set_option maxHeartbeats 400000 in
theorem rdistance_any (a b : Int) (w : World) (h0 : -99999999999 ≤ a) (h1 : a ≤ 99999999999) (h2 : -99999999999 ≤ b) (h3 : b ≤ 99999999999) :
    Calls Try.prog 41 #[.int .i64 a, .int .i64 b] w fun e w' => e = .returned (.int .i64 (dist a b)) ∧ w = w' := by
  go_enter Try.func41, Try.ntmps41
  go_wp2
  all_goals
    go_ret
    exact ⟨ret_int (by unfold dist; omega), rfl⟩
end Go.Proofs.Ytnfdpjckdiifkaa
