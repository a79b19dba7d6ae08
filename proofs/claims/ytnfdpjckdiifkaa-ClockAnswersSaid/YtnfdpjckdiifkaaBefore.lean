/-
  The reference's before: the minutes ahead of a month, for the years 2000 to 2100 and the months 1 to 12 (the month 1 for 2100).
-/
import Derived.Test.YtnfdpjckdiifkaaLens
namespace Go.Proofs.Ytnfdpjckdiifkaa
open Go.RowKit Cal

theorem dby_leap {k : Int} (h : k % 4 = 0) : dby (k + 1) = dby k + 366 := by unfold dby; omega
theorem dby_plain {k : Int} (h : ¬ k % 4 = 0) : dby (k + 1) = dby k + 365 := by unfold dby; omega

set_option maxHeartbeats 1000000 in
theorem before_any (y m : Int) (w : World) (h0 : 2000 ≤ y) (h1 : y ≤ 2100) (h2 : 1 ≤ m) (h3 : m ≤ 12) (h4 : y = 2100 → m = 1) :
    Calls Try.prog 34 #[.int .i64 y, .int .i64 m] w fun e w' => e = .returned (.int .i64 ((dby y + cum y m) * 1440)) ∧ w = w' := by
  have hb0 := dby_bd h0 h1
  have H4 := Lib.hid h4
  clear h4
  go_enter Try.func34, Try.ntmps34
  go_wp2
  go_loop [5, 6] (fun n i => ∃ k : Int, 2000 ≤ k ∧ k ≤ y ∧ i = .int .i64 k ∧ n = .int .i64 (dby k)) (fun _ i => (y - intOf i).toNat)
  case atStart => exact ⟨2000, by omega, by omega, rfl, by rw [dby_2000]⟩
  case round =>
    obtain ⟨k, hk0, hk1, rfl, rfl⟩ := hrel
    have hb := dby_bd hk0 (by omega)
    by_cases hlt : k < y
    · by_cases c : k % 4 = 0
      · have c1 : (k % 4 == 0) = true := by simpa using c
        have E := Lib.hid (dby_leap c)
        clear c
        go_wp2
        go_round
        case rel => exact ⟨k + 1, by omega, by omega, by go_num, by rw [E.out]; go_num⟩
        case measure => simp [intOf]; omega
      · have c1 : (k % 4 == 0) = false := by simpa using c
        have E := Lib.hid (dby_plain c)
        clear c
        go_wp2
        go_round
        case rel => exact ⟨k + 1, by omega, by omega, by go_num, by rw [E.out]⟩
        case measure => simp [intOf]; omega
    · obtain rfl : k = y := by omega
      go_wp2
      go_loop [5, 7] (fun n i => ∃ j : Int, 1 ≤ j ∧ j ≤ m ∧ i = .int .i64 j ∧ n = .int .i64 (dby k + cum k j)) (fun _ i => (m - intOf i).toNat)
      case atStart => exact ⟨1, by omega, by omega, rfl, by rw [cum_1]; go_num⟩
      case round =>
        obtain ⟨j, hj0, hj1, rfl, rfl⟩ := hrel
        have hc := cum_bd k j
        have hd := dim_bd k j
        by_cases hlt : j < m
        · have e : days k j = dim k j := days_eq h0 (by have := H4.out; omega) hj0 (by omega)
          have E := Lib.hid (cum_succ k j hj0 (by omega))
          have E2 := Lib.hid e
          have hbd := days_bd k j
          clear e
          go_wp2_with (go_at_call 17; refine (rdays_any _ _ _).mono ?_; rintro e w' ⟨rfl, rfl⟩)
          go_round
          case rel => exact ⟨j + 1, by omega, by omega, by go_num, by rw [E.out, E2.out]; go_num⟩
          case measure => simp [intOf]; omega
        · obtain rfl : j = m := by omega
          go_wp2
          go_ret
          exact ⟨rfl, rfl⟩
end Go.Proofs.Ytnfdpjckdiifkaa
