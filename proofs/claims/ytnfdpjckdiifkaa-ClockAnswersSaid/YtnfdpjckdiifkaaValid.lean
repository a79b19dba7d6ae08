/-
  Both Valid functions return vld of the five fields, whatever these are.
-/
import Derived.Test.YtnfdpjckdiifkaaBefore
namespace Go.Proofs.Ytnfdpjckdiifkaa
open Go.RowKit Cal

/-- a date as a value -/
abbrev civ (y m d h i : Int) : Value := .agg #[.int .i64 y, .int .i64 m, .int .i64 d, .int .i64 h, .int .i64 i]

theorem vld_time {y m d h i : Int} (h1 : 1 ≤ d) (h2 : d ≤ days y m) : vld y m d h i = timeB h i := by
  unfold vld timeB
  exact decide_eq_decide.2 ⟨fun q => q.2.2, fun q => ⟨h1, h2, q⟩⟩

set_option maxHeartbeats 2000000 in
theorem rvalid_any (y m d h i : Int) (w : World) : Calls Try.prog 15 #[civ y m d h i] w fun e w' => e = .returned (.bool (vld y m d h i)) ∧ Below w.heap.size w w' := by
  by_cases c1 : 1 ≤ d
  case neg =>
    have d1 : decide (1 ≤ d) = false := by simpa using c1
    go_enter Try.func15, Try.ntmps15
    go_wp2
    go_quiet ((go_at_call 17; exact Calls.quiet_of_same ((rdays_any _ _ _).mono fun e w' hh => ⟨hh.1, hh.2.symm⟩)))
    go_wp2
    go_ret
    exact ⟨ret_bool (by simp [vld]; omega), below_drewN ((Below.refl _ _).alloc (Nat.le_refl _) _) _⟩
  by_cases c2 : d ≤ days y m
  case neg =>
    have d2 : decide (d ≤ days y m) = false := by simpa using c2
    go_enter Try.func15, Try.ntmps15
    go_wp2
    go_quiet ((go_at_call 17; exact Calls.quiet_of_same ((rdays_any _ _ _).mono fun e w' hh => ⟨hh.1, hh.2.symm⟩)))
    go_wp2
    go_ret
    exact ⟨ret_bool (by simp [vld]; omega), below_drewN ((Below.refl _ _).alloc (Nat.le_refl _) _) _⟩
  by_cases c3 : 0 ≤ h
  case neg =>
    have d3 : decide (0 ≤ h) = false := by simpa using c3
    go_enter Try.func15, Try.ntmps15
    go_wp2
    go_quiet ((go_at_call 17; exact Calls.quiet_of_same ((rdays_any _ _ _).mono fun e w' hh => ⟨hh.1, hh.2.symm⟩)))
    go_wp2
    go_ret
    exact ⟨ret_bool (by simp [vld]; omega), below_drewN ((Below.refl _ _).alloc (Nat.le_refl _) _) _⟩
  by_cases c4 : h ≤ 23
  case neg =>
    have d4 : decide (h ≤ 23) = false := by simpa using c4
    go_enter Try.func15, Try.ntmps15
    go_wp2
    go_quiet ((go_at_call 17; exact Calls.quiet_of_same ((rdays_any _ _ _).mono fun e w' hh => ⟨hh.1, hh.2.symm⟩)))
    go_wp2
    go_ret
    exact ⟨ret_bool (by simp [vld]; omega), below_drewN ((Below.refl _ _).alloc (Nat.le_refl _) _) _⟩
  by_cases c5 : 0 ≤ i
  case neg =>
    have d5 : decide (0 ≤ i) = false := by simpa using c5
    go_enter Try.func15, Try.ntmps15
    go_wp2
    go_quiet ((go_at_call 17; exact Calls.quiet_of_same ((rdays_any _ _ _).mono fun e w' hh => ⟨hh.1, hh.2.symm⟩)))
    go_wp2
    go_ret
    exact ⟨ret_bool (by simp [vld]; omega), below_drewN ((Below.refl _ _).alloc (Nat.le_refl _) _) _⟩
  by_cases c6 : i ≤ 59
  case neg =>
    have d6 : decide (i ≤ 59) = false := by simpa using c6
    go_enter Try.func15, Try.ntmps15
    go_wp2
    go_quiet ((go_at_call 17; exact Calls.quiet_of_same ((rdays_any _ _ _).mono fun e w' hh => ⟨hh.1, hh.2.symm⟩)))
    go_wp2
    go_ret
    exact ⟨ret_bool (by simp [vld]; omega), below_drewN ((Below.refl _ _).alloc (Nat.le_refl _) _) _⟩
  go_enter Try.func15, Try.ntmps15
  go_wp2
  go_quiet ((go_at_call 17; exact Calls.quiet_of_same ((rdays_any _ _ _).mono fun e w' hh => ⟨hh.1, hh.2.symm⟩)))
  go_wp2
  go_ret
  exact ⟨ret_bool (by simp [vld]; omega), below_drewN ((Below.refl _ _).alloc (Nat.le_refl _) _) _⟩

set_option maxHeartbeats 2000000 in
theorem valid_any (y m d h i : Int) (w : World) : Calls Try.prog 14 #[civ y m d h i] w fun e w' => e = .returned (.bool (vld y m d h i)) ∧ Below w.heap.size w w' := by
  by_cases c1 : 1 ≤ d
  case neg =>
    have d1 : decide (1 ≤ d) = false := by simpa using c1
    go_enter Try.func14, Try.ntmps14
    go_wp2
    refine wp_region_near (by kernel_rfl) (by kernel_rfl) ?_
    repeat (go_big_quiet_step (first | (go_at_call 16; exact near_of (days_any _ _ _)) | (go_at_call 35; exact near_same (time_any _ _ _))))
    refine wpQuiet_nil ?_
    rintro ⟨w1, hb⟩
    go_wp2
    go_ret
    exact ⟨ret_bool (by simp [vld]; omega), ((Below.refl _ _).alloc (Nat.le_refl _) _).trans (hb.mono (by simp))⟩
  by_cases c2 : d ≤ days y m
  case neg =>
    have d2 : decide (d ≤ days y m) = false := by simpa using c2
    go_enter Try.func14, Try.ntmps14
    go_wp2
    refine wp_region_near (by kernel_rfl) (by kernel_rfl) ?_
    repeat (go_big_quiet_step (first | (go_at_call 16; exact near_of (days_any _ _ _)) | (go_at_call 35; exact near_same (time_any _ _ _))))
    refine wpQuiet_nil ?_
    rintro ⟨w1, hb⟩
    go_wp2
    go_ret
    exact ⟨ret_bool (by simp [vld]; omega), ((Below.refl _ _).alloc (Nat.le_refl _) _).trans (hb.mono (by simp))⟩
  go_enter Try.func14, Try.ntmps14
  go_wp2
  refine wp_region_near (by kernel_rfl) (by kernel_rfl) ?_
  repeat (go_big_quiet_step (first | (go_at_call 16; exact near_of (days_any _ _ _)) | (go_at_call 35; exact near_same (time_any _ _ _))))
  refine wpQuiet_nil ?_
  rintro ⟨w1, hb⟩
  go_wp2
  go_ret
  exact ⟨ret_bool (vld_time c1 c2).symm, ((Below.refl _ _).alloc (Nat.le_refl _) _).trans (hb.mono (by simp))⟩
end Go.Proofs.Ytnfdpjckdiifkaa
