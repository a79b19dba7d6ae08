/-
  The walk of ClockDays: it returns true for any two ints.
-/
import Derived.Test.YtnfdpjckdiifkaaAwake
import Derived.Test.YtnfdpjckdiifkaaSrc
namespace Go.Proofs.Ytnfdpjckdiifkaa
open Go.RowKit Txt Cal

theorem cum13 (y : Int) : cum y 13 = if y % 4 = 0 then 366 else 365 := by
  simp [cum]; split <;> rfl

set_option maxHeartbeats 4000000 in
theorem clockDays_walk (a b : Int) (w : World) : Calls Try.prog 8 #[.int .i64 a, .int .i64 b] w fun e w' => e = .returned (.bool true) ∧ Below w.heap.size w w' := by
  go_enter Try.func8, Try.ntmps8
  go_wp2_with fail
  refine (mod_any _ _ _ (by omega) (by omega)).mono ?_
  rintro e w' ⟨k, ⟨k0, k1⟩, rfl, rfl⟩
  go_wp2_with fail
  refine (mod_any _ _ _ (by omega) (by omega)).mono ?_
  rintro e w' ⟨j, ⟨j0, j1⟩, rfl, rfl⟩
  have hy : 2000 ≤ 2000 + k ∧ 2000 + k ≤ 2099 := by omega
  have hm : 1 ≤ 1 + j ∧ 1 + j ≤ 12 := by omega
  have HE := Lib.hid (days_eq hy.1 hy.2 hm.1 hm.2)
  have hd := dim_bd (2000 + k) (1 + j)
  have hdb : 28 ≤ days (2000 + k) (1 + j) ∧ days (2000 + k) (1 + j) ≤ 31 := by have := HE.out; omega
  have v1 := vld_mk (y := 2000 + k) (m := 1 + j) (d := 1) (h := 0) (i := 0) hy.1 hy.2 hm.1 hm.2 (by omega) (by omega) (by omega) (by omega) (by omega) (by omega)
  have v2 := vld_mk (y := 2000 + k) (m := 1 + j) (d := days (2000 + k) (1 + j)) (h := 0) (i := 0) hy.1 hy.2 hm.1 hm.2 (by omega) (by have := HE.out; omega) (by omega) (by omega) (by omega) (by omega)
  have v3 : vld (2000 + k) (1 + j) (days (2000 + k) (1 + j) + 1) 0 0 = false := by
    rcases q : vld (2000 + k) (1 + j) (days (2000 + k) (1 + j) + 1) 0 0 with _ | _
    · rfl
    · exfalso
      have := vld_iff.1 q
      omega
  have e31 : ∀ y, dim y 12 = 31 := fun y => by simp [dim]
  have v4 := vld_mk (y := 2000 + k) (m := 1) (d := 1) (h := 0) (i := 0) hy.1 hy.2 (by omega) (by omega) (by omega) (by have := dim_bd (2000 + k) 1; omega) (by omega) (by omega) (by omega) (by omega)
  have v5 := vld_mk (y := 2000 + k) (m := 12) (d := 31) (h := 0) (i := 0) hy.1 hy.2 (by omega) (by omega) (by omega) (by rw [e31]; omega) (by omega) (by omega) (by omega) (by omega)
  have b1 := mnt_bd v1
  have b2 := mnt_bd v2
  have b4 := mnt_bd v4
  have b5 := mnt_bd v5
  have hc := cum13 (2000 + k)
  have hc12 := cum_succ (2000 + k) 12 (by omega) (by omega)
  rw [e31, show (12 : Int) + 1 = 13 from rfl] at hc12
  have t1 : (mnt (2000 + k) (1 + j) (days (2000 + k) (1 + j)) 0 0 - mnt (2000 + k) (1 + j) 1 0 0 == 1440 * (days (2000 + k) (1 + j) - 1)) = true := by
    simp only [beq_iff_eq]; unfold mnt; omega
  have t2 : (mnt (2000 + k) 12 31 0 0 - mnt (2000 + k) 1 1 0 0 == 1440 * (cum (2000 + k) 13 - 1)) = true := by
    simp only [beq_iff_eq]; unfold mnt; rw [cum_1]; omega
  have hcb := cum_bd (2000 + k) 13
  have T1 := Lib.hid t1
  have T2 := Lib.hid t2
  have V1 := Lib.hid v1
  have V2 := Lib.hid v2
  have V3 := Lib.hid v3
  have V4 := Lib.hid v4
  have V5 := Lib.hid v5
  have HC := Lib.hid hc
  clear t1 t2 v1 v2 v3 v4 v5 hc hc12 e31 hd
  go_wp2_with fail
  go_loopw [7, 8] (fun s q wr => ∃ x : Int, 1 ≤ x ∧ x ≤ 13 ∧ q = .int .i64 x ∧ s = .int .i64 (cum (2000 + k) x) ∧ Below w.heap.size w wr) (fun _ q _ => (13 - intOf q).toNat)
  case atStart => exact ⟨1, by omega, by omega, rfl, by rw [cum_1], Below.refl _ _⟩
  case round =>
    obtain ⟨x, x0, x1, rfl, rfl, hb⟩ := hrel
    have hcx := cum_bd (2000 + k) x
    by_cases hlt : x ≤ 12
    · have E := Lib.hid (cum_succ (2000 + k) x x0 hlt)
      have hdx := days_bd (2000 + k) x
      have E2 := Lib.hid (days_eq hy.1 hy.2 x0 hlt)
      go_wp2_with ((go_at_call 16; refine (days_any _ _ _).mono ?_; rintro e w1 ⟨rfl, hb1⟩))
      go_roundw
      case rel => exact ⟨x + 1, by omega, by omega, by go_num, by rw [E.out, E2.out], hb.trans (hb1.mono hb.size)⟩
      case measure => simp [intOf]; omega
    · obtain rfl : x = 13 := by omega
      by_cases c4 : (2000 + k) % 4 = 0
      all_goals
        have hc2 := HC.out
        first | rw [if_pos c4] at hc2 | rw [if_neg c4] at hc2
        first
          | (have d1 : ((2000 + k) % 4 == 0) = true := by simpa using c4)
          | (have d1 : ((2000 + k) % 4 == 0) = false := by simpa using c4)
        first
          | (have d2 : ((2000 + k) % 4 != 0) = true := by simpa using c4)
          | (have d2 : ((2000 + k) % 4 != 0) = false := by simpa using c4)
        first
          | (have d3 : (cum (2000 + k) 13 != 366) = false := by rw [hc2]; rfl)
          | (have d3 : (cum (2000 + k) 13 != 365) = false := by rw [hc2]; rfl)
        clear c4 hc2
        go_wp2_with fail
        refine (minutes_ok _ _ _ _ _ _ V1.out).mono ?_
        rintro e w1 ⟨rfl, hb1⟩
        go_wp2_with fail
        refine (days_any _ _ _).mono ?_
        rintro e w2 ⟨rfl, hb2⟩
        go_wp2_with fail
        refine (minutes_ok _ _ _ _ _ _ V2.out).mono ?_
        rintro e w3 ⟨rfl, hb3⟩
        go_wp2_with fail
        refine (days_any _ _ _).mono ?_
        rintro e w4 ⟨rfl, hb4⟩
        go_wp2_with fail
        refine (minutes_no _ _ _ _ _ _ V3.out).mono ?_
        rintro e w5 ⟨rfl, hb5⟩
        go_wp2_with fail
        refine (minutes_ok _ _ _ _ _ _ V4.out).mono ?_
        rintro e w6 ⟨rfl, hb6⟩
        go_wp2_with fail
        refine (minutes_ok _ _ _ _ _ _ V5.out).mono ?_
        rintro e w7 ⟨rfl, hb7⟩
        have t1 := T1.out
        have t2 := T2.out
        go_wp2_with fail
        refine (days_any _ _ _).mono ?_
        rintro e w8 ⟨rfl, hb8⟩
        go_wp2_with fail
        refine (awake_any _).mono ?_
        rintro e w9 ⟨rfl, hb9⟩
        go_wp2_with fail
        go_ret
        have s1 := Nat.le_trans hb.size hb1.size
        have s2 := Nat.le_trans s1 hb2.size
        have s3 := Nat.le_trans s2 hb3.size
        have s4 := Nat.le_trans s3 hb4.size
        have s5 := Nat.le_trans s4 hb5.size
        have s6 := Nat.le_trans s5 hb6.size
        have s7 := Nat.le_trans s6 hb7.size
        have s8 := Nat.le_trans s7 hb8.size
        exact ⟨rfl, ((((((((hb.trans (hb1.mono hb.size)).trans (hb2.mono s1)).trans (hb3.mono s2)).trans (hb4.mono s3)).trans (hb5.mono s4)).trans (hb6.mono s5)).trans (hb7.mono s6)).trans (hb8.mono s7)).trans (hb9.mono s8)⟩
end Go.Proofs.Ytnfdpjckdiifkaa
