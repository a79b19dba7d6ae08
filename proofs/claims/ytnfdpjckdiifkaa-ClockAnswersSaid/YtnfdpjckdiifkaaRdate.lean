/-
  The reference's Date returns, for a minute of the range, a valid date whose minute it is; and the error ErrRange (1) for another number.
-/
import Derived.Test.YtnfdpjckdiifkaaDate
namespace Go.Proofs.Ytnfdpjckdiifkaa
open Go.RowKit Cal

set_option maxHeartbeats 2000000 in
theorem rdate_no (n : Int) (w : World) (hn : inB n = false) : Calls Try.prog 20 #[.int .i64 n] w fun e w' => e = .returned (.tuple #[civ 0 0 0 0 0, .int .i64 1]) ∧ Below w.heap.size w w' := by
  go_enter Try.func20, Try.ntmps20
  go_wp2_with (go_at_call 37; refine (In_any _ _).mono ?_; rintro e w' ⟨rfl, rfl⟩)
  exact bodyPost_ret (v := .tuple #[civ 0 0 0 0 0, .int .i64 1]) (by simp [results, Try.results20, go_sem]) rfl ⟨rfl, (Below.refl _ _).alloc (Nat.le_refl _) _⟩

theorem rdate_end {n y m d h i : Int} {w W : World} {cs : Array Value} (a : Act) (h2 : a.tmps.getD 2 undef = .pointer (some ⟨w.heap.size, 0, none⟩)) (h3 : a.tmps.getD 3 undef = .int .i64 0) (hd : a.defers = [])
    (hB : Blk W w.heap.size cs) (c0 : cs[0]? = some (.int .i64 y)) (c1 : cs[1]? = some (.int .i64 m)) (c2 : cs[2]? = some (.int .i64 d)) (c3 : cs[3]? = some (.int .i64 h)) (c4 : cs[4]? = some (.int .i64 i))
    (hv : vld y m d h i = true) (hm : mnt y m d h i = n) (hb : Below w.heap.size w W) : bodyPost Try.prog Try.f20 (DateIs n w) .ret a W := by
  have r0 := (hB.cell 0).trans c0
  have r1 := (hB.cell 1).trans c1
  have r2 := (hB.cell 2).trans c2
  have r3 := (hB.cell 3).trans c3
  have r4 := (hB.cell 4).trans c4
  refine bodyPost_ret (v := .tuple #[civ y m d h i, .int .i64 0]) ?_ hd ⟨_, _, _, _, _, rfl, hv, hm, hb⟩
  rw [results_cell_tmp Try.results20, h2, h3]
  simp [go_sem, r0, r1, r2, r3, r4]

set_option maxHeartbeats 2000000 in
theorem rdate_ok (n : Int) (w : World) (hn : inB n = true) : Calls Try.prog 20 #[.int .i64 n] w (DateIs n w) := by
  have hn' : 0 ≤ n ∧ n ≤ 52595999 := by simpa [inB] using hn
  obtain ⟨n0, n1⟩ := hn'
  go_enter Try.func20, Try.ntmps20
  go_wp2_with (go_at_call 37; refine (In_any _ _).mono ?_; rintro e w' ⟨rfl, rfl⟩)
  go_loopw [] (fun wr => ∃ y : Int, 2000 ≤ y ∧ y ≤ 2099 ∧ dby y * 1440 ≤ n ∧ wr = (w.alloc (.cells #[.int .i64 0, .int .i64 0, .int .i64 0, .int .i64 0, .int .i64 0] 23)).alloc (.cells #[.int .i64 y, .int .i64 1, .int .i64 0, .int .i64 0, .int .i64 0] 23)) (fun wr => (2099 - intOf ((wr.cell? ⟨w.heap.size + 1, 0, none⟩).getD undef)).toNat)
  case atStart => exact ⟨2000, by omega, by omega, by rw [dby_2000]; omega, rfl⟩
  case round =>
    obtain ⟨y, hy0, hy1, hy2, rfl⟩ := hrel
    have hd0 := dby_bd (a := y + 1) (by omega) (by omega)
    have hc1 := cum_1 (y + 1)
    have HC1 := Lib.hid hc1
    clear hc1
    by_cases hlt : y < 2099 ∧ dby (y + 1) * 1440 ≤ n
    · obtain ⟨hy, hlt⟩ := hlt
      have hlt' : (dby (y + 1) + cum (y + 1) 1) * 1440 ≤ n := by rw [HC1.out]; omega
      go_wp2_with ((go_at_call 34; refine (before_any _ _ _ (by omega) (by omega) (by omega) (by omega) (by omega)).mono ?_; rintro e w' ⟨rfl, rfl⟩))
      go_roundw
      case rel => exact ⟨y + 1, by omega, by omega, hlt, rfl⟩
      case measure => simp [intOf, go_sem]; omega
    · have hs := dby_succ y
      have hD1 : n < (dby y + cum y 13) * 1440 := by
        rcases Int.lt_or_le y 2099 with q | q
        · have : ¬ dby (y + 1) * 1440 ≤ n := fun k => hlt ⟨q, k⟩
          omega
        · have e : y + 1 = 2100 := by omega
          have e2 := dby_2100
          rw [e] at hs; omega
      have HD1 := Lib.hid hD1
      have hd1 := dby_bd (a := y) (by omega) (by omega)
      have hnl : y < 2099 → ¬ (dby (y + 1) + cum (y + 1) 1) * 1440 ≤ n := fun q k => hlt ⟨q, by rw [HC1.out] at k; omega⟩
      clear hs hD1 hlt
      by_cases hy : y < 2099
      all_goals
        try have hnl' := hnl hy
        clear hnl
        go_wp2_with ((go_at_call 34; refine (before_any _ _ _ (by omega) (by omega) (by omega) (by omega) (by omega)).mono ?_; rintro e w' ⟨rfl, rfl⟩))
        go_loopw [] (fun wr => ∃ m : Int, 1 ≤ m ∧ m ≤ 12 ∧ (dby y + cum y m) * 1440 ≤ n ∧ wr = (w.alloc (.cells #[.int .i64 0, .int .i64 0, .int .i64 0, .int .i64 0, .int .i64 0] 23)).alloc (.cells #[.int .i64 y, .int .i64 m, .int .i64 0, .int .i64 0, .int .i64 0] 23)) (fun wr => (12 - intOf ((wr.cell? ⟨w.heap.size + 1, 1, none⟩).getD undef)).toNat)
        case atStart => exact ⟨1, by omega, by omega, by rw [cum_1]; omega, rfl⟩
        case round =>
          obtain ⟨m, hm0, hm1, hm2, rfl⟩ := hrel
          have hcb := cum_bd y (m + 1)
          have hcb0 := cum_bd y m
          have hdm := dim_bd y m
          have E := Lib.hid (cum_succ y m hm0 hm1)
          by_cases hlt : m < 12 ∧ (dby y + cum y (m + 1)) * 1440 ≤ n
          · obtain ⟨hm, hlt⟩ := hlt
            go_wp2_with ((go_at_call 34; refine (before_any _ _ _ (by omega) (by omega) (by omega) (by omega) (by omega)).mono ?_; rintro e w' ⟨rfl, rfl⟩))
            go_roundw
            case rel => exact ⟨m + 1, by omega, by omega, hlt, rfl⟩
            case measure => simp [intOf, go_sem]; omega
          · have hlast : n < (dby y + cum y m + dim y m) * 1440 := by
              have E' := E.out
              rcases Int.lt_or_le m 12 with q | q
              · have : ¬ (dby y + cum y (m + 1)) * 1440 ≤ n := fun k => hlt ⟨q, k⟩
                omega
              · have e : m = 12 := by omega
                subst e
                have e13 : (12 : Int) + 1 = 13 := rfl
                have := HD1.out
                rw [e13] at E'; omega
            have hnm : m < 12 → ¬ (dby y + cum y (m + 1)) * 1440 ≤ n := fun q k => hlt ⟨q, k⟩
            clear hlt
            by_cases hm : m < 12
            all_goals
              try have hnm' := hnm hm
              clear hnm
              go_wp2_with ((go_at_call 34; refine (before_any _ _ _ (by omega) (by omega) (by omega) (by omega) (by omega)).mono ?_; rintro e w' ⟨rfl, rfl⟩))
              refine rdate_end _ rfl rfl rfl ((Blk.new w 23 _).alloc _) rfl rfl rfl rfl rfl ?_ ?_ ?_
              · exact vld_mk hy0 hy1 hm0 hm1 (by omega) (by omega) (by omega) (by omega) (by omega) (by omega)
              · unfold mnt; omega
              · exact ((Below.refl _ _).alloc (Nat.le_refl _) _).alloc (by simp) _
end Go.Proofs.Ytnfdpjckdiifkaa
