/-
  clock.Date returns, for a minute of the range, a valid date whose minute it is; and the error ErrRange (1) for another number.
-/
import Derived.Test.YtnfdpjckdiifkaaMinutes
namespace Go.Proofs.Ytnfdpjckdiifkaa
open Go.RowKit Cal

/-- the outcome of Date: a valid date whose minute is n -/
def DateIs (n : Int) (w : World) (e : Ending) (w' : World) : Prop :=
  ∃ y m d h i : Int, e = .returned (.tuple #[civ y m d h i, .int .i64 0]) ∧ vld y m d h i = true ∧ mnt y m d h i = n ∧ Below w.heap.size w w'

set_option maxHeartbeats 2000000 in
theorem date_no (n : Int) (w : World) (hn : inB n = false) : Calls Try.prog 19 #[.int .i64 n] w fun e w' => e = .returned (.tuple #[civ 0 0 0 0 0, .int .i64 1]) ∧ Below w.heap.size w w' := by
  go_enter Try.func19, Try.ntmps19
  go_wp2_with (go_at_call 36; refine (in_any _ _).mono ?_; rintro e w' ⟨rfl, rfl⟩)
  exact bodyPost_ret (v := .tuple #[civ 0 0 0 0 0, .int .i64 1]) (by simp [results, Try.results19, go_sem]) rfl ⟨rfl, (Below.refl _ _).alloc (Nat.le_refl _) _⟩

/-- the element of the lengths with the index j -/
theorem lens_index (y : Int) (j : Nat) (hj : j < 12) (w : World) : (Instr.index 56 (.agg #[.int .i64 31, .int .i64 (dim y 2), .int .i64 31, .int .i64 30, .int .i64 31, .int .i64 30, .int .i64 31, .int .i64 31, .int .i64 30, .int .i64 31, .int .i64 30, .int .i64 31]) (.int .i64 (j : Int))).run Try.prog w = .ok (.int .i64 (lenE y j)) w := by
  have e := len_index y ((j : Int) + 1) (by omega) (by omega) w
  have e2 : (j : Int) + 1 - 1 = (j : Int) := by omega
  rw [e2] at e
  exact e

/-- the two blocks of Date: the result's and that of its variable c -/
structure DateW (w wr : World) (y m : Int) : Prop where
  below : Below w.heap.size w wr
  res : Blk wr w.heap.size #[.int .i64 0, .int .i64 0, .int .i64 0, .int .i64 0, .int .i64 0]
  var_ : Blk wr (w.heap.size + 1) #[.int .i64 y, .int .i64 m, .int .i64 0, .int .i64 0, .int .i64 0]

theorem DateW.step {w wr : World} {y m m' : Int} (h : DateW w wr y m) : DateW w (wr.setCell ⟨w.heap.size + 1, 1, none⟩ (.int .i64 m')) y m' :=
  ⟨h.below.setCell (by simp) _, h.res.away (by omega) _ _, h.var_.put 1 _⟩

theorem DateW.drew {w wr : World} {y m : Int} (h : DateW w wr y m) : DateW w wr.drew y m := ⟨h.below.drew, h.res.drew, h.var_.drew⟩

theorem date_end {n y m d h i : Int} {w W : World} {cs : Array Value} (a : Act) (h2 : a.tmps.getD 2 undef = .pointer (some ⟨w.heap.size, 0, none⟩)) (h3 : a.tmps.getD 3 undef = .int .i64 0) (hd : a.defers = [])
    (hB : Blk W w.heap.size cs) (c0 : cs[0]? = some (.int .i64 y)) (c1 : cs[1]? = some (.int .i64 m)) (c2 : cs[2]? = some (.int .i64 d)) (c3 : cs[3]? = some (.int .i64 h)) (c4 : cs[4]? = some (.int .i64 i))
    (hv : vld y m d h i = true) (hm : mnt y m d h i = n) (hb : Below w.heap.size w W) : bodyPost Try.prog Try.f19 (DateIs n w) .ret a W := by
  have r0 := (hB.cell 0).trans c0
  have r1 := (hB.cell 1).trans c1
  have r2 := (hB.cell 2).trans c2
  have r3 := (hB.cell 3).trans c3
  have r4 := (hB.cell 4).trans c4
  refine bodyPost_ret (v := .tuple #[civ y m d h i, .int .i64 0]) ?_ hd ⟨_, _, _, _, _, rfl, hv, hm, hb⟩
  rw [results_cell_tmp Try.results19, h2, h3]
  simp [go_sem, r0, r1, r2, r3, r4]

set_option maxHeartbeats 2000000 in
theorem date_ok (n : Int) (w : World) (hn : inB n = true) : Calls Try.prog 19 #[.int .i64 n] w (DateIs n w) := by
  have hn' : 0 ≤ n ∧ n ≤ 52595999 := by simpa [inB] using hn
  obtain ⟨n0, n1⟩ := hn'
  go_enter Try.func19, Try.ntmps19
  go_wp2_with (go_at_call 36; refine (in_any _ _).mono ?_; rintro e w' ⟨rfl, rfl⟩)
  go_loopw [] (fun wr => ∃ y : Int, 2000 ≤ y ∧ y ≤ 2099 ∧ dby y * 1440 ≤ n ∧ wr = (w.alloc (.cells #[.int .i64 0, .int .i64 0, .int .i64 0, .int .i64 0, .int .i64 0] 23)).alloc (.cells #[.int .i64 y, .int .i64 1, .int .i64 0, .int .i64 0, .int .i64 0] 23)) (fun wr => (2099 - intOf ((wr.cell? ⟨w.heap.size + 1, 0, none⟩).getD undef)).toNat)
  case atStart => exact ⟨2000, by omega, by omega, by rw [dby_2000]; omega, rfl⟩
  case round =>
    obtain ⟨y, hy0, hy1, hy2, rfl⟩ := hrel
    have hd0 := dby_bd (a := y + 1) (by omega) (by omega)
    by_cases hlt : dby (y + 1) * 1440 ≤ n
    · have hy : y + 1 ≤ 2099 := by
        rcases Int.lt_or_le y 2099 with q | q
        · omega
        · have e : y + 1 = 2100 := by omega
          rw [e, dby_2100] at hlt; omega
      go_wp2_with (go_at_call 33; refine (first_any _ _ (by omega) (by omega)).mono ?_; rintro e w' ⟨rfl, rfl⟩)
      go_roundw
      case rel => exact ⟨y + 1, by omega, by omega, hlt, rfl⟩
      case measure => simp [intOf, go_sem]; omega
    · have hs := dby_succ y
      have hD1 : (n - dby y * 1440) / 1440 < cum y 13 := by omega
      have HD1 := Lib.hid hD1
      have hd1 := dby_bd (a := y) (by omega) (by omega)
      clear hs hD1
      go_wp2_with (first
        | (go_at_call 33; refine (first_any _ _ (by omega) (by omega)).mono ?_; rintro e w' ⟨rfl, rfl⟩)
        | (go_at_call 32; refine (lengths_out _ _ (by omega) (by omega)).mono ?_; rintro e w2 ⟨rfl, hb2⟩))
      have hdw : DateW w w2 y 1 := ⟨(((Below.refl _ _).alloc (Nat.le_refl _) _).alloc (by first | (simp; done) | (simp; omega) | omega) _).trans (hb2.mono (by first | (simp; done) | (simp; omega) | omega)), (((Blk.new w 23 _).alloc _).below hb2 (by first | (simp; done) | (simp; omega) | omega)), (((Blk.new (w.alloc _) 23 _).at_ (by simp)).below hb2 (by first | (simp; done) | (simp; omega) | omega))⟩
      clear hb2
      go_loopw [6, 34] (fun t i wr => ∃ j : Nat, j ≤ 12 ∧ i = .int .i64 j ∧ t = .int .i64 ((n - dby y * 1440) / 1440 - cum y (j + 1)) ∧ cum y (j + 1) ≤ (n - dby y * 1440) / 1440 ∧ DateW w wr y (j + 1)) (fun _ i _ => (12 - intOf i).toNat)
      case atStart => exact ⟨0, by omega, rfl, by rw [show ((0 : Nat) : Int) + 1 = 1 from rfl, cum_1]; go_num, by rw [show ((0 : Nat) : Int) + 1 = 1 from rfl, cum_1]; omega, hdw⟩
      case round =>
        obtain ⟨j, hj, rfl, rfl, hle, hdw⟩ := hrel
        have hj12 : j < 12 := by
          rcases Nat.lt_or_ge j 12 with q | q
          · exact q
          · have e : j = 12 := by omega
            subst e
            have := HD1.out
            have e13 : ((12 : Nat) : Int) + 1 = 13 := rfl
            rw [e13] at hle; omega
        have hix := fun wx : World => lens_index y j hj12 wx
        have hcb := cum_bd y (j + 1)
        have hlb : 28 ≤ lenE y j ∧ lenE y j ≤ 31 := dim_bd _ _
        have E := Lib.hid (cum_succ y (j + 1) (by omega) (by omega))
        have v0 := hdw.var_.cell 0
        have v1 := hdw.var_.cell 1
        have v2 := hdw.var_.cell 2
        have v3 := hdw.var_.cell 3
        have v4 := hdw.var_.cell 4
        have f0 := hdw.var_.frozen 0
        have f1 := hdw.var_.frozen 1
        have f2 := hdw.var_.frozen 2
        have f3 := hdw.var_.frozen 3
        have f4 := hdw.var_.frozen 4
        simp at v0 v1 v2 v3 v4
        have r0 := hdw.res.cell 0
        have r1 := hdw.res.cell 1
        have r2 := hdw.res.cell 2
        have r3 := hdw.res.cell 3
        have r4 := hdw.res.cell 4
        have g0 := hdw.res.frozen 0
        have g1 := hdw.res.frozen 1
        have g2 := hdw.res.frozen 2
        have g3 := hdw.res.frozen 3
        have g4 := hdw.res.frozen 4
        simp at r0 r1 r2 r3 r4
        by_cases hlt2 : (n - dby y * 1440) / 1440 - cum y (j + 1) < lenE y j
        · go_wp2
          have hj1 : ((j : Int) + 1) ≤ 12 := by omega
          refine date_end _ rfl rfl rfl ((((((((hdw.res.away (b := w.heap.size + 1) (by omega) 2 _).away (by omega) 3 _).away (by omega) 4 _).put 0 _).put 1 _).put 2 _).put 3 _).put 4 _) rfl rfl rfl rfl rfl ?_ ?_ ?_
          · exact vld_mk hy0 hy1 (by omega) hj1 (by omega) (by show _ ≤ lenE y j; omega) (by omega) (by omega) (by omega) (by omega)
          · unfold mnt; omega
          · exact (((((((hdw.below.setCell (by simp) _).setCell (by simp) _).setCell (by simp) _).setCell (by simp) _).setCell (by simp) _).setCell (by simp) _).setCell (by simp) _).setCell (by simp) _
        · go_wp2
          go_region
          all_goals go_wp2
          all_goals go_roundw
          case rel => exact ⟨j + 1, by omega, by go_num, by rw [show (((j + 1 : Nat) : Int) + 1) = (j : Int) + 1 + 1 from by omega, E.out, show dim y ((j : Int) + 1) = lenE y j from rfl]; go_num, by rw [show (((j + 1 : Nat) : Int) + 1) = (j : Int) + 1 + 1 from by omega, E.out, show dim y ((j : Int) + 1) = lenE y j from rfl]; omega, by rw [show (((j + 1 : Nat) : Int) + 1) = (j : Int) + 1 + 1 from by omega]; exact (hdw.step (m' := (j : Int) + 1 + 1)).drew⟩
          case measure => simp [intOf]; omega
end Go.Proofs.Ytnfdpjckdiifkaa
