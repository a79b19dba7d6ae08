/-
  clock.Resolve returns the nearest minute with a day and a time (of two equally near ones the lesser), and the error ErrRange (1) where an argument is out of range.
-/
import Derived.Test.YtnfdpjckdiifkaaRdate
namespace Go.Proofs.Ytnfdpjckdiifkaa
open Go.RowKit Cal

def ResIs (d h i x : Int) (w : World) (e : Ending) (w' : World) : Prop := ∃ n : Int, e = .returned (.tuple #[.int .i64 n, .int .i64 0]) ∧ Nearest d h i x n ∧ Below w.heap.size w w'

theorem minutes_cm {d h i : Int} (hd : 1 ≤ d) (h0 : 0 ≤ h) (h1 : h ≤ 23) (h2 : 0 ≤ i) (h3 : i ≤ 59) (j : Int) (c : Has d j) (w : World) :
    Calls Try.prog 12 #[civ (2000 + j / 12) (j % 12 + 1) d h i] w fun e w' => e = .returned (.tuple #[.int .i64 (cm d h i j), .int .i64 0]) ∧ Below w.heap.size w w' :=
  minutes_ok _ _ _ _ _ _ (vld_has hd h0 h1 h2 h3 j c)
theorem rminutes_cm {d h i : Int} (hd : 1 ≤ d) (h0 : 0 ≤ h) (h1 : h ≤ 23) (h2 : 0 ≤ i) (h3 : i ≤ 59) (j : Int) (c : Has d j) (w : World) :
    Calls Try.prog 13 #[civ (2000 + j / 12) (j % 12 + 1) d h i] w fun e w' => e = .returned (.tuple #[.int .i64 (cm d h i j), .int .i64 0]) ∧ Below w.heap.size w w' :=
  rminutes_ok _ _ _ _ _ _ (vld_has hd h0 h1 h2 h3 j c)

set_option maxHeartbeats 2000000 in
theorem resolve_ok (d h i x : Int) (w : World) (hx : inB x = true) (hd : 1 ≤ d) (hd' : d ≤ 31) (ht : timeB h i = true) :
    Calls Try.prog 27 #[.int .i64 d, .int .i64 h, .int .i64 i, .int .i64 x] w (ResIs d h i x w) := by
  have hx' : 0 ≤ x ∧ x ≤ 52595999 := by simpa [inB] using hx
  have ht' : 0 ≤ h ∧ h ≤ 23 ∧ 0 ≤ i ∧ i ≤ 59 := by simpa [timeB] using ht
  obtain ⟨x0, x1⟩ := hx'
  obtain ⟨h0, h1, h2, h3⟩ := ht'
  have e31 : decide (d < 1) = false := by simp; omega
  have e32 : decide (31 < d) = false := by simp; omega
  go_enter Try.func27, Try.ntmps27
  go_wp2_with (first
    | (go_at_call 19; refine (date_ok x _ hx).mono ?_; rintro e w1 ⟨y, m, d', h', i', rfl, hv, hm, hb⟩; obtain ⟨hc, hf⟩ := bcell hb; have hz := hb.size; obtain ⟨g1, g2, g3, g4, g5⟩ := vld_all hv)
    | (go_at_call 35; refine (time_any _ _ _).mono ?_; rintro e w' ⟨rfl, rfl⟩))
  obtain ⟨J, hJ⟩ : ∃ J : Int, J = 12 * (y - 2000) + m - 1 := ⟨_, rfl⟩
  have hin := mnt_in hv
  have hjx : jdx y m = J := by unfold jdx; omega
  rw [hjx, hm] at hin
  obtain ⟨i1, i2, i3, i4⟩ := hin
  rw [← hJ]
  have HJ := Lib.hid hJ
  clear hJ hjx hm hv g5
  go_loopw [12, 14] (fun b k wr => ∃ (kk bb : Int) (f : Bool), k = .int .i64 kk ∧ b = .int .i64 bb ∧ J - 3 ≤ kk ∧ kk ≤ J + 4 ∧ Best d h i x (J - 3) kk f bb ∧ (f = false → bb = -1) ∧ Below w.heap.size w wr) (fun _ k _ => (J + 4 - intOf k).toNat)
  case atStart => exact ⟨J - 3, -1, false, rfl, rfl, by omega, by omega, Best.start _ _ _ _ _ _, fun _ => rfl, hb.alloc hz _⟩
  case round =>
    obtain ⟨kk, bb, f, rfl, rfl, k0, k1, hbest, hf0, hbl⟩ := hrel
    have HB := Lib.hid hbest
    have HF := Lib.hid hf0
    clear hbest hf0
    by_cases c0 : kk ≤ J + 3
    · by_cases c1 : kk < 0
      · go_wp2_with fail
        go_roundw
        case rel => exact ⟨kk + 1, bb, f, by go_num, rfl, by omega, by omega, HB.out.skip (fun q => by have := q.1; omega), HF.out, hbl⟩
        case measure => simp [intOf]; omega
      · by_cases c2 : Has d kk
        · cases f with
          | false =>
            obtain rfl : bb = -1 := HF.out rfl
            have hcm := mnt_bd (vld_has hd h0 h1 h2 h3 kk c2)
            go_wp2_with (first
              | (go_at_call 12; refine (minutes_cm hd h0 h1 h2 h3 kk c2 _).mono ?_; rintro e w2 ⟨rfl, hb2⟩))
            go_roundw
            case rel => exact ⟨kk + 1, cm d h i kk, true, by go_num, rfl, by omega, by omega, HB.out.first c2 (by omega), (fun q => by cases q), hbl.trans (hb2.mono hbl.size)⟩
            case measure => simp [intOf]; omega
          | true =>
            have hbb := HB.out.bd hd h0 h1 h2 h3
            have hcm : 0 ≤ cm d h i kk ∧ cm d h i kk ≤ 52595999 := mnt_bd (vld_has hd h0 h1 h2 h3 kk c2)
            have e1 : decide (bb < 0) = false := by simp; omega
            by_cases c3 : dist (cm d h i kk) x < dist bb x
            · go_wp2_with (first
                | (go_at_call 12; refine (minutes_cm hd h0 h1 h2 h3 kk c2 _).mono ?_; rintro e w2 ⟨rfl, hb2⟩)
                | (go_at_call 40; refine (distance_any _ _ _ (by omega) (by omega) (by omega) (by omega)).mono ?_; rintro e w' ⟨rfl, rfl⟩))
              go_roundw
              case rel => exact ⟨kk + 1, cm d h i kk, true, by go_num, rfl, by omega, by omega, HB.out.better c2 (by omega) c3, (fun q => by cases q), hbl.trans (hb2.mono hbl.size)⟩
              case measure => simp [intOf]; omega
            · go_wp2_with (first
                | (go_at_call 12; refine (minutes_cm hd h0 h1 h2 h3 kk c2 _).mono ?_; rintro e w2 ⟨rfl, hb2⟩)
                | (go_at_call 40; refine (distance_any _ _ _ (by omega) (by omega) (by omega) (by omega)).mono ?_; rintro e w' ⟨rfl, rfl⟩))
              go_roundw
              case rel => exact ⟨kk + 1, bb, true, by go_num, rfl, by omega, by omega, HB.out.stay hd h0 h1 h2 h3 c2 (by omega), (fun q => by cases q), hbl.trans (hb2.mono hbl.size)⟩
              case measure => simp [intOf]; omega
        · have hv2 := vld_not (h := h) (i := i) kk c2
          go_wp2_with (first
            | (go_at_call 12; refine (minutes_no _ _ _ _ _ _ hv2).mono ?_; rintro e w2 ⟨rfl, hb2⟩))
          go_roundw
          case rel => exact ⟨kk + 1, bb, f, by go_num, rfl, by omega, by omega, HB.out.skip c2, HF.out, hbl.trans (hb2.mono hbl.size)⟩
          case measure => simp [intOf]; omega
    · obtain rfl : kk = J + 4 := by omega
      go_wp2_with fail
      go_ret2
      exact ⟨bb, rfl, (HB.out.nearest hd hd' h0 h1 h2 h3 i3 (by omega) i1 i2).2, hbl⟩

/-- are the arguments of Resolve out of range? -/
def resB (d h i x : Int) : Bool := !(decide (1 ≤ d ∧ d ≤ 31) && timeB h i && inB x)

set_option maxHeartbeats 2000000 in
theorem resolve_no (d h i x : Int) (w : World) (hb0 : resB d h i x = true) :
    Calls Try.prog 27 #[.int .i64 d, .int .i64 h, .int .i64 i, .int .i64 x] w fun e w' => e = .returned (.tuple #[.int .i64 0, .int .i64 1]) ∧ Below w.heap.size w w' := by
  rcases hx : inB x with _ | _
  · have HB := Lib.hid hb0
    clear hb0
    go_enter Try.func27, Try.ntmps27
    go_wp2_with (first
      | (go_at_call 19; refine (date_no x _ hx).mono ?_; rintro e w1 ⟨rfl, hb⟩))
    go_ret2
    exact ⟨rfl, hb.alloc hb.size _⟩
  · by_cases c1 : d < 1
    · have HB := Lib.hid hb0
      clear hb0
      have e31 : decide (d < 1) = true := by simpa using c1
      go_enter Try.func27, Try.ntmps27
      go_wp2_with (first
        | (go_at_call 19; refine (date_ok x _ hx).mono ?_; rintro e w1 ⟨y, m, d', h', i', rfl, hv, hm, hb⟩; have HM := Lib.hid hm; clear hm hv))
      go_ret2
      exact ⟨rfl, hb.alloc hb.size _⟩
    · have e31 : decide (d < 1) = false := by simpa using c1
      by_cases c2 : 31 < d
      · have HB := Lib.hid hb0
        clear hb0
        have e32 : decide (31 < d) = true := by simpa using c2
        go_enter Try.func27, Try.ntmps27
        go_wp2_with (first
          | (go_at_call 19; refine (date_ok x _ hx).mono ?_; rintro e w1 ⟨y, m, d', h', i', rfl, hv, hm, hb⟩; have HM := Lib.hid hm; clear hm hv))
        go_ret2
        exact ⟨rfl, hb.alloc hb.size _⟩
      · have e32 : decide (31 < d) = false := by simpa using c2
        have ht : timeB h i = false := by
          rcases q : timeB h i with _ | _
          · rfl
          · exfalso
            simp [resB, q, hx] at hb0
            omega
        clear hb0
        go_enter Try.func27, Try.ntmps27
        go_wp2_with (first
          | (go_at_call 19; refine (date_ok x _ hx).mono ?_; rintro e w1 ⟨y, m, d', h', i', rfl, hv, hm, hb⟩; have HM := Lib.hid hm; clear hm hv)
          | (go_at_call 35; refine (time_any _ _ _).mono ?_; rintro e w' ⟨rfl, rfl⟩))
        go_ret2
        exact ⟨rfl, hb.alloc hb.size _⟩
end Go.Proofs.Ytnfdpjckdiifkaa
