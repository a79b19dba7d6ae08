/-
  The reference's Resolve returns the nearest minute with a day and a time (of two equally near ones the lesser), and the error ErrRange (1) where an argument is out of range.
-/
import Derived.Test.YtnfdpjckdiifkaaResolve
namespace Go.Proofs.Ytnfdpjckdiifkaa
open Go.RowKit Cal

theorem rminutes_q {d h i : Int} (hd : 1 ≤ d) (h0 : 0 ≤ h) (h1 : h ≤ 23) (h2 : 0 ≤ i) (h3 : i ≤ 59) (q : Int) (c : Has d (q - 24000)) (w : World) :
    Calls Try.prog 13 #[civ (q / 12) (q % 12 + 1) d h i] w fun e w' => e = .returned (.tuple #[.int .i64 (cm d h i (q - 24000)), .int .i64 0]) ∧ Below w.heap.size w w' := by
  have e1 : q / 12 = 2000 + (q - 24000) / 12 := by omega
  have e2 : q % 12 = (q - 24000) % 12 := by omega
  rw [e1, e2]
  exact rminutes_cm hd h0 h1 h2 h3 _ c w
theorem rminutes_qn {d h i : Int} (q : Int) (c : ¬ Has d (q - 24000)) (w : World) :
    Calls Try.prog 13 #[civ (q / 12) (q % 12 + 1) d h i] w fun e w' => e = .returned (.tuple #[.int .i64 0, .int .i64 1]) ∧ Below w.heap.size w w' := by
  have e1 : q / 12 = 2000 + (q - 24000) / 12 := by omega
  have e2 : q % 12 = (q - 24000) % 12 := by omega
  rw [e1, e2]
  exact rminutes_no _ _ _ _ _ _ (vld_not _ c)

set_option maxHeartbeats 2000000 in
theorem rresolve_ok (d h i x : Int) (w : World) (hx : inB x = true) (hd : 1 ≤ d) (hd' : d ≤ 31) (ht : timeB h i = true) :
    Calls Try.prog 28 #[.int .i64 d, .int .i64 h, .int .i64 i, .int .i64 x] w (ResIs d h i x w) := by
  have hx' : 0 ≤ x ∧ x ≤ 52595999 := by simpa [inB] using hx
  have ht' : 0 ≤ h ∧ h ≤ 23 ∧ 0 ≤ i ∧ i ≤ 59 := by simpa [timeB] using ht
  obtain ⟨x0, x1⟩ := hx'
  obtain ⟨h0, h1, h2, h3⟩ := ht'
  have e31 : decide (d < 1) = false := by simp; omega
  have e32 : decide (31 < d) = false := by simp; omega
  have e33 : decide (h < 0) = false := by simp; omega
  have e34 : decide (23 < h) = false := by simp; omega
  have e35 : decide (i < 0) = false := by simp; omega
  have e36 : decide (59 < i) = false := by simp; omega
  go_enter Try.func28, Try.ntmps28
  go_wp2_with (first
    | (go_at_call 20; refine (rdate_ok x _ hx).mono ?_; rintro e w1 ⟨y, m, d', h', i', rfl, hv, hm, hb⟩; obtain ⟨hc, hf⟩ := bcell hb; have hz := hb.size; obtain ⟨g1, g2, g3, g4, g5⟩ := vld_all hv)
    | (go_at_call 37; refine (In_any _ _).mono ?_; rintro e w' ⟨rfl, rfl⟩))
  obtain ⟨J, hJ⟩ : ∃ J : Int, J = 12 * (y - 2000) + m - 1 := ⟨_, rfl⟩
  have hin := mnt_in hv
  have hjx : jdx y m = J := by unfold jdx; omega
  rw [hjx, hm] at hin
  obtain ⟨i1, i2, i3, i4⟩ := hin
  have HJ := Lib.hid hJ
  clear hJ hjx hm hv g5
  have c0 : (w1.alloc (Obj.cells #[.int .i64 y, .int .i64 m, .int .i64 d', .int .i64 h', .int .i64 i'] 23)).cell? ⟨w1.heap.size, 0, none⟩ = some (.int .i64 y) := by go_simp
  have c1 : (w1.alloc (Obj.cells #[.int .i64 y, .int .i64 m, .int .i64 d', .int .i64 h', .int .i64 i'] 23)).cell? ⟨w1.heap.size, 1, none⟩ = some (.int .i64 m) := by go_simp
  have C0 := Lib.hid c0
  have C1 := Lib.hid c1
  clear c0 c1
  go_loopw [12, 13, 14] (fun b fv k wr => ∃ (kk bb : Int) (f : Bool), k = .int .i64 kk ∧ b = .int .i64 bb ∧ fv = .bool f ∧ -3 ≤ kk ∧ kk ≤ 4 ∧ Best d h i x (J - 3) (J + kk) f bb ∧ (f = false → bb = 0) ∧ Below (w1.heap.size + 1) (w1.alloc (Obj.cells #[.int .i64 y, .int .i64 m, .int .i64 d', .int .i64 h', .int .i64 i'] 23)) wr) (fun _ _ k _ => (4 - intOf k).toNat)
  case atStart => exact ⟨-3, 0, false, rfl, rfl, rfl, by omega, by omega, by have := Best.start d h i x (J - 3) 0; rwa [show J + -3 = J - 3 from by omega], fun _ => rfl, Below.refl _ _⟩
  case round =>
    obtain ⟨kk, bb, f, rfl, rfl, rfl, k0, k1, hbest, hf0, hbl⟩ := hrel
    have c0 := (hbl.cell (p := ⟨w1.heap.size, 0, none⟩) (by simp)).trans C0.out
    have c1 := (hbl.cell (p := ⟨w1.heap.size, 1, none⟩) (by simp)).trans C1.out
    have hsz := hbl.size
    simp at hsz
    have HB := Lib.hid hbest
    have HF := Lib.hid hf0
    clear hbest hf0
    by_cases c3 : kk ≤ 3
    · have hq : y * 12 + m - 1 + kk - 24000 = J + kk := by have := HJ.out; omega
      by_cases c2 : Has d (J + kk)
      · have HC := Lib.hid (hq ▸ c2 : Has d (y * 12 + m - 1 + kk - 24000))
        have HQ := Lib.hid hq
        clear hq
        have hcm : 0 ≤ cm d h i (y * 12 + m - 1 + kk - 24000) ∧ cm d h i (y * 12 + m - 1 + kk - 24000) ≤ 52595999 := mnt_bd (vld_has hd h0 h1 h2 h3 _ HC.out)
        cases f with
        | false =>
          obtain rfl : bb = 0 := HF.out rfl
          go_wp2_with (first
            | (go_at_call 13; refine (rminutes_q hd h0 h1 h2 h3 _ HC.out _).mono ?_; rintro e w2 ⟨rfl, hb2⟩))
          go_roundw
          case rel => exact ⟨kk + 1, cm d h i (y * 12 + m - 1 + kk - 24000), true, by go_num, rfl, rfl, by omega, by omega, by rw [HQ.out, show J + (kk + 1) = J + kk + 1 from by omega]; exact HB.out.first c2 (by omega), (fun q => by cases q), hbl.trans (hb2.mono (by omega))⟩
          case measure => simp [intOf]; omega
        | true =>
          have hbb := HB.out.bd hd h0 h1 h2 h3
          by_cases c4 : dist (cm d h i (y * 12 + m - 1 + kk - 24000)) x < dist bb x
          · go_wp2_with (first
              | (go_at_call 13; refine (rminutes_q hd h0 h1 h2 h3 _ HC.out _).mono ?_; rintro e w2 ⟨rfl, hb2⟩)
              | (go_at_call 41; refine (rdistance_any _ _ _ (by omega) (by omega) (by omega) (by omega)).mono ?_; rintro e w' ⟨rfl, rfl⟩))
            go_roundw
            case rel => exact ⟨kk + 1, cm d h i (y * 12 + m - 1 + kk - 24000), true, by go_num, rfl, rfl, by omega, by omega, by rw [HQ.out] at c4 ⊢; rw [show J + (kk + 1) = J + kk + 1 from by omega]; exact HB.out.better c2 (by omega) c4, (fun q => by cases q), hbl.trans (hb2.mono (by omega))⟩
            case measure => simp [intOf]; omega
          · go_wp2_with (first
              | (go_at_call 13; refine (rminutes_q hd h0 h1 h2 h3 _ HC.out _).mono ?_; rintro e w2 ⟨rfl, hb2⟩)
              | (go_at_call 41; refine (rdistance_any _ _ _ (by omega) (by omega) (by omega) (by omega)).mono ?_; rintro e w' ⟨rfl, rfl⟩))
            go_roundw
            case rel => exact ⟨kk + 1, bb, true, by go_num, rfl, rfl, by omega, by omega, by rw [HQ.out] at c4; rw [show J + (kk + 1) = J + kk + 1 from by omega]; exact HB.out.stay hd h0 h1 h2 h3 c2 (by omega), (fun q => by cases q), hbl.trans (hb2.mono (by omega))⟩
            case measure => simp [intOf]; omega
      · have hv2 : ¬ Has d (y * 12 + m - 1 + kk - 24000) := hq ▸ c2
        have HV := Lib.hid hv2
        clear hv2 hq
        go_wp2_with (first
          | (go_at_call 13; refine (rminutes_qn _ HV.out _).mono ?_; rintro e w2 ⟨rfl, hb2⟩))
        go_roundw
        case rel => exact ⟨kk + 1, bb, f, by go_num, rfl, rfl, by omega, by omega, by rw [show J + (kk + 1) = J + kk + 1 from by omega]; exact HB.out.skip c2, HF.out, hbl.trans (hb2.mono (by omega))⟩
        case measure => simp [intOf]; omega
    · obtain rfl : kk = 4 := by omega
      go_wp2_with fail
      go_ret2
      exact ⟨bb, rfl, (HB.out.nearest hd hd' h0 h1 h2 h3 i3 (by omega) i1 i2).2, (hb.alloc hz _).trans (hbl.mono (by omega))⟩

set_option maxHeartbeats 2000000 in
theorem rresolve_no (d h i x : Int) (w : World) (hb0 : resB d h i x = true) :
    Calls Try.prog 28 #[.int .i64 d, .int .i64 h, .int .i64 i, .int .i64 x] w fun e w' => e = .returned (.tuple #[.int .i64 0, .int .i64 1]) ∧ Below w.heap.size w w' := by
  by_cases c1 : d < 1
  · have HB := Lib.hid hb0
    clear hb0
    have e31 : decide (d < 1) = true := by simpa using c1
    go_enter Try.func28, Try.ntmps28
    go_wp2_with fail
    go_ret2
    exact ⟨rfl, Below.refl _ _⟩
  have e31 : decide (d < 1) = false := by simpa using c1
  by_cases c2 : 31 < d
  · have HB := Lib.hid hb0
    clear hb0
    have e32 : decide (31 < d) = true := by simpa using c2
    go_enter Try.func28, Try.ntmps28
    go_wp2_with fail
    go_ret2
    exact ⟨rfl, Below.refl _ _⟩
  have e32 : decide (31 < d) = false := by simpa using c2
  by_cases c3 : h < 0
  · have HB := Lib.hid hb0
    clear hb0
    have e33 : decide (h < 0) = true := by simpa using c3
    go_enter Try.func28, Try.ntmps28
    go_wp2_with fail
    go_ret2
    exact ⟨rfl, Below.refl _ _⟩
  have e33 : decide (h < 0) = false := by simpa using c3
  by_cases c4 : 23 < h
  · have HB := Lib.hid hb0
    clear hb0
    have e34 : decide (23 < h) = true := by simpa using c4
    go_enter Try.func28, Try.ntmps28
    go_wp2_with fail
    go_ret2
    exact ⟨rfl, Below.refl _ _⟩
  have e34 : decide (23 < h) = false := by simpa using c4
  by_cases c5 : i < 0
  · have HB := Lib.hid hb0
    clear hb0
    have e35 : decide (i < 0) = true := by simpa using c5
    go_enter Try.func28, Try.ntmps28
    go_wp2_with fail
    go_ret2
    exact ⟨rfl, Below.refl _ _⟩
  have e35 : decide (i < 0) = false := by simpa using c5
  by_cases c6 : 59 < i
  · have HB := Lib.hid hb0
    clear hb0
    have e36 : decide (59 < i) = true := by simpa using c6
    go_enter Try.func28, Try.ntmps28
    go_wp2_with fail
    go_ret2
    exact ⟨rfl, Below.refl _ _⟩
  have e36 : decide (59 < i) = false := by simpa using c6
  have hx : inB x = false := by
    rcases q : inB x with _ | _
    · rfl
    · exfalso
      have ht : timeB h i = true := by simp [timeB]; omega
      simp [resB, q, ht] at hb0
      omega
  clear hb0
  go_enter Try.func28, Try.ntmps28
  go_wp2_with (go_at_call 37; refine (In_any _ _).mono ?_; rintro e w' ⟨rfl, rfl⟩)
  go_ret2
  exact ⟨rfl, Below.refl _ _⟩
end Go.Proofs.Ytnfdpjckdiifkaa
