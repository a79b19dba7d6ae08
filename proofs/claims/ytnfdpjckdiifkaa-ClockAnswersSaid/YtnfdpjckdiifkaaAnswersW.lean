/-
  The walk of ClockAnswers: it returns true for any arguments.
-/
import Derived.Test.YtnfdpjckdiifkaaAwake
import Derived.Test.YtnfdpjckdiifkaaRdate
import Derived.Test.YtnfdpjckdiifkaaMinutes
import Derived.Test.YtnfdpjckdiifkaaSrc
import Derived.Test.YtnfdpjckdiifkaaTool
import Derived.Test.YtnfdpjckdiifkaaHas
import Derived.Deep.DeepCutAuto
import Derived.Laws.StructEq
namespace Go.Proofs.Ytnfdpjckdiifkaa
open Go.RowKit Txt Cal

/-- what Minutes and its reference both return -/
theorem minutes_both (y m d h i : Int) : ∃ a c : Int, (∀ w, Calls Try.prog 12 #[civ y m d h i] w fun e w' => e = .returned (.tuple #[.int .i64 a, .int .i64 c]) ∧ Below w.heap.size w w') ∧
    (∀ w, Calls Try.prog 13 #[civ y m d h i] w fun e w' => e = .returned (.tuple #[.int .i64 a, .int .i64 c]) ∧ Below w.heap.size w w') := by
  rcases hv : vld y m d h i with _ | _
  · exact ⟨0, 1, fun w => minutes_no y m d h i w hv, fun w => rminutes_no y m d h i w hv⟩
  · exact ⟨mnt y m d h i, 0, fun w => minutes_ok y m d h i w hv, fun w => rminutes_ok y m d h i w hv⟩
theorem date_of {n y m d h i : Int} (hv : vld y m d h i = true) (hm : mnt y m d h i = n) (w : World) (f : FuncId) (c : Calls Try.prog f #[.int .i64 n] w (DateIs n w)) :
    Calls Try.prog f #[.int .i64 n] w fun e w' => e = .returned (.tuple #[civ y m d h i, .int .i64 0]) ∧ Below w.heap.size w w' := by
  refine c.mono ?_
  rintro e w' ⟨y', m', d', h', i', rfl, hv', hm', hb⟩
  obtain ⟨rfl, rfl, rfl, rfl, rfl⟩ := mnt_inj hv hv' (by omega)
  exact ⟨rfl, hb⟩
/-- what Date and its reference both return -/
theorem dates_both (n : Int) : ∃ y m d h i c : Int, (∀ w, Calls Try.prog 19 #[.int .i64 n] w fun e w' => e = .returned (.tuple #[civ y m d h i, .int .i64 c]) ∧ Below w.heap.size w w') ∧
    (∀ w, Calls Try.prog 20 #[.int .i64 n] w fun e w' => e = .returned (.tuple #[civ y m d h i, .int .i64 c]) ∧ Below w.heap.size w w') := by
  rcases hn : inB n with _ | _
  · exact ⟨0, 0, 0, 0, 0, 1, fun w => date_no n w hn, fun w => rdate_no n w hn⟩
  · have hb : 0 ≤ n ∧ n ≤ 52595999 := by simpa [inB] using hn
    obtain ⟨y, m, d, h, i, hv, hm⟩ := mnt_has hb.1 hb.2
    exact ⟨y, m, d, h, i, 0, fun w => date_of hv hm w 19 (date_ok n w hn), fun w => date_of hv hm w 20 (rdate_ok n w hn)⟩

theorem SliceIn.later {w w' : World} {A : Option Addr} {n c : Nat} (h : SliceIn w A n c) (hb : Below w.heap.size w w') : SliceIn w' A n c := by
  obtain ⟨h1, h2, h3⟩ := h
  refine ⟨h1, h2, fun hn => ?_⟩
  obtain ⟨b, o, e1, e2, e3⟩ := h3 hn
  refine ⟨b, o, e1, Nat.lt_of_lt_of_le e2 hb.size, fun j hj => ?_⟩
  obtain ⟨z, hz, hi⟩ := e3 j hj
  exact ⟨z, (hb.cell (p := ⟨b, o + j, none⟩) e2).trans hz, hi⟩

set_option maxRecDepth 20000 in
set_option maxHeartbeats 4000000 in
theorem clockAnswers_walk (w : World) (y0 m0 d0 h0 i0 n : Int) (A : Option Addr) (len c : Nat) (hS : SliceIn w A len c) :
    Calls Try.prog 3 #[civ y0 m0 d0 h0 i0, .int .i64 n, .slice A len c] w fun e w' => e = .returned (.bool true) ∧ Below w.heap.size w w' := by
  go_enter Try.func3, Try.ntmps3
  go_wp2_with fail
  have hS0 := hS.later ((Below.refl _ w).alloc (Nat.le_refl _) (.cells #[.int .i64 y0, .int .i64 m0, .int .i64 d0, .int .i64 h0, .int .i64 i0] 23))
  have hW0 := (Below.refl w.heap.size w).alloc (Nat.le_refl _) (.cells #[.int .i64 y0, .int .i64 m0, .int .i64 d0, .int .i64 h0, .int .i64 i0] 23)
  have hB0 : Blk (w.alloc (.cells #[.int .i64 y0, .int .i64 m0, .int .i64 d0, .int .i64 h0, .int .i64 i0] 23)) w.heap.size #[.int .i64 y0, .int .i64 m0, .int .i64 d0, .int .i64 h0, .int .i64 i0] := Blk.new _ _ _
  clear hS
  generalize w.alloc (.cells #[.int .i64 y0, .int .i64 m0, .int .i64 d0, .int .i64 h0, .int .i64 i0] 23) = W0 at hS0 hW0 hB0 ⊢
  have HW0 := Lib.hid hW0
  have HB0 := Lib.hid hB0
  clear hW0 hB0
  refine (new_any _ _ _ _ hS0).mono ?_
  rintro e w1 ⟨rfl, hs1, hb1⟩
  have HS1 := Lib.hid hs1
  clear hs1 hS0 hb1
  generalize W0.heap.size = gs at *
  go_wp2_with fail
  refine (range_any W0 _ _ _ _ HS1.out (by omega) (by omega) (by omega)).mono ?_
  rintro e w2 ⟨y1, ⟨_, _⟩, rfl, hs, hg⟩
  have HS2 := Lib.hid hs
  clear hs hg
  go_wp2_with fail
  refine (range_any W0 _ _ _ _ HS2.out (by omega) (by omega) (by omega)).mono ?_
  rintro e w3 ⟨m1, ⟨_, _⟩, rfl, hs, hg⟩
  have HS3 := Lib.hid hs
  clear hs hg
  go_wp2_with fail
  refine (range_any W0 _ _ _ _ HS3.out (by omega) (by omega) (by omega)).mono ?_
  rintro e w4 ⟨d1, ⟨_, _⟩, rfl, hs, hg⟩
  have HS4 := Lib.hid hs
  clear hs hg
  go_wp2_with fail
  refine (range_any W0 _ _ _ _ HS4.out (by omega) (by omega) (by omega)).mono ?_
  rintro e w5 ⟨h1, ⟨_, _⟩, rfl, hs, hg⟩
  have HS5 := Lib.hid hs
  clear hs hg
  go_wp2_with fail
  refine (range_any W0 _ _ _ _ HS5.out (by omega) (by omega) (by omega)).mono ?_
  rintro e w6 ⟨i1, ⟨_, _⟩, rfl, hs, hg⟩
  have HS6 := Lib.hid hs
  clear hs hg
  have hB6 := HB0.out.below HS6.out.1 HB0.out.lt
  have hv0 := hB6.cell 0
  have hv1 := hB6.cell 1
  have hv2 := hB6.cell 2
  have hv3 := hB6.cell 3
  have hv4 := hB6.cell 4
  have hl6 := hB6.lt
  simp at hv0 hv1 hv2 hv3 hv4
  clear HS1 HS2 HS3 HS4 HS5 hB6
  go_wp2_with fail
  have hs7 := HS6.out.below ((((Below.refl _ w6).alloc (Nat.le_refl _) (.cells #[.int .i64 y1, .int .i64 m1, .int .i64 d1, .int .i64 h1, .int .i64 i1] 23))).alloc (by simp) (.cells #[.int .i64 y0, .int .i64 m0, .int .i64 d0, .int .i64 h0, .int .i64 i0, .int .i64 y1, .int .i64 m1, .int .i64 d1, .int .i64 h1, .int .i64 i1] 23))
  have hB7 : Blk ((w6.alloc (.cells #[.int .i64 y1, .int .i64 m1, .int .i64 d1, .int .i64 h1, .int .i64 i1] 23)).alloc (.cells #[.int .i64 y0, .int .i64 m0, .int .i64 d0, .int .i64 h0, .int .i64 i0, .int .i64 y1, .int .i64 m1, .int .i64 d1, .int .i64 h1, .int .i64 i1] 23)) (w6.heap.size + 1) #[.int .i64 y0, .int .i64 m0, .int .i64 d0, .int .i64 h0, .int .i64 i0, .int .i64 y1, .int .i64 m1, .int .i64 d1, .int .i64 h1, .int .i64 i1] := Blk.new' _ _ _ (by simp)
  clear hv0 hv1 hv2 hv3 hv4 HS6
  generalize (w6.alloc (.cells #[.int .i64 y1, .int .i64 m1, .int .i64 d1, .int .i64 h1, .int .i64 i1] 23)).alloc (.cells #[.int .i64 y0, .int .i64 m0, .int .i64 d0, .int .i64 h0, .int .i64 i0, .int .i64 y1, .int .i64 m1, .int .i64 d1, .int .i64 h1, .int .i64 i1] 23) = W1 at hs7 hB7 ⊢
  generalize w6.heap.size + 1 = g at hB7 ⊢
  have HS7 := Lib.hid hs7
  have HB7 := Lib.hid hB7
  clear hs7 hB7
  go_loopw [38] (fun k wr => ∃ j : Int, 0 ≤ j ∧ j ≤ 2 ∧ k = .int .i64 j ∧ SrcS W0 wr gs ∧ Blk wr g #[.int .i64 y0, .int .i64 m0, .int .i64 d0, .int .i64 h0, .int .i64 i0, .int .i64 y1, .int .i64 m1, .int .i64 d1, .int .i64 h1, .int .i64 i1]) (fun k _ => (2 - intOf k).toNat)
  case atStart => exact ⟨0, by omega, by omega, rfl, HS7.out, HB7.out⟩
  case round =>
    obtain ⟨j, j0, j1, rfl, hs, hB⟩ := hrel
    clear HS7 HB7
    have HS := Lib.hid hs
    have HB := Lib.hid hB
    clear hs hB
    rcases Int.lt_or_le j 2 with hlt | hge
    · go_upto_region 5 with fail
      go_cut [10] (fun s10 wx => ∃ (b : Nat) (y m d h i : Int), s10 = .pointer (some ⟨b, 0, none⟩) ∧ Blk wx b #[.int .i64 y, .int .i64 m, .int .i64 d, .int .i64 h, .int .i64 i] ∧ Blk wx g #[.int .i64 y0, .int .i64 m0, .int .i64 d0, .int .i64 h0, .int .i64 i0, .int .i64 y1, .int .i64 m1, .int .i64 d1, .int .i64 h1, .int .i64 i1] ∧ SrcS W0 wx gs)
      case first =>
        have hB := HB.out
        have hv0 := hB.cell 0
        have hv1 := hB.cell 1
        have hv2 := hB.cell 2
        have hv3 := hB.cell 3
        have hv4 := hB.cell 4
        have hv5 := hB.cell 5
        have hv6 := hB.cell 6
        have hv7 := hB.cell 7
        have hv8 := hB.cell 8
        have hv9 := hB.cell 9
        simp at hv0 hv1 hv2 hv3 hv4 hv5 hv6 hv7 hv8 hv9
        rcases (by omega : j = 0 ∨ j = 1) with rfl | rfl
        all_goals
          go_wp2_with fail
          go_meet
          refine ⟨_, _, _, _, _, _, rfl, by (repeat' (first | with_reducible assumption | with_reducible exact Blk.new _ _ _ | ((with_reducible refine Blk.new' _ _ _ ?_); (simp; done)) | with_reducible refine Blk.alloc ?_ _ | with_reducible refine Blk.drewN ?_ _ | with_reducible refine Blk.drew ?_ | with_reducible apply Blk.put' | ((with_reducible refine Blk.away ?_ ?_ _ _); rotate_left; omega) | rfl | omega)), by (repeat' (first | with_reducible assumption | with_reducible exact Blk.new _ _ _ | ((with_reducible refine Blk.new' _ _ _ ?_); (simp; done)) | with_reducible refine Blk.alloc ?_ _ | with_reducible refine Blk.drewN ?_ _ | with_reducible refine Blk.drew ?_ | with_reducible apply Blk.put' | ((with_reducible refine Blk.away ?_ ?_ _ _); rotate_left; omega) | rfl | omega)), HS.out.below ((Below.refl _ _).alloc (Nat.le_refl _) _)⟩
      case rest =>
      obtain ⟨b, y, m, d, h, i, rfl, hBb, hBg, hs⟩ := hcut
      clear HS HB
      obtain ⟨a, cc, hm1, hm2⟩ := minutes_both y m d h i
      have HM1 := Lib.hid hm1
      have HM2 := Lib.hid hm2
      have HBb := Lib.hid hBb
      have HBg := Lib.hid hBg
      have HS := Lib.hid hs
      have hv0 := hBb.cell 0
      have hv1 := hBb.cell 1
      have hv2 := hBb.cell 2
      have hv3 := hBb.cell 3
      have hv4 := hBb.cell 4
      simp at hv0 hv1 hv2 hv3 hv4
      have hlb := hBb.lt
      have hlg := hBg.lt
      clear hBb hBg hs hm1 hm2
      go_wp2_with fail
      refine (HM1.out _).mono ?_
      rintro e w8 ⟨rfl, hb8⟩
      have hBb := HBb.out.below hb8 hlb
      have hBg := HBg.out.below hb8 hlg
      have hs := HS.out.below hb8
      clear hb8 HBb HBg HS hlb hlg hv0 hv1 hv2 hv3 hv4
      have HBb := Lib.hid hBb
      have HBg := Lib.hid hBg
      have HS := Lib.hid hs
      have hv0 := hBb.cell 0
      have hv1 := hBb.cell 1
      have hv2 := hBb.cell 2
      have hv3 := hBb.cell 3
      have hv4 := hBb.cell 4
      simp at hv0 hv1 hv2 hv3 hv4
      have hlb := hBb.lt
      have hlg := hBg.lt
      clear hBb hBg hs
      go_wp2_with fail
      refine (HM2.out _).mono ?_
      rintro e w9 ⟨rfl, hb9⟩
      have hBb := HBb.out.below hb9 hlb
      have hBg := HBg.out.below hb9 hlg
      have hs := HS.out.below hb9
      clear hb9 HBb HBg HS hlb hlg hv0 hv1 hv2 hv3 hv4
      have HBg := Lib.hid hBg
      have HS := Lib.hid hs
      have hv0 := hBb.cell 0
      have hv1 := hBb.cell 1
      have hv2 := hBb.cell 2
      have hv3 := hBb.cell 3
      have hv4 := hBb.cell 4
      simp at hv0 hv1 hv2 hv3 hv4
      have hlb := hBb.lt
      have hlg := hBg.lt
      clear hBb hBg hs
      go_wp2_with fail
      refine wp_region_near (by kernel_rfl) (by kernel_rfl) ?_
      repeat (go_big_quiet_step ((first
        | (go_at_call 14; exact near_of (valid_any _ _ _ _ _ _))
        | (go_at_call 15; exact near_of (rvalid_any _ _ _ _ _ _))
        | (go_at_call 16; exact near_of (days_any _ _ _))
        | (go_at_call 17; exact near_same (rdays_any _ _ _)))))
      refine wpQuiet_nil ?_
      intro X
      have HBg1 := Lib.hid (HBg.out.below X.h hlg)
      have HS1 := Lib.hid (HS.out.below X.h)
      clear hlb hlg hv0 hv1 hv2 hv3 hv4 HBg HS
      generalize X.w = w10 at *
      clear X
      go_wp2_with fail
      go_roundw
      case rel => exact ⟨j + 1, by omega, by omega, by go_num, HS1.out, HBg1.out⟩
      case measure => simp [intOf]; omega
    · obtain rfl : j = 2 := by omega
      go_wp2_with fail
      refine (minute_any W0 _ _ HS.out).mono ?_
      rintro e w11 ⟨X, _, rfl, hs11, hg11⟩
      have hs12 := hs11.below ((Below.refl _ w11).alloc (Nat.le_refl _) (.cells #[.int .i64 n, .int .i64 X] 3))
      have hB12 : Blk (w11.alloc (.cells #[.int .i64 n, .int .i64 X] 3)) w11.heap.size #[.int .i64 n, .int .i64 X] := Blk.new _ _ _
      have hx12 := HW0.out.trans (hs12.1.mono HW0.out.size)
      clear hs11 hg11 hs12 HS HB
      go_wp2_with fail
      generalize w11.alloc (.cells #[.int .i64 n, .int .i64 X] 3) = W2 at *
      generalize w11.heap.size = g2 at *
      have HB12 := Lib.hid hB12
      have HX12 := Lib.hid hx12
      clear hB12 hx12
      go_loopw [86] (fun k wr => ∃ j : Int, 0 ≤ j ∧ j ≤ 2 ∧ k = .int .i64 j ∧ Blk wr g2 #[.int .i64 n, .int .i64 X] ∧ Below w.heap.size w wr) (fun k _ => (2 - intOf k).toNat)
      case atStart => exact ⟨0, by omega, by omega, rfl, HB12.out, HX12.out⟩
      case round =>
        obtain ⟨j, j0, j1, rfl, hB, hbx⟩ := hrel
        clear HB12 HX12
        have HB := Lib.hid hB
        have HX := Lib.hid hbx
        have hlb := hB.lt
        clear hB hbx
        rcases Int.lt_or_le j 2 with hlt | hge
        · go_upto_region 13 with fail
          go_cut [16] (fun s16 wx => ∃ Y : Int, s16 = .int .i64 Y ∧ Blk wx g2 #[.int .i64 n, .int .i64 X] ∧ Below w.heap.size w wx)
          case first =>
            have hv0 := HB.out.cell 0
            have hv1 := HB.out.cell 1
            simp at hv0 hv1
            rcases (by omega : j = 0 ∨ j = 1) with rfl | rfl
            all_goals
              go_wp2_with fail
              go_meet
              exact ⟨_, rfl, HB.out, HX.out⟩
          case rest =>
          obtain ⟨Y, rfl, hB, hbx⟩ := hcut
          clear HB HX hlb
          obtain ⟨y, m, d, h, i, cc, hd1, hd2⟩ := dates_both Y
          have HD1 := Lib.hid hd1
          have HD2 := Lib.hid hd2
          have HB := Lib.hid hB
          have HX := Lib.hid hbx
          have hlb := hB.lt
          clear hB hbx hd1 hd2
          go_wp2_with fail
          refine (HD1.out _).mono ?_
          rintro e w13 ⟨rfl, hb13⟩
          have hB := (HB.out.below hb13 hlb).alloc (.cells #[.int .i64 y, .int .i64 m, .int .i64 d, .int .i64 h, .int .i64 i] 23)
          have hx := HX.out.trans (hb13.mono HX.out.size)
          have hx2 := hx.alloc hx.size (.cells #[.int .i64 y, .int .i64 m, .int .i64 d, .int .i64 h, .int .i64 i] 23)
          have hC : Blk (w13.alloc (.cells #[.int .i64 y, .int .i64 m, .int .i64 d, .int .i64 h, .int .i64 i] 23)) w13.heap.size #[.int .i64 y, .int .i64 m, .int .i64 d, .int .i64 h, .int .i64 i] := Blk.new _ _ _
          clear HB HX hlb hb13 hx
          have HB := Lib.hid hB
          have HX := Lib.hid hx2
          have HC := Lib.hid hC
          have hlb := hB.lt
          have hlc := hC.lt
          clear hB hx2 hC
          go_wp2_with fail
          refine (HD2.out _).mono ?_
          rintro e w14 ⟨rfl, hb14⟩
          have hB := (HB.out.below hb14 hlb).alloc (.cells #[.int .i64 y, .int .i64 m, .int .i64 d, .int .i64 h, .int .i64 i] 23)
          have hx := HX.out.trans (hb14.mono HX.out.size)
          have hx2 := hx.alloc hx.size (.cells #[.int .i64 y, .int .i64 m, .int .i64 d, .int .i64 h, .int .i64 i] 23)
          have hC := HC.out.below hb14 hlc
          clear HB HX HC hlb hlc hb14 hx
          have HB := Lib.hid hB
          have HX := Lib.hid hx2
          have hv0 := hC.cell 0
          have hv1 := hC.cell 1
          have hv2 := hC.cell 2
          have hv3 := hC.cell 3
          have hv4 := hC.cell 4
          have hlc := hC.lt
          simp at hv0 hv1 hv2 hv3 hv4
          clear hB hx2 hC
          go_wp2_with fail
          go_roundw
          case rel => exact ⟨j + 1, by omega, by omega, by go_num, HB.out, HX.out⟩
          case measure => simp [intOf]; omega
        · obtain rfl : j = 2 := by omega
          go_wp2_with ((go_at_call 21; refine (awake_any _).mono ?_; rintro e w15 ⟨rfl, hb15⟩))
          go_ret
          exact ⟨rfl, HX.out.trans (hb15.mono HX.out.size)⟩
end Go.Proofs.Ytnfdpjckdiifkaa
