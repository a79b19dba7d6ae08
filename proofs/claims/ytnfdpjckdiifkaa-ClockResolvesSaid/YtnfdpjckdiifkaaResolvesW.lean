/-
  The walk of ClockResolves: it returns true for any arguments.
-/
import Derived.Test.YtnfdpjckdiifkaaAwake
import Derived.Test.YtnfdpjckdiifkaaRdate
import Derived.Test.YtnfdpjckdiifkaaRresolve
import Derived.Test.YtnfdpjckdiifkaaSrc
import Derived.Test.YtnfdpjckdiifkaaTool
import Derived.Deep.DeepCutAuto
namespace Go.Proofs.Ytnfdpjckdiifkaa
open Go.RowKit Txt Cal

theorem rresolve_at {d h i x n : Int} (hx : inB x = true) (hd : 1 ≤ d) (hd' : d ≤ 31) (ht : timeB h i = true) (hn : Nearest d h i x n) (w : World) :
    Calls Try.prog 28 #[.int .i64 d, .int .i64 h, .int .i64 i, .int .i64 x] w fun e w' => e = .returned (.tuple #[.int .i64 n, .int .i64 0]) ∧ Below w.heap.size w w' := by
  refine (rresolve_ok d h i x w hx hd hd' ht).mono ?_
  rintro e w' ⟨n', rfl, hn', hb⟩
  exact ⟨ret_tup (hn'.unique hn) rfl, hb⟩

/-- no date with the day and the time is nearer -/
theorem no_nearer {d h i x n y' m' h' i' M q : Int} (hN : Nearest d h i x n) (h0 : 0 ≤ h) (h1 : h ≤ 23) (i0 : 0 ≤ i) (i1 : i ≤ 59) (v : vld y' m' d h' i' = true) (e : mnt y' m' d h' i' = M) (hq : M = q * 1440 + h * 60 + i) :
    dist n x < dist M x ∨ (dist n x = dist M x ∧ n ≤ M) := by
  obtain ⟨g1, g2, g3, g4, g5, g6, g7, g8, g9, g10, g11⟩ := vld_all v
  have hm : ∃ k : Int, mnt y' m' d h' i' = k * 1440 + h' * 60 + i' := ⟨_, rfl⟩
  obtain ⟨k, hk⟩ := hm
  have e1 : h' = h := by omega
  have e2 : i' = i := by omega
  subst e1 e2
  have := hN.2 (jdx y' m') ⟨by unfold jdx; omega, by unfold jdx; omega, by rw [dimj_jdx g3 g4]; exact g6⟩
  rw [cm_of g3 g4, e] at this
  exact this

set_option maxRecDepth 20000 in
set_option maxHeartbeats 4000000 in
theorem clockResolves_walk (w : World) (p0 p1 p2 p3 : Int) (A : Option Addr) (len c : Nat) (hS : SliceIn w A len c) :
    Calls Try.prog 5 #[.int .i64 p0, .int .i64 p1, .int .i64 p2, .int .i64 p3, .slice A len c] w fun e w' => e = .returned (.bool true) ∧ Below w.heap.size w w' := by
  go_enter Try.func5, Try.ntmps5
  go_wp2_with fail
  refine (new_any _ _ _ _ hS).mono ?_
  rintro e w1 ⟨rfl, hs1, hb1⟩
  have HS1 := Lib.hid hs1
  clear hs1 hS hb1
  go_wp2_with fail
  refine (range_any w _ _ _ _ HS1.out (by omega) (by omega) (by omega)).mono ?_
  rintro e w2 ⟨q0, ⟨_, _⟩, rfl, hs, hg⟩
  have HS2 := Lib.hid hs
  clear hs hg
  go_wp2_with fail
  refine (n_any w _ _ _ HS2.out (by omega) (by omega)).mono ?_
  rintro e w3 ⟨q1, ⟨_, _⟩, rfl, hs, hg⟩
  have HS3 := Lib.hid hs
  clear hs hg
  go_wp2_with fail
  refine (n_any w _ _ _ HS3.out (by omega) (by omega)).mono ?_
  rintro e w4 ⟨q2, ⟨_, _⟩, rfl, hs, hg⟩
  have HS4 := Lib.hid hs
  clear hs hg
  go_wp2_with fail
  refine (minute_any w _ _ HS4.out).mono ?_
  rintro e w5 ⟨q3, ⟨_, _⟩, rfl, hs, hg⟩
  have HS5 := Lib.hid hs
  clear hs hg
  go_wp2_with fail
  refine (range_any w _ _ _ _ HS5.out (by omega) (by omega) (by omega)).mono ?_
  rintro e w6 ⟨r0, ⟨_, _⟩, rfl, hs, hg⟩
  have HS6 := Lib.hid hs
  clear hs hg
  go_wp2_with fail
  refine (n_any w _ _ _ HS6.out (by omega) (by omega)).mono ?_
  rintro e w7 ⟨r1, ⟨_, _⟩, rfl, hs, hg⟩
  have HS7 := Lib.hid hs
  clear hs hg
  go_wp2_with fail
  refine (n_any w _ _ _ HS7.out (by omega) (by omega)).mono ?_
  rintro e w8 ⟨r2, ⟨_, _⟩, rfl, hs, hg⟩
  have HS8 := Lib.hid hs
  clear hs hg
  go_wp2_with fail
  refine (raw_any w _ _ HS8.out).mono ?_
  rintro e w9 ⟨rr, _, rfl, hs, hg⟩
  have HS9 := Lib.hid hs
  clear hs hg
  go_wp2_with fail
  refine (mod_any _ _ _ (by omega) (by omega)).mono ?_
  rintro e w9' ⟨r3, ⟨_, _⟩, rfl, rfl⟩
  have hb9 := HS9.out.1
  clear HS1 HS2 HS3 HS4 HS5 HS6 HS7 HS8 HS9
  go_wp2_with fail
  have hB0 : Blk (w9.alloc (.cells #[.int .i64 p0, .int .i64 p1, .int .i64 p2, .int .i64 p3, .int .i64 q0, .int .i64 q1, .int .i64 q2, .int .i64 q3, .int .i64 r0, .int .i64 r1, .int .i64 r2, .int .i64 r3] 42)) w9.heap.size #[.int .i64 p0, .int .i64 p1, .int .i64 p2, .int .i64 p3, .int .i64 q0, .int .i64 q1, .int .i64 q2, .int .i64 q3, .int .i64 r0, .int .i64 r1, .int .i64 r2, .int .i64 r3] := Blk.new _ _ _
  have hX0 := hb9.alloc hb9.size (.cells #[.int .i64 p0, .int .i64 p1, .int .i64 p2, .int .i64 p3, .int .i64 q0, .int .i64 q1, .int .i64 q2, .int .i64 q3, .int .i64 r0, .int .i64 r1, .int .i64 r2, .int .i64 r3] 42)
  have HG := Lib.hid hb9.size
  have HB0 := Lib.hid hB0
  have HX0 := Lib.hid hX0
  clear hB0 hX0 hb9
  generalize w9.heap.size = g at *
  generalize w9.alloc (.cells #[.int .i64 p0, .int .i64 p1, .int .i64 p2, .int .i64 p3, .int .i64 q0, .int .i64 q1, .int .i64 q2, .int .i64 q3, .int .i64 r0, .int .i64 r1, .int .i64 r2, .int .i64 r3] 42) = W0 at *
  go_loopw [52] (fun k wr => ∃ j : Int, 0 ≤ j ∧ j ≤ 3 ∧ k = .int .i64 j ∧ Blk wr g #[.int .i64 p0, .int .i64 p1, .int .i64 p2, .int .i64 p3, .int .i64 q0, .int .i64 q1, .int .i64 q2, .int .i64 q3, .int .i64 r0, .int .i64 r1, .int .i64 r2, .int .i64 r3] ∧ Below w.heap.size w wr) (fun k _ => (3 - intOf k).toNat)
  case atStart => exact ⟨0, by omega, by omega, rfl, HB0.out, HX0.out⟩
  case round =>
    obtain ⟨j, j0, j1, rfl, hB, hbx⟩ := hrel
    clear HB0 HX0
    rcases Int.lt_or_le j 3 with hlt | hge
    · have HX := Lib.hid hB
      have HY := Lib.hid hbx
      clear hB hbx
      go_upto_region 4 with fail
      go_cut [13] (fun s13 wx => ∃ (b : Nat) (d h i x : Int), s13 = .pointer (some ⟨b, 0, none⟩) ∧ b ≠ g ∧ w.heap.size ≤ b ∧ Blk wx b #[.int .i64 d, .int .i64 h, .int .i64 i, .int .i64 x] ∧ Blk wx g #[.int .i64 p0, .int .i64 p1, .int .i64 p2, .int .i64 p3, .int .i64 q0, .int .i64 q1, .int .i64 q2, .int .i64 q3, .int .i64 r0, .int .i64 r1, .int .i64 r2, .int .i64 r3] ∧ Below w.heap.size w wx)
      case first =>
        have hB := HX.out
        have hbx := HY.out
        have hsz := hbx.size
        have hlt2 := hB.lt
        have hv0 := hB.cell 0
        have hv1 := hB.cell 1
        have hv2 := hB.cell 2
        have hv3 := hB.cell 3
        have hv4 := hB.cell 4
        have hv5 := hB.cell 5
        have hv6 := hB.cell 6
        have hv7 := hB.cell 7
        have hv8 := hB.cell 8
        have hv9 := hB.cell 9
        have hv10 := hB.cell 10
        have hv11 := hB.cell 11
        simp at hv0 hv1 hv2 hv3 hv4 hv5 hv6 hv7 hv8 hv9 hv10 hv11
        rcases (by omega : j = 0 ∨ j = 1 ∨ j = 2) with rfl | rfl | rfl
        all_goals
          go_wp2_with fail
          go_meet
          refine ⟨_, _, _, _, _, rfl, ?_, ?_, by (repeat' (first | with_reducible assumption | with_reducible exact Blk.new _ _ _ | ((with_reducible refine Blk.new' _ _ _ ?_); (simp; done)) | with_reducible refine Blk.alloc ?_ _ | with_reducible refine Blk.drewN ?_ _ | with_reducible refine Blk.drew ?_ | with_reducible apply Blk.put' | ((with_reducible refine Blk.away ?_ ?_ _ _); rotate_left; omega) | rfl | omega)), by (repeat' (first | with_reducible assumption | with_reducible exact Blk.new _ _ _ | ((with_reducible refine Blk.new' _ _ _ ?_); (simp; done)) | with_reducible refine Blk.alloc ?_ _ | with_reducible refine Blk.drewN ?_ _ | with_reducible refine Blk.drew ?_ | with_reducible apply Blk.put' | ((with_reducible refine Blk.away ?_ ?_ _ _); rotate_left; omega) | rfl | omega)), by (repeat' (first | with_reducible assumption | with_reducible exact Below.refl _ _ | with_reducible refine Below.alloc ?_ ?_ _ | with_reducible refine Below.setCell ?_ ?_ _ | with_reducible refine Below.drew ?_ | with_reducible refine below_drewN ?_ _ | omega | (simp; done) | (simp; omega)))⟩
          · omega
          · omega
      case rest =>
      obtain ⟨b, d, h, i, x, rfl, hbg, hwb, hBb, hBg, hbx⟩ := hcut
      have HBb := Lib.hid hBb
      have HBg := Lib.hid hBg
      have HBx := Lib.hid hbx
      have hv0 := hBb.cell 0
      have hv1 := hBb.cell 1
      have hv2 := hBb.cell 2
      have hv3 := hBb.cell 3
      have hlb := hBb.lt
      have hlg := hBg.lt
      simp at hv0 hv1 hv2 hv3
      clear hBb hBg hbx
      rcases hres : resB d h i x with _ | _
      · have hr' : ((1 ≤ d ∧ d ≤ 31) ∧ timeB h i = true) ∧ inB x = true := by simpa [resB] using hres
        obtain ⟨⟨⟨hd0, hd1⟩, ht⟩, hx⟩ := hr'
        have htt : 0 ≤ h ∧ h ≤ 23 ∧ 0 ≤ i ∧ i ≤ 59 := by simpa [timeB] using ht
        obtain ⟨h0, h1, i0, i1⟩ := htt
        have hxx : 0 ≤ x ∧ x ≤ 52595999 := by simpa [inB] using hx
        obtain ⟨x0, x1⟩ := hxx
        have HT := Lib.hid ht
        have HX1 := Lib.hid hx
        clear hres ht hx
        go_wp2_with fail
        refine (resolve_ok d h i x _ HX1.out hd0 hd1 HT.out).mono ?_
        rintro e w10 ⟨a, rfl, hn, hb10⟩
        have HN := Lib.hid hn
        have hBb := HBb.out.below hb10 hlb
        have hBg := HBg.out.below hb10 hlg
        have HBx1 := Lib.hid (HBx.out.trans (hb10.mono HBx.out.size))
        clear hv0 hv1 hv2 hv3 hb10 hlb hlg HBb HBg HBx hn
        have HBb := Lib.hid hBb
        have HBg := Lib.hid hBg
        have hv0 := hBb.cell 0
        have hv1 := hBb.cell 1
        have hv2 := hBb.cell 2
        have hv3 := hBb.cell 3
        have hlb := hBb.lt
        have hlg := hBg.lt
        simp at hv0 hv1 hv2 hv3
        clear hBb hBg
        go_wp2_with fail
        refine (rresolve_at HX1.out hd0 hd1 HT.out HN.out _).mono ?_
        rintro e w11 ⟨rfl, hb11⟩
        have hBb := HBb.out.below hb11 hlb
        have hBg := HBg.out.below hb11 hlg
        have HBx := Lib.hid (HBx1.out.trans (hb11.mono HBx1.out.size))
        clear hv0 hv1 hv2 hv3 hb11 hlb hlg HBb HBg HBx1
        have HBb := Lib.hid hBb
        have HBg := Lib.hid hBg
        have hv0 := hBb.cell 0
        have hv1 := hBb.cell 1
        have hv2 := hBb.cell 2
        have hv3 := hBb.cell 3
        have hlb := hBb.lt
        have hlg := hBg.lt
        simp at hv0 hv1 hv2 hv3
        clear hBb hBg
        have hab : 0 ≤ a ∧ a ≤ 52595999 := by
          obtain ⟨⟨jj, hj, rfl⟩, _⟩ := HN.out
          exact mnt_bd (vld_has hd0 h0 h1 i0 i1 jj hj)
        obtain ⟨a0, a1⟩ := hab
        go_upto_region 10 with fail
        go_cut [18] (fun s18 wx => ∃ far : Int, s18 = .int .i64 far ∧ far = dist a x ∧ Blk wx b #[.int .i64 d, .int .i64 h, .int .i64 i, .int .i64 x] ∧ Blk wx g #[.int .i64 p0, .int .i64 p1, .int .i64 p2, .int .i64 p3, .int .i64 q0, .int .i64 q1, .int .i64 q2, .int .i64 q3, .int .i64 r0, .int .i64 r1, .int .i64 r2, .int .i64 r3] ∧ Below w.heap.size w wx)
        case first =>
          go_wp2_with fail
          all_goals
            go_meet
            refine ⟨_, rfl, ?_, HBb.out, HBg.out, HBx.out⟩
            unfold dist
            split <;> omega
        case rest =>
        obtain ⟨far, rfl, hfar, hBb, hBg, hbx⟩ := hcut
        clear hv0 hv1 hv2 hv3 hlb hlg HBb HBg HBx
        have HBb := Lib.hid hBb
        have HBg := Lib.hid hBg
        have HBx := Lib.hid hbx
        have HFAR := Lib.hid hfar
        clear hBb hBg hbx hfar
        go_wp2_with fail
        go_loopw [19] (fun k wr => ∃ kk : Int, -70 ≤ kk ∧ kk ≤ 71 ∧ k = .int .i64 kk ∧ Blk wr b #[.int .i64 d, .int .i64 h, .int .i64 i, .int .i64 x] ∧ Blk wr g #[.int .i64 p0, .int .i64 p1, .int .i64 p2, .int .i64 p3, .int .i64 q0, .int .i64 q1, .int .i64 q2, .int .i64 q3, .int .i64 r0, .int .i64 r1, .int .i64 r2, .int .i64 r3] ∧ Below w.heap.size w wr) (fun k _ => (71 - intOf k).toNat)
        case atStart => exact ⟨-70, by omega, by omega, rfl, HBb.out, HBg.out, HBx.out⟩
        case round =>
          obtain ⟨kk, k0, k1, rfl, hBb, hBg, hbx⟩ := hrel
          clear HBb HBg HBx
          have HBb := Lib.hid hBb
          have HBg := Lib.hid hBg
          have HBx := Lib.hid hbx
          rcases Int.lt_or_le kk 71 with hk | hk
          · have hk' : kk ≤ 70 := by omega
            have hv0 := hBb.cell 0
            have hv1 := hBb.cell 1
            have hv2 := hBb.cell 2
            have hv3 := hBb.cell 3
            have hlb := hBb.lt
            have hlg := hBg.lt
            simp at hv0 hv1 hv2 hv3
            clear hBb hBg hbx
            go_wp2_with fail
            generalize hM : (x / 1440 + kk) * 1440 + h * 60 + i = M
            have HM := Lib.hid hM
            clear hM
            rcases hin : inB M with _ | _
            · have HIN := Lib.hid hin
              clear hin
              refine (rdate_no _ _ HIN.out).mono ?_
              rintro e w12 ⟨rfl, hb12⟩
              have HBb1 := Lib.hid (HBb.out.below hb12 hlb)
              have HBg1 := Lib.hid (HBg.out.below hb12 hlg)
              have hbx := HBx.out.trans (hb12.mono HBx.out.size)
              have HBx1 := Lib.hid (hbx.alloc hbx.size (.cells #[.int .i64 0, .int .i64 0, .int .i64 0, .int .i64 0, .int .i64 0] 23))
              clear hv0 hv1 hv2 hv3 hb12 hbx
              go_wp2_with fail
              go_roundw
              case rel => exact ⟨kk + 1, by omega, by omega, by go_num, HBb1.out.alloc _, HBg1.out.alloc _, HBx1.out⟩
              case measure => simp [intOf]; omega
            · have HIN := Lib.hid hin
              have hmm : 0 ≤ M ∧ M ≤ 52595999 := by simpa [inB] using hin
              obtain ⟨m0, m1⟩ := hmm
              clear hin
              refine (rdate_ok _ _ HIN.out).mono ?_
              rintro e w12 ⟨y', m', d', h', i', rfl, hv', hm', hb12⟩
              have HV' := Lib.hid hv'
              have HM' := Lib.hid hm'
              have hBb := HBb.out.below hb12 hlb
              have hBg := HBg.out.below hb12 hlg
              have hbx := HBx.out.trans (hb12.mono HBx.out.size)
              have HBx1 := Lib.hid (hbx.alloc hbx.size (.cells #[.int .i64 y', .int .i64 m', .int .i64 d', .int .i64 h', .int .i64 i'] 23))
              clear hv' hm' hv0 hv1 hv2 hv3 hlb hlg hb12 hbx
              have HBb1 := Lib.hid hBb
              have HBg1 := Lib.hid hBg
              have hv0 := hBb.cell 0
              have hv1 := hBb.cell 1
              have hv2 := hBb.cell 2
              have hv3 := hBb.cell 3
              have hlb := hBb.lt
              have hlg := hBg.lt
              simp at hv0 hv1 hv2 hv3
              clear hBb hBg
              by_cases hdd : d' = d
              · subst hdd
                have hnn := no_nearer HN.out h0 h1 i0 i1 HV'.out HM'.out HM.out.symm
                have HNN := Lib.hid hnn
                clear hnn
                go_upto_region 17 with fail
                go_cut [23] (fun s23 wx => ∃ dd : Int, s23 = .int .i64 dd ∧ dd = dist M x ∧ Blk wx b #[.int .i64 d', .int .i64 h, .int .i64 i, .int .i64 x] ∧ Blk wx g #[.int .i64 p0, .int .i64 p1, .int .i64 p2, .int .i64 p3, .int .i64 q0, .int .i64 q1, .int .i64 q2, .int .i64 q3, .int .i64 r0, .int .i64 r1, .int .i64 r2, .int .i64 r3] ∧ Below w.heap.size w wx)
                case first =>
                  go_wp2_with fail
                  all_goals
                    go_meet
                    refine ⟨_, rfl, ?_, HBb1.out.alloc _, HBg1.out.alloc _, HBx1.out⟩
                    unfold dist
                    split <;> omega
                case rest =>
                obtain ⟨dd, rfl, hdd, hBb, hBg, hbx⟩ := hcut
                clear hv0 hv1 hv2 hv3 hlb hlg HBb HBg HBx HBb1 HBg1 HBx1
                have HBb := Lib.hid hBb
                have HBg := Lib.hid hBg
                have HBx := Lib.hid hbx
                have hz := HNN.out
                rw [← hdd, ← HFAR.out] at hz
                clear hBb hBg hbx hdd
                have t1 : decide (dd < far) = false := by simp; omega
                rcases hz with hz | ⟨hz, hz2⟩
                · have t2 : (dd == far) = false := by rw [beq_eq_false_iff_ne]; omega
                  clear hz
                  go_wp2_with fail
                  go_roundw
                  case rel => exact ⟨kk + 1, by omega, by omega, by go_num, HBb.out, HBg.out, HBx.out⟩
                  case measure => simp [intOf]; omega
                · have t2 : (dd == far) = true := by rw [beq_iff_eq]; omega
                  have t3 : decide (M < a) = false := by simp; omega
                  clear hz hz2
                  go_wp2_with fail
                  go_roundw
                  case rel => exact ⟨kk + 1, by omega, by omega, by go_num, HBb.out, HBg.out, HBx.out⟩
                  case measure => simp [intOf]; omega
              · have t1 : (d' != d) = true := by simpa using hdd
                clear hdd
                go_wp2_with fail
                go_roundw
                case rel => exact ⟨kk + 1, by omega, by omega, by go_num, HBb1.out.alloc _, HBg1.out.alloc _, HBx1.out⟩
                case measure => simp [intOf]; omega
          · obtain rfl : kk = 71 := by omega
            clear hBb hBg hbx
            go_wp2_with fail
            go_roundw
            case rel => exact ⟨j + 1, by omega, by omega, by go_num, HBg.out, HBx.out⟩
            case measure => simp [intOf]; omega
      · have HRES := Lib.hid hres
        clear hres
        go_wp2_with fail
        refine (resolve_no d h i x _ HRES.out).mono ?_
        rintro e w10 ⟨rfl, hb10⟩
        have hBb := HBb.out.below hb10 hlb
        have hBg := HBg.out.below hb10 hlg
        have HBx1 := Lib.hid (HBx.out.trans (hb10.mono HBx.out.size))
        clear hv0 hv1 hv2 hv3 hb10 hlb hlg HBb HBg HBx
        have HBb := Lib.hid hBb
        have HBg := Lib.hid hBg
        have hv0 := hBb.cell 0
        have hv1 := hBb.cell 1
        have hv2 := hBb.cell 2
        have hv3 := hBb.cell 3
        have hlb := hBb.lt
        have hlg := hBg.lt
        simp at hv0 hv1 hv2 hv3
        clear hBb hBg
        go_wp2_with fail
        refine (rresolve_no d h i x _ HRES.out).mono ?_
        rintro e w11 ⟨rfl, hb11⟩
        have HBg1 := Lib.hid (HBg.out.below hb11 hlg)
        have HBx2 := Lib.hid (HBx1.out.trans (hb11.mono HBx1.out.size))
        clear hv0 hv1 hv2 hv3 hb11
        go_wp2_with fail
        go_roundw
        case rel => exact ⟨j + 1, by omega, by omega, by go_num, HBg1.out, HBx2.out⟩
        case measure => simp [intOf]; omega
    · obtain rfl : j = 3 := by omega
      have HY := Lib.hid hbx
      clear hB hbx
      go_wp2_with ((go_at_call 21; refine (awake_any _).mono ?_; rintro e w9 ⟨rfl, hb9⟩))
      go_ret
      exact ⟨rfl, HY.out.trans (hb9.mono HY.out.size)⟩
end Go.Proofs.Ytnfdpjckdiifkaa
