/-
  The walk of ElementParts: it returns true for any arguments.
-/
import Derived.Test.YtpjnlbippcgnoaaDoorPv
namespace Go.Proofs.YtpjnlbippcgnoaaDoor
open Go.RowKit Go.Proofs.YtpjnlbippcgnoaaDoorW.PrintWords PElementAnswers

set_option maxRecDepth 20000 in
set_option maxHeartbeats 4000000 in
theorem elementParts_walk (W : World) (A1 A2 : Option Addr) (l codes : List Int) (c1 c2 : Nat) (hB : Bnd W) (h1 : Kd.C (Kd.int .i64) W A1 l.length l) (hc1 : l.length ≤ c1) (h2 : Kd.C (Kd.int .i64) W A2 codes.length codes) :
    Calls Tryd.prog 7 #[.slice A1 l.length c1, .slice A2 codes.length c2] W fun e w' => e = .returned (.bool true) ∧ Below W.heap.size W w' := by
  have HB := Lib.hid hB
  have H1 := Lib.hid h1
  have H2 := Lib.hid h2
  clear hB h1 h2
  have h0 := HB.out.lt
  by_cases ht : (60 : Int) < (codes.length : Int)
  · go_enter Tryd.func7, Tryd.ntmps7
    go_wp2_with ((go_at_call 8; refine (awake_any _ HB.out).mono ?_; rintro e w1 ⟨rfl, hb1⟩))
    go_ret
    exact ⟨rfl, hb1⟩
  obtain ⟨l', en, hs⟩ := new_p l
  have HS := Lib.hid hs
  have HE := Lib.hid en
  have hcl : codes.length ≤ 60 := by omega
  clear hs en
  go_enter Tryd.func7, Tryd.ntmps7
  go_wp2_with fail
  refine (synoptickeep_New.calls A1 c1 l _ _ W W (Below.refl _ _) H1.out hc1 HE.out).mono ?_
  rintro e w1 ⟨g, rfl, hi1, hb1, _⟩
  have HI1 := Lib.hid hi1
  have HB1 := Lib.hid hb1
  clear hi1 hb1 ht
  obtain ⟨x, k2, ex, hx, hs2⟩ := list_p HS.out
  have HX := Lib.hid hx
  have HEX := Lib.hid ex
  have HS2 := Lib.hid hs2
  clear hx ex hs2
  go_wp2_with fail
  refine (synopticref04_List.calls 12 g l' 0 x k2 W _ HI1.out HB1.out HEX.out).mono ?_
  rintro e w2 ⟨v2, rfl, hr2, hi2, hb2, _⟩
  have HI2 := Lib.hid hi2
  have HB2 := Lib.hid hb2
  obtain ⟨AX, cX, rfl, hlX, _⟩ := Kd.R_reads hr2
  have HR2 := Lib.hid (Kd.R_mono (ok' := fun k => k ≠ g) (IsS62.apart hi2 (Kd.R_lower hr2 HB1.out.size) (by decide)) (fun _ h => h.2))
  clear hi2 hb2 hr2
  obtain ⟨q3, k3, e3, q30, q31, hs3⟩ := range_p (lo := 1) (hi := 11) HS2.out (by omega) (by omega) (by omega)
  have HE3 := Lib.hid e3
  have HS3 := Lib.hid hs3
  clear e3 hs3
  go_wp2_with fail
  refine (synoptickeep_Src_Range.calls g l' k2 1 11 q3 k3 W _ HI2.out HB2.out HE3.out).mono ?_
  rintro e w3 ⟨rfl, hi3, hb3, hk3⟩
  have HI3 := Lib.hid hi3
  have HB3 := Lib.hid hb3
  have HR3 := Lib.hid (Kd.R_keep HR2.out hk3 (fun _ h => h))
  clear hi3 hb3 hk3
  obtain ⟨q4, k4, e4, q40, q41, hs4⟩ := range_p (lo := 1) (hi := 11) HS3.out (by omega) (by omega) (by omega)
  have HE4 := Lib.hid e4
  clear e4 hs4
  go_wp2_with fail
  refine (synoptickeep_Src_Range.calls g l' k3 1 11 q4 k4 W _ HI3.out HB3.out HE4.out).mono ?_
  rintro e w4 ⟨rfl, hi4, hb4, hk4⟩
  have HB4 := Lib.hid hb4
  have HR4 := Lib.hid (Kd.R_keep HR3.out hk4 (fun _ h => h))
  clear hi4 hb4 hk4
  have HO := Lib.hid (Kd.R_of_own (enc := Value.int .i64) (h1 := fun _ => rfl) (ok := fun _ => True) (xs := [q3, q4]) (World.ownsRow_lit (e := 3) (base := w4.heap.size) (size := 1) w4 #[.int .i64 q3, .int .i64 q4] 2 (Nat.le_refl _) (by unfold maxLen; omega) rfl) (fun _ _ => trivial))
  have HC2 := Lib.hid (Kd.C_below H2.out (HB4.out.alloc HB4.out.size (.cells #[.int .i64 q3, .int .i64 q4] 3)))
  go_wp2_with ((at_builtin; refine Kd.R_append_rows (Kd.int .i64) (w0 := w4) w4.heap.size rfl (.tmp 26) (.tmp 27) 24 3 (.int .i64 0) 8 rfl Tryd.underlying24 info3 rfl (by decide) (by omega) (.slice (some ⟨w4.heap.size, 0, none⟩) 2 2) [q3, q4] codes _ _ _ (fun _ => True) (fun _ => False) rfl rfl HO.out HC2.out (fun _ _ h => h) (fun _ h => h.elim) (fun _ _ => trivial) ((Below.refl _ _).alloc (Nat.le_refl _) _) (by simp) (by simp; omega) ?_; intro v5 w5 hr5 hb5 _ _; have hSl : ([q3, q4] ++ codes).length ≤ 62 := (by simp; omega); generalize ([q3, q4] ++ codes) = S at hr5 hSl; obtain ⟨AS, cS, rfl, hlS, hCS⟩ := Kd.R_reads hr5; have HCS := Lib.hid hCS; have HB5 := Lib.hid hb5; clear hr5 hb5 hCS))
  have HCX4 : Hid (Kd.C k23 w4 AX x.length x) := Lib.hid (by obtain ⟨A', c', e', _, h'⟩ := Kd.R_reads HR4.out; cases e'; exact h')
  have HCX5 := Lib.hid (Kd.C_below HCX4.out HB5.out)
  have HBW5 := Lib.hid (HB4.out.trans (HB5.out.mono HB4.out.size))
  have hxl := HX.out.1
  refine (element_Without.calls _ AX cX x AS cS S (wo x S) _ HCX5.out hlX HCS.out hlS (without_p (by omega) (by omega))).mono ?_
  rintro e w6 ⟨v6, rfl, hr6, hb6⟩
  obtain ⟨AY, cY, rfl, hlY, hCY⟩ := Kd.R_reads hr6
  have HB6 := Lib.hid (HBW5.out.trans (hb6.mono HBW5.out.size))
  have HCX6 := Lib.hid (Kd.C_below HCX5.out hb6)
  have HCY6 := Lib.hid hCY
  have HCS6 := Lib.hid (Kd.C_below HCS.out hb6)
  have HY := Lib.hid (wo_good (C := S) HX.out)
  have HFW := Lib.hid (fun c => fnd_wo x S c)
  clear hr6 hb6 hCY HR2 HR3 HR4 HI1 HI2 HI3 HO HC2 HCS HCX4 HCX5
  generalize wo x S = y at *
  have hyl := HY.out.1
  go_wp2_with fail
  have HV := Lib.hid (vld_good (Nat.le_refl _) HX.out)
  refine (validate_any AX x cX _ HCX6.out (by omega) (HB.out.below HB6.out h0)).mono ?_
  rw [HV.out]
  rintro e w7 ⟨rfl, hb7⟩
  have HB7 := Lib.hid (HB6.out.trans (hb7.mono HB6.out.size))
  have HCX7 := Lib.hid (Kd.C_below HCX6.out hb7)
  have HCY7 := Lib.hid (Kd.C_below HCY6.out hb7)
  have HCS7 := Lib.hid (Kd.C_below HCS6.out hb7)
  clear hb7 HCX6 HCY6 HCS6
  go_wp2_with fail
  have HVY := Lib.hid (vld_good (Nat.le_refl _) HY.out)
  refine (validate_any AY y cY _ HCY7.out (by omega) (HB.out.below HB7.out h0)).mono ?_
  rw [HVY.out]
  rintro e w8 ⟨rfl, hb8⟩
  have HB8 := Lib.hid (HB7.out.trans (hb8.mono HB7.out.size))
  have HCX8 := Lib.hid (Kd.C_below HCX7.out hb8)
  have HCY8 := Lib.hid (Kd.C_below HCY7.out hb8)
  have HCS8 := Lib.hid (Kd.C_below HCS7.out hb8)
  clear hb8 HCX7 HCY7 HCS7
  go_wp2_with fail
  go_loopw [9] (fun i wr => ∃ c : Nat, c ≤ 11 ∧ i = .int .i64 ((c : Int) + 1) ∧ Hid (Below W.heap.size W wr) ∧ Hid (Kd.C k23 wr AX x.length x) ∧ Hid (Kd.C k23 wr AY y.length y) ∧ Hid (Kd.C (Kd.int .i64) wr AS S.length S)) (fun i _ => 12 - (intOf i).toNat)
  case atStart => exact ⟨0, by omega, rfl, HB8, HCX8, HCY8, HCS8⟩
  case round =>
    clear HB8 HCX8 HCY8 HCS8
    obtain ⟨c, hc, rfl, HBr, HCXr, HCYr, HCSr⟩ := hrel
    by_cases hlt : c < 11
    · have i11 : (c : Int) + 1 ≤ 11 := by omega
      go_wp2_with fail
      refine (find_any AX x cX _ _ HCXr.out (by omega)).mono ?_
      rintro e w9 ⟨rfl, hb9⟩
      have HB9 := Lib.hid (HBr.out.trans (hb9.mono HBr.out.size))
      have HCX9 := Lib.hid (Kd.C_below HCXr.out hb9)
      have HCY9 := Lib.hid (Kd.C_below HCYr.out hb9)
      have HCS9 := Lib.hid (Kd.C_below HCSr.out hb9)
      clear hb9 HBr HCXr HCYr HCSr
      have e2 := HFW.out ((c : Int) + 1)
      generalize fnd x ((c : Int) + 1) = fx at e2 ⊢
      obtain ⟨a, ok⟩ := fx
      by_cases hS : ((c : Int) + 1) ∈ S
      · rw [if_pos hS] at e2
        have HF := Lib.hid e2
        have HI := Lib.hid (in_p (C := S) ((c : Int) + 1) (k := S.length + 1) (by omega) (by omega))
        have HD := Lib.hid (decide_eq_true hS)
        clear e2 hS
        go_wp2_with fail
        refine (find_any AY y cY _ _ HCY9.out (by omega)).mono ?_
        rw [HF.out]
        rintro e w10 ⟨rfl, hb10⟩
        have HB10 := Lib.hid (HB9.out.trans (hb10.mono HB9.out.size))
        have HCX10 := Lib.hid (Kd.C_below HCX9.out hb10)
        have HCY10 := Lib.hid (Kd.C_below HCY9.out hb10)
        have HCS10 := Lib.hid (Kd.C_below HCS9.out hb10)
        clear hb10 HB9 HCX9 HCY9 HCS9
        cases ok with
        | true =>
          go_wp2_with fail
          refine (synoptickeep_In.calls _ AS cS S _ _ _ HCS10.out hlS HI.out).mono ?_
          rw [HD.out]
          rintro e w11 ⟨rfl, ⟨nd, rfl⟩⟩
          go_wp2_with fail
          go_roundw
          case rel => exact ⟨c + 1, by omega, by go_num, Lib.hid (below_drewN HB10.out _), Lib.hid (Kd.C_drewN HCX10.out _), Lib.hid (Kd.C_drewN HCY10.out _), Lib.hid (Kd.C_drewN HCS10.out _)⟩
          case measure => simp [intOf]; omega
        | false =>
          go_wp2_with fail
          go_roundw
          case rel => exact ⟨c + 1, by omega, by go_num, HB10, HCX10, HCY10, HCS10⟩
          case measure => simp [intOf]; omega
      · rw [if_neg hS] at e2
        have HF := Lib.hid e2
        have HI := Lib.hid (in_p (C := S) ((c : Int) + 1) (k := S.length + 1) (by omega) (by omega))
        have HD := Lib.hid (decide_eq_false hS)
        clear e2 hS
        go_wp2_with fail
        refine (find_any AY y cY _ _ HCY9.out (by omega)).mono ?_
        rw [HF.out]
        rintro e w10 ⟨rfl, hb10⟩
        have HB10 := Lib.hid (HB9.out.trans (hb10.mono HB9.out.size))
        have HCX10 := Lib.hid (Kd.C_below HCX9.out hb10)
        have HCY10 := Lib.hid (Kd.C_below HCY9.out hb10)
        have HCS10 := Lib.hid (Kd.C_below HCS9.out hb10)
        clear hb10 HB9 HCX9 HCY9 HCS9
        cases ok with
        | true =>
          go_wp2_with fail
          refine (synoptickeep_In.calls _ AS cS S _ _ _ HCS10.out hlS HI.out).mono ?_
          rw [HD.out]
          rintro e w11 ⟨rfl, ⟨nd, rfl⟩⟩
          go_wp2_with fail
          go_roundw
          case rel => exact ⟨c + 1, by omega, by go_num, Lib.hid (below_drewN HB10.out _), Lib.hid (Kd.C_drewN HCX10.out _), Lib.hid (Kd.C_drewN HCY10.out _), Lib.hid (Kd.C_drewN HCS10.out _)⟩
          case measure => simp [intOf]; omega
        | false =>
          go_wp2_with fail
          go_roundw
          case rel => exact ⟨c + 1, by omega, by go_num, HB10, HCX10, HCY10, HCS10⟩
          case measure => simp [intOf]; omega
    · obtain rfl : c = 11 := by omega
      go_wp2_with ((go_at_call 8; refine (awake_any _ (HB.out.below HBr.out h0)).mono ?_; rintro e w12 ⟨rfl, hb12⟩))
      go_ret
      exact ⟨rfl, HBr.out.trans (hb12.mono HBr.out.size)⟩
end Go.Proofs.YtpjnlbippcgnoaaDoor
