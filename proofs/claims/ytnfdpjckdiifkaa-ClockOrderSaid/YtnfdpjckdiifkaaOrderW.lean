/-
  The walk of ClockOrder: it returns true for any list of ints.
-/
import Derived.Test.YtnfdpjckdiifkaaAwake
import Derived.Test.YtnfdpjckdiifkaaSrc
import Derived.Test.YtnfdpjckdiifkaaTool
import Derived.Test.YtnfdpjckdiifkaaOrd
import Derived.Test.YtnfdpjckdiifkaaArr
import Derived.Lib.Strings
import Derived.BigRegion
import Derived.Deep.RegionHeld3
import Derived.Deep.DeepCutAuto
namespace Go.Proofs.Ytnfdpjckdiifkaa
open Go.RowKit Txt Cal

theorem tri (x N : Int) : (decide (x < N) = true ∧ (x == N) = false) ∨ (decide (x < N) = false ∧ (x == N) = true) ∨ (decide (x < N) = false ∧ (x == N) = false) := by
  rcases Int.lt_trichotomy x N with q | q | q
  · exact Or.inl ⟨by simpa using q, by rw [beq_eq_false_iff_ne]; omega⟩
  · exact Or.inr (Or.inl ⟨by simp; omega, by simpa using q⟩)
  · exact Or.inr (Or.inr ⟨by simp; omega, by rw [beq_eq_false_iff_ne]; omega⟩)
section
variable {y m d h i y' m' d' h' i' x N : Int}
theorem same_of (v : vld y m d h i = true) (v' : vld y' m' d' h' i' = true) (e : mnt y m d h i = x) (e' : mnt y' m' d' h' i' = N) : same5 y m d h i y' m' d' h' i' = (x == N) := by
  rw [Bool.eq_iff_iff, same5_iff, beq_iff_eq]
  constructor
  · rintro ⟨rfl, rfl, rfl, rfl, rfl⟩; omega
  · intro q; exact mnt_inj v v' (by omega)
theorem less_of (v : vld y m d h i = true) (v' : vld y' m' d' h' i' = true) (e : mnt y m d h i = x) (e' : mnt y' m' d' h' i' = N) :
    Op.bytesLess (S (txt y m d h i)).toList (S (txt y' m' d' h' i')).toList = decide (x < N) := by
  rw [Lib.toList_data, Lib.toList_data]
  exact (txt_less v v').trans (by rw [e, e'])
theorem fld_of {j : Nat} (k : fld y m d h i j < fld y' m' d' h' i' j ↔ mnt y m d h i < mnt y' m' d' h' i') (e : mnt y m d h i = x) (e' : mnt y' m' d' h' i' = N) :
    decide (fld y m d h i j < fld y' m' d' h' i' j) = decide (x < N) := by
  rw [e, e'] at k
  exact decide_eq_decide.2 k
end

set_option maxRecDepth 20000 in
set_option maxHeartbeats 4000000 in
theorem clockOrder_walk (w : World) (A : Option Addr) (n c : Nat) (hS : SliceIn w A n c) : Calls Try.prog 9 #[.slice A n c] w fun e w' => e = .returned (.bool true) ∧ Below w.heap.size w w' := by
  go_enter Try.func9, Try.ntmps9
  go_wp2_with fail
  refine (new_any _ _ _ _ hS).mono ?_
  rintro e w1 ⟨rfl, hs1, hb1⟩
  have HS1 := Lib.hid hs1
  clear hs1 hS
  go_wp2_with fail
  refine (minute_any w _ _ HS1.out).mono ?_
  rintro e w2 ⟨x, ⟨x0, x1⟩, rfl, hs2, hg2⟩
  have HS2 := Lib.hid hs2
  clear hs2 hg2
  go_upto_region 3 with fail
  go_cut [5] (fun s5 wx => ∃ N : Int, s5 = .int .i64 N ∧ 0 ≤ N ∧ N ≤ 52595999 ∧ Below w.heap.size w wx)
  case first =>
    go_wp2_with fail
    refine (range_any w _ _ _ _ HS2.out (by omega) (by omega) (by omega)).mono ?_
    rintro e w3 ⟨u, ⟨u0, u1⟩, rfl, hs3, hg3⟩
    have HS3 := Lib.hid hs3
    clear hs3 hg3
    go_wp2_with fail
    refine (raw_any w _ _ HS3.out).mono ?_
    rintro e w4 ⟨r, _, rfl, hs4, hg4⟩
    have HS4 := Lib.hid hs4
    clear hs4 hg4
    go_wp2_with fail
    refine (mod_any _ _ _ (by omega) (by omega)).mono ?_
    rintro e w4' ⟨q, ⟨q0, q1⟩, rfl, rfl⟩
    go_wp2_with fail
    have hs4 := HS4.out
    have hl4 := hs4.lt
    refine (pick_any w _ _ _ 7 _ (InR (-20000000) 20000000) (hs4.below ((Below.refl _ _).alloc (Nat.le_refl _) _)) (Blk.new _ _ _) (by omega) (by omega) (by omega) ?_).mono ?_
    · intro j hj
      unfold InR
      rcases j with _ | _ | _ | _ | _ | _ | _ | j
      · exact ⟨_, rfl, by omega⟩
      · exact ⟨_, rfl, by omega⟩
      · exact ⟨_, rfl, by omega⟩
      · exact ⟨_, rfl, by omega⟩
      · exact ⟨_, rfl, by omega⟩
      · exact ⟨_, rfl, by omega⟩
      · exact ⟨_, rfl, by omega⟩
      · omega
    rintro e w5 ⟨v, ⟨v0, v1⟩, rfl, hs5, hg5⟩
    have hb5 := hs5.1
    clear hs4 hs5 hg5 hl4
    go_wp2_with fail
    all_goals
      go_meet
      exact ⟨_, rfl, by omega, by omega, hb5⟩
  case rest =>
  obtain ⟨N, rfl, n0, n1, hb5⟩ := hcut
  clear HS2
  go_wp2_with fail
  refine (date_ok x _ (by simp [inB]; omega)).mono ?_
  rintro e w6 ⟨y, m, d, h, i, rfl, hv, hm, hb6⟩
  have HV := Lib.hid hv
  have HM := Lib.hid hm
  have s6 := Nat.le_trans hb5.size hb6.size
  have hb6' := hb5.trans (hb6.mono hb5.size)
  clear hv hm hb5 hb6
  go_wp2_with fail
  refine (date_ok N _ (by simp [inB]; omega)).mono ?_
  rintro e w7 ⟨y', m', d', h', i', rfl, hv', hm', hb7⟩
  have HV' := Lib.hid hv'
  have HM' := Lib.hid hm'
  have hB7 := (Blk.new w6 23 #[.int .i64 y, .int .i64 m, .int .i64 d, .int .i64 h, .int .i64 i]).below hb7 (by simp)
  have s7 : w.heap.size ≤ w7.heap.size := Nat.le_trans s6 (Nat.le_trans (by simp) hb7.size)
  have hb7' := (hb6'.alloc s6 _).trans (hb7.mono (Nat.le_trans s6 (by simp)))
  clear hv' hm' hb6' hb7
  go_wp2_with fail
  refine (format_at HV.out HM.out _).mono ?_
  rintro e w8 ⟨rfl, hb8⟩
  have hl7 := hB7.lt
  have hB8 := (hB7.alloc _).below hb8 (Nat.lt_trans hl7 (by simp))
  have hB8' := (Blk.new w7 23 #[.int .i64 y', .int .i64 m', .int .i64 d', .int .i64 h', .int .i64 i']).below hb8 (by simp)
  have s8 : w.heap.size ≤ w8.heap.size := Nat.le_trans s7 (Nat.le_trans (by simp) hb8.size)
  have hb8' := (hb7'.alloc s7 _).trans (hb8.mono (Nat.le_trans s7 (by simp)))
  clear hb7' hB7 hb8
  go_wp2_with fail
  refine (format_at HV'.out HM'.out _).mono ?_
  rintro e w9 ⟨rfl, hb9⟩
  have hB9 := hB8.below hb9 hB8.lt
  have hB9' := hB8'.below hb9 hB8'.lt
  have s9 : w.heap.size ≤ w9.heap.size := Nat.le_trans s8 hb9.size
  have hb9' := hb8'.trans (hb9.mono s8)
  clear hb8' hB8 hB8' hb9
  have HB9 := Lib.hid hB9
  have HB9' := Lib.hid hB9'
  have HL9 := Lib.hid hb9'
  clear hB9 hB9' hb9'
  go_wp2_with fail
  have hB9 := HB9.out
  have hB9' := HB9'.out
  have hb9' := HL9.out
  clear HB9 HB9' HL9 
  have hlt1 := hB9.lt
  have hlt2 := hB9'.lt
  have hv0 := hB9.cell 0
  have hv1 := hB9.cell 1
  have hv2 := hB9.cell 2
  have hv3 := hB9.cell 3
  have hv4 := hB9.cell 4
  have hu0 := hB9'.cell 0
  have hu1 := hB9'.cell 1
  have hu2 := hB9'.cell 2
  have hu3 := hB9'.cell 3
  have hu4 := hB9'.cell 4
  simp at hv0 hv1 hv2 hv3 hv4 hu0 hu1 hu2 hu3 hu4
  go_cut [14, 15] (fun s14 s15 wx => ∃ p q : Nat, s14 = .pointer (some ⟨p, 0, none⟩) ∧ s15 = .pointer (some ⟨q, 0, none⟩) ∧ p ≠ q ∧ Blk wx p #[.int .i64 y, .int .i64 m, .int .i64 d, .int .i64 h, .int .i64 i] ∧ Blk wx q #[.int .i64 y', .int .i64 m', .int .i64 d', .int .i64 h', .int .i64 i'] ∧ Below w.heap.size w wx)
  case first =>
    have hn1 : ¬ w9.heap.size = w6.heap.size := by omega
    have hn2 : ¬ w9.heap.size = w7.heap.size := by omega
    have hn3 : ¬ w9.heap.size + 1 = w6.heap.size := by omega
    have hn4 : ¬ w9.heap.size + 1 = w7.heap.size := by omega
    clear hB9 hB9'
    go_region_held3 (fun w' => w'.cell? ⟨w6.heap.size, 0, none⟩ = some (.int .i64 y) ∧ w'.cell? ⟨w6.heap.size, 1, none⟩ = some (.int .i64 m) ∧ w'.cell? ⟨w6.heap.size, 2, none⟩ = some (.int .i64 d) ∧ w'.cell? ⟨w6.heap.size, 3, none⟩ = some (.int .i64 h) ∧ w'.cell? ⟨w6.heap.size, 4, none⟩ = some (.int .i64 i) ∧ w'.cell? ⟨w7.heap.size, 0, none⟩ = some (.int .i64 y') ∧ w'.cell? ⟨w7.heap.size, 1, none⟩ = some (.int .i64 m') ∧ w'.cell? ⟨w7.heap.size, 2, none⟩ = some (.int .i64 d') ∧ w'.cell? ⟨w7.heap.size, 3, none⟩ = some (.int .i64 h') ∧ w'.cell? ⟨w7.heap.size, 4, none⟩ = some (.int .i64 i')) (go_keep) ((first | fail))
    all_goals
      go_wp2_with fail
      go_meet
      refine ⟨_, _, rfl, rfl, ?_, by (repeat' (first | with_reducible assumption | with_reducible exact Blk.new _ _ _ | ((with_reducible refine Blk.new' _ _ _ ?_); (simp; done)) | with_reducible refine Blk.alloc ?_ _ | with_reducible refine Blk.drewN ?_ _ | with_reducible refine Blk.drew ?_ | with_reducible apply Blk.put' | ((with_reducible refine Blk.away ?_ ?_ _ _); rotate_left; omega) | rfl | omega)), by (repeat' (first | with_reducible assumption | with_reducible exact Blk.new _ _ _ | ((with_reducible refine Blk.new' _ _ _ ?_); (simp; done)) | with_reducible refine Blk.alloc ?_ _ | with_reducible refine Blk.drewN ?_ _ | with_reducible refine Blk.drew ?_ | with_reducible apply Blk.put' | ((with_reducible refine Blk.away ?_ ?_ _ _); rotate_left; omega) | rfl | omega)), by (repeat' (first | with_reducible assumption | with_reducible exact Below.refl _ _ | with_reducible refine Below.alloc ?_ ?_ _ | with_reducible refine Below.setCell ?_ ?_ _ | with_reducible refine Below.drew ?_ | with_reducible refine below_drewN ?_ _ | omega | (simp; done) | (simp; omega)))⟩
      omega
  case rest =>
  obtain ⟨p, q, rfl, rfl, hpq, hBp, hBq, hbx⟩ := hcut
  clear hv0 hv1 hv2 hv3 hv4 hu0 hu1 hu2 hu3 hu4 hB9 hB9' hlt1 hlt2 hb9'
  obtain ⟨K, hK, hlow, hne, hord⟩ := first_diff HV.out HV'.out
  have HLOW := Lib.hid hlow
  have HNE := Lib.hid hne
  have HORD := Lib.hid hord
  have HP := Lib.hid hBp
  have HQ := Lib.hid hBq
  have HX := Lib.hid hbx
  clear hlow hne hord hBp hBq hbx
  go_wp2_with fail
  go_loopw [16] (fun k wr => ∃ j : Nat, j ≤ K ∧ k = .int .i64 j ∧ Blk wr p #[.int .i64 y, .int .i64 m, .int .i64 d, .int .i64 h, .int .i64 i] ∧ Blk wr q #[.int .i64 y', .int .i64 m', .int .i64 d', .int .i64 h', .int .i64 i'] ∧ Below w.heap.size w wr) (fun k _ => (4 - intOf k).toNat)
  case atStart => exact ⟨0, by omega, rfl, HP.out, HQ.out, HX.out⟩
  case round =>
    obtain ⟨j, hj, rfl, hBp, hBq, hbx⟩ := hrel
    have c1 := (hBp.cell j).trans (fld_row y m d h i j (by omega))
    have c2 := (hBq.cell j).trans (fld_row y' m' d' h' i' j (by omega))
    have i5 : (j : Int) < 5 := by omega
    rcases Nat.lt_or_ge j K with hlt | hge
    · have i4 : (j : Int) < 4 := by omega
      have e1 : (fld y m d h i j == fld y' m' d' h' i' j) = true := by rw [beq_iff_eq]; exact HLOW.out j hlt
      go_wp2_with fail
      go_quiet (fail)
      go_wp2_with fail
      go_roundw
      case rel => exact ⟨j + 1, by omega, by go_num, hBp.drewN _, hBq.drewN _, below_drewN hbx _⟩
      case measure => simp [intOf]; omega
    · obtain rfl : j = K := by omega
      rcases Nat.lt_or_ge j 4 with h4 | h4
      · have i4 : (j : Int) < 4 := by omega
        have e1 : (fld y m d h i j == fld y' m' d' h' i' j) = false := by rw [beq_eq_false_iff_ne]; exact HNE.out h4
        go_wp2_with fail
        go_quiet (fail)
        go_wp2_with fail
        clear e1 i4 h4
        refine forget (fun w' => Blk w' p #[.int .i64 y, .int .i64 m, .int .i64 d, .int .i64 h, .int .i64 i] ∧ Blk w' q #[.int .i64 y', .int .i64 m', .int .i64 d', .int .i64 h', .int .i64 i'] ∧ Below w.heap.size w w') ⟨hBp.drewN _, hBq.drewN _, below_drewN hbx _⟩ ?_
        clear c1 c2 hBp hBq hbx
        rintro W ⟨hBp, hBq, hbx⟩
        have c1 := (hBp.cell j).trans (fld_row y m d h i j (by omega))
        have c2 := (hBq.cell j).trans (fld_row y' m' d' h' i' j (by omega))
        have hv0 := hBp.cell 0
        have hv1 := hBp.cell 1
        have hv2 := hBp.cell 2
        have hv3 := hBp.cell 3
        have hv4 := hBp.cell 4
        have hu0 := hBq.cell 0
        have hu1 := hBq.cell 1
        have hu2 := hBq.cell 2
        have hu3 := hBq.cell 3
        have hu4 := hBq.cell 4
        simp at hv0 hv1 hv2 hv3 hv4 hu0 hu1 hu2 hu3 hu4
        have hlp := hBp.lt
        have hlq := hBq.lt
        have t5 := same_of HV.out HV'.out HM.out HM'.out
        have t3 := less_of HV.out HV'.out HM.out HM'.out
        have t6 := (txt_less HV.out HV'.out).trans (show _ = decide (x < N) by rw [HM.out, HM'.out])
        have t2 := fld_of HORD.out HM.out HM'.out
        have HX2 := Lib.hid hbx
        clear hBp hBq hbx
        rcases tri x N with ⟨t1, t4⟩ | ⟨t1, t4⟩ | ⟨t1, t4⟩
        all_goals
          rw [t4] at t5
          rw [t1] at t3 t2 t6
          refine wp_region_near (by kernel_rfl) (by kernel_rfl) ?_
          repeat (go_big_quiet_step ((go_at_call 21; exact near_of (awake_any _))))
          refine wpQuiet_nil ?_
          intro X
          go_wp2_with fail
          go_ret
          exact ⟨rfl, HX2.out.trans (X.h.mono HX2.out.size)⟩
      · have i4 : decide ((j : Int) < 4) = false := by simp; omega
        go_wp2_with fail
        go_quiet (fail)
        go_wp2_with fail
        clear i4 h4
        refine forget (fun w' => Blk w' p #[.int .i64 y, .int .i64 m, .int .i64 d, .int .i64 h, .int .i64 i] ∧ Blk w' q #[.int .i64 y', .int .i64 m', .int .i64 d', .int .i64 h', .int .i64 i'] ∧ Below w.heap.size w w') ⟨hBp.drewN _, hBq.drewN _, below_drewN hbx _⟩ ?_
        clear c1 c2 hBp hBq hbx
        rintro W ⟨hBp, hBq, hbx⟩
        have c1 := (hBp.cell j).trans (fld_row y m d h i j (by omega))
        have c2 := (hBq.cell j).trans (fld_row y' m' d' h' i' j (by omega))
        have hv0 := hBp.cell 0
        have hv1 := hBp.cell 1
        have hv2 := hBp.cell 2
        have hv3 := hBp.cell 3
        have hv4 := hBp.cell 4
        have hu0 := hBq.cell 0
        have hu1 := hBq.cell 1
        have hu2 := hBq.cell 2
        have hu3 := hBq.cell 3
        have hu4 := hBq.cell 4
        simp at hv0 hv1 hv2 hv3 hv4 hu0 hu1 hu2 hu3 hu4
        have hlp := hBp.lt
        have hlq := hBq.lt
        have t5 := same_of HV.out HV'.out HM.out HM'.out
        have t3 := less_of HV.out HV'.out HM.out HM'.out
        have t6 := (txt_less HV.out HV'.out).trans (show _ = decide (x < N) by rw [HM.out, HM'.out])
        have t2 := fld_of HORD.out HM.out HM'.out
        have HX2 := Lib.hid hbx
        clear hBp hBq hbx
        rcases tri x N with ⟨t1, t4⟩ | ⟨t1, t4⟩ | ⟨t1, t4⟩
        all_goals
          rw [t4] at t5
          rw [t1] at t3 t2 t6
          refine wp_region_near (by kernel_rfl) (by kernel_rfl) ?_
          repeat (go_big_quiet_step ((go_at_call 21; exact near_of (awake_any _))))
          refine wpQuiet_nil ?_
          intro X
          go_wp2_with fail
          go_ret
          exact ⟨rfl, HX2.out.trans (X.h.mono HX2.out.size)⟩
end Go.Proofs.Ytnfdpjckdiifkaa
