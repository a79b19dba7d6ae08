/-
  The walk of ClockBack: it returns true for any list of ints.
-/
import Derived.Test.YtnfdpjckdiifkaaAwake
import Derived.Test.YtnfdpjckdiifkaaSrc
import Derived.Test.YtnfdpjckdiifkaaTool
namespace Go.Proofs.Ytnfdpjckdiifkaa
open Go.RowKit Txt Cal

/-- the date of a minute whose date is known -/
theorem date_at {n y m d h i : Int} (hv : vld y m d h i = true) (hm : mnt y m d h i = n) (w : World) :
    Calls Try.prog 19 #[.int .i64 n] w fun e w' => e = .returned (.tuple #[civ y m d h i, .int .i64 0]) ∧ Below w.heap.size w w' := by
  have hn : inB n = true := by have := mnt_bd hv; simp [inB]; omega
  refine (date_ok n w hn).mono ?_
  rintro e w' ⟨y', m', d', h', i', rfl, hv', hm', hb⟩
  obtain ⟨rfl, rfl, rfl, rfl, rfl⟩ := mnt_inj hv hv' (by omega)
  exact ⟨rfl, hb⟩
theorem minutes_at {n y m d h i : Int} (hv : vld y m d h i = true) (hm : mnt y m d h i = n) (w : World) :
    Calls Try.prog 12 #[civ y m d h i] w fun e w' => e = .returned (.tuple #[.int .i64 n, .int .i64 0]) ∧ Below w.heap.size w w' :=
  (minutes_ok _ _ _ _ _ w hv).mono fun _ _ hh => ⟨hh.1.trans (ret_tup hm rfl), hh.2⟩
theorem parse_mnt {n y m d h i : Int} (hv : vld y m d h i = true) (hm : mnt y m d h i = n) (w : World) :
    Calls Try.prog 23 #[.string (S (txt y m d h i))] w fun e w' => e = .returned (.tuple #[.int .i64 n, .int .i64 0]) ∧ Below w.heap.size w w' :=
  (parse_at hv w).mono fun _ _ hh => ⟨hh.1.trans (ret_tup hm rfl), hh.2⟩

theorem nx_a {y m d h i : Int} (v : vld y m d h i = true) (hlt : mnt y m d h i < 52595999) (ci : ¬ i + 1 = 60) : vld y m d h (i + 1) = true ∧ mnt y m d h (i + 1) = mnt y m d h i + 1 := by
  obtain ⟨g1, g2, g3, g4, g5, g6, g7, g8, g9, g10, g11⟩ := vld_all v
  have hde := days_eq g1 g2 g3 g4
  have c2 : ¬ h = 24 := by omega
  have c3 : ¬ d > days y m := by omega
  have c4 : ¬ m = 13 := by omega
  have := mnt_next v hlt
  simp only [ci, c2, c3, c4, if_false] at this
  exact this
theorem nx_b {y m d h i : Int} (v : vld y m d h i = true) (hlt : mnt y m d h i < 52595999) (ci : i + 1 = 60) (ch : ¬ h + 1 = 24) : vld y m d (h + 1) 0 = true ∧ mnt y m d (h + 1) 0 = mnt y m d h i + 1 := by
  obtain ⟨g1, g2, g3, g4, g5, g6, g7, g8, g9, g10, g11⟩ := vld_all v
  have hde := days_eq g1 g2 g3 g4
  have c3 : ¬ d > days y m := by omega
  have c4 : ¬ m = 13 := by omega
  have := mnt_next v hlt
  simp only [ci, ch, c3, c4, if_false, if_true] at this
  exact this
theorem nx_c {y m d h i : Int} (v : vld y m d h i = true) (hlt : mnt y m d h i < 52595999) (ci : i + 1 = 60) (ch : h + 1 = 24) (cd : ¬ d + 1 > days y m) : vld y m (d + 1) 0 0 = true ∧ mnt y m (d + 1) 0 0 = mnt y m d h i + 1 := by
  obtain ⟨g1, g2, g3, g4, g5, g6, g7, g8, g9, g10, g11⟩ := vld_all v
  have c4 : ¬ m = 13 := by omega
  have := mnt_next v hlt
  simp only [ci, ch, cd, c4, if_false, if_true] at this
  exact this
theorem nx_d {y m d h i : Int} (v : vld y m d h i = true) (hlt : mnt y m d h i < 52595999) (ci : i + 1 = 60) (ch : h + 1 = 24) (cd : d + 1 > days y m) (cm : ¬ m + 1 = 13) : vld y (m + 1) 1 0 0 = true ∧ mnt y (m + 1) 1 0 0 = mnt y m d h i + 1 := by
  have := mnt_next v hlt
  simp only [ci, ch, cd, cm, if_false, if_true] at this
  exact this
theorem nx_e {y m d h i : Int} (v : vld y m d h i = true) (hlt : mnt y m d h i < 52595999) (ci : i + 1 = 60) (ch : h + 1 = 24) (cd : d + 1 > days y m) (cm : m + 1 = 13) : vld (y + 1) 1 1 0 0 = true ∧ mnt (y + 1) 1 1 0 0 = mnt y m d h i + 1 := by
  have := mnt_next v hlt
  simp only [ci, ch, cd, cm, if_true] at this
  exact this

set_option maxHeartbeats 4000000 in
theorem clockBack_walk (w : World) (A : Option Addr) (n c : Nat) (hS : SliceIn w A n c) : Calls Try.prog 4 #[.slice A n c] w fun e w' => e = .returned (.bool true) ∧ Below w.heap.size w w' := by
  go_enter Try.func4, Try.ntmps4
  go_wp2_with fail
  refine (new_any _ _ _ _ hS).mono ?_
  rintro e w1 ⟨rfl, hs1, hb1⟩
  have HS1 := Lib.hid hs1
  clear hs1 hS
  go_wp2_with fail
  refine (minute_any w _ _ HS1.out).mono ?_
  rintro e w2 ⟨x, ⟨x0, x1⟩, rfl, hs2, hg2⟩
  have hb2 := hs2.1
  clear hs2 hg2
  go_wp2_with fail
  refine (date_ok x _ (by simp [inB]; omega)).mono ?_
  rintro e w4 ⟨y, m, d, h, i, rfl, hv, hm, hb4⟩
  have hbd := vld_all hv
  obtain ⟨g1, g2, g3, g4, g5, g6, g7, g8, g9, g10, g11⟩ := hbd
  have HV := Lib.hid hv
  have HM := Lib.hid hm
  clear hv hm
  have s4 := Nat.le_trans hb2.size hb4.size
  go_wp2_with fail
  refine (minutes_at HV.out HM.out _).mono ?_
  rintro e w5 ⟨rfl, hb5⟩
  go_wp2_with fail
  refine (format_at HV.out HM.out _).mono ?_
  rintro e w6 ⟨rfl, hb6⟩
  go_wp2_with fail
  refine (parse_mnt HV.out HM.out _).mono ?_
  rintro e w7 ⟨rfl, hb7⟩
  have hB4 : Blk (w4.alloc (.cells #[.int .i64 y, .int .i64 m, .int .i64 d, .int .i64 h, .int .i64 i] 23)) w4.heap.size #[.int .i64 y, .int .i64 m, .int .i64 d, .int .i64 h, .int .i64 i] := Blk.new w4 23 _
  have hB5 := hB4.below hb5 hB4.lt
  have hB6 := hB5.below hb6 hB5.lt
  have hB7 := hB6.below hb7 hB6.lt
  have hbel : Below w.heap.size w w7 := ((((hb2.trans (hb4.mono hb2.size)).alloc s4 _).trans (hb5.mono (Nat.le_trans s4 (by simp)))).trans (hb6.mono (Nat.le_trans s4 (Nat.le_of_lt hB5.lt)))).trans (hb7.mono (Nat.le_trans s4 (Nat.le_of_lt hB6.lt)))
  have HB4 := Lib.hid s4
  clear hb2 hb4 hb5 hb6 hb7 hB4 hB5 hB6
  by_cases hmax : x = 52595999
  · have e1 : (x == 52595999) = true := by simpa using hmax
    clear hmax
    go_wp2_with ((go_at_call 21; refine (awake_any _).mono ?_; rintro e w8 ⟨rfl, hb8⟩))
    go_ret
    exact ⟨rfl, hbel.trans (hb8.mono hbel.size)⟩
  · have e1 : (x == 52595999) = false := by simpa using hmax
    have hde := days_eq g1 g2 g3 g4
    have HD := Lib.hid hde
    clear hde hmax
    go_wp2_with fail
    have hlt : mnt y m d h i < 52595999 := by have := HM.out; simp at e1; omega
    by_cases ci : i + 1 = 60
    · by_cases ch : h + 1 = 24
      · by_cases cd : d + 1 > days y m
        · by_cases cm : m + 1 = 13
          · have hnx := nx_e HV.out hlt ci ch cd cm
            have HN1 := Lib.hid hnx.1
            have HN2 := Lib.hid (hnx.2.trans (by rw [HM.out]))
            have ti : (i + 1 == 60) = true := by simpa using ci
            have th : (h + 1 == 24) = true := by simpa using ch
            have td : decide (days y m < d + 1) = true := by simpa using cd
            have tm : (m + 1 == 13) = true := by simpa using cm
            clear hnx ci ch cd cm hlt
            refine (date_at HN1.out HN2.out _).mono ?_
            rintro e w8 ⟨rfl, hb8⟩
            have hB8 := hB7.below hb8 hB7.lt
            have hbel8 := hbel.trans (hb8.mono hbel.size)
            have hl7 := hB7.lt
            have hl8 := hB8.lt
            have HS8 := Nat.le_trans hbel.size hb8.size
            have hv0 := hB8.cell 0
            have hv1 := hB8.cell 1
            have hv2 := hB8.cell 2
            have hv3 := hB8.cell 3
            have hv4 := hB8.cell 4
            have hf0 := hB8.frozen 0
            have hf1 := hB8.frozen 1
            have hf2 := hB8.frozen 2
            have hf3 := hB8.frozen 3
            have hf4 := hB8.frozen 4
            simp at hv0 hv1 hv2 hv3 hv4
            have s4 := HB4.out
            have HB7 := Lib.hid hB7
            have HB8 := Lib.hid hB8
            have HL8 := Lib.hid hbel8
            clear hb8 hB7 hB8 hbel hbel8
            go_wp2_with fail
            have hB8 := HB8.out
            have hbel8 := HL8.out
            refine forget (fun w' => Blk w' w4.heap.size #[.int .i64 y, .int .i64 m, .int .i64 (d + 1), .int .i64 0, .int .i64 0] ∧ Blk w' w8.heap.size #[.int .i64 (y + 1), .int .i64 1, .int .i64 1, .int .i64 0, .int .i64 0] ∧ Below w.heap.size w w') ⟨by (repeat' (first | with_reducible assumption | with_reducible exact Blk.new _ _ _ | ((with_reducible refine Blk.new' _ _ _ ?_); (simp; done)) | with_reducible refine Blk.alloc ?_ _ | with_reducible refine Blk.drewN ?_ _ | with_reducible refine Blk.drew ?_ | with_reducible apply Blk.put' | ((with_reducible refine Blk.away ?_ ?_ _ _); rotate_left; omega) | rfl | omega)), by (repeat' (first | with_reducible assumption | with_reducible exact Blk.new _ _ _ | ((with_reducible refine Blk.new' _ _ _ ?_); (simp; done)) | with_reducible refine Blk.alloc ?_ _ | with_reducible refine Blk.drewN ?_ _ | with_reducible refine Blk.drew ?_ | with_reducible apply Blk.put' | ((with_reducible refine Blk.away ?_ ?_ _ _); rotate_left; omega) | rfl | omega)), by (repeat' (first | with_reducible assumption | with_reducible exact Below.refl _ _ | with_reducible refine Below.alloc ?_ ?_ _ | with_reducible refine Below.setCell ?_ ?_ _ | with_reducible refine Below.drew ?_ | with_reducible refine below_drewN ?_ _ | omega | (simp; done) | (simp; omega)))⟩ ?_
            clear hv0 hv1 hv2 hv3 hv4 hf0 hf1 hf2 hf3 hf4 hB8 hbel8
            rintro W ⟨hBc, hBd, hBe⟩
            have hv0 := hBc.cell 0
            have hv1 := hBc.cell 1
            have hv2 := hBc.cell 2
            have hv3 := hBc.cell 3
            have hv4 := hBc.cell 4
            simp at hv0 hv1 hv2 hv3 hv4
            have hlc := hBc.lt
            have hld := hBd.lt
            refine wp_region_near (by kernel_rfl) (by kernel_rfl) ?_
            repeat (go_big_quiet_step ((go_at_call 16; exact near_of (days_any _ _ _))))
            refine wpQuiet_nil ?_
            intro X
            replace hBc := hBc.below X.h hlc
            replace hBd := hBd.below X.h hld
            replace hBe := hBe.trans (X.h.mono hBe.size)
            clear hv0 hv1 hv2 hv3 hv4 hlc hld
            generalize X.w = w9 at hBc hBd hBe ⊢
            clear X
            have hv0 := hBc.cell 0
            have hv1 := hBc.cell 1
            have hv2 := hBc.cell 2
            have hv3 := hBc.cell 3
            have hv4 := hBc.cell 4
            have hf0 := hBc.frozen 0
            have hf1 := hBc.frozen 1
            have hf2 := hBc.frozen 2
            have hf3 := hBc.frozen 3
            have hf4 := hBc.frozen 4
            have hu0 := hBd.cell 0
            have hu1 := hBd.cell 1
            have hu2 := hBd.cell 2
            have hu3 := hBd.cell 3
            have hu4 := hBd.cell 4
            simp at hv0 hv1 hv2 hv3 hv4 hu0 hu1 hu2 hu3 hu4
            have hlc := hBc.lt
            have hld := hBd.lt
            have HBe := Lib.hid hBe
            clear hBe hBc hBd
            go_wp2_with ((go_at_call 21; refine (awake_any _).mono ?_; rintro e w10 ⟨rfl, hb10⟩))
            go_ret
            have hBe := HBe.out
            have hbe := hBe.size
            refine ⟨rfl, Below.trans ?_ (hb10.mono (B' := w.heap.size) ?_)⟩
            · (repeat' (first | with_reducible assumption | with_reducible exact Below.refl _ _ | with_reducible refine Below.alloc ?_ ?_ _ | with_reducible refine Below.setCell ?_ ?_ _ | with_reducible refine Below.drew ?_ | with_reducible refine below_drewN ?_ _ | omega | (simp; done) | (simp; omega)))
            · first | omega | (simp; omega)
          · have hnx := nx_d HV.out hlt ci ch cd cm
            have HN1 := Lib.hid hnx.1
            have HN2 := Lib.hid (hnx.2.trans (by rw [HM.out]))
            have ti : (i + 1 == 60) = true := by simpa using ci
            have th : (h + 1 == 24) = true := by simpa using ch
            have td : decide (days y m < d + 1) = true := by simpa using cd
            have tm : (m + 1 == 13) = false := by simpa using cm
            clear hnx ci ch cd cm hlt
            refine (date_at HN1.out HN2.out _).mono ?_
            rintro e w8 ⟨rfl, hb8⟩
            have hB8 := hB7.below hb8 hB7.lt
            have hbel8 := hbel.trans (hb8.mono hbel.size)
            have hl7 := hB7.lt
            have hl8 := hB8.lt
            have HS8 := Nat.le_trans hbel.size hb8.size
            have hv0 := hB8.cell 0
            have hv1 := hB8.cell 1
            have hv2 := hB8.cell 2
            have hv3 := hB8.cell 3
            have hv4 := hB8.cell 4
            have hf0 := hB8.frozen 0
            have hf1 := hB8.frozen 1
            have hf2 := hB8.frozen 2
            have hf3 := hB8.frozen 3
            have hf4 := hB8.frozen 4
            simp at hv0 hv1 hv2 hv3 hv4
            have s4 := HB4.out
            have HB7 := Lib.hid hB7
            have HB8 := Lib.hid hB8
            have HL8 := Lib.hid hbel8
            clear hb8 hB7 hB8 hbel hbel8
            go_wp2_with fail
            have hB8 := HB8.out
            have hbel8 := HL8.out
            refine forget (fun w' => Blk w' w4.heap.size #[.int .i64 y, .int .i64 m, .int .i64 (d + 1), .int .i64 0, .int .i64 0] ∧ Blk w' w8.heap.size #[.int .i64 y, .int .i64 (m + 1), .int .i64 1, .int .i64 0, .int .i64 0] ∧ Below w.heap.size w w') ⟨by (repeat' (first | with_reducible assumption | with_reducible exact Blk.new _ _ _ | ((with_reducible refine Blk.new' _ _ _ ?_); (simp; done)) | with_reducible refine Blk.alloc ?_ _ | with_reducible refine Blk.drewN ?_ _ | with_reducible refine Blk.drew ?_ | with_reducible apply Blk.put' | ((with_reducible refine Blk.away ?_ ?_ _ _); rotate_left; omega) | rfl | omega)), by (repeat' (first | with_reducible assumption | with_reducible exact Blk.new _ _ _ | ((with_reducible refine Blk.new' _ _ _ ?_); (simp; done)) | with_reducible refine Blk.alloc ?_ _ | with_reducible refine Blk.drewN ?_ _ | with_reducible refine Blk.drew ?_ | with_reducible apply Blk.put' | ((with_reducible refine Blk.away ?_ ?_ _ _); rotate_left; omega) | rfl | omega)), by (repeat' (first | with_reducible assumption | with_reducible exact Below.refl _ _ | with_reducible refine Below.alloc ?_ ?_ _ | with_reducible refine Below.setCell ?_ ?_ _ | with_reducible refine Below.drew ?_ | with_reducible refine below_drewN ?_ _ | omega | (simp; done) | (simp; omega)))⟩ ?_
            clear hv0 hv1 hv2 hv3 hv4 hf0 hf1 hf2 hf3 hf4 hB8 hbel8
            rintro W ⟨hBc, hBd, hBe⟩
            have hv0 := hBc.cell 0
            have hv1 := hBc.cell 1
            have hv2 := hBc.cell 2
            have hv3 := hBc.cell 3
            have hv4 := hBc.cell 4
            simp at hv0 hv1 hv2 hv3 hv4
            have hlc := hBc.lt
            have hld := hBd.lt
            refine wp_region_near (by kernel_rfl) (by kernel_rfl) ?_
            repeat (go_big_quiet_step ((go_at_call 16; exact near_of (days_any _ _ _))))
            refine wpQuiet_nil ?_
            intro X
            replace hBc := hBc.below X.h hlc
            replace hBd := hBd.below X.h hld
            replace hBe := hBe.trans (X.h.mono hBe.size)
            clear hv0 hv1 hv2 hv3 hv4 hlc hld
            generalize X.w = w9 at hBc hBd hBe ⊢
            clear X
            have hv0 := hBc.cell 0
            have hv1 := hBc.cell 1
            have hv2 := hBc.cell 2
            have hv3 := hBc.cell 3
            have hv4 := hBc.cell 4
            have hf0 := hBc.frozen 0
            have hf1 := hBc.frozen 1
            have hf2 := hBc.frozen 2
            have hf3 := hBc.frozen 3
            have hf4 := hBc.frozen 4
            have hu0 := hBd.cell 0
            have hu1 := hBd.cell 1
            have hu2 := hBd.cell 2
            have hu3 := hBd.cell 3
            have hu4 := hBd.cell 4
            simp at hv0 hv1 hv2 hv3 hv4 hu0 hu1 hu2 hu3 hu4
            have hlc := hBc.lt
            have hld := hBd.lt
            have HBe := Lib.hid hBe
            clear hBe hBc hBd
            go_wp2_with ((go_at_call 21; refine (awake_any _).mono ?_; rintro e w10 ⟨rfl, hb10⟩))
            go_ret
            have hBe := HBe.out
            have hbe := hBe.size
            refine ⟨rfl, Below.trans ?_ (hb10.mono (B' := w.heap.size) ?_)⟩
            · (repeat' (first | with_reducible assumption | with_reducible exact Below.refl _ _ | with_reducible refine Below.alloc ?_ ?_ _ | with_reducible refine Below.setCell ?_ ?_ _ | with_reducible refine Below.drew ?_ | with_reducible refine below_drewN ?_ _ | omega | (simp; done) | (simp; omega)))
            · first | omega | (simp; omega)
        · have hnx := nx_c HV.out hlt ci ch cd
          have HN1 := Lib.hid hnx.1
          have HN2 := Lib.hid (hnx.2.trans (by rw [HM.out]))
          have ti : (i + 1 == 60) = true := by simpa using ci
          have th : (h + 1 == 24) = true := by simpa using ch
          have td : decide (days y m < d + 1) = false := by simp; omega
          have tm : (m == 13) = false := by simp; omega
          clear hnx ci ch cd hlt
          refine (date_at HN1.out HN2.out _).mono ?_
          rintro e w8 ⟨rfl, hb8⟩
          have hB8 := hB7.below hb8 hB7.lt
          have hbel8 := hbel.trans (hb8.mono hbel.size)
          have hl7 := hB7.lt
          have hl8 := hB8.lt
          have HS8 := Nat.le_trans hbel.size hb8.size
          have hv0 := hB8.cell 0
          have hv1 := hB8.cell 1
          have hv2 := hB8.cell 2
          have hv3 := hB8.cell 3
          have hv4 := hB8.cell 4
          have hf0 := hB8.frozen 0
          have hf1 := hB8.frozen 1
          have hf2 := hB8.frozen 2
          have hf3 := hB8.frozen 3
          have hf4 := hB8.frozen 4
          simp at hv0 hv1 hv2 hv3 hv4
          have s4 := HB4.out
          have HB7 := Lib.hid hB7
          have HB8 := Lib.hid hB8
          have HL8 := Lib.hid hbel8
          clear hb8 hB7 hB8 hbel hbel8
          go_wp2_with fail
          have hB8 := HB8.out
          have hbel8 := HL8.out
          refine forget (fun w' => Blk w' w4.heap.size #[.int .i64 y, .int .i64 m, .int .i64 (d + 1), .int .i64 0, .int .i64 0] ∧ Blk w' w8.heap.size #[.int .i64 y, .int .i64 m, .int .i64 (d + 1), .int .i64 0, .int .i64 0] ∧ Below w.heap.size w w') ⟨by (repeat' (first | with_reducible assumption | with_reducible exact Blk.new _ _ _ | ((with_reducible refine Blk.new' _ _ _ ?_); (simp; done)) | with_reducible refine Blk.alloc ?_ _ | with_reducible refine Blk.drewN ?_ _ | with_reducible refine Blk.drew ?_ | with_reducible apply Blk.put' | ((with_reducible refine Blk.away ?_ ?_ _ _); rotate_left; omega) | rfl | omega)), by (repeat' (first | with_reducible assumption | with_reducible exact Blk.new _ _ _ | ((with_reducible refine Blk.new' _ _ _ ?_); (simp; done)) | with_reducible refine Blk.alloc ?_ _ | with_reducible refine Blk.drewN ?_ _ | with_reducible refine Blk.drew ?_ | with_reducible apply Blk.put' | ((with_reducible refine Blk.away ?_ ?_ _ _); rotate_left; omega) | rfl | omega)), by (repeat' (first | with_reducible assumption | with_reducible exact Below.refl _ _ | with_reducible refine Below.alloc ?_ ?_ _ | with_reducible refine Below.setCell ?_ ?_ _ | with_reducible refine Below.drew ?_ | with_reducible refine below_drewN ?_ _ | omega | (simp; done) | (simp; omega)))⟩ ?_
          clear hv0 hv1 hv2 hv3 hv4 hf0 hf1 hf2 hf3 hf4 hB8 hbel8
          rintro W ⟨hBc, hBd, hBe⟩
          have hv0 := hBc.cell 0
          have hv1 := hBc.cell 1
          have hv2 := hBc.cell 2
          have hv3 := hBc.cell 3
          have hv4 := hBc.cell 4
          simp at hv0 hv1 hv2 hv3 hv4
          have hlc := hBc.lt
          have hld := hBd.lt
          refine wp_region_near (by kernel_rfl) (by kernel_rfl) ?_
          repeat (go_big_quiet_step ((go_at_call 16; exact near_of (days_any _ _ _))))
          refine wpQuiet_nil ?_
          intro X
          replace hBc := hBc.below X.h hlc
          replace hBd := hBd.below X.h hld
          replace hBe := hBe.trans (X.h.mono hBe.size)
          clear hv0 hv1 hv2 hv3 hv4 hlc hld
          generalize X.w = w9 at hBc hBd hBe ⊢
          clear X
          have hv0 := hBc.cell 0
          have hv1 := hBc.cell 1
          have hv2 := hBc.cell 2
          have hv3 := hBc.cell 3
          have hv4 := hBc.cell 4
          have hf0 := hBc.frozen 0
          have hf1 := hBc.frozen 1
          have hf2 := hBc.frozen 2
          have hf3 := hBc.frozen 3
          have hf4 := hBc.frozen 4
          have hu0 := hBd.cell 0
          have hu1 := hBd.cell 1
          have hu2 := hBd.cell 2
          have hu3 := hBd.cell 3
          have hu4 := hBd.cell 4
          simp at hv0 hv1 hv2 hv3 hv4 hu0 hu1 hu2 hu3 hu4
          have hlc := hBc.lt
          have hld := hBd.lt
          have HBe := Lib.hid hBe
          clear hBe hBc hBd
          go_wp2_with ((go_at_call 21; refine (awake_any _).mono ?_; rintro e w10 ⟨rfl, hb10⟩))
          go_ret
          have hBe := HBe.out
          have hbe := hBe.size
          refine ⟨rfl, Below.trans ?_ (hb10.mono (B' := w.heap.size) ?_)⟩
          · (repeat' (first | with_reducible assumption | with_reducible exact Below.refl _ _ | with_reducible refine Below.alloc ?_ ?_ _ | with_reducible refine Below.setCell ?_ ?_ _ | with_reducible refine Below.drew ?_ | with_reducible refine below_drewN ?_ _ | omega | (simp; done) | (simp; omega)))
          · first | omega | (simp; omega)
      · have hnx := nx_b HV.out hlt ci ch
        have HN1 := Lib.hid hnx.1
        have HN2 := Lib.hid (hnx.2.trans (by rw [HM.out]))
        have ti : (i + 1 == 60) = true := by simpa using ci
        have th : (h + 1 == 24) = false := by simpa using ch
        have td : decide (days y m < d) = false := by have := HD.out; simp; omega
        have tm : (m == 13) = false := by simp; omega
        clear hnx ci ch hlt
        refine (date_at HN1.out HN2.out _).mono ?_
        rintro e w8 ⟨rfl, hb8⟩
        have hB8 := hB7.below hb8 hB7.lt
        have hbel8 := hbel.trans (hb8.mono hbel.size)
        have hl7 := hB7.lt
        have hl8 := hB8.lt
        have HS8 := Nat.le_trans hbel.size hb8.size
        have hv0 := hB8.cell 0
        have hv1 := hB8.cell 1
        have hv2 := hB8.cell 2
        have hv3 := hB8.cell 3
        have hv4 := hB8.cell 4
        have hf0 := hB8.frozen 0
        have hf1 := hB8.frozen 1
        have hf2 := hB8.frozen 2
        have hf3 := hB8.frozen 3
        have hf4 := hB8.frozen 4
        simp at hv0 hv1 hv2 hv3 hv4
        have s4 := HB4.out
        have HB7 := Lib.hid hB7
        have HB8 := Lib.hid hB8
        have HL8 := Lib.hid hbel8
        clear hb8 hB7 hB8 hbel hbel8
        go_wp2_with fail
        have hB8 := HB8.out
        have hbel8 := HL8.out
        refine forget (fun w' => Blk w' w4.heap.size #[.int .i64 y, .int .i64 m, .int .i64 d, .int .i64 (h + 1), .int .i64 0] ∧ Blk w' w8.heap.size #[.int .i64 y, .int .i64 m, .int .i64 d, .int .i64 (h + 1), .int .i64 0] ∧ Below w.heap.size w w') ⟨by (repeat' (first | with_reducible assumption | with_reducible exact Blk.new _ _ _ | ((with_reducible refine Blk.new' _ _ _ ?_); (simp; done)) | with_reducible refine Blk.alloc ?_ _ | with_reducible refine Blk.drewN ?_ _ | with_reducible refine Blk.drew ?_ | with_reducible apply Blk.put' | ((with_reducible refine Blk.away ?_ ?_ _ _); rotate_left; omega) | rfl | omega)), by (repeat' (first | with_reducible assumption | with_reducible exact Blk.new _ _ _ | ((with_reducible refine Blk.new' _ _ _ ?_); (simp; done)) | with_reducible refine Blk.alloc ?_ _ | with_reducible refine Blk.drewN ?_ _ | with_reducible refine Blk.drew ?_ | with_reducible apply Blk.put' | ((with_reducible refine Blk.away ?_ ?_ _ _); rotate_left; omega) | rfl | omega)), by (repeat' (first | with_reducible assumption | with_reducible exact Below.refl _ _ | with_reducible refine Below.alloc ?_ ?_ _ | with_reducible refine Below.setCell ?_ ?_ _ | with_reducible refine Below.drew ?_ | with_reducible refine below_drewN ?_ _ | omega | (simp; done) | (simp; omega)))⟩ ?_
        clear hv0 hv1 hv2 hv3 hv4 hf0 hf1 hf2 hf3 hf4 hB8 hbel8
        rintro W ⟨hBc, hBd, hBe⟩
        have hv0 := hBc.cell 0
        have hv1 := hBc.cell 1
        have hv2 := hBc.cell 2
        have hv3 := hBc.cell 3
        have hv4 := hBc.cell 4
        simp at hv0 hv1 hv2 hv3 hv4
        have hlc := hBc.lt
        have hld := hBd.lt
        refine wp_region_near (by kernel_rfl) (by kernel_rfl) ?_
        repeat (go_big_quiet_step ((go_at_call 16; exact near_of (days_any _ _ _))))
        refine wpQuiet_nil ?_
        intro X
        replace hBc := hBc.below X.h hlc
        replace hBd := hBd.below X.h hld
        replace hBe := hBe.trans (X.h.mono hBe.size)
        clear hv0 hv1 hv2 hv3 hv4 hlc hld
        generalize X.w = w9 at hBc hBd hBe ⊢
        clear X
        have hv0 := hBc.cell 0
        have hv1 := hBc.cell 1
        have hv2 := hBc.cell 2
        have hv3 := hBc.cell 3
        have hv4 := hBc.cell 4
        have hf0 := hBc.frozen 0
        have hf1 := hBc.frozen 1
        have hf2 := hBc.frozen 2
        have hf3 := hBc.frozen 3
        have hf4 := hBc.frozen 4
        have hu0 := hBd.cell 0
        have hu1 := hBd.cell 1
        have hu2 := hBd.cell 2
        have hu3 := hBd.cell 3
        have hu4 := hBd.cell 4
        simp at hv0 hv1 hv2 hv3 hv4 hu0 hu1 hu2 hu3 hu4
        have hlc := hBc.lt
        have hld := hBd.lt
        have HBe := Lib.hid hBe
        clear hBe hBc hBd
        go_wp2_with ((go_at_call 21; refine (awake_any _).mono ?_; rintro e w10 ⟨rfl, hb10⟩))
        go_ret
        have hBe := HBe.out
        have hbe := hBe.size
        refine ⟨rfl, Below.trans ?_ (hb10.mono (B' := w.heap.size) ?_)⟩
        · (repeat' (first | with_reducible assumption | with_reducible exact Below.refl _ _ | with_reducible refine Below.alloc ?_ ?_ _ | with_reducible refine Below.setCell ?_ ?_ _ | with_reducible refine Below.drew ?_ | with_reducible refine below_drewN ?_ _ | omega | (simp; done) | (simp; omega)))
        · first | omega | (simp; omega)
    · have hnx := nx_a HV.out hlt ci
      have HN1 := Lib.hid hnx.1
      have HN2 := Lib.hid (hnx.2.trans (by rw [HM.out]))
      have ti : (i + 1 == 60) = false := by simpa using ci
      have th : (h == 24) = false := by simp; omega
      have td : decide (days y m < d) = false := by have := HD.out; simp; omega
      have tm : (m == 13) = false := by simp; omega
      clear hnx ci hlt
      refine (date_at HN1.out HN2.out _).mono ?_
      rintro e w8 ⟨rfl, hb8⟩
      have hB8 := hB7.below hb8 hB7.lt
      have hbel8 := hbel.trans (hb8.mono hbel.size)
      have hl7 := hB7.lt
      have hl8 := hB8.lt
      have HS8 := Nat.le_trans hbel.size hb8.size
      have hv0 := hB8.cell 0
      have hv1 := hB8.cell 1
      have hv2 := hB8.cell 2
      have hv3 := hB8.cell 3
      have hv4 := hB8.cell 4
      have hf0 := hB8.frozen 0
      have hf1 := hB8.frozen 1
      have hf2 := hB8.frozen 2
      have hf3 := hB8.frozen 3
      have hf4 := hB8.frozen 4
      simp at hv0 hv1 hv2 hv3 hv4
      have s4 := HB4.out
      have HB7 := Lib.hid hB7
      have HB8 := Lib.hid hB8
      have HL8 := Lib.hid hbel8
      clear hb8 hB7 hB8 hbel hbel8
      go_wp2_with fail
      have hB8 := HB8.out
      have hbel8 := HL8.out
      refine forget (fun w' => Blk w' w4.heap.size #[.int .i64 y, .int .i64 m, .int .i64 d, .int .i64 h, .int .i64 (i + 1)] ∧ Blk w' w8.heap.size #[.int .i64 y, .int .i64 m, .int .i64 d, .int .i64 h, .int .i64 (i + 1)] ∧ Below w.heap.size w w') ⟨by (repeat' (first | with_reducible assumption | with_reducible exact Blk.new _ _ _ | ((with_reducible refine Blk.new' _ _ _ ?_); (simp; done)) | with_reducible refine Blk.alloc ?_ _ | with_reducible refine Blk.drewN ?_ _ | with_reducible refine Blk.drew ?_ | with_reducible apply Blk.put' | ((with_reducible refine Blk.away ?_ ?_ _ _); rotate_left; omega) | rfl | omega)), by (repeat' (first | with_reducible assumption | with_reducible exact Blk.new _ _ _ | ((with_reducible refine Blk.new' _ _ _ ?_); (simp; done)) | with_reducible refine Blk.alloc ?_ _ | with_reducible refine Blk.drewN ?_ _ | with_reducible refine Blk.drew ?_ | with_reducible apply Blk.put' | ((with_reducible refine Blk.away ?_ ?_ _ _); rotate_left; omega) | rfl | omega)), by (repeat' (first | with_reducible assumption | with_reducible exact Below.refl _ _ | with_reducible refine Below.alloc ?_ ?_ _ | with_reducible refine Below.setCell ?_ ?_ _ | with_reducible refine Below.drew ?_ | with_reducible refine below_drewN ?_ _ | omega | (simp; done) | (simp; omega)))⟩ ?_
      clear hv0 hv1 hv2 hv3 hv4 hf0 hf1 hf2 hf3 hf4 hB8 hbel8
      rintro W ⟨hBc, hBd, hBe⟩
      have hv0 := hBc.cell 0
      have hv1 := hBc.cell 1
      have hv2 := hBc.cell 2
      have hv3 := hBc.cell 3
      have hv4 := hBc.cell 4
      simp at hv0 hv1 hv2 hv3 hv4
      have hlc := hBc.lt
      have hld := hBd.lt
      refine wp_region_near (by kernel_rfl) (by kernel_rfl) ?_
      repeat (go_big_quiet_step ((go_at_call 16; exact near_of (days_any _ _ _))))
      refine wpQuiet_nil ?_
      intro X
      replace hBc := hBc.below X.h hlc
      replace hBd := hBd.below X.h hld
      replace hBe := hBe.trans (X.h.mono hBe.size)
      clear hv0 hv1 hv2 hv3 hv4 hlc hld
      generalize X.w = w9 at hBc hBd hBe ⊢
      clear X
      have hv0 := hBc.cell 0
      have hv1 := hBc.cell 1
      have hv2 := hBc.cell 2
      have hv3 := hBc.cell 3
      have hv4 := hBc.cell 4
      have hf0 := hBc.frozen 0
      have hf1 := hBc.frozen 1
      have hf2 := hBc.frozen 2
      have hf3 := hBc.frozen 3
      have hf4 := hBc.frozen 4
      have hu0 := hBd.cell 0
      have hu1 := hBd.cell 1
      have hu2 := hBd.cell 2
      have hu3 := hBd.cell 3
      have hu4 := hBd.cell 4
      simp at hv0 hv1 hv2 hv3 hv4 hu0 hu1 hu2 hu3 hu4
      have hlc := hBc.lt
      have hld := hBd.lt
      have HBe := Lib.hid hBe
      clear hBe hBc hBd
      go_wp2_with ((go_at_call 21; refine (awake_any _).mono ?_; rintro e w10 ⟨rfl, hb10⟩))
      go_ret
      have hBe := HBe.out
      have hbe := hBe.size
      refine ⟨rfl, Below.trans ?_ (hb10.mono (B' := w.heap.size) ?_)⟩
      · (repeat' (first | with_reducible assumption | with_reducible exact Below.refl _ _ | with_reducible refine Below.alloc ?_ ?_ _ | with_reducible refine Below.setCell ?_ ?_ _ | with_reducible refine Below.drew ?_ | with_reducible refine below_drewN ?_ _ | omega | (simp; done) | (simp; omega)))
      · first | omega | (simp; omega)
end Go.Proofs.Ytnfdpjckdiifkaa
