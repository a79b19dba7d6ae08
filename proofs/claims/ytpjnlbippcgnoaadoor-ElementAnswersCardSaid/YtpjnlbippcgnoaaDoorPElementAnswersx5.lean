-- PRINTED BY print.sh 35421559b90ae4d0a3588c463048766b98c2df88dd9212a6774a882060cdf62d: not written by this session
import Derived.Test.YtpjnlbippcgnoaaDoorPElementAnswersx0
import Derived.Test.YtpjnlbippcgnoaaDoorPElementAnswersx4
namespace Go.Proofs.YtpjnlbippcgnoaaDoor.PElementAnswers
open Go.RowKit Go.Proofs.YtpjnlbippcgnoaaDoorW.PrintWords Go.Proofs.YtpjnlbippcgnoaaDoorW.PrintLast Go.Proofs.YtpjnlbippcgnoaaDoorW.PrintMore
attribute [local go_sem] max2_int min2_int max_two min_two max_three min_three max_four min_four   -- for this text's walks alone
set_option linter.unusedVariables false
set_option linter.unusedSimpArgs false

/-! ### synoptickeep_Src_N: function 22 -/
def synoptickeep_Src_N.f (s0_0 : List Int) (s0_1 : Int) (a1 : Int) : Option (Int × Int) := (synoptickeep_Src_Raw.f s0_0 s0_1).bind fun bt116 => ((synoptickeep_Mod.f bt116.1 a1).bind fun t118 => (some (t118, bt116.2)))
set_option maxHeartbeats 8000000 in
set_option maxRecDepth 100000 in
theorem synoptickeep_Src_N.calls (g : Nat) (s0_0 : List Int) (s0_1 : Int) (a1 : Int) (r1 : Int) (r2 : Int) (w0 w : World) (hI : IsS62 w0 w g s0_0 s0_1) (hB : Below w0.heap.size w0 w) (h : synoptickeep_Src_N.f s0_0 s0_1 a1 = some (r1, r2)) :
    Calls Tryd.prog 22 #[.pointer (some ⟨g, 0, none⟩), .int .i64 a1] w fun e w' => e = .returned (.int .i64 r1) ∧ IsS62 w0 w' g s0_0 r2 ∧ Below w0.heap.size w0 w' ∧ KeepBut w w' g none := by
  have HI0 := Aside0.mk hI
  have HK := Aside0.mk (KeepBut.refl w g none)
  have HL := Aside0.mk hB.size
  clear hI
  have HW0 := Aside0.mk hB.size
  have HB := Aside0.mk hB
  clear hB
  have H : ((synoptickeep_Src_Raw.f s0_0 s0_1).bind fun bt116 => ((synoptickeep_Mod.f bt116.1 a1).bind fun t118 => (some (t118, bt116.2)))) = some (r1, r2) := h
  clear h
  replace H := Option.bind_eq_some_iff.mp H
  obtain ⟨⟨t116, t117⟩, A30, H⟩ := H
  replace H : ((synoptickeep_Mod.f t116 a1).bind fun t118 => (some (t118, t117))) = some (r1, r2) := H
  have A3 := Aside0.mk A30
  clear A30
  replace H := Option.bind_eq_some_iff.mp H
  obtain ⟨t118, A40, H⟩ := H
  replace H : (some (t118, t117)) = some (r1, r2) := H
  have A4 := Aside0.mk A40
  clear A40
  simp only [Option.some.injEq, Prod.mk.injEq] at H
  obtain ⟨rfl, rfl⟩ := H
  go_enter Tryd.func22, Tryd.ntmps22
  go_wp2_with (first | ((with_reducible refine gate_callee (f := 44) rfl ?_); refine goesL_ (some 6) rfl rfl Tryd.func44 (by kernel_rfl) rfl #[.pointer (some ⟨g, 0, none⟩)] rfl (by (try simp only [List.map_toArray, List.map_cons, List.map_nil]); first | done | rfl | (simp only [List.length_drop, List.length_take]; rfl)) ?_; (with_reducible refine (synoptickeep_Src_Raw.calls g s0_0 s0_1 t116 t117 w0 _ ?side1 ?side2 A3.out).mono ?_); (case side1 => repeat (first | (with_reducible first | exact HI0.out | apply IsS62.alloc | apply IsS62.drewN | apply IsS62.drew | apply IsS62.set_1) | exact HI0.out)); (case side2 => repeat (first | (with_reducible first | exact HB.out | apply below_alloc | apply pw_below_drewN | apply below_drew1 | refine below_set ?_ (IsS62.ge HI0.out)) | exact HB.out)); rintro e w5 ⟨rfl, hi, hb, hk⟩; refine ⟨_, rfl, ?_⟩; have n0_ := Aside0.mk (KeepBut.trans (by repeat (first | (with_reducible first | exact HK.out | apply KeepBut.set_ | apply keep_drewN | apply keep_drew | apply keep_alloc) | exact HK.out)) hk (.inl rfl)); have n1_ := Aside0.mk (hb); have n2_ := Aside0.mk (hi); clear HK; clear HB; clear HI0; have HK := n0_; have HB := n1_; have HI0 := n2_; clear n0_ n1_ n2_; (try clear hb); (try clear hb2); (try clear hk); (try clear hi)) | ((with_reducible refine gate_callee (f := 15) rfl ?_); refine goesL_ (some 8) rfl rfl Tryd.func15 (by kernel_rfl) rfl #[.int .i64 t116, .int .i64 a1] rfl (by (try simp only [List.map_toArray, List.map_cons, List.map_nil]); first | done | rfl | (simp only [List.length_drop, List.length_take]; rfl)) ?_; (with_reducible refine (synoptickeep_Mod.calls t116 a1 t118 _ A4.out).mono ?_); rintro e w' ⟨rfl, ⟨nd, rfl⟩⟩; refine ⟨_, rfl, ?_⟩))
  go_ret
  exact ⟨by first | rfl | (simp [errW_none, errW_some] <;> rfl) | (simp [*, errW_none, errW_some] <;> rfl), by repeat (first | (with_reducible first | exact HI0.out | apply IsS62.alloc | apply IsS62.drewN | apply IsS62.drew | apply IsS62.set_1) | exact HI0.out), by repeat (first | (with_reducible first | exact HB.out | apply below_alloc | apply pw_below_drewN | apply below_drew1 | refine below_set ?_ (IsS62.ge HI0.out)) | exact HB.out), by repeat (first | (with_reducible first | exact HK.out | apply KeepBut.set_ | apply keep_drewN | apply keep_drew | apply keep_alloc) | exact HK.out)⟩

/-! ### synoptickeep_Src_Range: function 11 -/
def synoptickeep_Src_Range.f (s0_0 : List Int) (s0_1 : Int) (a1 : Int) (a2 : Int) : Option (Int × Int) := (synoptickeep_Src_N.f s0_0 s0_1 (wrap64 ((wrap64 (a2 - a1)) + 1))).bind fun bt119 => (some (wrap64 (a1 + bt119.1), bt119.2))
set_option maxHeartbeats 8000000 in
set_option maxRecDepth 100000 in
theorem synoptickeep_Src_Range.calls (g : Nat) (s0_0 : List Int) (s0_1 : Int) (a1 : Int) (a2 : Int) (r1 : Int) (r2 : Int) (w0 w : World) (hI : IsS62 w0 w g s0_0 s0_1) (hB : Below w0.heap.size w0 w) (h : synoptickeep_Src_Range.f s0_0 s0_1 a1 a2 = some (r1, r2)) :
    Calls Tryd.prog 11 #[.pointer (some ⟨g, 0, none⟩), .int .i64 a1, .int .i64 a2] w fun e w' => e = .returned (.int .i64 r1) ∧ IsS62 w0 w' g s0_0 r2 ∧ Below w0.heap.size w0 w' ∧ KeepBut w w' g none := by
  have HI0 := Aside0.mk hI
  have HK := Aside0.mk (KeepBut.refl w g none)
  have HL := Aside0.mk hB.size
  clear hI
  have HW0 := Aside0.mk hB.size
  have HB := Aside0.mk hB
  clear hB
  have H : ((synoptickeep_Src_N.f s0_0 s0_1 (wrap64 ((wrap64 (a2 - a1)) + 1))).bind fun bt119 => (some (wrap64 (a1 + bt119.1), bt119.2))) = some (r1, r2) := h
  clear h
  replace H := Option.bind_eq_some_iff.mp H
  obtain ⟨⟨t119, t120⟩, A40, H⟩ := H
  replace H : (some (wrap64 (a1 + t119), t120)) = some (r1, r2) := H
  have A4 := Aside0.mk A40
  clear A40
  simp only [Option.some.injEq, Prod.mk.injEq] at H
  obtain ⟨rfl, rfl⟩ := H
  go_enter Tryd.func11, Tryd.ntmps11
  go_wp2_with (first | ((with_reducible refine gate_callee (f := 22) rfl ?_); refine goesL_ (some 13) rfl rfl Tryd.func22 (by kernel_rfl) rfl #[.pointer (some ⟨g, 0, none⟩), .int .i64 (wrap64 ((wrap64 (a2 - a1)) + 1))] rfl (by (try simp only [List.map_toArray, List.map_cons, List.map_nil]); first | done | rfl | (simp only [List.length_drop, List.length_take]; rfl)) ?_; (with_reducible refine (synoptickeep_Src_N.calls g s0_0 s0_1 (wrap64 ((wrap64 (a2 - a1)) + 1)) t119 t120 w0 _ ?side1 ?side2 A4.out).mono ?_); (case side1 => repeat (first | (with_reducible first | exact HI0.out | apply IsS62.alloc | apply IsS62.drewN | apply IsS62.drew | apply IsS62.set_1) | exact HI0.out)); (case side2 => repeat (first | (with_reducible first | exact HB.out | apply below_alloc | apply pw_below_drewN | apply below_drew1 | refine below_set ?_ (IsS62.ge HI0.out)) | exact HB.out)); rintro e w5 ⟨rfl, hi, hb, hk⟩; refine ⟨_, rfl, ?_⟩; have n0_ := Aside0.mk (KeepBut.trans (by repeat (first | (with_reducible first | exact HK.out | apply KeepBut.set_ | apply keep_drewN | apply keep_drew | apply keep_alloc) | exact HK.out)) hk (.inl rfl)); have n1_ := Aside0.mk (hb); have n2_ := Aside0.mk (hi); clear HK; clear HB; clear HI0; have HK := n0_; have HB := n1_; have HI0 := n2_; clear n0_ n1_ n2_; (try clear hb); (try clear hb2); (try clear hk); (try clear hi)))
  go_ret
  exact ⟨by first | rfl | (simp [errW_none, errW_some] <;> rfl) | (simp [*, errW_none, errW_some] <;> rfl), by repeat (first | (with_reducible first | exact HI0.out | apply IsS62.alloc | apply IsS62.drewN | apply IsS62.drew | apply IsS62.set_1) | exact HI0.out), by repeat (first | (with_reducible first | exact HB.out | apply below_alloc | apply pw_below_drewN | apply below_drew1 | refine below_set ?_ (IsS62.ge HI0.out)) | exact HB.out), by repeat (first | (with_reducible first | exact HK.out | apply KeepBut.set_ | apply keep_drewN | apply keep_drew | apply keep_alloc) | exact HK.out)⟩

/-! ### synopticref04_Describe: function 23 -/
def synopticref04_Describe.f (a0 : Int) : Option (ByteArray × Int × Int × Int × Int) := if a0 < 1 then (some ((⟨#[]⟩ : ByteArray), 0, 0, 0, 4)) else (if a0 > 11 then (some ((⟨#[]⟩ : ByteArray), 0, 0, 0, 4)) else ((some (([(⟨(⟨#[80]⟩ : ByteArray), 8000, 11000, 5⟩ : S39), (⟨(⟨#[84]⟩ : ByteArray), 1800, 3300, 4⟩ : S39), (⟨(⟨#[68]⟩ : ByteArray), 1800, 3300, 4⟩ : S39), (⟨(⟨#[69]⟩ : ByteArray), (-1000), 1000, 4⟩ : S39), (⟨(⟨#[78]⟩ : ByteArray), (-1000), 1000, 4⟩ : S39), (⟨(⟨#[65]⟩ : ByteArray), 900, 1700, 4⟩ : S39), (⟨(⟨#[66]⟩ : ByteArray), 2000, 3200, 4⟩ : S39), (⟨(⟨#[70]⟩ : ByteArray), 2400, 3400, 4⟩ : S39), (⟨(⟨#[71]⟩ : ByteArray), 2000, 3000, 4⟩ : S39), (⟨(⟨#[74]⟩ : ByteArray), 4400, 6200, 4⟩ : S39), (⟨(⟨#[75]⟩ : ByteArray), 2000, 2900, 4⟩ : S39)] : List (S39)) : List (S39))).bind fun y122 => (if 0 ≤ (wrap64 (a0 - 1)) then (if (wrap64 (a0 - 1)) < (y122.length : Int) then (some ((rd_T39 y122 (wrap64 (a0 - 1))).f0, (rd_T39 y122 (wrap64 (a0 - 1))).f1, (rd_T39 y122 (wrap64 (a0 - 1))).f2, (rd_T39 y122 (wrap64 (a0 - 1))).f3, 0)) else (none)) else (none))))
set_option maxHeartbeats 8000000 in
set_option maxRecDepth 100000 in
theorem synopticref04_Describe.calls (a0 : Int) (r1 : ByteArray) (r2 : Int) (r3 : Int) (r4 : Int) (r5 : Int) (w : World) (h : synopticref04_Describe.f a0 = some (r1, r2, r3, r4, r5)) :
    Calls Tryd.prog 23 #[.int .i64 a0] w fun e w' => e = .returned (.tuple #[.agg #[.string r1, .int .i64 r2, .int .i64 r3, .int .i64 r4], .int .i64 r5]) ∧ Below w.heap.size w w' := by
  have hu39 := Tryd.underlying39
  have HB := Aside0.mk (Below.refl w.heap.size w)
  have H : (if a0 < 1 then (some ((⟨#[]⟩ : ByteArray), 0, 0, 0, 4)) else (if a0 > 11 then (some ((⟨#[]⟩ : ByteArray), 0, 0, 0, 4)) else ((some (([(⟨(⟨#[80]⟩ : ByteArray), 8000, 11000, 5⟩ : S39), (⟨(⟨#[84]⟩ : ByteArray), 1800, 3300, 4⟩ : S39), (⟨(⟨#[68]⟩ : ByteArray), 1800, 3300, 4⟩ : S39), (⟨(⟨#[69]⟩ : ByteArray), (-1000), 1000, 4⟩ : S39), (⟨(⟨#[78]⟩ : ByteArray), (-1000), 1000, 4⟩ : S39), (⟨(⟨#[65]⟩ : ByteArray), 900, 1700, 4⟩ : S39), (⟨(⟨#[66]⟩ : ByteArray), 2000, 3200, 4⟩ : S39), (⟨(⟨#[70]⟩ : ByteArray), 2400, 3400, 4⟩ : S39), (⟨(⟨#[71]⟩ : ByteArray), 2000, 3000, 4⟩ : S39), (⟨(⟨#[74]⟩ : ByteArray), 4400, 6200, 4⟩ : S39), (⟨(⟨#[75]⟩ : ByteArray), 2000, 2900, 4⟩ : S39)] : List (S39)) : List (S39))).bind fun y122 => (if 0 ≤ (wrap64 (a0 - 1)) then (if (wrap64 (a0 - 1)) < (y122.length : Int) then (some ((rd_T39 y122 (wrap64 (a0 - 1))).f0, (rd_T39 y122 (wrap64 (a0 - 1))).f1, (rd_T39 y122 (wrap64 (a0 - 1))).f2, (rd_T39 y122 (wrap64 (a0 - 1))).f3, 0)) else (none)) else (none))))) = some (r1, r2, r3, r4, r5) := h
  clear h
  by_cases c2 : a0 < 1
  · rw [if_pos c2] at H
    have c2b0 : decide (a0 < 1) = true := decide_eq_true c2
    clear c2
    simp only [Option.some.injEq, Prod.mk.injEq] at H
    obtain ⟨rfl, rfl, rfl, rfl, rfl⟩ := H
    go_enter Tryd.func23, Tryd.ntmps23
    go_wp2_with (first | ((with_reducible refine gate_dst (N := 2) rfl ?_); refine box_event ?hg (N := 2) ?hd (cs := #[.string (⟨#[]⟩ : ByteArray), .int .i64 0, .int .i64 0, .int .i64 0]) (t := 39) ?hr ?_; (case hd => rfl); (case hg => rfl); (case hr => first | (go_simp; done) | (go_simp; rfl)); intro gb121 hg w3 hbox hb; have n0_ := Aside0.mk (below_step (by repeat (first | (with_reducible first | exact HB.out | apply below_alloc | apply pw_below_drewN | apply below_drew1) | exact HB.out)) hb); have n1_ := Aside0.mk (hbox); have n2_ := Aside0.mk ((by rw [hg]; exact (below_size (by repeat (first | (with_reducible first | exact HB.out | apply below_alloc | apply pw_below_drewN | apply below_drew1) | exact HB.out))) : w.heap.size ≤ gb121)); have n3_ := Aside0.mk ((by rw [hg]; exact (below_size (by repeat (first | (with_reducible first | exact HB.out | apply below_alloc | apply pw_below_drewN | apply below_drew1) | exact HB.out))) : w.heap.size ≤ gb121)); clear HB; have HB := n0_; have BK121 := n1_; have GW121 := n2_; have GE121 := n3_; clear n0_ n1_ n2_ n3_; clear hb hbox hg; have hcz4_0 : w3.cell? ⟨gb121, 0, none⟩ = some (.string (⟨#[]⟩ : ByteArray)) := (blk_cell BK121.out 0).trans rfl; have hcz4_1 : w3.cell? ⟨gb121, 1, none⟩ = some (.int .i64 0) := (blk_cell BK121.out 1).trans rfl; have hcz4_2 : w3.cell? ⟨gb121, 2, none⟩ = some (.int .i64 0) := (blk_cell BK121.out 2).trans rfl; have hcz4_3 : w3.cell? ⟨gb121, 3, none⟩ = some (.int .i64 0) := (blk_cell BK121.out 3).trans rfl; have hfz4_0 := blk_frozen BK121.out 0; have hfz4_1 := blk_frozen BK121.out 1; have hfz4_2 := blk_frozen BK121.out 2; have hfz4_3 := blk_frozen BK121.out 3))
    refine bodyPost_ret (results_ct rfl _ _ gb121 39 #[.string (⟨#[]⟩ : ByteArray), .int .i64 0, .int .i64 0, .int .i64 0] (0, 0) _ rfl (by (with_reducible repeat (first | refine blk_drewN ?_ _ | refine blk_drew ?_ | refine blk_alloc ?_ _)); refine blk_put (cs := #[.string (⟨#[]⟩ : ByteArray), .int .i64 0, .int .i64 0, .int .i64 0]) ?_ 3 _ rfl; (with_reducible repeat (first | refine blk_drewN ?_ _ | refine blk_drew ?_ | refine blk_alloc ?_ _)); refine blk_put (cs := #[.string (⟨#[]⟩ : ByteArray), .int .i64 0, .int .i64 0, .int .i64 0]) ?_ 2 _ rfl; (with_reducible repeat (first | refine blk_drewN ?_ _ | refine blk_drew ?_ | refine blk_alloc ?_ _)); refine blk_put (cs := #[.string (⟨#[]⟩ : ByteArray), .int .i64 0, .int .i64 0, .int .i64 0]) ?_ 1 _ rfl; (with_reducible repeat (first | refine blk_drewN ?_ _ | refine blk_drew ?_ | refine blk_alloc ?_ _)); refine blk_put (cs := #[.string (⟨#[]⟩ : ByteArray), .int .i64 0, .int .i64 0, .int .i64 0]) ?_ 0 _ rfl; (with_reducible repeat (first | refine blk_drewN ?_ _ | refine blk_drew ?_ | refine blk_alloc ?_ _)); exact BK121.out) Tryd.underlying39 rfl (by kernel_rfl)) rfl ?_
    exact ⟨by first | rfl | (simp [errW_none, errW_some] <;> rfl) | (simp [*, errW_none, errW_some] <;> rfl), by repeat (first | (with_reducible first | exact HB.out | apply below_alloc | apply pw_below_drewN | apply below_drew1 | refine below_set ?_ GE121.out) | exact HB.out)⟩
  · rw [if_neg c2] at H
    have c2b0 : decide (a0 < 1) = false := decide_eq_false c2
    clear c2
    by_cases c5 : a0 > 11
    · rw [if_pos c5] at H
      have c5b0 : decide (11 < a0) = true := decide_eq_true c5
      clear c5
      simp only [Option.some.injEq, Prod.mk.injEq] at H
      obtain ⟨rfl, rfl, rfl, rfl, rfl⟩ := H
      go_enter Tryd.func23, Tryd.ntmps23
      go_wp2_with (first | ((with_reducible refine gate_dst (N := 2) rfl ?_); refine box_event ?hg (N := 2) ?hd (cs := #[.string (⟨#[]⟩ : ByteArray), .int .i64 0, .int .i64 0, .int .i64 0]) (t := 39) ?hr ?_; (case hd => rfl); (case hg => rfl); (case hr => first | (go_simp; done) | (go_simp; rfl)); intro gb121 hg w6 hbox hb; have n0_ := Aside0.mk (below_step (by repeat (first | (with_reducible first | exact HB.out | apply below_alloc | apply pw_below_drewN | apply below_drew1) | exact HB.out)) hb); have n1_ := Aside0.mk (hbox); have n2_ := Aside0.mk ((by rw [hg]; exact (below_size (by repeat (first | (with_reducible first | exact HB.out | apply below_alloc | apply pw_below_drewN | apply below_drew1) | exact HB.out))) : w.heap.size ≤ gb121)); have n3_ := Aside0.mk ((by rw [hg]; exact (below_size (by repeat (first | (with_reducible first | exact HB.out | apply below_alloc | apply pw_below_drewN | apply below_drew1) | exact HB.out))) : w.heap.size ≤ gb121)); clear HB; have HB := n0_; have BK121 := n1_; have GW121 := n2_; have GE121 := n3_; clear n0_ n1_ n2_ n3_; clear hb hbox hg; have hcz7_0 : w6.cell? ⟨gb121, 0, none⟩ = some (.string (⟨#[]⟩ : ByteArray)) := (blk_cell BK121.out 0).trans rfl; have hcz7_1 : w6.cell? ⟨gb121, 1, none⟩ = some (.int .i64 0) := (blk_cell BK121.out 1).trans rfl; have hcz7_2 : w6.cell? ⟨gb121, 2, none⟩ = some (.int .i64 0) := (blk_cell BK121.out 2).trans rfl; have hcz7_3 : w6.cell? ⟨gb121, 3, none⟩ = some (.int .i64 0) := (blk_cell BK121.out 3).trans rfl; have hfz7_0 := blk_frozen BK121.out 0; have hfz7_1 := blk_frozen BK121.out 1; have hfz7_2 := blk_frozen BK121.out 2; have hfz7_3 := blk_frozen BK121.out 3))
      refine bodyPost_ret (results_ct rfl _ _ gb121 39 #[.string (⟨#[]⟩ : ByteArray), .int .i64 0, .int .i64 0, .int .i64 0] (0, 0) _ rfl (by (with_reducible repeat (first | refine blk_drewN ?_ _ | refine blk_drew ?_ | refine blk_alloc ?_ _)); refine blk_put (cs := #[.string (⟨#[]⟩ : ByteArray), .int .i64 0, .int .i64 0, .int .i64 0]) ?_ 3 _ rfl; (with_reducible repeat (first | refine blk_drewN ?_ _ | refine blk_drew ?_ | refine blk_alloc ?_ _)); refine blk_put (cs := #[.string (⟨#[]⟩ : ByteArray), .int .i64 0, .int .i64 0, .int .i64 0]) ?_ 2 _ rfl; (with_reducible repeat (first | refine blk_drewN ?_ _ | refine blk_drew ?_ | refine blk_alloc ?_ _)); refine blk_put (cs := #[.string (⟨#[]⟩ : ByteArray), .int .i64 0, .int .i64 0, .int .i64 0]) ?_ 1 _ rfl; (with_reducible repeat (first | refine blk_drewN ?_ _ | refine blk_drew ?_ | refine blk_alloc ?_ _)); refine blk_put (cs := #[.string (⟨#[]⟩ : ByteArray), .int .i64 0, .int .i64 0, .int .i64 0]) ?_ 0 _ rfl; (with_reducible repeat (first | refine blk_drewN ?_ _ | refine blk_drew ?_ | refine blk_alloc ?_ _)); exact BK121.out) Tryd.underlying39 rfl (by kernel_rfl)) rfl ?_
      exact ⟨by first | rfl | (simp [errW_none, errW_some] <;> rfl) | (simp [*, errW_none, errW_some] <;> rfl), by repeat (first | (with_reducible first | exact HB.out | apply below_alloc | apply pw_below_drewN | apply below_drew1 | refine below_set ?_ GE121.out) | exact HB.out)⟩
    · rw [if_neg c5] at H
      have c5b0 : decide (11 < a0) = false := decide_eq_false c5
      clear c5
      obtain ⟨y122, hy122⟩ : ∃ y_ : List (S39), y_ = (([(⟨(⟨#[80]⟩ : ByteArray), 8000, 11000, 5⟩ : S39), (⟨(⟨#[84]⟩ : ByteArray), 1800, 3300, 4⟩ : S39), (⟨(⟨#[68]⟩ : ByteArray), 1800, 3300, 4⟩ : S39), (⟨(⟨#[69]⟩ : ByteArray), (-1000), 1000, 4⟩ : S39), (⟨(⟨#[78]⟩ : ByteArray), (-1000), 1000, 4⟩ : S39), (⟨(⟨#[65]⟩ : ByteArray), 900, 1700, 4⟩ : S39), (⟨(⟨#[66]⟩ : ByteArray), 2000, 3200, 4⟩ : S39), (⟨(⟨#[70]⟩ : ByteArray), 2400, 3400, 4⟩ : S39), (⟨(⟨#[71]⟩ : ByteArray), 2000, 3000, 4⟩ : S39), (⟨(⟨#[74]⟩ : ByteArray), 4400, 6200, 4⟩ : S39), (⟨(⟨#[75]⟩ : ByteArray), 2000, 2900, 4⟩ : S39)] : List (S39))) := ⟨_, rfl⟩
      replace H : (if 0 ≤ (wrap64 (a0 - 1)) then (if (wrap64 (a0 - 1)) < (y122.length : Int) then (some ((rd_T39 y122 (wrap64 (a0 - 1))).f0, (rd_T39 y122 (wrap64 (a0 - 1))).f1, (rd_T39 y122 (wrap64 (a0 - 1))).f2, (rd_T39 y122 (wrap64 (a0 - 1))).f3, 0)) else (none)) else (none)) = some (r1, r2, r3, r4, r5) := by first | (rw [hy122]; with_reducible exact H) | (have H2_ := (Option.bind_some _ _).symm.trans H; rw [hy122]; with_reducible exact H2_) | (have H2_ := (Option.bind_some _ _).symm.trans H; with_reducible exact H2_) | with_reducible exact H | (rw [hy122]; exact H) | exact H
      have Ny122 := Aside0.mk hy122
      clear hy122
      obtain ⟨ji8, hji8⟩ : ∃ j_ : Int, (wrap64 (a0 - 1)) = j_ := ⟨_, rfl⟩
      replace H : (if 0 ≤ (ji8) then (if (ji8) < (y122.length : Int) then (some ((rd_T39 y122 (ji8)).f0, (rd_T39 y122 (ji8)).f1, (rd_T39 y122 (ji8)).f2, (rd_T39 y122 (ji8)).f3, 0)) else (none)) else (none)) = some (r1, r2, r3, r4, r5) := by first | (rw [hji8] at H; exact H) | (simp only [hji8] at H ⊢; exact H)
      have hji8w : (IntKind.i64.wrap (a0 - 1)) = ji8 := (i64_w _).trans hji8
      by_cases c9 : 0 ≤ (ji8)
      · rw [if_pos c9] at H
        have c9b0 : decide (0 ≤ (ji8)) = true := decide_eq_true c9
        clear c9
        by_cases c10 : (ji8) < (y122.length : Int)
        · rw [if_pos c10] at H
          have c10b0 : decide ((ji8) < (y122.length : Int)) = true := decide_eq_true c10
          clear c10
          simp only [Option.some.injEq, Prod.mk.injEq] at H
          obtain ⟨rfl, rfl, rfl, rfl, rfl⟩ := H
          go_enter Tryd.func23, Tryd.ntmps23
          go_wp2_with (first | ((with_reducible refine gate_dst (N := 2) rfl ?_); refine box_event ?hg (N := 2) ?hd (cs := #[.string (⟨#[]⟩ : ByteArray), .int .i64 0, .int .i64 0, .int .i64 0]) (t := 39) ?hr ?_; (case hd => rfl); (case hg => rfl); (case hr => first | (go_simp; done) | (go_simp; rfl)); intro gb121 hg w11 hbox hb; have n0_ := Aside0.mk (below_step (by repeat (first | (with_reducible first | exact HB.out | apply below_alloc | apply pw_below_drewN | apply below_drew1) | exact HB.out)) hb); have n1_ := Aside0.mk (hbox); have n2_ := Aside0.mk ((by rw [hg]; exact (below_size (by repeat (first | (with_reducible first | exact HB.out | apply below_alloc | apply pw_below_drewN | apply below_drew1) | exact HB.out))) : w.heap.size ≤ gb121)); have n3_ := Aside0.mk ((by rw [hg]; exact (below_size (by repeat (first | (with_reducible first | exact HB.out | apply below_alloc | apply pw_below_drewN | apply below_drew1) | exact HB.out))) : w.heap.size ≤ gb121)); clear HB; have HB := n0_; have BK121 := n1_; have GW121 := n2_; have GE121 := n3_; clear n0_ n1_ n2_ n3_; clear hb hbox hg) | ((with_reducible refine gate_dst (N := 22) rfl ?_); refine Kd.R_lit k39 _ 39 ?hg (N := 22) ?hd (xs := ([(⟨(⟨#[80]⟩ : ByteArray), 8000, 11000, 5⟩ : S39), (⟨(⟨#[84]⟩ : ByteArray), 1800, 3300, 4⟩ : S39), (⟨(⟨#[68]⟩ : ByteArray), 1800, 3300, 4⟩ : S39), (⟨(⟨#[69]⟩ : ByteArray), (-1000), 1000, 4⟩ : S39), (⟨(⟨#[78]⟩ : ByteArray), (-1000), 1000, 4⟩ : S39), (⟨(⟨#[65]⟩ : ByteArray), 900, 1700, 4⟩ : S39), (⟨(⟨#[66]⟩ : ByteArray), 2000, 3200, 4⟩ : S39), (⟨(⟨#[70]⟩ : ByteArray), 2400, 3400, 4⟩ : S39), (⟨(⟨#[71]⟩ : ByteArray), 2000, 3000, 4⟩ : S39), (⟨(⟨#[74]⟩ : ByteArray), 4400, 6200, 4⟩ : S39), (⟨(⟨#[75]⟩ : ByteArray), 2000, 2900, 4⟩ : S39)] : List (S39))) (inner := [.string (⟨#[80]⟩ : ByteArray), .int .i64 8000, .int .i64 11000, .int .i64 5, .string (⟨#[84]⟩ : ByteArray), .int .i64 1800, .int .i64 3300, .int .i64 4, .string (⟨#[68]⟩ : ByteArray), .int .i64 1800, .int .i64 3300, .int .i64 4, .string (⟨#[69]⟩ : ByteArray), .int .i64 (-1000), .int .i64 1000, .int .i64 4, .string (⟨#[78]⟩ : ByteArray), .int .i64 (-1000), .int .i64 1000, .int .i64 4, .string (⟨#[65]⟩ : ByteArray), .int .i64 900, .int .i64 1700, .int .i64 4, .string (⟨#[66]⟩ : ByteArray), .int .i64 2000, .int .i64 3200, .int .i64 4, .string (⟨#[70]⟩ : ByteArray), .int .i64 2400, .int .i64 3400, .int .i64 4, .string (⟨#[71]⟩ : ByteArray), .int .i64 2000, .int .i64 3000, .int .i64 4, .string (⟨#[74]⟩ : ByteArray), .int .i64 4400, .int .i64 6200, .int .i64 4, .string (⟨#[75]⟩ : ByteArray), .int .i64 2000, .int .i64 2900, .int .i64 4]) (ok := fun _ => True) (okp := fun _ => True) ?hr ?hp (fun _ hk => hk) trivial (Below.refl _ _) (Nat.le_refl _) (by simp) ?_; (case hd => rfl); (case hg => rfl); (case hr => first | (go_simp; done) | (go_simp; rfl)); (case hp => exact (Reps.c4 (show Kd.M k39 _ _ _ (⟨(⟨#[80]⟩ : ByteArray), 8000, 11000, 5⟩ : S39) [.string (⟨#[80]⟩ : ByteArray), .int .i64 8000, .int .i64 11000, .int .i64 5] from (k39_mkM _ _ _ (⟨(⟨#[80]⟩ : ByteArray), 8000, 11000, 5⟩ : S39) )) (Reps.c4 (show Kd.M k39 _ _ _ (⟨(⟨#[84]⟩ : ByteArray), 1800, 3300, 4⟩ : S39) [.string (⟨#[84]⟩ : ByteArray), .int .i64 1800, .int .i64 3300, .int .i64 4] from (k39_mkM _ _ _ (⟨(⟨#[84]⟩ : ByteArray), 1800, 3300, 4⟩ : S39) )) (Reps.c4 (show Kd.M k39 _ _ _ (⟨(⟨#[68]⟩ : ByteArray), 1800, 3300, 4⟩ : S39) [.string (⟨#[68]⟩ : ByteArray), .int .i64 1800, .int .i64 3300, .int .i64 4] from (k39_mkM _ _ _ (⟨(⟨#[68]⟩ : ByteArray), 1800, 3300, 4⟩ : S39) )) (Reps.c4 (show Kd.M k39 _ _ _ (⟨(⟨#[69]⟩ : ByteArray), (-1000), 1000, 4⟩ : S39) [.string (⟨#[69]⟩ : ByteArray), .int .i64 (-1000), .int .i64 1000, .int .i64 4] from (k39_mkM _ _ _ (⟨(⟨#[69]⟩ : ByteArray), (-1000), 1000, 4⟩ : S39) )) (Reps.c4 (show Kd.M k39 _ _ _ (⟨(⟨#[78]⟩ : ByteArray), (-1000), 1000, 4⟩ : S39) [.string (⟨#[78]⟩ : ByteArray), .int .i64 (-1000), .int .i64 1000, .int .i64 4] from (k39_mkM _ _ _ (⟨(⟨#[78]⟩ : ByteArray), (-1000), 1000, 4⟩ : S39) )) (Reps.c4 (show Kd.M k39 _ _ _ (⟨(⟨#[65]⟩ : ByteArray), 900, 1700, 4⟩ : S39) [.string (⟨#[65]⟩ : ByteArray), .int .i64 900, .int .i64 1700, .int .i64 4] from (k39_mkM _ _ _ (⟨(⟨#[65]⟩ : ByteArray), 900, 1700, 4⟩ : S39) )) (Reps.c4 (show Kd.M k39 _ _ _ (⟨(⟨#[66]⟩ : ByteArray), 2000, 3200, 4⟩ : S39) [.string (⟨#[66]⟩ : ByteArray), .int .i64 2000, .int .i64 3200, .int .i64 4] from (k39_mkM _ _ _ (⟨(⟨#[66]⟩ : ByteArray), 2000, 3200, 4⟩ : S39) )) (Reps.c4 (show Kd.M k39 _ _ _ (⟨(⟨#[70]⟩ : ByteArray), 2400, 3400, 4⟩ : S39) [.string (⟨#[70]⟩ : ByteArray), .int .i64 2400, .int .i64 3400, .int .i64 4] from (k39_mkM _ _ _ (⟨(⟨#[70]⟩ : ByteArray), 2400, 3400, 4⟩ : S39) )) (Reps.c4 (show Kd.M k39 _ _ _ (⟨(⟨#[71]⟩ : ByteArray), 2000, 3000, 4⟩ : S39) [.string (⟨#[71]⟩ : ByteArray), .int .i64 2000, .int .i64 3000, .int .i64 4] from (k39_mkM _ _ _ (⟨(⟨#[71]⟩ : ByteArray), 2000, 3000, 4⟩ : S39) )) (Reps.c4 (show Kd.M k39 _ _ _ (⟨(⟨#[74]⟩ : ByteArray), 4400, 6200, 4⟩ : S39) [.string (⟨#[74]⟩ : ByteArray), .int .i64 4400, .int .i64 6200, .int .i64 4] from (k39_mkM _ _ _ (⟨(⟨#[74]⟩ : ByteArray), 4400, 6200, 4⟩ : S39) )) (Reps.c4 (show Kd.M k39 _ _ _ (⟨(⟨#[75]⟩ : ByteArray), 2000, 2900, 4⟩ : S39) [.string (⟨#[75]⟩ : ByteArray), .int .i64 2000, .int .i64 2900, .int .i64 4] from (k39_mkM _ _ _ (⟨(⟨#[75]⟩ : ByteArray), 2000, 2900, 4⟩ : S39) )) (Reps.none _ _))))))))))))); intro v123 w12 ho13 hb hg_ hnew_; clear hg_ hnew_; (first | rw [← Ny122.out] at ho13 | (simp only [Int.reduceToNat] at ho13; rw [← Ny122.out] at ho13)); have n0_ := Aside0.mk (Kd.R_lower (Kd.R_newB ho13 (g := gb121) (o := .cells #[.string (⟨#[]⟩ : ByteArray), .int .i64 0, .int .i64 0, .int .i64 0] 39 (0, 0)) (by (with_reducible repeat (first | refine blk_drewN ?_ _ | refine blk_drew ?_ | refine blk_alloc ?_ _)); exact BK121.out)) (below_size (by repeat (first | (with_reducible first | exact HB.out | apply below_alloc | apply pw_below_drewN | apply below_drew1 | refine below_set ?_ GE121.out) | exact HB.out)))); have n1_ := Aside0.mk (blk_below (g := gb121) (o := .cells #[.string (⟨#[]⟩ : ByteArray), .int .i64 0, .int .i64 0, .int .i64 0] 39 (0, 0)) (by (with_reducible repeat (first | refine blk_drewN ?_ _ | refine blk_drew ?_ | refine blk_alloc ?_ _)); exact BK121.out) hb); have n2_ := Aside0.mk (below_step (by repeat (first | (with_reducible first | exact HB.out | apply below_alloc | apply pw_below_drewN | apply below_drew1 | refine below_set ?_ GE121.out) | exact HB.out)) hb); clear BK121; clear HB; have HO124 := n0_; have BK121 := n1_; have HB := n2_; clear n0_ n1_ n2_; clear hb ho13; obtain ⟨Ao14, co14, eo14⟩ := Kd.R_slice HO124.out; subst eo14; have p125 : 0 ≤ ((ji8) : Int) := of_decide_eq_true (by first | (with_reducible assumption) | assumption); have q125 : (ji8) < (y122.length : Int) := of_decide_eq_true (by first | (with_reducible assumption) | assumption); obtain ⟨ad125, e125, hx125_0, hx125_1, hx125_2, hx125_3⟩ := at_T39 (Kd.R_reads' HO124.out).2.2 (ji8) p125 q125; cases e125; replace p125 := eq_true p125; replace q125 := eq_true q125; have hcz15_0 : w12.cell? ⟨gb121, 0, none⟩ = some (.string (⟨#[]⟩ : ByteArray)) := (blk_cell BK121.out 0).trans rfl; have hcz15_1 : w12.cell? ⟨gb121, 1, none⟩ = some (.int .i64 0) := (blk_cell BK121.out 1).trans rfl; have hcz15_2 : w12.cell? ⟨gb121, 2, none⟩ = some (.int .i64 0) := (blk_cell BK121.out 2).trans rfl; have hcz15_3 : w12.cell? ⟨gb121, 3, none⟩ = some (.int .i64 0) := (blk_cell BK121.out 3).trans rfl; have hfz15_0 := blk_frozen BK121.out 0; have hfz15_1 := blk_frozen BK121.out 1; have hfz15_2 := blk_frozen BK121.out 2; have hfz15_3 := blk_frozen BK121.out 3))
          refine bodyPost_ret (results_ct rfl _ _ gb121 39 #[.string ((rd_T39 y122 (ji8)).f0), .int .i64 ((rd_T39 y122 (ji8)).f1), .int .i64 ((rd_T39 y122 (ji8)).f2), .int .i64 ((rd_T39 y122 (ji8)).f3)] (0, 0) _ rfl (by (with_reducible repeat (first | refine blk_drewN ?_ _ | refine blk_drew ?_ | refine blk_alloc ?_ _)); refine blk_put (cs := #[.string ((rd_T39 y122 (ji8)).f0), .int .i64 ((rd_T39 y122 (ji8)).f1), .int .i64 ((rd_T39 y122 (ji8)).f2), .int .i64 0]) ?_ 3 _ rfl; (with_reducible repeat (first | refine blk_drewN ?_ _ | refine blk_drew ?_ | refine blk_alloc ?_ _)); refine blk_put (cs := #[.string ((rd_T39 y122 (ji8)).f0), .int .i64 ((rd_T39 y122 (ji8)).f1), .int .i64 0, .int .i64 0]) ?_ 2 _ rfl; (with_reducible repeat (first | refine blk_drewN ?_ _ | refine blk_drew ?_ | refine blk_alloc ?_ _)); refine blk_put (cs := #[.string ((rd_T39 y122 (ji8)).f0), .int .i64 0, .int .i64 0, .int .i64 0]) ?_ 1 _ rfl; (with_reducible repeat (first | refine blk_drewN ?_ _ | refine blk_drew ?_ | refine blk_alloc ?_ _)); refine blk_put (cs := #[.string (⟨#[]⟩ : ByteArray), .int .i64 0, .int .i64 0, .int .i64 0]) ?_ 0 _ rfl; (with_reducible repeat (first | refine blk_drewN ?_ _ | refine blk_drew ?_ | refine blk_alloc ?_ _)); exact BK121.out) Tryd.underlying39 rfl (by kernel_rfl)) rfl ?_
          exact ⟨by first | rfl | (simp [errW_none, errW_some] <;> rfl) | (simp only [← hji8]; first | rfl | (simp [errW_none, errW_some] <;> rfl)) | (simp [*, errW_none, errW_some] <;> rfl), by repeat (first | (with_reducible first | exact HB.out | apply below_alloc | apply pw_below_drewN | apply below_drew1 | refine below_set ?_ GE121.out) | exact HB.out)⟩
        · rw [if_neg c10] at H
          exact absurd H (by simp)
      · rw [if_neg c9] at H
        exact absurd H (by simp)

/-! ### synoptickeep_Src_Pick: function 34 -/
def synoptickeep_Src_Pick.f (s0_0 : List Int) (s0_1 : Int) (l1 : List Int) : Option (Int × Int) := (synoptickeep_Src_N.f s0_0 s0_1 (l1.length : Int)).bind fun bt126 => (if 0 ≤ bt126.1 then (if bt126.1 < (l1.length : Int) then (some (rd l1 bt126.1, bt126.2)) else (none)) else (none))
set_option maxHeartbeats 8000000 in
set_option maxRecDepth 100000 in
theorem synoptickeep_Src_Pick.calls (g : Nat) (s0_0 : List Int) (s0_1 : Int) (A1 : Option Addr) (c1 : Nat) (l1 : List Int) (r1 : Int) (r2 : Int) (w0 w : World) (hI : IsS62 w0 w g s0_0 s0_1) (hB : Below w0.heap.size w0 w) (hr1 : Kd.C (Kd.int .i64) w A1 l1.length l1) (hc1 : l1.length ≤ c1) (hf1 : ∀ ad, A1 = some ad → 0 < l1.length → ad.block ≠ g) (h : synoptickeep_Src_Pick.f s0_0 s0_1 l1 = some (r1, r2)) :
    Calls Tryd.prog 34 #[.pointer (some ⟨g, 0, none⟩), .slice A1 l1.length c1] w fun e w' => e = .returned (.int .i64 r1) ∧ IsS62 w0 w' g s0_0 r2 ∧ Below w0.heap.size w0 w' ∧ KeepBut w w' g none := by
  have HR1 := Aside0.mk hr1
  have HC1 := Aside0.mk hc1
  clear hr1 hc1
  have HI0 := Aside0.mk hI
  have HK := Aside0.mk (KeepBut.refl w g none)
  have HL := Aside0.mk hB.size
  clear hI
  have HW0 := Aside0.mk hB.size
  have HB := Aside0.mk hB
  clear hB
  have H : ((synoptickeep_Src_N.f s0_0 s0_1 (l1.length : Int)).bind fun bt126 => (if 0 ≤ bt126.1 then (if bt126.1 < (l1.length : Int) then (some (rd l1 bt126.1, bt126.2)) else (none)) else (none))) = some (r1, r2) := h
  clear h
  replace H := Option.bind_eq_some_iff.mp H
  obtain ⟨⟨t126, t127⟩, A30, H⟩ := H
  replace H : (if 0 ≤ t126 then (if t126 < (l1.length : Int) then (some (rd l1 t126, t127)) else (none)) else (none)) = some (r1, r2) := H
  have A3 := Aside0.mk A30
  clear A30
  by_cases c4 : 0 ≤ t126
  · rw [if_pos c4] at H
    have c4b0 : decide (0 ≤ t126) = true := decide_eq_true c4
    clear c4
    by_cases c5 : t126 < (l1.length : Int)
    · rw [if_pos c5] at H
      have c5b0 : decide (t126 < (l1.length : Int)) = true := decide_eq_true c5
      clear c5
      simp only [Option.some.injEq, Prod.mk.injEq] at H
      obtain ⟨rfl, rfl⟩ := H
      go_enter Tryd.func34, Tryd.ntmps34
      go_wp2_with (first | ((with_reducible refine gate_callee (f := 22) rfl ?_); refine goesL_ (some 9) rfl rfl Tryd.func22 (by kernel_rfl) rfl #[.pointer (some ⟨g, 0, none⟩), .int .i64 (l1.length : Int)] rfl (by (try simp only [List.map_toArray, List.map_cons, List.map_nil]); first | done | rfl | (simp only [List.length_drop, List.length_take]; rfl)) ?_; (with_reducible refine (synoptickeep_Src_N.calls g s0_0 s0_1 (l1.length : Int) t126 t127 w0 _ ?side1 ?side2 A3.out).mono ?_); (case side1 => repeat (first | (with_reducible first | exact HI0.out | apply IsS62.alloc | apply IsS62.drewN | apply IsS62.drew | apply IsS62.set_1) | exact HI0.out)); (case side2 => repeat (first | (with_reducible first | exact HB.out | apply below_alloc | apply pw_below_drewN | apply below_drew1 | refine below_set ?_ (IsS62.ge HI0.out)) | exact HB.out)); rintro e w6 ⟨rfl, hi, hb, hk⟩; refine ⟨_, rfl, ?_⟩; have n0_ := Aside0.mk (KeepBut.trans (by repeat (first | (with_reducible first | exact HK.out | apply KeepBut.set_ | apply keep_drewN | apply keep_drew | apply keep_alloc) | exact HK.out)) hk (.inl rfl)); have n1_ := Aside0.mk (hb); have n2_ := Aside0.mk (hi); clear HK; clear HB; clear HI0; have HK := n0_; have HB := n1_; have HI0 := n2_; clear n0_ n1_ n2_; (try clear hb); (try clear hb2); (try clear hk); (try clear hi); have p128 : 0 ≤ (t126 : Int) := of_decide_eq_true (by first | (with_reducible assumption) | assumption); have q128 : t126 < (l1.length : Int) := of_decide_eq_true (by first | (with_reducible assumption) | assumption); obtain ⟨ad128, e128, hx128_0⟩ := Kd.at_int HR1.out t126 p128 q128; cases e128; replace hx128_0 := keep_cell HK.out hx128_0 (by first | (rw [add_block]; exact hf1 _ rfl (by omega)) | exact hf1 _ rfl (by omega) | exact hf1 ad128 rfl (by omega)); replace p128 := eq_true p128; replace q128 := eq_true q128))
      go_ret
      exact ⟨by first | rfl | (simp [errW_none, errW_some] <;> rfl) | (simp [*, errW_none, errW_some] <;> rfl), by repeat (first | (with_reducible first | exact HI0.out | apply IsS62.alloc | apply IsS62.drewN | apply IsS62.drew | apply IsS62.set_1) | exact HI0.out), by repeat (first | (with_reducible first | exact HB.out | apply below_alloc | apply pw_below_drewN | apply below_drew1 | refine below_set ?_ (IsS62.ge HI0.out)) | exact HB.out), by repeat (first | (with_reducible first | exact HK.out | apply KeepBut.set_ | apply keep_drewN | apply keep_drew | apply keep_alloc) | exact HK.out)⟩
    · rw [if_neg c5] at H
      exact absurd H (by simp)
  · rw [if_neg c4] at H
    exact absurd H (by simp)

end Go.Proofs.YtpjnlbippcgnoaaDoor.PElementAnswers
