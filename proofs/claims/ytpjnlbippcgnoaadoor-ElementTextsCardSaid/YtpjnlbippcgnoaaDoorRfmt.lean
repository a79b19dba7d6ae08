/-
  The reference's in and Format.
-/
import Derived.Test.YtpjnlbippcgnoaaDoorChk
import Derived.Test.YtpjnlbippcgnoaaDoorDig
namespace Go.Proofs.YtpjnlbippcgnoaaDoor
open Go.RowKit Txt

theorem lo_hi (c : Nat) (hc : c < 11) : -1000 ≤ lo c ∧ lo c < hi c ∧ hi c ≤ 11000 ∧ (c ≠ 0 → hi c ≤ 9999) := by
  have : c = 0 ∨ c = 1 ∨ c = 2 ∨ c = 3 ∨ c = 4 ∨ c = 5 ∨ c = 6 ∨ c = 7 ∨ c = 8 ∨ c = 9 ∨ c = 10 := by omega
  rcases this with rfl | rfl | rfl | rfl | rfl | rfl | rfl | rfl | rfl | rfl | rfl <;> decide
theorem dig_cases (c : Nat) : dig c = 4 ∨ dig c = 5 := by unfold dig; split <;> simp

set_option maxHeartbeats 1000000 in
theorem rin_ok (c : Nat) (hc : c < 11) (v : Int) (w : World) : Calls Tryd.prog 37 #[rdV ((c : Int) + 1) v] w fun r w' => r = .returned (.bool (decide (lo c ≤ v ∧ v ≤ hi c))) ∧ Below w.heap.size w w' := by
  have hb0 := (Below.refl w.heap.size w).alloc (Nat.le_refl _) (.cells #[.int .i64 ((c : Int) + 1), .int .i64 v] 23)
  have hB0 : Blk (w.alloc (.cells #[.int .i64 ((c : Int) + 1), .int .i64 v] 23)) w.heap.size #[.int .i64 ((c : Int) + 1), .int .i64 v] := Blk.new _ _ _
  have HX := Lib.hid hb0
  have HB0 := Lib.hid hB0
  clear hb0 hB0
  go_enter Tryd.func37, Tryd.ntmps37
  go_wp2_with fail
  refine (rdescribe_ok c hc _).mono ?_
  rintro r w1 ⟨rfl, hb1⟩
  have HY := Lib.hid (HX.out.trans (hb1.mono HX.out.size))
  have hB1 := HB0.out.below hb1 HB0.out.lt
  have hv1 := hB1.cell 1
  have hl1 := hB1.lt
  simp at hv1
  clear hb1 hB1
  by_cases h1 : lo c ≤ v
  · by_cases h2 : v ≤ hi c
    · go_wp2_with fail
      go_ret
      exact ⟨ret_b (by simp; omega), HY.out.alloc HY.out.size _⟩
    · go_wp2_with fail
      go_ret
      exact ⟨ret_b (by simp; omega), HY.out.alloc HY.out.size _⟩
  · go_wp2_with fail
    go_ret
    exact ⟨ret_b (by simp; omega), HY.out.alloc HY.out.size _⟩

/-- the digits of a reading's text -/
def sgn (v : Int) : List UInt8 := if v < 0 then [45] else []
/-- the text of a reading of the element c -/
def ftxt (c : Nat) (v : Int) : List UInt8 := ltr c :: (sgn v ++ digs (if v < 0 then -v else v) (dig c).toNat)
theorem ftxt_pos {c : Nat} {v : Int} (h : ¬ v < 0) : S (ftxt c v) = ⟨#[ltr c]⟩ ++ S (digs v (dig c).toNat) := by
  unfold ftxt sgn
  rw [if_neg h, if_neg h]
  exact (S_append [ltr c] _).symm
theorem ftxt_neg {c : Nat} {v : Int} (h : v < 0) : S (ftxt c v) = ⟨#[ltr c]⟩ ++ ⟨#[45]⟩ ++ S (digs (-v) (dig c).toNat) := by
  unfold ftxt sgn
  rw [if_pos h, if_pos h, S_append [ltr c] [45], S_append]
  rfl
theorem ret_st {l : IntKind} {a b : ByteArray} {c d : Int} (h : a = b) (g : c = d) : Ending.returned (.tuple #[.string a, .int l c]) = .returned (.tuple #[.string b, .int l d]) := by rw [h, g]
theorem rdigits_gen (n k : Int) (w : World) (h0 : 0 ≤ n) (h1 : n ≤ 99999) (hk : 0 ≤ k) (hk' : k ≤ 5) : Calls Tryd.prog 38 #[.int .i64 n, .int .i64 k] w fun e w' => e = .returned (.string (S (digs n k.toNat))) ∧ Below w.heap.size w w' := by
  obtain ⟨j, rfl⟩ := Int.eq_ofNat_of_zero_le hk
  exact rdigits_any n j w h0 h1 (by omega)

set_option maxHeartbeats 2000000 in
theorem rformat_ok (c : Nat) (hc : c < 11) (v : Int) (h1 : lo c ≤ v) (h2 : v ≤ hi c) (w : World) : Calls Tryd.prog 13 #[rdV ((c : Int) + 1) v] w fun r w' => r = .returned (.tuple #[.string (S (ftxt c v)), .int .i64 0]) ∧ Below w.heap.size w w' := by
  have hlen := digs_length
  obtain ⟨l1, l2, l3, l4⟩ := lo_hi c hc
  have hb0 := (Below.refl w.heap.size w).alloc (Nat.le_refl _) (.cells #[.int .i64 ((c : Int) + 1), .int .i64 v] 23)
  have hB0 : Blk (w.alloc (.cells #[.int .i64 ((c : Int) + 1), .int .i64 v] 23)) w.heap.size #[.int .i64 ((c : Int) + 1), .int .i64 v] := Blk.new _ _ _
  have HX := Lib.hid hb0
  have HB0 := Lib.hid hB0
  clear hb0 hB0
  go_enter Tryd.func13, Tryd.ntmps13
  go_wp2_with fail
  refine (rdescribe_ok c hc _).mono ?_
  rintro r w1 ⟨rfl, hb1⟩
  have HX1 := Lib.hid (HX.out.trans (hb1.mono HX.out.size))
  have hB1 := HB0.out.below hb1 HB0.out.lt
  have hs1 := HX1.out.size
  have hv0 := hB1.cell 0
  have hv1 := hB1.cell 1
  have hl1 := hB1.lt
  simp at hv0 hv1
  have HB1 := Lib.hid hB1
  clear hb1 hB1 HX HB0
  go_wp2_with fail
  have hdec : decide (lo c ≤ v ∧ v ≤ hi c) = true := by simp; omega
  refine (rin_ok c hc v _).mono ?_
  rintro r w2 ⟨rfl, hb2⟩
  have HX2 := Lib.hid ((HX1.out.alloc HX1.out.size (.cells #[.string ⟨#[ltr c]⟩, .int .i64 (lo c), .int .i64 (hi c), .int .i64 (dig c)] 39)).trans (hb2.mono (by simp; omega)))
  have hB2 := (HB1.out.alloc (.cells #[.string ⟨#[ltr c]⟩, .int .i64 (lo c), .int .i64 (hi c), .int .i64 (dig c)] 39)).below hb2 (by simp; omega)
  have hC2 := (Blk.new w1 39 #[.string ⟨#[ltr c]⟩, .int .i64 (lo c), .int .i64 (hi c), .int .i64 (dig c)]).below hb2 (by simp)
  clear hv0 hv1 hl1 hb2 HX1 HB1 hs1
  rw [hdec]
  clear hdec
  have hv0 := hB2.cell 0
  have hv1 := hB2.cell 1
  have hu0 := hC2.cell 0
  have hu3 := hC2.cell 3
  have hl1 := hB2.lt
  have hl2 := hC2.lt
  simp at hv0 hv1 hu0 hu3
  clear hB2 hC2
  have hd5 : 0 ≤ dig c ∧ dig c ≤ 5 := by rcases dig_cases c with q | q <;> omega
  obtain ⟨d0, d5⟩ := hd5
  by_cases hneg : v < 0
  · have HE := Lib.hid (ftxt_neg (c := c) hneg)
    go_wp2_with fail
    refine wp_region_near (by kernel_rfl) (by kernel_rfl) ?_
    repeat (go_big_quiet_step ((go_at_call 38; exact near_of (rdigits_gen _ _ _ (by omega) (by omega) (by omega) (by omega)))))
    refine wpQuiet_nil ?_
    intro X
    go_wp2_with fail
    go_ret2
    exact ⟨ret_st HE.out.symm rfl, HX2.out.trans (X.h.mono HX2.out.size)⟩
  · have HE := Lib.hid (ftxt_pos (c := c) hneg)
    go_wp2_with fail
    refine wp_region_near (by kernel_rfl) (by kernel_rfl) ?_
    repeat (go_big_quiet_step ((go_at_call 38; exact near_of (rdigits_gen _ _ _ (by omega) (by omega) (by omega) (by omega)))))
    refine wpQuiet_nil ?_
    intro X
    go_wp2_with fail
    go_ret2
    exact ⟨ret_st HE.out.symm rfl, HX2.out.trans (X.h.mono HX2.out.size)⟩

set_option maxHeartbeats 2000000 in
theorem rformat_no (e v : Int) (hne : chk e v ≠ 0) (w : World) : Calls Tryd.prog 13 #[rdV e v] w fun r w' => r = .returned (.tuple #[.string (S []), .int .i64 (chk e v)]) ∧ Below w.heap.size w w' := by
  have hb0 := (Below.refl w.heap.size w).alloc (Nat.le_refl _) (.cells #[.int .i64 e, .int .i64 v] 23)
  have hB0 : Blk (w.alloc (.cells #[.int .i64 e, .int .i64 v] 23)) w.heap.size #[.int .i64 e, .int .i64 v] := Blk.new _ _ _
  have HX := Lib.hid hb0
  have HB0 := Lib.hid hB0
  clear hb0 hB0
  rcases code_cases e with he | ⟨c, hc, rfl⟩
  · have HC := Lib.hid (chk_no he v)
    clear hne
    go_enter Tryd.func13, Tryd.ntmps13
    go_wp2_with fail
    refine (rdescribe_no _ _ he).mono ?_
    rintro r w1 ⟨rfl, hb1⟩
    have HX1 := Lib.hid (HX.out.trans (hb1.mono HX.out.size))
    clear hb1 he
    go_wp2_with fail
    go_ret2
    exact ⟨ret_st rfl HC.out.symm, HX1.out.alloc HX1.out.size _⟩
  · have hq : ¬ (lo c ≤ v ∧ v ≤ hi c) := by
      intro q; apply hne; rw [chk_at hc, if_neg (by omega)]
    have h1 : chk ((c : Int) + 1) v = 1 := by rw [chk_at hc, if_pos (by omega)]
    have HC := Lib.hid h1
    have hdec : decide (lo c ≤ v ∧ v ≤ hi c) = false := by simp; omega
    have HD := Lib.hid hdec
    clear hne hq h1 hdec
    go_enter Tryd.func13, Tryd.ntmps13
    go_wp2_with fail
    refine (rdescribe_ok c hc _).mono ?_
    rintro r w1 ⟨rfl, hb1⟩
    have HX1 := Lib.hid (HX.out.trans (hb1.mono HX.out.size))
    have hB1 := HB0.out.below hb1 HB0.out.lt
    have hs1 := HX1.out.size
    have hv0 := hB1.cell 0
    have hv1 := hB1.cell 1
    have hl1 := hB1.lt
    simp at hv0 hv1
    clear hb1 hB1 HX HB0
    go_wp2_with fail
    refine (rin_ok c hc v _).mono ?_
    rintro r w2 ⟨rfl, hb2⟩
    have HX2 := Lib.hid ((HX1.out.alloc HX1.out.size (.cells #[.string ⟨#[ltr c]⟩, .int .i64 (lo c), .int .i64 (hi c), .int .i64 (dig c)] 39)).trans (hb2.mono (by simp; omega)))
    clear hv0 hv1 hl1 hb2 HX1 hs1
    rw [HD.out]
    go_wp2_with fail
    go_ret2
    exact ⟨ret_st rfl HC.out.symm, HX2.out⟩
end Go.Proofs.YtpjnlbippcgnoaaDoor
