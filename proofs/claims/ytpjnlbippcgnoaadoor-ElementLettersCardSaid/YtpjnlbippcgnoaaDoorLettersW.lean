/-
  The walk of ElementLetters: it returns true for any int.
-/
import Derived.Test.YtpjnlbippcgnoaaDoorAwake
import Derived.Test.YtpjnlbippcgnoaaDoorSrc
namespace Go.Proofs.YtpjnlbippcgnoaaDoor
open Go.RowKit Txt

theorem ftxt_len_neg {c : Nat} {v : Int} (h : v < 0) : ((ftxt c v).length : Int) = 1 + 1 + dig c := by
  rw [ftxt_eq, show sgn v = [45] from if_pos h]
  have := dig_cases c
  simp [digs_length]
  omega
theorem ftxt_len_pos {c : Nat} {v : Int} (h : ¬ v < 0) : ((ftxt c v).length : Int) = 1 + dig c := by
  rw [ftxt_eq, show sgn v = [] from if_neg h]
  have := dig_cases c
  simp [digs_length]
  omega

set_option maxRecDepth 20000 in
set_option maxHeartbeats 4000000 in
theorem elementLetters_walk (n : Int) (w : World) (hB : Bnd w) : Calls Tryd.prog 4 #[.int .i64 n] w fun e w' => e = .returned (.bool true) ∧ Below w.heap.size w w' := by
  have h0 := hB.lt
  have HB := Lib.hid hB
  clear hB
  go_enter Tryd.func4, Tryd.ntmps4
  go_wp2_with fail
  refine (mod_any _ _ _ (by omega) (by omega)).mono ?_
  rintro e w0 ⟨v, ⟨v0, v1⟩, rfl, rfl⟩
  obtain ⟨c, rfl⟩ := Int.eq_ofNat_of_zero_le v0
  have hc : c < 11 := by omega
  obtain ⟨l1, l2, l3, l4⟩ := lo_hi c hc
  go_wp2_with fail
  rw [Int.add_comm 1 (c : Int)]
  refine (describe_ok c hc _ HB.out).mono ?_
  rintro e w1 ⟨rfl, hb1⟩
  have HX1 := Lib.hid (hb1.alloc hb1.size (.cells #[.string ⟨#[ltr c]⟩, .int .i64 (lo c), .int .i64 (hi c), .int .i64 (dig c)] 39))
  have HC1 := Lib.hid (Blk.new w1 39 #[.string ⟨#[ltr c]⟩, .int .i64 (lo c), .int .i64 (hi c), .int .i64 (dig c)])
  clear hb1
  go_wp2_with fail
  refine (byletter_at c hc _).mono ?_
  rintro e w2 ⟨rfl, rfl⟩
  go_wp2_with fail
  refine (format_ok c hc (lo c) (by omega) (by omega) _ (HB.out.below HX1.out h0)).mono ?_
  rintro e w3 ⟨rfl, hb3⟩
  have HX3 := Lib.hid (HX1.out.trans (hb3.mono HX1.out.size))
  have hC3 := HC1.out.below hb3 HC1.out.lt
  have hv1 := hC3.cell 1
  have hv2 := hC3.cell 2
  simp at hv1 hv2
  have HC3 := Lib.hid hC3
  clear hb3 hC3 HX1 HC1
  go_wp2_with fail
  refine (format_ok c hc (hi c) (by omega) (by omega) _ (HB.out.below HX3.out h0)).mono ?_
  rintro e w4 ⟨rfl, hb4⟩
  have HX4 := Lib.hid (HX3.out.trans (hb4.mono HX3.out.size))
  have hC4 := HC3.out.below hb4 HC3.out.lt
  clear hv1 hv2 hb4 HX3 HC3
  have hv1 := hC4.cell 1
  have hv2 := hC4.cell 2
  have hv3 := hC4.cell 3
  simp at hv1 hv2 hv3
  have HC4 := Lib.hid hC4
  clear hC4
  have hh : ¬ hi c < 0 := by have : c = 0 ∨ c = 1 ∨ c = 2 ∨ c = 3 ∨ c = 4 ∨ c = 5 ∨ c = 6 ∨ c = 7 ∨ c = 8 ∨ c = 9 ∨ c = 10 := by omega
                             rcases this with rfl | rfl | rfl | rfl | rfl | rfl | rfl | rfl | rfl | rfl | rfl <;> decide
  have e2 := ftxt_len_pos (c := c) hh
  have hd := dig_cases c
  by_cases hn : lo c < 0
  · have e1 := ftxt_len_neg (c := c) hn
    have t1 : (((ftxt c (lo c)).length : Int) == 1 + 1 + dig c) = true := by rw [e1, beq_iff_eq]
    go_wp2_with ((go_at_call 8; refine (awake_any _ (HB.out.below HX4.out h0)).mono ?_; rintro e w5 ⟨rfl, hb5⟩))
    go_ret
    exact ⟨rfl, HX4.out.trans (hb5.mono HX4.out.size)⟩
  · have e1 := ftxt_len_pos (c := c) hn
    go_wp2_with ((go_at_call 8; refine (awake_any _ (HB.out.below HX4.out h0)).mono ?_; rintro e w5 ⟨rfl, hb5⟩))
    go_ret
    exact ⟨rfl, HX4.out.trans (hb5.mono HX4.out.size)⟩
end Go.Proofs.YtpjnlbippcgnoaaDoor
