/-
  The reference's ByLetter, at any string.
-/
import Derived.Test.YtpjnlbippcgnoaaDoorInv
namespace Go.Proofs.YtpjnlbippcgnoaaDoor
open Go.RowKit Txt

set_option maxRecDepth 20000 in
set_option maxHeartbeats 2000000 in
theorem rbyletter_at (c : Nat) (hc : c < 11) (w : World) : Calls Tryd.prog 32 #[.string ⟨#[ltr c]⟩] w fun r w' => r = .returned (.tuple #[.int .i64 ((c : Int) + 1), .int .i64 0]) ∧ Below w.heap.size w w' := by
  go_enter Tryd.func32, Tryd.ntmps32
  go_wp2_with fail
  go_loopw [4] (fun k wr => ∃ j : Nat, j ≤ c ∧ k = .int .i64 ((j : Int) + 1) ∧ Below w.heap.size w wr) (fun k _ => (12 - intOf k).toNat)
  case atStart => exact ⟨0, by omega, rfl, Below.refl _ _⟩
  case round =>
    obtain ⟨j, hj, rfl, hX⟩ := hrel
    have HX := Lib.hid hX
    clear hX
    have h11 : ¬ (11 : Int) < (j : Int) + 1 := by omega
    go_wp2_with fail
    refine (rdescribe_ok j (by omega) _).mono ?_
    rintro r w1 ⟨rfl, hb1⟩
    have hX := HX.out.trans (hb1.mono HX.out.size)
    have HY := Lib.hid (hX.alloc hX.size (.cells #[.string ⟨#[ltr j]⟩, .int .i64 (lo j), .int .i64 (hi j), .int .i64 (dig j)] 39))
    clear hX hb1
    rcases Nat.lt_or_ge j c with hlt | hge
    · have hne : ltr j ≠ ltr c := fun e => by have := ltr_inj (by omega) hc e; omega
      have t1 : (ltr j == ltr c) = false := by rw [beq_eq_false_iff_ne]; exact hne
      have t2 : (ltr j = ltr c) = False := eq_false hne
      clear hne
      go_wp2_with fail
      go_roundw
      case rel => exact ⟨j + 1, by omega, by go_num, HY.out⟩
      case measure => simp [intOf]; omega
    · obtain rfl : j = c := by omega
      go_wp2_with fail
      go_ret2
      exact ⟨rfl, HY.out⟩

set_option maxRecDepth 20000 in
set_option maxHeartbeats 2000000 in
theorem rbyletter_bad (s : List UInt8) (hs : ∀ c, c < 11 → s ≠ [ltr c]) (w : World) : Calls Tryd.prog 32 #[.string (S s)] w fun r w' => r = .returned (.tuple #[.int .i64 0, .int .i64 9]) ∧ Below w.heap.size w w' := by
  have HS := Lib.hid hs
  clear hs
  go_enter Tryd.func32, Tryd.ntmps32
  go_wp2_with fail
  go_loopw [4] (fun k wr => ∃ j : Nat, j ≤ 11 ∧ k = .int .i64 ((j : Int) + 1) ∧ Below w.heap.size w wr) (fun k _ => (12 - intOf k).toNat)
  case atStart => exact ⟨0, by omega, rfl, Below.refl _ _⟩
  case round =>
    obtain ⟨j, hj, rfl, hX⟩ := hrel
    have HX := Lib.hid hX
    clear hX
    rcases Nat.lt_or_ge j 11 with hlt | hge
    · have h11 : ¬ (11 : Int) < (j : Int) + 1 := by omega
      have hne := HS.out j hlt
      have t1 : ([ltr j] == s) = false := by rw [beq_eq_false_iff_ne]; exact fun e => hne e.symm
      have t2 : ([ltr j] = s) = False := eq_false fun e => hne e.symm
      clear hne
      go_wp2_with fail
      refine (rdescribe_ok j (by omega) _).mono ?_
      rintro r w1 ⟨rfl, hb1⟩
      have hX := HX.out.trans (hb1.mono HX.out.size)
      have HY := Lib.hid (hX.alloc hX.size (.cells #[.string ⟨#[ltr j]⟩, .int .i64 (lo j), .int .i64 (hi j), .int .i64 (dig j)] 39))
      clear hX hb1
      go_wp2_with fail
      go_roundw
      case rel => exact ⟨j + 1, by omega, by go_num, HY.out⟩
      case measure => simp [intOf]; omega
    · obtain rfl : j = 11 := by omega
      go_wp2_with fail
      go_ret2
      exact ⟨rfl, HX.out⟩
end Go.Proofs.YtpjnlbippcgnoaaDoor
