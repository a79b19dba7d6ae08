/-
  The walk of ClockNear: it returns true for any list of ints.
-/
import Derived.Test.YtnfdpjckdiifkaaAwake
import Derived.Test.YtnfdpjckdiifkaaSrc
namespace Go.Proofs.Ytnfdpjckdiifkaa
open Go.RowKit Txt Cal

set_option maxHeartbeats 4000000 in
theorem clockNear_walk (w : World) (A : Option Addr) (n c : Nat) (hS : SliceIn w A n c) : Calls Try.prog 6 #[.slice A n c] w fun e w' => e = .returned (.bool true) ∧ Below w.heap.size w w' := by
  go_enter Try.func6, Try.ntmps6
  go_wp2_with fail
  refine (new_any _ _ _ _ hS).mono ?_
  rintro e w1 ⟨rfl, hs1, hb1⟩
  have HS1 := Lib.hid hs1
  clear hs1 hS
  go_wp2_with fail
  refine (minute_any w _ _ HS1.out).mono ?_
  rintro e w2 ⟨x, ⟨x0, x1⟩, rfl, hs2, hg2⟩
  have HS2 := Lib.hid hs2
  clear hs2 hg2
  go_wp2_with fail
  refine (range_any w _ _ _ _ HS2.out (by omega) (by omega) (by omega)).mono ?_
  rintro e w3 ⟨u, ⟨u0, u1⟩, rfl, hs3, hg3⟩
  have hb3 := hs3.1
  clear hs3 hg3
  go_wp2_with fail
  rcases hin : inB (x + u) with _ | _
  · have hbd : x + u < 0 ∨ 52595999 < x + u := by simp [inB] at hin; omega
    have HIN := Lib.hid hin
    clear hin
    refine (date_no _ _ HIN.out).mono ?_
    rintro e w4 ⟨rfl, hb4⟩
    rcases hbd with hbd | hbd
    · go_wp2_with ((go_at_call 21; refine (awake_any _).mono ?_; rintro e w5 ⟨rfl, hb5⟩))
      go_ret
      exact ⟨rfl, ((hb3.trans (hb4.mono hb3.size)).alloc (Nat.le_trans hb3.size hb4.size) _).trans (hb5.mono (by have := Nat.le_trans hb3.size hb4.size; simp; omega))⟩
    · have e1 : decide (x + u < 0) = false := by simp; omega
      go_wp2_with ((go_at_call 21; refine (awake_any _).mono ?_; rintro e w5 ⟨rfl, hb5⟩))
      go_ret
      exact ⟨rfl, ((hb3.trans (hb4.mono hb3.size)).alloc (Nat.le_trans hb3.size hb4.size) _).trans (hb5.mono (by have := Nat.le_trans hb3.size hb4.size; simp; omega))⟩
  · have HIN := Lib.hid hin
    clear hin
    refine (date_ok _ _ HIN.out).mono ?_
    rintro e w4 ⟨y, m, d, h, i, rfl, hv, hm, hb4⟩
    obtain ⟨g1, g2, g3, g4, g5, g6, g7, g8, g9, g10, g11⟩ := vld_all hv
    have hn : Nearest d h i x (x + u) := by
      rw [← hm]
      refine Nearest.of_near hv ?_
      rw [hm]; unfold dist; split <;> omega
    have HN := Lib.hid hn
    clear hn hm hv
    go_wp2_with fail
    refine (resolve_at (by simp [inB]; omega) g5 g7 (by simp [timeB]; omega) HN.out _).mono ?_
    rintro e w5 ⟨rfl, hb5⟩
    go_wp2_with fail
    refine (awake_any _).mono ?_
    rintro e w6 ⟨rfl, hb6⟩
    go_wp2_with fail
    go_ret
    have s4 := Nat.le_trans hb3.size hb4.size
    have s5 : w.heap.size ≤ w5.heap.size := Nat.le_trans s4 (Nat.le_trans (by simp) hb5.size)
    exact ⟨rfl, (((hb3.trans (hb4.mono hb3.size)).alloc s4 _).trans (hb5.mono (by simp; omega))).trans (hb6.mono s5)⟩
end Go.Proofs.Ytnfdpjckdiifkaa
