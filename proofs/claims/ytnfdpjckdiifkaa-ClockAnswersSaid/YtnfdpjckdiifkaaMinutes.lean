/-
  Both Minutes functions return mnt of a valid date, and the error ErrRange (1) of another one.
-/
import Derived.Test.YtnfdpjckdiifkaaValid
namespace Go.Proofs.Ytnfdpjckdiifkaa
open Go.RowKit Cal

set_option maxHeartbeats 2000000 in
theorem rminutes_no (y m d h i : Int) (w : World) (hv : vld y m d h i = false) : Calls Try.prog 13 #[civ y m d h i] w fun e w' => e = .returned (.tuple #[.int .i64 0, .int .i64 1]) ∧ Below w.heap.size w w' := by
  go_enter Try.func13, Try.ntmps13
  go_wp2_with (go_at_call 15; refine (rvalid_any _ _ _ _ _ _).mono ?_; rintro e w' ⟨rfl, hb⟩)
  go_ret2
  exact ⟨rfl, ((Below.refl _ _).alloc (Nat.le_refl _) _).trans (hb.mono (by simp))⟩

set_option maxHeartbeats 2000000 in
theorem rminutes_ok (y m d h i : Int) (w : World) (hv : vld y m d h i = true) : Calls Try.prog 13 #[civ y m d h i] w fun e w' => e = .returned (.tuple #[.int .i64 (mnt y m d h i), .int .i64 0]) ∧ Below w.heap.size w w' := by
  obtain ⟨h1, h2, h3, h4, h5, h6, h7, h8, h9, h10, h11⟩ := vld_all hv
  have b1 := dby_bd h1 (by omega)
  have b2 := cum_bd y m
  go_enter Try.func13, Try.ntmps13
  go_wp2_with (go_at_call 15; refine (rvalid_any _ _ _ _ _ _).mono ?_; rintro e w' ⟨rfl, hb⟩; obtain ⟨hc, hf⟩ := bcell hb; have hz : w.heap.size < w'.heap.size := by (have := hb.size; simp at this; omega))
  refine wp_region_near (by kernel_rfl) (by kernel_rfl) ?_
  repeat (go_big_quiet_step (first | (go_at_call 34; exact near_same (before_any _ _ _ (by omega) (by omega) (by omega) (by omega) (by omega)))))
  refine wpQuiet_nil ?_
  rintro ⟨w1, hb1⟩
  go_wp2
  go_ret2
  exact ⟨ret_tup (by unfold mnt; omega) rfl, (((Below.refl _ _).alloc (Nat.le_refl _) _).trans (hb.mono (by simp))).trans (hb1.mono (by have := hb.size; simp at this; omega))⟩

set_option maxHeartbeats 2000000 in
theorem minutes_no (y m d h i : Int) (w : World) (hv : vld y m d h i = false) : Calls Try.prog 12 #[civ y m d h i] w fun e w' => e = .returned (.tuple #[.int .i64 0, .int .i64 1]) ∧ Below w.heap.size w w' := by
  go_enter Try.func12, Try.ntmps12
  go_wp2_with (go_at_call 14; refine (valid_any _ _ _ _ _ _).mono ?_; rintro e w' ⟨rfl, hb⟩)
  go_ret2
  exact ⟨rfl, ((Below.refl _ _).alloc (Nat.le_refl _) _).trans (hb.mono (by simp))⟩

theorem slice12 (b k : Nat) (hk : k ≤ 11) (w : World) : (Instr.sliceAt 56 (.pointer (some ⟨b, 0, none⟩)) none (some (.int .i64 (k : Int))) none).run Try.prog w = .ok (.slice (some ⟨b, 0, none⟩) k 12) w := by
  have hl : Try.prog.arrayLen 56 = 12 := by kernel_rfl
  have hs : (sizeOf (Try.prog.elem 56)).run Try.prog w = .ok 1 w := by kernel_rfl
  rw [run_sliceAt_array_h w 56 ⟨b, 0, none⟩ (by kernel_rfl) .i64 (k : Int) (by omega) (by rw [hl]; omega), hs, hl]
  simp [go_sem]

/-- the elements of the lengths -/
def lenE (y : Int) (k : Nat) : Int := dim y (k + 1)
def lens (y : Int) : Array Value := #[.int .i64 31, .int .i64 (dim y 2), .int .i64 31, .int .i64 30, .int .i64 31, .int .i64 30, .int .i64 31, .int .i64 31, .int .i64 30, .int .i64 31, .int .i64 30, .int .i64 31]
theorem lens_at (y : Int) (k : Nat) (hk : k < 12) : (lens y)[k]? = some (.int .i64 (lenE y k)) := by
  have : k = 0 ∨ k = 1 ∨ k = 2 ∨ k = 3 ∨ k = 4 ∨ k = 5 ∨ k = 6 ∨ k = 7 ∨ k = 8 ∨ k = 9 ∨ k = 10 ∨ k = 11 := by omega
  rcases this with rfl | rfl | rfl | rfl | rfl | rfl | rfl | rfl | rfl | rfl | rfl | rfl <;> rfl

set_option maxHeartbeats 2000000 in
theorem minutes_ok (y m d h i : Int) (w : World) (hv : vld y m d h i = true) : Calls Try.prog 12 #[civ y m d h i] w fun e w' => e = .returned (.tuple #[.int .i64 (mnt y m d h i), .int .i64 0]) ∧ Below w.heap.size w w' := by
  obtain ⟨h1, h2, h3, h4, h5, h6, h7, h8, h9, h10, h11⟩ := vld_all hv
  have b1 := dby_bd h1 (by omega)
  have b2 := cum_bd y m
  obtain ⟨k, rfl⟩ : ∃ k : Nat, m = (k : Int) + 1 := ⟨(m - 1).toNat, by omega⟩
  have hsl := fun (b : Nat) (wx : World) => slice12 b k (by omega) wx
  go_enter Try.func12, Try.ntmps12
  go_wp2_with (first
    | (go_at_call 14; refine (valid_any _ _ _ _ _ _).mono ?_; rintro e w' ⟨rfl, hb⟩; obtain ⟨hc, hf⟩ := bcell hb; have hz : w.heap.size < w'.heap.size := by (have := hb.size; simp at this; omega))
    | (go_at_call 32; refine (lengths_out _ _ (by omega) (by omega)).mono ?_; rintro e w2 ⟨rfl, hb2⟩; obtain ⟨hc2, hf2⟩ := bcell hb2; have hz2 : w.heap.size < w2.heap.size := by (have := hb2.size; omega)))
  have hcell : ∀ j : Nat, j < 12 → (w2.alloc (Obj.cells #[.int .i64 31, .int .i64 (dim y 2), .int .i64 31, .int .i64 30, .int .i64 31, .int .i64 30, .int .i64 31, .int .i64 31, .int .i64 30, .int .i64 31, .int .i64 30, .int .i64 31] 56)).cell? ⟨w2.heap.size, j, none⟩ = some (.int .i64 (lenE y j)) := by
    intro j hj
    exact (cell_of_row (w2.alloc (.cells (lens y) 56)) w2.heap.size j (lens y) 56 (0, 0) (heap_alloc_new w2 _)).trans (lens_at y j hj)
  have HC := Lib.hid hcell
  clear hcell hsl
  go_loop [4, 22] (fun t i => ∃ j : Nat, j ≤ k ∧ i = .int .i64 j ∧ t = .int .i64 (d - 1 + cum y (j + 1))) (fun _ i => (k - intOf i).toNat)
  case atStart => exact ⟨0, by omega, rfl, by rw [show ((0 : Nat) : Int) + 1 = 1 from rfl, cum_1]; go_num⟩
  case round =>
    obtain ⟨j, hj, rfl, rfl⟩ := hrel
    have hcb := cum_bd y (j + 1)
    have hlb : 28 ≤ lenE y j ∧ lenE y j ≤ 31 := dim_bd _ _
    by_cases hlt : j < k
    · have hcj := HC.out j (by omega)
      have E := Lib.hid (cum_succ y (j + 1) (by omega) (by omega))
      go_wp2
      go_round
      case rel => exact ⟨j + 1, by omega, by go_num, by rw [show (((j + 1 : Nat) : Int) + 1) = (j : Int) + 1 + 1 from by omega, E.out, show dim y ((j : Int) + 1) = lenE y j from rfl]; go_num⟩
      case measure => simp [intOf]; omega
    · obtain rfl : j = k := by omega
      go_wp2
      refine wp_region_near (by kernel_rfl) (by kernel_rfl) ?_
      repeat (go_big_quiet_step ((go_at_call 33; exact near_same (first_any _ _ (by omega) (by omega)))))
      refine wpQuiet_nil ?_
      rintro ⟨w1, hb1⟩
      go_wp2
      go_ret2
      exact ⟨ret_tup (by unfold mnt; omega) rfl, ((((Below.refl _ _).alloc (Nat.le_refl _) _).trans (hb.mono (by simp))).trans ((hb2.mono (by omega)).alloc (by omega) _)).trans (hb1.mono (by simp; omega))⟩
end Go.Proofs.Ytnfdpjckdiifkaa
