/-
  Describe, and its reference, return the row of an element.
-/
import Derived.Test.YtpjnlbippcgnoaaDoorBnd
import Derived.Test.YtpjnlbippcgnoaaDoorTool
import Derived.BigRegion
namespace Go.Proofs.YtpjnlbippcgnoaaDoor
open Go.RowKit

/-- the letter of an element -/
def ltr (c : Nat) : UInt8 := [80, 84, 68, 69, 78, 65, 66, 70, 71, 74, 75].getD c 0
/-- the number of its digits -/
def dig (c : Nat) : Int := if c = 0 then 5 else 4
/-- the row of an element -/
abbrev infoV (c : Nat) : Value := .agg #[.string ⟨#[ltr c]⟩, .int .i64 (lo c), .int .i64 (hi c), .int .i64 (dig c)]
/-- the empty row -/
abbrev info0 : Value := .agg #[.string ⟨#[]⟩, .int .i64 0, .int .i64 0, .int .i64 0]

theorem letter_index (c : Nat) (hc : c < 11) (w : World) : (Instr.index 9 (.string ⟨#[80, 84, 68, 69, 78, 65, 66, 70, 71, 74, 75]⟩) (.int .i64 (c : Int))).run Tryd.prog w = .ok (.int .u8 ((ltr c).toNat : Int)) w := by
  have : c = 0 ∨ c = 1 ∨ c = 2 ∨ c = 3 ∨ c = 4 ∨ c = 5 ∨ c = 6 ∨ c = 7 ∨ c = 8 ∨ c = 9 ∨ c = 10 := by omega
  rcases this with rfl | rfl | rfl | rfl | rfl | rfl | rfl | rfl | rfl | rfl | rfl <;> rfl
theorem letter_rune (c : Nat) (hc : c < 11) : Utf8.encode ((ltr c).toNat : Int) = ⟨#[ltr c]⟩ := by
  have : c = 0 ∨ c = 1 ∨ c = 2 ∨ c = 3 ∨ c = 4 ∨ c = 5 ∨ c = 6 ∨ c = 7 ∨ c = 8 ∨ c = 9 ∨ c = 10 := by omega
  rcases this with rfl | rfl | rfl | rfl | rfl | rfl | rfl | rfl | rfl | rfl | rfl <;> (change _ = _; kernel_rfl)

set_option maxHeartbeats 1000000 in
theorem describe_no (n : Int) (w : World) (hn : n < 1 ∨ 11 < n) : Calls Tryd.prog 17 #[.int .i64 n] w fun e w' => e = .returned (.tuple #[info0, .int .i64 4]) ∧ Below w.heap.size w w' := by
  rcases hn with hn | hn
  · go_enter Tryd.func17, Tryd.ntmps17
    go_wp2
    exact bodyPost_ret (v := .tuple #[info0, .int .i64 4]) (by simp [results, Tryd.results17, go_sem]) rfl ⟨rfl, (Below.refl _ _).alloc (Nat.le_refl _) _⟩
  · have h1 : ¬ n < 1 := by omega
    go_enter Tryd.func17, Tryd.ntmps17
    go_wp2
    exact bodyPost_ret (v := .tuple #[info0, .int .i64 4]) (by simp [results, Tryd.results17, go_sem]) rfl ⟨rfl, (Below.refl _ _).alloc (Nat.le_refl _) _⟩

theorem info_end {c : Nat} {w W : World} (a : Act) (h2 : a.tmps.getD 2 undef = .pointer (some ⟨w.heap.size, 0, none⟩)) (h3 : a.tmps.getD 3 undef = .int .i64 0) (hd : a.defers = [])
    (hB : Blk W w.heap.size #[.string ⟨#[ltr c]⟩, .int .i64 (lo c), .int .i64 (hi c), .int .i64 (dig c)]) (hb : Below w.heap.size w W) :
    bodyPost Tryd.prog Tryd.f17 (fun e w' => e = .returned (.tuple #[infoV c, .int .i64 0]) ∧ Below w.heap.size w w') .ret a W := by
  have r0 := hB.cell 0
  have r1 := hB.cell 1
  have r2 := hB.cell 2
  have r3 := hB.cell 3
  simp at r0 r1 r2 r3
  refine bodyPost_ret (v := .tuple #[infoV c, .int .i64 0]) ?_ hd ⟨rfl, hb⟩
  rw [results_cell_tmp Tryd.results17, h2, h3]
  simp [go_sem, r0, r1, r2, r3]

set_option maxHeartbeats 2000000 in
theorem describe_ok (c : Nat) (hc : c < 11) (w : World) (hB : Bnd w) : Calls Tryd.prog 17 #[.int .i64 ((c : Int) + 1)] w fun e w' => e = .returned (.tuple #[infoV c, .int .i64 0]) ∧ Below w.heap.size w w' := by
  have hl : w.cell? ⟨0, c * 2, none⟩ = some (.int .i64 (lo c)) := by rw [Nat.mul_comm]; exact hB.lo_ c hc
  have hh : w.cell? ⟨0, c * 2 + 1, none⟩ = some (.int .i64 (hi c)) := by rw [Nat.mul_comm]; exact hB.hi_ c hc
  have k1 := letter_index c hc
  have k2 := letter_rune c hc
  have h1 : ¬ (c : Int) + 1 < 1 := by omega
  have h2 : ¬ 11 < (c : Int) + 1 := by omega
  have h3 : (c : Int) < 11 := by omega
  have h0 := hB.lt
  go_enter Tryd.func17, Tryd.ntmps17
  go_wp2_with fail
  have hB1 := (Blk.new w 39 #[.string ⟨#[]⟩, .int .i64 0, .int .i64 0, .int .i64 0]).alloc (.cells #[.int .i64 (lo c), .int .i64 (hi c)] 70)
  have hB2 : Blk ((w.alloc (.cells #[.string ⟨#[]⟩, .int .i64 0, .int .i64 0, .int .i64 0] 39)).alloc (.cells #[.int .i64 (lo c), .int .i64 (hi c)] 70)) (w.heap.size + 1) #[.int .i64 (lo c), .int .i64 (hi c)] := Blk.new' _ _ _ (by simp)
  have hb := ((Below.refl w.heap.size w).alloc (Nat.le_refl _) (.cells #[.string ⟨#[]⟩, .int .i64 0, .int .i64 0, .int .i64 0] 39)).alloc (by simp) (.cells #[.int .i64 (lo c), .int .i64 (hi c)] 70)
  generalize (w.alloc (.cells #[.string ⟨#[]⟩, .int .i64 0, .int .i64 0, .int .i64 0] 39)).alloc (.cells #[.int .i64 (lo c), .int .i64 (hi c)] 70) = W at hB1 hB2 hb ⊢
  have hv0 := hB2.cell 0
  have hv1 := hB2.cell 1
  have hl2 := hB2.lt
  have hu0 := hB1.cell 0
  have hu1 := hB1.cell 1
  have hu2 := hB1.cell 2
  have hu3 := hB1.cell 3
  have hf0 := hB1.frozen 0
  have hf1 := hB1.frozen 1
  have hf2 := hB1.frozen 2
  have hf3 := hB1.frozen 3
  have hl1 := hB1.lt
  simp at hv0 hv1 hu0 hu1 hu2 hu3
  have hne : w.heap.size ≠ W.heap.size := by omega
  clear hl hh h1 h2 h0 hB2
  have HB1 := Lib.hid hB1
  have HX := Lib.hid hb
  clear hB1 hb
  by_cases hz : c = 0
  · have t : ((c : Int) + 1 == 1) = true := by rw [beq_iff_eq]; omega
    have hz4 : (5 : Int) = dig c := by simp [dig, hz]
    have HZ := Lib.hid hz4
    clear hz hz4
    go_region
    all_goals
      go_wp2_with fail
      refine info_end _ rfl rfl rfl ?_ ?_
      · have hB1 := HB1.out
        rw [← HZ.out]
        (repeat' (first | with_reducible assumption | with_reducible exact Blk.new _ _ _ | ((with_reducible refine Blk.new' _ _ _ ?_); (simp; done)) | with_reducible refine Blk.alloc ?_ _ | with_reducible refine Blk.drewN ?_ _ | with_reducible refine Blk.drew ?_ | with_reducible apply Blk.put' | ((with_reducible refine Blk.away ?_ ?_ _ _); rotate_left; omega) | rfl | omega))
      · have hb := HX.out
        (repeat' (first | with_reducible assumption | with_reducible exact Below.refl _ _ | with_reducible refine Below.alloc ?_ ?_ _ | with_reducible refine Below.setCell ?_ ?_ _ | with_reducible refine Below.drew ?_ | with_reducible refine below_drewN ?_ _ | omega | (simp; done) | (simp; omega)))
  · have t : ((c : Int) + 1 == 1) = false := by rw [beq_eq_false_iff_ne]; omega
    have hz4 : (4 : Int) = dig c := by simp [dig, hz]
    have HZ := Lib.hid hz4
    clear hz hz4
    go_region
    all_goals
      go_wp2_with fail
      refine info_end _ rfl rfl rfl ?_ ?_
      · have hB1 := HB1.out
        rw [← HZ.out]
        (repeat' (first | with_reducible assumption | with_reducible exact Blk.new _ _ _ | ((with_reducible refine Blk.new' _ _ _ ?_); (simp; done)) | with_reducible refine Blk.alloc ?_ _ | with_reducible refine Blk.drewN ?_ _ | with_reducible refine Blk.drew ?_ | with_reducible apply Blk.put' | ((with_reducible refine Blk.away ?_ ?_ _ _); rotate_left; omega) | rfl | omega))
      · have hb := HX.out
        (repeat' (first | with_reducible assumption | with_reducible exact Below.refl _ _ | with_reducible refine Below.alloc ?_ ?_ _ | with_reducible refine Below.setCell ?_ ?_ _ | with_reducible refine Below.drew ?_ | with_reducible refine below_drewN ?_ _ | omega | (simp; done) | (simp; omega)))
end Go.Proofs.YtpjnlbippcgnoaaDoor
