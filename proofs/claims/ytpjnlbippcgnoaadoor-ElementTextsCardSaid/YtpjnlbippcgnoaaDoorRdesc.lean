/-
  The reference's Describe.
-/
import Derived.Test.YtpjnlbippcgnoaaDoorDesc
namespace Go.Proofs.YtpjnlbippcgnoaaDoor
open Go.RowKit

set_option maxHeartbeats 1000000 in
theorem rdescribe_no (n : Int) (w : World) (hn : n < 1 ∨ 11 < n) : Calls Tryd.prog 23 #[.int .i64 n] w fun e w' => e = .returned (.tuple #[info0, .int .i64 4]) ∧ Below w.heap.size w w' := by
  rcases hn with hn | hn
  · go_enter Tryd.func23, Tryd.ntmps23
    go_wp2
    exact bodyPost_ret (v := .tuple #[info0, .int .i64 4]) (by simp [results, Tryd.results23, go_sem]) rfl ⟨rfl, (Below.refl _ _).alloc (Nat.le_refl _) _⟩
  · have h1 : ¬ n < 1 := by omega
    go_enter Tryd.func23, Tryd.ntmps23
    go_wp2
    exact bodyPost_ret (v := .tuple #[info0, .int .i64 4]) (by simp [results, Tryd.results23, go_sem]) rfl ⟨rfl, (Below.refl _ _).alloc (Nat.le_refl _) _⟩

theorem info_endr {c : Nat} {w W : World} (a : Act) (h2 : a.tmps.getD 2 undef = .pointer (some ⟨w.heap.size, 0, none⟩)) (h3 : a.tmps.getD 3 undef = .int .i64 0) (hd : a.defers = [])
    (hB : Blk W w.heap.size #[.string ⟨#[ltr c]⟩, .int .i64 (lo c), .int .i64 (hi c), .int .i64 (dig c)]) (hb : Below w.heap.size w W) :
    bodyPost Tryd.prog Tryd.f23 (fun e w' => e = .returned (.tuple #[infoV c, .int .i64 0]) ∧ Below w.heap.size w w') .ret a W := by
  have r0 := hB.cell 0
  have r1 := hB.cell 1
  have r2 := hB.cell 2
  have r3 := hB.cell 3
  simp at r0 r1 r2 r3
  refine bodyPost_ret (v := .tuple #[infoV c, .int .i64 0]) ?_ hd ⟨rfl, hb⟩
  rw [results_cell_tmp Tryd.results23, h2, h3]
  simp [go_sem, r0, r1, r2, r3]

/-- the reference's table -/
abbrev tab44 : Array Value := #[.string ⟨#[80]⟩, .int .i64 8000, .int .i64 11000, .int .i64 5, .string ⟨#[84]⟩, .int .i64 1800, .int .i64 3300, .int .i64 4, .string ⟨#[68]⟩, .int .i64 1800, .int .i64 3300, .int .i64 4, .string ⟨#[69]⟩, .int .i64 (-1000), .int .i64 1000, .int .i64 4, .string ⟨#[78]⟩, .int .i64 (-1000), .int .i64 1000, .int .i64 4, .string ⟨#[65]⟩, .int .i64 900, .int .i64 1700, .int .i64 4, .string ⟨#[66]⟩, .int .i64 2000, .int .i64 3200, .int .i64 4, .string ⟨#[70]⟩, .int .i64 2400, .int .i64 3400, .int .i64 4, .string ⟨#[71]⟩, .int .i64 2000, .int .i64 3000, .int .i64 4, .string ⟨#[74]⟩, .int .i64 4400, .int .i64 6200, .int .i64 4, .string ⟨#[75]⟩, .int .i64 2000, .int .i64 2900, .int .i64 4]
theorem tab44_at (c : Nat) (hc : c < 11) : tab44[c * 4]? = some (.string ⟨#[ltr c]⟩) ∧ tab44[c * 4 + 1]? = some (.int .i64 (lo c)) ∧ tab44[c * 4 + 2]? = some (.int .i64 (hi c)) ∧ tab44[c * 4 + 3]? = some (.int .i64 (dig c)) := by
  have : c = 0 ∨ c = 1 ∨ c = 2 ∨ c = 3 ∨ c = 4 ∨ c = 5 ∨ c = 6 ∨ c = 7 ∨ c = 8 ∨ c = 9 ∨ c = 10 := by omega
  rcases this with rfl | rfl | rfl | rfl | rfl | rfl | rfl | rfl | rfl | rfl | rfl <;> exact ⟨rfl, rfl, rfl, rfl⟩

set_option maxHeartbeats 4000000 in
theorem rdescribe_ok (c : Nat) (hc : c < 11) (w : World) : Calls Tryd.prog 23 #[.int .i64 ((c : Int) + 1)] w fun e w' => e = .returned (.tuple #[infoV c, .int .i64 0]) ∧ Below w.heap.size w w' := by
  have hB : Blk ((w.alloc (.cells #[.string ⟨#[]⟩, .int .i64 0, .int .i64 0, .int .i64 0] 39)).alloc (.cells tab44 39)) (w.heap.size + 1) tab44 := Blk.new' _ _ _ (by simp)
  obtain ⟨t0, t1, t2, t3⟩ := tab44_at c hc
  have hv0 := (hB.cell (c * 4)).trans t0
  have hv1 := (hB.cell (c * 4 + 1)).trans t1
  have hv2 := (hB.cell (c * 4 + 2)).trans t2
  have hv3 := (hB.cell (c * 4 + 3)).trans t3
  have h1 : ¬ (c : Int) + 1 < 1 := by omega
  have h2 : ¬ 11 < (c : Int) + 1 := by omega
  have h3 : (c : Int) < 11 := by omega
  clear hB t0 t1 t2 t3
  go_enter Tryd.func23, Tryd.ntmps23
  go_wp2
  exact info_endr _ rfl rfl rfl ((Blk.new w 39 _).alloc _) (((Below.refl _ _).alloc (Nat.le_refl _) _).alloc (by simp) _)

/-- a code is out of range, or it is that of an element -/
theorem code_cases (n : Int) : (n < 1 ∨ 11 < n) ∨ ∃ c : Nat, c < 11 ∧ n = (c : Int) + 1 := by
  by_cases h : n < 1 ∨ 11 < n
  · exact .inl h
  · exact .inr ⟨(n - 1).toNat, by omega, by omega⟩
end Go.Proofs.YtpjnlbippcgnoaaDoor
