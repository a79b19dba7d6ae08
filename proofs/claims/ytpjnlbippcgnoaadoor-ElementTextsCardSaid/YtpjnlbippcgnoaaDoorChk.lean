/-
  The check of a reading, and its reference.
-/
import Derived.Test.YtpjnlbippcgnoaaDoorRdesc
namespace Go.Proofs.YtpjnlbippcgnoaaDoor
open Go.RowKit

/-- the value of a reading -/
abbrev rdV (e v : Int) : Value := .agg #[.int .i64 e, .int .i64 v]

/-- the error of a reading -/
def chk (e v : Int) : Int := if e < 1 ∨ 11 < e then 4 else if v < lo (e - 1).toNat ∨ hi (e - 1).toNat < v then 1 else 0
theorem chk_no {e : Int} (h : e < 1 ∨ 11 < e) (v : Int) : chk e v = 4 := by simp [chk, h]
theorem chk_at {c : Nat} (hc : c < 11) (v : Int) : chk ((c : Int) + 1) v = if v < lo c ∨ hi c < v then 1 else 0 := by
  have h : ¬ ((c : Int) + 1 < 1 ∨ 11 < (c : Int) + 1) := by omega
  have e : ((c : Int) + 1 - 1).toNat = c := by omega
  simp only [chk, h, if_false, e]

theorem ret_i {k : IntKind} {a b : Int} (h : a = b) : Ending.returned (.int k a) = .returned (.int k b) := by rw [h]
theorem ret_b {a b : Bool} (h : a = b) : Ending.returned (.bool a) = .returned (.bool b) := by rw [h]

set_option maxHeartbeats 1000000 in
theorem check_any (e v : Int) (w : World) (hB : Bnd w) : Calls Tryd.prog 35 #[rdV e v] w fun r w' => r = .returned (.int .i64 (chk e v)) ∧ Below w.heap.size w w' := by
  have hb0 := (Below.refl w.heap.size w).alloc (Nat.le_refl _) (.cells #[.int .i64 e, .int .i64 v] 23)
  have hB0 : Blk (w.alloc (.cells #[.int .i64 e, .int .i64 v] 23)) w.heap.size #[.int .i64 e, .int .i64 v] := Blk.new _ _ _
  have HN := Lib.hid (hB.below hb0 hB.lt)
  have HX := Lib.hid hb0
  have HB0 := Lib.hid hB0
  clear hb0 hB0
  rcases code_cases e with he | ⟨c, hc, rfl⟩
  · go_enter Tryd.func35, Tryd.ntmps35
    go_wp2_with fail
    refine (describe_no e _ he).mono ?_
    rintro r w1 ⟨rfl, hb1⟩
    have HY := Lib.hid (HX.out.trans (hb1.mono HX.out.size))
    have HC := Lib.hid (chk_no he v)
    clear hb1 he
    go_wp2_with fail
    go_ret
    exact ⟨ret_i HC.out.symm, HY.out.alloc HY.out.size _⟩
  · have HC := Lib.hid (chk_at hc v)
    go_enter Tryd.func35, Tryd.ntmps35
    go_wp2_with fail
    refine (describe_ok c hc _ HN.out).mono ?_
    rintro r w1 ⟨rfl, hb1⟩
    have HY := Lib.hid (HX.out.trans (hb1.mono HX.out.size))
    have hB1 := HB0.out.below hb1 HB0.out.lt
    have hv1 := hB1.cell 1
    have hl1 := hB1.lt
    simp at hv1
    clear hb1 hB1
    by_cases h1 : v < lo c
    · go_wp2_with fail
      go_ret
      exact ⟨ret_i (by rw [HC.out, if_pos (.inl h1)]), HY.out.alloc HY.out.size _⟩
    · by_cases h2 : hi c < v
      · go_wp2_with fail
        go_ret
        exact ⟨ret_i (by rw [HC.out, if_pos (.inr h2)]), HY.out.alloc HY.out.size _⟩
      · go_wp2_with fail
        go_ret
        exact ⟨ret_i (by rw [HC.out, if_neg (by omega)]), HY.out.alloc HY.out.size _⟩
end Go.Proofs.YtpjnlbippcgnoaaDoor
