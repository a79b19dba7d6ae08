/-
  Contracts of the functions of the layer and of its reference (several texts laid one behind the other).
-/
import Derived.Test.YtpjnlbippcgnoaaDoorCore
/-
  The reference's ByLetter, at any string.
-/
namespace Go.Proofs.YtpjnlbippcgnoaaDoor
open Go.RowKit Txt

set_option maxRecDepth 20000 in
set_option maxHeartbeats 2000000 in
theorem rbyletter_at (c : Nat) (hc : c < 11) (w : World) : Calls Tryd.prog 32 #[.string ⟨#[ltr c]⟩] w fun r w' => r = .returned (.tuple #[.int .i64 ((c : Int) + 1), .int .i64 0]) ∧ Below w.heap.size w w' := by
  go_enter Tryd.func32, Tryd.ntmps32
  go_wp2_with fail
  go_loopw [4] (fun k wr => ∃ j : Nat, j ≤ c ∧ k = .int .i64 ((j : Int) + 1) ∧ Below w.heap.size w wr) (fun k _ => (12 - intOf k).toNat)
  case atStart => exact ⟨0, by omega, rfl, Below.refl _ _⟩
  case round =>
    obtain ⟨j, hj, rfl, hX⟩ := hrel
    have HX := Lib.hid hX
    clear hX
    have h11 : ¬ (11 : Int) < (j : Int) + 1 := by omega
    go_wp2_with fail
    refine (rdescribe_ok j (by omega) _).mono ?_
    rintro r w1 ⟨rfl, hb1⟩
    have hX := HX.out.trans (hb1.mono HX.out.size)
    have HY := Lib.hid (hX.alloc hX.size (.cells #[.string ⟨#[ltr j]⟩, .int .i64 (lo j), .int .i64 (hi j), .int .i64 (dig j)] 39))
    clear hX hb1
    rcases Nat.lt_or_ge j c with hlt | hge
    · have hne : ltr j ≠ ltr c := fun e => by have := ltr_inj (by omega) hc e; omega
      have t1 : (ltr j == ltr c) = false := by rw [beq_eq_false_iff_ne]; exact hne
      have t2 : (ltr j = ltr c) = False := eq_false hne
      clear hne
      go_wp2_with fail
      go_roundw
      case rel => exact ⟨j + 1, by omega, by go_num, HY.out⟩
      case measure => simp [intOf]; omega
    · obtain rfl : j = c := by omega
      go_wp2_with fail
      go_ret2
      exact ⟨rfl, HY.out⟩

set_option maxRecDepth 20000 in
set_option maxHeartbeats 2000000 in
theorem rbyletter_bad (s : List UInt8) (hs : ∀ c, c < 11 → s ≠ [ltr c]) (w : World) : Calls Tryd.prog 32 #[.string (S s)] w fun r w' => r = .returned (.tuple #[.int .i64 0, .int .i64 9]) ∧ Below w.heap.size w w' := by
  have HS := Lib.hid hs
  clear hs
  go_enter Tryd.func32, Tryd.ntmps32
  go_wp2_with fail
  go_loopw [4] (fun k wr => ∃ j : Nat, j ≤ 11 ∧ k = .int .i64 ((j : Int) + 1) ∧ Below w.heap.size w wr) (fun k _ => (12 - intOf k).toNat)
  case atStart => exact ⟨0, by omega, rfl, Below.refl _ _⟩
  case round =>
    obtain ⟨j, hj, rfl, hX⟩ := hrel
    have HX := Lib.hid hX
    clear hX
    rcases Nat.lt_or_ge j 11 with hlt | hge
    · have h11 : ¬ (11 : Int) < (j : Int) + 1 := by omega
      have hne := HS.out j hlt
      have t1 : ([ltr j] == s) = false := by rw [beq_eq_false_iff_ne]; exact fun e => hne e.symm
      have t2 : ([ltr j] = s) = False := eq_false fun e => hne e.symm
      clear hne
      go_wp2_with fail
      refine (rdescribe_ok j (by omega) _).mono ?_
      rintro r w1 ⟨rfl, hb1⟩
      have hX := HX.out.trans (hb1.mono HX.out.size)
      have HY := Lib.hid (hX.alloc hX.size (.cells #[.string ⟨#[ltr j]⟩, .int .i64 (lo j), .int .i64 (hi j), .int .i64 (dig j)] 39))
      clear hX hb1
      go_wp2_with fail
      go_roundw
      case rel => exact ⟨j + 1, by omega, by go_num, HY.out⟩
      case measure => simp [intOf]; omega
    · obtain rfl : j = 11 := by omega
      go_wp2_with fail
      go_ret2
      exact ⟨rfl, HX.out⟩
end Go.Proofs.YtpjnlbippcgnoaaDoor
/-
  ByLetter and its reference at any string; Describe and its reference at any code: both return the same.
-/
namespace Go.Proofs.YtpjnlbippcgnoaaDoor
open Go.RowKit Txt

/-- what Describe and its reference both return -/
theorem descs (n : Int) : ∃ (s : ByteArray) (l h d k : Int), (∀ w, Bnd w → Calls Tryd.prog 17 #[.int .i64 n] w fun e w' => e = .returned (.tuple #[.agg #[.string s, .int .i64 l, .int .i64 h, .int .i64 d], .int .i64 k]) ∧ Below w.heap.size w w') ∧
    (∀ w, Calls Tryd.prog 23 #[.int .i64 n] w fun e w' => e = .returned (.tuple #[.agg #[.string s, .int .i64 l, .int .i64 h, .int .i64 d], .int .i64 k]) ∧ Below w.heap.size w w') := by
  rcases code_cases n with h | ⟨c, hc, rfl⟩
  · exact ⟨_, _, _, _, _, fun w _ => describe_no n w h, fun w => rdescribe_no n w h⟩
  · exact ⟨_, _, _, _, _, fun w hB => describe_ok c hc w hB, fun w => rdescribe_ok c hc w⟩

set_option maxHeartbeats 1000000 in
theorem byletter_long (s : ByteArray) (h1 : s.size ≠ 1) (m : Int) (w : World) (hm : w.cell? ⟨1, 0, none⟩ = some (.int .i64 m)) :
    Calls Tryd.prog 18 #[.string s] w fun r w' => r = .returned (.tuple #[.int .i64 0, .int .i64 9]) ∧ w = w' := by
  have HM := Lib.hid hm
  have hne : ((s.size : Int) != 1) = true := by rw [bne_iff_ne]; omega
  have hne2 : ((s.size : Int) == 1) = false := by rw [beq_eq_false_iff_ne]; omega
  clear hm h1
  go_enter Tryd.func18, Tryd.ntmps18
  go_wp2_with fail
  refine (Tryd.strings_Index _ _ m _ (by decide) HM.out).mono ?_
  rintro r w1 ⟨rfl, rfl⟩
  generalize Lib.index _ _ = z
  go_wp2_with fail
  go_ret2
  exact ⟨rfl, rfl⟩

/-- what ByLetter and its reference both return -/
theorem byls (s : ByteArray) : ∃ (a k : Int), (∀ w m, w.cell? ⟨1, 0, none⟩ = some (.int .i64 m) → Calls Tryd.prog 18 #[.string s] w fun r w' => r = .returned (.tuple #[.int .i64 a, .int .i64 k]) ∧ w = w') ∧
    (∀ w, Calls Tryd.prog 32 #[.string s] w fun r w' => r = .returned (.tuple #[.int .i64 a, .int .i64 k]) ∧ Below w.heap.size w w') := by
  by_cases h : ∃ c : Nat, c < 11 ∧ s.data.toList = [ltr c]
  · obtain ⟨c, hc, e⟩ := h
    have es : s = ⟨#[ltr c]⟩ := by
      have : s.data = #[ltr c] := by rw [← Array.toList_inj]; exact e
      cases s; cases this; rfl
    subst es
    exact ⟨_, _, fun w m _ => byletter_at c hc w, fun w => rbyletter_at c hc w⟩
  · have hn : ∀ c, c < 11 → s.data.toList ≠ [ltr c] := fun c hc e => h ⟨c, hc, e⟩
    have hr := fun w => rbyletter_bad s.data.toList hn w
    by_cases h1 : s.size = 1
    · have hl : s.data.toList.length = 1 := by simpa using h1
      obtain ⟨b, hb⟩ := List.length_eq_one_iff.1 hl
      have es : s = ⟨#[b]⟩ := by
        have : s.data = #[b] := by rw [← Array.toList_inj]; exact hb
        cases s; cases this; rfl
      refine ⟨0, 9, fun w m _ => ?_, hr⟩
      rw [es]
      exact byletter_bad b (fun c hc e => hn c hc (by rw [hb, e])) w
    · exact ⟨0, 9, fun w m hm => byletter_long s h1 m w hm, hr⟩
end Go.Proofs.YtpjnlbippcgnoaaDoor
