/-
  ByLetter at a string of one byte, and its reference at any string.
-/
import Derived.Test.YtpjnlbippcgnoaaDoorFmt
namespace Go.Proofs.YtpjnlbippcgnoaaDoor
open Go.RowKit Txt

theorem ltr_index (c : Nat) (hc : c < 11) : Lib.indexByte [80, 84, 68, 69, 78, 65, 66, 70, 71, 74, 75] (ltr c) = c := by
  have : c = 0 ∨ c = 1 ∨ c = 2 ∨ c = 3 ∨ c = 4 ∨ c = 5 ∨ c = 6 ∨ c = 7 ∨ c = 8 ∨ c = 9 ∨ c = 10 := by omega
  rcases this with rfl | rfl | rfl | rfl | rfl | rfl | rfl | rfl | rfl | rfl | rfl <;> decide
theorem ltr_none (b : UInt8) (hb : ∀ c, c < 11 → b ≠ ltr c) : Lib.indexByte [80, 84, 68, 69, 78, 65, 66, 70, 71, 74, 75] b = -1 := by
  have g : ∀ c, c < 11 → (ltr c == b) = false := fun c hc => by rw [beq_eq_false_iff_ne]; exact fun e => hb c hc e.symm
  have g0 : ((80 : UInt8) == b) = false := g 0 (by omega)
  have g1 : ((84 : UInt8) == b) = false := g 1 (by omega)
  have g2 : ((68 : UInt8) == b) = false := g 2 (by omega)
  have g3 : ((69 : UInt8) == b) = false := g 3 (by omega)
  have g4 : ((78 : UInt8) == b) = false := g 4 (by omega)
  have g5 : ((65 : UInt8) == b) = false := g 5 (by omega)
  have g6 : ((66 : UInt8) == b) = false := g 6 (by omega)
  have g7 : ((70 : UInt8) == b) = false := g 7 (by omega)
  have g8 : ((71 : UInt8) == b) = false := g 8 (by omega)
  have g9 : ((74 : UInt8) == b) = false := g 9 (by omega)
  have g10 : ((75 : UInt8) == b) = false := g 10 (by omega)
  simp [Lib.indexByte, g0, g1, g2, g3, g4, g5, g6, g7, g8, g9, g10]
theorem ltr_inj {c d : Nat} (hc : c < 11) (hd : d < 11) (e : ltr c = ltr d) : c = d := by
  have h1 := ltr_index c hc
  rw [e, ltr_index d hd] at h1
  omega

set_option maxHeartbeats 1000000 in
theorem byletter_at (c : Nat) (hc : c < 11) (w : World) : Calls Tryd.prog 18 #[.string ⟨#[ltr c]⟩] w fun r w' => r = .returned (.tuple #[.int .i64 ((c : Int) + 1), .int .i64 0]) ∧ w = w' := by
  have hi := ltr_index c hc
  have HI := Lib.hid hi
  clear hi
  go_enter Tryd.func18, Tryd.ntmps18
  go_wp2_with fail
  refine (Tryd.strings_Index_one _ _ _).mono ?_
  rintro r w1 ⟨rfl, rfl⟩
  rw [show Lib.indexByte (ByteArray.data ⟨#[80, 84, 68, 69, 78, 65, 66, 70, 71, 74, 75]⟩).toList (ltr c) = (c : Int) from HI.out]
  go_wp2_with fail
  go_ret2
  exact ⟨rfl, rfl⟩
set_option maxHeartbeats 1000000 in
theorem byletter_bad (b : UInt8) (hb : ∀ c, c < 11 → b ≠ ltr c) (w : World) : Calls Tryd.prog 18 #[.string ⟨#[b]⟩] w fun r w' => r = .returned (.tuple #[.int .i64 0, .int .i64 9]) ∧ w = w' := by
  have HI := Lib.hid (ltr_none b hb)
  clear hb
  go_enter Tryd.func18, Tryd.ntmps18
  go_wp2_with fail
  refine (Tryd.strings_Index_one _ _ _).mono ?_
  rintro r w1 ⟨rfl, rfl⟩
  rw [show Lib.indexByte (ByteArray.data ⟨#[80, 84, 68, 69, 78, 65, 66, 70, 71, 74, 75]⟩).toList b = -1 from HI.out]
  go_wp2_with fail
  go_ret2
  exact ⟨rfl, rfl⟩
end Go.Proofs.YtpjnlbippcgnoaaDoor
