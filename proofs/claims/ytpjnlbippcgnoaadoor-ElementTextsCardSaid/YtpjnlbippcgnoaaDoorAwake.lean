/-
  The sanity check of the statements.
-/
import Derived.Test.YtpjnlbippcgnoaaDoorParse
import Derived.Laws.StructEq
namespace Go.Proofs.YtpjnlbippcgnoaaDoor
open Go.RowKit Txt

theorem parse_at (c : Nat) (hc : c < 11) (v : Int) (h1 : lo c ≤ v) (h2 : v ≤ hi c) (w : World) (hB : Bnd w) :
    Calls Tryd.prog 14 #[.string (S (ftxt c v))] w fun r w' => r = .returned (.tuple #[rdV ((c : Int) + 1) v, .int .i64 0]) ∧ Below w.heap.size w w' := by
  have hl : (ftxt c v).length ≤ 1000 := by
    rw [ftxt_eq]
    have : (sgn v).length ≤ 1 := by unfold sgn; split <;> simp
    have := dig_cases c
    simp [digs_length]
    omega
  refine (parse_any _ hl w hB).mono ?_
  rintro r w' ⟨⟨d, u, q1, q2, q3, q4, rfl⟩ | ⟨q, _⟩, hb⟩
  · obtain ⟨rfl, rfl⟩ := ftxt_inj hc q1 h1 h2 q2 q3 q4
    exact ⟨rfl, hb⟩
  · exact absurd rfl (q c v hc h1 h2)

theorem awake_a (w : World) (hB : Bnd w) : Calls Tryd.prog 12 #[rdV 1 10132] w fun r w' => r = .returned (.tuple #[.string ⟨#[80, 49, 48, 49, 51, 50]⟩, .int .i64 0]) ∧ Below w.heap.size w w' :=
  format_ok 0 (by omega) 10132 (by decide) (by decide) w hB
theorem awake_b (w : World) (hB : Bnd w) : Calls Tryd.prog 12 #[rdV 4 (-57)] w fun r w' => r = .returned (.tuple #[.string ⟨#[69, 45, 48, 48, 53, 55]⟩, .int .i64 0]) ∧ Below w.heap.size w w' :=
  format_ok 3 (by omega) (-57) (by decide) (by decide) w hB
theorem awake_c (w : World) (hB : Bnd w) : Calls Tryd.prog 14 #[.string ⟨#[69, 45, 48, 48, 53, 55]⟩] w fun r w' => r = .returned (.tuple #[rdV 4 (-57), .int .i64 0]) ∧ Below w.heap.size w w' :=
  parse_at 3 (by omega) (-57) (by decide) (by decide) w hB

set_option maxHeartbeats 1000000 in
theorem awake_any (w : World) (hB : Bnd w) : Calls Tryd.prog 8 #[] w fun r w' => r = .returned (.bool true) ∧ Below w.heap.size w w' := by
  have h0 := hB.lt
  go_enter Tryd.func8, Tryd.ntmps8
  go_wp2_with fail
  refine (awake_a _ hB).mono ?_
  rintro r w1 ⟨rfl, hb1⟩
  have hB1 := hB.below hb1 h0
  have HX1 := Lib.hid hb1
  clear hb1
  go_wp2_with fail
  refine (awake_b _ hB1).mono ?_
  rintro r w2 ⟨rfl, hb2⟩
  have hB2 := hB1.below hb2 hB1.lt
  have HX2 := Lib.hid (HX1.out.trans (hb2.mono HX1.out.size))
  clear hb2 hB1
  go_wp2_with fail
  refine (awake_c _ hB2).mono ?_
  rintro r w3 ⟨rfl, hb3⟩
  have HX3 := Lib.hid (HX2.out.trans (hb3.mono HX2.out.size))
  clear hb3 hB2
  go_wp2_with fail
  go_ret
  exact ⟨rfl, HX3.out.alloc HX3.out.size _⟩
end Go.Proofs.YtpjnlbippcgnoaaDoor
