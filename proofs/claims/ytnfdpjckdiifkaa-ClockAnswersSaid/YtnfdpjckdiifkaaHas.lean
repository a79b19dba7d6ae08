/-
  Each minute has a date.
-/
import Derived.Test.YtnfdpjckdiifkaaMath
namespace Go.Proofs.Ytnfdpjckdiifkaa
open Cal

/-- each minute has a date -/
theorem mnt_has_nat : ∀ n : Nat, n ≤ 52595999 → ∃ y m d h i : Int, vld y m d h i = true ∧ mnt y m d h i = n
  | 0, _ => ⟨2000, 1, 1, 0, 0, by decide, by decide⟩
  | n + 1, hn => by
    obtain ⟨y, m, d, h, i, hv, hm⟩ := mnt_has_nat n (by omega)
    have := mnt_next hv (by omega)
    exact ⟨_, _, _, _, _, this.1, this.2.trans (by omega)⟩
theorem mnt_has {n : Int} (h0 : 0 ≤ n) (h1 : n ≤ 52595999) : ∃ y m d h i : Int, vld y m d h i = true ∧ mnt y m d h i = n := by
  obtain ⟨k, rfl⟩ := Int.eq_ofNat_of_zero_le h0
  exact mnt_has_nat k (by omega)
end Go.Proofs.Ytnfdpjckdiifkaa
