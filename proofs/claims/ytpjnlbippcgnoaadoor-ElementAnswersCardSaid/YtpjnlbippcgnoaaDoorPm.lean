/-
  The printed Contains, In and Without: what they answer (plain lists).
-/
import Derived.Test.YtpjnlbippcgnoaaDoorPl
namespace Go.Proofs.YtpjnlbippcgnoaaDoor
open Go.RowKit Go.Proofs.YtpjnlbippcgnoaaDoorW.PrintWords PElementAnswers

theorem rd_at {C : List Int} {i : Nat} (h : i < C.length) : rd C (i : Int) = C[i] := by
  rw [rd, Int.toNat_natCast, List.getD_eq_getElem?_getD, List.getElem?_eq_getElem h]; rfl
theorem rdT_at {L : List S23} {i : Nat} (h : i < L.length) : rd_T23 L (i : Int) = L[i] := by
  rw [rd_T23, Int.toNat_natCast, List.getD_eq_getElem?_getD, List.getElem?_eq_getElem h]; rfl

theorem mem_drop_at {C : List Int} {i : Nat} (hi : i < C.length) (x : Int) : x ∈ C.drop i ↔ (x = C[i] ∨ x ∈ C.drop (i + 1)) := by
  rw [List.drop_eq_getElem_cons hi, List.mem_cons]
theorem index_l0 (C : List Int) (x : Int) (hC : C.length ≤ 1000000) : ∀ (d i k : Nat), d + i = C.length → d < k → ∃ r, slices_Index_int_int.l0 k C x (C.length : Int) (i : Int) = some r ∧ (0 ≤ r ↔ x ∈ C.drop i) := by
  intro d
  induction d with
  | zero =>
    intro i k hd hk
    obtain ⟨k, rfl⟩ : ∃ m, k = m + 1 := ⟨k - 1, by omega⟩
    refine ⟨-1, ?_, ?_⟩
    · rw [slices_Index_int_int.l0, if_neg (by omega)]
    · rw [List.drop_eq_nil_of_le (by omega)]
      simp
  | succ d ih =>
    intro i k hd hk
    obtain ⟨k, rfl⟩ : ∃ m, k = m + 1 := ⟨k - 1, by omega⟩
    have hi : i < C.length := by omega
    rw [slices_Index_int_int.l0, if_pos (by omega), if_pos (by omega), if_pos (by omega), rd_at hi]
    by_cases hx : x = C[i]
    · rw [if_pos hx]
      refine ⟨_, rfl, ?_⟩
      rw [mem_drop_at hi]
      exact ⟨fun _ => .inl hx, fun _ => by omega⟩
    · rw [if_neg hx, show wrap64 ((i : Int) + 1) = ((i + 1 : Nat) : Int) by rw [w64] <;> omega]
      obtain ⟨r, e, hr⟩ := ih (i + 1) k (by omega) (by omega)
      refine ⟨r, e, ?_⟩
      rw [hr, mem_drop_at hi]
      exact ⟨.inr, fun h => h.resolve_left hx⟩
theorem contains_p {C : List Int} (x : Int) {k : Nat} (hC : C.length ≤ 1000000) (hk : C.length < k) : slices_Contains_int_int.f k C x = some (decide (x ∈ C)) := by
  obtain ⟨r, e, hr⟩ := index_l0 C x hC C.length 0 k (by omega) hk
  have e' : slices_Index_int_int.l0 k C x (C.length : Int) 0 = some r := e
  simp only [slices_Contains_int_int.f, slices_Index_int_int.f, e', Option.bind_some]
  rw [List.drop_zero] at hr
  congr 1
  exact decide_eq_decide.2 hr

theorem in_l0 (C : List Int) (x : Int) (hC : C.length ≤ 1000000) : ∀ (d i k : Nat), d + i = C.length → d < k → synoptickeep_In.l0 k C x (i : Int) = some (decide (x ∈ C.drop i)) := by
  intro d
  induction d with
  | zero =>
    intro i k hd hk
    obtain ⟨k, rfl⟩ : ∃ m, k = m + 1 := ⟨k - 1, by omega⟩
    rw [synoptickeep_In.l0, if_neg (by omega), List.drop_eq_nil_of_le (by omega)]
    simp
  | succ d ih =>
    intro i k hd hk
    obtain ⟨k, rfl⟩ : ∃ m, k = m + 1 := ⟨k - 1, by omega⟩
    have hi : i < C.length := by omega
    rw [synoptickeep_In.l0, if_pos (by omega), if_pos (by omega), rd_at hi]
    by_cases hx : C[i] = x
    · rw [if_pos hx, decide_eq_true ((mem_drop_at hi x).2 (.inl hx.symm))]
    · rw [if_neg hx, show wrap64 ((i : Int) + 1) = ((i + 1 : Nat) : Int) by rw [w64] <;> omega, ih (i + 1) k (by omega) (by omega)]
      congr 1
      rw [decide_eq_decide, mem_drop_at hi]
      exact ⟨.inr, fun h => h.resolve_left (fun h => hx h.symm)⟩
theorem in_p {C : List Int} (x : Int) {k : Nat} (hC : C.length ≤ 1000000) (hk : C.length < k) : synoptickeep_In.f k C x = some (decide (x ∈ C)) := by
  have := in_l0 C x hC C.length 0 k (by omega) hk
  rw [List.drop_zero] at this
  exact this

/-- the readings of other elements -/
def wo (L : List S23) (C : List Int) : List S23 := L.filter fun r => !decide (r.f0 ∈ C)
theorem wo_drop {L : List S23} {C : List Int} {i : Nat} (hi : i < L.length) : wo (L.drop i) C = if (L[i]).f0 ∈ C then wo (L.drop (i + 1)) C else L[i] :: wo (L.drop (i + 1)) C := by
  rw [List.drop_eq_getElem_cons hi, wo, List.filter_cons]
  by_cases h : (L[i]).f0 ∈ C
  · rw [if_pos h, if_neg (by rw [decide_eq_true h]; decide)]; rfl
  · rw [if_neg h, if_pos (by rw [decide_eq_false h]; rfl)]; rfl
theorem without_l0 (C : List Int) (L : List S23) (hC : C.length ≤ 1000000) (hL : L.length ≤ 1000000) : ∀ (d i k : Nat) (acc : List S23), d + i = L.length → d + C.length + 1 < k → acc.length ≤ i →
    element_Without.l0 k C acc L (L.length : Int) (i : Int) = some (acc ++ wo (L.drop i) C) := by
  intro d
  induction d with
  | zero =>
    intro i k acc hd hk ha
    obtain ⟨k, rfl⟩ : ∃ m, k = m + 1 := ⟨k - 1, by omega⟩
    rw [element_Without.l0, if_neg (by omega), List.drop_eq_nil_of_le (by omega)]
    simp [wo]
  | succ d ih =>
    intro i k acc hd hk ha
    obtain ⟨k, rfl⟩ : ∃ m, k = m + 1 := ⟨k - 1, by omega⟩
    have hi : i < L.length := by omega
    have e1 : wrap64 ((i : Int) + 1) = ((i + 1 : Nat) : Int) := by rw [w64] <;> omega
    rw [element_Without.l0, if_pos (by omega), if_pos (by omega), if_pos (by omega), rdT_at hi]
    simp only [contains_p (L[i]).f0 hC (show C.length < k by omega), Option.bind_some, e1]
    by_cases hx : (L[i]).f0 ∈ C
    · rw [if_pos (decide_eq_true hx), ih (i + 1) k acc (by omega) (by omega) (by omega), wo_drop hi, if_pos hx]
    · rw [if_neg (by rw [decide_eq_false hx]; decide), if_pos (by omega), ih (i + 1) k _ (by omega) (by omega) (by simp; omega), wo_drop hi, if_neg hx, List.append_assoc]
      rfl
theorem without_p {C : List Int} {L : List S23} (hC : C.length ≤ 1000000) (hL : L.length ≤ 1000000) : element_Without.f (L.length + C.length + 2) L C = some (wo L C) := by
  have := without_l0 C L hC hL L.length 0 (L.length + C.length + 2) [] (by omega) (by omega) (by simp)
  simpa [element_Without.f] using this
theorem wo_good {m : Nat} {L : List S23} {C : List Int} (h : GoodL m L) : GoodL m (wo L C) :=
  ⟨Nat.le_trans (List.length_filter_le _ _) h.1, fun r hr => h.2.1 r (List.mem_filter.1 hr).1, h.2.2.filter _⟩
end Go.Proofs.YtpjnlbippcgnoaaDoor
