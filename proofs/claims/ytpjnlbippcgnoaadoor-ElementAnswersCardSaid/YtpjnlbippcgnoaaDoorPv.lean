/-
  What Validate and Find answer for valid lists of readings, and what the reader begins with (plain lists).
-/
import Derived.Test.YtpjnlbippcgnoaaDoorPm
namespace Go.Proofs.YtpjnlbippcgnoaaDoor
open Go.RowKit Go.Proofs.YtpjnlbippcgnoaaDoorW.PrintWords PElementAnswers

theorem mn_cases (a b : Int) : (mn a b = a ∧ a ≤ b) ∨ (mn a b = b ∧ b ≤ a) := by
  unfold mn
  split <;> omega
theorem new_p (l : List Int) : ∃ l', synoptickeep_New.f l = some (l', 0) ∧ StOK l' 0 := by
  unfold synoptickeep_New.f
  rcases mn_cases (l.length : Int) 2000 with ⟨e, h⟩ | ⟨e, h⟩
  · rw [e, if_pos (by omega), if_pos (by omega)]
    exact ⟨_, rfl, by omega, by omega, by simp; omega⟩
  · rw [e, if_pos (by omega), if_pos (by omega)]
    exact ⟨_, rfl, by omega, by omega, by simp; omega⟩

theorem idxP_none {p : S23 → Bool} {L : List S23} (h : ∀ r ∈ L, p r = false) : idxP p L = -1 := by
  have : L.findIdx? p = none := by
    rw [List.findIdx?_eq_none_iff]
    exact h
  simp [idxP, this]
theorem anyB_false {L : List S23} {bad : Int} (h : ∀ r ∈ L, chk r.f0 r.f1 ≠ bad) : anyB L bad = false := by
  unfold anyB
  rw [idxP_none (fun r hr => by rw [beq_eq_false_iff_ne]; exact h r hr)]
  decide
theorem chk_good {m : Nat} {L : List S23} (hm : m ≤ 11) (h : GoodL m L) : ∀ r ∈ L, chk r.f0 r.f1 = 0 := by
  intro r hr
  obtain ⟨c, hc, e, h0, h1⟩ := h.2.1 r hr
  rw [e, chk_at (by omega), if_neg (by omega)]
/-- all readings are valid, taken by themselves -/
def OkAll (L : List S23) : Prop := ∀ r ∈ L, chk r.f0 r.f1 = 0
theorem vld_ok {L : List S23} (h : OkAll L) : vld L = if ascB L then 0 else 8 := by
  have h4 : anyB L 4 = false := anyB_false (fun r hr e => by rw [h r hr] at e; cases e)
  have h1 : anyB L 1 = false := anyB_false (fun r hr e => by rw [h r hr] at e; cases e)
  simp [vld, h4, h1]
theorem rdT_succ {L : List S23} {i : Nat} (h : i + 1 < L.length) : rd_T23 L ((i : Int) + 1) = L[i + 1] := by
  have := rdT_at (L := L) (i := i + 1) h
  rw [← this]
  rfl
theorem asc_of_pair {L : List S23} (h : L.Pairwise (fun a b => a.f0 < b.f0)) : ascB L = true := by
  refine ascB_true fun i hi => ?_
  rw [rdT_at (show i < L.length by omega), rdT_succ hi]
  exact List.pairwise_iff_getElem.1 h i (i + 1) (by omega) hi (by omega)
theorem vld_good {m : Nat} {L : List S23} (hm : m ≤ 11) (h : GoodL m L) : vld L = 0 := by
  rw [vld_ok (chk_good hm h), asc_of_pair h.2.2]
  rfl

theorem rdT_cons (r : S23) (L : List S23) (i : Nat) : rd_T23 (r :: L) (((i + 1 : Nat) : Int)) = rd_T23 L (i : Int) := by
  rw [rd_T23, rd_T23, Int.toNat_natCast, Int.toNat_natCast]
  simp [List.getD_eq_getElem?_getD]
theorem fnd_nil (c : Int) : fnd [] c = (0, false) := rfl
theorem fnd_cons (r : S23) (L : List S23) (c : Int) : fnd (r :: L) c = if r.f0 = c then (r.f1, true) else fnd L c := by
  by_cases h : r.f0 = c
  · rw [if_pos h]
    have e : idxP (fun r => r.f0 == c) (r :: L) = 0 := by
      simp [idxP, List.findIdx?_cons, h]
    rw [fnd, e, if_neg (by decide)]
    rfl
  · rw [if_neg h]
    have hb : (r.f0 == c) = false := by rw [beq_eq_false_iff_ne]; exact h
    cases hf : L.findIdx? (fun r => r.f0 == c) with
    | none =>
      have e1 : idxP (fun r => r.f0 == c) (r :: L) = -1 := by simp [idxP, List.findIdx?_cons, hb, hf]
      have e2 : idxP (fun r => r.f0 == c) L = -1 := by simp [idxP, hf]
      rw [fnd, e1, fnd, e2]
      rfl
    | some i =>
      have e1 : idxP (fun r => r.f0 == c) (r :: L) = ((i + 1 : Nat) : Int) := by simp [idxP, List.findIdx?_cons, hb, hf]
      have e2 : idxP (fun r => r.f0 == c) L = (i : Int) := by simp [idxP, hf]
      rw [fnd, e1, fnd, e2, if_neg (by omega), if_neg (by omega), rdT_cons]
theorem fnd_wo (L : List S23) (C : List Int) (c : Int) : fnd (wo L C) c = if c ∈ C then (0, false) else fnd L c := by
  induction L with
  | nil =>
    show fnd [] c = _
    rw [fnd_nil]
    split <;> rfl
  | cons r L ih =>
    have e : wo (r :: L) C = if r.f0 ∈ C then wo L C else r :: wo L C := by
      rw [wo, List.filter_cons]
      by_cases h : r.f0 ∈ C
      · rw [if_pos h, if_neg (by rw [decide_eq_true h]; decide)]; rfl
      · rw [if_neg h, if_pos (by rw [decide_eq_false h]; rfl)]; rfl
    rw [e, fnd_cons]
    by_cases h : r.f0 ∈ C
    · rw [if_pos h, ih]
      by_cases hc : c ∈ C
      · rw [if_pos hc, if_pos hc]
      · rw [if_neg hc, if_neg hc, if_neg (fun (q : r.f0 = c) => hc (by rw [← q]; exact h))]
    · rw [if_neg h, fnd_cons, ih]
      by_cases hr : r.f0 = c
      · rw [if_pos hr, if_pos hr, if_neg (by rw [← hr]; exact h)]
      · rw [if_neg hr, if_neg hr]
end Go.Proofs.YtpjnlbippcgnoaaDoor
