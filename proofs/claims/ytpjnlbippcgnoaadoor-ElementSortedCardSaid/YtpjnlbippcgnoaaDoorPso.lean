/-
  What Validate answers for valid readings in another order, and for a list with a reading twice (plain lists).
-/
import Derived.Test.YtpjnlbippcgnoaaDoorOrd
namespace Go.Proofs.YtpjnlbippcgnoaaDoor
open Go.RowKit Go.Proofs.YtpjnlbippcgnoaaDoorW.PrintWords PElementAnswers

/-- the first j numbers of P stand in their own places -/
def srt (P : List Int) (j : Nat) : Bool := (List.range j).all fun i => decide (rd P (i : Int) = (i : Int))
theorem srt_zero (P : List Int) : srt P 0 = true := rfl
theorem srt_succ (P : List Int) (j : Nat) : srt P (j + 1) = (srt P j && decide (rd P (j : Int) = (j : Int))) := by
  simp [srt, List.range_succ, List.all_append]
theorem srt_true {P : List Int} {j : Nat} (h : srt P j = true) : ∀ i, i < j → rd P (i : Int) = (i : Int) := by
  intro i hi
  rw [srt, List.all_eq_true] at h
  exact of_decide_eq_true (h i (List.mem_range.2 hi))
theorem srt_mk {P : List Int} {j : Nat} (h : ∀ i, i < j → rd P (i : Int) = (i : Int)) : srt P j = true := by
  rw [srt, List.all_eq_true]
  exact fun i hi => decide_eq_true (h i (List.mem_range.1 hi))

/-- the readings that the first j numbers of P choose -/
def pick (x : List S23) (P : List Int) (j : Nat) : List S23 := (P.take j).map fun q => rd_T23 x q
theorem pick_zero (x : List S23) (P : List Int) : pick x P 0 = [] := by simp [pick]
theorem pick_succ (x : List S23) (P : List Int) {j : Nat} (hj : j < P.length) : pick x P (j + 1) = pick x P j ++ [rd_T23 x (rd P (j : Int))] := by
  rw [pick, pick, List.take_succ_eq_append_getElem hj, List.map_append, rd_at hj]
  rfl
theorem pick_length (x : List S23) (P : List Int) {j : Nat} (hj : j ≤ P.length) : (pick x P j).length = j := by
  rw [pick, List.length_map, List.length_take]
  omega
theorem pick_get (x : List S23) (P : List Int) {j i : Nat} (hj : j ≤ P.length) (hi : i < j) : rd_T23 (pick x P j) (i : Int) = rd_T23 x (rd P (i : Int)) := by
  have hl : i < (pick x P j).length := by rw [pick_length x P hj]; exact hi
  rw [rdT_at hl, rd_at (show i < P.length by omega)]
  simp [pick]

theorem IsOrd.bd {n : Nat} {P : List Int} (h : IsOrd n P) {i : Nat} (hi : i < n) : 0 ≤ rd P (i : Int) ∧ rd P (i : Int) < (n : Int) := by
  have hl := h.length
  have hm : P[i]'(by omega) ∈ (List.range n).map Int.ofNat := (List.Perm.mem_iff h).1 (List.getElem_mem _)
  rw [rd_at (show i < P.length by omega)]
  rw [List.mem_map] at hm
  obtain ⟨a, ha, e⟩ := hm
  rw [List.mem_range] at ha
  rw [← e]
  exact ⟨Int.natCast_nonneg _, by show (a : Int) < (n : Int); omega⟩

theorem good_lt {x : List S23} (h : GoodL 11 x) {a b : Int} (ha : 0 ≤ a) (ha' : a < (x.length : Int)) (hb : 0 ≤ b) (hb' : b < (x.length : Int)) : (rd_T23 x a).f0 < (rd_T23 x b).f0 ↔ a < b := by
  obtain ⟨i, rfl⟩ := Int.eq_ofNat_of_zero_le ha
  obtain ⟨j, rfl⟩ := Int.eq_ofNat_of_zero_le hb
  have hi : i < x.length := by omega
  have hj : j < x.length := by omega
  rw [rdT_at hi, rdT_at hj]
  have hp := List.pairwise_iff_getElem.1 h.2.2
  refine ⟨fun hlt => ?_, fun hlt => hp i j hi hj (by omega)⟩
  rcases Nat.lt_trichotomy i j with q | q | q
  · omega
  · subst q; exact absurd hlt (Int.lt_irrefl _)
  · have := hp j i hj hi q
    omega
theorem good_ok {x : List S23} {a : Int} (ha : 0 ≤ a) (ha' : a < (x.length : Int)) : rd_T23 x a ∈ x := by
  obtain ⟨i, rfl⟩ := Int.eq_ofNat_of_zero_le ha
  have hi : i < x.length := by omega
  rw [rdT_at hi]
  exact List.getElem_mem _

theorem up_from (f : Nat → Int) (n : Nat) (h0 : ∀ i, i < n → 0 ≤ f i) (h : ∀ i, i + 1 < n → f i < f (i + 1)) : ∀ i, i < n → (i : Int) ≤ f i := by
  intro i
  induction i with
  | zero => intro hi; exact h0 0 hi
  | succ i ih => intro hi; have := ih (by omega); have := h i hi; omega
theorem down_from (f : Nat → Int) (n : Nat) (h0 : ∀ i, i < n → f i < (n : Int)) (h : ∀ i, i + 1 < n → f i < f (i + 1)) : ∀ d i, d + i + 1 = n → f i ≤ (i : Int) := by
  intro d
  induction d with
  | zero => intro i hi; have := h0 i (by omega); omega
  | succ d ih => intro i hi; have := ih (i + 1) (by omega); have := h i (by omega); omega

theorem vld_pick {x : List S23} {P : List Int} (hx : GoodL 11 x) (hP : IsOrd x.length P) : vld (pick x P x.length) = if srt P x.length then 0 else 8 := by
  have hl := hP.length
  have hj : x.length ≤ P.length := by omega
  have hok : OkAll (pick x P x.length) := by
    intro r hr
    obtain ⟨i, hi, rfl⟩ := List.getElem_of_mem hr
    rw [pick_length x P hj] at hi
    have e : (pick x P x.length)[i]'(by rw [pick_length x P hj]; exact hi) = rd_T23 x (rd P (i : Int)) := by
      rw [← pick_get x P hj hi, rdT_at]
    rw [e]
    have hb := hP.bd hi
    exact chk_good (Nat.le_refl _) hx _ (good_ok hb.1 hb.2)
  rw [vld_ok hok]
  cases hs : srt P x.length with
  | true =>
    rw [ascB_true]
    · intro i hi
      rw [pick_length x P hj] at hi
      have e1 := pick_get x P hj (show i < x.length by omega)
      have e2 := pick_get x P hj hi
      rw [srt_true hs i (by omega)] at e1
      rw [srt_true hs (i + 1) hi] at e2
      rw [e1]
      have e3 : ((i + 1 : Nat) : Int) = (i : Int) + 1 := rfl
      rw [e3] at e2
      rw [e2]
      exact (good_lt hx (by omega) (by omega) (by omega) (by omega)).2 (by omega)
  | false =>
    cases ha : ascB (pick x P x.length) with
    | false => rfl
    | true =>
      exfalso
      have hasc : ∀ i : Nat, i + 1 < x.length → rd P (i : Int) < rd P ((i + 1 : Nat) : Int) := by
        intro i hi
        rw [ascB, List.all_eq_true] at ha
        have h1 := of_decide_eq_true (ha i (by rw [List.mem_range, pick_length x P hj]; omega))
        have e1 := pick_get x P hj (show i < x.length by omega)
        have e2 := pick_get x P hj hi
        have e3 : ((i + 1 : Nat) : Int) = (i : Int) + 1 := rfl
        rw [e1, ← e3, e2] at h1
        have b1 := hP.bd (show i < x.length by omega)
        have b2 := hP.bd hi
        exact (good_lt hx b1.1 b1.2 b2.1 b2.2).1 h1
      have hu := up_from (fun i => rd P (i : Int)) x.length (fun i hi => (hP.bd hi).1) hasc
      have hd := down_from (fun i => rd P (i : Int)) x.length (fun i hi => (hP.bd hi).2) hasc
      have : srt P x.length = true := srt_mk (fun i hi => Int.le_antisymm (hd (x.length - 1 - i) i (by omega)) (hu i hi))
      rw [hs] at this
      cases this

/-- the list with its reading k twice -/
def twice (x : List S23) (k : Nat) : List S23 := (x.take (k + 1) ++ [rd_T23 x (k : Int)]) ++ x.drop (k + 1)
theorem vld_twice {x : List S23} (hx : GoodL 11 x) {k : Nat} (hk : k < x.length) : vld (twice x k) = 8 := by
  have hok : OkAll (twice x k) := by
    intro r hr
    have : r ∈ x := by
      rw [twice] at hr
      rcases List.mem_append.1 hr with hr | hr
      · rcases List.mem_append.1 hr with hr | hr
        · exact List.mem_of_mem_take hr
        · rw [List.mem_singleton] at hr
          subst hr
          exact good_ok (by omega) (by omega)
      · exact List.mem_of_mem_drop hr
    exact chk_good (Nat.le_refl _) hx r this
  have htl : (x.take (k + 1)).length = k + 1 := by rw [List.length_take]; omega
  have hl : (twice x k).length = x.length + 1 := by
    rw [twice, List.length_append, List.length_append, htl, List.length_drop]
    simp
    omega
  have e1 : rd_T23 (twice x k) (k : Int) = x[k] := by
    rw [rdT_at (show k < (twice x k).length by omega)]
    simp only [twice]
    rw [List.getElem_append_left (by rw [List.length_append, htl]; omega), List.getElem_append_left (by omega), List.getElem_take]
  have e2 : rd_T23 (twice x k) ((k : Int) + 1) = x[k] := by
    rw [rdT_succ (show k + 1 < (twice x k).length by omega)]
    simp only [twice]
    rw [List.getElem_append_left (by rw [List.length_append, htl]; simp), List.getElem_append_right (by omega)]
    simp [htl, rdT_at hk]
  rw [vld_ok hok, ascB_false (i := k) (by omega) (by rw [e1, e2]; omega)]
  rfl
end Go.Proofs.YtpjnlbippcgnoaaDoor
