/-
  The printed functions on the statements' reader and on lists of readings: what they answer (plain lists and numbers).
-/
import Derived.Test.YtpjnlbippcgnoaaDoorPElementAnswersx7
import Derived.Test.YtpjnlbippcgnoaaDoorPElementAnswersx12
import Derived.Test.YtpjnlbippcgnoaaDoorVld
import Derived.Test.YtpjnlbippcgnoaaDoorCore
namespace Go.Proofs.YtpjnlbippcgnoaaDoor
open Go.RowKit Go.Proofs.YtpjnlbippcgnoaaDoorW.PrintWords PElementAnswers

theorem w64 {z : Int} (h0 : -9000000000000000000 ≤ z) (h1 : z ≤ 9000000000000000000) : wrap64 z = z := by unfold wrap64; omega

/-- a reader's numbers and its place -/
def StOK (l : List Int) (k : Int) : Prop := 0 ≤ k ∧ k ≤ (l.length : Int) ∧ l.length ≤ 2000

theorem raw_p {l : List Int} {k : Int} (h : StOK l k) : ∃ r k', synoptickeep_Src_Raw.f l k = some (r, k') ∧ StOK l k' := by
  obtain ⟨h0, h1, h2⟩ := h
  unfold synoptickeep_Src_Raw.f
  by_cases hk : k ≥ (l.length : Int)
  · rw [if_pos hk]
    exact ⟨_, _, rfl, h0, h1, h2⟩
  · have e1 : wrap64 (k + 1) = k + 1 := w64 (by omega) (by omega)
    have e2 : wrap64 (k + 1 - 1) = k := by rw [w64] <;> omega
    rw [if_neg hk, e1, e2, if_pos h0, if_pos (by omega)]
    exact ⟨_, _, rfl, by omega, by omega, h2⟩
theorem mod_p (x : Int) {n : Int} (h1 : 1 ≤ n) (h2 : n ≤ 4000000000) : ∃ r, synoptickeep_Mod.f x n = some r ∧ 0 ≤ r ∧ r < n := by
  have hm := mod_arith x n (by omega)
  unfold synoptickeep_Mod.f
  rw [if_neg (by omega), if_neg (by omega)]
  by_cases hn : x.tmod n < 0
  · rw [if_pos hn, w64 (by omega) (by omega)]
    exact ⟨_, rfl, by omega, by omega⟩
  · rw [if_neg hn]
    exact ⟨_, rfl, by omega, by omega⟩
theorem n_p {l : List Int} {k n : Int} (h : StOK l k) (h1 : 1 ≤ n) (h2 : n ≤ 4000000000) : ∃ r k', synoptickeep_Src_N.f l k n = some (r, k') ∧ 0 ≤ r ∧ r < n ∧ StOK l k' := by
  obtain ⟨x, k', e, hs⟩ := raw_p h
  obtain ⟨r, e2, r0, r1⟩ := mod_p x h1 h2
  refine ⟨r, k', ?_, r0, r1, hs⟩
  simp only [synoptickeep_Src_N.f, e, e2, Option.bind_some]
theorem range_p {l : List Int} {k lo hi : Int} (h : StOK l k) (h0 : lo ≤ hi) (h1 : -1000000000 ≤ lo) (h2 : hi ≤ 1000000000) :
    ∃ r k', synoptickeep_Src_Range.f l k lo hi = some (r, k') ∧ lo ≤ r ∧ r ≤ hi ∧ StOK l k' := by
  have e1 : wrap64 (hi - lo) = hi - lo := w64 (by omega) (by omega)
  have e2 : wrap64 (hi - lo + 1) = hi - lo + 1 := w64 (by omega) (by omega)
  obtain ⟨r, k', e, r0, r1, hs⟩ := n_p (n := hi - lo + 1) h (by omega) (by omega)
  refine ⟨lo + r, k', ?_, by omega, by omega, hs⟩
  simp only [synoptickeep_Src_Range.f, e1, e2, e, Option.bind_some]
  rw [w64 (by omega) (by omega)]
theorem pick_p {l : List Int} {k : Int} {c : List Int} (h : StOK l k) (h0 : 0 < c.length) (h1 : c.length ≤ 1000) : ∃ r k', synoptickeep_Src_Pick.f l k c = some (r, k') ∧ r ∈ c ∧ StOK l k' := by
  obtain ⟨r, k', e, r0, r1, hs⟩ := n_p (n := (c.length : Int)) h (by omega) (by omega)
  refine ⟨rd c r, k', ?_, ?_, hs⟩
  · simp only [synoptickeep_Src_Pick.f, e, Option.bind_some]
    rw [if_pos r0, if_pos r1]
  · have : r.toNat < c.length := by omega
    rw [rd, List.getD_eq_getElem?_getD, List.getElem?_eq_getElem this]
    exact List.getElem_mem _

theorem rdesc_p {c : Nat} (hc : c < 11) : synopticref04_Describe.f ((c : Int) + 1) = some (⟨#[ltr c]⟩, lo c, hi c, dig c, 0) := by
  have : c = 0 ∨ c = 1 ∨ c = 2 ∨ c = 3 ∨ c = 4 ∨ c = 5 ∨ c = 6 ∨ c = 7 ∨ c = 8 ∨ c = 9 ∨ c = 10 := by omega
  rcases this with rfl | rfl | rfl | rfl | rfl | rfl | rfl | rfl | rfl | rfl | rfl <;> simp [synopticref04_Describe.f, wrap64, rd_T39, lo, hi, dig, ltr]

theorem some_p {l : List Int} {k : Int} {c : Nat} (h : StOK l k) (hc : c < 11) :
    ∃ v k', synopticref04_Some.f l k ((c : Int) + 1) = some ((c : Int) + 1, v, k') ∧ lo c ≤ v ∧ v ≤ hi c ∧ StOK l k' := by
  have ed := rdesc_p hc
  obtain ⟨l1, l2, l3, l4⟩ := lo_hi c hc
  obtain ⟨m1, m2, m3⟩ := lo_mid c hc
  obtain ⟨v, k1, e1, v0, v1, h1⟩ := range_p (lo := lo c) (hi := hi c) h (by omega) (by omega) (by omega)
  obtain ⟨q, k2, e2, q0, q1, h2⟩ := n_p (n := 5) h1 (by omega) (by omega)
  unfold synopticref04_Some.f
  simp only [ed, e1, e2, Option.bind_some]
  by_cases hq0 : q = 0
  · obtain ⟨z, k3, e3, hz, h3⟩ := pick_p (c := [lo c, hi c]) h2 (by simp) (by simp)
    rw [if_pos hq0]
    simp only [e3, Option.bind_some]
    refine ⟨z, k3, rfl, ?_, ?_, h3⟩
    · simp at hz; omega
    · simp at hz; omega
  · rw [if_neg hq0]
    have ha : wrap64 (lo c + hi c) = lo c + hi c := w64 (by omega) (by omega)
    have hb : wrap64 ((lo c + hi c).tdiv 2) = (lo c + hi c) / 2 := by
      rw [Int.tdiv_eq_ediv_of_nonneg m3]
      exact w64 (by omega) (by omega)
    by_cases hq1 : q = 1
    · obtain ⟨z, k3, e3, z0, z1, h3⟩ := range_p (lo := -40) (hi := 40) h2 (by omega) (by omega) (by omega)
      rw [if_pos hq1]
      simp only [e3, Option.bind_some, ha, hb]
      exact ⟨_, _, rfl, by rw [w64] <;> omega, by rw [w64] <;> omega, h3⟩
    · rw [if_neg hq1]
      by_cases hq2 : q = 2
      · obtain ⟨z, k3, e3, z0, z1, h3⟩ := range_p (lo := -40) (hi := 40) h2 (by omega) (by omega) (by omega)
        rw [if_pos hq2]
        simp only [e3, Option.bind_some, ha, hb]
        exact ⟨_, _, rfl, by rw [w64] <;> omega, by rw [w64] <;> omega, h3⟩
      · rw [if_neg hq2]
        exact ⟨_, _, rfl, v0, v1, h2⟩

/-- valid readings of elements up to m, ascending -/
def GoodL (m : Nat) (L : List S23) : Prop :=
  L.length ≤ m ∧ (∀ r ∈ L, ∃ c : Nat, c < m ∧ r.f0 = (c : Int) + 1 ∧ lo c ≤ r.f1 ∧ r.f1 ≤ hi c) ∧ L.Pairwise (fun a b => a.f0 < b.f0)
theorem GoodL.nil : GoodL 0 [] := ⟨Nat.le_refl _, (fun _ h => absurd h (List.not_mem_nil)), List.Pairwise.nil⟩
theorem GoodL.skip {m : Nat} {L : List S23} (h : GoodL m L) : GoodL (m + 1) L :=
  ⟨Nat.le_succ_of_le h.1, fun r hr => by obtain ⟨c, hc, q⟩ := h.2.1 r hr; exact ⟨c, Nat.lt_succ_of_lt hc, q⟩, h.2.2⟩
theorem GoodL.snoc {m : Nat} {L : List S23} {v : Int} (h : GoodL m L) (h0 : lo m ≤ v) (h1 : v ≤ hi m) : GoodL (m + 1) (L ++ [⟨(m : Int) + 1, v⟩]) := by
  refine ⟨by simpa using h.1, fun r hr => ?_, ?_⟩
  · rcases List.mem_append.1 hr with hr | hr
    · obtain ⟨c, hc, q⟩ := h.2.1 r hr
      exact ⟨c, Nat.lt_succ_of_lt hc, q⟩
    · obtain rfl := List.mem_singleton.1 hr
      exact ⟨m, Nat.lt_succ_self _, rfl, h0, h1⟩
  · rw [List.pairwise_append]
    refine ⟨h.2.2, List.pairwise_singleton _ _, fun a ha b hb => ?_⟩
    obtain rfl := List.mem_singleton.1 hb
    obtain ⟨c, hc, e, _⟩ := h.2.1 a ha
    show a.f0 < (m : Int) + 1
    omega

theorem list_l0 (l : List Int) : ∀ (d m : Nat) (L : List S23) (k : Int), d + m = 11 → StOK l k → GoodL m L → ∃ L' k', synopticref04_List.l0 (d + 1) L ((m : Int) + 1) l k = some (L', k') ∧ GoodL 11 L' ∧ StOK l k' := by
  intro d
  induction d with
  | zero =>
    intro m L k hm hk hL
    obtain rfl : m = 11 := by omega
    refine ⟨L, k, ?_, hL, hk⟩
    simp only [synopticref04_List.l0]
    rw [if_neg (by omega)]
  | succ d ih =>
    intro m L k hm hk hL
    obtain ⟨q, k1, e1, _, _, h1⟩ := n_p (n := 3) hk (by omega) (by omega)
    have e0 : wrap64 ((m : Int) + 1 + 1) = ((m + 1 : Nat) : Int) + 1 := by rw [w64] <;> omega
    rw [synopticref04_List.l0, if_pos (by omega)]
    simp only [e1, Option.bind_some, e0]
    by_cases hq : q = 0
    · obtain ⟨v, k2, e2, v0, v1, h2⟩ := some_p (c := m) h1 (by omega)
      rw [if_pos hq]
      simp only [e2, Option.bind_some]
      rw [if_pos (by have := hL.1; omega)]
      exact ih (m + 1) _ k2 (by omega) h2 (hL.snoc v0 v1)
    · rw [if_neg hq]
      exact ih (m + 1) _ k1 (by omega) h1 hL.skip
theorem list_p {l : List Int} {k : Int} (h : StOK l k) : ∃ L k', synopticref04_List.f 12 l k = some (L, k') ∧ GoodL 11 L ∧ StOK l k' :=
  list_l0 l 11 0 [] k rfl h GoodL.nil
end Go.Proofs.YtpjnlbippcgnoaaDoor
