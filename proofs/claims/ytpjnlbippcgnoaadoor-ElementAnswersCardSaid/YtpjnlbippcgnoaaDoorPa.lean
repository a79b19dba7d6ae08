/-
  The printed Find, Validate, Same, Without of the reference and Text of the reader: what they answer (plain lists).
-/
import Derived.Test.YtpjnlbippcgnoaaDoorPElementAnswersx10
import Derived.Test.YtpjnlbippcgnoaaDoorPElementAnswersx13
import Derived.Test.YtpjnlbippcgnoaaDoorPv
namespace Go.Proofs.YtpjnlbippcgnoaaDoor
open Go.RowKit Go.Proofs.YtpjnlbippcgnoaaDoorW.PrintWords PElementAnswers

theorem rfind_l0 (L : List S23) (c : Int) (hL : L.length ≤ 1000000) : ∀ (d i k : Nat), d + i = L.length → d < k → synopticref04_Find.l0 k L c (i : Int) = some (fnd (L.drop i) c) := by
  intro d
  induction d with
  | zero =>
    intro i k hd hk
    obtain ⟨k, rfl⟩ : ∃ m, k = m + 1 := ⟨k - 1, by omega⟩
    rw [synopticref04_Find.l0, if_neg (by omega), List.drop_eq_nil_of_le (by omega), fnd_nil]
  | succ d ih =>
    intro i k hd hk
    obtain ⟨k, rfl⟩ : ∃ m, k = m + 1 := ⟨k - 1, by omega⟩
    have hi : i < L.length := by omega
    rw [synopticref04_Find.l0, if_pos (by omega), if_pos (by omega), rdT_at hi, List.drop_eq_getElem_cons hi, fnd_cons]
    by_cases hx : (L[i]).f0 = c
    · rw [if_pos hx, if_pos hx]
    · rw [if_neg hx, if_neg hx, show wrap64 ((i : Int) + 1) = ((i + 1 : Nat) : Int) by rw [w64] <;> omega, ih (i + 1) k (by omega) (by omega)]
theorem rfind_p {L : List S23} (c : Int) (hL : L.length ≤ 1000000) : synopticref04_Find.f (L.length + 1) L c = some ((fnd L c).1, (fnd L c).2) := by
  have := rfind_l0 L c hL L.length 0 (L.length + 1) (by omega) (by omega)
  rw [List.drop_zero] at this
  exact this

theorem rdesc_no {n : Int} (h : n < 1 ∨ 11 < n) : synopticref04_Describe.f n = some (⟨#[]⟩, 0, 0, 0, 4) := by
  unfold synopticref04_Describe.f
  by_cases h1 : n < 1
  · rw [if_pos h1]
  · rw [if_neg h1, if_pos (by omega)]
theorem rin_p {c : Nat} (hc : c < 11) (v : Int) : synopticref04_in.f ((c : Int) + 1) v = some (decide (chk ((c : Int) + 1) v = 0)) := by
  simp only [synopticref04_in.f, rdesc_p hc, Option.bind_some]
  rw [chk_at hc]
  by_cases h1 : v ≥ lo c
  · rw [if_pos h1]
    congr 1
    rw [decide_eq_decide]
    by_cases h2 : v ≤ hi c
    · rw [if_neg (by omega)]; simp [h2]
    · rw [if_pos (by omega)]; simp [h2]
  · rw [if_neg h1, if_pos (.inl (by omega))]
    rfl

theorem chk_code {e v : Int} (h : chk e v ≠ 4) : ∃ c : Nat, c < 11 ∧ e = (c : Int) + 1 := by
  rcases code_cases e with h' | h'
  · exact absurd (chk_no h' v) h
  · exact h'
theorem chk_bad {e v : Int} (h : chk e v = 4) : e < 1 ∨ 11 < e := by
  rcases code_cases e with h' | ⟨c, hc, rfl⟩
  · exact h'
  · rw [chk_at hc] at h
    split at h <;> cases h

theorem rv_l2 (L : List S23) (hL : L.length ≤ 1000000) : ∀ (d i k : Nat), d + (i + 1) = L.length → d < k → (∀ j : Nat, j < i → (rd_T23 L (j : Int)).f0 < (rd_T23 L ((j : Int) + 1)).f0) →
    synopticref04_Validate.l2 k L ((i : Int) + 1) = some (if ascB L then 0 else 8) := by
  intro d
  induction d with
  | zero =>
    intro i k hd hk ha
    obtain ⟨k, rfl⟩ : ∃ m, k = m + 1 := ⟨k - 1, by omega⟩
    rw [synopticref04_Validate.l2, if_neg (by omega), ascB_true (fun j hj => ha j (by omega))]
    rfl
  | succ d ih =>
    intro i k hd hk ha
    obtain ⟨k, rfl⟩ : ∃ m, k = m + 1 := ⟨k - 1, by omega⟩
    have e1 : wrap64 ((i : Int) + 1 - 1) = (i : Int) := by rw [w64] <;> omega
    have e2 : wrap64 ((i : Int) + 1 + 1) = ((i + 1 : Nat) : Int) + 1 := by rw [w64] <;> omega
    rw [synopticref04_Validate.l2, if_pos (by omega), e1, if_pos (by omega), if_pos (by omega), if_pos (by omega), e2]
    by_cases hx : (rd_T23 L (i : Int)).f0 ≥ (rd_T23 L ((i : Int) + 1)).f0
    · rw [if_pos hx, ascB_false (i := i) (by omega) (by omega)]
      rfl
    · rw [if_neg hx]
      refine ih (i + 1) k (by omega) (by omega) (fun j hj => ?_)
      by_cases e : j = i
      · subst e; omega
      · exact ha j (by omega)
theorem rv_l2_0 {L : List S23} (hL : L.length ≤ 1000000) {k : Nat} (hk : L.length < k) : synopticref04_Validate.l2 k L 1 = some (if ascB L then 0 else 8) := by
  rcases Nat.eq_zero_or_pos L.length with h | h
  · obtain ⟨k, rfl⟩ : ∃ m, k = m + 1 := ⟨k - 1, by omega⟩
    rw [synopticref04_Validate.l2, if_neg (by omega), ascB_true (fun j hj => by omega)]
    rfl
  · have := rv_l2 L hL (L.length - 1) 0 k (by omega) (by omega) (fun j hj => absurd hj (Nat.not_lt_zero _))
    exact this

theorem rv_l1 (L : List S23) (hL : L.length ≤ 1000000) (hc : ∀ r ∈ L, chk r.f0 r.f1 ≠ 4) : ∀ (d i k : Nat), d + i = L.length → d + L.length + 1 < k →
    synopticref04_Validate.l1 k L (i : Int) = some (if (L.drop i).any (fun r => chk r.f0 r.f1 == 1) then 1 else if ascB L then 0 else 8) := by
  intro d
  induction d with
  | zero =>
    intro i k hd hk
    obtain ⟨k, rfl⟩ : ∃ m, k = m + 1 := ⟨k - 1, by omega⟩
    rw [synopticref04_Validate.l1, if_neg (by omega), List.drop_eq_nil_of_le (by omega), rv_l2_0 hL (by omega)]
    rfl
  | succ d ih =>
    intro i k hd hk
    obtain ⟨k, rfl⟩ : ∃ m, k = m + 1 := ⟨k - 1, by omega⟩
    have hi : i < L.length := by omega
    have hci := hc _ (List.getElem_mem hi)
    obtain ⟨c, hcc, ec⟩ := chk_code hci
    rw [synopticref04_Validate.l1, if_pos (by omega), if_pos (by omega), rdT_at hi, List.drop_eq_getElem_cons hi, List.any_cons]
    have hin : synopticref04_in.f (L[i]).f0 (L[i]).f1 = some (decide (chk (L[i]).f0 (L[i]).f1 = 0)) := by rw [ec]; exact rin_p hcc _
    simp only [hin, Option.bind_some]
    have e1 : wrap64 ((i : Int) + 1) = ((i + 1 : Nat) : Int) := by rw [w64] <;> omega
    by_cases h0 : chk (L[i]).f0 (L[i]).f1 = 0
    · rw [if_pos (decide_eq_true h0), e1, ih (i + 1) k (by omega) (by omega)]
      simp [h0]
    · have h1 : chk (L[i]).f0 (L[i]).f1 = 1 := by
        rw [ec, chk_at hcc] at h0 ⊢
        split
        · rfl
        · rename_i hn; rw [if_neg hn] at h0; exact absurd rfl h0
      rw [if_neg (by rw [decide_eq_false h0]; decide)]
      simp [h1]
theorem rv_l0 (L : List S23) (hL : L.length ≤ 1000000) : ∀ (d i k : Nat), d + i = L.length → d < k →
    ((∃ r ∈ L.drop i, chk r.f0 r.f1 = 4) → synopticref04_Validate.l0 k L (i : Int) = some 4) ∧ ((∀ r ∈ L.drop i, chk r.f0 r.f1 ≠ 4) → synopticref04_Validate.l0 k L (i : Int) = synopticref04_Validate.l1 (k - d - 1) L 0) := by
  intro d
  induction d with
  | zero =>
    intro i k hd hk
    obtain ⟨k, rfl⟩ : ∃ m, k = m + 1 := ⟨k - 1, by omega⟩
    rw [List.drop_eq_nil_of_le (by omega)]
    refine ⟨fun ⟨r, hr, _⟩ => (List.not_mem_nil hr).elim, fun _ => ?_⟩
    rw [synopticref04_Validate.l0, if_neg (by omega)]
    rfl
  | succ d ih =>
    intro i k hd hk
    obtain ⟨k, rfl⟩ : ∃ m, k = m + 1 := ⟨k - 1, by omega⟩
    have hi : i < L.length := by omega
    have e1 : wrap64 ((i : Int) + 1) = ((i + 1 : Nat) : Int) := by rw [w64] <;> omega
    obtain ⟨ih1, ih2⟩ := ih (i + 1) k (by omega) (by omega)
    rw [List.drop_eq_getElem_cons hi]
    by_cases h4 : chk (L[i]).f0 (L[i]).f1 = 4
    · refine ⟨fun _ => ?_, fun h => absurd h4 (h _ List.mem_cons_self)⟩
      rw [synopticref04_Validate.l0, if_pos (by omega), if_pos (by omega), rdT_at hi]
      simp only [rdesc_no (chk_bad h4), Option.bind_some]
      rfl
    · obtain ⟨c, hcc, ec⟩ := chk_code h4
      have step : synopticref04_Validate.l0 (k + 1) L (i : Int) = synopticref04_Validate.l0 k L ((i + 1 : Nat) : Int) := by
        rw [synopticref04_Validate.l0, if_pos (by omega), if_pos (by omega), rdT_at hi, ec]
        simp only [rdesc_p hcc, Option.bind_some]
        rw [if_pos trivial, e1]
      rw [step]
      refine ⟨fun ⟨r, hr, hr4⟩ => ?_, fun h => ?_⟩
      · rcases List.mem_cons.1 hr with rfl | hr
        · exact absurd hr4 h4
        · exact ih1 ⟨r, hr, hr4⟩
      · rw [ih2 (fun r hr => h r (List.mem_cons_of_mem _ hr)), show k + 1 - (d + 1) - 1 = k - d - 1 by omega]
theorem anyB_any {L : List S23} {bad : Int} : anyB L bad = L.any (fun r => chk r.f0 r.f1 == bad) := by
  unfold anyB
  cases h : L.any (fun r => chk r.f0 r.f1 == bad) with
  | true =>
    rw [List.any_eq_true] at h
    obtain ⟨r, hr, hc⟩ := h
    cases hf : L.findIdx? (fun r => chk r.f0 r.f1 == bad) with
    | none =>
      rw [List.findIdx?_eq_none_iff] at hf
      rw [hf r hr] at hc
      cases hc
    | some i => simp [idxP, hf]
  | false =>
    rw [List.any_eq_false] at h
    rw [idxP_none (fun r hr => by have := h r hr; simpa using this)]
    decide
theorem rvld_p {L : List S23} (hL : L.length ≤ 1000000) : synopticref04_Validate.f (3 * L.length + 10) L = some (vld L) := by
  obtain ⟨h1, h2⟩ := rv_l0 L hL L.length 0 (3 * L.length + 10) (by omega) (by omega)
  rw [List.drop_zero] at h1 h2
  show synopticref04_Validate.l0 (3 * L.length + 10) L 0 = _
  by_cases h4 : ∃ r ∈ L, chk r.f0 r.f1 = 4
  · have ha : anyB L 4 = true := by
      rw [anyB_any, List.any_eq_true]
      obtain ⟨r, hr, hc⟩ := h4
      exact ⟨r, hr, by rw [hc]; rfl⟩
    have := h1 h4
    simp only [Int.natCast_zero] at this
    rw [vld, ha]
    exact this
  · have hn : ∀ r ∈ L, chk r.f0 r.f1 ≠ 4 := fun r hr e => h4 ⟨r, hr, e⟩
    have ha : anyB L 4 = false := anyB_false hn
    have e2 := h2 hn
    have e3 := rv_l1 L hL hn L.length 0 (3 * L.length + 10 - L.length - 1) (by omega) (by omega)
    rw [List.drop_zero] at e3
    rw [vld, ha, anyB_any]
    exact e2.trans e3

theorem same_l0 (L : List S23) (hL : L.length ≤ 1000000) : ∀ (d i k : Nat), d + i = L.length → d < k → synopticref04_Same.l0 k L L (i : Int) = some true := by
  intro d
  induction d with
  | zero =>
    intro i k hd hk
    obtain ⟨k, rfl⟩ : ∃ m, k = m + 1 := ⟨k - 1, by omega⟩
    rw [synopticref04_Same.l0, if_neg (by omega)]
  | succ d ih =>
    intro i k hd hk
    obtain ⟨k, rfl⟩ : ∃ m, k = m + 1 := ⟨k - 1, by omega⟩
    rw [synopticref04_Same.l0, if_pos (by omega), if_pos (by omega), if_pos (by omega), if_neg (by simp), show wrap64 ((i : Int) + 1) = ((i + 1 : Nat) : Int) by rw [w64] <;> omega]
    exact ih (i + 1) k (by omega) (by omega)
theorem same_p {L : List S23} (hL : L.length ≤ 1000000) : synopticref04_Same.f (L.length + 1) L L = some true := by
  unfold synopticref04_Same.f
  rw [if_pos rfl]
  exact same_l0 L hL L.length 0 _ (by omega) (by omega)

theorem rwithout_l0 (C : List Int) (L : List S23) (hC : C.length ≤ 1000000) (hL : L.length ≤ 1000000) : ∀ (d i k : Nat) (acc : List S23), d + i = L.length → d + C.length + 1 < k → acc.length ≤ i →
    synopticref04_Without.l0 k L C acc (i : Int) = some (acc ++ wo (L.drop i) C) := by
  intro d
  induction d with
  | zero =>
    intro i k acc hd hk ha
    obtain ⟨k, rfl⟩ : ∃ m, k = m + 1 := ⟨k - 1, by omega⟩
    rw [synopticref04_Without.l0, if_neg (by omega), List.drop_eq_nil_of_le (by omega)]
    simp [wo]
  | succ d ih =>
    intro i k acc hd hk ha
    obtain ⟨k, rfl⟩ : ∃ m, k = m + 1 := ⟨k - 1, by omega⟩
    have hi : i < L.length := by omega
    have e1 : wrap64 ((i : Int) + 1) = ((i + 1 : Nat) : Int) := by rw [w64] <;> omega
    rw [synopticref04_Without.l0, if_pos (by omega), if_pos (by omega), rdT_at hi]
    simp only [in_p (L[i]).f0 hC (show C.length < k by omega), Option.bind_some, e1]
    by_cases hx : (L[i]).f0 ∈ C
    · rw [if_pos (decide_eq_true hx), ih (i + 1) k acc (by omega) (by omega) (by omega), wo_drop hi, if_pos hx]
    · rw [if_neg (by rw [decide_eq_false hx]; decide), if_pos (by omega), ih (i + 1) k _ (by omega) (by omega) (by simp; omega), wo_drop hi, if_neg hx, List.append_assoc]
      rfl
theorem rwithout_p {C : List Int} {L : List S23} (hC : C.length ≤ 1000000) (hL : L.length ≤ 1000000) : synopticref04_Without.f (L.length + C.length + 2) L C = some (wo L C) := by
  have := rwithout_l0 C L hC hL L.length 0 (L.length + C.length + 2) [] (by omega) (by omega) (by simp)
  simpa [synopticref04_Without.f] using this

theorem text_p {l : List Int} {k : Int} {T : List ByteArray} (h : StOK l k) (h0 : 0 < T.length) (h1 : T.length ≤ 1000) : ∃ r k', synoptickeep_Src_Text.f l k T = some (r, k') ∧ r ∈ T ∧ StOK l k' := by
  obtain ⟨r, k', e, r0, r1, hs⟩ := n_p (n := (T.length : Int)) h (by omega) (by omega)
  refine ⟨rdOf ByteArray.empty T r, k', ?_, ?_, hs⟩
  · simp only [synoptickeep_Src_Text.f, e, Option.bind_some]
    rw [if_pos r0, if_pos r1]
  · have : r.toNat < T.length := by omega
    rw [rdOf, List.getD_eq_getElem?_getD, List.getElem?_eq_getElem this]
    exact List.getElem_mem _
end Go.Proofs.YtpjnlbippcgnoaaDoor
