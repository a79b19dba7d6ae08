/-
  What a text of a reading is made of: plain mathematics.
-/
import Derived.Test.YtpjnlbippcgnoaaDoorByl
import Derived.Lib.Strings
namespace Go.Proofs.YtpjnlbippcgnoaaDoor
open Go.RowKit Txt

def cutN (l : List UInt8) : Bool := Lib.hasPrefix l [45]
def cutD (l : List UInt8) : List UInt8 := Lib.trimPrefix l [45]
theorem cut_nil : cutN [] = false ∧ cutD [] = [] := ⟨rfl, rfl⟩
theorem cut_neg (l : List UInt8) : cutN (45 :: l) = true ∧ cutD (45 :: l) = l := by
  simp [cutN, cutD, Lib.trimPrefix, Lib.hasPrefix]
theorem cut_pos (b : UInt8) (l : List UInt8) (h : b ≠ 45) : cutN (b :: l) = false ∧ cutD (b :: l) = b :: l := by
  have : ((45 : UInt8) == b) = false := by rw [beq_eq_false_iff_ne]; exact fun e => h e.symm
  have e : Lib.hasPrefix (b :: l) [45] = false := by
    show ((45 : UInt8) == b && _) = false
    rw [this]; rfl
  exact ⟨e, by unfold cutD Lib.trimPrefix; rw [e]; rfl⟩

theorem num_digs {k : Nat} : ∀ {n : Int}, 0 ≤ n → n < 10 ^ k → num (digs n k) = n := by
  induction k with
  | zero => intro n h0 h1; simp at h1; simp [digs, num]; omega
  | succ k ih =>
    intro n h0 h1
    rw [Int.pow_succ] at h1
    generalize hp : (10 : Int) ^ k = p at *
    simp only [digs]
    rw [num_snoc, ih (by omega) (by omega), dgt_int]
    omega

/-- the absolute value -/
def av (v : Int) : Int := if v < 0 then -v else v
theorem ftxt_eq (c : Nat) (v : Int) : ftxt c v = ltr c :: (sgn v ++ digs (av v) (dig c).toNat) := rfl
theorem av_bd {c : Nat} (hc : c < 11) {v : Int} (h1 : lo c ≤ v) (h2 : v ≤ hi c) : 0 ≤ av v ∧ av v < 10 ^ (dig c).toNat ∧ av v < 100000 := by
  obtain ⟨l1, l2, l3, l4⟩ := lo_hi c hc
  unfold av
  by_cases q : c = 0
  · have e : (10 : Int) ^ (dig c).toNat = 100000 := by rw [q]; rfl
    rw [e]; split <;> omega
  · have e : (10 : Int) ^ (dig c).toNat = 10000 := by rw [show dig c = 4 from if_neg q]; rfl
    have := l4 q
    rw [e]; split <;> omega
theorem ftxt_cut (c : Nat) (v : Int) :
    cutN (sgn v ++ digs (av v) (dig c).toNat) = decide (v < 0) ∧ cutD (sgn v ++ digs (av v) (dig c).toNat) = digs (av v) (dig c).toNat := by
  by_cases hv : v < 0
  · have e : sgn v = [45] := if_pos hv
    rw [e]
    have := cut_neg (digs (av v) (dig c).toNat)
    simp only [hv, decide_true]
    exact this
  · have e : sgn v = [] := if_neg hv
    rw [e, List.nil_append]
    have hl : (digs (av v) (dig c).toNat).length = (dig c).toNat := digs_length _ _
    have hi' := digs_isd (av v) (dig c).toNat
    have hK : 4 ≤ (dig c).toNat := by rcases dig_cases c with q | q <;> omega
    rcases hd : digs (av v) (dig c).toNat with _ | ⟨b, l⟩
    · rw [hd] at hl; simp at hl; omega
    · rw [hd] at hi'
      have hb := isd_bd (hi' b (List.mem_cons_self ..))
      have := cut_pos b l (fun e => by rw [e] at hb; simp at hb)
      simp only [hv, decide_false]
      exact this
/-- the value that digits and a sign give -/
def sval (neg : Bool) (n : Int) : Int := if neg = true then -n else n
theorem ftxt_val {c : Nat} (hc : c < 11) {v : Int} (h1 : lo c ≤ v) (h2 : v ≤ hi c) : sval (decide (v < 0)) (num (digs (av v) (dig c).toNat)) = v := by
  obtain ⟨a0, a1, _⟩ := av_bd hc h1 h2
  rw [num_digs a0 a1]
  unfold sval av
  by_cases hv : v < 0 <;> simp [hv]
theorem ftxt_inj {c d : Nat} {v u : Int} (hc : c < 11) (hd : d < 11) (h1 : lo c ≤ v) (h2 : v ≤ hi c) (g1 : lo d ≤ u) (g2 : u ≤ hi d) (e : ftxt c v = ftxt d u) : c = d ∧ v = u := by
  rw [ftxt_eq, ftxt_eq] at e
  injection e with e1 e2
  have hcd := ltr_inj hc hd e1
  subst hcd
  have k1 := ftxt_cut c v
  have k2 := ftxt_cut c u
  rw [e2] at k1
  have n1 := k1.1.symm.trans k2.1
  have n2 := k1.2.symm.trans k2.2
  have w1 := ftxt_val hc h1 h2
  have w2 := ftxt_val hc g1 g2
  rw [n1, n2] at w1
  exact ⟨rfl, w1.symm.trans w2⟩
end Go.Proofs.YtpjnlbippcgnoaaDoor
