/-
  The order of dates, and of their texts: plain mathematics.
-/
import Derived.Test.YtnfdpjckdiifkaaFormat
namespace Go.Proofs.Ytnfdpjckdiifkaa
open Go.RowKit Txt Cal

theorem less_append : ∀ (p q x y : List UInt8), p.length = q.length → Op.bytesLess (p ++ x) (q ++ y) = (Op.bytesLess p q || (p == q && Op.bytesLess x y))
  | [], [], x, y, _ => by simp [Op.bytesLess]
  | [], _ :: _, _, _, h => by simp at h
  | _ :: _, [], _, _, h => by simp at h
  | a :: p, b :: q, x, y, h => by
    have ih := less_append p q x y (by simpa using h)
    simp only [List.cons_append, Op.bytesLess, ih]
    have e : (a :: p == b :: q) = (a == b && p == q) := rfl
    rw [e]
    cases (decide (a < b)) <;> cases (a == b) <;> cases (p == q) <;> simp

theorem dgt_less (a b : Int) : Op.bytesLess [dgt a] [dgt b] = decide (a % 10 < b % 10) := by
  have ha := dgt_nat a
  have hb := dgt_nat b
  have e : (dgt a < dgt b) ↔ a % 10 < b % 10 := by
    rw [UInt8.lt_iff_toNat_lt, ha, hb]; omega
  simp [Op.bytesLess, e]
theorem dgt_eq (a b : Int) : dgt a = dgt b ↔ a % 10 = b % 10 := by
  have ha := dgt_int a
  have hb := dgt_int b
  constructor
  · intro h; rw [h] at ha; omega
  · intro h; unfold dgt; rw [h]
theorem digs_same {k : Nat} : ∀ {a b : Int}, 0 ≤ a → 0 ≤ b → a < 10 ^ k → b < 10 ^ k → (digs a k == digs b k) = decide (a = b) := by
  induction k with
  | zero => intro a b h0 h1 h2 h3; simp at h2 h3; simp [digs]; omega
  | succ k ih =>
    intro a b h0 h1 h2 h3
    rw [Int.pow_succ] at h2 h3
    generalize hp : (10 : Int) ^ k = p at *
    have := ih (a := a / 10) (b := b / 10) (by omega) (by omega) (by omega) (by omega)
    rw [Bool.eq_iff_iff]
    have h5 : digs (a / 10) k = digs (b / 10) k ↔ a / 10 = b / 10 := by rw [Bool.eq_iff_iff, beq_iff_eq, decide_eq_true_eq] at this; exact this
    simp only [digs, beq_iff_eq, decide_eq_true_eq]
    constructor
    · intro h
      have := List.append_inj h (by rw [digs_length, digs_length])
      have h6 := h5.1 this.1
      have h7 := (dgt_eq a b).1 (by simpa using this.2)
      omega
    · intro h; rw [h]
theorem digs_less {k : Nat} : ∀ {a b : Int}, 0 ≤ a → 0 ≤ b → a < 10 ^ k → b < 10 ^ k → Op.bytesLess (digs a k) (digs b k) = decide (a < b) := by
  induction k with
  | zero => intro a b h0 h1 h2 h3; simp at h2 h3; simp [digs, Op.bytesLess]; omega
  | succ k ih =>
    intro a b h0 h1 h2 h3
    rw [Int.pow_succ] at h2 h3
    generalize hp : (10 : Int) ^ k = p at *
    have h4 := ih (a := a / 10) (b := b / 10) (by omega) (by omega) (by omega) (by omega)
    have h5 := digs_same (k := k) (a := a / 10) (b := b / 10) (by omega) (by omega) (by omega) (by omega)
    simp only [digs]
    rw [less_append _ _ _ _ (by rw [digs_length, digs_length]), h4, h5, dgt_less, Bool.eq_iff_iff]
    simp
    omega
theorem less_cons (c : UInt8) (x y : List UInt8) : Op.bytesLess (c :: x) (c :: y) = Op.bytesLess x y := by
  have : ¬ c < c := by rw [UInt8.lt_iff_toNat_lt]; omega
  simp [Op.bytesLess, this]
theorem digs_app (a b : Int) (k : Nat) (x y : List UInt8) : Op.bytesLess (digs a k ++ x) (digs b k ++ y) = (Op.bytesLess (digs a k) (digs b k) || (digs a k == digs b k && Op.bytesLess x y)) :=
  less_append _ _ _ _ (by rw [digs_length, digs_length])
theorem txt_less {y m d h i y' m' d' h' i' : Int} (v : vld y m d h i = true) (v' : vld y' m' d' h' i' = true) : Op.bytesLess (txt y m d h i) (txt y' m' d' h' i') = decide (mnt y m d h i < mnt y' m' d' h' i') := by
  obtain ⟨h1, h2, h3, h4, h5, h6, h7, h8, h9, h10, h11⟩ := vld_all v
  obtain ⟨g1, g2, g3, g4, g5, g6, g7, g8, g9, g10, g11⟩ := vld_all v'
  have e : ∀ a b c d e : Int, txt a b c d e = digs a 4 ++ (45 :: (digs b 2 ++ (45 :: (digs c 2 ++ (32 :: (digs d 2 ++ (58 :: (digs e 2 ++ []))))))))  := by intro a b c d e; simp [txt]
  rw [e, e]
  simp only [less_cons, digs_app]
  rw [digs_less (k := 4) (by omega) (by omega) (by omega) (by omega), digs_same (k := 4) (by omega) (by omega) (by omega) (by omega),
    digs_less (k := 2) (by omega) (by omega) (by omega) (by omega), digs_same (k := 2) (by omega) (by omega) (by omega) (by omega),
    digs_less (k := 2) (by omega) (by omega) (by omega) (by omega), digs_same (k := 2) (by omega) (by omega) (by omega) (by omega),
    digs_less (k := 2) (by omega) (by omega) (by omega) (by omega), digs_same (k := 2) (by omega) (by omega) (by omega) (by omega),
    digs_less (k := 2) (by omega) (by omega) (by omega) (by omega), Bool.eq_iff_iff, decide_eq_true_eq, mnt_order v v']
  simp [Op.bytesLess]

/-- the k-th field of a date -/
def fld (y m d h i : Int) (k : Nat) : Int := if k = 0 then y else if k = 1 then m else if k = 2 then d else if k = 3 then h else i
theorem fld_row (y m d h i : Int) (k : Nat) (hk : k < 5) : (#[Value.int .i64 y, .int .i64 m, .int .i64 d, .int .i64 h, .int .i64 i] : Array Value)[k]? = some (.int .i64 (fld y m d h i k)) := by
  rcases k with _ | _ | _ | _ | _ | k
  · rfl
  · rfl
  · rfl
  · rfl
  · rfl
  · omega
theorem first_diff {y m d h i y' m' d' h' i' : Int} (v : vld y m d h i = true) (v' : vld y' m' d' h' i' = true) :
    ∃ K : Nat, K ≤ 4 ∧ (∀ j, j < K → fld y m d h i j = fld y' m' d' h' i' j) ∧ (K < 4 → fld y m d h i K ≠ fld y' m' d' h' i' K) ∧
      (fld y m d h i K < fld y' m' d' h' i' K ↔ mnt y m d h i < mnt y' m' d' h' i') := by
  rw [mnt_order v v']
  by_cases e0 : y = y'
  · by_cases e1 : m = m'
    · by_cases e2 : d = d'
      · by_cases e3 : h = h'
        · refine ⟨4, by omega, ?_, by omega, ?_⟩
          · intro j hj
            rcases j with _ | _ | _ | _ | j
            · exact e0
            · exact e1
            · exact e2
            · exact e3
            · omega
          · simp [fld]; omega
        · refine ⟨3, by omega, ?_, fun _ => e3, ?_⟩
          · intro j hj
            rcases j with _ | _ | _ | j
            · exact e0
            · exact e1
            · exact e2
            · omega
          · simp [fld]; omega
      · refine ⟨2, by omega, ?_, fun _ => e2, ?_⟩
        · intro j hj
          rcases j with _ | _ | j
          · exact e0
          · exact e1
          · omega
        · simp [fld]; omega
    · refine ⟨1, by omega, ?_, fun _ => e1, ?_⟩
      · intro j hj
        rcases j with _ | j
        · exact e0
        · omega
      · simp [fld]; omega
  · refine ⟨0, by omega, ?_, fun _ => e0, ?_⟩
    · intro j hj; omega
    · simp [fld]; omega
end Go.Proofs.Ytnfdpjckdiifkaa
