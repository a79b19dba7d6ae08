/-
  Digits and numbers as lists of bytes: plain mathematics.
-/
namespace Go.Proofs.YtpjnlbippcgnoaaDoor.Txt

/-- the last digit of a number -/
def dgt (n : Int) : UInt8 := UInt8.ofNat (48 + (n % 10).toNat)
/-- the last k digits of a number -/
def digs (n : Int) : Nat → List UInt8
  | 0 => []
  | k + 1 => digs (n / 10) k ++ [dgt n]
/-- is a byte a digit? -/
def isd (c : UInt8) : Bool := decide (48 ≤ c.toNat ∧ c.toNat ≤ 57)
/-- the number of digits -/
def num (l : List UInt8) : Int := l.foldl (fun a c => 10 * a + ((c.toNat : Int) - 48)) 0

theorem dgt_nat (n : Int) : (dgt n).toNat = 48 + (n % 10).toNat := by
  unfold dgt
  have h : (n % 10).toNat < 10 := by omega
  rw [UInt8.toNat_ofNat']
  omega
theorem dgt_int (n : Int) : ((dgt n).toNat : Int) = 48 + n % 10 := by
  rw [dgt_nat]; omega
theorem dgt_isd (n : Int) : isd (dgt n) = true := by
  unfold isd; rw [dgt_nat]; simp; omega
theorem digs_length (n : Int) (k : Nat) : (digs n k).length = k := by
  induction k generalizing n with
  | zero => rfl
  | succ k ih => simp [digs, ih]
theorem digs_isd (n : Int) (k : Nat) : ∀ c ∈ digs n k, isd c = true := by
  induction k generalizing n with
  | zero => intro c h; cases h
  | succ k ih =>
    intro c h
    simp only [digs, List.mem_append, List.mem_singleton] at h
    rcases h with h | rfl
    · exact ih _ c h
    · exact dgt_isd n
theorem num_snoc (l : List UInt8) (c : UInt8) : num (l ++ [c]) = 10 * num l + ((c.toNat : Int) - 48) := by
  simp [num, List.foldl_append]
theorem num_digs2 (n : Int) (h0 : 0 ≤ n) (h1 : n < 100) : num (digs n 2) = n := by
  simp only [digs, List.nil_append]
  rw [num_snoc, show [dgt (n / 10)] = [] ++ [dgt (n / 10)] from rfl, num_snoc, dgt_int, dgt_int]
  simp only [num, List.foldl_nil]
  omega
theorem num_digs4 (n : Int) (h0 : 0 ≤ n) (h1 : n < 10000) : num (digs n 4) = n := by
  simp only [digs, List.nil_append]
  rw [num_snoc, num_snoc, num_snoc, show [dgt (n / 10 / 10 / 10)] = [] ++ [dgt (n / 10 / 10 / 10)] from rfl, num_snoc, dgt_int, dgt_int, dgt_int, dgt_int]
  simp only [num, List.foldl_nil]
  omega
theorem isd_bd {c : UInt8} (h : isd c = true) : 48 ≤ c.toNat ∧ c.toNat ≤ 57 := by simpa [isd] using h

/-- the greatest number of k digits -/
def bd : Nat → Int
  | 0 => 0
  | k + 1 => 10 * bd k + 9
theorem bd_mono {j k : Nat} (h : j ≤ k) : bd j ≤ bd k := by
  induction k with
  | zero =>
    obtain rfl : j = 0 := by omega
    exact Int.le_refl _
  | succ k ih =>
    have h0 : ∀ n, 0 ≤ bd n := by
      intro n
      induction n with
      | zero => exact Int.le_refl _
      | succ n ihn => simp only [bd]; omega
    rcases Nat.lt_or_ge j (k + 1) with q | q
    · have := ih (by omega)
      have := h0 k
      simp only [bd]; omega
    · obtain rfl : j = k + 1 := by omega
      exact Int.le_refl _
theorem take_snoc (l : List UInt8) (k : Nat) (h : k < l.length) : l.take (k + 1) = l.take k ++ [l[k]] := List.take_succ_eq_append_getElem h
theorem num_take_bd (l : List UInt8) (h : ∀ c ∈ l, isd c = true) (k : Nat) (hk : k ≤ l.length) : 0 ≤ num (l.take k) ∧ num (l.take k) ≤ bd k := by
  induction k with
  | zero => simp [num, bd]
  | succ k ih =>
    have ih := ih (by omega)
    have hd := isd_bd (h l[k] (List.getElem_mem _))
    rw [take_snoc l k (by omega), num_snoc]
    simp only [bd]
    omega
theorem num_bd (l : List UInt8) (h : ∀ c ∈ l, isd c = true) : 0 ≤ num l ∧ num l ≤ bd l.length := by
  have := num_take_bd l h l.length (Nat.le_refl _)
  rwa [List.take_length] at this
end Go.Proofs.YtpjnlbippcgnoaaDoor.Txt
