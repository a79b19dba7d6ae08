/-
  Plain mathematics of the calendar 2000 to 2099: no program in sight.
-/
namespace Go.Proofs.Ytnfdpjckdiifkaa.Cal

def dim (y m : Int) : Int := if m = 2 then (if y % 4 = 0 then 29 else 28) else if m = 4 ∨ m = 6 ∨ m = 9 ∨ m = 11 then 30 else 31
def days (y m : Int) : Int := if 2000 ≤ y ∧ y ≤ 2099 ∧ 1 ≤ m ∧ m ≤ 12 then dim y m else 0
def dby (y : Int) : Int := 365 * (y - 2000) + (y - 1997) / 4
def cum (y m : Int) : Int :=
  if m ≤ 1 then 0 else if m = 2 then 31 else
  (if m = 3 then 59 else if m = 4 then 90 else if m = 5 then 120 else if m = 6 then 151 else if m = 7 then 181 else if m = 8 then 212 else
   if m = 9 then 243 else if m = 10 then 273 else if m = 11 then 304 else if m = 12 then 334 else 365) + (if y % 4 = 0 then 1 else 0)
def vld (y m d h i : Int) : Bool := decide (1 ≤ d ∧ d ≤ days y m ∧ 0 ≤ h ∧ h ≤ 23 ∧ 0 ≤ i ∧ i ≤ 59)
def mnt (y m d h i : Int) : Int := (dby y + cum y m + (d - 1)) * 1440 + h * 60 + i

theorem dim_bd (y m : Int) : 28 ≤ dim y m ∧ dim y m ≤ 31 := by unfold dim; split <;> (try split) <;> omega
theorem days_bd (y m : Int) : 0 ≤ days y m ∧ days y m ≤ 31 := by
  unfold days; have := dim_bd y m; split <;> omega
theorem days_in {y m : Int} (h : 1 ≤ days y m) : 2000 ≤ y ∧ y ≤ 2099 ∧ 1 ≤ m ∧ m ≤ 12 ∧ days y m = dim y m := by
  unfold days at h ⊢; split at h
  · rename_i c; exact ⟨c.1, c.2.1, c.2.2.1, c.2.2.2, by rw [if_pos c]⟩
  · omega
theorem days_eq {y m : Int} (h1 : 2000 ≤ y) (h2 : y ≤ 2099) (h3 : 1 ≤ m) (h4 : m ≤ 12) : days y m = dim y m := by
  unfold days; rw [if_pos ⟨h1, h2, h3, h4⟩]
theorem cases12 {m : Int} (h1 : 1 ≤ m) (h2 : m ≤ 12) : m = 1 ∨ m = 2 ∨ m = 3 ∨ m = 4 ∨ m = 5 ∨ m = 6 ∨ m = 7 ∨ m = 8 ∨ m = 9 ∨ m = 10 ∨ m = 11 ∨ m = 12 := by omega
theorem cum_succ (y m : Int) (h1 : 1 ≤ m) (h2 : m ≤ 12) : cum y (m + 1) = cum y m + dim y m := by
  rcases cases12 h1 h2 with rfl | rfl | rfl | rfl | rfl | rfl | rfl | rfl | rfl | rfl | rfl | rfl <;> simp [cum, dim] <;> (try split) <;> omega
theorem cum_1 (y : Int) : cum y 1 = 0 := by simp [cum]
theorem dby_succ (y : Int) : dby (y + 1) = dby y + cum y 13 := by
  simp [dby, cum]; split <;> omega
theorem dby_mono {a b : Int} (h : a ≤ b) : dby a ≤ dby b := by unfold dby; omega
theorem dby_bd {a : Int} (h0 : 2000 ≤ a) (h : a ≤ 2100) : 0 ≤ dby a ∧ dby a ≤ 36525 := by unfold dby; omega
theorem dby_2000 : dby 2000 = 0 := by decide
theorem dby_2100 : dby 2100 = 36525 := by decide
theorem cum_bd (y m : Int) : 0 ≤ cum y m ∧ cum y m ≤ 366 := by
  unfold cum
  split
  · omega
  · split
    · omega
    · split <;> (repeat' split) <;> omega

/-- the number of days before the month with the index j (0: January 2000) -/
def dbm (j : Int) : Int := dby (2000 + j / 12) + cum (2000 + j / 12) (j % 12 + 1)
def dimj (j : Int) : Int := dim (2000 + j / 12) (j % 12 + 1)
theorem dimj_bd (j : Int) : 28 ≤ dimj j ∧ dimj j ≤ 31 := dim_bd _ _
theorem dbm_succ (j : Int) : dbm (j + 1) = dbm j + dimj j := by
  unfold dbm dimj
  by_cases h : j % 12 = 11
  · have e1 : (j + 1) / 12 = j / 12 + 1 := by omega
    have e2 : (j + 1) % 12 = 0 := by omega
    have e3 : 2000 + (j / 12 + 1) = (2000 + j / 12) + 1 := by omega
    rw [e1, e2, h, e3, dby_succ]
    have := cum_succ (2000 + j / 12) 12 (by omega) (by omega)
    have e4 : (12 : Int) + 1 = 13 := rfl
    rw [e4] at this
    rw [this]
    have e5 : (0 : Int) + 1 = 1 := rfl
    have e6 : (11 : Int) + 1 = 12 := rfl
    rw [e5, e6, cum_1]; omega
  · have e1 : (j + 1) / 12 = j / 12 := by omega
    have e2 : (j + 1) % 12 = j % 12 + 1 := by omega
    rw [e1, e2, cum_succ _ (j % 12 + 1) (by omega) (by omega)]; omega
theorem dbm_add (j : Int) (n : Nat) : dbm j + 28 * n ≤ dbm (j + n) := by
  induction n with
  | zero => simp
  | succ n ih =>
    have h1 := dbm_succ (j + n)
    have h2 := dimj_bd (j + n)
    have e : j + ((n + 1 : Nat) : Int) = j + n + 1 := by omega
    rw [e, h1]; omega
theorem dbm_add31 (j : Int) (n : Nat) : dbm (j + n) ≤ dbm j + 31 * n := by
  induction n with
  | zero => simp
  | succ n ih =>
    have h1 := dbm_succ (j + n)
    have h2 := dimj_bd (j + n)
    have e : j + ((n + 1 : Nat) : Int) = j + n + 1 := by omega
    rw [e, h1]; omega
theorem dbm_le {j k : Int} (h : j ≤ k) : dbm j + 28 * (k - j) ≤ dbm k := by
  have := dbm_add j (k - j).toNat
  have e : j + ((k - j).toNat : Int) = k := by omega
  rw [e] at this; omega
theorem dbm_le31 {j k : Int} (h : j ≤ k) : dbm k ≤ dbm j + 31 * (k - j) := by
  have := dbm_add31 j (k - j).toNat
  have e : j + ((k - j).toNat : Int) = k := by omega
  rw [e] at this; omega
theorem dbm_0 : dbm 0 = 0 := by decide
theorem dbm_1200 : dbm 1200 = 36525 := by decide

/-- the index of a month -/
def jdx (y m : Int) : Int := 12 * (y - 2000) + (m - 1)
theorem jdx_y {y m : Int} (h1 : 1 ≤ m) (h2 : m ≤ 12) : 2000 + jdx y m / 12 = y := by unfold jdx; omega
theorem jdx_m {y m : Int} (h1 : 1 ≤ m) (h2 : m ≤ 12) : jdx y m % 12 + 1 = m := by unfold jdx; omega
theorem dbm_jdx {y m : Int} (h1 : 1 ≤ m) (h2 : m ≤ 12) : dbm (jdx y m) = dby y + cum y m := by
  unfold dbm; rw [jdx_y h1 h2, jdx_m h1 h2]
theorem dimj_jdx {y m : Int} (h1 : 1 ≤ m) (h2 : m ≤ 12) : dimj (jdx y m) = dim y m := by
  unfold dimj; rw [jdx_y h1 h2, jdx_m h1 h2]

theorem vld_iff {y m d h i : Int} : vld y m d h i = true ↔ 1 ≤ d ∧ d ≤ days y m ∧ 0 ≤ h ∧ h ≤ 23 ∧ 0 ≤ i ∧ i ≤ 59 := by simp [vld]
theorem vld_all {y m d h i : Int} (v : vld y m d h i = true) : 2000 ≤ y ∧ y ≤ 2099 ∧ 1 ≤ m ∧ m ≤ 12 ∧ 1 ≤ d ∧ d ≤ dim y m ∧ d ≤ 31 ∧ 0 ≤ h ∧ h ≤ 23 ∧ 0 ≤ i ∧ i ≤ 59 := by
  obtain ⟨a, b, c⟩ := vld_iff.1 v
  have hb := days_bd y m
  obtain ⟨h1, h2, h3, h4, h5⟩ := days_in (y := y) (m := m) (by omega)
  rw [h5] at b hb
  omega
theorem vld_mk {y m d h i : Int} (h1 : 2000 ≤ y) (h2 : y ≤ 2099) (h3 : 1 ≤ m) (h4 : m ≤ 12) (h5 : 1 ≤ d) (h6 : d ≤ dim y m) (h7 : 0 ≤ h) (h8 : h ≤ 23) (h9 : 0 ≤ i) (h10 : i ≤ 59) : vld y m d h i = true := by
  rw [vld_iff, days_eq h1 h2 h3 h4]; exact ⟨h5, h6, h7, h8, h9, h10⟩

/-- a valid date lies in its month -/
theorem mnt_in {y m d h i : Int} (v : vld y m d h i = true) :
    dbm (jdx y m) * 1440 ≤ mnt y m d h i ∧ mnt y m d h i < dbm (jdx y m + 1) * 1440 ∧ 0 ≤ jdx y m ∧ jdx y m < 1200 := by
  obtain ⟨h1, h2, h3, h4, h5, h6, h7, h8⟩ := vld_all v
  rw [dbm_succ, dimj_jdx h3 h4, dbm_jdx h3 h4]
  unfold mnt jdx
  omega
theorem mnt_bd {y m d h i : Int} (v : vld y m d h i = true) : 0 ≤ mnt y m d h i ∧ mnt y m d h i ≤ 52595999 := by
  obtain ⟨a, b, c, e⟩ := mnt_in v
  have l0 := dbm_le c
  have l1 := dbm_le (j := jdx y m + 1) (k := 1200) (by omega)
  rw [dbm_0] at l0; rw [dbm_1200] at l1
  omega
theorem mnt_order {y m d h i y' m' d' h' i' : Int} (v : vld y m d h i = true) (v' : vld y' m' d' h' i' = true) :
    mnt y m d h i < mnt y' m' d' h' i' ↔
      (y < y' ∨ (y = y' ∧ (m < m' ∨ (m = m' ∧ (d < d' ∨ (d = d' ∧ (h < h' ∨ (h = h' ∧ i < i')))))))) := by
  obtain ⟨a1, a2, a3, a4⟩ := mnt_in v
  obtain ⟨b1, b2, b3, b4⟩ := mnt_in v'
  obtain ⟨h1, h2, h3, h4, h5, h6, h7, h8, h9, h10, h11⟩ := vld_all v
  obtain ⟨g1, g2, g3, g4, g5, g6, g7, g8, g9, g10, g11⟩ := vld_all v'
  by_cases c : jdx y m < jdx y' m'
  · have := dbm_le (j := jdx y m + 1) (k := jdx y' m') (by omega)
    have k : mnt y m d h i < mnt y' m' d' h' i' := by omega
    simp only [k, true_iff]
    unfold jdx at c; omega
  · by_cases c' : jdx y' m' < jdx y m
    · have := dbm_le (j := jdx y' m' + 1) (k := jdx y m) (by omega)
      have k : ¬ mnt y m d h i < mnt y' m' d' h' i' := by omega
      simp only [k, false_iff]
      unfold jdx at c c'; omega
    · have ej : jdx y m = jdx y' m' := by omega
      have ey : y = y' := by unfold jdx at ej; omega
      have em : m = m' := by unfold jdx at ej; omega
      subst ey; subst em
      unfold mnt
      omega
theorem mnt_inj {y m d h i y' m' d' h' i' : Int} (v : vld y m d h i = true) (v' : vld y' m' d' h' i' = true) (e : mnt y m d h i = mnt y' m' d' h' i') :
    y = y' ∧ m = m' ∧ d = d' ∧ h = h' ∧ i = i' := by
  have n1 : ¬ mnt y m d h i < mnt y' m' d' h' i' := by omega
  have n2 : ¬ mnt y' m' d' h' i' < mnt y m d h i := by omega
  have p1 : ¬ _ := fun q => n1 ((mnt_order v v').2 q)
  have p2 : ¬ _ := fun q => n2 ((mnt_order v' v).2 q)
  omega

/-- the next minute has the next date -/
theorem mnt_next {y m d h i : Int} (v : vld y m d h i = true) (hlt : mnt y m d h i < 52595999) :
    let i1 := if i + 1 = 60 then 0 else i + 1
    let h1 := if i + 1 = 60 then h + 1 else h
    let h2 := if h1 = 24 then 0 else h1
    let d2 := if h1 = 24 then d + 1 else d
    let d3 := if d2 > days y m then 1 else d2
    let m3 := if d2 > days y m then m + 1 else m
    let m4 := if m3 = 13 then 1 else m3
    let y4 := if m3 = 13 then y + 1 else y
    vld y4 m4 d3 h2 i1 = true ∧ mnt y4 m4 d3 h2 i1 = mnt y m d h i + 1 := by
  obtain ⟨g1, g2, g3, g4, g5, g6, g7, g8, g9, g10, g11⟩ := vld_all v
  have hdd := days_eq g1 g2 g3 g4
  simp only [hdd]
  have hd := dim_bd y m
  by_cases c1 : i + 1 = 60
  · by_cases c2 : h + 1 = 24
    · by_cases c3 : d + 1 > dim y m
      · have ed : d = dim y m := by omega
        by_cases c4 : m + 1 = 13
        · have em : m = 12 := by omega
          subst em
          have hy : y + 1 ≤ 2099 := by
            rcases Int.lt_or_le y 2099 with q | q
            · omega
            · have ey : y = 2099 := by omega
              subst ey
              exfalso
              have : mnt 2099 12 d h i = 52595999 := by
                have e1 : dim 2099 12 = 31 := by decide
                rw [e1] at ed
                have e2 : h = 23 := by omega
                have e3 : i = 59 := by omega
                subst ed e2 e3; decide
              omega
          have hs := dby_succ y
          have hc := cum_succ y 12 (by omega) (by omega)
          have e13 : (12 : Int) + 1 = 13 := rfl
          rw [e13] at hc
          simp only [c1, c2, c3, c4, if_true]
          refine ⟨vld_mk (by omega) hy (by omega) (by omega) (by omega) (by have := dim_bd (y + 1) 1; omega) (by omega) (by omega) (by omega) (by omega), ?_⟩
          unfold mnt
          rw [hs, cum_1, hc]
          omega
        · have hc := cum_succ y m (by omega) (by omega)
          simp only [c1, c2, c3, c4, if_true, if_false]
          refine ⟨vld_mk g1 g2 (by omega) (by omega) (by omega) (by have := dim_bd y (m + 1); omega) (by omega) (by omega) (by omega) (by omega), ?_⟩
          unfold mnt
          rw [hc]
          omega
      · have c4 : ¬ m = 13 := by omega
        simp only [c1, c2, c3, c4, if_true, if_false]
        refine ⟨vld_mk g1 g2 g3 g4 (by omega) (by omega) (by omega) (by omega) (by omega) (by omega), ?_⟩
        unfold mnt; omega
    · have c3 : ¬ d > dim y m := by omega
      have c4 : ¬ m = 13 := by omega
      simp only [c1, c2, c3, c4, if_true, if_false]
      refine ⟨vld_mk g1 g2 g3 g4 (by omega) (by omega) (by omega) (by omega) (by omega) (by omega), ?_⟩
      unfold mnt; omega
  · have c2 : ¬ h = 24 := by omega
    have c3 : ¬ d > dim y m := by omega
    have c4 : ¬ m = 13 := by omega
    simp only [c1, c2, c3, c4, if_false]
    refine ⟨vld_mk g1 g2 g3 g4 (by omega) (by omega) (by omega) (by omega) (by omega) (by omega), ?_⟩
    unfold mnt; omega
end Go.Proofs.Ytnfdpjckdiifkaa.Cal
