/-
  The nearest minute with a day of the month and a time of day: plain mathematics.
-/
import Derived.Test.YtnfdpjckdiifkaaMath
namespace Go.Proofs.Ytnfdpjckdiifkaa.Cal

def dist (a b : Int) : Int := if a ≤ b then b - a else a - b

/-- the minute with a day and a time in the month with the index j -/
def cm (d h i j : Int) : Int := mnt (2000 + j / 12) (j % 12 + 1) d h i
/-- the month with the index j has this day -/
def Has (d j : Int) : Prop := 0 ≤ j ∧ j ≤ 1199 ∧ d ≤ dimj j
instance (d j : Int) : Decidable (Has d j) := by unfold Has; exact inferInstance

theorem vld_has {d h i : Int} (hd : 1 ≤ d) (h0 : 0 ≤ h) (h1 : h ≤ 23) (h2 : 0 ≤ i) (h3 : i ≤ 59) (j : Int) (c : Has d j) : vld (2000 + j / 12) (j % 12 + 1) d h i = true :=
  vld_mk (by have := c.1; omega) (by have := c.2.1; omega) (by omega) (by omega) hd c.2.2 h0 h1 h2 h3
theorem vld_not {d h i : Int} (j : Int) (c : ¬ Has d j) : vld (2000 + j / 12) (j % 12 + 1) d h i = false := by
  rcases hb : vld (2000 + j / 12) (j % 12 + 1) d h i with _ | _
  · rfl
  · exfalso
    obtain ⟨g1, g2, g3, g4, g5, g6, g7, g8⟩ := vld_all hb
    exact c ⟨by omega, by omega, g6⟩
theorem cm_eq (d h i j : Int) : cm d h i j = (dbm j + (d - 1)) * 1440 + h * 60 + i := rfl
theorem cm_of {y m d h i : Int} (h1 : 1 ≤ m) (h2 : m ≤ 12) : cm d h i (jdx y m) = mnt y m d h i := by
  unfold cm; rw [jdx_y h1 h2, jdx_m h1 h2]
theorem cm_in {d h i : Int} (hd : 1 ≤ d) (h0 : 0 ≤ h) (h1 : h ≤ 23) (h2 : 0 ≤ i) (h3 : i ≤ 59) {j : Int} (c : d ≤ dimj j) : dbm j * 1440 ≤ cm d h i j ∧ cm d h i j < dbm (j + 1) * 1440 := by
  rw [cm_eq, dbm_succ]; omega
theorem cm_lt {d h i : Int} (hd : 1 ≤ d) (h0 : 0 ≤ h) (h1 : h ≤ 23) (h2 : 0 ≤ i) (h3 : i ≤ 59) {j k : Int} (hj : Has d j) (hk : Has d k) (hlt : j < k) : cm d h i j < cm d h i k := by
  have a := cm_in hd h0 h1 h2 h3 hj.2.2
  have b := cm_in hd h0 h1 h2 h3 hk.2.2
  have := dbm_le (j := j + 1) (k := k) (by omega)
  omega

/-- n is the nearest to x of all minutes with this day and time, and of two equally near ones the lesser -/
def Nearest (d h i x n : Int) : Prop :=
  (∃ j, Has d j ∧ n = cm d h i j) ∧ ∀ j, Has d j → dist n x < dist (cm d h i j) x ∨ (dist n x = dist (cm d h i j) x ∧ n ≤ cm d h i j)

theorem Nearest.unique {d h i x n n' : Int} (a : Nearest d h i x n) (b : Nearest d h i x n') : n = n' := by
  obtain ⟨⟨j, hj, rfl⟩, ha⟩ := a
  obtain ⟨⟨k, hk, rfl⟩, hb⟩ := b
  have h1 := ha k hk
  have h2 := hb j hj
  omega

/-- b is the best of the months with the indexes from lo up to k, without k; f: there is one -/
def Best (d h i x lo k : Int) (f : Bool) (b : Int) : Prop :=
  (f = false ∧ ∀ j, lo ≤ j → j < k → ¬ Has d j) ∨
  (f = true ∧ (∃ j, lo ≤ j ∧ j < k ∧ Has d j ∧ b = cm d h i j) ∧ ∀ j, lo ≤ j → j < k → Has d j → dist b x < dist (cm d h i j) x ∨ (dist b x = dist (cm d h i j) x ∧ b ≤ cm d h i j))

theorem Best.start (d h i x lo b : Int) : Best d h i x lo lo false b := .inl ⟨rfl, fun j a c => by omega⟩
theorem Best.skip {d h i x lo k b : Int} {f : Bool} (h1 : Best d h i x lo k f b) (hn : ¬ Has d k) : Best d h i x lo (k + 1) f b := by
  rcases h1 with ⟨hf, h1⟩ | ⟨hf, ⟨j, a1, a2, a3, a4⟩, h1⟩
  · refine .inl ⟨hf, fun j a c => ?_⟩
    rcases Int.lt_or_le j k with q | q
    · exact h1 j a q
    · have e : j = k := by omega
      subst e; exact hn
  · refine .inr ⟨hf, ⟨j, a1, by omega, a3, a4⟩, fun j' a c hc => ?_⟩
    rcases Int.lt_or_le j' k with q | q
    · exact h1 j' a q hc
    · have e : j' = k := by omega
      subst e; exact absurd hc hn
theorem Best.first {d h i x lo k b : Int} (h1 : Best d h i x lo k false b) (hk : Has d k) (hlo : lo ≤ k) : Best d h i x lo (k + 1) true (cm d h i k) := by
  rcases h1 with ⟨_, h1⟩ | ⟨hf, _⟩
  · refine .inr ⟨rfl, ⟨k, hlo, by omega, hk, rfl⟩, fun j a c hc => ?_⟩
    rcases Int.lt_or_le j k with q | q
    · exact absurd hc (h1 j a q)
    · have e : j = k := by omega
      subst e; right; omega
  · cases hf
theorem Best.better {d h i x lo k b : Int} (h1 : Best d h i x lo k true b) (hk : Has d k) (hlo : lo ≤ k) (hb : dist (cm d h i k) x < dist b x) : Best d h i x lo (k + 1) true (cm d h i k) := by
  rcases h1 with ⟨hf, _⟩ | ⟨_, _, h1⟩
  · cases hf
  · refine .inr ⟨rfl, ⟨k, hlo, by omega, hk, rfl⟩, fun j a c hc => ?_⟩
    rcases Int.lt_or_le j k with q | q
    · have := h1 j a q hc
      left; omega
    · have e : j = k := by omega
      subst e; right; omega
theorem Best.stay {d h i x lo k b : Int} (hd : 1 ≤ d) (h0 : 0 ≤ h) (h9 : h ≤ 23) (h2 : 0 ≤ i) (h3 : i ≤ 59) (h1 : Best d h i x lo k true b) (hk : Has d k) (hb : ¬ dist (cm d h i k) x < dist b x) : Best d h i x lo (k + 1) true b := by
  rcases h1 with ⟨hf, _⟩ | ⟨_, ⟨j, a1, a2, a3, a4⟩, h1⟩
  · cases hf
  · refine .inr ⟨rfl, ⟨j, a1, by omega, a3, a4⟩, fun j' a c hc => ?_⟩
    rcases Int.lt_or_le j' k with q | q
    · exact h1 j' a q hc
    · have e : j' = k := by omega
      subst e
      have := cm_lt hd h0 h9 h2 h3 a3 hk (by omega)
      rw [← a4] at this
      rcases Int.lt_or_le (dist b x) (dist (cm d h i j') x) with r | r
      · left; exact r
      · right; omega
theorem Best.bd {d h i x lo k b : Int} (hd : 1 ≤ d) (h0 : 0 ≤ h) (h9 : h ≤ 23) (h2 : 0 ≤ i) (h3 : i ≤ 59) (h1 : Best d h i x lo k true b) : 0 ≤ b ∧ b ≤ 52595999 := by
  rcases h1 with ⟨hf, _⟩ | ⟨_, ⟨j, a1, a2, a3, rfl⟩, h1⟩
  · cases hf
  · exact mnt_bd (vld_has hd h0 h9 h2 h3 j a3)

/-- of a month and the next one, one has 31 days -/
theorem has_31 {d : Int} (h1 : d ≤ 31) {J : Int} (hJ : 0 ≤ J) (hJ' : J ≤ 1199) : Has d J ∨ Has d (J + 1) := by
  have key : dimj J = 31 ∨ (dimj (J + 1) = 31 ∧ J + 1 ≤ 1199) := by
    have h12 : 0 ≤ J % 12 ∧ J % 12 ≤ 11 := by omega
    have cs : J % 12 = 0 ∨ J % 12 = 1 ∨ J % 12 = 2 ∨ J % 12 = 3 ∨ J % 12 = 4 ∨ J % 12 = 5 ∨ J % 12 = 6 ∨ J % 12 = 7 ∨ J % 12 = 8 ∨ J % 12 = 9 ∨ J % 12 = 10 ∨ J % 12 = 11 := by omega
    have sh : J % 12 ≠ 11 → (J + 1) % 12 = J % 12 + 1 := by omega
    rcases cs with e | e | e | e | e | e | e | e | e | e | e | e
    · left; unfold dimj dim; rw [e]; simp
    · right; have := sh (by omega); refine ⟨?_, by omega⟩; unfold dimj dim; rw [this, e]; simp
    · left; unfold dimj dim; rw [e]; simp
    · right; have := sh (by omega); refine ⟨?_, by omega⟩; unfold dimj dim; rw [this, e]; simp
    · left; unfold dimj dim; rw [e]; simp
    · right; have := sh (by omega); refine ⟨?_, by omega⟩; unfold dimj dim; rw [this, e]; simp
    · left; unfold dimj dim; rw [e]; simp
    · left; unfold dimj dim; rw [e]; simp
    · right; have := sh (by omega); refine ⟨?_, by omega⟩; unfold dimj dim; rw [this, e]; simp
    · left; unfold dimj dim; rw [e]; simp
    · right; have := sh (by omega); refine ⟨?_, by omega⟩; unfold dimj dim; rw [this, e]; simp
    · left; unfold dimj dim; rw [e]; simp
  rcases key with e | ⟨e, e2⟩
  · left; exact ⟨hJ, hJ', by omega⟩
  · right; exact ⟨by omega, e2, by omega⟩

theorem Best.nearest {d h i x J b : Int} {f : Bool} (hd : 1 ≤ d) (hd' : d ≤ 31) (h0 : 0 ≤ h) (h9 : h ≤ 23) (h2 : 0 ≤ i) (h3 : i ≤ 59) (hJ : 0 ≤ J) (hJ' : J ≤ 1199)
    (x0 : dbm J * 1440 ≤ x) (x1 : x < dbm (J + 1) * 1440) (h1 : Best d h i x (J - 3) (J + 4) f b) : f = true ∧ Nearest d h i x b := by
  obtain ⟨q, hq, hq0, hq1⟩ : ∃ q, Has d q ∧ J ≤ q ∧ q ≤ J + 1 := by
    rcases has_31 (d := d) hd' hJ hJ' with c | c
    · exact ⟨J, c, by omega, by omega⟩
    · exact ⟨J + 1, c, by omega, by omega⟩
  rcases h1 with ⟨_, h1⟩ | ⟨hf, ⟨j, a1, a2, a3, a4⟩, h1⟩
  · exact absurd hq (h1 q (by omega) (by omega))
  · refine ⟨hf, ⟨j, a3, a4⟩, fun j' hj' => ?_⟩
    by_cases cw : J - 3 ≤ j' ∧ j' < J + 4
    · exact h1 j' cw.1 cw.2 hj'
    · left
      have bq := h1 q (by omega) (by omega) hq
      have iq := cm_in hd h0 h9 h2 h3 hq.2.2
      have u1 := dbm_le (j := J) (k := q) hq0
      have u2 := dbm_le31 (j := J) (k := q + 1) (by omega)
      have u3 := dbm_le31 (j := J) (k := J + 1) (by omega)
      have dq : dist (cm d h i q) x < 62 * 1440 := by unfold dist; split <;> omega
      have ij := cm_in hd h0 h9 h2 h3 hj'.2.2
      have far : 84 * 1440 ≤ dist (cm d h i j') x := by
        rcases Int.lt_or_le j' (J - 3) with r | r
        · have := dbm_le (j := j' + 1) (k := J) (by omega)
          unfold dist; split <;> omega
        · have := dbm_le (j := J + 1) (k := j') (by omega)
          unfold dist; split <;> omega
      omega

/-- a minute that is less than 14 days away is the nearest one with its day and time -/
theorem Nearest.of_near {y m d h i x : Int} (v : vld y m d h i = true) (hx : dist (mnt y m d h i) x < 20160) : Nearest d h i x (mnt y m d h i) := by
  obtain ⟨g1, g2, g3, g4, g5, g6, g7, g8, g9, g10, g11⟩ := vld_all v
  have hj : Has d (jdx y m) := ⟨by unfold jdx; omega, by unfold jdx; omega, by rw [dimj_jdx g3 g4]; exact g6⟩
  refine ⟨⟨jdx y m, hj, (cm_of g3 g4).symm⟩, fun k hk => ?_⟩
  rw [← cm_of g3 g4] at hx ⊢
  rcases Int.lt_trichotomy (jdx y m) k with c | c | c
  · have u := dbm_le (j := jdx y m) (k := k) (by omega)
    rw [cm_eq] at hx ⊢
    rw [cm_eq]
    left
    unfold dist at *
    split at hx <;> split <;> split <;> omega
  · rw [c]; right; omega
  · have u := dbm_le (j := k) (k := jdx y m) (by omega)
    rw [cm_eq] at hx ⊢
    rw [cm_eq]
    left
    unfold dist at *
    split at hx <;> split <;> split <;> omega

theorem dist_bd {a b : Int} (h0 : 0 ≤ a) (h1 : a ≤ 52595999) (h2 : 0 ≤ b) (h3 : b ≤ 52595999) : 0 ≤ dist a b ∧ dist a b ≤ 52595999 := by
  unfold dist; split <;> omega
end Go.Proofs.Ytnfdpjckdiifkaa.Cal
