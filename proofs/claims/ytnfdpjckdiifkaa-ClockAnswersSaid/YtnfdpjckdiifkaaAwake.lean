/-
  The statements' sanity check (awake) returns true.
-/
import Derived.Test.YtnfdpjckdiifkaaRparse
import Derived.Test.YtnfdpjckdiifkaaRresolve
namespace Go.Proofs.Ytnfdpjckdiifkaa
open Go.RowKit Txt Cal

theorem txt_list (y m d h i : Int) : txt y m d h i = [dgt (y / 10 / 10 / 10), dgt (y / 10 / 10), dgt (y / 10), dgt y, 45, dgt (m / 10), dgt m, 45, dgt (d / 10), dgt d, 32, dgt (h / 10), dgt h, 58, dgt (i / 10), dgt i] := by
  simp [txt, digs]
theorem shape_txt (y m d h i : Int) : shape (txt y m d h i) := by
  refine ⟨txt_length _ _ _ _ _, fun k c hc => ?_⟩
  have hk : k < 16 := by
    rcases Nat.lt_or_ge k 16 with q | q
    · exact q
    · rw [List.getElem?_eq_none (by rw [txt_length]; omega)] at hc; cases hc
  have : k = 0 ∨ k = 1 ∨ k = 2 ∨ k = 3 ∨ k = 4 ∨ k = 5 ∨ k = 6 ∨ k = 7 ∨ k = 8 ∨ k = 9 ∨ k = 10 ∨ k = 11 ∨ k = 12 ∨ k = 13 ∨ k = 14 ∨ k = 15 := by omega
  rw [txt_list] at hc
  rcases this with rfl | rfl | rfl | rfl | rfl | rfl | rfl | rfl | rfl | rfl | rfl | rfl | rfl | rfl | rfl | rfl <;> (simp at hc; subst hc) <;> first | exact dgt_isd _ | rfl
theorem fields_txt {y m d h i : Int} (v : vld y m d h i = true) : fY (txt y m d h i) = y ∧ fM (txt y m d h i) = m ∧ fD (txt y m d h i) = d ∧ fH (txt y m d h i) = h ∧ fI (txt y m d h i) = i := by
  obtain ⟨g1, g2, g3, g4, g5, g6, g7, g8, g9, g10, g11⟩ := vld_all v
  have l4 : ∀ n, digs n 4 = [dgt (n / 10 / 10 / 10), dgt (n / 10 / 10), dgt (n / 10), dgt n] := fun n => by simp [digs]
  have l2 : ∀ n, digs n 2 = [dgt (n / 10), dgt n] := fun n => by simp [digs]
  refine ⟨?_, ?_, ?_, ?_, ?_⟩
  · have := num_digs4 y (by omega) (by omega)
    rw [l4] at this; unfold fY; rw [txt_list]; exact this
  · have := num_digs2 m (by omega) (by omega)
    rw [l2] at this; unfold fM; rw [txt_list]; exact this
  · have := num_digs2 d (by omega) (by omega)
    rw [l2] at this; unfold fD; rw [txt_list]; exact this
  · have := num_digs2 h (by omega) (by omega)
    rw [l2] at this; unfold fH; rw [txt_list]; exact this
  · have := num_digs2 i (by omega) (by omega)
    rw [l2] at this; unfold fI; rw [txt_list]; exact this
theorem txt_is {y m d h i : Int} (v : vld y m d h i = true) : isTxt (txt y m d h i) ∧ parsed (txt y m d h i) = mnt y m d h i := by
  obtain ⟨a, b, c, e, f⟩ := fields_txt v
  unfold isTxt parsed
  rw [a, b, c, e, f]
  exact ⟨⟨shape_txt _ _ _ _ _, v⟩, rfl⟩

/-- the text of a minute whose date is known -/
theorem format_at {n y m d h i : Int} (hv : vld y m d h i = true) (hm : mnt y m d h i = n) (w : World) :
    Calls Try.prog 22 #[.int .i64 n] w fun e w' => e = .returned (.tuple #[.string (S (txt y m d h i)), .int .i64 0]) ∧ Below w.heap.size w w' := by
  have hn : inB n = true := by have := mnt_bd hv; simp [inB]; omega
  refine (format_ok n w hn).mono ?_
  rintro e w' ⟨y', m', d', h', i', rfl, hv', hm', hb⟩
  obtain ⟨rfl, rfl, rfl, rfl, rfl⟩ := mnt_inj hv hv' (by omega)
  exact ⟨rfl, hb⟩
/-- the text of a valid date is parsed -/
theorem parse_at {y m d h i : Int} (hv : vld y m d h i = true) (w : World) :
    Calls Try.prog 23 #[.string (S (txt y m d h i))] w fun e w' => e = .returned (.tuple #[.int .i64 (mnt y m d h i), .int .i64 0]) ∧ Below w.heap.size w w' := by
  refine (parse_any (S (txt y m d h i)) w (by show (txt y m d h i).toArray.size ≤ 1000; rw [List.size_toArray, txt_length]; omega)).mono ?_
  rintro e w' ⟨h1 | h1, hb⟩
  · obtain ⟨_, rfl⟩ := h1
    exact ⟨ret_tup (txt_is hv).2 rfl, hb⟩
  · exact absurd (txt_is hv).1 h1.1
/-- Resolve at a minute that is known to be the nearest -/
theorem resolve_at {d h i x n : Int} (hx : inB x = true) (hd : 1 ≤ d) (hd' : d ≤ 31) (ht : timeB h i = true) (hn : Nearest d h i x n) (w : World) :
    Calls Try.prog 27 #[.int .i64 d, .int .i64 h, .int .i64 i, .int .i64 x] w fun e w' => e = .returned (.tuple #[.int .i64 n, .int .i64 0]) ∧ Below w.heap.size w w' := by
  refine (resolve_ok d h i x w hx hd hd' ht).mono ?_
  rintro e w' ⟨n', rfl, hn', hb⟩
  exact ⟨ret_tup (hn'.unique hn) rfl, hb⟩

theorem near_awake : Nearest 31 12 0 72000 43920 := by
  refine ⟨⟨0, by decide, by decide⟩, fun j hj => ?_⟩
  have h0 := hj.1
  have hcs : j = 0 ∨ j = 1 ∨ 2 ≤ j := by omega
  rcases hcs with rfl | rfl | hj2
  · right; exact ⟨by decide, by decide⟩
  · exact absurd hj (by decide)
  · left
    have h1 := dbm_le (j := 2) (k := j) hj2
    have h2 : dbm 2 = 60 := by decide
    rw [cm_eq]
    have e : dist 43920 72000 = 28080 := by decide
    rw [e]
    unfold dist
    split <;> omega

theorem awake_a (w : World) : Calls Try.prog 22 #[.int .i64 84960] w fun e w' => e = .returned (.tuple #[.string ⟨#[50, 48, 48, 48, 45, 48, 50, 45, 50, 57, 32, 48, 48, 58, 48, 48]⟩, .int .i64 0]) ∧ Below w.heap.size w w' :=
  format_at (y := 2000) (m := 2) (d := 29) (h := 0) (i := 0) (by decide) (by decide) w
theorem awake_b (w : World) : Calls Try.prog 23 #[.string ⟨#[50, 48, 48, 48, 45, 48, 50, 45, 50, 48, 32, 48, 48, 58, 48, 48]⟩] w fun e w' => e = .returned (.tuple #[.int .i64 72000, .int .i64 0]) ∧ Below w.heap.size w w' :=
  (parse_at (y := 2000) (m := 2) (d := 20) (h := 0) (i := 0) (by decide) w).mono fun e w' hh => ⟨hh.1.trans (ret_tup (by decide) rfl), hh.2⟩
theorem awake_c (w : World) : Calls Try.prog 27 #[.int .i64 31, .int .i64 12, .int .i64 0, .int .i64 72000] w fun e w' => e = .returned (.tuple #[.int .i64 43920, .int .i64 0]) ∧ Below w.heap.size w w' :=
  resolve_at (by decide) (by decide) (by decide) (by decide) near_awake w
theorem awake_d (w : World) : Calls Try.prog 22 #[.int .i64 43920] w fun e w' => e = .returned (.tuple #[.string ⟨#[50, 48, 48, 48, 45, 48, 49, 45, 51, 49, 32, 49, 50, 58, 48, 48]⟩, .int .i64 0]) ∧ Below w.heap.size w w' :=
  format_at (y := 2000) (m := 1) (d := 31) (h := 12) (i := 0) (by decide) (by decide) w

set_option maxHeartbeats 2000000 in
theorem awake_any (w : World) : Calls Try.prog 21 #[] w fun e w' => e = .returned (.bool true) ∧ Below w.heap.size w w' := by
  go_enter Try.func21, Try.ntmps21
  go_wp2_with fail
  refine (awake_a _).mono ?_
  rintro e w1 ⟨rfl, hb1⟩
  go_wp2_with fail
  refine (awake_b _).mono ?_
  rintro e w2 ⟨rfl, hb2⟩
  go_wp2_with fail
  refine (awake_c _).mono ?_
  rintro e w3 ⟨rfl, hb3⟩
  go_wp2_with fail
  refine (awake_d _).mono ?_
  rintro e w4 ⟨rfl, hb4⟩
  go_wp2_with fail
  go_ret
  exact ⟨rfl, ((hb1.trans (hb2.mono hb1.size)).trans (hb3.mono (Nat.le_trans hb1.size hb2.size))).trans (hb4.mono (Nat.le_trans (Nat.le_trans hb1.size hb2.size) hb3.size))⟩
end Go.Proofs.Ytnfdpjckdiifkaa
