/-
  element.Format.
-/
import Derived.Test.YtpjnlbippcgnoaaDoorRfmt
import Derived.Test.YtpjnlbippcgnoaaDoorRowB
import Derived.Test.YtpjnlbippcgnoaaDoorShelf
import Derived.Deep.DeepCutAuto
namespace Go.Proofs.YtpjnlbippcgnoaaDoor
open Go.RowKit Txt

/-- zeros -/
def zeros : Nat → List UInt8
  | 0 => []
  | k + 1 => 48 :: zeros k
theorem zeros_rep (k : Nat) : Lib.repeatL [48] k = zeros k := by
  induction k with
  | zero => rfl
  | succ k ih => simp [Lib.repeatL, zeros, ih]
theorem zeros_length (k : Nat) : (zeros k).length = k := by
  induction k with
  | zero => rfl
  | succ k ih => simp [zeros, ih]
theorem zeros_snoc (k : Nat) : zeros (k + 1) = zeros k ++ [48] := by
  induction k with
  | zero => rfl
  | succ k ih =>
    show 48 :: zeros (k + 1) = (48 :: zeros k) ++ [48]
    rw [ih]
    rfl
theorem digs_zero (k : Nat) : digs 0 k = zeros k := by
  induction k with
  | zero => rfl
  | succ k ih =>
    rw [zeros_snoc]
    simp only [digs]
    rw [show (0 : Int) / 10 = 0 from rfl, ih]
    rfl
theorem set_mid (l t : List UInt8) (a x : UInt8) : (l ++ a :: t).set l.length x = l ++ x :: t := by
  induction l with
  | nil => rfl
  | cons b l ih => simp [ih]
theorem zeros_put (m : Nat) (t : List UInt8) (x : UInt8) : (zeros (m + 1) ++ t).set m x = zeros m ++ x :: t := by
  have h := set_mid (zeros m) t 48 x
  rw [zeros_length] at h
  rw [zeros_snoc, List.append_assoc]
  exact h
theorem zeros_any (k : Int) (w : World) (h0 : 0 ≤ k) (h1 : k ≤ 5) : Calls Tryd.prog 36 #[.string ⟨#[48]⟩, .int .i64 k] w fun r w' => r = .returned (.string (S (zeros k.toNat))) ∧ Below w.heap.size w w' := by
  obtain ⟨j, rfl⟩ := Int.eq_ofNat_of_zero_le h0
  refine (Tryd.strings_Repeat ⟨#[48]⟩ j w (by omega) (by show 1 * j ≤ _; omega)).mono ?_
  rintro r w' ⟨rfl, hb⟩
  refine ⟨?_, hb⟩
  rw [show (Lib.repeatL (ByteArray.data ⟨#[48]⟩).toList j) = zeros j from zeros_rep j]
  rfl

set_option maxHeartbeats 2000000 in
theorem format_no (e v : Int) (hne : chk e v ≠ 0) (w : World) (hB : Bnd w) : Calls Tryd.prog 12 #[rdV e v] w fun r w' => r = .returned (.tuple #[.string (S []), .int .i64 (chk e v)]) ∧ Below w.heap.size w w' := by
  have hb0 := (Below.refl w.heap.size w).alloc (Nat.le_refl _) (.cells #[.int .i64 e, .int .i64 v] 23)
  have HX := Lib.hid hb0
  have HN := Lib.hid (hB.below hb0 hB.lt)
  clear hb0
  have h1 : (chk e v != 0) = true := by simpa using hne
  clear hne
  go_enter Tryd.func12, Tryd.ntmps12
  go_wp2_with fail
  refine (check_any e v _ HN.out).mono ?_
  rintro r w1 ⟨rfl, hb1⟩
  have HX1 := Lib.hid (HX.out.trans (hb1.mono HX.out.size))
  clear hb1
  go_wp2_with fail
  go_ret2
  exact ⟨rfl, HX1.out⟩

set_option maxRecDepth 20000 in
set_option maxHeartbeats 4000000 in
theorem format_ok (c : Nat) (hc : c < 11) (v : Int) (h1 : lo c ≤ v) (h2 : v ≤ hi c) (w : World) (hB : Bnd w) : Calls Tryd.prog 12 #[rdV ((c : Int) + 1) v] w fun r w' => r = .returned (.tuple #[.string (S (ftxt c v)), .int .i64 0]) ∧ Below w.heap.size w w' := by
  obtain ⟨l1, l2, l3, l4⟩ := lo_hi c hc
  have hb0 := (Below.refl w.heap.size w).alloc (Nat.le_refl _) (.cells #[.int .i64 ((c : Int) + 1), .int .i64 v] 23)
  have hB0 : Blk (w.alloc (.cells #[.int .i64 ((c : Int) + 1), .int .i64 v] 23)) w.heap.size #[.int .i64 ((c : Int) + 1), .int .i64 v] := Blk.new _ _ _
  have HX := Lib.hid hb0
  have HN := Lib.hid (hB.below hb0 hB.lt)
  have HB0 := Lib.hid hB0
  have h0 := hB.lt
  have hck : chk ((c : Int) + 1) v = 0 := by rw [chk_at hc, if_neg (by omega)]
  have HC := Lib.hid hck
  clear hb0 hB0 hB hck
  go_enter Tryd.func12, Tryd.ntmps12
  go_wp2_with fail
  refine (check_any _ v _ HN.out).mono ?_
  rw [HC.out]
  rintro r w1 ⟨rfl, hb1⟩
  have HX1 := Lib.hid (HX.out.trans (hb1.mono HX.out.size))
  have hB1 := HB0.out.below hb1 HB0.out.lt
  have HN1 := Lib.hid (HN.out.below hb1 (by simp))
  have hs1 := HX1.out.size
  have hv0 := hB1.cell 0
  have hv1 := hB1.cell 1
  have hl1 := hB1.lt
  simp at hv0 hv1
  have HB1 := Lib.hid hB1
  clear hb1 hB1 HX HB0 HN
  go_wp2_with fail
  refine (describe_ok c hc _ HN1.out).mono ?_
  rintro r w2 ⟨rfl, hb2⟩
  have HX2 := Lib.hid ((HX1.out.trans (hb2.mono hs1)).alloc (Nat.le_trans hs1 hb2.size) (.cells #[.string ⟨#[ltr c]⟩, .int .i64 (lo c), .int .i64 (hi c), .int .i64 (dig c)] 39))
  have hB2 := (HB1.out.below hb2 hl1).alloc (.cells #[.string ⟨#[ltr c]⟩, .int .i64 (lo c), .int .i64 (hi c), .int .i64 (dig c)] 39)
  have hC2 := Blk.new w2 39 #[.string ⟨#[ltr c]⟩, .int .i64 (lo c), .int .i64 (hi c), .int .i64 (dig c)]
  clear hv0 hv1 hl1 hb2 HX1 HB1 hs1 HN1
  have hu3 := hC2.cell 3
  simp at hu3
  have HB2 := Lib.hid hB2
  have HC2 := Lib.hid hC2
  clear hB2 hC2
  go_wp2_with fail
  have hd5 : 4 ≤ dig c ∧ dig c ≤ 5 := by rcases dig_cases c with q | q <;> omega
  obtain ⟨d4, d5⟩ := hd5
  refine (zeros_any (dig c) _ (by omega) d5).mono ?_
  rintro r w3 ⟨rfl, hb3⟩
  have HX3 := Lib.hid (HX2.out.trans (hb3.mono HX2.out.size))
  have HB3 := Lib.hid (HB2.out.below hb3 HB2.out.lt)
  have HC3 := Lib.hid (HC2.out.below hb3 HC2.out.lt)
  clear hb3 HX2 HB2 HC2 hu3
  obtain ⟨K, hK⟩ : ∃ K : Nat, K = (dig c).toNat := ⟨_, rfl⟩
  have hK4 : 4 ≤ K := by omega
  have hK5 : K ≤ 5 := by omega
  rw [← hK]
  have hsz : (S (zeros K)).size = K := by show (zeros K).toArray.size = K; rw [List.size_toArray, zeros_length]
  have kb := Lib.run_convert_string_bytes (P := Tryd.prog) w3 9 35 5 (S (zeros K)) Tryd.underlying9 Tryd.underlying35 Tryd.underlying5
  rw [hsz] at kb
  clear hsz
  have HK := Lib.hid hK
  clear hK
  go_wp2_with fail
  clear kb
  have hR := rowB_bytes w3 (zeros K)
  have hX4 := below_bytes HX3.out HX3.out.size (zeros K)
  have hbw : Below w3.heap.size w3 (Lib.bytesWorld w3 5 (S (zeros K))) := below_bytes (Below.refl _ _) (Nat.le_refl _) (zeros K)
  have hB4 := HB3.out.below hbw HB3.out.lt
  have hC4 := HC3.out.below hbw HC3.out.lt
  have hg1 := HB3.out.lt
  have hg2 := HC3.out.lt
  have hg3 := HX3.out.size
  refine forget (fun w' => RowB w' w3.heap.size (zeros K) ∧ Blk w' w.heap.size #[.int .i64 ((c : Int) + 1), .int .i64 v] ∧ Blk w' w2.heap.size #[.string ⟨#[ltr c]⟩, .int .i64 (lo c), .int .i64 (hi c), .int .i64 (dig c)] ∧ Below w.heap.size w w') ⟨hR, hB4, hC4, hX4⟩ ?_
  clear hR hX4 hbw hB4 hC4 HX3 HB3 HC3
  rintro W ⟨hR, hB, hC, hX⟩
  have hv1 := hB.cell 1
  have hl1 := hB.lt
  simp at hv1
  have HR := Lib.hid hR
  have HB := Lib.hid hB
  have HC := Lib.hid hC
  have HX := Lib.hid hX
  clear hR hB hC hX
  go_cut [8, 9] (fun s8 s9 wx => s8 = .int .i64 ((K : Int) - 1) ∧ s9 = .int .i64 (if v < 0 then -v else v) ∧ RowB wx w3.heap.size (zeros K) ∧ Blk wx w.heap.size #[.int .i64 ((c : Int) + 1), .int .i64 v] ∧ Blk wx w2.heap.size #[.string ⟨#[ltr c]⟩, .int .i64 (lo c), .int .i64 (hi c), .int .i64 (dig c)] ∧ Below w.heap.size w wx)
  case first =>
    go_region
    all_goals
      go_wp2_with fail
      go_meet
      have e : max v (-v) = if v < 0 then -v else v := by split <;> omega
      exact ⟨rfl, by rw [e], ⟨HR.out.lt, HR.out.cell, HR.out.frozen⟩, HB.out, HC.out, HX.out.drew⟩
  case rest =>
  obtain ⟨rfl, rfl, hR, hB, hC, hX⟩ := hcut
  clear HR HB HC HX hv1 hl1
  have hn5 : (if v < 0 then -v else v) < 100000 := by split <;> omega
  have hn0 : 0 ≤ (if v < 0 then -v else v) ∧ (if v < 0 then -v else v) < 10 ^ K := by
    have hp : (10000 : Int) ≤ 10 ^ K ∧ (K = 5 → (10 : Int) ^ K = 100000) := by
      rcases (by omega : K = 4 ∨ K = 5) with rfl | rfl
      · exact ⟨by decide, by omega⟩
      · exact ⟨by decide, fun _ => by decide⟩
    have hk := HK.out
    have hz : c = 0 → K = 5 := fun q => by rw [hk, q]; rfl
    by_cases q : c = 0
    · have := hp.2 (hz q)
      split <;> omega
    · have := l4 q
      split <;> omega
  obtain ⟨n0, hN⟩ : ∃ n0 : Int, n0 = if v < 0 then -v else v := ⟨_, rfl⟩
  rw [← hN] at hn0 hn5 ⊢
  obtain ⟨n00, n01⟩ := hn0
  have HN := Lib.hid hN
  have HR := Lib.hid hR
  have HB := Lib.hid hB
  have HC := Lib.hid hC
  have HX := Lib.hid hX
  have HQ := Lib.hid n01
  clear hN hR hB hC hX n01 l4
  go_wp2_with fail
  go_loopw [8, 9] (fun i n wr => ∃ (m : Nat) (q : Int) (t : List UInt8), m ≤ K ∧ i = .int .i64 ((m : Int) - 1) ∧ 0 ≤ q ∧ q < 100000 ∧ q < 10 ^ m ∧ n = .int .i64 q ∧ t.length = K - m ∧ digs n0 K = digs q m ++ t ∧ RowB wr w3.heap.size (zeros m ++ t) ∧ Blk wr w.heap.size #[.int .i64 ((c : Int) + 1), .int .i64 v] ∧ Blk wr w2.heap.size #[.string ⟨#[ltr c]⟩, .int .i64 (lo c), .int .i64 (hi c), .int .i64 (dig c)] ∧ Below w.heap.size w wr) (fun i _ _ => (intOf i + 1).toNat)
  case atStart => exact ⟨K, n0, [], Nat.le_refl _, rfl, n00, hn5, HQ.out, rfl, by simp, by simp, by rw [List.append_nil]; exact HR.out, HB.out, HC.out, HX.out⟩
  case round =>
    obtain ⟨m, q, t, hm, rfl, q0, q5, hq, rfl, ht, hd, hR, hB, hC, hX⟩ := hrel
    clear HR HB HC HX
    rcases Int.lt_or_le 0 q with hq0 | hq0
    · rcases m with _ | m
      · exfalso
        have : (10 : Int) ^ 0 = 1 := rfl
        omega
      have e0 : (((m + 1 : Nat) : Int) - 1) = (m : Int) := by omega
      rw [e0]
      clear e0
      have hp : m < (zeros (m + 1) ++ t).length := by simp [zeros_length]; omega
      obtain ⟨y, hcell⟩ : ∃ y, wr.cell? ⟨w3.heap.size, m, none⟩ = some (B y) := ⟨_, hR.cell m _ (List.getElem?_eq_getElem hp)⟩
      have hfz := hR.frozen m hp
      have hput := hR.put m hp (dgt q)
      rw [zeros_put, show B (dgt q) = .int .u8 (48 + q % 10) from by show Value.int .u8 ((dgt q).toNat : Int) = _; rw [dgt_int]] at hput
      have hmK : (m : Int) < (K : Int) := by omega
      have HP := Lib.hid hput
      have HB := Lib.hid hB
      have HC := Lib.hid hC
      have HX := Lib.hid hX
      have HD := Lib.hid hd
      have HT := Lib.hid ht
      have HQ1 := Lib.hid hq
      clear hR hput hB hC hX hd ht hq hp
      go_wp2_with fail
      go_roundw
      case rel =>
        have hqq := HQ1.out
        rw [Int.pow_succ] at hqq
        refine ⟨m, q / 10, dgt q :: t, by omega, rfl, by omega, by omega, ?_, by go_num, ?_, ?_, HP.out, HB.out.away (by omega) _ _, HC.out.away (by omega) _ _, HX.out.setCell (by simp; omega) _⟩
        · generalize (10 : Int) ^ m = pw at *
          omega
        · have := HT.out
          simp; omega
        · rw [HD.out]
          simp [digs]
      case measure => simp [intOf]
    · obtain rfl : q = 0 := by omega
      have hd2 : zeros m ++ t = digs n0 K := by rw [hd, digs_zero]
      rw [hd2] at hR
      have kc := conv_bytes wr w3.heap.size 0 (grownCap w3 K 0 5) (digs n0 K) (fun j c hc => by rw [Nat.zero_add]; exact hR.cell j c hc)
      rw [digs_length] at kc
      have hlen := digs_length
      have hv1 := hB.cell 1
      have hu0 := hC.cell 0
      simp at hv1 hu0
      have HX := Lib.hid hX
      have hnn := HN.out
      have hkk := HK.out
      clear hR hB hC hX hd hd2 ht hq
      by_cases hneg : v < 0
      · have HE := Lib.hid (ftxt_neg (c := c) hneg)
        rw [if_pos hneg] at hnn
        have HNN := Lib.hid hnn
        have HKK := Lib.hid hkk
        clear hnn hkk
        go_wp2_with fail
        go_ret2
        exact ⟨ret_st (by rw [HE.out, ← HNN.out, ← HKK.out]) rfl, HX.out⟩
      · have HE := Lib.hid (ftxt_pos (c := c) hneg)
        rw [if_neg hneg] at hnn
        have HNN := Lib.hid hnn
        have HKK := Lib.hid hkk
        clear hnn hkk
        go_wp2_with fail
        go_ret2
        exact ⟨ret_st (by rw [HE.out, ← HNN.out, ← HKK.out]; congr 1) rfl, HX.out⟩
end Go.Proofs.YtpjnlbippcgnoaaDoor
