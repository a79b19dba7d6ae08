/-
  Contracts of the functions of the layer and of its reference (several texts laid one behind the other).
-/
import Derived.Test.YtpjnlbippcgnoaaDoorCoreA
import Derived.Test.YtpjnlbippcgnoaaDoorShelf
import Derived.Deep.DeepCutAuto
import Derived.Lib.Strings
import Derived.Laws.StructEq
import Derived.Deep.RegionHeld3
/-
  element.Format.
-/
namespace Go.Proofs.YtpjnlbippcgnoaaDoor
open Go.RowKit Txt

/-- zeros -/
def zeros : Nat → List UInt8
  | 0 => []
  | k + 1 => 48 :: zeros k
theorem zeros_rep (k : Nat) : Lib.repeatL [48] k = zeros k := by
  induction k with
  | zero => rfl
  | succ k ih => simp [Lib.repeatL, zeros, ih]
theorem zeros_length (k : Nat) : (zeros k).length = k := by
  induction k with
  | zero => rfl
  | succ k ih => simp [zeros, ih]
theorem zeros_snoc (k : Nat) : zeros (k + 1) = zeros k ++ [48] := by
  induction k with
  | zero => rfl
  | succ k ih =>
    show 48 :: zeros (k + 1) = (48 :: zeros k) ++ [48]
    rw [ih]
    rfl
theorem digs_zero (k : Nat) : digs 0 k = zeros k := by
  induction k with
  | zero => rfl
  | succ k ih =>
    rw [zeros_snoc]
    simp only [digs]
    rw [show (0 : Int) / 10 = 0 from rfl, ih]
    rfl
theorem set_mid (l t : List UInt8) (a x : UInt8) : (l ++ a :: t).set l.length x = l ++ x :: t := by
  induction l with
  | nil => rfl
  | cons b l ih => simp [ih]
theorem zeros_put (m : Nat) (t : List UInt8) (x : UInt8) : (zeros (m + 1) ++ t).set m x = zeros m ++ x :: t := by
  have h := set_mid (zeros m) t 48 x
  rw [zeros_length] at h
  rw [zeros_snoc, List.append_assoc]
  exact h
theorem zeros_any (k : Int) (w : World) (h0 : 0 ≤ k) (h1 : k ≤ 5) : Calls Tryd.prog 36 #[.string ⟨#[48]⟩, .int .i64 k] w fun r w' => r = .returned (.string (S (zeros k.toNat))) ∧ Below w.heap.size w w' := by
  obtain ⟨j, rfl⟩ := Int.eq_ofNat_of_zero_le h0
  refine (Tryd.strings_Repeat ⟨#[48]⟩ j w (by omega) (by show 1 * j ≤ _; omega)).mono ?_
  rintro r w' ⟨rfl, hb⟩
  refine ⟨?_, hb⟩
  rw [show (Lib.repeatL (ByteArray.data ⟨#[48]⟩).toList j) = zeros j from zeros_rep j]
  rfl

set_option maxHeartbeats 2000000 in
theorem format_no (e v : Int) (hne : chk e v ≠ 0) (w : World) (hB : Bnd w) : Calls Tryd.prog 12 #[rdV e v] w fun r w' => r = .returned (.tuple #[.string (S []), .int .i64 (chk e v)]) ∧ Below w.heap.size w w' := by
  have hb0 := (Below.refl w.heap.size w).alloc (Nat.le_refl _) (.cells #[.int .i64 e, .int .i64 v] 23)
  have HX := Lib.hid hb0
  have HN := Lib.hid (hB.below hb0 hB.lt)
  clear hb0
  have h1 : (chk e v != 0) = true := by simpa using hne
  clear hne
  go_enter Tryd.func12, Tryd.ntmps12
  go_wp2_with fail
  refine (check_any e v _ HN.out).mono ?_
  rintro r w1 ⟨rfl, hb1⟩
  have HX1 := Lib.hid (HX.out.trans (hb1.mono HX.out.size))
  clear hb1
  go_wp2_with fail
  go_ret2
  exact ⟨rfl, HX1.out⟩

set_option maxRecDepth 20000 in
set_option maxHeartbeats 4000000 in
theorem format_ok (c : Nat) (hc : c < 11) (v : Int) (h1 : lo c ≤ v) (h2 : v ≤ hi c) (w : World) (hB : Bnd w) : Calls Tryd.prog 12 #[rdV ((c : Int) + 1) v] w fun r w' => r = .returned (.tuple #[.string (S (ftxt c v)), .int .i64 0]) ∧ Below w.heap.size w w' := by
  obtain ⟨l1, l2, l3, l4⟩ := lo_hi c hc
  have hb0 := (Below.refl w.heap.size w).alloc (Nat.le_refl _) (.cells #[.int .i64 ((c : Int) + 1), .int .i64 v] 23)
  have hB0 : Blk (w.alloc (.cells #[.int .i64 ((c : Int) + 1), .int .i64 v] 23)) w.heap.size #[.int .i64 ((c : Int) + 1), .int .i64 v] := Blk.new _ _ _
  have HX := Lib.hid hb0
  have HN := Lib.hid (hB.below hb0 hB.lt)
  have HB0 := Lib.hid hB0
  have h0 := hB.lt
  have hck : chk ((c : Int) + 1) v = 0 := by rw [chk_at hc, if_neg (by omega)]
  have HC := Lib.hid hck
  clear hb0 hB0 hB hck
  go_enter Tryd.func12, Tryd.ntmps12
  go_wp2_with fail
  refine (check_any _ v _ HN.out).mono ?_
  rw [HC.out]
  rintro r w1 ⟨rfl, hb1⟩
  have HX1 := Lib.hid (HX.out.trans (hb1.mono HX.out.size))
  have hB1 := HB0.out.below hb1 HB0.out.lt
  have HN1 := Lib.hid (HN.out.below hb1 (by simp))
  have hs1 := HX1.out.size
  have hv0 := hB1.cell 0
  have hv1 := hB1.cell 1
  have hl1 := hB1.lt
  simp at hv0 hv1
  have HB1 := Lib.hid hB1
  clear hb1 hB1 HX HB0 HN
  go_wp2_with fail
  refine (describe_ok c hc _ HN1.out).mono ?_
  rintro r w2 ⟨rfl, hb2⟩
  have HX2 := Lib.hid ((HX1.out.trans (hb2.mono hs1)).alloc (Nat.le_trans hs1 hb2.size) (.cells #[.string ⟨#[ltr c]⟩, .int .i64 (lo c), .int .i64 (hi c), .int .i64 (dig c)] 39))
  have hB2 := (HB1.out.below hb2 hl1).alloc (.cells #[.string ⟨#[ltr c]⟩, .int .i64 (lo c), .int .i64 (hi c), .int .i64 (dig c)] 39)
  have hC2 := Blk.new w2 39 #[.string ⟨#[ltr c]⟩, .int .i64 (lo c), .int .i64 (hi c), .int .i64 (dig c)]
  clear hv0 hv1 hl1 hb2 HX1 HB1 hs1 HN1
  have hu3 := hC2.cell 3
  simp at hu3
  have HB2 := Lib.hid hB2
  have HC2 := Lib.hid hC2
  clear hB2 hC2
  go_wp2_with fail
  have hd5 : 4 ≤ dig c ∧ dig c ≤ 5 := by rcases dig_cases c with q | q <;> omega
  obtain ⟨d4, d5⟩ := hd5
  refine (zeros_any (dig c) _ (by omega) d5).mono ?_
  rintro r w3 ⟨rfl, hb3⟩
  have HX3 := Lib.hid (HX2.out.trans (hb3.mono HX2.out.size))
  have HB3 := Lib.hid (HB2.out.below hb3 HB2.out.lt)
  have HC3 := Lib.hid (HC2.out.below hb3 HC2.out.lt)
  clear hb3 HX2 HB2 HC2 hu3
  obtain ⟨K, hK⟩ : ∃ K : Nat, K = (dig c).toNat := ⟨_, rfl⟩
  have hK4 : 4 ≤ K := by omega
  have hK5 : K ≤ 5 := by omega
  rw [← hK]
  have hsz : (S (zeros K)).size = K := by show (zeros K).toArray.size = K; rw [List.size_toArray, zeros_length]
  have kb := Lib.run_convert_string_bytes (P := Tryd.prog) w3 9 35 5 (S (zeros K)) Tryd.underlying9 Tryd.underlying35 Tryd.underlying5
  rw [hsz] at kb
  clear hsz
  have HK := Lib.hid hK
  clear hK
  go_wp2_with fail
  clear kb
  have hR := rowB_bytes w3 (zeros K)
  have hX4 := below_bytes HX3.out HX3.out.size (zeros K)
  have hbw : Below w3.heap.size w3 (Lib.bytesWorld w3 5 (S (zeros K))) := below_bytes (Below.refl _ _) (Nat.le_refl _) (zeros K)
  have hB4 := HB3.out.below hbw HB3.out.lt
  have hC4 := HC3.out.below hbw HC3.out.lt
  have hg1 := HB3.out.lt
  have hg2 := HC3.out.lt
  have hg3 := HX3.out.size
  refine forget (fun w' => RowB w' w3.heap.size (zeros K) ∧ Blk w' w.heap.size #[.int .i64 ((c : Int) + 1), .int .i64 v] ∧ Blk w' w2.heap.size #[.string ⟨#[ltr c]⟩, .int .i64 (lo c), .int .i64 (hi c), .int .i64 (dig c)] ∧ Below w.heap.size w w') ⟨hR, hB4, hC4, hX4⟩ ?_
  clear hR hX4 hbw hB4 hC4 HX3 HB3 HC3
  rintro W ⟨hR, hB, hC, hX⟩
  have hv1 := hB.cell 1
  have hl1 := hB.lt
  simp at hv1
  have HR := Lib.hid hR
  have HB := Lib.hid hB
  have HC := Lib.hid hC
  have HX := Lib.hid hX
  clear hR hB hC hX
  go_cut [8, 9] (fun s8 s9 wx => s8 = .int .i64 ((K : Int) - 1) ∧ s9 = .int .i64 (if v < 0 then -v else v) ∧ RowB wx w3.heap.size (zeros K) ∧ Blk wx w.heap.size #[.int .i64 ((c : Int) + 1), .int .i64 v] ∧ Blk wx w2.heap.size #[.string ⟨#[ltr c]⟩, .int .i64 (lo c), .int .i64 (hi c), .int .i64 (dig c)] ∧ Below w.heap.size w wx)
  case first =>
    go_region
    all_goals
      go_wp2_with fail
      go_meet
      have e : max v (-v) = if v < 0 then -v else v := by split <;> omega
      exact ⟨rfl, by rw [e], ⟨HR.out.lt, HR.out.cell, HR.out.frozen⟩, HB.out, HC.out, HX.out.drew⟩
  case rest =>
  obtain ⟨rfl, rfl, hR, hB, hC, hX⟩ := hcut
  clear HR HB HC HX hv1 hl1
  have hn5 : (if v < 0 then -v else v) < 100000 := by split <;> omega
  have hn0 : 0 ≤ (if v < 0 then -v else v) ∧ (if v < 0 then -v else v) < 10 ^ K := by
    have hp : (10000 : Int) ≤ 10 ^ K ∧ (K = 5 → (10 : Int) ^ K = 100000) := by
      rcases (by omega : K = 4 ∨ K = 5) with rfl | rfl
      · exact ⟨by decide, by omega⟩
      · exact ⟨by decide, fun _ => by decide⟩
    have hk := HK.out
    have hz : c = 0 → K = 5 := fun q => by rw [hk, q]; rfl
    by_cases q : c = 0
    · have := hp.2 (hz q)
      split <;> omega
    · have := l4 q
      split <;> omega
  obtain ⟨n0, hN⟩ : ∃ n0 : Int, n0 = if v < 0 then -v else v := ⟨_, rfl⟩
  rw [← hN] at hn0 hn5 ⊢
  obtain ⟨n00, n01⟩ := hn0
  have HN := Lib.hid hN
  have HR := Lib.hid hR
  have HB := Lib.hid hB
  have HC := Lib.hid hC
  have HX := Lib.hid hX
  have HQ := Lib.hid n01
  clear hN hR hB hC hX n01 l4
  go_wp2_with fail
  go_loopw [8, 9] (fun i n wr => ∃ (m : Nat) (q : Int) (t : List UInt8), m ≤ K ∧ i = .int .i64 ((m : Int) - 1) ∧ 0 ≤ q ∧ q < 100000 ∧ q < 10 ^ m ∧ n = .int .i64 q ∧ t.length = K - m ∧ digs n0 K = digs q m ++ t ∧ RowB wr w3.heap.size (zeros m ++ t) ∧ Blk wr w.heap.size #[.int .i64 ((c : Int) + 1), .int .i64 v] ∧ Blk wr w2.heap.size #[.string ⟨#[ltr c]⟩, .int .i64 (lo c), .int .i64 (hi c), .int .i64 (dig c)] ∧ Below w.heap.size w wr) (fun i _ _ => (intOf i + 1).toNat)
  case atStart => exact ⟨K, n0, [], Nat.le_refl _, rfl, n00, hn5, HQ.out, rfl, by simp, by simp, by rw [List.append_nil]; exact HR.out, HB.out, HC.out, HX.out⟩
  case round =>
    obtain ⟨m, q, t, hm, rfl, q0, q5, hq, rfl, ht, hd, hR, hB, hC, hX⟩ := hrel
    clear HR HB HC HX
    rcases Int.lt_or_le 0 q with hq0 | hq0
    · rcases m with _ | m
      · exfalso
        have : (10 : Int) ^ 0 = 1 := rfl
        omega
      have e0 : (((m + 1 : Nat) : Int) - 1) = (m : Int) := by omega
      rw [e0]
      clear e0
      have hp : m < (zeros (m + 1) ++ t).length := by simp [zeros_length]; omega
      obtain ⟨y, hcell⟩ : ∃ y, wr.cell? ⟨w3.heap.size, m, none⟩ = some (B y) := ⟨_, hR.cell m _ (List.getElem?_eq_getElem hp)⟩
      have hfz := hR.frozen m hp
      have hput := hR.put m hp (dgt q)
      rw [zeros_put, show B (dgt q) = .int .u8 (48 + q % 10) from by show Value.int .u8 ((dgt q).toNat : Int) = _; rw [dgt_int]] at hput
      have hmK : (m : Int) < (K : Int) := by omega
      have HP := Lib.hid hput
      have HB := Lib.hid hB
      have HC := Lib.hid hC
      have HX := Lib.hid hX
      have HD := Lib.hid hd
      have HT := Lib.hid ht
      have HQ1 := Lib.hid hq
      clear hR hput hB hC hX hd ht hq hp
      go_wp2_with fail
      go_roundw
      case rel =>
        have hqq := HQ1.out
        rw [Int.pow_succ] at hqq
        refine ⟨m, q / 10, dgt q :: t, by omega, rfl, by omega, by omega, ?_, by go_num, ?_, ?_, HP.out, HB.out.away (by omega) _ _, HC.out.away (by omega) _ _, HX.out.setCell (by simp; omega) _⟩
        · generalize (10 : Int) ^ m = pw at *
          omega
        · have := HT.out
          simp; omega
        · rw [HD.out]
          simp [digs]
      case measure => simp [intOf]
    · obtain rfl : q = 0 := by omega
      have hd2 : zeros m ++ t = digs n0 K := by rw [hd, digs_zero]
      rw [hd2] at hR
      have kc := conv_bytes wr w3.heap.size 0 (grownCap w3 K 0 5) (digs n0 K) (fun j c hc => by rw [Nat.zero_add]; exact hR.cell j c hc)
      rw [digs_length] at kc
      have hlen := digs_length
      have hv1 := hB.cell 1
      have hu0 := hC.cell 0
      simp at hv1 hu0
      have HX := Lib.hid hX
      have hnn := HN.out
      have hkk := HK.out
      clear hR hB hC hX hd hd2 ht hq
      by_cases hneg : v < 0
      · have HE := Lib.hid (ftxt_neg (c := c) hneg)
        rw [if_pos hneg] at hnn
        have HNN := Lib.hid hnn
        have HKK := Lib.hid hkk
        clear hnn hkk
        go_wp2_with fail
        go_ret2
        exact ⟨ret_st (by rw [HE.out, ← HNN.out, ← HKK.out]) rfl, HX.out⟩
      · have HE := Lib.hid (ftxt_pos (c := c) hneg)
        rw [if_neg hneg] at hnn
        have HNN := Lib.hid hnn
        have HKK := Lib.hid hkk
        clear hnn hkk
        go_wp2_with fail
        go_ret2
        exact ⟨ret_st (by rw [HE.out, ← HNN.out, ← HKK.out]; congr 1) rfl, HX.out⟩
end Go.Proofs.YtpjnlbippcgnoaaDoor
/-
  ByLetter at a string of one byte, and its reference at any string.
-/
namespace Go.Proofs.YtpjnlbippcgnoaaDoor
open Go.RowKit Txt

theorem ltr_index (c : Nat) (hc : c < 11) : Lib.indexByte [80, 84, 68, 69, 78, 65, 66, 70, 71, 74, 75] (ltr c) = c := by
  have : c = 0 ∨ c = 1 ∨ c = 2 ∨ c = 3 ∨ c = 4 ∨ c = 5 ∨ c = 6 ∨ c = 7 ∨ c = 8 ∨ c = 9 ∨ c = 10 := by omega
  rcases this with rfl | rfl | rfl | rfl | rfl | rfl | rfl | rfl | rfl | rfl | rfl <;> decide
theorem ltr_none (b : UInt8) (hb : ∀ c, c < 11 → b ≠ ltr c) : Lib.indexByte [80, 84, 68, 69, 78, 65, 66, 70, 71, 74, 75] b = -1 := by
  have g : ∀ c, c < 11 → (ltr c == b) = false := fun c hc => by rw [beq_eq_false_iff_ne]; exact fun e => hb c hc e.symm
  have g0 : ((80 : UInt8) == b) = false := g 0 (by omega)
  have g1 : ((84 : UInt8) == b) = false := g 1 (by omega)
  have g2 : ((68 : UInt8) == b) = false := g 2 (by omega)
  have g3 : ((69 : UInt8) == b) = false := g 3 (by omega)
  have g4 : ((78 : UInt8) == b) = false := g 4 (by omega)
  have g5 : ((65 : UInt8) == b) = false := g 5 (by omega)
  have g6 : ((66 : UInt8) == b) = false := g 6 (by omega)
  have g7 : ((70 : UInt8) == b) = false := g 7 (by omega)
  have g8 : ((71 : UInt8) == b) = false := g 8 (by omega)
  have g9 : ((74 : UInt8) == b) = false := g 9 (by omega)
  have g10 : ((75 : UInt8) == b) = false := g 10 (by omega)
  simp [Lib.indexByte, g0, g1, g2, g3, g4, g5, g6, g7, g8, g9, g10]
theorem ltr_inj {c d : Nat} (hc : c < 11) (hd : d < 11) (e : ltr c = ltr d) : c = d := by
  have h1 := ltr_index c hc
  rw [e, ltr_index d hd] at h1
  omega

set_option maxHeartbeats 1000000 in
theorem byletter_at (c : Nat) (hc : c < 11) (w : World) : Calls Tryd.prog 18 #[.string ⟨#[ltr c]⟩] w fun r w' => r = .returned (.tuple #[.int .i64 ((c : Int) + 1), .int .i64 0]) ∧ w = w' := by
  have hi := ltr_index c hc
  have HI := Lib.hid hi
  clear hi
  go_enter Tryd.func18, Tryd.ntmps18
  go_wp2_with fail
  refine (Tryd.strings_Index_one _ _ _).mono ?_
  rintro r w1 ⟨rfl, rfl⟩
  rw [show Lib.indexByte (ByteArray.data ⟨#[80, 84, 68, 69, 78, 65, 66, 70, 71, 74, 75]⟩).toList (ltr c) = (c : Int) from HI.out]
  go_wp2_with fail
  go_ret2
  exact ⟨rfl, rfl⟩
set_option maxHeartbeats 1000000 in
theorem byletter_bad (b : UInt8) (hb : ∀ c, c < 11 → b ≠ ltr c) (w : World) : Calls Tryd.prog 18 #[.string ⟨#[b]⟩] w fun r w' => r = .returned (.tuple #[.int .i64 0, .int .i64 9]) ∧ w = w' := by
  have HI := Lib.hid (ltr_none b hb)
  clear hb
  go_enter Tryd.func18, Tryd.ntmps18
  go_wp2_with fail
  refine (Tryd.strings_Index_one _ _ _).mono ?_
  rintro r w1 ⟨rfl, rfl⟩
  rw [show Lib.indexByte (ByteArray.data ⟨#[80, 84, 68, 69, 78, 65, 66, 70, 71, 74, 75]⟩).toList b = -1 from HI.out]
  go_wp2_with fail
  go_ret2
  exact ⟨rfl, rfl⟩
end Go.Proofs.YtpjnlbippcgnoaaDoor
/-
  What a text of a reading is made of: plain mathematics.
-/
namespace Go.Proofs.YtpjnlbippcgnoaaDoor
open Go.RowKit Txt

def cutN (l : List UInt8) : Bool := Lib.hasPrefix l [45]
def cutD (l : List UInt8) : List UInt8 := Lib.trimPrefix l [45]
theorem cut_nil : cutN [] = false ∧ cutD [] = [] := ⟨rfl, rfl⟩
theorem cut_neg (l : List UInt8) : cutN (45 :: l) = true ∧ cutD (45 :: l) = l := by
  simp [cutN, cutD, Lib.trimPrefix, Lib.hasPrefix]
theorem cut_pos (b : UInt8) (l : List UInt8) (h : b ≠ 45) : cutN (b :: l) = false ∧ cutD (b :: l) = b :: l := by
  have : ((45 : UInt8) == b) = false := by rw [beq_eq_false_iff_ne]; exact fun e => h e.symm
  have e : Lib.hasPrefix (b :: l) [45] = false := by
    show ((45 : UInt8) == b && _) = false
    rw [this]; rfl
  exact ⟨e, by unfold cutD Lib.trimPrefix; rw [e]; rfl⟩

theorem num_digs {k : Nat} : ∀ {n : Int}, 0 ≤ n → n < 10 ^ k → num (digs n k) = n := by
  induction k with
  | zero => intro n h0 h1; simp at h1; simp [digs, num]; omega
  | succ k ih =>
    intro n h0 h1
    rw [Int.pow_succ] at h1
    generalize hp : (10 : Int) ^ k = p at *
    simp only [digs]
    rw [num_snoc, ih (by omega) (by omega), dgt_int]
    omega

/-- the absolute value -/
def av (v : Int) : Int := if v < 0 then -v else v
theorem ftxt_eq (c : Nat) (v : Int) : ftxt c v = ltr c :: (sgn v ++ digs (av v) (dig c).toNat) := rfl
theorem av_bd {c : Nat} (hc : c < 11) {v : Int} (h1 : lo c ≤ v) (h2 : v ≤ hi c) : 0 ≤ av v ∧ av v < 10 ^ (dig c).toNat ∧ av v < 100000 := by
  obtain ⟨l1, l2, l3, l4⟩ := lo_hi c hc
  unfold av
  by_cases q : c = 0
  · have e : (10 : Int) ^ (dig c).toNat = 100000 := by rw [q]; rfl
    rw [e]; split <;> omega
  · have e : (10 : Int) ^ (dig c).toNat = 10000 := by rw [show dig c = 4 from if_neg q]; rfl
    have := l4 q
    rw [e]; split <;> omega
theorem ftxt_cut (c : Nat) (v : Int) :
    cutN (sgn v ++ digs (av v) (dig c).toNat) = decide (v < 0) ∧ cutD (sgn v ++ digs (av v) (dig c).toNat) = digs (av v) (dig c).toNat := by
  by_cases hv : v < 0
  · have e : sgn v = [45] := if_pos hv
    rw [e]
    have := cut_neg (digs (av v) (dig c).toNat)
    simp only [hv, decide_true]
    exact this
  · have e : sgn v = [] := if_neg hv
    rw [e, List.nil_append]
    have hl : (digs (av v) (dig c).toNat).length = (dig c).toNat := digs_length _ _
    have hi' := digs_isd (av v) (dig c).toNat
    have hK : 4 ≤ (dig c).toNat := by rcases dig_cases c with q | q <;> omega
    rcases hd : digs (av v) (dig c).toNat with _ | ⟨b, l⟩
    · rw [hd] at hl; simp at hl; omega
    · rw [hd] at hi'
      have hb := isd_bd (hi' b (List.mem_cons_self ..))
      have := cut_pos b l (fun e => by rw [e] at hb; simp at hb)
      simp only [hv, decide_false]
      exact this
/-- the value that digits and a sign give -/
def sval (neg : Bool) (n : Int) : Int := if neg = true then -n else n
theorem ftxt_val {c : Nat} (hc : c < 11) {v : Int} (h1 : lo c ≤ v) (h2 : v ≤ hi c) : sval (decide (v < 0)) (num (digs (av v) (dig c).toNat)) = v := by
  obtain ⟨a0, a1, _⟩ := av_bd hc h1 h2
  rw [num_digs a0 a1]
  unfold sval av
  by_cases hv : v < 0 <;> simp [hv]
theorem ftxt_inj {c d : Nat} {v u : Int} (hc : c < 11) (hd : d < 11) (h1 : lo c ≤ v) (h2 : v ≤ hi c) (g1 : lo d ≤ u) (g2 : u ≤ hi d) (e : ftxt c v = ftxt d u) : c = d ∧ v = u := by
  rw [ftxt_eq, ftxt_eq] at e
  injection e with e1 e2
  have hcd := ltr_inj hc hd e1
  subst hcd
  have k1 := ftxt_cut c v
  have k2 := ftxt_cut c u
  rw [e2] at k1
  have n1 := k1.1.symm.trans k2.1
  have n2 := k1.2.symm.trans k2.2
  have w1 := ftxt_val hc h1 h2
  have w2 := ftxt_val hc g1 g2
  rw [n1, n2] at w1
  exact ⟨rfl, w1.symm.trans w2⟩
end Go.Proofs.YtpjnlbippcgnoaaDoor
/-
  element.Parse.
-/
namespace Go.Proofs.YtpjnlbippcgnoaaDoor
open Go.RowKit Txt

/-- no reading has this text -/
def NoTxt (L : List UInt8) : Prop := ∀ (c : Nat) (v : Int), c < 11 → lo c ≤ v → v ≤ hi c → L ≠ ftxt c v
def ParIs (L : List UInt8) (w : World) (r : Ending) (w' : World) : Prop :=
  ((∃ (c : Nat) (v : Int), c < 11 ∧ lo c ≤ v ∧ v ≤ hi c ∧ L = ftxt c v ∧ r = .returned (.tuple #[rdV ((c : Int) + 1) v, .int .i64 0])) ∨
    (NoTxt L ∧ r = .returned (.tuple #[rdV 0 0, .int .i64 3]))) ∧ Below w.heap.size w w'

theorem txt_val {b : UInt8} {l : List UInt8} {c : Nat} {v : Int} (hc : c < 11) (h1 : lo c ≤ v) (h2 : v ≤ hi c) (e : b :: l = ftxt c v) :
    b = ltr c ∧ sval (cutN l) (num (cutD l)) = v ∧ (cutD l).length ≤ 5 ∧ ∀ x ∈ cutD l, isd x = true := by
  rw [ftxt_eq] at e
  injection e with e1 e2
  have k := ftxt_cut c v
  rw [← e2] at k
  refine ⟨e1, ?_, ?_, ?_⟩
  · rw [k.1, k.2]; exact ftxt_val hc h1 h2
  · rw [k.2, digs_length]; rcases dig_cases c with q | q <;> omega
  · rw [k.2]; exact digs_isd _ _
theorem byte_at (s : ByteArray) (k : Nat) (h : k < s.size) : s.data.toList[k]? = some s[k] := List.getElem?_eq_getElem (l := s.data.toList) (i := k) (by simpa using h)
theorem str_first (b : UInt8) (l : List UInt8) : (S (b :: l)).extract 0 1 = ⟨#[b]⟩ := by
  show ByteArray.extract ⟨(b :: l).toArray⟩ 0 1 = _
  simp [ByteArray.extract_mk]
theorem str_rest (b : UInt8) (l : List UInt8) : (S (b :: l)).extract 1 (l.length + 1) = S l := by
  show ByteArray.extract ⟨(b :: l).toArray⟩ 1 (l.length + 1) = _
  simp [ByteArray.extract_mk]

theorem read_end {L : List UInt8} {e v k : Int} {w W : World} (a : Act) (h2 : a.tmps.getD 2 undef = .pointer (some ⟨w.heap.size, 0, none⟩)) (h3 : a.tmps.getD 3 undef = .int .i64 k) (hd : a.defers = [])
    (hB : Blk W w.heap.size #[.int .i64 e, .int .i64 v]) (hb : Below w.heap.size w W)
    (hp : (∃ (c : Nat) (u : Int), c < 11 ∧ lo c ≤ u ∧ u ≤ hi c ∧ L = ftxt c u ∧ e = (c : Int) + 1 ∧ v = u ∧ k = 0) ∨ (NoTxt L ∧ e = 0 ∧ v = 0 ∧ k = 3)) :
    bodyPost Tryd.prog Tryd.f14 (ParIs L w) .ret a W := by
  have r0 := hB.cell 0
  have r1 := hB.cell 1
  simp at r0 r1
  refine bodyPost_ret (v := .tuple #[rdV e v, .int .i64 k]) ?_ hd ⟨?_, hb⟩
  · rw [results_cell_tmp Tryd.results14, h2, h3]
    simp [go_sem, r0, r1]
  · rcases hp with ⟨c, u, q1, q2, q3, q4, rfl, rfl, rfl⟩ | ⟨q, rfl, rfl, rfl⟩
    · exact .inl ⟨c, _, q1, q2, q3, q4, rfl⟩
    · exact .inr ⟨q, rfl⟩

theorem format_any (c : Nat) (hc : c < 11) (v : Int) (w : World) (hB : Bnd w) : Calls Tryd.prog 12 #[rdV ((c : Int) + 1) v] w fun r w' =>
    (((lo c ≤ v ∧ v ≤ hi c) ∧ r = .returned (.tuple #[.string (S (ftxt c v)), .int .i64 0])) ∨ (¬ (lo c ≤ v ∧ v ≤ hi c) ∧ r = .returned (.tuple #[.string (S []), .int .i64 1]))) ∧ Below w.heap.size w w' := by
  by_cases h : lo c ≤ v ∧ v ≤ hi c
  · exact (format_ok c hc v h.1 h.2 w hB).mono fun r w' q => ⟨.inl ⟨h, q.1⟩, q.2⟩
  · have e : chk ((c : Int) + 1) v = 1 := by rw [chk_at hc, if_pos (by omega)]
    exact (format_no _ v (by rw [e]; decide) w hB).mono fun r w' q => ⟨.inr ⟨h, by rw [← e]; exact q.1⟩, q.2⟩

set_option maxRecDepth 20000 in
set_option maxHeartbeats 4000000 in
theorem parse_any (L : List UInt8) (hL : L.length ≤ 1000) (w : World) (hB : Bnd w) : Calls Tryd.prog 14 #[.string (S L)] w (ParIs L w) := by
  rcases L with _ | ⟨b, l⟩
  · go_enter Tryd.func14, Tryd.ntmps14
    go_wp2
    refine read_end _ rfl rfl rfl (Blk.new w 23 _) ((Below.refl _ _).alloc (Nat.le_refl _) _) (.inr ⟨?_, rfl, rfl, rfl⟩)
    intro c v _ _ _ h
    cases h
  have hB0 : Blk (w.alloc (.cells #[.int .i64 0, .int .i64 0] 23)) w.heap.size #[.int .i64 0, .int .i64 0] := Blk.new _ _ _
  have hX0 := (Below.refl w.heap.size w).alloc (Nat.le_refl _) (.cells #[.int .i64 0, .int .i64 0] 23)
  have HN := Lib.hid (hB.below hX0 hB.lt)
  have HB := Lib.hid hB0
  have HX := Lib.hid hX0
  have hlen : (S (b :: l)).size = l.length + 1 := rfl
  have hl : l.length ≤ 999 := by simpa using hL
  have h0 := hB.lt
  clear hB0 hX0 hL
  have HBN := Lib.hid hB
  clear hB
  go_enter Tryd.func14, Tryd.ntmps14
  go_wp2_with fail
  rw [str_first]
  by_cases hlt : ∃ c, c < 11 ∧ b = ltr c
  · obtain ⟨c, hc, rfl⟩ := hlt
    refine (byletter_at c hc _).mono ?_
    rintro r w1 ⟨rfl, rfl⟩
    go_wp2_with fail
    rw [str_rest]
    refine (Tryd.strings_CutPrefix _ _ _).mono ?_
    rintro r w1 ⟨rfl, rfl⟩
    rw [show Lib.trimPrefix (S l).data.toList (ByteArray.data ⟨#[45]⟩).toList = cutD l from rfl, show Lib.hasPrefix (S l).data.toList (ByteArray.data ⟨#[45]⟩).toList = cutN l from rfl]
    obtain ⟨s, hs⟩ : ∃ s : ByteArray, s = S (cutD l) := ⟨_, rfl⟩
    obtain ⟨N, hN⟩ : ∃ N : Bool, N = cutN l := ⟨_, rfl⟩
    have hsd : s.data.toList = cutD l := by rw [hs]
    have hsz : s.size = s.data.toList.length := rfl
    have htv : ∀ (c' : Nat) (v' : Int), c' < 11 → lo c' ≤ v' → v' ≤ hi c' → ltr c :: l = ftxt c' v' → c = c' ∧ sval N (num s.data.toList) = v' ∧ s.size ≤ 5 ∧ ∀ x ∈ s.data.toList, isd x = true := by
      intro c' v' q1 q2 q3 q4
      obtain ⟨t1, t2, t3, t4⟩ := txt_val q1 q2 q3 q4
      rw [hsz, hsd, hN]
      exact ⟨ltr_inj hc q1 t1, t2, t3, t4⟩
    have HTV := Lib.hid htv
    rw [show ({ data := (cutD l).toArray } : ByteArray) = s from hs.symm, ← hN]
    clear hs hN hsd htv hsz
    rcases Nat.lt_or_ge 5 s.size with h5 | h5
    · have h5' : (5 : Int) < (s.size : Int) := by omega
      go_wp2_with fail
      refine read_end _ rfl rfl rfl (Blk.new w 23 _) ((Below.refl _ _).alloc (Nat.le_refl _) _) (.inr ⟨?_, rfl, rfl, rfl⟩)
      intro c' v' q1 q2 q3 q4
      have := (HTV.out c' v' q1 q2 q3 q4).2.2.1
      omega
    have h5' : ¬ (5 : Int) < (s.size : Int) := by omega
    go_wp2_with fail
    have hz : (w.alloc (.cells #[.int .i64 0, .int .i64 0] 23)).heap.size = w.heap.size + 1 := by simp
    have HB1 := Lib.hid (HB.out.alloc (.cells #[.int .i64 ((c : Int) + 1), .int .i64 0] 23))
    have HC1 := Lib.hid (Blk.new' (w.alloc (.cells #[.int .i64 0, .int .i64 0] 23)) 23 #[.int .i64 ((c : Int) + 1), .int .i64 0] (g := w.heap.size + 1) hz)
    have HX1 := Lib.hid (HX.out.alloc HX.out.size (.cells #[.int .i64 ((c : Int) + 1), .int .i64 0] 23))
    clear hz h5'
    go_loopw [39] (fun i wr => ∃ j : Nat, j ≤ s.size ∧ i = .int .i64 j ∧ (∀ x ∈ s.data.toList.take j, isd x = true) ∧ Blk wr w.heap.size #[.int .i64 0, .int .i64 0] ∧ Blk wr (w.heap.size + 1) #[.int .i64 ((c : Int) + 1), .int .i64 (num (s.data.toList.take j))] ∧ Below w.heap.size w wr) (fun i _ => (s.size - intOf i).toNat)
    case atStart => exact ⟨0, by omega, rfl, by simp, HB1.out, HC1.out, HX1.out⟩
    case round =>
      obtain ⟨j, hj, rfl, hall, hB, hC, hX⟩ := hrel
      clear HB1 HC1 HX1
      have HALL := Lib.hid hall
      have HB := Lib.hid hB
      have HC := Lib.hid hC
      have HX := Lib.hid hX
      clear hall hB hC hX
      rcases Nat.lt_or_ge j s.size with hlt | hge
      · have hjs : (j : Int) < (s.size : Int) := by omega
        by_cases hd : isd s[j] = true
        · obtain ⟨c1, c2⟩ := isd_bd hd
          have hd1 : decide ((48 : Int) ≤ (s[j].toNat : Int)) = true := by simp; omega
          have hd2 : decide ((s[j].toNat : Int) ≤ 57) = true := by simp; omega
          have hnb := num_bd _ HALL.out
          have hle : bd (s.data.toList.take j).length ≤ bd 5 := bd_mono (by rw [List.length_take]; omega)
          have hb5 : bd 5 = 99999 := by decide
          obtain ⟨a0, a1⟩ := hnb
          have hv1 := HC.out.cell 1
          have hf1 := HC.out.frozen 1
          have hlc := HC.out.lt
          simp at hv1
          obtain ⟨a, ha⟩ : ∃ a : Int, a = num (s.data.toList.take j) := ⟨_, rfl⟩
          rw [← ha] at hv1 a0 a1 HC
          have a5 : a ≤ 99999 := by omega
          have hE : num (s.data.toList.take (j + 1)) = 10 * a + ((s[j].toNat : Int) - 48) := by
            rw [take_snoc _ _ (show j < s.data.toList.length from hlt), num_snoc, ← ha]
            rfl
          have hA : ∀ x ∈ s.data.toList.take (j + 1), isd x = true := by
            intro x hx
            rw [take_snoc _ _ (show j < s.data.toList.length from hlt), List.mem_append, List.mem_singleton] at hx
            rcases hx with hx | rfl
            · exact HALL.out x hx
            · exact hd
          have HE := Lib.hid hE
          have HA := Lib.hid hA
          clear hE hA hle hb5 a1 ha hd
          go_wp2_with fail
          go_region
          all_goals
            go_wp2_with fail
            go_roundw
            case rel =>
              refine ⟨j + 1, by omega, by go_num, HA.out, ?_, ?_, ?_⟩
              · exact (HB.out.away (by omega) _ _).drew
              · rw [HE.out]
                exact (Blk.put' HC.out rfl).drew
              · exact (HX.out.setCell (by simp) _).drew
            case measure => simp [intOf]; omega
        · have hd' : isd s[j] = false := by simpa using hd
          have hcb : s[j].toNat < 48 ∨ (48 ≤ s[j].toNat ∧ 57 < s[j].toNat) := by
            have : ¬ (48 ≤ s[j].toNat ∧ s[j].toNat ≤ 57) := by simpa [isd] using hd
            omega
          have hno : NoTxt (ltr c :: l) := by
            intro c' v' q1 q2 q3 q4
            have := (HTV.out c' v' q1 q2 q3 q4).2.2.2 s[j] (List.mem_of_getElem? (byte_at s j hlt))
            rw [this] at hd'
            cases hd'
          have HNO := Lib.hid hno
          clear hno hd hd'
          have hu0 := HB.out.cell 0
          have hu1 := HB.out.cell 1
          have hg0 := HB.out.frozen 0
          have hg1 := HB.out.frozen 1
          have hlb := HB.out.lt
          simp at hu0 hu1
          rcases hcb with hcb | ⟨hcb, hcb2⟩
          · have hd1 : (s[j].toNat : Int) < 48 := by omega
            clear hcb
            go_wp2_with fail
            have hB := HB.out
            have hX := HX.out
            refine read_end _ rfl rfl rfl (by (repeat' (first | with_reducible assumption | with_reducible exact Blk.new _ _ _ | ((with_reducible refine Blk.new' _ _ _ ?_); (simp; done)) | with_reducible refine Blk.alloc ?_ _ | with_reducible refine Blk.drewN ?_ _ | with_reducible refine Blk.drew ?_ | with_reducible apply Blk.put' | ((with_reducible refine Blk.away ?_ ?_ _ _); rotate_left; omega) | rfl | omega))) (by (repeat' (first | with_reducible assumption | with_reducible exact Below.refl _ _ | with_reducible refine Below.alloc ?_ ?_ _ | with_reducible refine Below.setCell ?_ ?_ _ | with_reducible refine Below.drew ?_ | with_reducible refine below_drewN ?_ _ | omega | (simp; done) | (simp; omega)))) (.inr ⟨HNO.out, rfl, rfl, rfl⟩)
          · have hd1 : (48 : Int) ≤ (s[j].toNat : Int) := by omega
            have hd2 : (57 : Int) < (s[j].toNat : Int) := by omega
            clear hcb hcb2
            go_wp2_with fail
            have hB := HB.out
            have hX := HX.out
            refine read_end _ rfl rfl rfl (by (repeat' (first | with_reducible assumption | with_reducible exact Blk.new _ _ _ | ((with_reducible refine Blk.new' _ _ _ ?_); (simp; done)) | with_reducible refine Blk.alloc ?_ _ | with_reducible refine Blk.drewN ?_ _ | with_reducible refine Blk.drew ?_ | with_reducible apply Blk.put' | ((with_reducible refine Blk.away ?_ ?_ _ _); rotate_left; omega) | rfl | omega))) (by (repeat' (first | with_reducible assumption | with_reducible exact Below.refl _ _ | with_reducible refine Below.alloc ?_ ?_ _ | with_reducible refine Below.setCell ?_ ?_ _ | with_reducible refine Below.drew ?_ | with_reducible refine below_drewN ?_ _ | omega | (simp; done) | (simp; omega)))) (.inr ⟨HNO.out, rfl, rfl, rfl⟩)
      · obtain rfl : j = s.size := by omega
        have hfull : s.data.toList.take s.size = s.data.toList := List.take_of_length_le (Nat.le_refl _)
        rw [hfull] at HC HALL
        have hnb := num_bd _ HALL.out
        have hle : bd s.data.toList.length ≤ bd 5 := bd_mono h5
        have hb5 : bd 5 = 99999 := by decide
        obtain ⟨a0, a1⟩ := hnb
        obtain ⟨n, hn⟩ : ∃ n : Int, n = num s.data.toList := ⟨_, rfl⟩
        rw [← hn] at a0 a1 HC
        have a5 : n ≤ 99999 := by omega
        clear hfull a1 hle hb5
        have hv0 := HC.out.cell 0
        have hv1 := HC.out.cell 1
        have hf1 := HC.out.frozen 1
        have hlc := HC.out.lt
        simp at hv0 hv1
        rcases N with _ | _
        · have hval : ∀ (c' : Nat) (v' : Int), c' < 11 → lo c' ≤ v' → v' ≤ hi c' → ltr c :: l = ftxt c' v' → c = c' ∧ n = v' := by
            intro c' v' q1 q2 q3 q4
            have q := HTV.out c' v' q1 q2 q3 q4
            rw [← hn] at q
            exact ⟨q.1, q.2.1⟩
          have HVAL := Lib.hid hval
          clear hval hn HTV HALL
          go_wp2_with fail
          have hB := HB.out
          have hC := HC.out
          have hX := HX.out
          have hB2 := hB
          have hC2 := hC
          have hX2 := hX
          refine (format_any c hc n _ (HBN.out.below hX2 h0)).mono ?_
          rintro r w3 ⟨hor, hb3⟩
          have hB3 := hB2.below hb3 hB2.lt
          have hC3 := hC2.below hb3 hC2.lt
          have HX3 := Lib.hid (hX2.trans (hb3.mono hX2.size))
          have hv0 := hC3.cell 0
          have hv1 := hC3.cell 1
          have hu0 := hB3.cell 0
          have hu1 := hB3.cell 1
          have hg0 := hB3.frozen 0
          have hg1 := hB3.frozen 1
          have hlb := hB3.lt
          have hlc := hC3.lt
          simp at hv0 hv1 hu0 hu1
          have HB3 := Lib.hid hB3
          clear hb3 hB hC hX hB2 hC2 hX2 hB3 hC3
          rcases hor with ⟨⟨r1, r2⟩, rfl⟩ | ⟨hr, rfl⟩
          · by_cases he : ltr c :: l = ftxt c n
            · have HE := Lib.hid he
              rw [he]
              clear he
              go_wp2_with fail
              have hB3 := HB3.out
              have hX3 := HX3.out
              exact read_end _ rfl rfl rfl (by (repeat' (first | with_reducible assumption | with_reducible exact Blk.new _ _ _ | ((with_reducible refine Blk.new' _ _ _ ?_); (simp; done)) | with_reducible refine Blk.alloc ?_ _ | with_reducible refine Blk.drewN ?_ _ | with_reducible refine Blk.drew ?_ | with_reducible apply Blk.put' | ((with_reducible refine Blk.away ?_ ?_ _ _); rotate_left; omega) | rfl | omega))) (by (repeat' (first | with_reducible assumption | with_reducible exact Below.refl _ _ | with_reducible refine Below.alloc ?_ ?_ _ | with_reducible refine Below.setCell ?_ ?_ _ | with_reducible refine Below.drew ?_ | with_reducible refine below_drewN ?_ _ | omega | (simp; done) | (simp; omega)))) (.inl ⟨c, n, hc, r1, r2, HE.out, rfl, rfl, rfl⟩)
            · have hno : NoTxt (ltr c :: l) := by
                intro c' v' q1 q2 q3 q4
                obtain ⟨rfl, rfl⟩ := HVAL.out c' v' q1 q2 q3 q4
                exact he q4
              have HNO := Lib.hid hno
              have t1 : (ftxt c n == ltr c :: l) = false := by rw [beq_eq_false_iff_ne]; exact fun e => he e.symm
              have t2 : (ftxt c n = ltr c :: l) = False := eq_false fun e => he e.symm
              clear hno he
              go_wp2_with fail
              have hB3 := HB3.out
              have hX3 := HX3.out
              exact read_end _ rfl rfl rfl (by (repeat' (first | with_reducible assumption | with_reducible exact Blk.new _ _ _ | ((with_reducible refine Blk.new' _ _ _ ?_); (simp; done)) | with_reducible refine Blk.alloc ?_ _ | with_reducible refine Blk.drewN ?_ _ | with_reducible refine Blk.drew ?_ | with_reducible apply Blk.put' | ((with_reducible refine Blk.away ?_ ?_ _ _); rotate_left; omega) | rfl | omega))) (by (repeat' (first | with_reducible assumption | with_reducible exact Below.refl _ _ | with_reducible refine Below.alloc ?_ ?_ _ | with_reducible refine Below.setCell ?_ ?_ _ | with_reducible refine Below.drew ?_ | with_reducible refine below_drewN ?_ _ | omega | (simp; done) | (simp; omega)))) (.inr ⟨HNO.out, rfl, rfl, rfl⟩)
          · have hno : NoTxt (ltr c :: l) := by
              intro c' v' q1 q2 q3 q4
              obtain ⟨rfl, rfl⟩ := HVAL.out c' v' q1 q2 q3 q4
              exact hr ⟨q2, q3⟩
            have HNO := Lib.hid hno
            clear hno hr
            go_wp2_with fail
            have hB3 := HB3.out
            have hX3 := HX3.out
            exact read_end _ rfl rfl rfl (by (repeat' (first | with_reducible assumption | with_reducible exact Blk.new _ _ _ | ((with_reducible refine Blk.new' _ _ _ ?_); (simp; done)) | with_reducible refine Blk.alloc ?_ _ | with_reducible refine Blk.drewN ?_ _ | with_reducible refine Blk.drew ?_ | with_reducible apply Blk.put' | ((with_reducible refine Blk.away ?_ ?_ _ _); rotate_left; omega) | rfl | omega))) (by (repeat' (first | with_reducible assumption | with_reducible exact Below.refl _ _ | with_reducible refine Below.alloc ?_ ?_ _ | with_reducible refine Below.setCell ?_ ?_ _ | with_reducible refine Below.drew ?_ | with_reducible refine below_drewN ?_ _ | omega | (simp; done) | (simp; omega)))) (.inr ⟨HNO.out, rfl, rfl, rfl⟩)
        · have hval : ∀ (c' : Nat) (v' : Int), c' < 11 → lo c' ≤ v' → v' ≤ hi c' → ltr c :: l = ftxt c' v' → c = c' ∧ (-n) = v' := by
            intro c' v' q1 q2 q3 q4
            have q := HTV.out c' v' q1 q2 q3 q4
            rw [← hn] at q
            exact ⟨q.1, q.2.1⟩
          have HVAL := Lib.hid hval
          clear hval hn HTV HALL
          go_wp2_with fail
          have hB := HB.out
          have hC := HC.out
          have hX := HX.out
          have hB2 : Blk (wr.setCell ⟨w.heap.size + 1, 1, none⟩ (.int .i64 (-n))) w.heap.size #[.int .i64 0, .int .i64 0] := hB.away (by omega) _ _
          have hC2 : Blk (wr.setCell ⟨w.heap.size + 1, 1, none⟩ (.int .i64 (-n))) (w.heap.size + 1) #[.int .i64 ((c : Int) + 1), .int .i64 (-n)] := Blk.put' hC rfl
          have hX2 := hX.setCell (p := ⟨w.heap.size + 1, 1, none⟩) (by simp) (.int .i64 (-n))
          refine (format_any c hc (-n) _ (HBN.out.below hX2 h0)).mono ?_
          rintro r w3 ⟨hor, hb3⟩
          have hB3 := hB2.below hb3 hB2.lt
          have hC3 := hC2.below hb3 hC2.lt
          have HX3 := Lib.hid (hX2.trans (hb3.mono hX2.size))
          have hv0 := hC3.cell 0
          have hv1 := hC3.cell 1
          have hu0 := hB3.cell 0
          have hu1 := hB3.cell 1
          have hg0 := hB3.frozen 0
          have hg1 := hB3.frozen 1
          have hlb := hB3.lt
          have hlc := hC3.lt
          simp at hv0 hv1 hu0 hu1
          have HB3 := Lib.hid hB3
          clear hb3 hB hC hX hB2 hC2 hX2 hB3 hC3
          rcases hor with ⟨⟨r1, r2⟩, rfl⟩ | ⟨hr, rfl⟩
          · by_cases he : ltr c :: l = ftxt c (-n)
            · have HE := Lib.hid he
              rw [he]
              clear he
              go_wp2_with fail
              have hB3 := HB3.out
              have hX3 := HX3.out
              exact read_end _ rfl rfl rfl (by (repeat' (first | with_reducible assumption | with_reducible exact Blk.new _ _ _ | ((with_reducible refine Blk.new' _ _ _ ?_); (simp; done)) | with_reducible refine Blk.alloc ?_ _ | with_reducible refine Blk.drewN ?_ _ | with_reducible refine Blk.drew ?_ | with_reducible apply Blk.put' | ((with_reducible refine Blk.away ?_ ?_ _ _); rotate_left; omega) | rfl | omega))) (by (repeat' (first | with_reducible assumption | with_reducible exact Below.refl _ _ | with_reducible refine Below.alloc ?_ ?_ _ | with_reducible refine Below.setCell ?_ ?_ _ | with_reducible refine Below.drew ?_ | with_reducible refine below_drewN ?_ _ | omega | (simp; done) | (simp; omega)))) (.inl ⟨c, (-n), hc, r1, r2, HE.out, rfl, rfl, rfl⟩)
            · have hno : NoTxt (ltr c :: l) := by
                intro c' v' q1 q2 q3 q4
                obtain ⟨rfl, rfl⟩ := HVAL.out c' v' q1 q2 q3 q4
                exact he q4
              have HNO := Lib.hid hno
              have t1 : (ftxt c (-n) == ltr c :: l) = false := by rw [beq_eq_false_iff_ne]; exact fun e => he e.symm
              have t2 : (ftxt c (-n) = ltr c :: l) = False := eq_false fun e => he e.symm
              clear hno he
              go_wp2_with fail
              have hB3 := HB3.out
              have hX3 := HX3.out
              exact read_end _ rfl rfl rfl (by (repeat' (first | with_reducible assumption | with_reducible exact Blk.new _ _ _ | ((with_reducible refine Blk.new' _ _ _ ?_); (simp; done)) | with_reducible refine Blk.alloc ?_ _ | with_reducible refine Blk.drewN ?_ _ | with_reducible refine Blk.drew ?_ | with_reducible apply Blk.put' | ((with_reducible refine Blk.away ?_ ?_ _ _); rotate_left; omega) | rfl | omega))) (by (repeat' (first | with_reducible assumption | with_reducible exact Below.refl _ _ | with_reducible refine Below.alloc ?_ ?_ _ | with_reducible refine Below.setCell ?_ ?_ _ | with_reducible refine Below.drew ?_ | with_reducible refine below_drewN ?_ _ | omega | (simp; done) | (simp; omega)))) (.inr ⟨HNO.out, rfl, rfl, rfl⟩)
          · have hno : NoTxt (ltr c :: l) := by
              intro c' v' q1 q2 q3 q4
              obtain ⟨rfl, rfl⟩ := HVAL.out c' v' q1 q2 q3 q4
              exact hr ⟨q2, q3⟩
            have HNO := Lib.hid hno
            clear hno hr
            go_wp2_with fail
            have hB3 := HB3.out
            have hX3 := HX3.out
            exact read_end _ rfl rfl rfl (by (repeat' (first | with_reducible assumption | with_reducible exact Blk.new _ _ _ | ((with_reducible refine Blk.new' _ _ _ ?_); (simp; done)) | with_reducible refine Blk.alloc ?_ _ | with_reducible refine Blk.drewN ?_ _ | with_reducible refine Blk.drew ?_ | with_reducible apply Blk.put' | ((with_reducible refine Blk.away ?_ ?_ _ _); rotate_left; omega) | rfl | omega))) (by (repeat' (first | with_reducible assumption | with_reducible exact Below.refl _ _ | with_reducible refine Below.alloc ?_ ?_ _ | with_reducible refine Below.setCell ?_ ?_ _ | with_reducible refine Below.drew ?_ | with_reducible refine below_drewN ?_ _ | omega | (simp; done) | (simp; omega)))) (.inr ⟨HNO.out, rfl, rfl, rfl⟩)
  · refine (byletter_bad b (fun c hc e => hlt ⟨c, hc, e⟩) _).mono ?_
    have HLT := Lib.hid hlt
    clear hlt
    rintro r w1 ⟨rfl, rfl⟩
    go_wp2_with fail
    rw [str_rest]
    refine (Tryd.strings_CutPrefix _ _ _).mono ?_
    rintro r w1 ⟨rfl, rfl⟩
    go_wp2_with fail
    refine read_end _ rfl rfl rfl (Blk.new w 23 _) ((Below.refl _ _).alloc (Nat.le_refl _) _) (.inr ⟨?_, rfl, rfl, rfl⟩)
    intro c v hc h1 h2 e
    exact HLT.out ⟨c, hc, (txt_val hc h1 h2 e).1⟩
end Go.Proofs.YtpjnlbippcgnoaaDoor
/-
  The sanity check of the statements.
-/
namespace Go.Proofs.YtpjnlbippcgnoaaDoor
open Go.RowKit Txt

theorem parse_at (c : Nat) (hc : c < 11) (v : Int) (h1 : lo c ≤ v) (h2 : v ≤ hi c) (w : World) (hB : Bnd w) :
    Calls Tryd.prog 14 #[.string (S (ftxt c v))] w fun r w' => r = .returned (.tuple #[rdV ((c : Int) + 1) v, .int .i64 0]) ∧ Below w.heap.size w w' := by
  have hl : (ftxt c v).length ≤ 1000 := by
    rw [ftxt_eq]
    have : (sgn v).length ≤ 1 := by unfold sgn; split <;> simp
    have := dig_cases c
    simp [digs_length]
    omega
  refine (parse_any _ hl w hB).mono ?_
  rintro r w' ⟨⟨d, u, q1, q2, q3, q4, rfl⟩ | ⟨q, _⟩, hb⟩
  · obtain ⟨rfl, rfl⟩ := ftxt_inj hc q1 h1 h2 q2 q3 q4
    exact ⟨rfl, hb⟩
  · exact absurd rfl (q c v hc h1 h2)

theorem awake_a (w : World) (hB : Bnd w) : Calls Tryd.prog 12 #[rdV 1 10132] w fun r w' => r = .returned (.tuple #[.string ⟨#[80, 49, 48, 49, 51, 50]⟩, .int .i64 0]) ∧ Below w.heap.size w w' :=
  format_ok 0 (by omega) 10132 (by decide) (by decide) w hB
theorem awake_b (w : World) (hB : Bnd w) : Calls Tryd.prog 12 #[rdV 4 (-57)] w fun r w' => r = .returned (.tuple #[.string ⟨#[69, 45, 48, 48, 53, 55]⟩, .int .i64 0]) ∧ Below w.heap.size w w' :=
  format_ok 3 (by omega) (-57) (by decide) (by decide) w hB
theorem awake_c (w : World) (hB : Bnd w) : Calls Tryd.prog 14 #[.string ⟨#[69, 45, 48, 48, 53, 55]⟩] w fun r w' => r = .returned (.tuple #[rdV 4 (-57), .int .i64 0]) ∧ Below w.heap.size w w' :=
  parse_at 3 (by omega) (-57) (by decide) (by decide) w hB

set_option maxHeartbeats 1000000 in
theorem awake_any (w : World) (hB : Bnd w) : Calls Tryd.prog 8 #[] w fun r w' => r = .returned (.bool true) ∧ Below w.heap.size w w' := by
  have h0 := hB.lt
  go_enter Tryd.func8, Tryd.ntmps8
  go_wp2_with fail
  refine (awake_a _ hB).mono ?_
  rintro r w1 ⟨rfl, hb1⟩
  have hB1 := hB.below hb1 h0
  have HX1 := Lib.hid hb1
  clear hb1
  go_wp2_with fail
  refine (awake_b _ hB1).mono ?_
  rintro r w2 ⟨rfl, hb2⟩
  have hB2 := hB1.below hb2 hB1.lt
  have HX2 := Lib.hid (HX1.out.trans (hb2.mono HX1.out.size))
  clear hb2 hB1
  go_wp2_with fail
  refine (awake_c _ hB2).mono ?_
  rintro r w3 ⟨rfl, hb3⟩
  have HX3 := Lib.hid (HX2.out.trans (hb3.mono HX2.out.size))
  clear hb3 hB2
  go_wp2_with fail
  go_ret
  exact ⟨rfl, HX3.out.alloc HX3.out.size _⟩
end Go.Proofs.YtpjnlbippcgnoaaDoor
/-
  Some returns a valid reading of an element.
-/
namespace Go.Proofs.YtpjnlbippcgnoaaDoor
open Go.RowKit Txt

theorem lo_mid (c : Nat) (hc : c < 11) : lo c + 40 ≤ (lo c + hi c) / 2 ∧ (lo c + hi c) / 2 + 40 ≤ hi c ∧ 0 ≤ lo c + hi c := by
  have : c = 0 ∨ c = 1 ∨ c = 2 ∨ c = 3 ∨ c = 4 ∨ c = 5 ∨ c = 6 ∨ c = 7 ∨ c = 8 ∨ c = 9 ∨ c = 10 := by omega
  rcases this with rfl | rfl | rfl | rfl | rfl | rfl | rfl | rfl | rfl | rfl | rfl <;> decide

/-- a valid reading of the element c is returned; only the block g has changed -/
def SomeIs (c : Nat) (w0 w : World) (g : Nat) (r : Ending) (w' : World) : Prop :=
  ∃ v : Int, lo c ≤ v ∧ v ≤ hi c ∧ r = .returned (rdV ((c : Int) + 1) v) ∧ SrcS w0 w' g ∧ w.grownBy w' (some g)
theorem Blk.grown {w w' : World} {b g : Nat} {cs : Array Value} (h : Blk w b cs) (hg : w.grownBy w' (some g)) (hne : b ≠ g) : Blk w' b cs := by
  have hlt := h.lt
  obtain ⟨t, h⟩ := h
  exact ⟨t, (hg.block b hlt (fun e => hne (by injection e))).trans h⟩
theorem grown_alloc {a b : World} {g : Nat} (h : a.grownBy b (some g)) (o : Obj) : a.grownBy (b.alloc o) (some g) :=
  ⟨h.os, h.tape, h.output, by simpa using Nat.le_succ_of_le h.size, fun k hk hn => (Below.heap_alloc b o k (Nat.lt_of_lt_of_le hk h.size)).trans (h.block k hk hn)⟩
theorem grown_own {a b : World} {g : Nat} (h : a.grownBy b (some g)) (p : Addr) (hp : a.heap.size ≤ p.block) (u : Value) : a.grownBy (b.setCell p u) (some g) :=
  ⟨h.os, h.tape, h.output, by simpa [World.setCell] using h.size, fun k hk hn => (Below.heap_setCell b p u k (by omega)).trans (h.block k hk hn)⟩
theorem grown_drew {a b : World} {g : Nat} (h : a.grownBy b (some g)) : a.grownBy b.drew (some g) := ⟨h.os, h.tape, h.output, h.size, h.block⟩
theorem grown_below {a b c : World} {g : Nat} (h : a.grownBy b (some g)) (k : Below b.heap.size b c) : a.grownBy c (some g) :=
  ⟨k.os.trans h.os, k.tape.trans h.tape, k.output.trans h.output, Nat.le_trans h.size k.size, fun i hi hn => (k.block i (Nat.lt_of_lt_of_le hi h.size)).trans (h.block i hi hn)⟩

theorem mid_wrap {a z : Int} (h0 : 0 ≤ a) (h1 : a ≤ 100000) (h2 : -40 ≤ z) (h3 : z ≤ 40) : IntKind.i64.wrap (IntKind.i64.wrap ((IntKind.i64.wrap a).tdiv 2) + z) = a / 2 + z := by
  have e : ∀ b : Int, -1000000 ≤ b → b ≤ 1000000 → IntKind.i64.wrap b = b := by
    intro b q1 q2
    simp [IntKind.wrap, IntKind.signed, IntKind.bits]
    omega
  rw [e a (by omega) (by omega), Int.tdiv_eq_ediv_of_nonneg h0, e (a / 2) (by omega) (by omega), e _ (by omega) (by omega)]
theorem SrcS.own {w0 w : World} {g : Nat} (h : SrcS w0 w g) (p : Addr) (hp : w0.heap.size ≤ p.block) (hne : g ≠ p.block) (u : Value) : SrcS w0 (w.setCell p u) g :=
  h.keep ((Below.refl _ _).setCell hp u) (Below.heap_setCell w p u g hne)
theorem some_end {c : Nat} {w0 w W : World} {g : Nat} {v : Int} (a : Act) (h4 : a.tmps.getD 4 undef = .pointer (some ⟨w.heap.size, 0, none⟩)) (hd : a.defers = [])
    (hB : Blk W w.heap.size #[.int .i64 ((c : Int) + 1), .int .i64 v]) (h1 : lo c ≤ v) (h2 : v ≤ hi c) (hS : SrcS w0 W g) (hG : w.grownBy W (some g)) :
    bodyPost Tryd.prog Tryd.f10 (SomeIs c w0 w g) .ret a W := by
  have r0 := hB.cell 0
  have r1 := hB.cell 1
  simp at r0 r1
  refine bodyPost_ret (v := rdV ((c : Int) + 1) v) ?_ hd ⟨v, h1, h2, rfl, hS, hG⟩
  have h4' : a.tmps[4]?.getD undef = .pointer (some ⟨w.heap.size, 0, none⟩) := by simpa using h4
  simp [results, Tryd.results10, go_sem, h4', r0, r1]

set_option maxRecDepth 20000 in
set_option maxHeartbeats 4000000 in
theorem some_any (c : Nat) (hc : c < 11) (w0 w : World) (g : Nat) (hS : SrcS w0 w g) : Calls Tryd.prog 10 #[.pointer (some ⟨g, 0, none⟩), .int .i64 ((c : Int) + 1)] w (SomeIs c w0 w g) := by
  obtain ⟨l1, l2, l3, l4⟩ := lo_hi c hc
  obtain ⟨m1, m2, m3⟩ := lo_mid c hc
  have hgl := hS.lt
  have hw0 := hS.1.size
  have HS := Lib.hid (hS.below ((Below.refl _ w).alloc (Nat.le_refl _) (.cells #[.int .i64 0, .int .i64 0] 23)))
  have HG := Lib.hid (grown_alloc (grown_refl w g) (.cells #[.int .i64 0, .int .i64 0] 23))
  have HB := Lib.hid (Blk.new w 23 #[.int .i64 0, .int .i64 0])
  clear hS l4
  go_enter Tryd.func10, Tryd.ntmps10
  go_wp2_with fail
  refine (rdescribe_ok c hc _).mono ?_
  rintro r w1 ⟨rfl, hb1⟩
  have HS1 := Lib.hid ((HS.out.below hb1).below ((Below.refl _ w1).alloc (Nat.le_refl _) (.cells #[.string ⟨#[ltr c]⟩, .int .i64 (lo c), .int .i64 (hi c), .int .i64 (dig c)] 39)))
  have HG1 := Lib.hid (grown_alloc (grown_below HG.out hb1) (.cells #[.string ⟨#[ltr c]⟩, .int .i64 (lo c), .int .i64 (hi c), .int .i64 (dig c)] 39))
  have HB1 := Lib.hid ((HB.out.below hb1 HB.out.lt).alloc (.cells #[.string ⟨#[ltr c]⟩, .int .i64 (lo c), .int .i64 (hi c), .int .i64 (dig c)] 39))
  have HC1 := Lib.hid (Blk.new w1 39 #[.string ⟨#[ltr c]⟩, .int .i64 (lo c), .int .i64 (hi c), .int .i64 (dig c)])
  have hs1 : w.heap.size < w1.heap.size := Nat.lt_of_lt_of_le (by simp) hb1.size
  clear hb1 HS HG HB
  go_wp2_with fail
  refine (range_any w0 _ g _ _ HS1.out (by omega) (by omega) (by omega)).mono ?_
  rintro r w2 ⟨v, ⟨v0, v1⟩, rfl, hs2, hg2⟩
  have HS2 := Lib.hid (hs2.below ((Below.refl _ w2).alloc (Nat.le_refl _) (.cells #[.int .i64 ((c : Int) + 1), .int .i64 v] 23)))
  have HG2 := Lib.hid (grown_alloc (grown_trans HG1.out hg2) (.cells #[.int .i64 ((c : Int) + 1), .int .i64 v] 23))
  have HB2 := Lib.hid ((HB1.out.grown hg2 (by omega)).alloc (.cells #[.int .i64 ((c : Int) + 1), .int .i64 v] 23))
  have HC2 := Lib.hid ((HC1.out.grown hg2 (by omega)).alloc (.cells #[.int .i64 ((c : Int) + 1), .int .i64 v] 23))
  have HD2 := Lib.hid (Blk.new w2 23 #[.int .i64 ((c : Int) + 1), .int .i64 v])
  have hs2 : w1.heap.size < w2.heap.size := Nat.lt_of_lt_of_le (by simp) hg2.size
  clear hg2 HS1 HG1 HB1 HC1
  go_wp2_with fail
  refine (n_any w0 _ g _ HS2.out (by omega) (by omega)).mono ?_
  rintro r w3 ⟨k, ⟨k0, k1⟩, rfl, hs3, hg3⟩
  have HS3 := Lib.hid hs3
  have HG3 := Lib.hid (grown_trans HG2.out hg3)
  have HB3 := Lib.hid (HB2.out.grown hg3 (by omega))
  have HC3 := Lib.hid (HC2.out.grown hg3 (by omega))
  have HD3 := Lib.hid (HD2.out.grown hg3 (by omega))
  clear hs3 hg3 HS2 HG2 HB2 HC2 HD2
  have hu0 := HB3.out.cell 0
  have hu1 := HB3.out.cell 1
  have hb0 := HB3.out.frozen 0
  have hb1 := HB3.out.frozen 1
  have hlb := HB3.out.lt
  have hc1 := HC3.out.cell 1
  have hc2 := HC3.out.cell 2
  have hlc := HC3.out.lt
  have hd0 := HD3.out.cell 0
  have hd1 := HD3.out.cell 1
  have hdf := HD3.out.frozen 1
  have hld := HD3.out.lt
  simp at hu0 hu1 hc1 hc2 hd0 hd1
  rcases (by omega : k = 0 ∨ (k = 1 ∨ k = 2) ∨ 3 ≤ k) with rfl | hk | hk
  · go_wp2_with fail
    have hs4 := HS3.out.lt
    refine (pick_any w0 _ g _ 2 _ (fun z => lo c ≤ z ∧ z ≤ hi c) (HS3.out.below ((Below.refl _ _).alloc (Nat.le_refl _) _)) (Blk.new _ _ _) (by omega) (by omega) (by omega) ?_).mono ?_
    · intro j hj
      rcases j with _ | _ | j
      · exact ⟨_, rfl, by omega, by omega⟩
      · exact ⟨_, rfl, by omega, by omega⟩
      · omega
    rintro r w4 ⟨z, ⟨z0, z1⟩, rfl, hsx, hgx⟩
    have HSX := Lib.hid (hsx.own ⟨w2.heap.size, 1, none⟩ (by simp; omega) (by simp; omega) (.int .i64 z))
    have HGX := Lib.hid (grown_own (grown_trans (grown_alloc HG3.out (.cells #[.int .i64 (lo c), .int .i64 (hi c)] 3)) hgx) ⟨w2.heap.size, 1, none⟩ (by simp; omega) (.int .i64 z))
    have hB4 := (HB3.out.alloc (.cells #[.int .i64 (lo c), .int .i64 (hi c)] 3)).grown hgx (by omega)
    have hD4 := (HD3.out.alloc (.cells #[.int .i64 (lo c), .int .i64 (hi c)] 3)).grown hgx (by omega)
    clear hu0 hu1 hb0 hb1 hc1 hc2 hd0 hd1 hdf hsx hgx
    have hu0 := hB4.cell 0
    have hu1 := hB4.cell 1
    have hb0 := hB4.frozen 0
    have hb1 := hB4.frozen 1
    have hd0 := hD4.cell 0
    have hd1 := hD4.cell 1
    have hdf := hD4.frozen 1
    simp at hu0 hu1 hd0 hd1
    have HB4 := Lib.hid hB4
    clear hB4 hD4
    go_wp2_with fail
    have hB := HB4.out
    refine some_end (v := z) _ rfl rfl (Blk.put' (Blk.put' (hB.away (by omega) _ _) rfl) rfl) (by omega) (by omega) ?_ ?_
    · exact (HSX.out.own ⟨w.heap.size, 0, none⟩ hw0 (by simp; omega) _).own ⟨w.heap.size, 1, none⟩ hw0 (by simp; omega) _
    · exact grown_own (grown_own HGX.out ⟨w.heap.size, 0, none⟩ (Nat.le_refl _) _) ⟨w.heap.size, 1, none⟩ (Nat.le_refl _) _
  · have hk0 : (k == 0) = false := by rw [beq_eq_false_iff_ne]; omega
    rcases hk with rfl | rfl
    · have hne1 : ¬ w2.heap.size = w1.heap.size := by omega
      go_wp2_with fail
      go_region_held3 (fun w' => w'.cell? ⟨w1.heap.size, 1, none⟩ = some (.int .i64 (lo c)) ∧ w'.cell? ⟨w1.heap.size, 2, none⟩ = some (.int .i64 (hi c))) (go_keep) ((first | (go_at_call 11; refine (range_any w0 _ g _ _ (HS3.out.below ((Below.refl _ w3).drew)) (by omega) (by omega) (by omega)).mono ?_; rintro r wq ⟨z, ⟨z0, z1⟩, rfl, hsq, hgq⟩; have hc1q := ((HC3.out.drew).grown hgq (by omega)).cell 1; have hc2q := ((HC3.out.drew).grown hgq (by omega)).cell 2; simp at hc1q hc2q; have hd0q := ((HD3.out.drew).grown hgq (by omega)).cell 0; have hd1q := ((HD3.out.drew).grown hgq (by omega)).cell 1; have hdfq := ((HD3.out.drew).grown hgq (by omega)).frozen 1; simp at hd0q hd1q)))
      all_goals
        have hE : IntKind.i64.wrap (IntKind.i64.wrap ((IntKind.i64.wrap (lo c + hi c)).tdiv 2) + z) = (lo c + hi c) / 2 + z := mid_wrap m3 (by omega) z0 z1
        rw [hE]
        have HSX := Lib.hid (hsq.own ⟨w2.heap.size, 1, none⟩ (by simp; omega) (by simp; omega) (.int .i64 ((lo c + hi c) / 2 + z)))
        have HGX := Lib.hid (grown_own (grown_trans (grown_drew HG3.out) hgq) ⟨w2.heap.size, 1, none⟩ (by simp; omega) (.int .i64 ((lo c + hi c) / 2 + z)))
        have hB4 := (HB3.out.drew).grown hgq (by omega)
        have hD4 := (HD3.out.drew).grown hgq (by omega)
        clear hu0 hu1 hb0 hb1 hc1 hc2 hd0 hd1 hdf hsq hgq hE
        have hu0 := hB4.cell 0
        have hu1 := hB4.cell 1
        have hb0 := hB4.frozen 0
        have hb1 := hB4.frozen 1
        have hd0 := hD4.cell 0
        have hd1 := hD4.cell 1
        have hdf := hD4.frozen 1
        simp at hu0 hu1 hd0 hd1
        have HB4 := Lib.hid hB4
        clear hB4 hD4
        go_wp2_with fail
        have hB := HB4.out
        refine some_end (v := (lo c + hi c) / 2 + z) _ rfl rfl (Blk.put' (Blk.put' (hB.away (by omega) _ _) rfl) rfl) (by omega) (by omega) ?_ ?_
        · exact (HSX.out.own ⟨w.heap.size, 0, none⟩ hw0 (by simp; omega) _).own ⟨w.heap.size, 1, none⟩ hw0 (by simp; omega) _
        · exact grown_own (grown_own HGX.out ⟨w.heap.size, 0, none⟩ (Nat.le_refl _) _) ⟨w.heap.size, 1, none⟩ (Nat.le_refl _) _
    · have hne1 : ¬ w2.heap.size = w1.heap.size := by omega
      go_wp2_with fail
      go_region_held3 (fun w' => w'.cell? ⟨w1.heap.size, 1, none⟩ = some (.int .i64 (lo c)) ∧ w'.cell? ⟨w1.heap.size, 2, none⟩ = some (.int .i64 (hi c))) (go_keep) ((first | (go_at_call 11; refine (range_any w0 _ g _ _ (HS3.out.below ((Below.refl _ w3).drew)) (by omega) (by omega) (by omega)).mono ?_; rintro r wq ⟨z, ⟨z0, z1⟩, rfl, hsq, hgq⟩; have hc1q := ((HC3.out.drew).grown hgq (by omega)).cell 1; have hc2q := ((HC3.out.drew).grown hgq (by omega)).cell 2; simp at hc1q hc2q; have hd0q := ((HD3.out.drew).grown hgq (by omega)).cell 0; have hd1q := ((HD3.out.drew).grown hgq (by omega)).cell 1; have hdfq := ((HD3.out.drew).grown hgq (by omega)).frozen 1; simp at hd0q hd1q)))
      all_goals
        have hE : IntKind.i64.wrap (IntKind.i64.wrap ((IntKind.i64.wrap (lo c + hi c)).tdiv 2) + z) = (lo c + hi c) / 2 + z := mid_wrap m3 (by omega) z0 z1
        rw [hE]
        have HSX := Lib.hid (hsq.own ⟨w2.heap.size, 1, none⟩ (by simp; omega) (by simp; omega) (.int .i64 ((lo c + hi c) / 2 + z)))
        have HGX := Lib.hid (grown_own (grown_trans (grown_drew HG3.out) hgq) ⟨w2.heap.size, 1, none⟩ (by simp; omega) (.int .i64 ((lo c + hi c) / 2 + z)))
        have hB4 := (HB3.out.drew).grown hgq (by omega)
        have hD4 := (HD3.out.drew).grown hgq (by omega)
        clear hu0 hu1 hb0 hb1 hc1 hc2 hd0 hd1 hdf hsq hgq hE
        have hu0 := hB4.cell 0
        have hu1 := hB4.cell 1
        have hb0 := hB4.frozen 0
        have hb1 := hB4.frozen 1
        have hd0 := hD4.cell 0
        have hd1 := hD4.cell 1
        have hdf := hD4.frozen 1
        simp at hu0 hu1 hd0 hd1
        have HB4 := Lib.hid hB4
        clear hB4 hD4
        go_wp2_with fail
        have hB := HB4.out
        refine some_end (v := (lo c + hi c) / 2 + z) _ rfl rfl (Blk.put' (Blk.put' (hB.away (by omega) _ _) rfl) rfl) (by omega) (by omega) ?_ ?_
        · exact (HSX.out.own ⟨w.heap.size, 0, none⟩ hw0 (by simp; omega) _).own ⟨w.heap.size, 1, none⟩ hw0 (by simp; omega) _
        · exact grown_own (grown_own HGX.out ⟨w.heap.size, 0, none⟩ (Nat.le_refl _) _) ⟨w.heap.size, 1, none⟩ (Nat.le_refl _) _
  · have t0 : (k == 0) = false := by rw [beq_eq_false_iff_ne]; omega
    have t1 : (k == 1) = false := by rw [beq_eq_false_iff_ne]; omega
    have t2 : (k == 2) = false := by rw [beq_eq_false_iff_ne]; omega
    clear hk
    go_wp2_with fail
    have hB := HB3.out
    refine some_end (v := v) _ rfl rfl (by (repeat' (first | with_reducible assumption | with_reducible exact Blk.new _ _ _ | ((with_reducible refine Blk.new' _ _ _ ?_); (simp; done)) | with_reducible refine Blk.alloc ?_ _ | with_reducible refine Blk.drewN ?_ _ | with_reducible refine Blk.drew ?_ | with_reducible apply Blk.put' | ((with_reducible refine Blk.away ?_ ?_ _ _); rotate_left; omega) | rfl | omega))) (by omega) (by omega) ?_ ?_
    · exact (HS3.out.own ⟨w.heap.size, 0, none⟩ hw0 (by simp; omega) _).own ⟨w.heap.size, 1, none⟩ hw0 (by simp; omega) _
    · exact grown_own (grown_own HG3.out ⟨w.heap.size, 0, none⟩ (Nat.le_refl _) _) ⟨w.heap.size, 1, none⟩ (Nat.le_refl _) _
end Go.Proofs.YtpjnlbippcgnoaaDoor
