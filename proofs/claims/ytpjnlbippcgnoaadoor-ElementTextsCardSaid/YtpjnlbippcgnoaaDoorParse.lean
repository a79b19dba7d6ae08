/-
  element.Parse.
-/
import Derived.Test.YtpjnlbippcgnoaaDoorInv
namespace Go.Proofs.YtpjnlbippcgnoaaDoor
open Go.RowKit Txt

/-- no reading has this text -/
def NoTxt (L : List UInt8) : Prop := ∀ (c : Nat) (v : Int), c < 11 → lo c ≤ v → v ≤ hi c → L ≠ ftxt c v
def ParIs (L : List UInt8) (w : World) (r : Ending) (w' : World) : Prop :=
  ((∃ (c : Nat) (v : Int), c < 11 ∧ lo c ≤ v ∧ v ≤ hi c ∧ L = ftxt c v ∧ r = .returned (.tuple #[rdV ((c : Int) + 1) v, .int .i64 0])) ∨
    (NoTxt L ∧ r = .returned (.tuple #[rdV 0 0, .int .i64 3]))) ∧ Below w.heap.size w w'

theorem txt_val {b : UInt8} {l : List UInt8} {c : Nat} {v : Int} (hc : c < 11) (h1 : lo c ≤ v) (h2 : v ≤ hi c) (e : b :: l = ftxt c v) :
    b = ltr c ∧ sval (cutN l) (num (cutD l)) = v ∧ (cutD l).length ≤ 5 ∧ ∀ x ∈ cutD l, isd x = true := by
  rw [ftxt_eq] at e
  injection e with e1 e2
  have k := ftxt_cut c v
  rw [← e2] at k
  refine ⟨e1, ?_, ?_, ?_⟩
  · rw [k.1, k.2]; exact ftxt_val hc h1 h2
  · rw [k.2, digs_length]; rcases dig_cases c with q | q <;> omega
  · rw [k.2]; exact digs_isd _ _
theorem byte_at (s : ByteArray) (k : Nat) (h : k < s.size) : s.data.toList[k]? = some s[k] := List.getElem?_eq_getElem (l := s.data.toList) (i := k) (by simpa using h)
theorem str_first (b : UInt8) (l : List UInt8) : (S (b :: l)).extract 0 1 = ⟨#[b]⟩ := by
  show ByteArray.extract ⟨(b :: l).toArray⟩ 0 1 = _
  simp [ByteArray.extract_mk]
theorem str_rest (b : UInt8) (l : List UInt8) : (S (b :: l)).extract 1 (l.length + 1) = S l := by
  show ByteArray.extract ⟨(b :: l).toArray⟩ 1 (l.length + 1) = _
  simp [ByteArray.extract_mk]

theorem read_end {L : List UInt8} {e v k : Int} {w W : World} (a : Act) (h2 : a.tmps.getD 2 undef = .pointer (some ⟨w.heap.size, 0, none⟩)) (h3 : a.tmps.getD 3 undef = .int .i64 k) (hd : a.defers = [])
    (hB : Blk W w.heap.size #[.int .i64 e, .int .i64 v]) (hb : Below w.heap.size w W)
    (hp : (∃ (c : Nat) (u : Int), c < 11 ∧ lo c ≤ u ∧ u ≤ hi c ∧ L = ftxt c u ∧ e = (c : Int) + 1 ∧ v = u ∧ k = 0) ∨ (NoTxt L ∧ e = 0 ∧ v = 0 ∧ k = 3)) :
    bodyPost Tryd.prog Tryd.f14 (ParIs L w) .ret a W := by
  have r0 := hB.cell 0
  have r1 := hB.cell 1
  simp at r0 r1
  refine bodyPost_ret (v := .tuple #[rdV e v, .int .i64 k]) ?_ hd ⟨?_, hb⟩
  · rw [results_cell_tmp Tryd.results14, h2, h3]
    simp [go_sem, r0, r1]
  · rcases hp with ⟨c, u, q1, q2, q3, q4, rfl, rfl, rfl⟩ | ⟨q, rfl, rfl, rfl⟩
    · exact .inl ⟨c, _, q1, q2, q3, q4, rfl⟩
    · exact .inr ⟨q, rfl⟩

theorem format_any (c : Nat) (hc : c < 11) (v : Int) (w : World) (hB : Bnd w) : Calls Tryd.prog 12 #[rdV ((c : Int) + 1) v] w fun r w' =>
    (((lo c ≤ v ∧ v ≤ hi c) ∧ r = .returned (.tuple #[.string (S (ftxt c v)), .int .i64 0])) ∨ (¬ (lo c ≤ v ∧ v ≤ hi c) ∧ r = .returned (.tuple #[.string (S []), .int .i64 1]))) ∧ Below w.heap.size w w' := by
  by_cases h : lo c ≤ v ∧ v ≤ hi c
  · exact (format_ok c hc v h.1 h.2 w hB).mono fun r w' q => ⟨.inl ⟨h, q.1⟩, q.2⟩
  · have e : chk ((c : Int) + 1) v = 1 := by rw [chk_at hc, if_pos (by omega)]
    exact (format_no _ v (by rw [e]; decide) w hB).mono fun r w' q => ⟨.inr ⟨h, by rw [← e]; exact q.1⟩, q.2⟩

set_option maxRecDepth 20000 in
set_option maxHeartbeats 4000000 in
theorem parse_any (L : List UInt8) (hL : L.length ≤ 1000) (w : World) (hB : Bnd w) : Calls Tryd.prog 14 #[.string (S L)] w (ParIs L w) := by
  rcases L with _ | ⟨b, l⟩
  · go_enter Tryd.func14, Tryd.ntmps14
    go_wp2
    refine read_end _ rfl rfl rfl (Blk.new w 23 _) ((Below.refl _ _).alloc (Nat.le_refl _) _) (.inr ⟨?_, rfl, rfl, rfl⟩)
    intro c v _ _ _ h
    cases h
  have hB0 : Blk (w.alloc (.cells #[.int .i64 0, .int .i64 0] 23)) w.heap.size #[.int .i64 0, .int .i64 0] := Blk.new _ _ _
  have hX0 := (Below.refl w.heap.size w).alloc (Nat.le_refl _) (.cells #[.int .i64 0, .int .i64 0] 23)
  have HN := Lib.hid (hB.below hX0 hB.lt)
  have HB := Lib.hid hB0
  have HX := Lib.hid hX0
  have hlen : (S (b :: l)).size = l.length + 1 := rfl
  have hl : l.length ≤ 999 := by simpa using hL
  have h0 := hB.lt
  clear hB0 hX0 hL
  have HBN := Lib.hid hB
  clear hB
  go_enter Tryd.func14, Tryd.ntmps14
  go_wp2_with fail
  rw [str_first]
  by_cases hlt : ∃ c, c < 11 ∧ b = ltr c
  · obtain ⟨c, hc, rfl⟩ := hlt
    refine (byletter_at c hc _).mono ?_
    rintro r w1 ⟨rfl, rfl⟩
    go_wp2_with fail
    rw [str_rest]
    refine (Tryd.strings_CutPrefix _ _ _).mono ?_
    rintro r w1 ⟨rfl, rfl⟩
    rw [show Lib.trimPrefix (S l).data.toList (ByteArray.data ⟨#[45]⟩).toList = cutD l from rfl, show Lib.hasPrefix (S l).data.toList (ByteArray.data ⟨#[45]⟩).toList = cutN l from rfl]
    obtain ⟨s, hs⟩ : ∃ s : ByteArray, s = S (cutD l) := ⟨_, rfl⟩
    obtain ⟨N, hN⟩ : ∃ N : Bool, N = cutN l := ⟨_, rfl⟩
    have hsd : s.data.toList = cutD l := by rw [hs]
    have hsz : s.size = s.data.toList.length := rfl
    have htv : ∀ (c' : Nat) (v' : Int), c' < 11 → lo c' ≤ v' → v' ≤ hi c' → ltr c :: l = ftxt c' v' → c = c' ∧ sval N (num s.data.toList) = v' ∧ s.size ≤ 5 ∧ ∀ x ∈ s.data.toList, isd x = true := by
      intro c' v' q1 q2 q3 q4
      obtain ⟨t1, t2, t3, t4⟩ := txt_val q1 q2 q3 q4
      rw [hsz, hsd, hN]
      exact ⟨ltr_inj hc q1 t1, t2, t3, t4⟩
    have HTV := Lib.hid htv
    rw [show ({ data := (cutD l).toArray } : ByteArray) = s from hs.symm, ← hN]
    clear hs hN hsd htv hsz
    rcases Nat.lt_or_ge 5 s.size with h5 | h5
    · have h5' : (5 : Int) < (s.size : Int) := by omega
      go_wp2_with fail
      refine read_end _ rfl rfl rfl (Blk.new w 23 _) ((Below.refl _ _).alloc (Nat.le_refl _) _) (.inr ⟨?_, rfl, rfl, rfl⟩)
      intro c' v' q1 q2 q3 q4
      have := (HTV.out c' v' q1 q2 q3 q4).2.2.1
      omega
    have h5' : ¬ (5 : Int) < (s.size : Int) := by omega
    go_wp2_with fail
    have hz : (w.alloc (.cells #[.int .i64 0, .int .i64 0] 23)).heap.size = w.heap.size + 1 := by simp
    have HB1 := Lib.hid (HB.out.alloc (.cells #[.int .i64 ((c : Int) + 1), .int .i64 0] 23))
    have HC1 := Lib.hid (Blk.new' (w.alloc (.cells #[.int .i64 0, .int .i64 0] 23)) 23 #[.int .i64 ((c : Int) + 1), .int .i64 0] (g := w.heap.size + 1) hz)
    have HX1 := Lib.hid (HX.out.alloc HX.out.size (.cells #[.int .i64 ((c : Int) + 1), .int .i64 0] 23))
    clear hz h5'
    go_loopw [39] (fun i wr => ∃ j : Nat, j ≤ s.size ∧ i = .int .i64 j ∧ (∀ x ∈ s.data.toList.take j, isd x = true) ∧ Blk wr w.heap.size #[.int .i64 0, .int .i64 0] ∧ Blk wr (w.heap.size + 1) #[.int .i64 ((c : Int) + 1), .int .i64 (num (s.data.toList.take j))] ∧ Below w.heap.size w wr) (fun i _ => (s.size - intOf i).toNat)
    case atStart => exact ⟨0, by omega, rfl, by simp, HB1.out, HC1.out, HX1.out⟩
    case round =>
      obtain ⟨j, hj, rfl, hall, hB, hC, hX⟩ := hrel
      clear HB1 HC1 HX1
      have HALL := Lib.hid hall
      have HB := Lib.hid hB
      have HC := Lib.hid hC
      have HX := Lib.hid hX
      clear hall hB hC hX
      rcases Nat.lt_or_ge j s.size with hlt | hge
      · have hjs : (j : Int) < (s.size : Int) := by omega
        by_cases hd : isd s[j] = true
        · obtain ⟨c1, c2⟩ := isd_bd hd
          have hd1 : decide ((48 : Int) ≤ (s[j].toNat : Int)) = true := by simp; omega
          have hd2 : decide ((s[j].toNat : Int) ≤ 57) = true := by simp; omega
          have hnb := num_bd _ HALL.out
          have hle : bd (s.data.toList.take j).length ≤ bd 5 := bd_mono (by rw [List.length_take]; omega)
          have hb5 : bd 5 = 99999 := by decide
          obtain ⟨a0, a1⟩ := hnb
          have hv1 := HC.out.cell 1
          have hf1 := HC.out.frozen 1
          have hlc := HC.out.lt
          simp at hv1
          obtain ⟨a, ha⟩ : ∃ a : Int, a = num (s.data.toList.take j) := ⟨_, rfl⟩
          rw [← ha] at hv1 a0 a1 HC
          have a5 : a ≤ 99999 := by omega
          have hE : num (s.data.toList.take (j + 1)) = 10 * a + ((s[j].toNat : Int) - 48) := by
            rw [take_snoc _ _ (show j < s.data.toList.length from hlt), num_snoc, ← ha]
            rfl
          have hA : ∀ x ∈ s.data.toList.take (j + 1), isd x = true := by
            intro x hx
            rw [take_snoc _ _ (show j < s.data.toList.length from hlt), List.mem_append, List.mem_singleton] at hx
            rcases hx with hx | rfl
            · exact HALL.out x hx
            · exact hd
          have HE := Lib.hid hE
          have HA := Lib.hid hA
          clear hE hA hle hb5 a1 ha hd
          go_wp2_with fail
          go_region
          all_goals
            go_wp2_with fail
            go_roundw
            case rel =>
              refine ⟨j + 1, by omega, by go_num, HA.out, ?_, ?_, ?_⟩
              · exact (HB.out.away (by omega) _ _).drew
              · rw [HE.out]
                exact (Blk.put' HC.out rfl).drew
              · exact (HX.out.setCell (by simp) _).drew
            case measure => simp [intOf]; omega
        · have hd' : isd s[j] = false := by simpa using hd
          have hcb : s[j].toNat < 48 ∨ (48 ≤ s[j].toNat ∧ 57 < s[j].toNat) := by
            have : ¬ (48 ≤ s[j].toNat ∧ s[j].toNat ≤ 57) := by simpa [isd] using hd
            omega
          have hno : NoTxt (ltr c :: l) := by
            intro c' v' q1 q2 q3 q4
            have := (HTV.out c' v' q1 q2 q3 q4).2.2.2 s[j] (List.mem_of_getElem? (byte_at s j hlt))
            rw [this] at hd'
            cases hd'
          have HNO := Lib.hid hno
          clear hno hd hd'
          have hu0 := HB.out.cell 0
          have hu1 := HB.out.cell 1
          have hg0 := HB.out.frozen 0
          have hg1 := HB.out.frozen 1
          have hlb := HB.out.lt
          simp at hu0 hu1
          rcases hcb with hcb | ⟨hcb, hcb2⟩
          · have hd1 : (s[j].toNat : Int) < 48 := by omega
            clear hcb
            go_wp2_with fail
            have hB := HB.out
            have hX := HX.out
            refine read_end _ rfl rfl rfl (by (repeat' (first | with_reducible assumption | with_reducible exact Blk.new _ _ _ | ((with_reducible refine Blk.new' _ _ _ ?_); (simp; done)) | with_reducible refine Blk.alloc ?_ _ | with_reducible refine Blk.drewN ?_ _ | with_reducible refine Blk.drew ?_ | with_reducible apply Blk.put' | ((with_reducible refine Blk.away ?_ ?_ _ _); rotate_left; omega) | rfl | omega))) (by (repeat' (first | with_reducible assumption | with_reducible exact Below.refl _ _ | with_reducible refine Below.alloc ?_ ?_ _ | with_reducible refine Below.setCell ?_ ?_ _ | with_reducible refine Below.drew ?_ | with_reducible refine below_drewN ?_ _ | omega | (simp; done) | (simp; omega)))) (.inr ⟨HNO.out, rfl, rfl, rfl⟩)
          · have hd1 : (48 : Int) ≤ (s[j].toNat : Int) := by omega
            have hd2 : (57 : Int) < (s[j].toNat : Int) := by omega
            clear hcb hcb2
            go_wp2_with fail
            have hB := HB.out
            have hX := HX.out
            refine read_end _ rfl rfl rfl (by (repeat' (first | with_reducible assumption | with_reducible exact Blk.new _ _ _ | ((with_reducible refine Blk.new' _ _ _ ?_); (simp; done)) | with_reducible refine Blk.alloc ?_ _ | with_reducible refine Blk.drewN ?_ _ | with_reducible refine Blk.drew ?_ | with_reducible apply Blk.put' | ((with_reducible refine Blk.away ?_ ?_ _ _); rotate_left; omega) | rfl | omega))) (by (repeat' (first | with_reducible assumption | with_reducible exact Below.refl _ _ | with_reducible refine Below.alloc ?_ ?_ _ | with_reducible refine Below.setCell ?_ ?_ _ | with_reducible refine Below.drew ?_ | with_reducible refine below_drewN ?_ _ | omega | (simp; done) | (simp; omega)))) (.inr ⟨HNO.out, rfl, rfl, rfl⟩)
      · obtain rfl : j = s.size := by omega
        have hfull : s.data.toList.take s.size = s.data.toList := List.take_of_length_le (Nat.le_refl _)
        rw [hfull] at HC HALL
        have hnb := num_bd _ HALL.out
        have hle : bd s.data.toList.length ≤ bd 5 := bd_mono h5
        have hb5 : bd 5 = 99999 := by decide
        obtain ⟨a0, a1⟩ := hnb
        obtain ⟨n, hn⟩ : ∃ n : Int, n = num s.data.toList := ⟨_, rfl⟩
        rw [← hn] at a0 a1 HC
        have a5 : n ≤ 99999 := by omega
        clear hfull a1 hle hb5
        have hv0 := HC.out.cell 0
        have hv1 := HC.out.cell 1
        have hf1 := HC.out.frozen 1
        have hlc := HC.out.lt
        simp at hv0 hv1
        rcases N with _ | _
        · have hval : ∀ (c' : Nat) (v' : Int), c' < 11 → lo c' ≤ v' → v' ≤ hi c' → ltr c :: l = ftxt c' v' → c = c' ∧ n = v' := by
            intro c' v' q1 q2 q3 q4
            have q := HTV.out c' v' q1 q2 q3 q4
            rw [← hn] at q
            exact ⟨q.1, q.2.1⟩
          have HVAL := Lib.hid hval
          clear hval hn HTV HALL
          go_wp2_with fail
          have hB := HB.out
          have hC := HC.out
          have hX := HX.out
          have hB2 := hB
          have hC2 := hC
          have hX2 := hX
          refine (format_any c hc n _ (HBN.out.below hX2 h0)).mono ?_
          rintro r w3 ⟨hor, hb3⟩
          have hB3 := hB2.below hb3 hB2.lt
          have hC3 := hC2.below hb3 hC2.lt
          have HX3 := Lib.hid (hX2.trans (hb3.mono hX2.size))
          have hv0 := hC3.cell 0
          have hv1 := hC3.cell 1
          have hu0 := hB3.cell 0
          have hu1 := hB3.cell 1
          have hg0 := hB3.frozen 0
          have hg1 := hB3.frozen 1
          have hlb := hB3.lt
          have hlc := hC3.lt
          simp at hv0 hv1 hu0 hu1
          have HB3 := Lib.hid hB3
          clear hb3 hB hC hX hB2 hC2 hX2 hB3 hC3
          rcases hor with ⟨⟨r1, r2⟩, rfl⟩ | ⟨hr, rfl⟩
          · by_cases he : ltr c :: l = ftxt c n
            · have HE := Lib.hid he
              rw [he]
              clear he
              go_wp2_with fail
              have hB3 := HB3.out
              have hX3 := HX3.out
              exact read_end _ rfl rfl rfl (by (repeat' (first | with_reducible assumption | with_reducible exact Blk.new _ _ _ | ((with_reducible refine Blk.new' _ _ _ ?_); (simp; done)) | with_reducible refine Blk.alloc ?_ _ | with_reducible refine Blk.drewN ?_ _ | with_reducible refine Blk.drew ?_ | with_reducible apply Blk.put' | ((with_reducible refine Blk.away ?_ ?_ _ _); rotate_left; omega) | rfl | omega))) (by (repeat' (first | with_reducible assumption | with_reducible exact Below.refl _ _ | with_reducible refine Below.alloc ?_ ?_ _ | with_reducible refine Below.setCell ?_ ?_ _ | with_reducible refine Below.drew ?_ | with_reducible refine below_drewN ?_ _ | omega | (simp; done) | (simp; omega)))) (.inl ⟨c, n, hc, r1, r2, HE.out, rfl, rfl, rfl⟩)
            · have hno : NoTxt (ltr c :: l) := by
                intro c' v' q1 q2 q3 q4
                obtain ⟨rfl, rfl⟩ := HVAL.out c' v' q1 q2 q3 q4
                exact he q4
              have HNO := Lib.hid hno
              have t1 : (ftxt c n == ltr c :: l) = false := by rw [beq_eq_false_iff_ne]; exact fun e => he e.symm
              have t2 : (ftxt c n = ltr c :: l) = False := eq_false fun e => he e.symm
              clear hno he
              go_wp2_with fail
              have hB3 := HB3.out
              have hX3 := HX3.out
              exact read_end _ rfl rfl rfl (by (repeat' (first | with_reducible assumption | with_reducible exact Blk.new _ _ _ | ((with_reducible refine Blk.new' _ _ _ ?_); (simp; done)) | with_reducible refine Blk.alloc ?_ _ | with_reducible refine Blk.drewN ?_ _ | with_reducible refine Blk.drew ?_ | with_reducible apply Blk.put' | ((with_reducible refine Blk.away ?_ ?_ _ _); rotate_left; omega) | rfl | omega))) (by (repeat' (first | with_reducible assumption | with_reducible exact Below.refl _ _ | with_reducible refine Below.alloc ?_ ?_ _ | with_reducible refine Below.setCell ?_ ?_ _ | with_reducible refine Below.drew ?_ | with_reducible refine below_drewN ?_ _ | omega | (simp; done) | (simp; omega)))) (.inr ⟨HNO.out, rfl, rfl, rfl⟩)
          · have hno : NoTxt (ltr c :: l) := by
              intro c' v' q1 q2 q3 q4
              obtain ⟨rfl, rfl⟩ := HVAL.out c' v' q1 q2 q3 q4
              exact hr ⟨q2, q3⟩
            have HNO := Lib.hid hno
            clear hno hr
            go_wp2_with fail
            have hB3 := HB3.out
            have hX3 := HX3.out
            exact read_end _ rfl rfl rfl (by (repeat' (first | with_reducible assumption | with_reducible exact Blk.new _ _ _ | ((with_reducible refine Blk.new' _ _ _ ?_); (simp; done)) | with_reducible refine Blk.alloc ?_ _ | with_reducible refine Blk.drewN ?_ _ | with_reducible refine Blk.drew ?_ | with_reducible apply Blk.put' | ((with_reducible refine Blk.away ?_ ?_ _ _); rotate_left; omega) | rfl | omega))) (by (repeat' (first | with_reducible assumption | with_reducible exact Below.refl _ _ | with_reducible refine Below.alloc ?_ ?_ _ | with_reducible refine Below.setCell ?_ ?_ _ | with_reducible refine Below.drew ?_ | with_reducible refine below_drewN ?_ _ | omega | (simp; done) | (simp; omega)))) (.inr ⟨HNO.out, rfl, rfl, rfl⟩)
        · have hval : ∀ (c' : Nat) (v' : Int), c' < 11 → lo c' ≤ v' → v' ≤ hi c' → ltr c :: l = ftxt c' v' → c = c' ∧ (-n) = v' := by
            intro c' v' q1 q2 q3 q4
            have q := HTV.out c' v' q1 q2 q3 q4
            rw [← hn] at q
            exact ⟨q.1, q.2.1⟩
          have HVAL := Lib.hid hval
          clear hval hn HTV HALL
          go_wp2_with fail
          have hB := HB.out
          have hC := HC.out
          have hX := HX.out
          have hB2 : Blk (wr.setCell ⟨w.heap.size + 1, 1, none⟩ (.int .i64 (-n))) w.heap.size #[.int .i64 0, .int .i64 0] := hB.away (by omega) _ _
          have hC2 : Blk (wr.setCell ⟨w.heap.size + 1, 1, none⟩ (.int .i64 (-n))) (w.heap.size + 1) #[.int .i64 ((c : Int) + 1), .int .i64 (-n)] := Blk.put' hC rfl
          have hX2 := hX.setCell (p := ⟨w.heap.size + 1, 1, none⟩) (by simp) (.int .i64 (-n))
          refine (format_any c hc (-n) _ (HBN.out.below hX2 h0)).mono ?_
          rintro r w3 ⟨hor, hb3⟩
          have hB3 := hB2.below hb3 hB2.lt
          have hC3 := hC2.below hb3 hC2.lt
          have HX3 := Lib.hid (hX2.trans (hb3.mono hX2.size))
          have hv0 := hC3.cell 0
          have hv1 := hC3.cell 1
          have hu0 := hB3.cell 0
          have hu1 := hB3.cell 1
          have hg0 := hB3.frozen 0
          have hg1 := hB3.frozen 1
          have hlb := hB3.lt
          have hlc := hC3.lt
          simp at hv0 hv1 hu0 hu1
          have HB3 := Lib.hid hB3
          clear hb3 hB hC hX hB2 hC2 hX2 hB3 hC3
          rcases hor with ⟨⟨r1, r2⟩, rfl⟩ | ⟨hr, rfl⟩
          · by_cases he : ltr c :: l = ftxt c (-n)
            · have HE := Lib.hid he
              rw [he]
              clear he
              go_wp2_with fail
              have hB3 := HB3.out
              have hX3 := HX3.out
              exact read_end _ rfl rfl rfl (by (repeat' (first | with_reducible assumption | with_reducible exact Blk.new _ _ _ | ((with_reducible refine Blk.new' _ _ _ ?_); (simp; done)) | with_reducible refine Blk.alloc ?_ _ | with_reducible refine Blk.drewN ?_ _ | with_reducible refine Blk.drew ?_ | with_reducible apply Blk.put' | ((with_reducible refine Blk.away ?_ ?_ _ _); rotate_left; omega) | rfl | omega))) (by (repeat' (first | with_reducible assumption | with_reducible exact Below.refl _ _ | with_reducible refine Below.alloc ?_ ?_ _ | with_reducible refine Below.setCell ?_ ?_ _ | with_reducible refine Below.drew ?_ | with_reducible refine below_drewN ?_ _ | omega | (simp; done) | (simp; omega)))) (.inl ⟨c, (-n), hc, r1, r2, HE.out, rfl, rfl, rfl⟩)
            · have hno : NoTxt (ltr c :: l) := by
                intro c' v' q1 q2 q3 q4
                obtain ⟨rfl, rfl⟩ := HVAL.out c' v' q1 q2 q3 q4
                exact he q4
              have HNO := Lib.hid hno
              have t1 : (ftxt c (-n) == ltr c :: l) = false := by rw [beq_eq_false_iff_ne]; exact fun e => he e.symm
              have t2 : (ftxt c (-n) = ltr c :: l) = False := eq_false fun e => he e.symm
              clear hno he
              go_wp2_with fail
              have hB3 := HB3.out
              have hX3 := HX3.out
              exact read_end _ rfl rfl rfl (by (repeat' (first | with_reducible assumption | with_reducible exact Blk.new _ _ _ | ((with_reducible refine Blk.new' _ _ _ ?_); (simp; done)) | with_reducible refine Blk.alloc ?_ _ | with_reducible refine Blk.drewN ?_ _ | with_reducible refine Blk.drew ?_ | with_reducible apply Blk.put' | ((with_reducible refine Blk.away ?_ ?_ _ _); rotate_left; omega) | rfl | omega))) (by (repeat' (first | with_reducible assumption | with_reducible exact Below.refl _ _ | with_reducible refine Below.alloc ?_ ?_ _ | with_reducible refine Below.setCell ?_ ?_ _ | with_reducible refine Below.drew ?_ | with_reducible refine below_drewN ?_ _ | omega | (simp; done) | (simp; omega)))) (.inr ⟨HNO.out, rfl, rfl, rfl⟩)
          · have hno : NoTxt (ltr c :: l) := by
              intro c' v' q1 q2 q3 q4
              obtain ⟨rfl, rfl⟩ := HVAL.out c' v' q1 q2 q3 q4
              exact hr ⟨q2, q3⟩
            have HNO := Lib.hid hno
            clear hno hr
            go_wp2_with fail
            have hB3 := HB3.out
            have hX3 := HX3.out
            exact read_end _ rfl rfl rfl (by (repeat' (first | with_reducible assumption | with_reducible exact Blk.new _ _ _ | ((with_reducible refine Blk.new' _ _ _ ?_); (simp; done)) | with_reducible refine Blk.alloc ?_ _ | with_reducible refine Blk.drewN ?_ _ | with_reducible refine Blk.drew ?_ | with_reducible apply Blk.put' | ((with_reducible refine Blk.away ?_ ?_ _ _); rotate_left; omega) | rfl | omega))) (by (repeat' (first | with_reducible assumption | with_reducible exact Below.refl _ _ | with_reducible refine Below.alloc ?_ ?_ _ | with_reducible refine Below.setCell ?_ ?_ _ | with_reducible refine Below.drew ?_ | with_reducible refine below_drewN ?_ _ | omega | (simp; done) | (simp; omega)))) (.inr ⟨HNO.out, rfl, rfl, rfl⟩)
  · refine (byletter_bad b (fun c hc e => hlt ⟨c, hc, e⟩) _).mono ?_
    have HLT := Lib.hid hlt
    clear hlt
    rintro r w1 ⟨rfl, rfl⟩
    go_wp2_with fail
    rw [str_rest]
    refine (Tryd.strings_CutPrefix _ _ _).mono ?_
    rintro r w1 ⟨rfl, rfl⟩
    go_wp2_with fail
    refine read_end _ rfl rfl rfl (Blk.new w 23 _) ((Below.refl _ _).alloc (Nat.le_refl _) _) (.inr ⟨?_, rfl, rfl, rfl⟩)
    intro c v hc h1 h2 e
    exact HLT.out ⟨c, hc, (txt_val hc h1 h2 e).1⟩
end Go.Proofs.YtpjnlbippcgnoaaDoor
