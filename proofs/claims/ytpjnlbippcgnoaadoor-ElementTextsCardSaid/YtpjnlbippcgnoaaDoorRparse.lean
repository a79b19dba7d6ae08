/-
  The reference's Parse.
-/
import Derived.Test.YtpjnlbippcgnoaaDoorParse
import Derived.Test.YtpjnlbippcgnoaaDoorRbyl
namespace Go.Proofs.YtpjnlbippcgnoaaDoor
open Go.RowKit Txt

theorem ftxt_len_bd (c : Nat) (v : Int) : 5 ≤ (ftxt c v).length ∧ (ftxt c v).length ≤ 7 := by
  rw [ftxt_eq]
  have h1 : (sgn v).length ≤ 1 := by unfold sgn; split <;> simp
  have h2 := dig_cases c
  simp only [List.length_cons, List.length_append, digs_length]
  omega

theorem read_endr {L : List UInt8} {e v k : Int} {w W : World} (a : Act) (h2 : a.tmps.getD 2 undef = .pointer (some ⟨w.heap.size, 0, none⟩)) (h3 : a.tmps.getD 3 undef = .int .i64 k) (hd : a.defers = [])
    (hB : Blk W w.heap.size #[.int .i64 e, .int .i64 v]) (hb : Below w.heap.size w W)
    (hp : (∃ (c : Nat) (u : Int), c < 11 ∧ lo c ≤ u ∧ u ≤ hi c ∧ L = ftxt c u ∧ e = (c : Int) + 1 ∧ v = u ∧ k = 0) ∨ (NoTxt L ∧ e = 0 ∧ v = 0 ∧ k = 3)) :
    bodyPost Tryd.prog Tryd.f16 (ParIs L w) .ret a W := by
  have r0 := hB.cell 0
  have r1 := hB.cell 1
  simp at r0 r1
  refine bodyPost_ret (v := .tuple #[rdV e v, .int .i64 k]) ?_ hd ⟨?_, hb⟩
  · rw [results_cell_tmp Tryd.results16, h2, h3]
    simp [go_sem, r0, r1]
  · rcases hp with ⟨c, u, q1, q2, q3, q4, rfl, rfl, rfl⟩ | ⟨q, rfl, rfl, rfl⟩
    · exact .inl ⟨c, _, q1, q2, q3, q4, rfl⟩
    · exact .inr ⟨q, rfl⟩

theorem rformat_any (c : Nat) (hc : c < 11) (v : Int) (w : World) : Calls Tryd.prog 13 #[rdV ((c : Int) + 1) v] w fun r w' =>
    (((lo c ≤ v ∧ v ≤ hi c) ∧ r = .returned (.tuple #[.string (S (ftxt c v)), .int .i64 0])) ∨ (¬ (lo c ≤ v ∧ v ≤ hi c) ∧ r = .returned (.tuple #[.string (S []), .int .i64 1]))) ∧ Below w.heap.size w w' := by
  by_cases h : lo c ≤ v ∧ v ≤ hi c
  · exact (rformat_ok c hc v h.1 h.2 w).mono fun r w' q => ⟨.inl ⟨h, q.1⟩, q.2⟩
  · have e : chk ((c : Int) + 1) v = 1 := by rw [chk_at hc, if_pos (by omega)]
    exact (rformat_no _ v (by rw [e]; decide) w).mono fun r w' q => ⟨.inr ⟨h, by rw [← e]; exact q.1⟩, q.2⟩

set_option maxRecDepth 20000 in
set_option maxHeartbeats 4000000 in
theorem rparse_any (L : List UInt8) (w : World) : Calls Tryd.prog 16 #[.string (S L)] w (ParIs L w) := by
  rcases Nat.lt_or_ge L.length 2 with hL2 | hL2
  · have hno : NoTxt L := fun c v _ _ _ e => by have := ftxt_len_bd c v; rw [← e] at this; omega
    have HNO := Lib.hid hno
    have h2 : (L.length : Int) < 2 := by omega
    clear hno hL2
    go_enter Tryd.func16, Tryd.ntmps16
    go_wp2
    exact read_endr _ rfl rfl rfl (Blk.new w 23 _) ((Below.refl _ _).alloc (Nat.le_refl _) _) (.inr ⟨HNO.out, rfl, rfl, rfl⟩)
  rcases Nat.lt_or_ge 8 L.length with hL8 | hL8
  · have hno : NoTxt L := fun c v _ _ _ e => by have := ftxt_len_bd c v; rw [← e] at this; omega
    have HNO := Lib.hid hno
    have h2 : ¬ (L.length : Int) < 2 := by omega
    have h8 : (8 : Int) < (L.length : Int) := by omega
    clear hno hL2 hL8
    go_enter Tryd.func16, Tryd.ntmps16
    go_wp2
    exact read_endr _ rfl rfl rfl (Blk.new w 23 _) ((Below.refl _ _).alloc (Nat.le_refl _) _) (.inr ⟨HNO.out, rfl, rfl, rfl⟩)
  rcases L with _ | ⟨b, _ | ⟨x, l⟩⟩
  · simp at hL2
  · simp at hL2
  have h2 : ¬ (((b :: x :: l).length : Nat) : Int) < 2 := by omega
  have h8 : ¬ (8 : Int) < (((b :: x :: l).length : Nat) : Int) := by omega
  have hl : l.length ≤ 6 := by simp at hL8; omega
  have hB0 : Blk (w.alloc (.cells #[.int .i64 0, .int .i64 0] 23)) w.heap.size #[.int .i64 0, .int .i64 0] := Blk.new _ _ _
  have hX0 := (Below.refl w.heap.size w).alloc (Nat.le_refl _) (.cells #[.int .i64 0, .int .i64 0] 23)
  have HB := Lib.hid hB0
  have HX := Lib.hid hX0
  have hlen : (S (b :: x :: l)).size = (x :: l).length + 1 := rfl
  clear hB0 hX0 hL2 hL8
  go_enter Tryd.func16, Tryd.ntmps16
  go_wp2_with fail
  rw [str_first]
  by_cases hlt : ∃ c, c < 11 ∧ b = ltr c
  · obtain ⟨c, hc, rfl⟩ := hlt
    refine (rbyletter_at c hc _).mono ?_
    rintro r w1 ⟨rfl, hb1⟩
    have HB1 := Lib.hid (HB.out.below hb1 HB.out.lt)
    have HX1 := Lib.hid (HX.out.trans (hb1.mono HX.out.size))
    clear hb1 HB HX
    have e1 : (S (ltr c :: x :: l)).extract 1 (l.length + 1 + 1) = S (x :: l) := str_rest _ (x :: l)
    have e2 : (S (x :: l)).extract 1 (l.length + 1) = S l := str_rest x l
    have e3 : ∀ h, (S (x :: l))[0]'h = x := fun _ => rfl
    by_cases hx : x = 45
    · have hcut : cutN (x :: l) = true ∧ cutD (x :: l) = l := by rw [hx]; exact cut_neg l
      obtain ⟨s, hs⟩ : ∃ s : ByteArray, s = S l := ⟨_, rfl⟩
      have hsd : s.data.toList = l := by rw [hs]
      have hs7 : s.size ≤ 7 := by rw [hs]; show (l).toArray.size ≤ 7; rw [List.size_toArray]; omega
      have htv : ∀ (c' : Nat) (v' : Int), c' < 11 → lo c' ≤ v' → v' ≤ hi c' → ltr c :: x :: l = ftxt c' v' → c = c' ∧ sval true (num s.data.toList) = v' ∧ s.size ≤ 5 ∧ ∀ x ∈ s.data.toList, isd x = true := by
        intro c' v' q1 q2 q3 q4
        obtain ⟨t1, t2, t3, t4⟩ := txt_val q1 q2 q3 q4
        rw [hcut.1, hcut.2] at t2
        rw [hcut.2] at t3 t4
        have : s.size = s.data.toList.length := rfl
        rw [this, hsd]
        exact ⟨ltr_inj hc q1 t1, t2, t3, t4⟩
      have HTV := Lib.hid htv
      have tx : ((x.toNat : Int) == 45) = true := by rw [hx]; rfl
      clear hcut hx htv hsd
      go_wp2_with fail
      rw [← hs]
      clear hs e1 e2 e3 tx
      go_loopw [8, 9] (fun q i wr => ∃ j : Nat, j ≤ s.size ∧ i = .int .i64 j ∧ q = .int .i64 (num (s.data.toList.take j)) ∧ (∀ x ∈ s.data.toList.take j, isd x = true) ∧ w1 = wr) (fun _ i _ => (s.size - intOf i).toNat)
      case atStart => exact ⟨0, by omega, rfl, rfl, by simp, rfl⟩
      case round =>
        obtain ⟨j, hj, rfl, rfl, hall, rfl⟩ := hrel
        have HALL := Lib.hid hall
        have hnb := num_bd _ hall
        have hle : bd (s.data.toList.take j).length ≤ bd 7 := bd_mono (by rw [List.length_take]; omega)
        have hb7 : bd 7 = 9999999 := by decide
        obtain ⟨a0, a1⟩ := hnb
        obtain ⟨n, hn⟩ : ∃ n : Int, n = num (s.data.toList.take j) := ⟨_, rfl⟩
        rw [← hn] at a0 a1 ⊢
        have a7 : n ≤ 9999999 := by omega
        clear hall hle hb7 a1
        rcases Nat.lt_or_ge j s.size with hlt | hge
        · have hjs : (j : Int) < (s.size : Int) := by omega
          by_cases hd : isd s[j] = true
          · obtain ⟨c1, c2⟩ := isd_bd hd
            have hd1 : (48 : Int) ≤ (s[j].toNat : Int) := by omega
            have hd2 : (s[j].toNat : Int) ≤ 57 := by omega
            have hE : num (s.data.toList.take (j + 1)) = 10 * n + ((s[j].toNat : Int) - 48) := by
              rw [take_snoc _ _ (show j < s.data.toList.length from hlt), num_snoc, ← hn]
              rfl
            have hA : ∀ x ∈ s.data.toList.take (j + 1), isd x = true := by
              intro x hx
              rw [take_snoc _ _ (show j < s.data.toList.length from hlt), List.mem_append, List.mem_singleton] at hx
              rcases hx with hx | rfl
              · exact HALL.out x hx
              · exact hd
            have HE := Lib.hid hE
            have HA := Lib.hid hA
            clear hE hA hn hd
            go_wp2_with fail
            go_roundw
            case rel => exact ⟨j + 1, by omega, by go_num, by rw [HE.out]; go_num, HA.out, trivial⟩
            case measure => simp [intOf]; omega
          · have hd' : isd s[j] = false := by simpa using hd
            have hcb : s[j].toNat < 48 ∨ (48 ≤ s[j].toNat ∧ 57 < s[j].toNat) := by
              have : ¬ (48 ≤ s[j].toNat ∧ s[j].toNat ≤ 57) := by simpa [isd] using hd
              omega
            have hno : NoTxt (ltr c :: x :: l) := by
              intro c' v' q1 q2 q3 q4
              have := (HTV.out c' v' q1 q2 q3 q4).2.2.2 s[j] (List.mem_of_getElem? (byte_at s j hlt))
              rw [this] at hd'
              cases hd'
            have HNO := Lib.hid hno
            clear hno hd hd' hn
            have hu0 := HB1.out.cell 0
            have hu1 := HB1.out.cell 1
            have hg0 := HB1.out.frozen 0
            have hg1 := HB1.out.frozen 1
            have hlb := HB1.out.lt
            simp at hu0 hu1
            rcases hcb with hcb | ⟨hcb, hcb2⟩
            · have hd1 : (s[j].toNat : Int) < 48 := by omega
              clear hcb
              go_wp2_with fail
              have hB := HB1.out
              have hX := HX1.out
              exact read_endr _ rfl rfl rfl (by (repeat' (first | with_reducible assumption | with_reducible exact Blk.new _ _ _ | ((with_reducible refine Blk.new' _ _ _ ?_); (simp; done)) | with_reducible refine Blk.alloc ?_ _ | with_reducible refine Blk.drewN ?_ _ | with_reducible refine Blk.drew ?_ | with_reducible apply Blk.put' | ((with_reducible refine Blk.away ?_ ?_ _ _); rotate_left; omega) | rfl | omega))) (by (repeat' (first | with_reducible assumption | with_reducible exact Below.refl _ _ | with_reducible refine Below.alloc ?_ ?_ _ | with_reducible refine Below.setCell ?_ ?_ _ | with_reducible refine Below.drew ?_ | with_reducible refine below_drewN ?_ _ | omega | (simp; done) | (simp; omega)))) (.inr ⟨HNO.out, rfl, rfl, rfl⟩)
            · have hd1 : (48 : Int) ≤ (s[j].toNat : Int) := by omega
              have hd2 : (57 : Int) < (s[j].toNat : Int) := by omega
              clear hcb hcb2
              go_wp2_with fail
              have hB := HB1.out
              have hX := HX1.out
              exact read_endr _ rfl rfl rfl (by (repeat' (first | with_reducible assumption | with_reducible exact Blk.new _ _ _ | ((with_reducible refine Blk.new' _ _ _ ?_); (simp; done)) | with_reducible refine Blk.alloc ?_ _ | with_reducible refine Blk.drewN ?_ _ | with_reducible refine Blk.drew ?_ | with_reducible apply Blk.put' | ((with_reducible refine Blk.away ?_ ?_ _ _); rotate_left; omega) | rfl | omega))) (by (repeat' (first | with_reducible assumption | with_reducible exact Below.refl _ _ | with_reducible refine Below.alloc ?_ ?_ _ | with_reducible refine Below.setCell ?_ ?_ _ | with_reducible refine Below.drew ?_ | with_reducible refine below_drewN ?_ _ | omega | (simp; done) | (simp; omega)))) (.inr ⟨HNO.out, rfl, rfl, rfl⟩)
        · obtain rfl : j = s.size := by omega
          have hfull : s.data.toList.take s.size = s.data.toList := List.take_of_length_le (Nat.le_refl _)
          rw [hfull] at hn
          have hval : ∀ (c' : Nat) (v' : Int), c' < 11 → lo c' ≤ v' → v' ≤ hi c' → ltr c :: x :: l = ftxt c' v' → c = c' ∧ (-n) = v' := by
            intro c' v' q1 q2 q3 q4
            have q := HTV.out c' v' q1 q2 q3 q4
            rw [← hn] at q
            exact ⟨q.1, q.2.1⟩
          have HVAL := Lib.hid hval
          clear hval hn HTV HALL hfull
          go_wp2_with fail
          have hB2 := HB1.out.alloc (.cells #[.int .i64 ((c : Int) + 1), .int .i64 (-n)] 23)
          have hC2 := Blk.new w1 23 #[.int .i64 ((c : Int) + 1), .int .i64 (-n)]
          have hX2 := HX1.out.alloc HX1.out.size (.cells #[.int .i64 ((c : Int) + 1), .int .i64 (-n)] 23)
          refine (rformat_any c hc (-n) _).mono ?_
          rintro r w3 ⟨hor, hb3⟩
          have hB3 := hB2.below hb3 hB2.lt
          have hC3 := hC2.below hb3 hC2.lt
          have HX3 := Lib.hid (hX2.trans (hb3.mono hX2.size))
          have hv0 := hC3.cell 0
          have hv1 := hC3.cell 1
          have hu0 := hB3.cell 0
          have hu1 := hB3.cell 1
          have hg0 := hB3.frozen 0
          have hg1 := hB3.frozen 1
          have hlb := hB3.lt
          have hlc := hC3.lt
          simp at hv0 hv1 hu0 hu1
          have HB3 := Lib.hid hB3
          clear hb3 hB2 hC2 hX2 hB3 hC3
          rcases hor with ⟨⟨r1, r2⟩, rfl⟩ | ⟨hr, rfl⟩
          · by_cases he : ltr c :: x :: l = ftxt c (-n)
            · have HE := Lib.hid he
              rw [he]
              clear he
              go_wp2_with fail
              have hB3 := HB3.out
              have hX3 := HX3.out
              exact read_endr _ rfl rfl rfl (by (repeat' (first | with_reducible assumption | with_reducible exact Blk.new _ _ _ | ((with_reducible refine Blk.new' _ _ _ ?_); (simp; done)) | with_reducible refine Blk.alloc ?_ _ | with_reducible refine Blk.drewN ?_ _ | with_reducible refine Blk.drew ?_ | with_reducible apply Blk.put' | ((with_reducible refine Blk.away ?_ ?_ _ _); rotate_left; omega) | rfl | omega))) (by (repeat' (first | with_reducible assumption | with_reducible exact Below.refl _ _ | with_reducible refine Below.alloc ?_ ?_ _ | with_reducible refine Below.setCell ?_ ?_ _ | with_reducible refine Below.drew ?_ | with_reducible refine below_drewN ?_ _ | omega | (simp; done) | (simp; omega)))) (.inl ⟨c, (-n), hc, r1, r2, HE.out, rfl, rfl, rfl⟩)
            · have hno : NoTxt (ltr c :: x :: l) := by
                intro c' v' q1 q2 q3 q4
                obtain ⟨rfl, rfl⟩ := HVAL.out c' v' q1 q2 q3 q4
                exact he q4
              have HNO := Lib.hid hno
              have t1 : (ftxt c (-n) == ltr c :: x :: l) = false := by rw [beq_eq_false_iff_ne]; exact fun e => he e.symm
              have t2 : (ftxt c (-n) = ltr c :: x :: l) = False := eq_false fun e => he e.symm
              clear hno he
              go_wp2_with fail
              have hB3 := HB3.out
              have hX3 := HX3.out
              exact read_endr _ rfl rfl rfl (by (repeat' (first | with_reducible assumption | with_reducible exact Blk.new _ _ _ | ((with_reducible refine Blk.new' _ _ _ ?_); (simp; done)) | with_reducible refine Blk.alloc ?_ _ | with_reducible refine Blk.drewN ?_ _ | with_reducible refine Blk.drew ?_ | with_reducible apply Blk.put' | ((with_reducible refine Blk.away ?_ ?_ _ _); rotate_left; omega) | rfl | omega))) (by (repeat' (first | with_reducible assumption | with_reducible exact Below.refl _ _ | with_reducible refine Below.alloc ?_ ?_ _ | with_reducible refine Below.setCell ?_ ?_ _ | with_reducible refine Below.drew ?_ | with_reducible refine below_drewN ?_ _ | omega | (simp; done) | (simp; omega)))) (.inr ⟨HNO.out, rfl, rfl, rfl⟩)
          · have hno : NoTxt (ltr c :: x :: l) := by
              intro c' v' q1 q2 q3 q4
              obtain ⟨rfl, rfl⟩ := HVAL.out c' v' q1 q2 q3 q4
              exact hr ⟨q2, q3⟩
            have HNO := Lib.hid hno
            clear hno hr
            go_wp2_with fail
            have hB3 := HB3.out
            have hX3 := HX3.out
            exact read_endr _ rfl rfl rfl (by (repeat' (first | with_reducible assumption | with_reducible exact Blk.new _ _ _ | ((with_reducible refine Blk.new' _ _ _ ?_); (simp; done)) | with_reducible refine Blk.alloc ?_ _ | with_reducible refine Blk.drewN ?_ _ | with_reducible refine Blk.drew ?_ | with_reducible apply Blk.put' | ((with_reducible refine Blk.away ?_ ?_ _ _); rotate_left; omega) | rfl | omega))) (by (repeat' (first | with_reducible assumption | with_reducible exact Below.refl _ _ | with_reducible refine Below.alloc ?_ ?_ _ | with_reducible refine Below.setCell ?_ ?_ _ | with_reducible refine Below.drew ?_ | with_reducible refine below_drewN ?_ _ | omega | (simp; done) | (simp; omega)))) (.inr ⟨HNO.out, rfl, rfl, rfl⟩)
    · have hcut : cutN (x :: l) = false ∧ cutD (x :: l) = x :: l := cut_pos x l hx
      obtain ⟨s, hs⟩ : ∃ s : ByteArray, s = S (x :: l) := ⟨_, rfl⟩
      have hsd : s.data.toList = (x :: l) := by rw [hs]
      have hs7 : s.size ≤ 7 := by rw [hs]; show ((x :: l)).toArray.size ≤ 7; rw [List.size_toArray]; simp; omega
      have htv : ∀ (c' : Nat) (v' : Int), c' < 11 → lo c' ≤ v' → v' ≤ hi c' → ltr c :: x :: l = ftxt c' v' → c = c' ∧ sval false (num s.data.toList) = v' ∧ s.size ≤ 5 ∧ ∀ x ∈ s.data.toList, isd x = true := by
        intro c' v' q1 q2 q3 q4
        obtain ⟨t1, t2, t3, t4⟩ := txt_val q1 q2 q3 q4
        rw [hcut.1, hcut.2] at t2
        rw [hcut.2] at t3 t4
        have : s.size = s.data.toList.length := rfl
        rw [this, hsd]
        exact ⟨ltr_inj hc q1 t1, t2, t3, t4⟩
      have HTV := Lib.hid htv
      have tx : ((x.toNat : Int) == 45) = false := by
        rw [beq_eq_false_iff_ne]
        intro e
        exact hx (UInt8.toNat_inj.1 (by have : (45 : UInt8).toNat = 45 := rfl; omega))
      clear hcut hx htv hsd
      go_wp2_with fail
      rw [← hs]
      clear hs e1 e2 e3 tx
      go_loopw [8, 9] (fun q i wr => ∃ j : Nat, j ≤ s.size ∧ i = .int .i64 j ∧ q = .int .i64 (num (s.data.toList.take j)) ∧ (∀ x ∈ s.data.toList.take j, isd x = true) ∧ w1 = wr) (fun _ i _ => (s.size - intOf i).toNat)
      case atStart => exact ⟨0, by omega, rfl, rfl, by simp, rfl⟩
      case round =>
        obtain ⟨j, hj, rfl, rfl, hall, rfl⟩ := hrel
        have HALL := Lib.hid hall
        have hnb := num_bd _ hall
        have hle : bd (s.data.toList.take j).length ≤ bd 7 := bd_mono (by rw [List.length_take]; omega)
        have hb7 : bd 7 = 9999999 := by decide
        obtain ⟨a0, a1⟩ := hnb
        obtain ⟨n, hn⟩ : ∃ n : Int, n = num (s.data.toList.take j) := ⟨_, rfl⟩
        rw [← hn] at a0 a1 ⊢
        have a7 : n ≤ 9999999 := by omega
        clear hall hle hb7 a1
        rcases Nat.lt_or_ge j s.size with hlt | hge
        · have hjs : (j : Int) < (s.size : Int) := by omega
          by_cases hd : isd s[j] = true
          · obtain ⟨c1, c2⟩ := isd_bd hd
            have hd1 : (48 : Int) ≤ (s[j].toNat : Int) := by omega
            have hd2 : (s[j].toNat : Int) ≤ 57 := by omega
            have hE : num (s.data.toList.take (j + 1)) = 10 * n + ((s[j].toNat : Int) - 48) := by
              rw [take_snoc _ _ (show j < s.data.toList.length from hlt), num_snoc, ← hn]
              rfl
            have hA : ∀ x ∈ s.data.toList.take (j + 1), isd x = true := by
              intro x hx
              rw [take_snoc _ _ (show j < s.data.toList.length from hlt), List.mem_append, List.mem_singleton] at hx
              rcases hx with hx | rfl
              · exact HALL.out x hx
              · exact hd
            have HE := Lib.hid hE
            have HA := Lib.hid hA
            clear hE hA hn hd
            go_wp2_with fail
            go_roundw
            case rel => exact ⟨j + 1, by omega, by go_num, by rw [HE.out]; go_num, HA.out, trivial⟩
            case measure => simp [intOf]; omega
          · have hd' : isd s[j] = false := by simpa using hd
            have hcb : s[j].toNat < 48 ∨ (48 ≤ s[j].toNat ∧ 57 < s[j].toNat) := by
              have : ¬ (48 ≤ s[j].toNat ∧ s[j].toNat ≤ 57) := by simpa [isd] using hd
              omega
            have hno : NoTxt (ltr c :: x :: l) := by
              intro c' v' q1 q2 q3 q4
              have := (HTV.out c' v' q1 q2 q3 q4).2.2.2 s[j] (List.mem_of_getElem? (byte_at s j hlt))
              rw [this] at hd'
              cases hd'
            have HNO := Lib.hid hno
            clear hno hd hd' hn
            have hu0 := HB1.out.cell 0
            have hu1 := HB1.out.cell 1
            have hg0 := HB1.out.frozen 0
            have hg1 := HB1.out.frozen 1
            have hlb := HB1.out.lt
            simp at hu0 hu1
            rcases hcb with hcb | ⟨hcb, hcb2⟩
            · have hd1 : (s[j].toNat : Int) < 48 := by omega
              clear hcb
              go_wp2_with fail
              have hB := HB1.out
              have hX := HX1.out
              exact read_endr _ rfl rfl rfl (by (repeat' (first | with_reducible assumption | with_reducible exact Blk.new _ _ _ | ((with_reducible refine Blk.new' _ _ _ ?_); (simp; done)) | with_reducible refine Blk.alloc ?_ _ | with_reducible refine Blk.drewN ?_ _ | with_reducible refine Blk.drew ?_ | with_reducible apply Blk.put' | ((with_reducible refine Blk.away ?_ ?_ _ _); rotate_left; omega) | rfl | omega))) (by (repeat' (first | with_reducible assumption | with_reducible exact Below.refl _ _ | with_reducible refine Below.alloc ?_ ?_ _ | with_reducible refine Below.setCell ?_ ?_ _ | with_reducible refine Below.drew ?_ | with_reducible refine below_drewN ?_ _ | omega | (simp; done) | (simp; omega)))) (.inr ⟨HNO.out, rfl, rfl, rfl⟩)
            · have hd1 : (48 : Int) ≤ (s[j].toNat : Int) := by omega
              have hd2 : (57 : Int) < (s[j].toNat : Int) := by omega
              clear hcb hcb2
              go_wp2_with fail
              have hB := HB1.out
              have hX := HX1.out
              exact read_endr _ rfl rfl rfl (by (repeat' (first | with_reducible assumption | with_reducible exact Blk.new _ _ _ | ((with_reducible refine Blk.new' _ _ _ ?_); (simp; done)) | with_reducible refine Blk.alloc ?_ _ | with_reducible refine Blk.drewN ?_ _ | with_reducible refine Blk.drew ?_ | with_reducible apply Blk.put' | ((with_reducible refine Blk.away ?_ ?_ _ _); rotate_left; omega) | rfl | omega))) (by (repeat' (first | with_reducible assumption | with_reducible exact Below.refl _ _ | with_reducible refine Below.alloc ?_ ?_ _ | with_reducible refine Below.setCell ?_ ?_ _ | with_reducible refine Below.drew ?_ | with_reducible refine below_drewN ?_ _ | omega | (simp; done) | (simp; omega)))) (.inr ⟨HNO.out, rfl, rfl, rfl⟩)
        · obtain rfl : j = s.size := by omega
          have hfull : s.data.toList.take s.size = s.data.toList := List.take_of_length_le (Nat.le_refl _)
          rw [hfull] at hn
          have hval : ∀ (c' : Nat) (v' : Int), c' < 11 → lo c' ≤ v' → v' ≤ hi c' → ltr c :: x :: l = ftxt c' v' → c = c' ∧ n = v' := by
            intro c' v' q1 q2 q3 q4
            have q := HTV.out c' v' q1 q2 q3 q4
            rw [← hn] at q
            exact ⟨q.1, q.2.1⟩
          have HVAL := Lib.hid hval
          clear hval hn HTV HALL hfull
          go_wp2_with fail
          have hB2 := HB1.out.alloc (.cells #[.int .i64 ((c : Int) + 1), .int .i64 n] 23)
          have hC2 := Blk.new w1 23 #[.int .i64 ((c : Int) + 1), .int .i64 n]
          have hX2 := HX1.out.alloc HX1.out.size (.cells #[.int .i64 ((c : Int) + 1), .int .i64 n] 23)
          refine (rformat_any c hc n _).mono ?_
          rintro r w3 ⟨hor, hb3⟩
          have hB3 := hB2.below hb3 hB2.lt
          have hC3 := hC2.below hb3 hC2.lt
          have HX3 := Lib.hid (hX2.trans (hb3.mono hX2.size))
          have hv0 := hC3.cell 0
          have hv1 := hC3.cell 1
          have hu0 := hB3.cell 0
          have hu1 := hB3.cell 1
          have hg0 := hB3.frozen 0
          have hg1 := hB3.frozen 1
          have hlb := hB3.lt
          have hlc := hC3.lt
          simp at hv0 hv1 hu0 hu1
          have HB3 := Lib.hid hB3
          clear hb3 hB2 hC2 hX2 hB3 hC3
          rcases hor with ⟨⟨r1, r2⟩, rfl⟩ | ⟨hr, rfl⟩
          · by_cases he : ltr c :: x :: l = ftxt c n
            · have HE := Lib.hid he
              rw [he]
              clear he
              go_wp2_with fail
              have hB3 := HB3.out
              have hX3 := HX3.out
              exact read_endr _ rfl rfl rfl (by (repeat' (first | with_reducible assumption | with_reducible exact Blk.new _ _ _ | ((with_reducible refine Blk.new' _ _ _ ?_); (simp; done)) | with_reducible refine Blk.alloc ?_ _ | with_reducible refine Blk.drewN ?_ _ | with_reducible refine Blk.drew ?_ | with_reducible apply Blk.put' | ((with_reducible refine Blk.away ?_ ?_ _ _); rotate_left; omega) | rfl | omega))) (by (repeat' (first | with_reducible assumption | with_reducible exact Below.refl _ _ | with_reducible refine Below.alloc ?_ ?_ _ | with_reducible refine Below.setCell ?_ ?_ _ | with_reducible refine Below.drew ?_ | with_reducible refine below_drewN ?_ _ | omega | (simp; done) | (simp; omega)))) (.inl ⟨c, n, hc, r1, r2, HE.out, rfl, rfl, rfl⟩)
            · have hno : NoTxt (ltr c :: x :: l) := by
                intro c' v' q1 q2 q3 q4
                obtain ⟨rfl, rfl⟩ := HVAL.out c' v' q1 q2 q3 q4
                exact he q4
              have HNO := Lib.hid hno
              have t1 : (ftxt c n == ltr c :: x :: l) = false := by rw [beq_eq_false_iff_ne]; exact fun e => he e.symm
              have t2 : (ftxt c n = ltr c :: x :: l) = False := eq_false fun e => he e.symm
              clear hno he
              go_wp2_with fail
              have hB3 := HB3.out
              have hX3 := HX3.out
              exact read_endr _ rfl rfl rfl (by (repeat' (first | with_reducible assumption | with_reducible exact Blk.new _ _ _ | ((with_reducible refine Blk.new' _ _ _ ?_); (simp; done)) | with_reducible refine Blk.alloc ?_ _ | with_reducible refine Blk.drewN ?_ _ | with_reducible refine Blk.drew ?_ | with_reducible apply Blk.put' | ((with_reducible refine Blk.away ?_ ?_ _ _); rotate_left; omega) | rfl | omega))) (by (repeat' (first | with_reducible assumption | with_reducible exact Below.refl _ _ | with_reducible refine Below.alloc ?_ ?_ _ | with_reducible refine Below.setCell ?_ ?_ _ | with_reducible refine Below.drew ?_ | with_reducible refine below_drewN ?_ _ | omega | (simp; done) | (simp; omega)))) (.inr ⟨HNO.out, rfl, rfl, rfl⟩)
          · have hno : NoTxt (ltr c :: x :: l) := by
              intro c' v' q1 q2 q3 q4
              obtain ⟨rfl, rfl⟩ := HVAL.out c' v' q1 q2 q3 q4
              exact hr ⟨q2, q3⟩
            have HNO := Lib.hid hno
            clear hno hr
            go_wp2_with fail
            have hB3 := HB3.out
            have hX3 := HX3.out
            exact read_endr _ rfl rfl rfl (by (repeat' (first | with_reducible assumption | with_reducible exact Blk.new _ _ _ | ((with_reducible refine Blk.new' _ _ _ ?_); (simp; done)) | with_reducible refine Blk.alloc ?_ _ | with_reducible refine Blk.drewN ?_ _ | with_reducible refine Blk.drew ?_ | with_reducible apply Blk.put' | ((with_reducible refine Blk.away ?_ ?_ _ _); rotate_left; omega) | rfl | omega))) (by (repeat' (first | with_reducible assumption | with_reducible exact Below.refl _ _ | with_reducible refine Below.alloc ?_ ?_ _ | with_reducible refine Below.setCell ?_ ?_ _ | with_reducible refine Below.drew ?_ | with_reducible refine below_drewN ?_ _ | omega | (simp; done) | (simp; omega)))) (.inr ⟨HNO.out, rfl, rfl, rfl⟩)
  · refine (rbyletter_bad [b] (fun c hc e => hlt ⟨c, hc, by injection e⟩) _).mono ?_
    have HLT := Lib.hid hlt
    clear hlt
    rintro r w1 ⟨rfl, hb1⟩
    have hB1 := HB.out.below hb1 HB.out.lt
    have HX1 := Lib.hid (HX.out.trans (hb1.mono HX.out.size))
    have hu0 := hB1.cell 0
    have hu1 := hB1.cell 1
    have hg0 := hB1.frozen 0
    have hg1 := hB1.frozen 1
    have hlb := hB1.lt
    simp at hu0 hu1
    have HB1 := Lib.hid hB1
    clear hB1 hb1
    go_wp2_with fail
    have hB := HB1.out
    have hX := HX1.out
    refine read_endr _ rfl rfl rfl (by (repeat' (first | with_reducible assumption | with_reducible exact Blk.new _ _ _ | ((with_reducible refine Blk.new' _ _ _ ?_); (simp; done)) | with_reducible refine Blk.alloc ?_ _ | with_reducible refine Blk.drewN ?_ _ | with_reducible refine Blk.drew ?_ | with_reducible apply Blk.put' | ((with_reducible refine Blk.away ?_ ?_ _ _); rotate_left; omega) | rfl | omega))) (by (repeat' (first | with_reducible assumption | with_reducible exact Below.refl _ _ | with_reducible refine Below.alloc ?_ ?_ _ | with_reducible refine Below.setCell ?_ ?_ _ | with_reducible refine Below.drew ?_ | with_reducible refine below_drewN ?_ _ | omega | (simp; done) | (simp; omega)))) (.inr ⟨?_, rfl, rfl, rfl⟩)
    intro c v hc h1 h2 e
    exact HLT.out ⟨c, hc, (txt_val hc h1 h2 e).1⟩
end Go.Proofs.YtpjnlbippcgnoaaDoor
