/-
  The walk of ElementSorted: it returns true for any arguments.
-/
import Derived.Test.YtpjnlbippcgnoaaDoorPso
import Derived.Test.YtpjnlbippcgnoaaDoorStp
namespace Go.Proofs.YtpjnlbippcgnoaaDoor
open Go.RowKit Go.Proofs.YtpjnlbippcgnoaaDoorW.PrintWords PElementAnswers

theorem at_int {w : World} {A : Option Addr} {n : Nat} {P : List Int} (h : Kd.C (Kd.int .i64) w A n P) (i : Int) (h0 : 0 ≤ i) (h1 : i < n) : ∃ ad, A = some ad ∧ w.cell? (ad.add i.toNat) = some (.int .i64 (rd P i)) := by
  obtain ⟨ad, c, e, _, hK, hc0⟩ := Kd.C_get h 0 i h0 h1
  have hK' : c = [.int .i64 (P.getD i.toNat 0)] := hK
  subst hK'
  have := hc0 0 _ rfl
  exact ⟨ad, e, by simpa [Kd.int, Kd.scalar, rd] using this⟩

set_option maxRecDepth 20000 in
set_option maxHeartbeats 8000000 in
theorem elementSorted_walk (W : World) (A1 : Option Addr) (l : List Int) (c1 : Nat) (hB : Bnd W) (h1 : Kd.C (Kd.int .i64) W A1 l.length l) (hc1 : l.length ≤ c1) :
    Calls Tryd.prog 5 #[.slice A1 l.length c1] W fun e w' => e = .returned (.bool true) ∧ Below W.heap.size W w' := by
  have HB := Lib.hid hB
  have H1 := Lib.hid h1
  clear hB h1
  have h0 := HB.out.lt
  obtain ⟨l', en, hs⟩ := new_p l
  have HS := Lib.hid hs
  have HE := Lib.hid en
  clear hs en
  go_enter Tryd.func5, Tryd.ntmps5
  go_wp2_with fail
  refine (synoptickeep_New.calls A1 c1 l _ _ W W (Below.refl _ _) H1.out hc1 HE.out).mono ?_
  rintro e w1 ⟨g, rfl, hi1, hb1, _⟩
  have HI1 := Lib.hid hi1
  have HB1 := Lib.hid hb1
  clear hi1 hb1
  obtain ⟨x, k2, ex, hx, hs2⟩ := list_p HS.out
  have HX := Lib.hid hx
  have HEX := Lib.hid ex
  have HS2 := Lib.hid hs2
  have hxl := hx.1
  clear hx ex hs2
  go_wp2_with fail
  refine (synopticref04_List.calls 12 g l' 0 x k2 W _ HI1.out HB1.out HEX.out).mono ?_
  rintro e w2 ⟨v2, rfl, hr2, hi2, hb2, _⟩
  have HI2 := Lib.hid hi2
  have HB2 := Lib.hid hb2
  obtain ⟨AX, cX, rfl, hlX, _⟩ := Kd.R_reads hr2
  have HR2 := Lib.hid (Kd.R_mono (ok' := fun k => k ≠ g) (IsS62.apart hi2 (Kd.R_lower hr2 HB1.out.size) (by decide)) (fun _ h => h.2))
  clear hi2 hb2 hr2 HI1 HB1
  go_wp2_with fail
  refine (order_any W _ g l' k2 x.length (by omega) HI2.out HB2.out HS2.out).mono ?_
  rintro e w3 ⟨v3, P, k3, rfl, hP, hr3, hi3, hs3, hb3, hk3⟩
  have HP := Lib.hid hP
  have hPl := hP.length
  have HI3 := Lib.hid hi3
  have HS3 := Lib.hid hs3
  have HB3 := Lib.hid hb3
  have HR3 := Lib.hid (Kd.R_keep HR2.out hk3 (fun _ h => h))
  obtain ⟨AP, cP, rfl, _, hCP⟩ := Kd.R_reads hr3
  have HCP := Lib.hid hCP
  have HPL := Lib.hid hPl
  have hpb : P.length ≤ 11 := by omega
  clear hP hr3 hi3 hs3 hb3 hk3 hCP hPl HI2 HB2 HS2 HR2
  have HCX3 : Hid (Kd.C k23 w3 AX x.length x) := Lib.hid (by obtain ⟨A', c', e', _, h'⟩ := Kd.R_reads HR3.out; cases e'; exact h')
  go_wp2_with fail
  go_loopw [5, 6, 20] (fun v s i wr => ∃ j : Nat, j ≤ P.length ∧ i = .int .i64 j ∧ s = .bool (srt P j) ∧ Hid (Kd.R k23 23 wr w3.heap.size (fun _ => True) v (pick x P j)) ∧ Hid (Below w3.heap.size w3 wr)) (fun _ _ i _ => P.length - (intOf i).toNat)
  case atStart => exact ⟨0, Nat.zero_le _, rfl, rfl, Lib.hid (Kd.R_nil _ _ _ _ _), Lib.hid (Below.refl _ _)⟩
  case round =>
    obtain ⟨j, hj, rfl, rfl, HR, HBr⟩ := hrel
    by_cases hlt : j < P.length
    · have hltz : (j : Int) < (P.length : Int) := by omega
      obtain ⟨adP, rfl, hcp⟩ := at_int (Kd.C_below HCP.out HBr.out) (j : Int) (by omega) hltz
      have hb := HP.out.bd (i := j) (by rw [← HPL.out]; exact hlt)
      obtain ⟨adX, rfl, hcx0, hcx1⟩ := at_T23 (Kd.C_below HCX3.out HBr.out) (rd P (j : Int)) hb.1 hb.2
      rw [Int.toNat_natCast] at hcp
      have HPS := Lib.hid (pick_succ x P hlt)
      have HSS := Lib.hid (srt_succ P j)
      generalize rd P (j : Int) = q at *
      obtain ⟨hb1, hb2⟩ := hb
      obtain ⟨k, rfl⟩ := Int.eq_ofNat_of_zero_le hb1
      rw [Int.toNat_natCast] at hcx0 hcx1
      generalize hy : rd_T23 x (k : Int) = y at *
      cases hsj : srt P j with
      | true =>
        rw [hsj] at HSS
        by_cases hjk : k = j
        · have hq : ((j : Int) == (k : Int)) = true := by rw [beq_iff_eq]; omega
          have HD := Lib.hid (decide_eq_true (show (k : Int) = (j : Int) by omega))
          clear hjk
          go_wp2_with ((at_builtin; refine Kd.R_append k23 (w0 := w3) w3.heap.size rfl (.tmp 31) (.tmp 36) 45 23 (.agg #[.int .i64 0, .int .i64 0]) 16 rfl Tryd.underlying45 info23 rfl (by decide) (by omega) u5 (pick x P j) y [.int .i64 y.f0, .int .i64 y.f1] (fun _ => True) (fun _ => False) rfl rfl (k23_mkM _ _ _ y) (fun _ hk => hk.elim) (fun _ _ => trivial) HR.out HBr.out HBr.out.size (by rw [pick_length x P hj]; omega) ?_; intro v7 w7 hr7 hb7 _ _; have HR7 := Lib.hid hr7; have HB7 := Lib.hid hb7; clear hr7 hb7))
          go_roundw
          case rel => exact ⟨j + 1, by omega, by go_num, (by rw [HSS.out, HD.out]; rfl), (by rw [HPS.out]; exact HR7), HB7⟩
          case measure => simp [intOf]; omega
        · have hq : ((j : Int) == (k : Int)) = false := by rw [beq_eq_false_iff_ne]; omega
          have HD := Lib.hid (decide_eq_false (show ¬ (k : Int) = (j : Int) by omega))
          clear hjk
          go_wp2_with ((at_builtin; refine Kd.R_append k23 (w0 := w3) w3.heap.size rfl (.tmp 31) (.tmp 36) 45 23 (.agg #[.int .i64 0, .int .i64 0]) 16 rfl Tryd.underlying45 info23 rfl (by decide) (by omega) u5 (pick x P j) y [.int .i64 y.f0, .int .i64 y.f1] (fun _ => True) (fun _ => False) rfl rfl (k23_mkM _ _ _ y) (fun _ hk => hk.elim) (fun _ _ => trivial) HR.out HBr.out HBr.out.size (by rw [pick_length x P hj]; omega) ?_; intro v7 w7 hr7 hb7 _ _; have HR7 := Lib.hid hr7; have HB7 := Lib.hid hb7; clear hr7 hb7))
          go_roundw
          case rel => exact ⟨j + 1, by omega, by go_num, (by rw [HSS.out, HD.out]; rfl), (by rw [HPS.out]; exact HR7), HB7⟩
          case measure => simp [intOf]; omega
      | false =>
        rw [hsj] at HSS
        go_wp2_with ((at_builtin; refine Kd.R_append k23 (w0 := w3) w3.heap.size rfl (.tmp 31) (.tmp 36) 45 23 (.agg #[.int .i64 0, .int .i64 0]) 16 rfl Tryd.underlying45 info23 rfl (by decide) (by omega) u5 (pick x P j) y [.int .i64 y.f0, .int .i64 y.f1] (fun _ => True) (fun _ => False) rfl rfl (k23_mkM _ _ _ y) (fun _ hk => hk.elim) (fun _ _ => trivial) HR.out HBr.out HBr.out.size (by rw [pick_length x P hj]; omega) ?_; intro v7 w7 hr7 hb7 _ _; have HR7 := Lib.hid hr7; have HB7 := Lib.hid hb7; clear hr7 hb7))
        go_roundw
        case rel => exact ⟨j + 1, by omega, by go_num, (by rw [HSS.out]; rfl), (by rw [HPS.out]; exact HR7), HB7⟩
        case measure => simp [intOf]; omega
    · obtain rfl : j = P.length := by omega
      have hltz : ¬ (P.length : Int) < (P.length : Int) := by omega
      have HV : Hid (vld (pick x P P.length) = if srt P P.length then 0 else 8) := Lib.hid (by rw [HPL.out]; exact vld_pick HX.out HP.out)
      have hpl : (pick x P P.length).length ≤ 11 := by rw [pick_length x P (Nat.le_refl P.length)]; omega
      have HR4 := Lib.hid (Kd.R_below HR3.out HBr.out)
      have HI4 := Lib.hid (IsS62.below HI3.out HBr.out)
      have HB4 := Lib.hid (HB3.out.trans (HBr.out.mono HB3.out.size))
      obtain ⟨AY, cY, rfl, _, hCY⟩ := Kd.R_reads HR.out
      have HCY := Lib.hid hCY
      clear hCY HI3 HB3 HCX3 HBr HCP HR3
      generalize hyy : pick x P P.length = y at *
      clear hyy HR
      have hsp : (srt P P.length = true ∧ vld y = 0) ∨ (srt P P.length = false ∧ vld y = 8) := by
        cases hs : srt P P.length with
        | true => exact .inl ⟨rfl, by rw [HV.out, hs]; rfl⟩
        | false => exact .inr ⟨rfl, by rw [HV.out, hs]; rfl⟩
      clear HV
      generalize srt P P.length = sp at hsp ⊢
      have hreach : ∀ w', Below wr.heap.size wr w' → Hid (Below W.heap.size W w') ∧ Hid (Kd.R k23 23 w' W.heap.size (fun k => k ≠ g) (.slice AX x.length cX) x) ∧ Hid (IsS62 W w' g l' k3) := fun w' hb => ⟨Lib.hid (HB4.out.trans (hb.mono HB4.out.size)), Lib.hid (Kd.R_below HR4.out hb), Lib.hid (IsS62.below HI4.out hb)⟩
      have HRE := Lib.hid hreach
      clear hreach
      rcases hsp with ⟨rfl, hv⟩ | ⟨rfl, hv⟩
      · go_wp2_with fail
        refine (validate_any AY y cY _ HCY.out (by omega) (HB.out.below HB4.out h0)).mono ?_
        rw [hv]
        rintro e w5 ⟨rfl, hb5⟩
        obtain ⟨HB5, HR5, HI5⟩ := HRE.out _ hb5
        clear hb5 hv HRE HB4 HR4 HI4 HCY
        rcases Nat.eq_zero_or_pos x.length with hx0 | hx0
        · have hxz : ((x.length : Int) == 0) = true := by rw [beq_iff_eq]; omega
          go_wp2_with ((go_at_call 8; refine (awake_any _ (HB.out.below HB5.out h0)).mono ?_; rintro e w12 ⟨rfl, hb12⟩))
          go_ret
          exact ⟨rfl, HB5.out.trans (hb12.mono HB5.out.size)⟩
        · have hxz : ((x.length : Int) == 0) = false := by rw [beq_eq_false_iff_ne]; omega
          obtain ⟨q, k4, e4, q0, q1, hs4⟩ := n_p (n := (x.length : Int)) HS3.out (by omega) (by omega)
          obtain ⟨k, rfl⟩ := Int.eq_ofNat_of_zero_le q0
          have HE4 := Lib.hid e4
          clear e4 hs4
          go_wp2_with fail
          refine (synoptickeep_Src_N.calls g l' k3 _ _ k4 W _ HI5.out HB5.out HE4.out).mono ?_
          rintro e w6 ⟨rfl, hi6, hb6, hk6⟩
          have HB6 := Lib.hid hb6
          have hR6 := Kd.R_keep HR5.out hk6 (fun _ h => h)
          obtain ⟨A', c', e', _, hC6⟩ := Kd.R_reads hR6
          cases e'
          have HC6 := Lib.hid hC6
          obtain ⟨ad, rfl, hx0', hx1'⟩ := at_T23 hC6 (k : Int) (by omega) q1
          rw [Int.toNat_natCast] at hx0' hx1'
          generalize hyk : rd_T23 x (k : Int) = y at hx0' hx1'
          have HYK := Lib.hid hyk
          have hadl : ad.block < w6.heap.size := by have := World.block_lt_of_cell? w6 _ hx0'; rwa [block_add] at this
          clear hi6 hb6 hk6 hR6 hC6 HB5 HR5 HI5 HE4 hyk
          have hw1 : IntKind.i64.wrap ((k : Int) + 1) = (k : Int) + 1 := wr_i _ (by omega) (by omega)
          have hkx : k + 1 ≤ x.length := by omega
          have hkn : ((k : Int) + 1).toNat = k + 1 := by omega
          obtain ⟨i0, hi0, _, hz1, _⟩ := info_parts info23
          have hs1 := cut_to (P := Tryd.prog) 45 23 .i64 Tryd.underlying45 hi0 (some ad) x.length cX ((k : Int) + 1) (by omega) (by omega) hlX
          have hs2 := cut_from (P := Tryd.prog) 45 23 .i64 Tryd.underlying45 hi0 2 hz1 (some ad) x.length cX ((k : Int) + 1) (by omega) (by omega)
          rw [hkn] at hs1 hs2
          have hT := Kd.C_take HC6.out hkx
          have hD := Kd.C_drop HC6.out hkx hlX
          rw [List.length_take, Nat.min_eq_left hkx] at hT
          rw [List.length_drop, show k23.sz = 2 from rfl] at hD
          generalize (if cX = k + 1 then some ad else Option.map (fun z => z.add ((k + 1) * 2)) (some ad)) = AD at hs2 hD
          have HT := Lib.hid hT
          have HD := Lib.hid hD
          have hTl : (x.take (k + 1)).length ≤ 11 := by rw [List.length_take]; omega
          clear hT hD hkn hi0 hz1
          have HVT : Hid (vld ([] ++ x.take (k + 1) ++ [y] ++ x.drop (k + 1)) = 8) := Lib.hid (by
            have q := vld_twice HX.out (show k < x.length by omega)
            rw [twice, HYK.out] at q
            rw [List.nil_append]
            exact q)
          have hTT : ([] ++ x.take (k + 1) ++ [y] ++ x.drop (k + 1)).length ≤ 30 := by simp; omega
          go_wp2_with fail
          go_region_held3 (fun w' => w'.cell? (ad.add (k * 2)) = some (.int .i64 y.f0) ∧ w'.cell? ⟨(ad.add (k * 2)).block, (ad.add (k * 2)).off + 1, none⟩ = some (.int .i64 y.f1))
            (first
              | exact ⟨(hb8.cell (p := ad.add (k * 2)) (by rw [block_add]; exact hadl)).trans hx0', (hb8.cell (p := ⟨(ad.add (k * 2)).block, (ad.add (k * 2)).off + 1, none⟩) (by show (ad.add (k * 2)).block < _; rw [block_add]; exact hadl)).trans hx1'⟩
              | exact ⟨(hb9.cell (p := ad.add (k * 2)) (by rw [block_add]; exact hadl)).trans hx0', (hb9.cell (p := ⟨(ad.add (k * 2)).block, (ad.add (k * 2)).off + 1, none⟩) (by show (ad.add (k * 2)).block < _; rw [block_add]; exact hadl)).trans hx1'⟩
              | exact ⟨(hb10.cell (p := ad.add (k * 2)) (by rw [block_add]; exact hadl)).trans hx0', (hb10.cell (p := ⟨(ad.add (k * 2)).block, (ad.add (k * 2)).off + 1, none⟩) (by show (ad.add (k * 2)).block < _; rw [block_add]; exact hadl)).trans hx1'⟩
              | go_keep)
            ((first
              | (refine stepX (by rfl) (.tmp 61) (.tmp 65) (by rfl) w6 _ (.slice (some ⟨_, 0, none⟩) 0 0) [] (x.take (k + 1)) _ _ _ (by rfl) (by rfl) (by repeat' (first | with_reducible refine litR _ _ _ ?_ ?_ | with_reducible apply Kd.R_alloc | with_reducible apply Kd.R_drewN | with_reducible apply Kd.R_drew | (simp; done) | (simp; omega))) HT.out (by repeat' (first | with_reducible assumption | with_reducible exact Below.refl _ _ | with_reducible refine Below.alloc ?_ ?_ _ | with_reducible refine Below.drew ?_ | with_reducible refine below_drewN ?_ _ | omega | (simp; done) | (simp; omega))) (by simp; omega) ?_; intro v8 w8 hr8 hb8 hg8 hat8)
              | (refine stepB (by rfl) (.tmp 66) (.tmp 71) (by rfl) w6 _ v8 ([] ++ x.take (k + 1)) y _ _ (by rfl) (by rfl) (by with_reducible repeat (first | exact hr8 | apply Kd.R_alloc | apply Kd.R_drewN | apply Kd.R_drew)) (by repeat' (first | with_reducible assumption | with_reducible exact Blk.new _ _ _ | ((with_reducible refine Blk.new' _ _ _ ?_); (simp; done)) | with_reducible refine Blk.alloc ?_ _ | with_reducible refine Blk.drewN ?_ _ | with_reducible refine Blk.drew ?_ | refine Blk.own ?_ hg8 (by simp [Value.ownBlock]))) (by repeat' (first | with_reducible assumption | with_reducible exact Below.refl _ _ | with_reducible refine Below.alloc ?_ ?_ _ | with_reducible refine Below.drew ?_ | with_reducible refine below_drewN ?_ _ | exact hb8.size | exact hb9.size | omega | (simp; done) | (have := hb8.size; simp; omega))) (by simp; omega) ?_; intro v9 w9 hr9 hb9)
              | (refine stepX (by rfl) (.tmp 72) (.tmp 76) (by rfl) w6 _ v9 _ (x.drop (k + 1)) _ _ _ (by rfl) (by rfl) (by with_reducible repeat (first | exact hr9 | apply Kd.R_alloc | apply Kd.R_drewN | apply Kd.R_drew)) HD.out (by repeat' (first | with_reducible assumption | with_reducible exact Below.refl _ _ | with_reducible refine Below.alloc ?_ ?_ _ | with_reducible refine Below.drew ?_ | with_reducible refine below_drewN ?_ _ | exact hb8.size | exact hb9.size | omega | (simp; done) | (have := hb8.size; simp; omega))) (by simp; omega) ?_; intro v10 w10 hr10 hb10 _ _; generalize ([] ++ x.take (k + 1) ++ [y] ++ x.drop (k + 1)) = T at hr10 HVT hTT; obtain ⟨AT, cT, rfl, _, hCT⟩ := Kd.R_reads hr10)))
          all_goals
            have HCT := Lib.hid hCT
            have HB10 := Lib.hid (HB6.out.trans (hb10.mono HB6.out.size))
            clear hCT hb10 hr10 hx0' hx1' hs1 hs2
            go_wp2_with fail
            refine (validate_any AT T cT _ HCT.out (by omega) (HB.out.below HB10.out h0)).mono ?_
            rw [HVT.out]
            rintro e w11 ⟨rfl, hb11⟩
            have HB11 := Lib.hid (HB10.out.trans (hb11.mono HB10.out.size))
            clear hb11
            go_wp2_with ((go_at_call 8; refine (awake_any _ (HB.out.below HB11.out h0)).mono ?_; rintro e w12 ⟨rfl, hb12⟩))
            go_ret
            exact ⟨rfl, HB11.out.trans (hb12.mono HB11.out.size)⟩
      · go_wp2_with fail
        refine (validate_any AY y cY _ HCY.out (by omega) (HB.out.below HB4.out h0)).mono ?_
        rw [hv]
        rintro e w45 ⟨rfl, hb45⟩
        have HB45 := Lib.hid hb45
        have HCY5 := Lib.hid (Kd.C_below HCY.out hb45)
        clear hb45
        go_wp2_with fail
        refine (validate_any AY y cY _ HCY5.out (by omega) (HB.out.below (HB4.out.trans (HB45.out.mono HB4.out.size)) h0)).mono ?_
        rw [hv]
        rintro e w5 ⟨rfl, hb5b⟩
        obtain ⟨HB5, HR5, HI5⟩ := HRE.out _ (HB45.out.trans (hb5b.mono HB45.out.size))
        clear hb5b hv HRE HB4 HR4 HI4 HCY HB45 HCY5
        rcases Nat.eq_zero_or_pos x.length with hx0 | hx0
        · have hxz : ((x.length : Int) == 0) = true := by rw [beq_iff_eq]; omega
          go_wp2_with ((go_at_call 8; refine (awake_any _ (HB.out.below HB5.out h0)).mono ?_; rintro e w12 ⟨rfl, hb12⟩))
          go_ret
          exact ⟨rfl, HB5.out.trans (hb12.mono HB5.out.size)⟩
        · have hxz : ((x.length : Int) == 0) = false := by rw [beq_eq_false_iff_ne]; omega
          obtain ⟨q, k4, e4, q0, q1, hs4⟩ := n_p (n := (x.length : Int)) HS3.out (by omega) (by omega)
          obtain ⟨k, rfl⟩ := Int.eq_ofNat_of_zero_le q0
          have HE4 := Lib.hid e4
          clear e4 hs4
          go_wp2_with fail
          refine (synoptickeep_Src_N.calls g l' k3 _ _ k4 W _ HI5.out HB5.out HE4.out).mono ?_
          rintro e w6 ⟨rfl, hi6, hb6, hk6⟩
          have HB6 := Lib.hid hb6
          have hR6 := Kd.R_keep HR5.out hk6 (fun _ h => h)
          obtain ⟨A', c', e', _, hC6⟩ := Kd.R_reads hR6
          cases e'
          have HC6 := Lib.hid hC6
          obtain ⟨ad, rfl, hx0', hx1'⟩ := at_T23 hC6 (k : Int) (by omega) q1
          rw [Int.toNat_natCast] at hx0' hx1'
          generalize hyk : rd_T23 x (k : Int) = y at hx0' hx1'
          have HYK := Lib.hid hyk
          have hadl : ad.block < w6.heap.size := by have := World.block_lt_of_cell? w6 _ hx0'; rwa [block_add] at this
          clear hi6 hb6 hk6 hR6 hC6 HB5 HR5 HI5 HE4 hyk
          have hw1 : IntKind.i64.wrap ((k : Int) + 1) = (k : Int) + 1 := wr_i _ (by omega) (by omega)
          have hkx : k + 1 ≤ x.length := by omega
          have hkn : ((k : Int) + 1).toNat = k + 1 := by omega
          obtain ⟨i0, hi0, _, hz1, _⟩ := info_parts info23
          have hs1 := cut_to (P := Tryd.prog) 45 23 .i64 Tryd.underlying45 hi0 (some ad) x.length cX ((k : Int) + 1) (by omega) (by omega) hlX
          have hs2 := cut_from (P := Tryd.prog) 45 23 .i64 Tryd.underlying45 hi0 2 hz1 (some ad) x.length cX ((k : Int) + 1) (by omega) (by omega)
          rw [hkn] at hs1 hs2
          have hT := Kd.C_take HC6.out hkx
          have hD := Kd.C_drop HC6.out hkx hlX
          rw [List.length_take, Nat.min_eq_left hkx] at hT
          rw [List.length_drop, show k23.sz = 2 from rfl] at hD
          generalize (if cX = k + 1 then some ad else Option.map (fun z => z.add ((k + 1) * 2)) (some ad)) = AD at hs2 hD
          have HT := Lib.hid hT
          have HD := Lib.hid hD
          have hTl : (x.take (k + 1)).length ≤ 11 := by rw [List.length_take]; omega
          clear hT hD hkn hi0 hz1
          have HVT : Hid (vld ([] ++ x.take (k + 1) ++ [y] ++ x.drop (k + 1)) = 8) := Lib.hid (by
            have q := vld_twice HX.out (show k < x.length by omega)
            rw [twice, HYK.out] at q
            rw [List.nil_append]
            exact q)
          have hTT : ([] ++ x.take (k + 1) ++ [y] ++ x.drop (k + 1)).length ≤ 30 := by simp; omega
          go_wp2_with fail
          go_region_held3 (fun w' => w'.cell? (ad.add (k * 2)) = some (.int .i64 y.f0) ∧ w'.cell? ⟨(ad.add (k * 2)).block, (ad.add (k * 2)).off + 1, none⟩ = some (.int .i64 y.f1))
            (first
              | exact ⟨(hb8.cell (p := ad.add (k * 2)) (by rw [block_add]; exact hadl)).trans hx0', (hb8.cell (p := ⟨(ad.add (k * 2)).block, (ad.add (k * 2)).off + 1, none⟩) (by show (ad.add (k * 2)).block < _; rw [block_add]; exact hadl)).trans hx1'⟩
              | exact ⟨(hb9.cell (p := ad.add (k * 2)) (by rw [block_add]; exact hadl)).trans hx0', (hb9.cell (p := ⟨(ad.add (k * 2)).block, (ad.add (k * 2)).off + 1, none⟩) (by show (ad.add (k * 2)).block < _; rw [block_add]; exact hadl)).trans hx1'⟩
              | exact ⟨(hb10.cell (p := ad.add (k * 2)) (by rw [block_add]; exact hadl)).trans hx0', (hb10.cell (p := ⟨(ad.add (k * 2)).block, (ad.add (k * 2)).off + 1, none⟩) (by show (ad.add (k * 2)).block < _; rw [block_add]; exact hadl)).trans hx1'⟩
              | go_keep)
            ((first
              | (refine stepX (by rfl) (.tmp 61) (.tmp 65) (by rfl) w6 _ (.slice (some ⟨_, 0, none⟩) 0 0) [] (x.take (k + 1)) _ _ _ (by rfl) (by rfl) (by repeat' (first | with_reducible refine litR _ _ _ ?_ ?_ | with_reducible apply Kd.R_alloc | with_reducible apply Kd.R_drewN | with_reducible apply Kd.R_drew | (simp; done) | (simp; omega))) HT.out (by repeat' (first | with_reducible assumption | with_reducible exact Below.refl _ _ | with_reducible refine Below.alloc ?_ ?_ _ | with_reducible refine Below.drew ?_ | with_reducible refine below_drewN ?_ _ | omega | (simp; done) | (simp; omega))) (by simp; omega) ?_; intro v8 w8 hr8 hb8 hg8 hat8)
              | (refine stepB (by rfl) (.tmp 66) (.tmp 71) (by rfl) w6 _ v8 ([] ++ x.take (k + 1)) y _ _ (by rfl) (by rfl) (by with_reducible repeat (first | exact hr8 | apply Kd.R_alloc | apply Kd.R_drewN | apply Kd.R_drew)) (by repeat' (first | with_reducible assumption | with_reducible exact Blk.new _ _ _ | ((with_reducible refine Blk.new' _ _ _ ?_); (simp; done)) | with_reducible refine Blk.alloc ?_ _ | with_reducible refine Blk.drewN ?_ _ | with_reducible refine Blk.drew ?_ | refine Blk.own ?_ hg8 (by simp [Value.ownBlock]))) (by repeat' (first | with_reducible assumption | with_reducible exact Below.refl _ _ | with_reducible refine Below.alloc ?_ ?_ _ | with_reducible refine Below.drew ?_ | with_reducible refine below_drewN ?_ _ | exact hb8.size | exact hb9.size | omega | (simp; done) | (have := hb8.size; simp; omega))) (by simp; omega) ?_; intro v9 w9 hr9 hb9)
              | (refine stepX (by rfl) (.tmp 72) (.tmp 76) (by rfl) w6 _ v9 _ (x.drop (k + 1)) _ _ _ (by rfl) (by rfl) (by with_reducible repeat (first | exact hr9 | apply Kd.R_alloc | apply Kd.R_drewN | apply Kd.R_drew)) HD.out (by repeat' (first | with_reducible assumption | with_reducible exact Below.refl _ _ | with_reducible refine Below.alloc ?_ ?_ _ | with_reducible refine Below.drew ?_ | with_reducible refine below_drewN ?_ _ | exact hb8.size | exact hb9.size | omega | (simp; done) | (have := hb8.size; simp; omega))) (by simp; omega) ?_; intro v10 w10 hr10 hb10 _ _; generalize ([] ++ x.take (k + 1) ++ [y] ++ x.drop (k + 1)) = T at hr10 HVT hTT; obtain ⟨AT, cT, rfl, _, hCT⟩ := Kd.R_reads hr10)))
          all_goals
            have HCT := Lib.hid hCT
            have HB10 := Lib.hid (HB6.out.trans (hb10.mono HB6.out.size))
            clear hCT hb10 hr10 hx0' hx1' hs1 hs2
            go_wp2_with fail
            refine (validate_any AT T cT _ HCT.out (by omega) (HB.out.below HB10.out h0)).mono ?_
            rw [HVT.out]
            rintro e w11 ⟨rfl, hb11⟩
            have HB11 := Lib.hid (HB10.out.trans (hb11.mono HB10.out.size))
            clear hb11
            go_wp2_with ((go_at_call 8; refine (awake_any _ (HB.out.below HB11.out h0)).mono ?_; rintro e w12 ⟨rfl, hb12⟩))
            go_ret
            exact ⟨rfl, HB11.out.trans (hb12.mono HB11.out.size)⟩
end Go.Proofs.YtpjnlbippcgnoaaDoor
