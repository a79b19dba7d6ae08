-- PRINTED BY print.sh 35421559b90ae4d0a3588c463048766b98c2df88dd9212a6774a882060cdf62d: not written by this session
import Derived.Test.YtpjnlbippcgnoaaDoorPElementAnswersx0
import Derived.Test.YtpjnlbippcgnoaaDoorPElementAnswersx4
import Derived.Test.YtpjnlbippcgnoaaDoorPElementAnswersx5
import Derived.Test.YtpjnlbippcgnoaaDoorPElementAnswersx12
namespace Go.Proofs.YtpjnlbippcgnoaaDoor.PElementAnswers
open Go.RowKit Go.Proofs.YtpjnlbippcgnoaaDoorW.PrintWords Go.Proofs.YtpjnlbippcgnoaaDoorW.PrintLast Go.Proofs.YtpjnlbippcgnoaaDoorW.PrintMore
attribute [local go_sem] max2_int min2_int max_two min_two max_three min_three max_four min_four   -- for this text's walks alone
set_option linter.unusedVariables false
set_option linter.unusedSimpArgs false

/-! ### synopticref04_Without: function 30 -/
def synopticref04_Without.l0 : Nat → List (S23) → List Int → List (S23) → Int → Option ((List (S23)))
  | 0, _, _, _, _ => none
  | k + 1, x0, x1, x5, x6 => if x6 < (x0.length : Int) then (if 0 ≤ x6 then ((synoptickeep_In.f k x1 ((rd_T23 x0 x6).f0)).bind fun t224 => (if t224 = true then (synopticref04_Without.l0 k x0 x1 x5 (wrap64 (x6 + 1))) else (if x5.length < 8796093022208 then (synopticref04_Without.l0 k x0 x1 (x5 ++ [(⟨(rd_T23 x0 x6).f0, (rd_T23 x0 x6).f1⟩ : S23)]) (wrap64 (x6 + 1))) else (none)))) else (none)) else (some x5)
def synopticref04_Without.f (k : Nat) (l0 : List (S23)) (l1 : List Int) : Option ((List (S23))) := synopticref04_Without.l0 k l0 l1 ([] : List (S23)) 0
theorem synopticref04_Without.mono_l : ∀ k, (∀ y0 y1 y2 y3, LeO (synopticref04_Without.l0 k y0 y1 y2 y3) (synopticref04_Without.l0 (k + 1) y0 y1 y2 y3))
  | 0 => fun _ _ _ _ r h => by simp [synopticref04_Without.l0] at h
  | k + 1 => by
    have ih0 := synopticref04_Without.mono_l k
    · intro y0 y1 y2 y3
      unfold synopticref04_Without.l0
      repeat' first
      | (with_reducible exact ih0 _ _ _ _)
      | (with_reducible exact synoptickeep_In.mono _ _ _)
      | (with_reducible exact LeO.refl _)
      | (with_reducible exact LeO.none _)
      | (with_reducible refine LeO.ite ?_ ?_)
      | (with_reducible refine LeO.bind ?_ (fun _ => ?_))
      | exact ih0 _ _ _ _
      | exact synoptickeep_In.mono _ _ _
      | exact LeO.none _
      | refine LeO.ite ?_ ?_
      | refine LeO.bind ?_ (fun _ => ?_)
theorem synopticref04_Without.mono : ∀ a0 a1 k, LeO (synopticref04_Without.f k a0 a1) (synopticref04_Without.f (k + 1) a0 a1) := by
  intro a0 a1 k
  have ih0 := synopticref04_Without.mono_l k
  unfold synopticref04_Without.f
  repeat' first
      | (with_reducible exact ih0 _ _ _ _)
      | (with_reducible exact synoptickeep_In.mono _ _ _)
      | (with_reducible exact LeO.refl _)
      | (with_reducible exact LeO.none _)
      | (with_reducible refine LeO.ite ?_ ?_)
      | (with_reducible refine LeO.bind ?_ (fun _ => ?_))
      | exact ih0 _ _ _ _
      | exact synoptickeep_In.mono _ _ _
      | exact LeO.none _
      | refine LeO.ite ?_ ?_
      | refine LeO.bind ?_ (fun _ => ?_)
set_option maxHeartbeats 8000000 in
set_option maxRecDepth 100000 in
theorem synopticref04_Without.calls (k : Nat) (A0 : Option Addr) (c0 : Nat) (l0 : List (S23)) (A1 : Option Addr) (c1 : Nat) (l1 : List Int) (r : List (S23)) (w : World) (hr0 : Kd.C k23 w A0 l0.length l0) (hc0 : l0.length ≤ c0) (hr1 : Kd.C (Kd.int .i64) w A1 l1.length l1) (hc1 : l1.length ≤ c1) (h : synopticref04_Without.f k l0 l1 = some r) :
    Calls Tryd.prog 30 #[.slice A0 l0.length c0, .slice A1 l1.length c1] w fun e w' => ∃ v0_ : Value, e = .returned (v0_) ∧ Kd.R k23 23 w' w.heap.size (fun _ => True) v0_ r ∧ Below w.heap.size w w' := by
  have hu23 := Tryd.underlying23
  have HR0 := Aside0.mk hr0
  have HC0 := Aside0.mk hc0
  clear hr0 hc0
  have HR1 := Aside0.mk hr1
  have HC1 := Aside0.mk hc1
  clear hr1 hc1
  have HB := Aside0.mk (Below.refl w.heap.size w)
  have H : (synopticref04_Without.l0 k l0 l1 ([] : List (S23)) 0) = some r := h
  clear h
  have H' := Aside0.mk H
  clear H
  go_enter Tryd.func30, Tryd.ntmps30
  go_wp2
  go_loopg [5, 6] k (fun kq v5 v6 w' => ∃ (x5_1 : List (S23)) (x6_1 : Int), v6 = .int .i64 x6_1 ∧ Aside0 (synopticref04_Without.l0 kq l0 l1 x5_1 x6_1 = some r) ∧ Aside0 (kq ≤ k) ∧ Aside0 (Kd.R k23 23 w' w.heap.size (fun _ => True) v5 x5_1) ∧ Aside0 (Below w.heap.size w w'))
  case atStart => exact ⟨(([] : List (S23))), (0), (by first | rfl | (simp; done) | (simp [*]; done)), H', ⟨Nat.le_refl _⟩, ⟨by first | exact Kd.R_nil _ _ _ _ _ | exact Kd.N_nil _ _ _ _ _ | exact Kd.V_nil _ _ _ _ _ | exact Kd.Q_nil _ _ _ _ _ | exact Kd.S_nil _ _ _ _ _⟩, ⟨by repeat (first | (with_reducible first | exact HB.out | apply below_alloc | apply pw_below_drewN | apply below_drew1) | exact HB.out)⟩⟩
  case round =>
    clear H'
    try clear c1
    try clear p2
    obtain ⟨x5_1, x6_1, rfl, HA, HK1, HO_5, HB⟩ := hrel
    cases gk with
    | zero => exact absurd HA.out (by simp [synopticref04_Without.l0])
    | succ k1 =>
      have H := HA.out
      clear HA
      simp only [synopticref04_Without.l0] at H
      by_cases c3 : x6_1 < (l0.length : Int)
      · rw [if_pos c3] at H
        have c3b0 : decide (x6_1 < (l0.length : Int)) = true := decide_eq_true c3
        clear c3
        by_cases c4 : 0 ≤ x6_1
        · rw [if_pos c4] at H
          have c4b0 : decide (0 ≤ x6_1) = true := decide_eq_true c4
          clear c4
          replace H := Option.bind_eq_some_iff.mp H
          obtain ⟨t224, A50, H⟩ := H
          replace H : (if t224 = true then (synopticref04_Without.l0 k1 l0 l1 x5_1 (wrap64 (x6_1 + 1))) else (if x5_1.length < 8796093022208 then (synopticref04_Without.l0 k1 l0 l1 (x5_1 ++ [(⟨(rd_T23 l0 x6_1).f0, (rd_T23 l0 x6_1).f1⟩ : S23)]) (wrap64 (x6_1 + 1))) else (none))) = some r := H
          have A5 := Aside0.mk A50
          clear A50
          by_cases c6 : t224 = true
          · subst c6
            have H1 : (synopticref04_Without.l0 k1 l0 l1 x5_1 (wrap64 (x6_1 + 1))) = some r := by rw [if_pos rfl] at H; exact H
            clear H
            have H := H1
            clear H1
            have H' := Aside0.mk H
            clear H
            have p223 : 0 ≤ (x6_1 : Int) := of_decide_eq_true (by first | (with_reducible assumption) | assumption)
            have q223 : x6_1 < (l0.length : Int) := of_decide_eq_true (by first | (with_reducible assumption) | assumption)
            obtain ⟨ad223, e223, hx223_0, hx223_1⟩ := at_T23 HR0.out x6_1 p223 q223
            cases e223
            replace hx223_0 := (HB.out.cell (World.block_lt_of_cell? w _ hx223_0)).trans hx223_0
            replace hx223_1 := (HB.out.cell (World.block_lt_of_cell? w _ hx223_1)).trans hx223_1
            replace p223 := eq_true p223
            replace q223 := eq_true q223
            go_wp2_with (first | ((with_reducible refine gate_callee (f := 33) rfl ?_); refine goesL_ (some 19) rfl rfl Tryd.func33 (by kernel_rfl) rfl #[.slice A1 l1.length c1, .int .i64 ((rd_T23 l0 x6_1).f0)] rfl (by (try simp only [List.map_toArray, List.map_cons, List.map_nil]); first | done | rfl | (simp only [List.length_drop, List.length_take]; rfl)) ?_; (with_reducible refine (synoptickeep_In.calls k1 _ _ l1 ((rd_T23 l0 x6_1).f0) true _ ?side1 ?side2 A5.out).mono ?_); (case side1 => repeat (first | exact (Kd.C_below HR1.out HB.out) | (with_reducible refine Kd.C_alloc ?_ _) | (with_reducible refine Kd.C_drewN ?_ _) | (with_reducible refine Kd.C_drew ?_))); (case side2 => exact HC1.out); rintro e w' ⟨rfl, ⟨nd, rfl⟩⟩; refine ⟨_, rfl, ?_⟩))
            go_roundg k1
            case measure => have := HK1.out; omega
            case rel => exact ⟨(x5_1), (wrap64 (x6_1 + 1)), (by first | rfl | (simp; done) | (simp [*]; done)), H', ⟨by have := HK1.out; omega⟩, ⟨by (with_reducible repeat (first | apply Kd.R_alloc | apply Kd.R_drewN | apply Kd.R_drew)); exact HO_5.out⟩, ⟨by repeat (first | (with_reducible first | exact HB.out | apply below_alloc | apply pw_below_drewN | apply below_drew1) | exact HB.out)⟩⟩
          · replace c6 := Bool.eq_false_iff.mpr c6
            subst c6
            have H1 : (if x5_1.length < 8796093022208 then (synopticref04_Without.l0 k1 l0 l1 (x5_1 ++ [(⟨(rd_T23 l0 x6_1).f0, (rd_T23 l0 x6_1).f1⟩ : S23)]) (wrap64 (x6_1 + 1))) else (none)) = some r := by rw [if_neg (show ¬ (false = true) by decide)] at H; exact H
            clear H
            have H := H1
            clear H1
            by_cases c7 : x5_1.length < 8796093022208
            · rw [if_pos c7] at H
              have LMc7 := Aside0.mk c7
              clear c7
              obtain ⟨y226, hy226⟩ : ∃ y_ : List (S23), y_ = (x5_1 ++ [(⟨(rd_T23 l0 x6_1).f0, (rd_T23 l0 x6_1).f1⟩ : S23)]) := ⟨_, rfl⟩
              replace H : (synopticref04_Without.l0 k1 l0 l1 y226 (wrap64 (x6_1 + 1))) = some r := by first | (rw [hy226]; with_reducible exact H) | (have H2_ := (Option.bind_some _ _).symm.trans H; rw [hy226]; with_reducible exact H2_) | (have H2_ := (Option.bind_some _ _).symm.trans H; with_reducible exact H2_) | with_reducible exact H | (rw [hy226]; exact H) | exact H
              have Ny226 := Aside0.mk hy226
              clear hy226
              have H' := Aside0.mk H
              clear H
              have p223 : 0 ≤ (x6_1 : Int) := of_decide_eq_true (by first | (with_reducible assumption) | assumption)
              have q223 : x6_1 < (l0.length : Int) := of_decide_eq_true (by first | (with_reducible assumption) | assumption)
              obtain ⟨ad223, e223, hx223_0, hx223_1⟩ := at_T23 HR0.out x6_1 p223 q223
              cases e223
              replace hx223_0 := (HB.out.cell (World.block_lt_of_cell? w _ hx223_0)).trans hx223_0
              replace hx223_1 := (HB.out.cell (World.block_lt_of_cell? w _ hx223_1)).trans hx223_1
              replace p223 := eq_true p223
              replace q223 := eq_true q223
              go_wp2_with (first | ((with_reducible refine gate_callee (f := 33) rfl ?_); refine goesL_ (some 19) rfl rfl Tryd.func33 (by kernel_rfl) rfl #[.slice A1 l1.length c1, .int .i64 ((rd_T23 l0 x6_1).f0)] rfl (by (try simp only [List.map_toArray, List.map_cons, List.map_nil]); first | done | rfl | (simp only [List.length_drop, List.length_take]; rfl)) ?_; (with_reducible refine (synoptickeep_In.calls k1 _ _ l1 ((rd_T23 l0 x6_1).f0) false _ ?side1 ?side2 A5.out).mono ?_); (case side1 => repeat (first | exact (Kd.C_below HR1.out HB.out) | (with_reducible refine Kd.C_alloc ?_ _) | (with_reducible refine Kd.C_drewN ?_ _) | (with_reducible refine Kd.C_drew ?_))); (case side2 => exact HC1.out); rintro e w' ⟨rfl, ⟨nd, rfl⟩⟩; refine ⟨_, rfl, ?_⟩; have p225 : 0 ≤ (x6_1 : Int) := of_decide_eq_true (by first | (with_reducible assumption) | assumption); have q225 : x6_1 < (l0.length : Int) := of_decide_eq_true (by first | (with_reducible assumption) | assumption); obtain ⟨ad225, e225, hx225_0, hx225_1⟩ := at_T23 HR0.out x6_1 p225 q225; obtain rfl : ad223 = ad225 := (by injection e225); replace hx225_0 := (HB.out.cell (World.block_lt_of_cell? w _ hx225_0)).trans hx225_0; replace hx225_1 := (HB.out.cell (World.block_lt_of_cell? w _ hx225_1)).trans hx225_1; replace p225 := eq_true p225; replace q225 := eq_true q225) | ((with_reducible refine gate_builtin (b := .append) (xs := #[.tmp 21, .tmp 26]) rfl ?_); at_builtin; refine Kd.R_append k23 (w0 := w) w.heap.size rfl (.tmp 21) (.tmp 26) 45 23 (.agg #[(.int .i64 0), (.int .i64 0)]) 16 rfl Tryd.underlying45 info23 rfl (by decide) (by omega) u5 x5_1 (⟨(rd_T23 l0 x6_1).f0, (rd_T23 l0 x6_1).f1⟩ : S23) [.int .i64 ((rd_T23 l0 x6_1).f0), .int .i64 ((rd_T23 l0 x6_1).f1)] (fun _ => True) (fun _ => False) rfl rfl ?aP (fun _ hk => hk.elim) ?aF ?aO ?aB ?aS ?aL ?_; (case aP => exact k23_mkM _ _ _ (⟨(rd_T23 l0 x6_1).f0, (rd_T23 l0 x6_1).f1⟩ : S23)); (case aB => exact (by repeat (first | (with_reducible first | exact HB.out | apply below_alloc | apply pw_below_drewN | apply below_drew1) | exact HB.out))); (case aF => exact (fun _ _ => trivial)); (case aO => exact (by (with_reducible repeat (first | apply Kd.R_alloc | apply Kd.R_drewN | apply Kd.R_drew)); exact HO_5.out)); (case aS => exact (below_size (by repeat (first | (with_reducible first | exact HB.out | apply below_alloc | apply pw_below_drewN | apply below_drew1) | exact HB.out)))); (case aL => have := LMc7.out; omega); intro v227 w8 ho hb hg hat; rw [← Ny226.out] at ho; have n0_ := Aside0.mk (hb); have n1_ := Aside0.mk (ho); clear HB; clear HO_5; have HB := n0_; have HO228 := n1_; clear n0_ n1_; clear ho hb hg hat))
              go_roundg k1
              case measure => have := HK1.out; omega
              case rel => exact ⟨(y226), (wrap64 (x6_1 + 1)), (by first | rfl | (simp; done) | (simp [*]; done)), H', ⟨by have := HK1.out; omega⟩, ⟨by (with_reducible repeat (first | apply Kd.R_alloc | apply Kd.R_drewN | apply Kd.R_drew)); exact HO228.out⟩, ⟨by repeat (first | (with_reducible first | exact HB.out | apply below_alloc | apply pw_below_drewN | apply below_drew1) | exact HB.out)⟩⟩
            · rw [if_neg c7] at H
              exact absurd H (by simp)
        · rw [if_neg c4] at H
          exact absurd H (by simp)
      · rw [if_neg c3] at H
        have c3b0 : decide (x6_1 < (l0.length : Int)) = false := decide_eq_false c3
        clear c3
        obtain rfl := Option.some.inj H
        go_wp2
        go_ret
        exact ⟨_, by first | rfl | (simp [errW_none, errW_some] <;> rfl) | (simp [*, errW_none, errW_some] <;> rfl), by (with_reducible repeat (first | apply Kd.R_alloc | apply Kd.R_drewN | apply Kd.R_drew)); exact HO_5.out, by repeat (first | (with_reducible first | exact HB.out | apply below_alloc | apply pw_below_drewN | apply below_drew1) | exact HB.out)⟩

/-! ### synoptickeep_Src_Text: function 31 -/
def synoptickeep_Src_Text.f (s0_0 : List Int) (s0_1 : Int) (l1 : List ByteArray) : Option (ByteArray × Int) := (synoptickeep_Src_N.f s0_0 s0_1 (l1.length : Int)).bind fun bt229 => (if 0 ≤ bt229.1 then (if bt229.1 < (l1.length : Int) then (some (rdOf ByteArray.empty l1 bt229.1, bt229.2)) else (none)) else (none))
set_option maxHeartbeats 8000000 in
set_option maxRecDepth 100000 in
theorem synoptickeep_Src_Text.calls (g : Nat) (s0_0 : List Int) (s0_1 : Int) (A1 : Option Addr) (c1 : Nat) (l1 : List ByteArray) (r1 : ByteArray) (r2 : Int) (w0 w : World) (hI : IsS62 w0 w g s0_0 s0_1) (hB : Below w0.heap.size w0 w) (hr1 : Kd.C Kd.string w A1 l1.length l1) (hc1 : l1.length ≤ c1) (hf1 : ∀ ad, A1 = some ad → 0 < l1.length → ad.block ≠ g) (h : synoptickeep_Src_Text.f s0_0 s0_1 l1 = some (r1, r2)) :
    Calls Tryd.prog 31 #[.pointer (some ⟨g, 0, none⟩), .slice A1 l1.length c1] w fun e w' => e = .returned (.string r1) ∧ IsS62 w0 w' g s0_0 r2 ∧ Below w0.heap.size w0 w' ∧ KeepBut w w' g none := by
  have HR1 := Aside0.mk hr1
  have HC1 := Aside0.mk hc1
  clear hr1 hc1
  have HI0 := Aside0.mk hI
  have HK := Aside0.mk (KeepBut.refl w g none)
  have HL := Aside0.mk hB.size
  clear hI
  have HW0 := Aside0.mk hB.size
  have HB := Aside0.mk hB
  clear hB
  have H : ((synoptickeep_Src_N.f s0_0 s0_1 (l1.length : Int)).bind fun bt229 => (if 0 ≤ bt229.1 then (if bt229.1 < (l1.length : Int) then (some (rdOf ByteArray.empty l1 bt229.1, bt229.2)) else (none)) else (none))) = some (r1, r2) := h
  clear h
  replace H := Option.bind_eq_some_iff.mp H
  obtain ⟨⟨t229, t230⟩, A30, H⟩ := H
  replace H : (if 0 ≤ t229 then (if t229 < (l1.length : Int) then (some (rdOf ByteArray.empty l1 t229, t230)) else (none)) else (none)) = some (r1, r2) := H
  have A3 := Aside0.mk A30
  clear A30
  by_cases c4 : 0 ≤ t229
  · rw [if_pos c4] at H
    have c4b0 : decide (0 ≤ t229) = true := decide_eq_true c4
    clear c4
    by_cases c5 : t229 < (l1.length : Int)
    · rw [if_pos c5] at H
      have c5b0 : decide (t229 < (l1.length : Int)) = true := decide_eq_true c5
      clear c5
      simp only [Option.some.injEq, Prod.mk.injEq] at H
      obtain ⟨rfl, rfl⟩ := H
      go_enter Tryd.func31, Tryd.ntmps31
      go_wp2_with (first | ((with_reducible refine gate_callee (f := 22) rfl ?_); refine goesL_ (some 9) rfl rfl Tryd.func22 (by kernel_rfl) rfl #[.pointer (some ⟨g, 0, none⟩), .int .i64 (l1.length : Int)] rfl (by (try simp only [List.map_toArray, List.map_cons, List.map_nil]); first | done | rfl | (simp only [List.length_drop, List.length_take]; rfl)) ?_; (with_reducible refine (synoptickeep_Src_N.calls g s0_0 s0_1 (l1.length : Int) t229 t230 w0 _ ?side1 ?side2 A3.out).mono ?_); (case side1 => repeat (first | (with_reducible first | exact HI0.out | apply IsS62.alloc | apply IsS62.drewN | apply IsS62.drew | apply IsS62.set_1) | exact HI0.out)); (case side2 => repeat (first | (with_reducible first | exact HB.out | apply below_alloc | apply pw_below_drewN | apply below_drew1 | refine below_set ?_ (IsS62.ge HI0.out)) | exact HB.out)); rintro e w6 ⟨rfl, hi, hb, hk⟩; refine ⟨_, rfl, ?_⟩; have n0_ := Aside0.mk (KeepBut.trans (by repeat (first | (with_reducible first | exact HK.out | apply KeepBut.set_ | apply keep_drewN | apply keep_drew | apply keep_alloc) | exact HK.out)) hk (.inl rfl)); have n1_ := Aside0.mk (hb); have n2_ := Aside0.mk (hi); clear HK; clear HB; clear HI0; have HK := n0_; have HB := n1_; have HI0 := n2_; clear n0_ n1_ n2_; (try clear hb); (try clear hb2); (try clear hk); (try clear hi); have p231 : 0 ≤ (t229 : Int) := of_decide_eq_true (by first | (with_reducible assumption) | assumption); have q231 : t229 < (l1.length : Int) := of_decide_eq_true (by first | (with_reducible assumption) | assumption); obtain ⟨ad231, e231, hx231_0⟩ := Kd.at_string HR1.out t229 p231 q231; cases e231; replace hx231_0 := keep_cell HK.out hx231_0 (by first | (rw [add_block]; exact hf1 _ rfl (by omega)) | exact hf1 _ rfl (by omega) | exact hf1 ad231 rfl (by omega)); replace p231 := eq_true p231; replace q231 := eq_true q231))
      go_ret
      exact ⟨by first | rfl | (simp [errW_none, errW_some] <;> rfl) | (simp [*, errW_none, errW_some] <;> rfl), by repeat (first | (with_reducible first | exact HI0.out | apply IsS62.alloc | apply IsS62.drewN | apply IsS62.drew | apply IsS62.set_1) | exact HI0.out), by repeat (first | (with_reducible first | exact HB.out | apply below_alloc | apply pw_below_drewN | apply below_drew1 | refine below_set ?_ (IsS62.ge HI0.out)) | exact HB.out), by repeat (first | (with_reducible first | exact HK.out | apply KeepBut.set_ | apply keep_drewN | apply keep_drew | apply keep_alloc) | exact HK.out)⟩
    · rw [if_neg c5] at H
      exact absurd H (by simp)
  · rw [if_neg c4] at H
    exact absurd H (by simp)

/-! ### synopticref04_ByLetter: function 32 -/
def synopticref04_ByLetter.l0 : Nat → ByteArray → Int → Option (Int × Int)
  | 0, _, _ => none
  | k + 1, x0, x4 => if x4 ≤ 11 then ((synopticref04_Describe.f x4).bind fun bt232 => (if bt232.1.toList = x0.toList then (some (x4, 0)) else (synopticref04_ByLetter.l0 k x0 (wrap64 (x4 + 1))))) else (some (0, 9))
def synopticref04_ByLetter.f (k : Nat) (a0 : ByteArray) : Option (Int × Int) := synopticref04_ByLetter.l0 k a0 1
theorem synopticref04_ByLetter.mono_l : ∀ k, (∀ y0 y1, LeO (synopticref04_ByLetter.l0 k y0 y1) (synopticref04_ByLetter.l0 (k + 1) y0 y1))
  | 0 => fun _ _ r h => by simp [synopticref04_ByLetter.l0] at h
  | k + 1 => by
    have ih0 := synopticref04_ByLetter.mono_l k
    · intro y0 y1
      unfold synopticref04_ByLetter.l0
      repeat' first
      | (with_reducible exact ih0 _ _)
      | (with_reducible exact LeO.refl _)
      | (with_reducible exact LeO.none _)
      | (with_reducible refine LeO.ite ?_ ?_)
      | (with_reducible refine LeO.bind ?_ (fun _ => ?_))
      | exact ih0 _ _
      | exact LeO.none _
      | refine LeO.ite ?_ ?_
      | refine LeO.bind ?_ (fun _ => ?_)
theorem synopticref04_ByLetter.mono : ∀ a0 k, LeO (synopticref04_ByLetter.f k a0) (synopticref04_ByLetter.f (k + 1) a0) := by
  intro a0 k
  have ih0 := synopticref04_ByLetter.mono_l k
  unfold synopticref04_ByLetter.f
  repeat' first
      | (with_reducible exact ih0 _ _)
      | (with_reducible exact LeO.refl _)
      | (with_reducible exact LeO.none _)
      | (with_reducible refine LeO.ite ?_ ?_)
      | (with_reducible refine LeO.bind ?_ (fun _ => ?_))
      | exact ih0 _ _
      | exact LeO.none _
      | refine LeO.ite ?_ ?_
      | refine LeO.bind ?_ (fun _ => ?_)
set_option maxHeartbeats 8000000 in
set_option maxRecDepth 100000 in
theorem synopticref04_ByLetter.calls (k : Nat) (a0 : ByteArray) (r1 : Int) (r2 : Int) (w : World) (h : synopticref04_ByLetter.f k a0 = some (r1, r2)) :
    Calls Tryd.prog 32 #[.string a0] w fun e w' => e = .returned (.tuple #[.int .i64 r1, .int .i64 r2]) ∧ Below w.heap.size w w' := by
  have hu39 := Tryd.underlying39
  have HB := Aside0.mk (Below.refl w.heap.size w)
  have H : (synopticref04_ByLetter.l0 k a0 1) = some (r1, r2) := h
  clear h
  have H' := Aside0.mk H
  clear H
  go_enter Tryd.func32, Tryd.ntmps32
  go_wp2
  go_loopg [4] k (fun kq v4 w' => ∃ (x4_1 : Int), v4 = .int .i64 x4_1 ∧ Aside0 (synopticref04_ByLetter.l0 kq a0 x4_1 = some (r1, r2)) ∧ Aside0 (kq ≤ k) ∧ Aside0 (Below w.heap.size w w'))
  case atStart => exact ⟨(1), (by first | rfl | (simp; done) | (simp [*]; done)), H', ⟨Nat.le_refl _⟩, ⟨by repeat (first | (with_reducible first | exact HB.out | apply below_alloc | apply pw_below_drewN | apply below_drew1) | exact HB.out)⟩⟩
  case round =>
    clear H'
    obtain ⟨x4_1, rfl, HA, HK1, HB⟩ := hrel
    cases gk with
    | zero => exact absurd HA.out (by simp [synopticref04_ByLetter.l0])
    | succ k1 =>
      have H := HA.out
      clear HA
      simp only [synopticref04_ByLetter.l0] at H
      by_cases c2 : x4_1 ≤ 11
      · rw [if_pos c2] at H
        have c2b0 : decide (x4_1 ≤ 11) = true := decide_eq_true c2
        clear c2
        replace H := Option.bind_eq_some_iff.mp H
        obtain ⟨⟨t232, t233, t234, t235, t236⟩, A30, H⟩ := H
        replace H : (if t232.toList = a0.toList then (some (x4_1, 0)) else (synopticref04_ByLetter.l0 k1 a0 (wrap64 (x4_1 + 1)))) = some (r1, r2) := H
        have A3 := Aside0.mk A30
        clear A30
        by_cases c4 : t232.toList = a0.toList
        · rw [if_pos c4] at H
          have c4b0 : (t232.toList == a0.toList) = true := beq_iff_eq.mpr c4
          have c4b1 : (t232.toList != a0.toList) = false := bne_eq_false_iff_eq.mpr c4
          clear c4
          simp only [Option.some.injEq, Prod.mk.injEq] at H
          obtain ⟨rfl, rfl⟩ := H
          go_wp2_with (first | ((with_reducible refine gate_callee (f := 23) rfl ?_); refine goesL_ (some 13) rfl rfl Tryd.func23 (by kernel_rfl) rfl #[.int .i64 x4_1] rfl (by (try simp only [List.map_toArray, List.map_cons, List.map_nil]); first | done | rfl | (simp only [List.length_drop, List.length_take]; rfl)) ?_; (with_reducible refine (synopticref04_Describe.calls x4_1 t232 t233 t234 t235 t236 _ A3.out).mono ?_); rintro e w5 ⟨rfl, hb⟩; refine ⟨_, rfl, ?_⟩; have n0_ := Aside0.mk (below_step (by repeat (first | (with_reducible first | exact HB.out | apply below_alloc | apply pw_below_drewN | apply below_drew1) | exact HB.out)) hb); clear HB; have HB := n0_; clear n0_; (try clear hb); (try clear hb2); (try clear hk); (try clear hi)) | ((with_reducible refine gate_dst (N := 5) rfl ?_); refine box_event ?hg (N := 5) ?hd (cs := #[.string (⟨#[]⟩ : ByteArray), .int .i64 0, .int .i64 0, .int .i64 0]) (t := 39) ?hr ?_; (case hd => rfl); (case hg => rfl); (case hr => first | (go_simp; done) | (go_simp; rfl)); intro gb237 hg w6 hbox hb; have n0_ := Aside0.mk (below_step (by repeat (first | (with_reducible first | exact HB.out | apply below_alloc | apply pw_below_drewN | apply below_drew1) | exact HB.out)) hb); have n1_ := Aside0.mk (hbox); have n2_ := Aside0.mk ((by rw [hg]; exact (below_size (by repeat (first | (with_reducible first | exact HB.out | apply below_alloc | apply pw_below_drewN | apply below_drew1) | exact HB.out))) : w.heap.size ≤ gb237)); have n3_ := Aside0.mk ((by rw [hg]; exact (below_size (by repeat (first | (with_reducible first | exact HB.out | apply below_alloc | apply pw_below_drewN | apply below_drew1) | exact HB.out))) : w.heap.size ≤ gb237)); clear HB; have HB := n0_; have BK237 := n1_; have GW237 := n2_; have GE237 := n3_; clear n0_ n1_ n2_ n3_; clear hb hbox hg; have hcz7_0 : w6.cell? ⟨gb237, 0, none⟩ = some (.string (⟨#[]⟩ : ByteArray)) := (blk_cell BK237.out 0).trans rfl; have hcz7_1 : w6.cell? ⟨gb237, 1, none⟩ = some (.int .i64 0) := (blk_cell BK237.out 1).trans rfl; have hcz7_2 : w6.cell? ⟨gb237, 2, none⟩ = some (.int .i64 0) := (blk_cell BK237.out 2).trans rfl; have hcz7_3 : w6.cell? ⟨gb237, 3, none⟩ = some (.int .i64 0) := (blk_cell BK237.out 3).trans rfl; have hfz7_0 := blk_frozen BK237.out 0; have hfz7_1 := blk_frozen BK237.out 1; have hfz7_2 := blk_frozen BK237.out 2; have hfz7_3 := blk_frozen BK237.out 3))
          go_ret2
          exact ⟨by first | rfl | (simp [errW_none, errW_some] <;> rfl) | (simp [*, errW_none, errW_some] <;> rfl), by repeat (first | (with_reducible first | exact HB.out | apply below_alloc | apply pw_below_drewN | apply below_drew1 | refine below_set ?_ GE237.out) | exact HB.out)⟩
        · rw [if_neg c4] at H
          have c4b0 : (t232.toList == a0.toList) = false := beq_eq_false_iff_ne.mpr c4
          have c4b1 : (t232.toList != a0.toList) = true := bne_iff_ne.mpr c4
          have H' := Aside0.mk H
          clear H
          go_wp2_with (first | ((with_reducible refine gate_callee (f := 23) rfl ?_); refine goesL_ (some 13) rfl rfl Tryd.func23 (by kernel_rfl) rfl #[.int .i64 x4_1] rfl (by (try simp only [List.map_toArray, List.map_cons, List.map_nil]); first | done | rfl | (simp only [List.length_drop, List.length_take]; rfl)) ?_; (with_reducible refine (synopticref04_Describe.calls x4_1 t232 t233 t234 t235 t236 _ A3.out).mono ?_); rintro e w8 ⟨rfl, hb⟩; refine ⟨_, rfl, ?_⟩; have n0_ := Aside0.mk (below_step (by repeat (first | (with_reducible first | exact HB.out | apply below_alloc | apply pw_below_drewN | apply below_drew1) | exact HB.out)) hb); clear HB; have HB := n0_; clear n0_; (try clear hb); (try clear hb2); (try clear hk); (try clear hi)) | ((with_reducible refine gate_dst (N := 5) rfl ?_); refine box_event ?hg (N := 5) ?hd (cs := #[.string (⟨#[]⟩ : ByteArray), .int .i64 0, .int .i64 0, .int .i64 0]) (t := 39) ?hr ?_; (case hd => rfl); (case hg => rfl); (case hr => first | (go_simp; done) | (go_simp; rfl)); intro gb237 hg w9 hbox hb; have n0_ := Aside0.mk (below_step (by repeat (first | (with_reducible first | exact HB.out | apply below_alloc | apply pw_below_drewN | apply below_drew1) | exact HB.out)) hb); have n1_ := Aside0.mk (hbox); have n2_ := Aside0.mk ((by rw [hg]; exact (below_size (by repeat (first | (with_reducible first | exact HB.out | apply below_alloc | apply pw_below_drewN | apply below_drew1) | exact HB.out))) : w.heap.size ≤ gb237)); have n3_ := Aside0.mk ((by rw [hg]; exact (below_size (by repeat (first | (with_reducible first | exact HB.out | apply below_alloc | apply pw_below_drewN | apply below_drew1) | exact HB.out))) : w.heap.size ≤ gb237)); clear HB; have HB := n0_; have BK237 := n1_; have GW237 := n2_; have GE237 := n3_; clear n0_ n1_ n2_ n3_; clear hb hbox hg; have hcz10_0 : w9.cell? ⟨gb237, 0, none⟩ = some (.string (⟨#[]⟩ : ByteArray)) := (blk_cell BK237.out 0).trans rfl; have hcz10_1 : w9.cell? ⟨gb237, 1, none⟩ = some (.int .i64 0) := (blk_cell BK237.out 1).trans rfl; have hcz10_2 : w9.cell? ⟨gb237, 2, none⟩ = some (.int .i64 0) := (blk_cell BK237.out 2).trans rfl; have hcz10_3 : w9.cell? ⟨gb237, 3, none⟩ = some (.int .i64 0) := (blk_cell BK237.out 3).trans rfl; have hfz10_0 := blk_frozen BK237.out 0; have hfz10_1 := blk_frozen BK237.out 1; have hfz10_2 := blk_frozen BK237.out 2; have hfz10_3 := blk_frozen BK237.out 3))
          go_roundg k1
          case measure => have := HK1.out; omega
          case rel => exact ⟨(wrap64 (x4_1 + 1)), (by first | rfl | (simp; done) | (simp [*]; done)), H', ⟨by have := HK1.out; omega⟩, ⟨by repeat (first | (with_reducible first | exact HB.out | apply below_alloc | apply pw_below_drewN | apply below_drew1 | refine below_set ?_ GE237.out) | exact HB.out)⟩⟩
      · rw [if_neg c2] at H
        have c2b0 : decide (x4_1 ≤ 11) = false := decide_eq_false c2
        clear c2
        simp only [Option.some.injEq, Prod.mk.injEq] at H
        obtain ⟨rfl, rfl⟩ := H
        go_wp2
        go_ret2
        exact ⟨by first | rfl | (simp [errW_none, errW_some] <;> rfl) | (simp [*, errW_none, errW_some] <;> rfl), by repeat (first | (with_reducible first | exact HB.out | apply below_alloc | apply pw_below_drewN | apply below_drew1) | exact HB.out)⟩

-- NOT PRINTED: function 6 (synopticlaw04_ElementAnswers)

end Go.Proofs.YtpjnlbippcgnoaaDoor.PElementAnswers
