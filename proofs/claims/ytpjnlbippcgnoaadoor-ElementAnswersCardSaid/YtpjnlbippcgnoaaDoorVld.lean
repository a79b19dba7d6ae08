/-
  slices.IndexFunc and slices.ContainsFunc at readings, element.Validate and element.Find: what they return.
-/
import Derived.Test.YtpjnlbippcgnoaaDoorPElementAnswersx0
import Derived.Test.YtpjnlbippcgnoaaDoorCore
import Derived.Shelf.Abstract
namespace Go.Proofs.YtpjnlbippcgnoaaDoor
open Go.RowKit Go.Proofs.YtpjnlbippcgnoaaDoorW.PrintWords PElementAnswers

/-- the place of the first reading that has p, or -1 -/
def idxP (p : S23 → Bool) (L : List S23) : Int := match L.findIdx? p with | some i => (i : Int) | none => -1
theorem idxP_hit {p : S23 → Bool} {L : List S23} {k : Nat} (hk : k < L.length) (h : p (rd_T23 L k) = true) (h0 : ∀ j, j < k → p (rd_T23 L j) = false) : idxP p L = (k : Int) := by
  have : L.findIdx? p = some k := by
    rw [List.findIdx?_eq_some_iff_getElem]
    refine ⟨hk, ?_, fun j hj => ?_⟩
    · have := h; simpa [rd_T23, List.getD_eq_getElem?_getD, List.getElem?_eq_getElem hk] using this
    · have := h0 j hj; simpa [rd_T23, List.getD_eq_getElem?_getD, List.getElem?_eq_getElem (Nat.lt_trans hj hk)] using this
  simp [idxP, this]
theorem idxP_miss {p : S23 → Bool} {L : List S23} (h0 : ∀ j, j < L.length → p (rd_T23 L j) = false) : idxP p L = -1 := by
  have : L.findIdx? p = none := by
    rw [List.findIdx?_eq_none_iff]
    intro x hx
    obtain ⟨j, hj, rfl⟩ := List.getElem_of_mem hx
    have := h0 j hj
    simpa [rd_T23, List.getD_eq_getElem?_getD, List.getElem?_eq_getElem hj] using this
  simp [idxP, this]

set_option maxRecDepth 20000 in
set_option maxHeartbeats 4000000 in
theorem indexFunc_any (g : Nat) (lb : Array Value) (eg : ∀ args w, (callFunc g args).run Tryd.prog w = .ok (.enter g args) w) (p : S23 → Bool) (A : Option Addr) (L : List S23) (c : Nat) (w : World) (hC : Kd.C k23 w A L.length L) (hn : L.length ≤ 4611686018427387904)
    (hp : ∀ W x, Below w.heap.size w W → Calls Tryd.prog g (#[rdV x.f0 x.f1] ++ lb) W fun e w' => e = .returned (.bool (p x)) ∧ Below W.heap.size W w') :
    Calls Tryd.prog 45 #[.slice A L.length c, .func (.func g) #[] lb] w fun e w' => e = .returned (.int .i64 (idxP p L)) ∧ Below w.heap.size w w' := by
  have HP := Lib.hid hp
  have HC := Lib.hid hC
  clear hp hC
  obtain ⟨n, hln⟩ : ∃ n : Nat, n = L.length := ⟨_, rfl⟩
  rw [← hln] at hn ⊢
  have HL := Lib.hid hln
  clear hln
  go_enter Tryd.func45, Tryd.ntmps45
  go_wp2
  go_loopw [5, 8] (fun _ i wr => ∃ k : Nat, k ≤ n ∧ i = .int .i64 k ∧ Hid (Below w.heap.size w wr) ∧ Hid (∀ j, j < k → p (rd_T23 L j) = false)) (fun _ i _ => n - (intOf i).toNat)
  case atStart => exact ⟨0, Nat.zero_le _, rfl, Lib.hid (Below.refl _ _), Lib.hid (fun j hj => absurd hj (Nat.not_lt_zero _))⟩
  case round =>
    obtain ⟨k, hk, rfl, HB, HF⟩ := hrel
    by_cases hlt : k < n
    · have hltz : (k : Int) < (n : Int) := by omega
      obtain ⟨ad, rfl, hc0, hc1⟩ := at_T23 (Kd.C_below HC.out HB.out) (k : Int) (by omega) (by rw [← HL.out]; exact hltz)
      have hcall := HP.out wr (rd_T23 L k) HB.out
      rw [Int.toNat_natCast] at hc0 hc1
      generalize hy : rd_T23 L (k : Int) = y at hcall hc0 hc1
      have HY := Lib.hid hy
      clear hy
      cases hq : p y with
      | true =>
        rw [hq] at hcall
        go_wp2_with (go_at_fn g; refine hcall.mono ?_; rintro e w' ⟨rfl, hb'⟩)
        go_ret
        refine ⟨ret_i (idxP_hit (by rw [← HL.out]; exact hlt) (by rw [HY.out]; exact hq) HF.out).symm, HB.out.trans (hb'.mono HB.out.size)⟩
      | false =>
        rw [hq] at hcall
        go_wp2_with (go_at_fn g; refine hcall.mono ?_; rintro e w' ⟨rfl, hb'⟩)
        go_roundw
        case rel =>
          refine ⟨k + 1, by omega, by go_num, Lib.hid (HB.out.trans (hb'.mono HB.out.size)), Lib.hid (fun j hj => ?_)⟩
          by_cases e : j = k
          · subst e
            rw [HY.out]; exact hq
          · exact HF.out j (by omega)
        case measure => simp [intOf]; omega
    · have hltz : ¬ (k : Int) < (n : Int) := by omega
      obtain rfl : k = n := by omega
      go_wp2
      go_ret
      exact ⟨ret_i (idxP_miss (by rw [← HL.out]; exact HF.out)).symm, HB.out⟩

theorem makeFunc_any (fn : Fn) (first cap : Array Value) (w : World) : (Instr.makeFunc fn first cap).run Tryd.prog w = .ok (.func fn first cap) w := rfl

set_option maxHeartbeats 1000000 in
theorem c43_any (bad : Int) (bb : Nat) (w : World) (e v : Int) (hB : Bnd w) (hc : w.cell? ⟨bb, 0, none⟩ = some (.int .i64 bad)) (hbb : bb < w.heap.size) :
    Calls Tryd.prog 43 #[rdV e v, .pointer (some ⟨bb, 0, none⟩)] w fun r w' => r = .returned (.bool (chk e v == bad)) ∧ Below w.heap.size w w' := by
  have hb0 := (Below.refl w.heap.size w).alloc (Nat.le_refl _) (.cells #[.int .i64 e, .int .i64 v] 23)
  have HN := Lib.hid (hB.below hb0 hB.lt)
  have HX := Lib.hid hb0
  have hlt := HN.out.lt
  have hB0 : Blk (w.alloc (.cells #[.int .i64 e, .int .i64 v] 23)) w.heap.size #[.int .i64 e, .int .i64 v] := Blk.new _ _ _
  have hc' := (hb0.cell (p := ⟨bb, 0, none⟩) hbb).trans hc
  have hll := hB0.lt
  clear hb0 hB hc hB0
  go_enter Tryd.func43, Tryd.ntmps43
  go_wp2_with fail
  refine wp_region_near (by kernel_rfl) (by kernel_rfl) ?_
  have hbb' : bb < (w.alloc (.cells #[.int .i64 e, .int .i64 v] 23)).heap.size := by simp; omega
  repeat (go_big_quiet_step ((go_at_call 35; exact near_of (check_any _ _ _ (HN.out.below (Near.h _) hlt)))))
  refine wpQuiet_nil ?_
  intro X
  go_wp2
  go_ret
  exact ⟨rfl, HX.out.trans (X.h.mono HX.out.size)⟩

/-- some reading has the error -/
def anyB (L : List S23) (bad : Int) : Bool := decide (0 ≤ idxP (fun r => chk r.f0 r.f1 == bad) L)

theorem enters43 : ∀ args w, (callFunc 43 args).run Tryd.prog w = .ok (.enter 43 args) w := enters_of Tryd.func43 (by kernel_rfl) rfl
theorem enters41 : ∀ args w, (callFunc 41 args).run Tryd.prog w = .ok (.enter 41 args) w := enters_of Tryd.func41 (by kernel_rfl) rfl
theorem enters46 : ∀ args w, (callFunc 46 args).run Tryd.prog w = .ok (.enter 46 args) w := enters_of Tryd.func46 (by kernel_rfl) rfl

set_option maxHeartbeats 1000000 in
theorem containsFunc_any (bad : Int) (bb : Nat) (w : World) (A : Option Addr) (L : List S23) (c : Nat) (hC : Kd.C k23 w A L.length L) (hn : L.length ≤ 4611686018427387904) (hB : Bnd w) (hc : w.cell? ⟨bb, 0, none⟩ = some (.int .i64 bad)) (hbb : bb < w.heap.size) :
    Calls Tryd.prog 42 #[.slice A L.length c, .func (.func 43) #[] #[.pointer (some ⟨bb, 0, none⟩)]] w fun r w' => r = .returned (.bool (anyB L bad)) ∧ Below w.heap.size w w' := by
  have key := indexFunc_any 43 #[.pointer (some ⟨bb, 0, none⟩)] enters43 (fun r => chk r.f0 r.f1 == bad) A L c w hC hn
    (fun W x hb => c43_any bad bb W x.f0 x.f1 (hB.below hb hB.lt) ((hb.cell (p := ⟨bb, 0, none⟩) hbb).trans hc) (Nat.lt_of_lt_of_le hbb hb.size))
  have HK := Lib.hid key
  clear key hC hc
  unfold anyB
  generalize idxP (fun r => chk r.f0 r.f1 == bad) L = z at *
  go_enter Tryd.func42, Tryd.ntmps42
  go_wp2_with fail
  refine HK.out.mono ?_
  rintro r w' ⟨rfl, hb⟩
  have HB := Lib.hid hb
  clear hb
  go_wp2_with fail
  go_ret
  exact ⟨rfl, HB.out⟩

set_option maxHeartbeats 1000000 in
theorem has_any (bad : Int) (gl : Nat) (w : World) (A : Option Addr) (L : List S23) (c : Nat) (hC : Kd.C k23 w A L.length L) (hn : L.length ≤ 4611686018427387904) (hB : Bnd w) (hc : w.cell? ⟨gl, 0, none⟩ = some (.slice A L.length c)) (hbb : gl < w.heap.size) :
    Calls Tryd.prog 41 #[.int .i64 bad, .pointer (some ⟨gl, 0, none⟩)] w fun r w' => r = .returned (.bool (anyB L bad)) ∧ Below w.heap.size w w' := by
  have hb0 := (Below.refl w.heap.size w).alloc (Nat.le_refl _) (.cells #[.int .i64 bad] 30)
  have HN := Lib.hid (hB.below hb0 hB.lt)
  have HX := Lib.hid hb0
  have HC := Lib.hid (Kd.C_below hC hb0)
  have hB0 : Blk (w.alloc (.cells #[.int .i64 bad] 30)) w.heap.size #[.int .i64 bad] := Blk.new _ _ _
  have HQ := Lib.hid (hB0.cell 0)
  have hc' := (hb0.cell (p := ⟨gl, 0, none⟩) hbb).trans hc
  have hll := hB0.lt
  have hmf := makeFunc_any
  clear hb0 hB hc hB0 hC
  go_enter Tryd.func41, Tryd.ntmps41
  go_wp2_with fail
  refine (containsFunc_any bad w.heap.size _ A L c HC.out hn HN.out HQ.out hll).mono ?_
  rintro r w' ⟨rfl, hb⟩
  have HB := Lib.hid hb
  clear hb
  go_wp2_with fail
  go_ret
  exact ⟨rfl, HX.out.trans (HB.out.mono HX.out.size)⟩

theorem has_n (bad : Int) (gl : Nat) (w : World) (A : Option Addr) (L : List S23) (n c : Nat) (hl : n = L.length) (hC : Kd.C k23 w A n L) (hn : n ≤ 4611686018427387904) (hB : Bnd w) (hb : Blk w gl #[.slice A n c]) :
    Calls Tryd.prog 41 #[.int .i64 bad, .pointer (some ⟨gl, 0, none⟩)] w fun r w' => r = .returned (.bool (anyB L bad)) ∧ Below w.heap.size w w' := by
  subst hl
  exact has_any bad gl w A L c hC hn hB (hb.cell 0) hb.lt
/-- the elements ascend -/
def ascB (L : List S23) : Bool := (List.range (L.length - 1)).all fun i => decide ((rd_T23 L (i : Int)).f0 < (rd_T23 L ((i : Int) + 1)).f0)
theorem ascB_true {L : List S23} (h : ∀ i : Nat, i + 1 < L.length → (rd_T23 L (i : Int)).f0 < (rd_T23 L ((i : Int) + 1)).f0) : ascB L = true := by
  unfold ascB
  rw [List.all_eq_true]
  intro i hi
  rw [List.mem_range] at hi
  exact decide_eq_true (h i (by omega))
theorem ascB_false {L : List S23} {i : Nat} (hi : i + 1 < L.length) (h : ¬ (rd_T23 L (i : Int)).f0 < (rd_T23 L ((i : Int) + 1)).f0) : ascB L = false := by
  unfold ascB
  rw [List.all_eq_false]
  exact ⟨i, by rw [List.mem_range]; omega, by rw [decide_eq_false h]; simp⟩
/-- the first error of readings -/
def vld (L : List S23) : Int := if anyB L 4 then 4 else if anyB L 1 then 1 else if ascB L then 0 else 8

theorem wr_i (z : Int) (h0 : -9000000000000000000 ≤ z) (h1 : z ≤ 9000000000000000000) : IntKind.i64.wrap z = z := by
  simp [IntKind.wrap, IntKind.signed, IntKind.bits]
  omega

set_option maxRecDepth 20000 in
set_option maxHeartbeats 4000000 in
theorem validate_any (A : Option Addr) (L : List S23) (c : Nat) (w : World) (hC : Kd.C k23 w A L.length L) (hn : L.length ≤ 4611686018427387904) (hB : Bnd w) :
    Calls Tryd.prog 21 #[.slice A L.length c] w fun r w' => r = .returned (.int .i64 (vld L)) ∧ Below w.heap.size w w' := by
  obtain ⟨n, hln⟩ : ∃ n : Nat, n = L.length := ⟨_, rfl⟩
  have hb0 := (Below.refl w.heap.size w).alloc (Nat.le_refl _) (.cells #[.slice A n c] 45)
  have HN := Lib.hid (hB.below hb0 hB.lt)
  have HX := Lib.hid hb0
  rw [← hln] at hC hn ⊢
  have HC := Lib.hid (Kd.C_below hC hb0)
  have HB := Lib.hid (Blk.new w 45 #[.slice A n c])
  have hmf := makeFunc_any
  have hv : vld L = if anyB L 4 then 4 else if anyB L 1 then 1 else if ascB L then 0 else 8 := rfl
  have HV := Lib.hid hv
  clear hb0 hB hC hv
  have HL := Lib.hid hln
  clear hln
  have hgl : w.heap.size < (w.alloc (.cells #[.slice A n c] 45)).heap.size := HB.out.lt
  go_enter Tryd.func21, Tryd.ntmps21
  go_wp2_with fail
  refine (has_n 4 w.heap.size _ A L n c HL.out HC.out hn HN.out HB.out).mono ?_
  rintro r w1 ⟨rfl, hb1⟩
  cases h4 : anyB L 4 with
  | true =>
    have HY := Lib.hid (HX.out.trans (hb1.mono HX.out.size))
    have H4 := Lib.hid h4
    clear hb1 h4
    go_wp2_with fail
    go_ret
    exact ⟨ret_i (by rw [HV.out, H4.out]; rfl), HY.out⟩
  | false =>
    have HY1 := Lib.hid (HX.out.trans (hb1.mono HX.out.size))
    have HN1 := Lib.hid (HN.out.below hb1 HN.out.lt)
    have HC1 := Lib.hid (Kd.C_below HC.out hb1)
    have HB1 := Lib.hid (HB.out.below hb1 HB.out.lt)
    have H4 := Lib.hid h4
    clear hb1 h4 HX HN HC HB hgl
    go_wp2_with fail
    refine (has_n 1 w.heap.size _ A L n c HL.out HC1.out hn HN1.out HB1.out).mono ?_
    rintro r w2 ⟨rfl, hb2⟩
    cases h1 : anyB L 1 with
    | true =>
      have HY := Lib.hid (HY1.out.trans (hb2.mono HY1.out.size))
      have H1 := Lib.hid h1
      clear hb2 h1
      go_wp2_with fail
      go_ret
      exact ⟨ret_i (by rw [HV.out, H4.out, H1.out]; rfl), HY.out⟩
    | false =>
      have HY2 := Lib.hid (HY1.out.trans (hb2.mono HY1.out.size))
      have HC2 := Lib.hid (Kd.C_below HC1.out hb2)
      have HB2 := Lib.hid (HB1.out.below hb2 HB1.out.lt)
      have H1 := Lib.hid h1
      clear hb2 h1 HY1 HN1 HC1 HB1
      go_wp2_with fail
      go_loopw [4] (fun i wr => ∃ k : Nat, (k = 0 ∨ k + 1 ≤ n) ∧ i = .int .i64 ((k : Int) + 1) ∧ Hid (Below w.heap.size w wr) ∧ Hid (Blk wr w.heap.size #[.slice A n c]) ∧ Hid (Kd.C k23 wr A n L) ∧ Hid (∀ i : Nat, i < k → (rd_T23 L (i : Int)).f0 < (rd_T23 L ((i : Int) + 1)).f0)) (fun i _ => (n + 1) - (intOf i).toNat)
      case atStart => exact ⟨0, .inl rfl, rfl, HY2, HB2, HC2, Lib.hid (fun j hj => absurd hj (Nat.not_lt_zero _))⟩
      case round =>
        clear HY2 HB2 HC2
        obtain ⟨k, hk, rfl, HY, HB, HC, HA⟩ := hrel
        have hq := HB.out.cell 0
        have hql := HB.out.lt
        simp at hq
        by_cases hlt : k + 1 < n
        · have hltz : (k : Int) + 1 < (n : Int) := by omega
          obtain ⟨ad, rfl, hc0, _⟩ := at_T23 HC.out (k : Int) (by omega) (by omega)
          obtain ⟨ad', he, hd0, _⟩ := at_T23 HC.out ((k : Int) + 1) (by omega) (by omega)
          obtain rfl : ad = ad' := by injection he
          have e1 : IntKind.i64.wrap ((k : Int) + 1 - 1) = (k : Int) := by rw [wr_i] <;> omega
          have e2 : ((k : Int) + 1).toNat = k + 1 := by omega
          have e3 : ((k : Int)).toNat = k := by omega
          rw [e2] at hd0
          rw [e3] at hc0
          have HX2 := Lib.hid e2
          clear he e3 hk
          by_cases hac : (rd_T23 L (k : Int)).f0 < (rd_T23 L ((k : Int) + 1)).f0
          · have HA1 : Hid (∀ i : Nat, i < k + 1 → (rd_T23 L (i : Int)).f0 < (rd_T23 L ((i : Int) + 1)).f0) := Lib.hid (fun i hi => by
              by_cases e : i = k
              · subst e; exact hac
              · exact HA.out i (by omega))
            clear HA
            generalize (rd_T23 L (k : Int)).f0 = x at *
            generalize (rd_T23 L ((k : Int) + 1)).f0 = y at *
            have hnac : ¬ y ≤ x := by omega
            go_wp2
            go_quiet (fail)
            go_wp2
            go_roundw
            case rel => exact ⟨k + 1, .inr (by omega), by go_num, Lib.hid (below_drewN HY.out _), Lib.hid (HB.out.drewN _), Lib.hid (Kd.C_drewN HC.out _), HA1⟩
            case measure => simp [intOf]; omega
          · have HF := Lib.hid (ascB_false (L := L) (i := k) (by rw [← HL.out]; omega) hac)
            generalize (rd_T23 L (k : Int)).f0 = x at *
            generalize (rd_T23 L ((k : Int) + 1)).f0 = y at *
            have hnac : y ≤ x := by omega
            go_wp2
            go_quiet (fail)
            go_wp2
            go_ret
            exact ⟨ret_i (by rw [HV.out, H4.out, H1.out, HF.out]; rfl), below_drewN HY.out _⟩
        · have hltz : ¬ (k : Int) + 1 < (n : Int) := by omega
          go_wp2
          go_ret
          refine ⟨ret_i ?_, HY.out⟩
          rw [HV.out, H4.out, H1.out, ascB_true (fun i hi => HA.out i (by rw [← HL.out] at hi; omega))]
          rfl

set_option maxHeartbeats 1000000 in
theorem c46_any (code : Int) (bb : Nat) (w : World) (e v : Int) (hc : w.cell? ⟨bb, 0, none⟩ = some (.int .i64 code)) (hbb : bb < w.heap.size) :
    Calls Tryd.prog 46 #[rdV e v, .pointer (some ⟨bb, 0, none⟩)] w fun r w' => r = .returned (.bool (e == code)) ∧ Below w.heap.size w w' := by
  have hb0 := (Below.refl w.heap.size w).alloc (Nat.le_refl _) (.cells #[.int .i64 e, .int .i64 v] 23)
  have HX := Lib.hid hb0
  have hc' := (hb0.cell (p := ⟨bb, 0, none⟩) hbb).trans hc
  have hbb' : bb < (w.alloc (.cells #[.int .i64 e, .int .i64 v] 23)).heap.size := by simp; omega
  clear hb0 hc
  go_enter Tryd.func46, Tryd.ntmps46
  go_wp2_with fail
  go_ret
  exact ⟨rfl, HX.out⟩

/-- the value of the first reading of an element -/
def fnd (L : List S23) (code : Int) : Int × Bool := if idxP (fun r => r.f0 == code) L < 0 then (0, false) else ((rd_T23 L (idxP (fun r => r.f0 == code) L)).f1, true)
theorem idxP_range (p : S23 → Bool) (L : List S23) : idxP p L < 0 ∨ (0 ≤ idxP p L ∧ idxP p L < (L.length : Int)) := by
  unfold idxP
  cases h : L.findIdx? p with
  | none => exact .inl (by decide)
  | some i =>
    rw [List.findIdx?_eq_some_iff_getElem] at h
    obtain ⟨h, _⟩ := h
    exact .inr ⟨by simp, by simpa using h⟩

set_option maxHeartbeats 2000000 in
theorem find_any (A : Option Addr) (L : List S23) (c : Nat) (code : Int) (w : World) (hC : Kd.C k23 w A L.length L) (hn : L.length ≤ 4611686018427387904) :
    Calls Tryd.prog 25 #[.slice A L.length c, .int .i64 code] w fun r w' => r = .returned (.tuple #[.int .i64 (fnd L code).1, .bool (fnd L code).2]) ∧ Below w.heap.size w w' := by
  have hb0 := (Below.refl w.heap.size w).alloc (Nat.le_refl _) (.cells #[.int .i64 code] 3)
  have HX := Lib.hid hb0
  have hC0 := Kd.C_below hC hb0
  have HC := Lib.hid hC0
  have hB := Blk.new w 3 #[.int .i64 code]
  have key := indexFunc_any 46 #[.pointer (some ⟨w.heap.size, 0, none⟩)] enters46 (fun r => r.f0 == code) A L c _ hC0 hn
    (fun W x hb => c46_any code w.heap.size W x.f0 x.f1 ((hb.cell (p := ⟨w.heap.size, 0, none⟩) hB.lt).trans (hB.cell 0)) (Nat.lt_of_lt_of_le hB.lt hb.size))
  have HK := Lib.hid key
  have hr := idxP_range (fun r => r.f0 == code) L
  have hmf := makeFunc_any
  clear key hC hC0 hB hb0
  unfold fnd
  generalize hz : idxP (fun r => r.f0 == code) L = z at *
  clear hz
  go_enter Tryd.func25, Tryd.ntmps25
  go_wp2_with fail
  refine HK.out.mono ?_
  rintro r w' ⟨rfl, hb⟩
  have HB := Lib.hid (HX.out.trans (hb.mono HX.out.size))
  have HC1 := Lib.hid (Kd.C_below HC.out hb)
  clear hb HC
  rcases hr with hr | ⟨h0, h1⟩
  · go_wp2_with fail
    go_ret2
    exact ⟨rfl, HB.out⟩
  · obtain ⟨ad, rfl, _, hc1⟩ := at_T23 HC1.out z h0 h1
    have hnz : ¬ z < 0 := by omega
    go_wp2_with fail
    go_ret2
    exact ⟨rfl, HB.out⟩
end Go.Proofs.YtpjnlbippcgnoaaDoor
