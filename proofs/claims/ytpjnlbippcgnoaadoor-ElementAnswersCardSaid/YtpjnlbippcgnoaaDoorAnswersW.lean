/-
  The walk of ElementAnswers: it returns true for any arguments.
-/
import Derived.Test.YtpjnlbippcgnoaaDoorBent
import Derived.Test.YtpjnlbippcgnoaaDoorPa
import Derived.Test.YtpjnlbippcgnoaaDoorByls
namespace Go.Proofs.YtpjnlbippcgnoaaDoor
open Go.RowKit Go.Proofs.YtpjnlbippcgnoaaDoorW.PrintWords PElementAnswers

theorem litK {α : Type} (enc : α → Value) (h1 : ∀ x, (enc x).oneCell' = true) (t : TypeId) (w : World) (l : List α) (hl : l.length ≤ 1000) : (Kd.scalar enc h1).C (w.alloc (.cells (l.map enc).toArray t)) (some ⟨w.heap.size, 0, none⟩) l.length l := by
  have hB : Blk (w.alloc (.cells (l.map enc).toArray t)) w.heap.size (l.map enc).toArray := Blk.new _ _ _
  refine ⟨rfl, by omega, fun _ => ⟨_, rfl, fun j p hj => ⟨[enc p], rfl, rfl, fun i u hu => ?_⟩⟩⟩
  have hi : i = 0 := by
    have := (List.getElem?_eq_some_iff.1 hu).1
    simp at this
    exact this
  subst hi
  have hu' : u = enc p := by simpa using hu.symm
  subst hu'
  have e1 : (Kd.scalar enc h1).sz = 1 := rfl
  rw [e1, Nat.mul_one, Nat.add_zero, Addr.add_lit, Nat.zero_add, hB.cell j]
  simp [hj]
theorem Blk.keepB {w w' : World} {b g : Nat} {cs : Array Value} (h : Blk w b cs) (hk : KeepBut w w' g none) (hne : b ≠ g) : Blk w' b cs := by
  have hl := h.lt
  obtain ⟨t, h⟩ := h
  exact ⟨t, (hk.2 b hl hne (by simp)).trans h⟩

/-- the rows of readings that a round goes through -/
def RowsR (w : World) (X : Array Value) : Prop :=
  ∀ j, j < 3 → ∃ (A : Option Addr) (L : List S23) (c : Nat), X[j]? = some (.slice A L.length c) ∧ L.length ≤ 62 ∧ L.length ≤ c ∧ Kd.C k23 w A L.length L

/-- what holds at the head of each round over the codes -/
def Rnd (W wr : World) (g : Nat) (l : List Int) (k : Int) (b1 : Nat) (cs : Array Value) (v : Value) (x : List S23) : Prop :=
  Below W.heap.size W wr ∧ IsS62 W wr g l k ∧ StOK l k ∧ Blk wr b1 cs ∧ Kd.R k23 23 wr W.heap.size (fun k => k ≠ g) v x
theorem Rnd.below {W wr w' : World} {g : Nat} {l : List Int} {k : Int} {b1 : Nat} {cs : Array Value} {v : Value} {x : List S23} (h : Rnd W wr g l k b1 cs v x) (hb : Below wr.heap.size wr w') : Rnd W w' g l k b1 cs v x :=
  ⟨h.1.trans (hb.mono h.1.size), IsS62.below h.2.1 hb, h.2.2.1, h.2.2.2.1.below hb h.2.2.2.1.lt, Kd.R_below h.2.2.2.2 hb⟩
theorem Rnd.call {W wr w' : World} {g : Nat} {l : List Int} {k k2 : Int} {b1 : Nat} {cs : Array Value} {v : Value} {x : List S23} (h : Rnd W wr g l k b1 cs v x) (hi : IsS62 W w' g l k2) (hs : StOK l k2) (hb : Below W.heap.size W w') (hk : KeepBut wr w' g none) (hne : b1 ≠ g) : Rnd W w' g l k2 b1 cs v x :=
  ⟨hb, hi, hs, h.2.2.2.1.keepB hk hne, Kd.R_keep h.2.2.2.2 hk (fun _ h => h)⟩
theorem Rnd.reads {W wr : World} {g : Nat} {l : List Int} {k : Int} {b1 : Nat} {cs : Array Value} {A : Option Addr} {n c : Nat} {x : List S23} (h : Rnd W wr g l k b1 cs (.slice A n c) x) : Kd.C k23 wr A x.length x := by
  obtain ⟨A', c', e', _, h'⟩ := Kd.R_reads h.2.2.2.2
  cases e'
  exact h'

/-- what holds at each call of a round over the lists -/
def In8 (W8 w : World) (A : Option Addr) (L : List S23) (A2 : Option Addr) (C : List Int) : Prop := Below W8.heap.size W8 w ∧ Kd.C k23 w A L.length L ∧ Kd.C (Kd.int .i64) w A2 C.length C
theorem In8.below {W8 w w' : World} {A A2 : Option Addr} {L : List S23} {C : List Int} (h : In8 W8 w A L A2 C) (hb : Below w.heap.size w w') : In8 W8 w' A L A2 C :=
  ⟨h.1.trans (hb.mono h.1.size), Kd.C_below h.2.1 hb, Kd.C_below h.2.2 hb⟩
theorem In8.drewN {W8 w : World} {A A2 : Option Addr} {L : List S23} {C : List Int} (h : In8 W8 w A L A2 C) (n : Nat) : In8 W8 (w.drewN n) A L A2 C := h.below (below_drewN (Below.refl _ _) n)

set_option maxRecDepth 100000 in
set_option maxHeartbeats 16000000 in
theorem elementAnswers_walk (W : World) (A0 A1 A2 : Option Addr) (L0 : List S23) (l C : List Int) (c0 c1 c2 : Nat) (code : Int) (text : ByteArray) (mx : Int) (hB : Bnd W) (hM : W.cell? ⟨1, 0, none⟩ = some (.int .i64 mx)) (hM1 : 1 < W.heap.size)
    (h0 : Kd.C k23 W A0 L0.length L0) (hc0 : L0.length ≤ c0) (h1 : Kd.C (Kd.int .i64) W A1 l.length l) (hc1 : l.length ≤ c1) (h2 : Kd.C (Kd.int .i64) W A2 C.length C) (hc2 : C.length ≤ c2) :
    Calls Tryd.prog 6 #[.slice A0 L0.length c0, .slice A1 l.length c1, .slice A2 C.length c2, .int .i64 code, .string text] W fun e w' => e = .returned (.bool true) ∧ Below W.heap.size W w' := by
  have hB0 := hB.lt
  have HB := Lib.hid hB
  have HM := Lib.hid hM
  have H0 := Lib.hid h0
  have H1 := Lib.hid h1
  have H2 := Lib.hid h2
  clear hB hM h0 h1 h2
  by_cases t1 : (60 : Int) < (L0.length : Int)
  · go_enter Tryd.func6, Tryd.ntmps6
    go_wp2_with ((go_at_call 8; refine (awake_any _ HB.out).mono ?_; rintro e w1 ⟨rfl, hb1⟩))
    go_ret
    exact ⟨rfl, hb1⟩
  by_cases t2 : (60 : Int) < (C.length : Int)
  · go_enter Tryd.func6, Tryd.ntmps6
    go_wp2_with ((go_at_call 8; refine (awake_any _ HB.out).mono ?_; rintro e w1 ⟨rfl, hb1⟩))
    go_ret
    exact ⟨rfl, hb1⟩
  by_cases t3 : (60 : Int) < (text.size : Int)
  · go_enter Tryd.func6, Tryd.ntmps6
    go_wp2_with ((go_at_call 8; refine (awake_any _ HB.out).mono ?_; rintro e w1 ⟨rfl, hb1⟩))
    go_ret
    exact ⟨rfl, hb1⟩
  obtain ⟨l', en, hs⟩ := new_p l
  have HS := Lib.hid hs
  have HE := Lib.hid en
  have hL0 : L0.length ≤ 60 := by omega
  have hCl : C.length ≤ 60 := by omega
  clear hs en
  go_enter Tryd.func6, Tryd.ntmps6
  go_wp2_with fail
  refine (synoptickeep_New.calls A1 c1 l _ _ W W (Below.refl _ _) H1.out hc1 HE.out).mono ?_
  rintro e w1 ⟨g, rfl, hi1, hb1, _⟩
  have HI1 := Lib.hid hi1
  have HB1 := Lib.hid hb1
  clear hi1 hb1 t1 t2 t3
  obtain ⟨x, k2, ex, hx, hs2⟩ := list_p HS.out
  have HX := Lib.hid hx
  have HEX := Lib.hid ex
  have HS2 := Lib.hid hs2
  have hxl := hx.1
  clear hx ex hs2
  go_wp2_with fail
  refine (synopticref04_List.calls 12 g l' 0 x k2 W _ HI1.out HB1.out HEX.out).mono ?_
  rintro e w2 ⟨v2, rfl, hr2, hi2, hb2, _⟩
  have HI2 := Lib.hid hi2
  have HB2 := Lib.hid hb2
  obtain ⟨AX, cX, rfl, hlX, _⟩ := Kd.R_reads hr2
  have HR2 := Lib.hid (Kd.R_mono (ok' := fun k => k ≠ g) (IsS62.apart hi2 (Kd.R_lower hr2 HB1.out.size) (by decide)) (fun _ h => h.2))
  clear hi2 hb2 hr2 HI1 HB1 HE HEX HS
  obtain ⟨q, k3, e3, q30, q31, hs3⟩ := range_p (lo := -1) (hi := 13) HS2.out (by omega) (by omega) (by omega)
  have HE3 := Lib.hid e3
  have HS3 := Lib.hid hs3
  clear e3 hs3
  go_wp2_with fail
  refine (synoptickeep_Src_Range.calls g l' k2 _ _ q k3 W _ HI2.out HB2.out HE3.out).mono ?_
  rintro e w3 ⟨rfl, hi3, hb3, hk3⟩
  have hg3 := IsS62.lt hi3
  have HRN := Lib.hid (show Rnd W (w3.alloc (.cells #[.int .i64 code, .int .i64 q] 3)) g l' k3 w3.heap.size #[.int .i64 code, .int .i64 q] (.slice AX x.length cX) x from
    ⟨hb3.alloc hb3.size _, IsS62.alloc hi3 _, HS3.out, Blk.new _ _ _, Kd.R_alloc (Kd.R_keep HR2.out hk3 (fun _ h => h)) _⟩)
  clear hi3 hb3 hk3 HI2 HB2 HR2 HS2 HE3 HS3
  go_wp2_with fail
  generalize w3.alloc (.cells #[.int .i64 code, .int .i64 q] 3) = w4 at HRN ⊢
  generalize w3.heap.size = b1 at *
  go_loopw [54] (fun i wr => ∃ (j : Nat) (k : Int), j ≤ 2 ∧ i = .int .i64 j ∧ Hid (Rnd W wr g l' k b1 #[.int .i64 code, .int .i64 q] (.slice AX x.length cX) x)) (fun i _ => 2 - (intOf i).toNat)
  case atStart => exact ⟨0, k3, by omega, rfl, HRN⟩
  case round =>
    clear HRN
    obtain ⟨j, k, hj, rfl, HRN⟩ := hrel
    by_cases hlt : j < 2
    · have hltz : (j : Int) < 2 := by omega
      obtain ⟨cc, hcc⟩ : ∃ cc : Int, (#[.int .i64 code, .int .i64 q] : Array Value)[j]? = some (.int .i64 cc) := by
        rcases j with _ | _ | j
        · exact ⟨_, rfl⟩
        · exact ⟨_, rfl⟩
        · omega
      have hcell := (HRN.out.2.2.2.1.cell j).trans hcc
      obtain ⟨s, dl, dh, dd, dk, hd1, hd2⟩ := descs cc
      have HD1 := Lib.hid hd1
      have HD2 := Lib.hid hd2
      clear hcc hd1 hd2
      go_wp2_with fail
      refine (HD1.out _ (HB.out.below HRN.out.1 hB0)).mono ?_
      rintro e w5 ⟨rfl, hb5⟩
      have HR5 := Lib.hid ((HRN.out.below hb5).below ((Below.refl w5.heap.size w5).alloc (Nat.le_refl _) (.cells #[.string s, .int .i64 dl, .int .i64 dh, .int .i64 dd] 39)))
      have HK5 := Lib.hid (Blk.new w5 39 #[.string s, .int .i64 dl, .int .i64 dh, .int .i64 dd])
      clear hb5 hcell HRN
      go_wp2_with fail
      refine (HD2.out _).mono ?_
      rintro e w6 ⟨rfl, hb6⟩
      have HR6 := Lib.hid ((HR5.out.below hb6).below ((Below.refl w6.heap.size w6).alloc (Nat.le_refl _) (.cells #[.string s, .int .i64 dl, .int .i64 dh, .int .i64 dd] 39)))
      have hK6 := (HK5.out.below hb6 HK5.out.lt).alloc (.cells #[.string s, .int .i64 dl, .int .i64 dh, .int .i64 dd] 39)
      have d0 := hK6.cell 0
      have d1 := hK6.cell 1
      have d2 := hK6.cell 2
      have d3 := hK6.cell 3
      simp at d0 d1 d2 d3
      clear hb6 HK5 HR5 hK6
      go_wp2_with fail
      refine (bent_any W _ g l' k AX x cX HR6.out.2.1 HR6.out.1 HR6.out.2.2.1 HR6.out.reads (by omega)).mono ?_
      rintro e w7 ⟨v7, m7, k7, rfl, hm7, hri, hi7, hs7, hb7, hk7⟩
      have HR7 := Lib.hid (HR6.out.call hi7 hs7 hb7 hk7 (by omega))
      obtain ⟨L2, hl2, hr2⟩ := rowI_to hri
      obtain ⟨A7, c7, rfl, hc7, hC7⟩ := Kd.R_reads hr2
      have HC7 := Lib.hid hC7
      have hL2 : L2.length ≤ 12 := by omega
      clear hi7 hs7 hb7 hk7 hri hr2 hl2 hm7 hC7 d0 d1 d2 d3 HR6 HD1 HD2
      have HF : Hid (Rnd W (w7.alloc (.cells #[.slice A0 L0.length c0, .slice AX x.length cX, .slice A7 L2.length c7] 45)) g l' k7 b1 #[.int .i64 code, .int .i64 q] (.slice AX x.length cX) x ∧
          Blk (w7.alloc (.cells #[.slice A0 L0.length c0, .slice AX x.length cX, .slice A7 L2.length c7] 45)) w7.heap.size #[.slice A0 L0.length c0, .slice AX x.length cX, .slice A7 L2.length c7] ∧
          RowsR (w7.alloc (.cells #[.slice A0 L0.length c0, .slice AX x.length cX, .slice A7 L2.length c7] 45)) #[.slice A0 L0.length c0, .slice AX x.length cX, .slice A7 L2.length c7]) := Lib.hid (by
        have hr := HR7.out.below ((Below.refl w7.heap.size w7).alloc (Nat.le_refl _) (.cells #[.slice A0 L0.length c0, .slice AX x.length cX, .slice A7 L2.length c7] 45))
        refine ⟨hr, Blk.new _ _ _, fun j hj => ?_⟩
        rcases j with _ | _ | _ | j
        · exact ⟨_, _, _, rfl, by omega, hc0, Kd.C_below H0.out hr.1⟩
        · exact ⟨_, _, _, rfl, by omega, hlX, hr.reads⟩
        · exact ⟨_, _, _, rfl, by omega, hc7, Kd.C_alloc HC7.out _⟩
        · omega)
      clear HR7 HC7
      go_wp2_with fail
      refine forget (fun w' => ∃ X : Array Value, Rnd W w' g l' k7 b1 #[.int .i64 code, .int .i64 q] (.slice AX x.length cX) x ∧ Blk w' w7.heap.size X ∧ RowsR w' X) ⟨_, HF.out⟩ ?_
      clear HF
      rintro W8 ⟨X, hR8, hX8, hRow8⟩
      have HR8 := Lib.hid hR8
      have HX8 := Lib.hid hX8
      have HW8 := Lib.hid hRow8
      have hl8 := hX8.lt
      have hW8 := hR8.1.size
      clear hR8 hX8 hRow8
      generalize w7.heap.size = b2 at *
      go_loopw [83] (fun i w9 => ∃ j2 : Nat, j2 ≤ 3 ∧ i = .int .i64 j2 ∧ Hid (Below W8.heap.size W8 w9)) (fun i _ => 3 - (intOf i).toNat)
      case atStart => exact ⟨0, by omega, rfl, Lib.hid (Below.refl _ _)⟩
      case round =>
        obtain ⟨j2, hj2, rfl, HB9⟩ := hrel
        by_cases hlt2 : j2 < 3
        · have hltz2 : (j2 : Int) < 3 := by omega
          obtain ⟨A, L, c, hXj, hLl, hLc, hCL⟩ := HW8.out j2 hlt2
          have hcell := ((HX8.out.below HB9.out hl8).cell j2).trans hXj
          have HCL := Lib.hid (Kd.C_below hCL HB9.out)
          have HC2 := Lib.hid (Kd.C_below H2.out (HR8.out.1.trans (HB9.out.mono hW8)))
          clear hXj hCL
          have HI9 : Hid (In8 W8 wr A L A2 C) := Lib.hid ⟨HB9.out, HCL.out, HC2.out⟩
          have HRF := Lib.hid (rfind_p (L := L) cc (by omega))
          have HRV := Lib.hid (rvld_p (L := L) (by omega))
          have hWC : (wo L C).length ≤ 62 := Nat.le_trans (List.length_filter_le _ _) hLl
          have hWD : (wo L [cc]).length ≤ 62 := Nat.le_trans (List.length_filter_le _ _) hLl
          have HWC := Lib.hid (without_p (C := C) (L := L) (by omega) (by omega))
          have HWR := Lib.hid (rwithout_p (C := C) (L := L) (by omega) (by omega))
          have HDC := Lib.hid (without_p (C := [cc]) (L := L) (by simp) (by omega))
          have HDR := Lib.hid (rwithout_p (C := [cc]) (L := L) (by simp) (by omega))
          clear HCL HC2 HB9
          go_wp2_with fail
          refine (find_any A L c cc _ HI9.out.2.1 (by omega)).mono ?_
          rintro e w10 ⟨rfl, hb⟩
          have HI10 := Lib.hid (HI9.out.below hb)
          clear hb HI9 hcell
          generalize fnd L cc = fx at HRF ⊢
          obtain ⟨fa, fo⟩ := fx
          go_wp2_with fail
          refine (synopticref04_Find.calls _ A c L cc _ _ _ HI10.out.2.1 hLc HRF.out).mono ?_
          rintro e w11 ⟨rfl, ⟨nd, rfl⟩⟩
          have HI11 := Lib.hid (HI10.out.drewN nd)
          clear HI10 HRF
          generalize w10.drewN nd = w11 at HI11 ⊢
          go_wp2_with fail
          refine (validate_any A L c _ HI11.out.2.1 (by omega) (HB.out.below (HR8.out.1.trans (HI11.out.1.mono hW8)) hB0)).mono ?_
          rintro e w12 ⟨rfl, hb⟩
          have HI12 := Lib.hid (HI11.out.below hb)
          clear hb HI11
          generalize vld L = vl at HRV ⊢
          go_wp2_with fail
          refine (synopticref04_Validate.calls _ A c L vl _ HI12.out.2.1 hLc HRV.out).mono ?_
          rintro e w13 ⟨rfl, hb⟩
          have HI13 := Lib.hid (HI12.out.below hb)
          clear hb HI12 HRV
          go_wp2_with fail
          refine (element_Without.calls _ A c L A2 c2 C (wo L C) _ HI13.out.2.1 hLc HI13.out.2.2 hc2 HWC.out).mono ?_
          rintro e w14 ⟨v14, rfl, hr, hb⟩
          obtain ⟨AU, cU, rfl, hcU, hCU⟩ := Kd.R_reads hr
          have HCU := Lib.hid hCU
          have HI14 := Lib.hid (HI13.out.below hb)
          clear hb HI13 hr hCU
          generalize wo L C = U at hWC HWC HWR HCU hcU ⊢
          go_wp2_with fail
          refine (synopticref04_Without.calls _ A c L A2 c2 C U _ HI14.out.2.1 hLc HI14.out.2.2 hc2 HWR.out).mono ?_
          rintro e w15 ⟨v15, rfl, hr, hb⟩
          obtain ⟨AV, cV, rfl, hcV, hCV⟩ := Kd.R_reads hr
          have HCV := Lib.hid hCV
          have HCU2 := Lib.hid (Kd.C_below HCU.out hb)
          have HI15 := Lib.hid (HI14.out.below hb)
          clear hb HI14 hr hCV HCU
          have HSM := Lib.hid (same_p (L := U) (by omega))
          go_wp2_with fail
          refine (synopticref04_Same.calls _ AU cU U AV cV U true _ HCU2.out hcU HCV.out hcV HSM.out).mono ?_
          rintro e w16 ⟨rfl, ⟨nd2, rfl⟩⟩
          have HI16 := Lib.hid (HI15.out.drewN nd2)
          clear HI15 HSM HCU2 HCV HWC HWR
          generalize w15.drewN nd2 = w16 at HI16 ⊢
          have HK16 := Lib.hid (litK (Value.int .i64) (fun _ => rfl) 3 w16 [cc] (by simp))
          have HI17 := Lib.hid (HI16.out.below ((Below.refl w16.heap.size w16).alloc (Nat.le_refl _) (.cells #[.int .i64 cc] 3)))
          go_wp2_with fail
          refine (element_Without.calls _ A c L (some ⟨w16.heap.size, 0, none⟩) 1 [cc] (wo L [cc]) _ HI17.out.2.1 hLc HK16.out (by simp) HDC.out).mono ?_
          rintro e w18 ⟨v18, rfl, hr, hb⟩
          obtain ⟨AU2, cU2, rfl, hcU2, hCU2⟩ := Kd.R_reads hr
          have HCU3 := Lib.hid (Kd.C_alloc hCU2 (.cells #[.int .i64 cc] 3))
          have HI18 := Lib.hid ((HI17.out.below hb).below ((Below.refl w18.heap.size w18).alloc (Nat.le_refl _) (.cells #[.int .i64 cc] 3)))
          have HK18 := Lib.hid (litK (Value.int .i64) (fun _ => rfl) 3 w18 [cc] (by simp))
          clear hb HI17 hr hCU2 HK16 HI16
          generalize wo L [cc] = U2 at hWD HDC HDR HCU3 hcU2 ⊢
          go_wp2_with fail
          refine (synopticref04_Without.calls _ A c L (some ⟨w18.heap.size, 0, none⟩) 1 [cc] U2 _ HI18.out.2.1 hLc HK18.out (by simp) HDR.out).mono ?_
          rintro e w19 ⟨v19, rfl, hr, hb⟩
          obtain ⟨AV2, cV2, rfl, hcV2, hCV2⟩ := Kd.R_reads hr
          have HCV2 := Lib.hid hCV2
          have HCU4 := Lib.hid (Kd.C_below HCU3.out hb)
          have HI19 := Lib.hid (HI18.out.below hb)
          clear hb HI18 hr hCV2 HCU3 HK18
          have HSM2 := Lib.hid (same_p (L := U2) (by omega))
          go_wp2_with fail
          refine (synopticref04_Same.calls _ AU2 cU2 U2 AV2 cV2 U2 true _ HCU4.out hcU2 HCV2.out hcV2 HSM2.out).mono ?_
          rintro e w20 ⟨rfl, ⟨nd3, rfl⟩⟩
          have HI20 := Lib.hid (HI19.out.drewN nd3)
          clear HI19 HSM2 HCU4 HCV2 HDC HDR
          go_wp2_with fail
          go_roundw
          case rel => exact ⟨j2 + 1, by omega, by go_num, Lib.hid HI20.out.1⟩
          case measure => simp [intOf]; omega
        · obtain rfl : j2 = 3 := by omega
          have HRX := Lib.hid (HR8.out.below HB9.out)
          clear HB9
          go_wp2_with fail
          go_roundw
          case rel => exact ⟨j + 1, k7, by omega, by go_num, HRX⟩
          case measure => simp [intOf]; omega
    · obtain rfl : j = 2 := by omega
      obtain ⟨t, k9, e9, _, _⟩ := text_p (T := [⟨#[80]⟩, ⟨#[75]⟩, ⟨#[90]⟩, ⟨#[]⟩, ⟨#[80, 84]⟩, ⟨#[112]⟩]) HRN.out.2.2.1 (by simp) (by simp)
      have HE9 := Lib.hid e9
      have hgw := IsS62.lt HRN.out.2.1
      have HLT := Lib.hid (litK Value.string (fun _ => rfl) 9 wr [⟨#[80]⟩, ⟨#[75]⟩, ⟨#[90]⟩, ⟨#[]⟩, ⟨#[80, 84]⟩, ⟨#[112]⟩] (by simp))
      have HRT := Lib.hid (HRN.out.below ((Below.refl wr.heap.size wr).alloc (Nat.le_refl _) (.cells #[.string ⟨#[80]⟩, .string ⟨#[75]⟩, .string ⟨#[90]⟩, .string ⟨#[]⟩, .string ⟨#[80, 84]⟩, .string ⟨#[112]⟩] 9)))
      clear e9 HRN
      go_wp2_with fail
      refine (synoptickeep_Src_Text.calls g l' k (some ⟨wr.heap.size, 0, none⟩) 6 [⟨#[80]⟩, ⟨#[75]⟩, ⟨#[90]⟩, ⟨#[]⟩, ⟨#[80, 84]⟩, ⟨#[112]⟩] t k9 W _ HRT.out.2.1 HRT.out.1 HLT.out (by simp) (fun ad h _ => by cases h; show wr.heap.size ≠ g; omega) HE9.out).mono ?_
      rintro e w21 ⟨rfl, hi, hb, _⟩
      have HB21 := Lib.hid (hb.alloc hb.size (.cells #[.string text, .string t] 9))
      have HK21 := Lib.hid (Blk.new w21 9 #[.string text, .string t])
      clear hi hb HRT HLT HE9
      go_wp2_with fail
      generalize hW22 : w21.alloc (.cells #[.string text, .string t] 9) = w22 at HB21 HK21 ⊢
      clear hW22
      generalize w21.heap.size = b3 at *
      go_loopw [144] (fun i w23 => ∃ j3 : Nat, j3 ≤ 2 ∧ i = .int .i64 j3 ∧ Hid (Below W.heap.size W w23) ∧ Hid (Blk w23 b3 #[.string text, .string t])) (fun i _ => 2 - (intOf i).toNat)
      case atStart => exact ⟨0, by omega, rfl, HB21, HK21⟩
      case round =>
        clear HB21 HK21
        obtain ⟨j3, hj3, rfl, HB23, HK23⟩ := hrel
        by_cases hlt3 : j3 < 2
        · have hltz3 : (j3 : Int) < 2 := by omega
          obtain ⟨s, hs⟩ : ∃ s : ByteArray, (#[.string text, .string t] : Array Value)[j3]? = some (.string s) := by
            rcases j3 with _ | _ | j3
            · exact ⟨_, rfl⟩
            · exact ⟨_, rfl⟩
            · omega
          have hcell := (HK23.out.cell j3).trans hs
          obtain ⟨ba, bk, hb1, hb2⟩ := byls s
          have HY1 := Lib.hid hb1
          have HY2 := Lib.hid hb2
          clear hs hb1 hb2
          go_wp2_with fail
          refine (HY1.out _ mx ((HB23.out.cell (p := ⟨1, 0, none⟩) hM1).trans HM.out)).mono ?_
          rintro e w24 ⟨rfl, rfl⟩
          go_wp2_with fail
          refine (HY2.out _).mono ?_
          rintro e w25 ⟨rfl, hb⟩
          have HB25 := Lib.hid (HB23.out.trans (hb.mono HB23.out.size))
          have HK25 := Lib.hid (HK23.out.below hb HK23.out.lt)
          clear hb hcell HB23 HK23
          go_wp2_with fail
          go_roundw
          case rel => exact ⟨j3 + 1, by omega, by go_num, HB25, HK25⟩
          case measure => simp [intOf]; omega
        · obtain rfl : j3 = 2 := by omega
          go_wp2_with ((go_at_call 8; refine (awake_any _ (HB.out.below HB23.out hB0)).mono ?_; rintro e w26 ⟨rfl, hb26⟩))
          go_ret
          exact ⟨rfl, HB23.out.trans (hb26.mono HB23.out.size)⟩
end Go.Proofs.YtpjnlbippcgnoaaDoor
