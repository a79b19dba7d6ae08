/-
  keep.Src.Order: the numbers below n in some order.
-/
import Derived.Test.YtpjnlbippcgnoaaDoorPv
namespace Go.Proofs.YtpjnlbippcgnoaaDoor
open Go.RowKit Go.Proofs.YtpjnlbippcgnoaaDoorW.PrintWords PElementAnswers

/-- the numbers below n, in some order -/
def IsOrd (n : Nat) (P : List Int) : Prop := P.Perm ((List.range n).map Int.ofNat)
theorem IsOrd.length {n : Nat} {P : List Int} (h : IsOrd n P) : P.length = n := by
  have := List.Perm.length_eq h
  simpa using this
theorem IsOrd.put {n : Nat} {P : List Int} (h : IsOrd n P) (k : Nat) : IsOrd (n + 1) (P.take k ++ ([(n : Int)] ++ P.drop k)) := by
  unfold IsOrd at *
  rw [List.range_succ, List.map_append]
  have e : (P.take k ++ ([(n : Int)] ++ P.drop k)).Perm ((n : Int) :: (P.take k ++ P.drop k)) := List.perm_middle
  rw [List.take_append_drop] at e
  refine e.trans ((List.Perm.cons _ h).trans ?_)
  exact List.perm_append_comm (l₁ := [(n : Int)])

theorem cut3 (A : Option Addr) (n c k : Nat) (hk : k ≤ n) (hn : n ≤ c) (W : World) :
    (Instr.slice 24 (.slice A n c) none (some (.int .i64 (k : Int))) (some (.int .i64 (k : Int)))).run Tryd.prog W = .ok (.slice A k k) W := by
  have hel : Tryd.prog.elem 24 = 3 := by kernel_rfl
  have hu : Tryd.prog.underlying 24 = some (.slice (Tryd.prog.elem 24)) := by rw [hel]; exact Tryd.underlying24
  have hi : (Tryd.prog.info? 3).isSome = true := by kernel_rfl
  obtain ⟨i0, hi0⟩ := Option.isSome_iff_exists.1 hi
  have ha : (A.map fun x => x.add 0) = A := by cases A <;> simp [Addr.add]
  rw [run_slice_hm (w := W) 24 A n c hu .i64 .i64 (k : Int) (k : Int) (by omega) (by omega) (by omega), hel]
  simp [sizeOf, typeInfo, hi0, sliced, Result.andThen, ha]

theorem hold_of {w : World} {A : Option Addr} {n : Nat} {P : List Int} (h : Kd.C (Kd.int .i64) w A n P) (j : Nat) : ∀ b, A = some b → ∀ i u, (encs (Value.int .i64) (P.take j))[i]? = some u → w.cell? (b.add i) = some u := by
  intro b hA i u hu
  simp only [encs, List.getElem?_map, Option.map_eq_some_iff] at hu
  obtain ⟨q, hq, rfl⟩ := hu
  have hl := (List.getElem?_eq_some_iff.1 hq).1
  rw [List.length_take] at hl
  rw [List.getElem?_take, if_pos (by omega)] at hq
  have hn : 0 < n := by have := h.1; omega
  obtain ⟨ad, e, hc⟩ := h.2.2 hn
  obtain rfl : ad = b := by rw [hA] at e; injection e with e; exact e.symm
  obtain ⟨c, _, rfl, hc2⟩ := hc i q hq
  have := hc2 0 _ rfl
  simpa [Kd.int, Kd.scalar] using this
theorem hold_all {w : World} {ad : Addr} {n : Nat} {P : List Int} (h : Kd.C (Kd.int .i64) w (some ad) n P) : ∀ i u, (encs (Value.int .i64) P)[i]? = some u → w.cell? (ad.add i) = some u := by
  have := hold_of h P.length ad rfl
  rwa [List.take_length] at this
theorem own_ins {w : World} {base b' j : Nat} {v : Value} {P R : List Int} (h : w.ownsRow b' 3 1 v (j + R.length) (encs (Value.int .i64) (P.take j) ++ encs (Value.int .i64) R)) (hj : j ≤ P.length) (hb : base ≤ b') :
    Kd.R (Kd.int .i64) 3 w base (fun _ => True) v (P.take j ++ R) := by
  refine Kd.R_of_own (xs := P.take j ++ R) ?_ (fun _ _ => trivial)
  rw [encs_append, List.length_append, List.length_take, Nat.min_eq_left hj]
  exact own_weaken h hb
theorem none_of {w : World} {A : Option Addr} {P : List Int} {j : Nat} (h : Kd.C (Kd.int .i64) w A P.length P) (hj : j ≤ P.length) : A = none → j = 0 ∧ j = 0 := by
  rintro rfl
  rcases Nat.eq_zero_or_pos P.length with e | e
  · omega
  · obtain ⟨_, e', _⟩ := h.2.2 e
    cases e'

set_option maxRecDepth 20000 in
set_option maxHeartbeats 4000000 in
theorem order_any (W w : World) (g : Nat) (l : List Int) (k0 : Int) (n : Nat) (hn : n ≤ 1000) (hI : IsS62 W w g l k0) (hB : Below W.heap.size W w) (hS : StOK l k0) :
    Calls Tryd.prog 20 #[.pointer (some ⟨g, 0, none⟩), .int .i64 (n : Int)] w fun e w' => ∃ (v : Value) (P : List Int) (k : Int), e = .returned v ∧ IsOrd n P ∧ Kd.R (Kd.int .i64) 3 w' w.heap.size (fun _ => True) v P ∧ IsS62 W w' g l k ∧ StOK l k ∧ Below W.heap.size W w' ∧ KeepBut w w' g none := by
  have HI := Lib.hid hI
  have HB := Lib.hid hB
  have HS := Lib.hid hS
  clear hI hB hS
  go_enter Tryd.func20, Tryd.ntmps20
  go_wp2_with fail
  go_loopw [5, 6] (fun v i wr => ∃ (m : Nat) (P : List Int) (k : Int), m ≤ n ∧ i = .int .i64 m ∧ Hid (IsOrd m P) ∧ Hid (Kd.R (Kd.int .i64) 3 wr w.heap.size (fun _ => True) v P) ∧ Hid (IsS62 W wr g l k) ∧ Hid (StOK l k) ∧ Hid (Below W.heap.size W wr) ∧ Hid (KeepBut w wr g none)) (fun _ i _ => n - (intOf i).toNat)
  case atStart => exact ⟨0, [], k0, by omega, rfl, Lib.hid (List.Perm.refl _), Lib.hid (Kd.R_nil _ _ _ _ _), HI, HS, HB, Lib.hid (KeepBut.refl _ _ _)⟩
  case round =>
    clear HI HB HS
    obtain ⟨m, P, k, hm, rfl, HP, HR, HI, HS, HB, HK⟩ := hrel
    by_cases hlt : m < n
    · have hltz : (m : Int) < (n : Int) := by omega
      obtain ⟨A, c, rfl, hPc, _⟩ := Kd.R_reads HR.out
      have hPl := HP.out.length
      obtain ⟨q, k1, e1, q0, q1, hs1⟩ := n_p (n := (P.length : Int) + 1) HS.out (by omega) (by omega)
      obtain ⟨j, rfl⟩ := Int.eq_ofNat_of_zero_le q0
      have HE := Lib.hid e1
      have HS1 := Lib.hid hs1
      have hj : j ≤ P.length := by omega
      have HPL := Lib.hid hPl
      have hPm : P.length ≤ 1000 := by omega
      clear e1 hs1 hPl
      go_wp2_with fail
      refine (synoptickeep_Src_N.calls g l k _ _ k1 W _ HI.out HB.out HE.out).mono ?_
      rintro e w1 ⟨rfl, hi1, hb1, hk1⟩
      have HR1 := Lib.hid (Kd.R_mono (ok' := fun _ => True) (Kd.R_keep (IsS62.apart HI.out HR.out (by decide)) hk1 (fun _ h => h.2)) (fun _ _ => trivial))
      have HI1 := Lib.hid hi1
      have HB1 := Lib.hid hb1
      have HK1 := Lib.hid (KeepBut.trans HK.out hk1 (.inl rfl))
      clear hi1 hb1 hk1 HI HB HK HE HS HR
      obtain ⟨A0, c0, e0, _, hC1⟩ := Kd.R_reads HR1.out
      cases e0
      have HC1 := Lib.hid hC1
      obtain ⟨i0, hi0, hz0, hz1, hz2⟩ := info_parts info3
      obtain ⟨A', hd, hdr, _⟩ := print_drop_of (P := Tryd.prog) (Value.int .i64) 0 24 3 .i64 Tryd.underlying24 hi0 hz1 A c P (j : Int) (by omega) (by omega) hPc
      rw [Int.toNat_natCast] at hd hdr
      rw [List.length_drop] at hd hdr
      have h3 := fun W' => cut3 A P.length c j hj hPc W'
      have HCD := Lib.hid (Kd.C_below (Kd.C_of_reads (h1 := fun _ => rfl) (hdr w1 (Kd.reads_of_C hC1))) ((Below.refl w1.heap.size w1).alloc (Nat.le_refl _) (.cells #[.int .i64 (m : Int)] 3)))
      have HO := Lib.hid (Kd.R_of_own (enc := Value.int .i64) (h1 := fun _ => rfl) (ok := fun _ => True) (xs := [(m : Int)]) (World.ownsRow_lit (e := 3) (base := w1.heap.size) (size := 1) w1 #[.int .i64 (m : Int)] 1 (Nat.le_refl _) (by unfold maxLen; omega) rfl) (fun _ _ => trivial))
      have HNO := Lib.hid (none_of hC1 hj)
      have HDL : (P.drop j).length ≤ 1000 := by rw [List.length_drop]; omega
      clear hC1 hdr
      go_wp2_with (first
        | (at_builtin; refine Kd.R_append_rows (Kd.int .i64) (w0 := w1) w1.heap.size rfl (.tmp 20) (.tmp 23) 24 3 (.int .i64 0) 8 rfl Tryd.underlying24 info3 rfl (by decide) (by omega) (.slice (some ⟨w1.heap.size, 0, none⟩) 1 1) [(m : Int)] (P.drop j) _ _ _ (fun _ => True) (fun _ => False) rfl rfl HO.out HCD.out (fun _ _ h => h) (fun _ h => h.elim) (fun _ _ => trivial) ((Below.refl _ _).alloc (Nat.le_refl _) _) (by simp) (by simp; omega) ?_; intro v5 w5 hr5 hb5 _ _; have hrl : ([(m : Int)] ++ P.drop j).length ≤ 1001 := (by simp; omega); have hrl0 : 0 < ([(m : Int)] ++ P.drop j).length := (by simp); obtain ⟨R, hR⟩ : ∃ R, R = [(m : Int)] ++ P.drop j := ⟨_, rfl⟩; rw [← hR] at hr5 hrl hrl0; have HRR := Lib.hid hR; clear hR; obtain ⟨ad, cR, rfl⟩ := Kd.R_slice1 hr5 hrl0; obtain ⟨A5, c5, e5, _, hC5⟩ := Kd.R_reads hr5; cases e5; have HC5 := Lib.hid hC5; have HB5 := Lib.hid hb5; have HC15 := Lib.hid (Kd.C_below HC1.out hb5); clear hC5 hb5 hr5)
        | (at_builtin; refine wpList_append_grows _ rfl (.tmp 28) (.tmp 29) 24 rfl 3 i0 (.int .i64 0) 1 8 Tryd.underlying24 hi0 hz0 hz1 hz2 rfl (by omega) A j j (encs (Value.int .i64) (P.take j)) rfl HNO.out (by simp [encs]; omega) (hold_of HC15.out j) ad R.length cR (encs (Value.int .i64) R) rfl (by simp [encs]) (hold_all HC5.out) (by intro u hu; simp only [encs, List.mem_map] at hu; obtain ⟨z, _, rfl⟩ := hu; rfl) (by omega) (by unfold maxLen; omega) (by omega) ?_; intro v6 w6 hown6 hg6; have HOWN := Lib.hid hown6; have HG6 := Lib.hid hg6; clear hown6 hg6))
      have HI6 := Lib.hid (IsS62.grown (IsS62.below HI1.out HB5.out) HG6.out (by simp))
      have HB16 := Lib.hid (HB5.out.grown HG6.out HB5.out.size (by simp))
      have HB6 := Lib.hid (HB1.out.trans (HB16.out.mono HB1.out.size))
      have HK6 := Lib.hid (KeepBut.trans HK1.out (KeepBut.of_below HB16.out g none) (.inl rfl))
      have HP6 : Hid (IsOrd (m + 1) (P.take j ++ R)) := Lib.hid (by rw [HRR.out]; exact HP.out.put j)
      have HR6 := Lib.hid (own_ins (base := w.heap.size) HOWN.out hj (Nat.le_trans (keep_size HK1.out) HB5.out.size))
      clear HI1 HB1 HK1 HR1 HC1 HCD HO HB5 HC5 HC15 HOWN HG6 hd h3
      go_wp2_with fail
      go_roundw
      case rel => exact ⟨m + 1, _, k1, by omega, by go_num, HP6, HR6, HI6, HS1, HB6, HK6⟩
      case measure => simp [intOf]; omega
    · obtain rfl : m = n := by omega
      obtain ⟨A, c, rfl, _, _⟩ := Kd.R_reads HR.out
      go_wp2_with fail
      go_ret
      exact ⟨_, P, k, rfl, HP.out, HR.out, HI.out, HS.out, HB.out, HK.out⟩
end Go.Proofs.YtpjnlbippcgnoaaDoor
