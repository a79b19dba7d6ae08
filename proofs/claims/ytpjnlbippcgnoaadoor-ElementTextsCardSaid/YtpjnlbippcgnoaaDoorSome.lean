/-
  Some returns a valid reading of an element.
-/
import Derived.Test.YtpjnlbippcgnoaaDoorRfmt
import Derived.Test.YtpjnlbippcgnoaaDoorSrc
import Derived.Deep.RegionHeld3
namespace Go.Proofs.YtpjnlbippcgnoaaDoor
open Go.RowKit Txt

theorem lo_mid (c : Nat) (hc : c < 11) : lo c + 40 ≤ (lo c + hi c) / 2 ∧ (lo c + hi c) / 2 + 40 ≤ hi c ∧ 0 ≤ lo c + hi c := by
  have : c = 0 ∨ c = 1 ∨ c = 2 ∨ c = 3 ∨ c = 4 ∨ c = 5 ∨ c = 6 ∨ c = 7 ∨ c = 8 ∨ c = 9 ∨ c = 10 := by omega
  rcases this with rfl | rfl | rfl | rfl | rfl | rfl | rfl | rfl | rfl | rfl | rfl <;> decide

/-- a valid reading of the element c is returned; only the block g has changed -/
def SomeIs (c : Nat) (w0 w : World) (g : Nat) (r : Ending) (w' : World) : Prop :=
  ∃ v : Int, lo c ≤ v ∧ v ≤ hi c ∧ r = .returned (rdV ((c : Int) + 1) v) ∧ SrcS w0 w' g ∧ w.grownBy w' (some g)
theorem Blk.grown {w w' : World} {b g : Nat} {cs : Array Value} (h : Blk w b cs) (hg : w.grownBy w' (some g)) (hne : b ≠ g) : Blk w' b cs := by
  have hlt := h.lt
  obtain ⟨t, h⟩ := h
  exact ⟨t, (hg.block b hlt (fun e => hne (by injection e))).trans h⟩
theorem grown_alloc {a b : World} {g : Nat} (h : a.grownBy b (some g)) (o : Obj) : a.grownBy (b.alloc o) (some g) :=
  ⟨h.os, h.tape, h.output, by simpa using Nat.le_succ_of_le h.size, fun k hk hn => (Below.heap_alloc b o k (Nat.lt_of_lt_of_le hk h.size)).trans (h.block k hk hn)⟩
theorem grown_own {a b : World} {g : Nat} (h : a.grownBy b (some g)) (p : Addr) (hp : a.heap.size ≤ p.block) (u : Value) : a.grownBy (b.setCell p u) (some g) :=
  ⟨h.os, h.tape, h.output, by simpa [World.setCell] using h.size, fun k hk hn => (Below.heap_setCell b p u k (by omega)).trans (h.block k hk hn)⟩
theorem grown_drew {a b : World} {g : Nat} (h : a.grownBy b (some g)) : a.grownBy b.drew (some g) := ⟨h.os, h.tape, h.output, h.size, h.block⟩
theorem grown_below {a b c : World} {g : Nat} (h : a.grownBy b (some g)) (k : Below b.heap.size b c) : a.grownBy c (some g) :=
  ⟨k.os.trans h.os, k.tape.trans h.tape, k.output.trans h.output, Nat.le_trans h.size k.size, fun i hi hn => (k.block i (Nat.lt_of_lt_of_le hi h.size)).trans (h.block i hi hn)⟩

theorem mid_wrap {a z : Int} (h0 : 0 ≤ a) (h1 : a ≤ 100000) (h2 : -40 ≤ z) (h3 : z ≤ 40) : IntKind.i64.wrap (IntKind.i64.wrap ((IntKind.i64.wrap a).tdiv 2) + z) = a / 2 + z := by
  have e : ∀ b : Int, -1000000 ≤ b → b ≤ 1000000 → IntKind.i64.wrap b = b := by
    intro b q1 q2
    simp [IntKind.wrap, IntKind.signed, IntKind.bits]
    omega
  rw [e a (by omega) (by omega), Int.tdiv_eq_ediv_of_nonneg h0, e (a / 2) (by omega) (by omega), e _ (by omega) (by omega)]
theorem SrcS.own {w0 w : World} {g : Nat} (h : SrcS w0 w g) (p : Addr) (hp : w0.heap.size ≤ p.block) (hne : g ≠ p.block) (u : Value) : SrcS w0 (w.setCell p u) g :=
  h.keep ((Below.refl _ _).setCell hp u) (Below.heap_setCell w p u g hne)
theorem some_end {c : Nat} {w0 w W : World} {g : Nat} {v : Int} (a : Act) (h4 : a.tmps.getD 4 undef = .pointer (some ⟨w.heap.size, 0, none⟩)) (hd : a.defers = [])
    (hB : Blk W w.heap.size #[.int .i64 ((c : Int) + 1), .int .i64 v]) (h1 : lo c ≤ v) (h2 : v ≤ hi c) (hS : SrcS w0 W g) (hG : w.grownBy W (some g)) :
    bodyPost Tryd.prog Tryd.f10 (SomeIs c w0 w g) .ret a W := by
  have r0 := hB.cell 0
  have r1 := hB.cell 1
  simp at r0 r1
  refine bodyPost_ret (v := rdV ((c : Int) + 1) v) ?_ hd ⟨v, h1, h2, rfl, hS, hG⟩
  have h4' : a.tmps[4]?.getD undef = .pointer (some ⟨w.heap.size, 0, none⟩) := by simpa using h4
  simp [results, Tryd.results10, go_sem, h4', r0, r1]

set_option maxRecDepth 20000 in
set_option maxHeartbeats 4000000 in
theorem some_any (c : Nat) (hc : c < 11) (w0 w : World) (g : Nat) (hS : SrcS w0 w g) : Calls Tryd.prog 10 #[.pointer (some ⟨g, 0, none⟩), .int .i64 ((c : Int) + 1)] w (SomeIs c w0 w g) := by
  obtain ⟨l1, l2, l3, l4⟩ := lo_hi c hc
  obtain ⟨m1, m2, m3⟩ := lo_mid c hc
  have hgl := hS.lt
  have hw0 := hS.1.size
  have HS := Lib.hid (hS.below ((Below.refl _ w).alloc (Nat.le_refl _) (.cells #[.int .i64 0, .int .i64 0] 23)))
  have HG := Lib.hid (grown_alloc (grown_refl w g) (.cells #[.int .i64 0, .int .i64 0] 23))
  have HB := Lib.hid (Blk.new w 23 #[.int .i64 0, .int .i64 0])
  clear hS l4
  go_enter Tryd.func10, Tryd.ntmps10
  go_wp2_with fail
  refine (rdescribe_ok c hc _).mono ?_
  rintro r w1 ⟨rfl, hb1⟩
  have HS1 := Lib.hid ((HS.out.below hb1).below ((Below.refl _ w1).alloc (Nat.le_refl _) (.cells #[.string ⟨#[ltr c]⟩, .int .i64 (lo c), .int .i64 (hi c), .int .i64 (dig c)] 39)))
  have HG1 := Lib.hid (grown_alloc (grown_below HG.out hb1) (.cells #[.string ⟨#[ltr c]⟩, .int .i64 (lo c), .int .i64 (hi c), .int .i64 (dig c)] 39))
  have HB1 := Lib.hid ((HB.out.below hb1 HB.out.lt).alloc (.cells #[.string ⟨#[ltr c]⟩, .int .i64 (lo c), .int .i64 (hi c), .int .i64 (dig c)] 39))
  have HC1 := Lib.hid (Blk.new w1 39 #[.string ⟨#[ltr c]⟩, .int .i64 (lo c), .int .i64 (hi c), .int .i64 (dig c)])
  have hs1 : w.heap.size < w1.heap.size := Nat.lt_of_lt_of_le (by simp) hb1.size
  clear hb1 HS HG HB
  go_wp2_with fail
  refine (range_any w0 _ g _ _ HS1.out (by omega) (by omega) (by omega)).mono ?_
  rintro r w2 ⟨v, ⟨v0, v1⟩, rfl, hs2, hg2⟩
  have HS2 := Lib.hid (hs2.below ((Below.refl _ w2).alloc (Nat.le_refl _) (.cells #[.int .i64 ((c : Int) + 1), .int .i64 v] 23)))
  have HG2 := Lib.hid (grown_alloc (grown_trans HG1.out hg2) (.cells #[.int .i64 ((c : Int) + 1), .int .i64 v] 23))
  have HB2 := Lib.hid ((HB1.out.grown hg2 (by omega)).alloc (.cells #[.int .i64 ((c : Int) + 1), .int .i64 v] 23))
  have HC2 := Lib.hid ((HC1.out.grown hg2 (by omega)).alloc (.cells #[.int .i64 ((c : Int) + 1), .int .i64 v] 23))
  have HD2 := Lib.hid (Blk.new w2 23 #[.int .i64 ((c : Int) + 1), .int .i64 v])
  have hs2 : w1.heap.size < w2.heap.size := Nat.lt_of_lt_of_le (by simp) hg2.size
  clear hg2 HS1 HG1 HB1 HC1
  go_wp2_with fail
  refine (n_any w0 _ g _ HS2.out (by omega) (by omega)).mono ?_
  rintro r w3 ⟨k, ⟨k0, k1⟩, rfl, hs3, hg3⟩
  have HS3 := Lib.hid hs3
  have HG3 := Lib.hid (grown_trans HG2.out hg3)
  have HB3 := Lib.hid (HB2.out.grown hg3 (by omega))
  have HC3 := Lib.hid (HC2.out.grown hg3 (by omega))
  have HD3 := Lib.hid (HD2.out.grown hg3 (by omega))
  clear hs3 hg3 HS2 HG2 HB2 HC2 HD2
  have hu0 := HB3.out.cell 0
  have hu1 := HB3.out.cell 1
  have hb0 := HB3.out.frozen 0
  have hb1 := HB3.out.frozen 1
  have hlb := HB3.out.lt
  have hc1 := HC3.out.cell 1
  have hc2 := HC3.out.cell 2
  have hlc := HC3.out.lt
  have hd0 := HD3.out.cell 0
  have hd1 := HD3.out.cell 1
  have hdf := HD3.out.frozen 1
  have hld := HD3.out.lt
  simp at hu0 hu1 hc1 hc2 hd0 hd1
  rcases (by omega : k = 0 ∨ (k = 1 ∨ k = 2) ∨ 3 ≤ k) with rfl | hk | hk
  · go_wp2_with fail
    have hs4 := HS3.out.lt
    refine (pick_any w0 _ g _ 2 _ (fun z => lo c ≤ z ∧ z ≤ hi c) (HS3.out.below ((Below.refl _ _).alloc (Nat.le_refl _) _)) (Blk.new _ _ _) (by omega) (by omega) (by omega) ?_).mono ?_
    · intro j hj
      rcases j with _ | _ | j
      · exact ⟨_, rfl, by omega, by omega⟩
      · exact ⟨_, rfl, by omega, by omega⟩
      · omega
    rintro r w4 ⟨z, ⟨z0, z1⟩, rfl, hsx, hgx⟩
    have HSX := Lib.hid (hsx.own ⟨w2.heap.size, 1, none⟩ (by simp; omega) (by simp; omega) (.int .i64 z))
    have HGX := Lib.hid (grown_own (grown_trans (grown_alloc HG3.out (.cells #[.int .i64 (lo c), .int .i64 (hi c)] 3)) hgx) ⟨w2.heap.size, 1, none⟩ (by simp; omega) (.int .i64 z))
    have hB4 := (HB3.out.alloc (.cells #[.int .i64 (lo c), .int .i64 (hi c)] 3)).grown hgx (by omega)
    have hD4 := (HD3.out.alloc (.cells #[.int .i64 (lo c), .int .i64 (hi c)] 3)).grown hgx (by omega)
    clear hu0 hu1 hb0 hb1 hc1 hc2 hd0 hd1 hdf hsx hgx
    have hu0 := hB4.cell 0
    have hu1 := hB4.cell 1
    have hb0 := hB4.frozen 0
    have hb1 := hB4.frozen 1
    have hd0 := hD4.cell 0
    have hd1 := hD4.cell 1
    have hdf := hD4.frozen 1
    simp at hu0 hu1 hd0 hd1
    have HB4 := Lib.hid hB4
    clear hB4 hD4
    go_wp2_with fail
    have hB := HB4.out
    refine some_end (v := z) _ rfl rfl (Blk.put' (Blk.put' (hB.away (by omega) _ _) rfl) rfl) (by omega) (by omega) ?_ ?_
    · exact (HSX.out.own ⟨w.heap.size, 0, none⟩ hw0 (by simp; omega) _).own ⟨w.heap.size, 1, none⟩ hw0 (by simp; omega) _
    · exact grown_own (grown_own HGX.out ⟨w.heap.size, 0, none⟩ (Nat.le_refl _) _) ⟨w.heap.size, 1, none⟩ (Nat.le_refl _) _
  · have hk0 : (k == 0) = false := by rw [beq_eq_false_iff_ne]; omega
    rcases hk with rfl | rfl
    · have hne1 : ¬ w2.heap.size = w1.heap.size := by omega
      go_wp2_with fail
      go_region_held3 (fun w' => w'.cell? ⟨w1.heap.size, 1, none⟩ = some (.int .i64 (lo c)) ∧ w'.cell? ⟨w1.heap.size, 2, none⟩ = some (.int .i64 (hi c))) (go_keep) ((first | (go_at_call 11; refine (range_any w0 _ g _ _ (HS3.out.below ((Below.refl _ w3).drew)) (by omega) (by omega) (by omega)).mono ?_; rintro r wq ⟨z, ⟨z0, z1⟩, rfl, hsq, hgq⟩; have hc1q := ((HC3.out.drew).grown hgq (by omega)).cell 1; have hc2q := ((HC3.out.drew).grown hgq (by omega)).cell 2; simp at hc1q hc2q; have hd0q := ((HD3.out.drew).grown hgq (by omega)).cell 0; have hd1q := ((HD3.out.drew).grown hgq (by omega)).cell 1; have hdfq := ((HD3.out.drew).grown hgq (by omega)).frozen 1; simp at hd0q hd1q)))
      all_goals
        have hE : IntKind.i64.wrap (IntKind.i64.wrap ((IntKind.i64.wrap (lo c + hi c)).tdiv 2) + z) = (lo c + hi c) / 2 + z := mid_wrap m3 (by omega) z0 z1
        rw [hE]
        have HSX := Lib.hid (hsq.own ⟨w2.heap.size, 1, none⟩ (by simp; omega) (by simp; omega) (.int .i64 ((lo c + hi c) / 2 + z)))
        have HGX := Lib.hid (grown_own (grown_trans (grown_drew HG3.out) hgq) ⟨w2.heap.size, 1, none⟩ (by simp; omega) (.int .i64 ((lo c + hi c) / 2 + z)))
        have hB4 := (HB3.out.drew).grown hgq (by omega)
        have hD4 := (HD3.out.drew).grown hgq (by omega)
        clear hu0 hu1 hb0 hb1 hc1 hc2 hd0 hd1 hdf hsq hgq hE
        have hu0 := hB4.cell 0
        have hu1 := hB4.cell 1
        have hb0 := hB4.frozen 0
        have hb1 := hB4.frozen 1
        have hd0 := hD4.cell 0
        have hd1 := hD4.cell 1
        have hdf := hD4.frozen 1
        simp at hu0 hu1 hd0 hd1
        have HB4 := Lib.hid hB4
        clear hB4 hD4
        go_wp2_with fail
        have hB := HB4.out
        refine some_end (v := (lo c + hi c) / 2 + z) _ rfl rfl (Blk.put' (Blk.put' (hB.away (by omega) _ _) rfl) rfl) (by omega) (by omega) ?_ ?_
        · exact (HSX.out.own ⟨w.heap.size, 0, none⟩ hw0 (by simp; omega) _).own ⟨w.heap.size, 1, none⟩ hw0 (by simp; omega) _
        · exact grown_own (grown_own HGX.out ⟨w.heap.size, 0, none⟩ (Nat.le_refl _) _) ⟨w.heap.size, 1, none⟩ (Nat.le_refl _) _
    · have hne1 : ¬ w2.heap.size = w1.heap.size := by omega
      go_wp2_with fail
      go_region_held3 (fun w' => w'.cell? ⟨w1.heap.size, 1, none⟩ = some (.int .i64 (lo c)) ∧ w'.cell? ⟨w1.heap.size, 2, none⟩ = some (.int .i64 (hi c))) (go_keep) ((first | (go_at_call 11; refine (range_any w0 _ g _ _ (HS3.out.below ((Below.refl _ w3).drew)) (by omega) (by omega) (by omega)).mono ?_; rintro r wq ⟨z, ⟨z0, z1⟩, rfl, hsq, hgq⟩; have hc1q := ((HC3.out.drew).grown hgq (by omega)).cell 1; have hc2q := ((HC3.out.drew).grown hgq (by omega)).cell 2; simp at hc1q hc2q; have hd0q := ((HD3.out.drew).grown hgq (by omega)).cell 0; have hd1q := ((HD3.out.drew).grown hgq (by omega)).cell 1; have hdfq := ((HD3.out.drew).grown hgq (by omega)).frozen 1; simp at hd0q hd1q)))
      all_goals
        have hE : IntKind.i64.wrap (IntKind.i64.wrap ((IntKind.i64.wrap (lo c + hi c)).tdiv 2) + z) = (lo c + hi c) / 2 + z := mid_wrap m3 (by omega) z0 z1
        rw [hE]
        have HSX := Lib.hid (hsq.own ⟨w2.heap.size, 1, none⟩ (by simp; omega) (by simp; omega) (.int .i64 ((lo c + hi c) / 2 + z)))
        have HGX := Lib.hid (grown_own (grown_trans (grown_drew HG3.out) hgq) ⟨w2.heap.size, 1, none⟩ (by simp; omega) (.int .i64 ((lo c + hi c) / 2 + z)))
        have hB4 := (HB3.out.drew).grown hgq (by omega)
        have hD4 := (HD3.out.drew).grown hgq (by omega)
        clear hu0 hu1 hb0 hb1 hc1 hc2 hd0 hd1 hdf hsq hgq hE
        have hu0 := hB4.cell 0
        have hu1 := hB4.cell 1
        have hb0 := hB4.frozen 0
        have hb1 := hB4.frozen 1
        have hd0 := hD4.cell 0
        have hd1 := hD4.cell 1
        have hdf := hD4.frozen 1
        simp at hu0 hu1 hd0 hd1
        have HB4 := Lib.hid hB4
        clear hB4 hD4
        go_wp2_with fail
        have hB := HB4.out
        refine some_end (v := (lo c + hi c) / 2 + z) _ rfl rfl (Blk.put' (Blk.put' (hB.away (by omega) _ _) rfl) rfl) (by omega) (by omega) ?_ ?_
        · exact (HSX.out.own ⟨w.heap.size, 0, none⟩ hw0 (by simp; omega) _).own ⟨w.heap.size, 1, none⟩ hw0 (by simp; omega) _
        · exact grown_own (grown_own HGX.out ⟨w.heap.size, 0, none⟩ (Nat.le_refl _) _) ⟨w.heap.size, 1, none⟩ (Nat.le_refl _) _
  · have t0 : (k == 0) = false := by rw [beq_eq_false_iff_ne]; omega
    have t1 : (k == 1) = false := by rw [beq_eq_false_iff_ne]; omega
    have t2 : (k == 2) = false := by rw [beq_eq_false_iff_ne]; omega
    clear hk
    go_wp2_with fail
    have hB := HB3.out
    refine some_end (v := v) _ rfl rfl (by (repeat' (first | with_reducible assumption | with_reducible exact Blk.new _ _ _ | ((with_reducible refine Blk.new' _ _ _ ?_); (simp; done)) | with_reducible refine Blk.alloc ?_ _ | with_reducible refine Blk.drewN ?_ _ | with_reducible refine Blk.drew ?_ | with_reducible apply Blk.put' | ((with_reducible refine Blk.away ?_ ?_ _ _); rotate_left; omega) | rfl | omega))) (by omega) (by omega) ?_ ?_
    · exact (HS3.out.own ⟨w.heap.size, 0, none⟩ hw0 (by simp; omega) _).own ⟨w.heap.size, 1, none⟩ hw0 (by simp; omega) _
    · exact grown_own (grown_own HG3.out ⟨w.heap.size, 0, none⟩ (Nat.le_refl _) _) ⟨w.heap.size, 1, none⟩ (Nat.le_refl _) _
end Go.Proofs.YtpjnlbippcgnoaaDoor
