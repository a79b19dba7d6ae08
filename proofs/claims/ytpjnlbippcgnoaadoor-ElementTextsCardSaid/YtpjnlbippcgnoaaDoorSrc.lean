/-
  The reader of numbers of the statements (keep.Src): what its methods return lies in the stated range, and they change its own block alone.
-/
import Derived.Test.YtpjnlbippcgnoaaDoorNear
namespace Go.Proofs.YtpjnlbippcgnoaaDoor
open Go.RowKit

/-- an int of 64 bits -/
def I64 (z : Int) : Prop := (Lit.int .i64 z).wf = true

/-- In w the block g is a reader over cells of w0 that hold ints; below w0's size all is as in w0. -/
def SrcS (w0 w : World) (g : Nat) : Prop :=
  Below w0.heap.size w0 w ∧ w0.heap.size ≤ g ∧ ∃ (A : Option Addr) (n c k : Nat), Blk w g #[.slice A n c, .int .i64 k] ∧ k ≤ n ∧ n ≤ 2000 ∧
    (0 < n → ∃ b o : Nat, A = some ⟨b, o, none⟩ ∧ b < w0.heap.size ∧ ∀ j, j < n → ∃ z, w0.cell? ⟨b, o + j, none⟩ = some (.int .i64 z) ∧ I64 z)

/-- a number with the property R is returned; only the block g has changed -/
def Got (w0 w : World) (g : Nat) (R : Int → Prop) (e : Ending) (w' : World) : Prop :=
  ∃ v : Int, R v ∧ e = .returned (.int .i64 v) ∧ SrcS w0 w' g ∧ w.grownBy w' (some g)

theorem SrcS.lt {w0 w : World} {g : Nat} (h : SrcS w0 w g) : g < w.heap.size := by
  obtain ⟨_, _, A, n, c, k, hb, _⟩ := h
  exact hb.lt
theorem SrcS.keep {w0 w w' : World} {g : Nat} (h : SrcS w0 w g) (hb : Below w0.heap.size w w') (hg : w'.heap[g]? = w.heap[g]?) : SrcS w0 w' g := by
  obtain ⟨h1, h2, A, n, c, k, ⟨t, h3⟩, h4⟩ := h
  exact ⟨h1.trans hb, h2, A, n, c, k, ⟨t, hg.trans h3⟩, h4⟩
theorem SrcS.below {w0 w w' : World} {g : Nat} (h : SrcS w0 w g) (hb : Below w.heap.size w w') : SrcS w0 w' g :=
  h.keep (hb.mono h.1.size) (hb.block g h.lt)
theorem grown_refl (w : World) (g : Nat) : w.grownBy w (some g) := ⟨rfl, rfl, rfl, Nat.le_refl _, fun _ _ _ => rfl⟩
theorem grown_trans {a b c : World} {g : Nat} (h : a.grownBy b (some g)) (k : b.grownBy c (some g)) : a.grownBy c (some g) :=
  ⟨k.os.trans h.os, k.tape.trans h.tape, k.output.trans h.output, Nat.le_trans h.size k.size, fun i hi hn => (k.block i (Nat.lt_of_lt_of_le hi h.size) hn).trans (h.block i hi hn)⟩
theorem grown_drewN {a b : World} {g : Nat} (h : a.grownBy b (some g)) (n : Nat) : a.grownBy (b.drewN n) (some g) := ⟨h.os, h.tape, h.output, h.size, h.block⟩
theorem grown_put {a b : World} {g : Nat} (h : a.grownBy b (some g)) (i : Nat) (v : Value) : a.grownBy (b.setCell ⟨g, i, none⟩ v) (some g) :=
  ⟨h.os, h.tape, h.output, by simpa [World.setCell] using h.size, fun k hk hn => (Below.heap_setCell b ⟨g, i, none⟩ v k (fun e => hn (by rw [e]))).trans (h.block k hk hn)⟩

set_option maxHeartbeats 1000000 in
theorem raw_any (w0 w : World) (g : Nat) (hS : SrcS w0 w g) : Calls Tryd.prog 44 #[.pointer (some ⟨g, 0, none⟩)] w (Got w0 w g I64) := by
  have hS' := hS
  obtain ⟨hb, hg, A, n, c, k, hB, hk, hn, hcell⟩ := hS
  have c0 := hB.cell 0
  have c1 := hB.cell 1
  have f1 := hB.frozen 1
  simp at c0 c1
  by_cases hlt : k < n
  · obtain ⟨b, o, rfl, hb0, hz⟩ := hcell (by omega)
    obtain ⟨z, hz1, hz2⟩ := hz k hlt
    have hc := (hb.cell (p := ⟨b, o + k, none⟩) hb0).trans hz1
    have hne : ¬ g = b := by omega
    have HZ := Lib.hid hz2
    have HS := Lib.hid hS'
    have HB := Lib.hid hB
    have HC := Lib.hid hcell
    clear hz hz1 hz2 hS' hB hcell
    go_enter Tryd.func44, Tryd.ntmps44
    go_wp2
    go_quiet (fail)
    go_wp2
    go_quiet (fail)
    go_wp2
    go_ret
    refine ⟨z, HZ.out, rfl, ⟨?_, hg, some ⟨b, o, none⟩, n, c, k + 1, ?_, by omega, hn, HC.out⟩, ?_⟩
    · exact below_drewN ((below_drewN hb _).setCell (p := ⟨g, 1, none⟩) hg _) _
    · exact ((HB.out.drewN _).put 1 _).drewN _
    · exact grown_drewN (grown_put (grown_drewN (grown_refl _ _) _) 1 _) _
  · have HS := Lib.hid hS'
    clear hS' hcell
    go_enter Tryd.func44, Tryd.ntmps44
    go_wp2
    go_quiet (fail)
    go_wp2
    go_ret
    exact ⟨0, by unfold I64; decide, rfl, HS.out.keep ⟨rfl, rfl, rfl, Nat.le_refl _, fun _ _ => rfl⟩ rfl, grown_drewN (grown_refl _ _) _⟩

/-- a number from lo up to hi -/
def InR (lo hi v : Int) : Prop := lo ≤ v ∧ v ≤ hi

theorem mod_arith (x n : Int) (hn : 0 < n) : -n < x.tmod n ∧ x.tmod n < n := by
  have h1 := Int.tmod_lt_of_pos x hn
  have h2 := Int.neg_tmod x n
  have h3 := Int.tmod_lt_of_pos (-x) hn
  omega
def SomeInt (R : Int → Prop) (w : World) (e : Ending) (w' : World) : Prop := ∃ v : Int, R v ∧ e = .returned (.int .i64 v) ∧ w = w'
set_option maxHeartbeats 1000000 in
theorem mod_any (x n : Int) (w : World) (h1 : 1 ≤ n) (h2 : n ≤ 4000000000) : Calls Tryd.prog 15 #[.int .i64 x, .int .i64 n] w (SomeInt (InR 0 (n - 1)) w) := by
  have hm := mod_arith x n (by omega)
  by_cases hlt : x.tmod n < 0
  · go_enter Tryd.func15, Tryd.ntmps15
    go_wp2
    go_ret
    exact ⟨_, ⟨by omega, by omega⟩, rfl, rfl⟩
  · go_enter Tryd.func15, Tryd.ntmps15
    go_wp2
    go_ret
    exact ⟨_, ⟨by omega, by omega⟩, rfl, rfl⟩

/-- a reader makes a step -/
theorem SrcS.drewN {w0 w : World} {g : Nat} (h : SrcS w0 w g) (n : Nat) : SrcS w0 (w.drewN n) g := h.keep ⟨rfl, rfl, rfl, Nat.le_refl _, fun _ _ => rfl⟩ rfl

set_option maxHeartbeats 1000000 in
theorem n_any (w0 w : World) (g : Nat) (n : Int) (hS : SrcS w0 w g) (h1 : 1 ≤ n) (h2 : n ≤ 4000000000) : Calls Tryd.prog 22 #[.pointer (some ⟨g, 0, none⟩), .int .i64 n] w (Got w0 w g (InR 0 (n - 1))) := by
  have HS := Lib.hid hS
  clear hS
  go_enter Tryd.func22, Tryd.ntmps22
  go_wp2_with (first
    | (go_at_call 44; refine (raw_any w0 _ g HS.out).mono ?_; rintro e w1 ⟨v, hv, rfl, hs1, hg1⟩; have HV := Lib.hid hv; have HS1 := Lib.hid hs1; have HG := Lib.hid hg1; clear hv hs1 hg1)
    | (go_at_call 15; refine (mod_any _ _ _ h1 h2).mono ?_; rintro e w' ⟨u, hu, rfl, rfl⟩; have HU := Lib.hid hu; clear hu))
  go_ret
  exact ⟨_, HU.out, rfl, HS1.out, HG.out⟩

set_option maxHeartbeats 1000000 in
theorem range_any (w0 w : World) (g : Nat) (lo hi : Int) (hS : SrcS w0 w g) (h0 : lo ≤ hi) (h1 : -1000000000 ≤ lo) (h2 : hi ≤ 1000000000) : Calls Tryd.prog 11 #[.pointer (some ⟨g, 0, none⟩), .int .i64 lo, .int .i64 hi] w (Got w0 w g (InR lo hi)) := by
  have HS := Lib.hid hS
  clear hS
  go_enter Tryd.func11, Tryd.ntmps11
  go_wp2_with (first
    | (go_at_call 22; refine (n_any w0 _ g _ HS.out (by omega) (by omega)).mono ?_; rintro e w1 ⟨v, hv, rfl, hs1, hg1⟩; obtain ⟨v0, v1⟩ := hv; have HS1 := Lib.hid hs1; have HG := Lib.hid hg1; clear hs1 hg1))
  go_ret
  exact ⟨_, ⟨by omega, by omega⟩, rfl, HS1.out, HG.out⟩

/-- A slice of ints that came in: its elements lie in w. -/
def SliceIn (w : World) (A : Option Addr) (n c : Nat) : Prop :=
  n ≤ c ∧ c ≤ maxLen ∧ (0 < n → ∃ b o : Nat, A = some ⟨b, o, none⟩ ∧ b < w.heap.size ∧ ∀ j, j < n → ∃ z, w.cell? ⟨b, o + j, none⟩ = some (.int .i64 z) ∧ I64 z)

set_option maxHeartbeats 1000000 in
theorem new_any (w : World) (A : Option Addr) (n c : Nat) (hS : SliceIn w A n c) :
    Calls Tryd.prog 9 #[.slice A n c] w fun e w' => e = .returned (.pointer (some ⟨w.heap.size, 0, none⟩)) ∧ SrcS w w' w.heap.size ∧ Below w.heap.size w w' := by
  obtain ⟨hn, hc, hcell⟩ := hS
  have HC := Lib.hid hcell
  clear hcell
  unfold maxLen at hc
  go_enter Tryd.func9, Tryd.ntmps9
  go_wp2
  · go_ret
    have hn' : 2000 < n := by omega
    refine ⟨rfl, ⟨(Below.refl _ _).alloc (Nat.le_refl _) _, Nat.le_refl _, A, 2000, c, 0, Blk.new w 62 _, by omega, by omega, fun _ => ?_⟩, (Below.refl _ _).alloc (Nat.le_refl _) _⟩
    obtain ⟨b, o, h1, h2, h3⟩ := HC.out (by omega)
    exact ⟨b, o, h1, h2, fun j hj => h3 j (by omega)⟩
  · go_ret
    exact ⟨rfl, ⟨(Below.refl _ _).alloc (Nat.le_refl _) _, Nat.le_refl _, A, n, c, 0, Blk.new w 62 _, by omega, by omega, HC.out⟩, (Below.refl _ _).alloc (Nat.le_refl _) _⟩

set_option maxHeartbeats 1000000 in
theorem pick_any (w0 w : World) (g b n : Nat) (cs : Array Value) (R : Int → Prop) (hS : SrcS w0 w g) (hB : Blk w b cs) (hne : b ≠ g) (h0 : 0 < n) (h1 : n ≤ 1000) (hR : ∀ j, j < n → ∃ z, cs[j]? = some (.int .i64 z) ∧ R z) :
    Calls Tryd.prog 34 #[.pointer (some ⟨g, 0, none⟩), .slice (some ⟨b, 0, none⟩) n n] w (Got w0 w g R) := by
  have HS := Lib.hid hS
  have HB := Lib.hid hB
  have HR := Lib.hid hR
  have HN := Lib.hid hne
  clear hS hB hR hne
  go_enter Tryd.func34, Tryd.ntmps34
  go_wp2_with (first
    | (go_at_call 22; refine (n_any w0 _ g _ HS.out (by omega) (by omega)).mono ?_; rintro e w1 ⟨v, hv, rfl, hs1, hg1⟩; obtain ⟨v0, v1⟩ := hv; obtain ⟨j, rfl⟩ := Int.eq_ofNat_of_zero_le v0; obtain ⟨z, hz, hr⟩ := HR.out j (by omega); have hc : w1.cell? ⟨b, j, none⟩ = some (.int .i64 z) := (World.cell?_of_block (w := w) (hg1.block b HB.out.lt (fun e => HN.out (by injection e)))).trans ((HB.out.cell j).trans hz); have HRz := Lib.hid hr; have HS1 := Lib.hid hs1; have HG := Lib.hid hg1; clear hs1 hg1 hz hr))
  go_ret
  exact ⟨z, HRz.out, rfl, HS1.out, HG.out⟩
end Go.Proofs.YtpjnlbippcgnoaaDoor
