/-
  Contracts of the functions of the layer and of its reference (several texts laid one behind the other).
-/
import Derived.Test.YtpjnlbippcgnoaaDoorProg
import Derived.WalkKit
import Derived.WalkSpells
import Derived.WalkLawsBesides
import Derived.Lib.Hide
import Derived.Deep.QuietTactic
import Derived.BigQuiet
import Derived.Test.YtpjnlbippcgnoaaDoorRows
import Derived.Test.YtpjnlbippcgnoaaDoorTie
import Derived.ProofKit
import Derived.OpenShut
import Derived.LaidMore
import Derived.Lay
import Derived.LaidOnce
import Derived.MakeChecks
import Derived.SevenTiedAt
import Derived.Below
import Derived.BigRegion
import Derived.Lib.ConvBytes
/-
  A region that draws its order, whose operations only read, and whose callees may make memory of their own but change nothing that is there: one walk in the order of the text serves every order.
-/
namespace Go.Proofs.YtpjnlbippcgnoaaDoor
open Go.RowKit

theorem below_drewN {B : Nat} {a w : World} (h : Below B a w) (n : Nat) : Below B a (w.drewN n) := ⟨h.os, h.tape, h.output, h.size, h.block⟩

/-- A world in which all that lies in W lies unchanged. -/
structure Near (W : World) where
  w : World
  h : Below W.heap.size W w

instance near_there (W : World) : Nonempty (Near W) := ⟨⟨W, Below.refl _ _⟩⟩

theorem Near.cell_ {W : World} (x : Near W) (b o : Nat) (hb : b < W.heap.size) : x.w.cell? ⟨b, o, none⟩ = W.cell? ⟨b, o, none⟩ := x.h.cell (p := ⟨b, o, none⟩) hb
theorem Near.frozen_ {W : World} (x : Near W) (b o : Nat) (hb : b < W.heap.size) : x.w.frozen? ⟨b, o, none⟩ = W.frozen? ⟨b, o, none⟩ := x.h.frozen (p := ⟨b, o, none⟩) hb
attribute [go_sem] Near.cell_ Near.frozen_

theorem wp_region_near {P : Program} {id : Nat} {Q : Exit → Act → World → Prop} {a : Act} {w : World} {l : List Oper} (hm : P.follows .mixedOrders = true) (hB : Region.lexB .any l.toArray = true)
    (h : wpQuiet P l.toArray (fun w' => ∃ x : Near w, w' = x.w) (fun a' => ∀ x : Near w, Q .normal a' x.w) l a) : (Code.region id l.toArray true).wp P Q a w := by
  refine wp_region_quiet (C := fun w' => ∃ x : Near w, w' = x.w) hm hB ⟨⟨w.drew, (Below.refl _ _).drew⟩, rfl⟩ ?_
  have e : (fun a' => ∀ w', (∃ x : Near w, w' = x.w) → Q .normal a' w') = (fun a' => ∀ x : Near w, Q .normal a' x.w) := by
    funext a'
    exact propext ⟨fun k x => k _ ⟨x, rfl⟩, fun k w' ⟨x, hx⟩ => hx ▸ k x⟩
  rw [e]
  simpa using h

theorem near_of {P : Program} {f : FuncId} {args : Array Value} {W : World} {x : Near W} {v : Value}
    (h : Calls P f args x.w fun e w' => e = .returned v ∧ Below x.w.heap.size x.w w') : Calls P f args x.w fun e w'' => e = .returned v ∧ ∃ y : Near W, w'' = y.w :=
  h.mono fun _ w' ⟨he, hb⟩ => ⟨he, ⟨w', x.h.trans (hb.mono x.h.size)⟩, rfl⟩
theorem near_same {P : Program} {f : FuncId} {args : Array Value} {W : World} {x : Near W} {v : Value}
    (h : Calls P f args x.w fun e w' => e = .returned v ∧ x.w = w') : Calls P f args x.w fun e w'' => e = .returned v ∧ ∃ y : Near W, w'' = y.w :=
  h.mono fun _ _ ⟨he, hw⟩ => ⟨he, x, hw.symm⟩

/-- The block g holds just the cells cs, and none of them is marked. -/
def Blk (w : World) (g : Nat) (cs : Array Value) : Prop := ∃ t, w.heap[g]? = some (.cells cs t (0, 0))
section
variable {w w' : World} {g : Nat} {cs : Array Value}
theorem Blk.lt (h : Blk w g cs) : g < w.heap.size := by
  obtain ⟨t, h⟩ := h
  rcases Nat.lt_or_ge g w.heap.size with k | k
  · exact k
  · rw [Array.getElem?_eq_none k] at h; cases h
theorem Blk.cell (h : Blk w g cs) (i : Nat) : w.cell? ⟨g, i, none⟩ = cs[i]? := by
  obtain ⟨t, h⟩ := h
  exact cell_of_row w g i cs t (0, 0) h
theorem Blk.frozen (h : Blk w g cs) (i : Nat) : w.frozen? ⟨g, i, none⟩ = false := by
  obtain ⟨t, h⟩ := h
  simp [World.frozen?, h]
theorem Blk.new (w : World) (t : TypeId) (cs : Array Value) : Blk (w.alloc (.cells cs t)) w.heap.size cs := ⟨t, heap_alloc_new w _⟩
theorem Blk.at_ {g' : Nat} (h : Blk w g cs) (e : g = g') : Blk w g' cs := e ▸ h
theorem Blk.drew (h : Blk w g cs) : Blk w.drew g cs := h
theorem Blk.drewN (h : Blk w g cs) (n : Nat) : Blk (w.drewN n) g cs := h
theorem Blk.alloc (h : Blk w g cs) (o : Obj) : Blk (w.alloc o) g cs := by
  have hl := h.lt
  obtain ⟨t, h⟩ := h
  exact ⟨t, (Below.heap_alloc w o g hl).trans h⟩
theorem Blk.put (h : Blk w g cs) (i : Nat) (u : Value) : Blk (w.setCell ⟨g, i, none⟩ u) g (cs.setIfInBounds i u) := by
  obtain ⟨t, h⟩ := h
  exact ⟨t, by simp [World.setCell, Array.getElem?_modify, h]⟩
theorem Blk.away (h : Blk w g cs) {b : Nat} (hb : g ≠ b) (i : Nat) (u : Value) : Blk (w.setCell ⟨b, i, none⟩ u) g cs := by
  obtain ⟨t, h⟩ := h
  exact ⟨t, (Below.heap_setCell w ⟨b, i, none⟩ u g hb).trans h⟩
theorem Blk.below {B : Nat} (h : Blk w g cs) (hb : Below B w w') (hg : g < B) : Blk w' g cs := by
  obtain ⟨t, h⟩ := h
  exact ⟨t, (hb.block g hg).trans h⟩
end
end Go.Proofs.YtpjnlbippcgnoaaDoor
/-
  Tools: to forget how a world came about (forget), and the steps of a block's facts through stores and new blocks.
-/
namespace Go.Proofs.YtpjnlbippcgnoaaDoor
open Go.RowKit

theorem forget {P : Program} {Q : Exit → Act → World → Prop} {a : Act} {w : World} {c : Code} (I : World → Prop) (h0 : I w) (h : ∀ w', I w' → c.wp P Q a w') : c.wp P Q a w := h w h0
theorem Blk.put' {w : World} {g : Nat} {cs cs' : Array Value} (h : Blk w g cs) {i : Nat} {u : Value} (e : cs.setIfInBounds i u = cs') : Blk (w.setCell ⟨g, i, none⟩ u) g cs' := e ▸ h.put i u
theorem Blk.new' (w : World) (t : TypeId) (cs : Array Value) {g : Nat} (e : w.heap.size = g) : Blk (w.alloc (.cells cs t)) g cs := e ▸ Blk.new w t cs
end Go.Proofs.YtpjnlbippcgnoaaDoor
/-
  Digits and numbers as lists of bytes: plain mathematics.
-/
namespace Go.Proofs.YtpjnlbippcgnoaaDoor.Txt

/-- the last digit of a number -/
def dgt (n : Int) : UInt8 := UInt8.ofNat (48 + (n % 10).toNat)
/-- the last k digits of a number -/
def digs (n : Int) : Nat → List UInt8
  | 0 => []
  | k + 1 => digs (n / 10) k ++ [dgt n]
/-- is a byte a digit? -/
def isd (c : UInt8) : Bool := decide (48 ≤ c.toNat ∧ c.toNat ≤ 57)
/-- the number of digits -/
def num (l : List UInt8) : Int := l.foldl (fun a c => 10 * a + ((c.toNat : Int) - 48)) 0

theorem dgt_nat (n : Int) : (dgt n).toNat = 48 + (n % 10).toNat := by
  unfold dgt
  have h : (n % 10).toNat < 10 := by omega
  rw [UInt8.toNat_ofNat']
  omega
theorem dgt_int (n : Int) : ((dgt n).toNat : Int) = 48 + n % 10 := by
  rw [dgt_nat]; omega
theorem dgt_isd (n : Int) : isd (dgt n) = true := by
  unfold isd; rw [dgt_nat]; simp; omega
theorem digs_length (n : Int) (k : Nat) : (digs n k).length = k := by
  induction k generalizing n with
  | zero => rfl
  | succ k ih => simp [digs, ih]
theorem digs_isd (n : Int) (k : Nat) : ∀ c ∈ digs n k, isd c = true := by
  induction k generalizing n with
  | zero => intro c h; cases h
  | succ k ih =>
    intro c h
    simp only [digs, List.mem_append, List.mem_singleton] at h
    rcases h with h | rfl
    · exact ih _ c h
    · exact dgt_isd n
theorem num_snoc (l : List UInt8) (c : UInt8) : num (l ++ [c]) = 10 * num l + ((c.toNat : Int) - 48) := by
  simp [num, List.foldl_append]
theorem num_digs2 (n : Int) (h0 : 0 ≤ n) (h1 : n < 100) : num (digs n 2) = n := by
  simp only [digs, List.nil_append]
  rw [num_snoc, show [dgt (n / 10)] = [] ++ [dgt (n / 10)] from rfl, num_snoc, dgt_int, dgt_int]
  simp only [num, List.foldl_nil]
  omega
theorem num_digs4 (n : Int) (h0 : 0 ≤ n) (h1 : n < 10000) : num (digs n 4) = n := by
  simp only [digs, List.nil_append]
  rw [num_snoc, num_snoc, num_snoc, show [dgt (n / 10 / 10 / 10)] = [] ++ [dgt (n / 10 / 10 / 10)] from rfl, num_snoc, dgt_int, dgt_int, dgt_int, dgt_int]
  simp only [num, List.foldl_nil]
  omega
theorem isd_bd {c : UInt8} (h : isd c = true) : 48 ≤ c.toNat ∧ c.toNat ≤ 57 := by simpa [isd] using h

/-- the greatest number of k digits -/
def bd : Nat → Int
  | 0 => 0
  | k + 1 => 10 * bd k + 9
theorem bd_mono {j k : Nat} (h : j ≤ k) : bd j ≤ bd k := by
  induction k with
  | zero =>
    obtain rfl : j = 0 := by omega
    exact Int.le_refl _
  | succ k ih =>
    have h0 : ∀ n, 0 ≤ bd n := by
      intro n
      induction n with
      | zero => exact Int.le_refl _
      | succ n ihn => simp only [bd]; omega
    rcases Nat.lt_or_ge j (k + 1) with q | q
    · have := ih (by omega)
      have := h0 k
      simp only [bd]; omega
    · obtain rfl : j = k + 1 := by omega
      exact Int.le_refl _
theorem take_snoc (l : List UInt8) (k : Nat) (h : k < l.length) : l.take (k + 1) = l.take k ++ [l[k]] := List.take_succ_eq_append_getElem h
theorem num_take_bd (l : List UInt8) (h : ∀ c ∈ l, isd c = true) (k : Nat) (hk : k ≤ l.length) : 0 ≤ num (l.take k) ∧ num (l.take k) ≤ bd k := by
  induction k with
  | zero => simp [num, bd]
  | succ k ih =>
    have ih := ih (by omega)
    have hd := isd_bd (h l[k] (List.getElem_mem _))
    rw [take_snoc l k (by omega), num_snoc]
    simp only [bd]
    omega
theorem num_bd (l : List UInt8) (h : ∀ c ∈ l, isd c = true) : 0 ≤ num l ∧ num l ≤ bd l.length := by
  have := num_take_bd l h l.length (Nat.le_refl _)
  rwa [List.take_length] at this
end Go.Proofs.YtpjnlbippcgnoaaDoor.Txt
/-
  The reader of numbers of the statements (keep.Src): what its methods return lies in the stated range, and they change its own block alone.
-/
namespace Go.Proofs.YtpjnlbippcgnoaaDoor
open Go.RowKit

/-- an int of 64 bits -/
def I64 (z : Int) : Prop := (Lit.int .i64 z).wf = true

/-- In w the block g is a reader over cells of w0 that hold ints; below w0's size all is as in w0. -/
def SrcS (w0 w : World) (g : Nat) : Prop :=
  Below w0.heap.size w0 w ∧ w0.heap.size ≤ g ∧ ∃ (A : Option Addr) (n c k : Nat), Blk w g #[.slice A n c, .int .i64 k] ∧ k ≤ n ∧ n ≤ 2000 ∧
    (0 < n → ∃ b o : Nat, A = some ⟨b, o, none⟩ ∧ b < w0.heap.size ∧ ∀ j, j < n → ∃ z, w0.cell? ⟨b, o + j, none⟩ = some (.int .i64 z) ∧ I64 z)

/-- a number with the property R is returned; only the block g has changed -/
def Got (w0 w : World) (g : Nat) (R : Int → Prop) (e : Ending) (w' : World) : Prop :=
  ∃ v : Int, R v ∧ e = .returned (.int .i64 v) ∧ SrcS w0 w' g ∧ w.grownBy w' (some g)

theorem SrcS.lt {w0 w : World} {g : Nat} (h : SrcS w0 w g) : g < w.heap.size := by
  obtain ⟨_, _, A, n, c, k, hb, _⟩ := h
  exact hb.lt
theorem SrcS.keep {w0 w w' : World} {g : Nat} (h : SrcS w0 w g) (hb : Below w0.heap.size w w') (hg : w'.heap[g]? = w.heap[g]?) : SrcS w0 w' g := by
  obtain ⟨h1, h2, A, n, c, k, ⟨t, h3⟩, h4⟩ := h
  exact ⟨h1.trans hb, h2, A, n, c, k, ⟨t, hg.trans h3⟩, h4⟩
theorem SrcS.below {w0 w w' : World} {g : Nat} (h : SrcS w0 w g) (hb : Below w.heap.size w w') : SrcS w0 w' g :=
  h.keep (hb.mono h.1.size) (hb.block g h.lt)
theorem grown_refl (w : World) (g : Nat) : w.grownBy w (some g) := ⟨rfl, rfl, rfl, Nat.le_refl _, fun _ _ _ => rfl⟩
theorem grown_trans {a b c : World} {g : Nat} (h : a.grownBy b (some g)) (k : b.grownBy c (some g)) : a.grownBy c (some g) :=
  ⟨k.os.trans h.os, k.tape.trans h.tape, k.output.trans h.output, Nat.le_trans h.size k.size, fun i hi hn => (k.block i (Nat.lt_of_lt_of_le hi h.size) hn).trans (h.block i hi hn)⟩
theorem grown_drewN {a b : World} {g : Nat} (h : a.grownBy b (some g)) (n : Nat) : a.grownBy (b.drewN n) (some g) := ⟨h.os, h.tape, h.output, h.size, h.block⟩
theorem grown_put {a b : World} {g : Nat} (h : a.grownBy b (some g)) (i : Nat) (v : Value) : a.grownBy (b.setCell ⟨g, i, none⟩ v) (some g) :=
  ⟨h.os, h.tape, h.output, by simpa [World.setCell] using h.size, fun k hk hn => (Below.heap_setCell b ⟨g, i, none⟩ v k (fun e => hn (by rw [e]))).trans (h.block k hk hn)⟩

set_option maxHeartbeats 1000000 in
theorem raw_any (w0 w : World) (g : Nat) (hS : SrcS w0 w g) : Calls Tryd.prog 44 #[.pointer (some ⟨g, 0, none⟩)] w (Got w0 w g I64) := by
  have hS' := hS
  obtain ⟨hb, hg, A, n, c, k, hB, hk, hn, hcell⟩ := hS
  have c0 := hB.cell 0
  have c1 := hB.cell 1
  have f1 := hB.frozen 1
  simp at c0 c1
  by_cases hlt : k < n
  · obtain ⟨b, o, rfl, hb0, hz⟩ := hcell (by omega)
    obtain ⟨z, hz1, hz2⟩ := hz k hlt
    have hc := (hb.cell (p := ⟨b, o + k, none⟩) hb0).trans hz1
    have hne : ¬ g = b := by omega
    have HZ := Lib.hid hz2
    have HS := Lib.hid hS'
    have HB := Lib.hid hB
    have HC := Lib.hid hcell
    clear hz hz1 hz2 hS' hB hcell
    go_enter Tryd.func44, Tryd.ntmps44
    go_wp2
    go_quiet (fail)
    go_wp2
    go_quiet (fail)
    go_wp2
    go_ret
    refine ⟨z, HZ.out, rfl, ⟨?_, hg, some ⟨b, o, none⟩, n, c, k + 1, ?_, by omega, hn, HC.out⟩, ?_⟩
    · exact below_drewN ((below_drewN hb _).setCell (p := ⟨g, 1, none⟩) hg _) _
    · exact ((HB.out.drewN _).put 1 _).drewN _
    · exact grown_drewN (grown_put (grown_drewN (grown_refl _ _) _) 1 _) _
  · have HS := Lib.hid hS'
    clear hS' hcell
    go_enter Tryd.func44, Tryd.ntmps44
    go_wp2
    go_quiet (fail)
    go_wp2
    go_ret
    exact ⟨0, by unfold I64; decide, rfl, HS.out.keep ⟨rfl, rfl, rfl, Nat.le_refl _, fun _ _ => rfl⟩ rfl, grown_drewN (grown_refl _ _) _⟩

/-- a number from lo up to hi -/
def InR (lo hi v : Int) : Prop := lo ≤ v ∧ v ≤ hi

theorem mod_arith (x n : Int) (hn : 0 < n) : -n < x.tmod n ∧ x.tmod n < n := by
  have h1 := Int.tmod_lt_of_pos x hn
  have h2 := Int.neg_tmod x n
  have h3 := Int.tmod_lt_of_pos (-x) hn
  omega
def SomeInt (R : Int → Prop) (w : World) (e : Ending) (w' : World) : Prop := ∃ v : Int, R v ∧ e = .returned (.int .i64 v) ∧ w = w'
set_option maxHeartbeats 1000000 in
theorem mod_any (x n : Int) (w : World) (h1 : 1 ≤ n) (h2 : n ≤ 4000000000) : Calls Tryd.prog 15 #[.int .i64 x, .int .i64 n] w (SomeInt (InR 0 (n - 1)) w) := by
  have hm := mod_arith x n (by omega)
  by_cases hlt : x.tmod n < 0
  · go_enter Tryd.func15, Tryd.ntmps15
    go_wp2
    go_ret
    exact ⟨_, ⟨by omega, by omega⟩, rfl, rfl⟩
  · go_enter Tryd.func15, Tryd.ntmps15
    go_wp2
    go_ret
    exact ⟨_, ⟨by omega, by omega⟩, rfl, rfl⟩

/-- a reader makes a step -/
theorem SrcS.drewN {w0 w : World} {g : Nat} (h : SrcS w0 w g) (n : Nat) : SrcS w0 (w.drewN n) g := h.keep ⟨rfl, rfl, rfl, Nat.le_refl _, fun _ _ => rfl⟩ rfl

set_option maxHeartbeats 1000000 in
theorem n_any (w0 w : World) (g : Nat) (n : Int) (hS : SrcS w0 w g) (h1 : 1 ≤ n) (h2 : n ≤ 4000000000) : Calls Tryd.prog 22 #[.pointer (some ⟨g, 0, none⟩), .int .i64 n] w (Got w0 w g (InR 0 (n - 1))) := by
  have HS := Lib.hid hS
  clear hS
  go_enter Tryd.func22, Tryd.ntmps22
  go_wp2_with (first
    | (go_at_call 44; refine (raw_any w0 _ g HS.out).mono ?_; rintro e w1 ⟨v, hv, rfl, hs1, hg1⟩; have HV := Lib.hid hv; have HS1 := Lib.hid hs1; have HG := Lib.hid hg1; clear hv hs1 hg1)
    | (go_at_call 15; refine (mod_any _ _ _ h1 h2).mono ?_; rintro e w' ⟨u, hu, rfl, rfl⟩; have HU := Lib.hid hu; clear hu))
  go_ret
  exact ⟨_, HU.out, rfl, HS1.out, HG.out⟩

set_option maxHeartbeats 1000000 in
theorem range_any (w0 w : World) (g : Nat) (lo hi : Int) (hS : SrcS w0 w g) (h0 : lo ≤ hi) (h1 : -1000000000 ≤ lo) (h2 : hi ≤ 1000000000) : Calls Tryd.prog 11 #[.pointer (some ⟨g, 0, none⟩), .int .i64 lo, .int .i64 hi] w (Got w0 w g (InR lo hi)) := by
  have HS := Lib.hid hS
  clear hS
  go_enter Tryd.func11, Tryd.ntmps11
  go_wp2_with (first
    | (go_at_call 22; refine (n_any w0 _ g _ HS.out (by omega) (by omega)).mono ?_; rintro e w1 ⟨v, hv, rfl, hs1, hg1⟩; obtain ⟨v0, v1⟩ := hv; have HS1 := Lib.hid hs1; have HG := Lib.hid hg1; clear hs1 hg1))
  go_ret
  exact ⟨_, ⟨by omega, by omega⟩, rfl, HS1.out, HG.out⟩

/-- A slice of ints that came in: its elements lie in w. -/
def SliceIn (w : World) (A : Option Addr) (n c : Nat) : Prop :=
  n ≤ c ∧ c ≤ maxLen ∧ (0 < n → ∃ b o : Nat, A = some ⟨b, o, none⟩ ∧ b < w.heap.size ∧ ∀ j, j < n → ∃ z, w.cell? ⟨b, o + j, none⟩ = some (.int .i64 z) ∧ I64 z)

set_option maxHeartbeats 1000000 in
theorem new_any (w : World) (A : Option Addr) (n c : Nat) (hS : SliceIn w A n c) :
    Calls Tryd.prog 9 #[.slice A n c] w fun e w' => e = .returned (.pointer (some ⟨w.heap.size, 0, none⟩)) ∧ SrcS w w' w.heap.size ∧ Below w.heap.size w w' := by
  obtain ⟨hn, hc, hcell⟩ := hS
  have HC := Lib.hid hcell
  clear hcell
  unfold maxLen at hc
  go_enter Tryd.func9, Tryd.ntmps9
  go_wp2
  · go_ret
    have hn' : 2000 < n := by omega
    refine ⟨rfl, ⟨(Below.refl _ _).alloc (Nat.le_refl _) _, Nat.le_refl _, A, 2000, c, 0, Blk.new w 62 _, by omega, by omega, fun _ => ?_⟩, (Below.refl _ _).alloc (Nat.le_refl _) _⟩
    obtain ⟨b, o, h1, h2, h3⟩ := HC.out (by omega)
    exact ⟨b, o, h1, h2, fun j hj => h3 j (by omega)⟩
  · go_ret
    exact ⟨rfl, ⟨(Below.refl _ _).alloc (Nat.le_refl _) _, Nat.le_refl _, A, n, c, 0, Blk.new w 62 _, by omega, by omega, HC.out⟩, (Below.refl _ _).alloc (Nat.le_refl _) _⟩

set_option maxHeartbeats 1000000 in
theorem pick_any (w0 w : World) (g b n : Nat) (cs : Array Value) (R : Int → Prop) (hS : SrcS w0 w g) (hB : Blk w b cs) (hne : b ≠ g) (h0 : 0 < n) (h1 : n ≤ 1000) (hR : ∀ j, j < n → ∃ z, cs[j]? = some (.int .i64 z) ∧ R z) :
    Calls Tryd.prog 34 #[.pointer (some ⟨g, 0, none⟩), .slice (some ⟨b, 0, none⟩) n n] w (Got w0 w g R) := by
  have HS := Lib.hid hS
  have HB := Lib.hid hB
  have HR := Lib.hid hR
  have HN := Lib.hid hne
  clear hS hB hR hne
  go_enter Tryd.func34, Tryd.ntmps34
  go_wp2_with (first
    | (go_at_call 22; refine (n_any w0 _ g _ HS.out (by omega) (by omega)).mono ?_; rintro e w1 ⟨v, hv, rfl, hs1, hg1⟩; obtain ⟨v0, v1⟩ := hv; obtain ⟨j, rfl⟩ := Int.eq_ofNat_of_zero_le v0; obtain ⟨z, hz, hr⟩ := HR.out j (by omega); have hc : w1.cell? ⟨b, j, none⟩ = some (.int .i64 z) := (World.cell?_of_block (w := w) (hg1.block b HB.out.lt (fun e => HN.out (by injection e)))).trans ((HB.out.cell j).trans hz); have HRz := Lib.hid hr; have HS1 := Lib.hid hs1; have HG := Lib.hid hg1; clear hs1 hg1 hz hr))
  go_ret
  exact ⟨z, HRz.out, rfl, HS1.out, HG.out⟩
end Go.Proofs.YtpjnlbippcgnoaaDoor
/-
  The laid variable element.bounds: what the row's condition says of its cells.
-/
namespace Go.Proofs.YtpjnlbippcgnoaaDoor
open Go.ChangeShapes Go.WideShapes Go.ChangeAt Go.RowKit

abbrev laid : List (String × DataW Unit) := [("synoptic/element.bounds", Rows.laid_synoptic_element_bounds)]

/-- the least value of an element -/
def lo (c : Nat) : Int := [8000, 1800, 1800, -1000, -1000, 900, 2000, 2400, 2000, 4400, 2000].getD c 0
/-- the greatest value of an element -/
def hi (c : Nat) : Int := [11000, 3300, 3300, 1000, 1000, 1700, 3200, 3400, 3000, 6200, 2900].getD c 0

/-- The variable element.bounds holds its table. -/
structure Bnd (w : World) : Prop where
  lt : 0 < w.heap.size
  lo_ : ∀ c, c < 11 → w.cell? ⟨0, 2 * c, none⟩ = some (.int .i64 (lo c))
  hi_ : ∀ c, c < 11 → w.cell? ⟨0, 2 * c + 1, none⟩ = some (.int .i64 (hi c))
theorem Bnd.below {B : Nat} {w w' : World} (h : Bnd w) (hb : Below B w w') (hB : 0 < B) : Bnd w' :=
  ⟨Nat.lt_of_lt_of_le h.lt hb.size, fun c hc => (hb.cell (p := ⟨0, 2 * c, none⟩) hB).trans (h.lo_ c hc), fun c hc => (hb.cell (p := ⟨0, 2 * c + 1, none⟩) hB).trans (h.hi_ c hc)⟩

theorem boundsN : Tryd.prog.globalNamed "synoptic/element.bounds" = some 0 := by kernel_rfl
theorem boundsT : (Tryd.prog.globals[0]?).map (·.type) = some 71 := by kernel_rfl
theorem cells70 : Tryd.prog.cellsOf 70 = 2 := by kernel_rfl
theorem cells71 : Tryd.prog.cellsOf 71 = 22 := by kernel_rfl
theorem cells3 : Tryd.prog.cellsOf 3 = 1 := by kernel_rfl

theorem lt_of_cell {w : World} {b o : Nat} {v : Value} (h : w.cell? ⟨b, o, none⟩ = some v) : b < w.heap.size := by
  rcases Nat.lt_or_ge b w.heap.size with q | q
  · exact q
  · simp [World.cell?, Array.getElem?_eq_none q] at h

set_option maxRecDepth 4000 in
theorem bounds_of {W : World} (h : laidMetH Tryd.prog laid W) : Bnd W := by
  rw [MakeChecks.laidMetH_plain _ _ _ (by kernel_rfl)] at h
  obtain ⟨ps, ⟨g, t, cs, fuel, p, q, hg, ht, hv, hd, _, _⟩, _, _⟩ := h
  obtain rfl := Option.some.inj (boundsN.symm.trans hg)
  obtain rfl := Option.some.inj (boundsT.symm.trans ht)
  obtain ⟨xs, m, _, ex, hlen, hl, hel⟩ := DataW.trod_array Tryd.underlying71 hd
  rw [cells71] at hlen
  have e3 := DataW.agg.inj (Prod.mk.inj ex).1
  have hcell := fun j => World.var?_cell boundsN hv j
  have hx : ∀ c, c < 11 → (xs[c]?).map (·.1) = some (DataW.agg [.lit (.int .i64 (lo c)), .lit (.int .i64 (hi c))]) := by
    intro c hc
    rw [← List.getElem?_map, ← e3]
    rcases c with _ | _ | _ | _ | _ | _ | _ | _ | _ | _ | _ | c
    all_goals first | rfl | omega
  have key : ∀ c, c < 11 → cs[2 * c]? = some (.int .i64 (lo c)) ∧ cs[2 * c + 1]? = some (.int .i64 (hi c)) := by
    intro c hc
    have k := hel c hc
    rw [cells70] at k
    have hx' := hx c hc
    rcases hxc : xs[c]? with _ | x
    · rw [hxc] at hx'; cases hx'
    · rw [hxc] at hx' k
      simp only [Option.map_some, Option.some.injEq] at hx'
      obtain ⟨ys, m', _, ey, hlen', hl', hel'⟩ := DataW.trod_array Tryd.underlying70 k
      rw [cells70] at hlen'
      have k0 := hel' 0 (by omega)
      have k1 := hel' 1 (by omega)
      rw [cells3] at k0 k1
      have hc0 : 2 * c < cs.toList.length := by omega
      have hc1 : 2 * c + 1 < cs.toList.length := by omega
      have hrow : (cs.toList.drop (c * 2)).take 2 = [cs.toList[2 * c], cs.toList[2 * c + 1]] := by
        rw [Nat.mul_comm c 2, List.drop_eq_getElem_cons hc0, List.drop_eq_getElem_cons hc1]
        rfl
      rw [hrow] at k0 k1
      match ys, hl' with
      | [y0, y1], _ =>
        have ey2 := DataW.agg.inj (hx'.symm.trans (congrArg Prod.fst ey))
        simp only [List.map_cons, List.map_nil, List.cons.injEq, and_true] at ey2
        obtain ⟨z0, a0, b0, _⟩ := DataW.trod_int Tryd.underlying3 k0
        obtain ⟨z1, a1, b1, _⟩ := DataW.trod_int Tryd.underlying3 k1
        rw [b0, b1] at ey2
        have q0 : z0 = lo c := by have := DataW.lit.inj ey2.1; injection this with _ q; exact q.symm
        have q1 : z1 = hi c := by have := DataW.lit.inj ey2.2; injection this with _ q; exact q.symm
        have r0 : cs.toList[2 * c] = .int .i64 z0 := (List.cons.inj a0).1
        have r1 : cs.toList[2 * c + 1] = .int .i64 z1 := (List.cons.inj a1).1
        refine ⟨?_, ?_⟩
        · rw [← q0, ← r0, ← Array.getElem?_toList]; exact List.getElem?_eq_getElem hc0
        · rw [← q1, ← r1, ← Array.getElem?_toList]; exact List.getElem?_eq_getElem hc1
  refine ⟨?_, fun c hc => (hcell _).trans (key c hc).1, fun c hc => (hcell _).trans (key c hc).2⟩
  exact lt_of_cell ((hcell 0).trans (key 0 (by omega)).1)
end Go.Proofs.YtpjnlbippcgnoaaDoor
/-
  Describe, and its reference, return the row of an element.
-/
namespace Go.Proofs.YtpjnlbippcgnoaaDoor
open Go.RowKit

/-- the letter of an element -/
def ltr (c : Nat) : UInt8 := [80, 84, 68, 69, 78, 65, 66, 70, 71, 74, 75].getD c 0
/-- the number of its digits -/
def dig (c : Nat) : Int := if c = 0 then 5 else 4
/-- the row of an element -/
abbrev infoV (c : Nat) : Value := .agg #[.string ⟨#[ltr c]⟩, .int .i64 (lo c), .int .i64 (hi c), .int .i64 (dig c)]
/-- the empty row -/
abbrev info0 : Value := .agg #[.string ⟨#[]⟩, .int .i64 0, .int .i64 0, .int .i64 0]

theorem letter_index (c : Nat) (hc : c < 11) (w : World) : (Instr.index 9 (.string ⟨#[80, 84, 68, 69, 78, 65, 66, 70, 71, 74, 75]⟩) (.int .i64 (c : Int))).run Tryd.prog w = .ok (.int .u8 ((ltr c).toNat : Int)) w := by
  have : c = 0 ∨ c = 1 ∨ c = 2 ∨ c = 3 ∨ c = 4 ∨ c = 5 ∨ c = 6 ∨ c = 7 ∨ c = 8 ∨ c = 9 ∨ c = 10 := by omega
  rcases this with rfl | rfl | rfl | rfl | rfl | rfl | rfl | rfl | rfl | rfl | rfl <;> rfl
theorem letter_rune (c : Nat) (hc : c < 11) : Utf8.encode ((ltr c).toNat : Int) = ⟨#[ltr c]⟩ := by
  have : c = 0 ∨ c = 1 ∨ c = 2 ∨ c = 3 ∨ c = 4 ∨ c = 5 ∨ c = 6 ∨ c = 7 ∨ c = 8 ∨ c = 9 ∨ c = 10 := by omega
  rcases this with rfl | rfl | rfl | rfl | rfl | rfl | rfl | rfl | rfl | rfl | rfl <;> (change _ = _; kernel_rfl)

set_option maxHeartbeats 1000000 in
theorem describe_no (n : Int) (w : World) (hn : n < 1 ∨ 11 < n) : Calls Tryd.prog 17 #[.int .i64 n] w fun e w' => e = .returned (.tuple #[info0, .int .i64 4]) ∧ Below w.heap.size w w' := by
  rcases hn with hn | hn
  · go_enter Tryd.func17, Tryd.ntmps17
    go_wp2
    exact bodyPost_ret (v := .tuple #[info0, .int .i64 4]) (by simp [results, Tryd.results17, go_sem]) rfl ⟨rfl, (Below.refl _ _).alloc (Nat.le_refl _) _⟩
  · have h1 : ¬ n < 1 := by omega
    go_enter Tryd.func17, Tryd.ntmps17
    go_wp2
    exact bodyPost_ret (v := .tuple #[info0, .int .i64 4]) (by simp [results, Tryd.results17, go_sem]) rfl ⟨rfl, (Below.refl _ _).alloc (Nat.le_refl _) _⟩

theorem info_end {c : Nat} {w W : World} (a : Act) (h2 : a.tmps.getD 2 undef = .pointer (some ⟨w.heap.size, 0, none⟩)) (h3 : a.tmps.getD 3 undef = .int .i64 0) (hd : a.defers = [])
    (hB : Blk W w.heap.size #[.string ⟨#[ltr c]⟩, .int .i64 (lo c), .int .i64 (hi c), .int .i64 (dig c)]) (hb : Below w.heap.size w W) :
    bodyPost Tryd.prog Tryd.f17 (fun e w' => e = .returned (.tuple #[infoV c, .int .i64 0]) ∧ Below w.heap.size w w') .ret a W := by
  have r0 := hB.cell 0
  have r1 := hB.cell 1
  have r2 := hB.cell 2
  have r3 := hB.cell 3
  simp at r0 r1 r2 r3
  refine bodyPost_ret (v := .tuple #[infoV c, .int .i64 0]) ?_ hd ⟨rfl, hb⟩
  rw [results_cell_tmp Tryd.results17, h2, h3]
  simp [go_sem, r0, r1, r2, r3]

set_option maxHeartbeats 2000000 in
theorem describe_ok (c : Nat) (hc : c < 11) (w : World) (hB : Bnd w) : Calls Tryd.prog 17 #[.int .i64 ((c : Int) + 1)] w fun e w' => e = .returned (.tuple #[infoV c, .int .i64 0]) ∧ Below w.heap.size w w' := by
  have hl : w.cell? ⟨0, c * 2, none⟩ = some (.int .i64 (lo c)) := by rw [Nat.mul_comm]; exact hB.lo_ c hc
  have hh : w.cell? ⟨0, c * 2 + 1, none⟩ = some (.int .i64 (hi c)) := by rw [Nat.mul_comm]; exact hB.hi_ c hc
  have k1 := letter_index c hc
  have k2 := letter_rune c hc
  have h1 : ¬ (c : Int) + 1 < 1 := by omega
  have h2 : ¬ 11 < (c : Int) + 1 := by omega
  have h3 : (c : Int) < 11 := by omega
  have h0 := hB.lt
  go_enter Tryd.func17, Tryd.ntmps17
  go_wp2_with fail
  have hB1 := (Blk.new w 39 #[.string ⟨#[]⟩, .int .i64 0, .int .i64 0, .int .i64 0]).alloc (.cells #[.int .i64 (lo c), .int .i64 (hi c)] 70)
  have hB2 : Blk ((w.alloc (.cells #[.string ⟨#[]⟩, .int .i64 0, .int .i64 0, .int .i64 0] 39)).alloc (.cells #[.int .i64 (lo c), .int .i64 (hi c)] 70)) (w.heap.size + 1) #[.int .i64 (lo c), .int .i64 (hi c)] := Blk.new' _ _ _ (by simp)
  have hb := ((Below.refl w.heap.size w).alloc (Nat.le_refl _) (.cells #[.string ⟨#[]⟩, .int .i64 0, .int .i64 0, .int .i64 0] 39)).alloc (by simp) (.cells #[.int .i64 (lo c), .int .i64 (hi c)] 70)
  generalize (w.alloc (.cells #[.string ⟨#[]⟩, .int .i64 0, .int .i64 0, .int .i64 0] 39)).alloc (.cells #[.int .i64 (lo c), .int .i64 (hi c)] 70) = W at hB1 hB2 hb ⊢
  have hv0 := hB2.cell 0
  have hv1 := hB2.cell 1
  have hl2 := hB2.lt
  have hu0 := hB1.cell 0
  have hu1 := hB1.cell 1
  have hu2 := hB1.cell 2
  have hu3 := hB1.cell 3
  have hf0 := hB1.frozen 0
  have hf1 := hB1.frozen 1
  have hf2 := hB1.frozen 2
  have hf3 := hB1.frozen 3
  have hl1 := hB1.lt
  simp at hv0 hv1 hu0 hu1 hu2 hu3
  have hne : w.heap.size ≠ W.heap.size := by omega
  clear hl hh h1 h2 h0 hB2
  have HB1 := Lib.hid hB1
  have HX := Lib.hid hb
  clear hB1 hb
  by_cases hz : c = 0
  · have t : ((c : Int) + 1 == 1) = true := by rw [beq_iff_eq]; omega
    have hz4 : (5 : Int) = dig c := by simp [dig, hz]
    have HZ := Lib.hid hz4
    clear hz hz4
    go_region
    all_goals
      go_wp2_with fail
      refine info_end _ rfl rfl rfl ?_ ?_
      · have hB1 := HB1.out
        rw [← HZ.out]
        (repeat' (first | with_reducible assumption | with_reducible exact Blk.new _ _ _ | ((with_reducible refine Blk.new' _ _ _ ?_); (simp; done)) | with_reducible refine Blk.alloc ?_ _ | with_reducible refine Blk.drewN ?_ _ | with_reducible refine Blk.drew ?_ | with_reducible apply Blk.put' | ((with_reducible refine Blk.away ?_ ?_ _ _); rotate_left; omega) | rfl | omega))
      · have hb := HX.out
        (repeat' (first | with_reducible assumption | with_reducible exact Below.refl _ _ | with_reducible refine Below.alloc ?_ ?_ _ | with_reducible refine Below.setCell ?_ ?_ _ | with_reducible refine Below.drew ?_ | with_reducible refine below_drewN ?_ _ | omega | (simp; done) | (simp; omega)))
  · have t : ((c : Int) + 1 == 1) = false := by rw [beq_eq_false_iff_ne]; omega
    have hz4 : (4 : Int) = dig c := by simp [dig, hz]
    have HZ := Lib.hid hz4
    clear hz hz4
    go_region
    all_goals
      go_wp2_with fail
      refine info_end _ rfl rfl rfl ?_ ?_
      · have hB1 := HB1.out
        rw [← HZ.out]
        (repeat' (first | with_reducible assumption | with_reducible exact Blk.new _ _ _ | ((with_reducible refine Blk.new' _ _ _ ?_); (simp; done)) | with_reducible refine Blk.alloc ?_ _ | with_reducible refine Blk.drewN ?_ _ | with_reducible refine Blk.drew ?_ | with_reducible apply Blk.put' | ((with_reducible refine Blk.away ?_ ?_ _ _); rotate_left; omega) | rfl | omega))
      · have hb := HX.out
        (repeat' (first | with_reducible assumption | with_reducible exact Below.refl _ _ | with_reducible refine Below.alloc ?_ ?_ _ | with_reducible refine Below.setCell ?_ ?_ _ | with_reducible refine Below.drew ?_ | with_reducible refine below_drewN ?_ _ | omega | (simp; done) | (simp; omega)))
end Go.Proofs.YtpjnlbippcgnoaaDoor
/-
  The reference's Describe.
-/
namespace Go.Proofs.YtpjnlbippcgnoaaDoor
open Go.RowKit

set_option maxHeartbeats 1000000 in
theorem rdescribe_no (n : Int) (w : World) (hn : n < 1 ∨ 11 < n) : Calls Tryd.prog 23 #[.int .i64 n] w fun e w' => e = .returned (.tuple #[info0, .int .i64 4]) ∧ Below w.heap.size w w' := by
  rcases hn with hn | hn
  · go_enter Tryd.func23, Tryd.ntmps23
    go_wp2
    exact bodyPost_ret (v := .tuple #[info0, .int .i64 4]) (by simp [results, Tryd.results23, go_sem]) rfl ⟨rfl, (Below.refl _ _).alloc (Nat.le_refl _) _⟩
  · have h1 : ¬ n < 1 := by omega
    go_enter Tryd.func23, Tryd.ntmps23
    go_wp2
    exact bodyPost_ret (v := .tuple #[info0, .int .i64 4]) (by simp [results, Tryd.results23, go_sem]) rfl ⟨rfl, (Below.refl _ _).alloc (Nat.le_refl _) _⟩

theorem info_endr {c : Nat} {w W : World} (a : Act) (h2 : a.tmps.getD 2 undef = .pointer (some ⟨w.heap.size, 0, none⟩)) (h3 : a.tmps.getD 3 undef = .int .i64 0) (hd : a.defers = [])
    (hB : Blk W w.heap.size #[.string ⟨#[ltr c]⟩, .int .i64 (lo c), .int .i64 (hi c), .int .i64 (dig c)]) (hb : Below w.heap.size w W) :
    bodyPost Tryd.prog Tryd.f23 (fun e w' => e = .returned (.tuple #[infoV c, .int .i64 0]) ∧ Below w.heap.size w w') .ret a W := by
  have r0 := hB.cell 0
  have r1 := hB.cell 1
  have r2 := hB.cell 2
  have r3 := hB.cell 3
  simp at r0 r1 r2 r3
  refine bodyPost_ret (v := .tuple #[infoV c, .int .i64 0]) ?_ hd ⟨rfl, hb⟩
  rw [results_cell_tmp Tryd.results23, h2, h3]
  simp [go_sem, r0, r1, r2, r3]

/-- the reference's table -/
abbrev tab44 : Array Value := #[.string ⟨#[80]⟩, .int .i64 8000, .int .i64 11000, .int .i64 5, .string ⟨#[84]⟩, .int .i64 1800, .int .i64 3300, .int .i64 4, .string ⟨#[68]⟩, .int .i64 1800, .int .i64 3300, .int .i64 4, .string ⟨#[69]⟩, .int .i64 (-1000), .int .i64 1000, .int .i64 4, .string ⟨#[78]⟩, .int .i64 (-1000), .int .i64 1000, .int .i64 4, .string ⟨#[65]⟩, .int .i64 900, .int .i64 1700, .int .i64 4, .string ⟨#[66]⟩, .int .i64 2000, .int .i64 3200, .int .i64 4, .string ⟨#[70]⟩, .int .i64 2400, .int .i64 3400, .int .i64 4, .string ⟨#[71]⟩, .int .i64 2000, .int .i64 3000, .int .i64 4, .string ⟨#[74]⟩, .int .i64 4400, .int .i64 6200, .int .i64 4, .string ⟨#[75]⟩, .int .i64 2000, .int .i64 2900, .int .i64 4]
theorem tab44_at (c : Nat) (hc : c < 11) : tab44[c * 4]? = some (.string ⟨#[ltr c]⟩) ∧ tab44[c * 4 + 1]? = some (.int .i64 (lo c)) ∧ tab44[c * 4 + 2]? = some (.int .i64 (hi c)) ∧ tab44[c * 4 + 3]? = some (.int .i64 (dig c)) := by
  have : c = 0 ∨ c = 1 ∨ c = 2 ∨ c = 3 ∨ c = 4 ∨ c = 5 ∨ c = 6 ∨ c = 7 ∨ c = 8 ∨ c = 9 ∨ c = 10 := by omega
  rcases this with rfl | rfl | rfl | rfl | rfl | rfl | rfl | rfl | rfl | rfl | rfl <;> exact ⟨rfl, rfl, rfl, rfl⟩

set_option maxHeartbeats 4000000 in
theorem rdescribe_ok (c : Nat) (hc : c < 11) (w : World) : Calls Tryd.prog 23 #[.int .i64 ((c : Int) + 1)] w fun e w' => e = .returned (.tuple #[infoV c, .int .i64 0]) ∧ Below w.heap.size w w' := by
  have hB : Blk ((w.alloc (.cells #[.string ⟨#[]⟩, .int .i64 0, .int .i64 0, .int .i64 0] 39)).alloc (.cells tab44 39)) (w.heap.size + 1) tab44 := Blk.new' _ _ _ (by simp)
  obtain ⟨t0, t1, t2, t3⟩ := tab44_at c hc
  have hv0 := (hB.cell (c * 4)).trans t0
  have hv1 := (hB.cell (c * 4 + 1)).trans t1
  have hv2 := (hB.cell (c * 4 + 2)).trans t2
  have hv3 := (hB.cell (c * 4 + 3)).trans t3
  have h1 : ¬ (c : Int) + 1 < 1 := by omega
  have h2 : ¬ 11 < (c : Int) + 1 := by omega
  have h3 : (c : Int) < 11 := by omega
  clear hB t0 t1 t2 t3
  go_enter Tryd.func23, Tryd.ntmps23
  go_wp2
  exact info_endr _ rfl rfl rfl ((Blk.new w 39 _).alloc _) (((Below.refl _ _).alloc (Nat.le_refl _) _).alloc (by simp) _)

/-- a code is out of range, or it is that of an element -/
theorem code_cases (n : Int) : (n < 1 ∨ 11 < n) ∨ ∃ c : Nat, c < 11 ∧ n = (c : Int) + 1 := by
  by_cases h : n < 1 ∨ 11 < n
  · exact .inl h
  · exact .inr ⟨(n - 1).toNat, by omega, by omega⟩
end Go.Proofs.YtpjnlbippcgnoaaDoor
/-
  The check of a reading, and its reference.
-/
namespace Go.Proofs.YtpjnlbippcgnoaaDoor
open Go.RowKit

/-- the value of a reading -/
abbrev rdV (e v : Int) : Value := .agg #[.int .i64 e, .int .i64 v]

/-- the error of a reading -/
def chk (e v : Int) : Int := if e < 1 ∨ 11 < e then 4 else if v < lo (e - 1).toNat ∨ hi (e - 1).toNat < v then 1 else 0
theorem chk_no {e : Int} (h : e < 1 ∨ 11 < e) (v : Int) : chk e v = 4 := by simp [chk, h]
theorem chk_at {c : Nat} (hc : c < 11) (v : Int) : chk ((c : Int) + 1) v = if v < lo c ∨ hi c < v then 1 else 0 := by
  have h : ¬ ((c : Int) + 1 < 1 ∨ 11 < (c : Int) + 1) := by omega
  have e : ((c : Int) + 1 - 1).toNat = c := by omega
  simp only [chk, h, if_false, e]

theorem ret_i {k : IntKind} {a b : Int} (h : a = b) : Ending.returned (.int k a) = .returned (.int k b) := by rw [h]
theorem ret_b {a b : Bool} (h : a = b) : Ending.returned (.bool a) = .returned (.bool b) := by rw [h]

set_option maxHeartbeats 1000000 in
theorem check_any (e v : Int) (w : World) (hB : Bnd w) : Calls Tryd.prog 35 #[rdV e v] w fun r w' => r = .returned (.int .i64 (chk e v)) ∧ Below w.heap.size w w' := by
  have hb0 := (Below.refl w.heap.size w).alloc (Nat.le_refl _) (.cells #[.int .i64 e, .int .i64 v] 23)
  have hB0 : Blk (w.alloc (.cells #[.int .i64 e, .int .i64 v] 23)) w.heap.size #[.int .i64 e, .int .i64 v] := Blk.new _ _ _
  have HN := Lib.hid (hB.below hb0 hB.lt)
  have HX := Lib.hid hb0
  have HB0 := Lib.hid hB0
  clear hb0 hB0
  rcases code_cases e with he | ⟨c, hc, rfl⟩
  · go_enter Tryd.func35, Tryd.ntmps35
    go_wp2_with fail
    refine (describe_no e _ he).mono ?_
    rintro r w1 ⟨rfl, hb1⟩
    have HY := Lib.hid (HX.out.trans (hb1.mono HX.out.size))
    have HC := Lib.hid (chk_no he v)
    clear hb1 he
    go_wp2_with fail
    go_ret
    exact ⟨ret_i HC.out.symm, HY.out.alloc HY.out.size _⟩
  · have HC := Lib.hid (chk_at hc v)
    go_enter Tryd.func35, Tryd.ntmps35
    go_wp2_with fail
    refine (describe_ok c hc _ HN.out).mono ?_
    rintro r w1 ⟨rfl, hb1⟩
    have HY := Lib.hid (HX.out.trans (hb1.mono HX.out.size))
    have hB1 := HB0.out.below hb1 HB0.out.lt
    have hv1 := hB1.cell 1
    have hl1 := hB1.lt
    simp at hv1
    clear hb1 hB1
    by_cases h1 : v < lo c
    · go_wp2_with fail
      go_ret
      exact ⟨ret_i (by rw [HC.out, if_pos (.inl h1)]), HY.out.alloc HY.out.size _⟩
    · by_cases h2 : hi c < v
      · go_wp2_with fail
        go_ret
        exact ⟨ret_i (by rw [HC.out, if_pos (.inr h2)]), HY.out.alloc HY.out.size _⟩
      · go_wp2_with fail
        go_ret
        exact ⟨ret_i (by rw [HC.out, if_neg (by omega)]), HY.out.alloc HY.out.size _⟩
end Go.Proofs.YtpjnlbippcgnoaaDoor
/-
  The reference's Digits returns the last digits of a number as a string.
-/
namespace Go.Proofs.YtpjnlbippcgnoaaDoor
open Go.RowKit Txt

/-- a list of bytes as a string -/
abbrev S (l : List UInt8) : ByteArray := ⟨l.toArray⟩

theorem addr_add (g o j : Nat) : (⟨g, o, none⟩ : Addr).add j = ⟨g, o + j, none⟩ := by
  unfold Addr.add
  split <;> simp_all
theorem S_append (l m : List UInt8) : S l ++ S m = S (l ++ m) := ByteArray.mk_append_mk l m

theorem fold_push (l acc : List UInt8) : (l.map fun c => (c.toNat : Int)).foldl (fun (r : ByteArray) n => r.push (UInt8.ofNat n.toNat)) ⟨acc.toArray⟩ = ⟨(acc ++ l).toArray⟩ := by
  induction l generalizing acc with
  | nil => simp
  | cons c l ih =>
    have e : (ByteArray.mk acc.toArray).push (UInt8.ofNat ((c.toNat : Int)).toNat) = ⟨(acc ++ [c]).toArray⟩ := by
      simp [ByteArray.push]
    rw [List.map_cons, List.foldl_cons, e, ih]
    simp

/-- bytes in memory as a string -/
theorem conv_bytes (W : World) (g o cap : Nat) (l : List UInt8) (h : ∀ j c, l[j]? = some c → W.cell? ⟨g, o + j, none⟩ = some (.int .u8 c.toNat)) :
    (convert 35 9 (.slice (some ⟨g, o, none⟩) l.length cap)).run Tryd.prog W = .ok (.string (S l)) W := by
  rw [run_convert_bytes_string W 35 9 5 _ _ _ Tryd.underlying35 Tryd.underlying5 Tryd.underlying9]
  have hl := run_loadCells_list (P := Tryd.prog) (w := W) ⟨g, o, none⟩ ((l.map fun c => (c.toNat : Int)).map (Value.int .u8)) (fun j v hv => by
    rw [List.getElem?_map, List.getElem?_map] at hv
    rcases hc : l[j]? with _ | c
    · rw [hc] at hv; cases hv
    · rw [hc] at hv
      simp only [Option.map_some, Option.some.injEq] at hv
      rw [← hv, ← h j c hc, addr_add])
  rw [List.length_map, List.length_map] at hl
  rw [run_bytesToString W _ _ _ _ hl]
  exact congrArg (fun s => Result.ok (Value.string s) W) (fold_push l [])

theorem conv_one (q : Int) (wr : World) : (convert 35 9 (.slice (some ⟨wr.heap.size, 0, none⟩) 1 1)).run Tryd.prog (wr.alloc (.cells #[.int .u8 (48 + q % 10)] 5)) = .ok (.string (S [dgt q])) (wr.alloc (.cells #[.int .u8 (48 + q % 10)] 5)) := by
  refine conv_bytes _ _ 0 1 [dgt q] (fun j c hc => ?_)
  match j, hc with
  | 0, hc =>
    simp only [List.getElem?_cons_zero, Option.some.injEq] at hc
    rw [(Blk.new wr 5 _).cell (0 + 0), ← hc, dgt_int]
    rfl

set_option maxHeartbeats 400000 in
theorem rdigits_any (n : Int) (k : Nat) (w : World) (h0 : 0 ≤ n) (h1 : n ≤ 99999) (hk : k ≤ 5) :
    Calls Tryd.prog 38 #[.int .i64 n, .int .i64 k] w fun e w' => e = .returned (.string (S (digs n k))) ∧ Below w.heap.size w w' := by
  go_enter Tryd.func38, Tryd.ntmps38
  go_wp2
  go_loopw [0, 5, 6] (fun m s i wr => ∃ (j : Nat) (q : Int) (t : List UInt8), j ≤ k ∧ i = .int .i64 j ∧ 0 ≤ q ∧ q ≤ 99999 ∧ m = .int .i64 q ∧ s = .string (S t) ∧ t.length = j ∧ digs n k = digs q (k - j) ++ t ∧ Below w.heap.size w wr) (fun _ _ i _ => k - (intOf i).toNat)
  case atStart => exact ⟨0, n, [], Nat.zero_le _, rfl, h0, h1, rfl, rfl, rfl, by simp, Below.refl _ _⟩
  case round =>
    obtain ⟨j, q, t, hj, rfl, q0, q1, rfl, rfl, ht, hd, hb⟩ := hrel
    have HD := Lib.hid hd
    have HT := Lib.hid ht
    clear hd ht
    by_cases hlt : j < k
    · have hconv := conv_one q wr
      have hl : t.length ≤ 4 := by have := HT.out; omega
      go_wp2
      go_roundw
      case rel =>
        have e : k - j = (k - (j + 1)) + 1 := by omega
        exact ⟨j + 1, q / 10, dgt q :: t, by omega, by go_num, by omega, by omega, rfl, by rw [S_append]; rfl, by rw [List.length_cons, HT.out], by rw [HD.out, e]; simp [digs], hb.alloc hb.size _⟩
      case measure => simp [intOf]; omega
    · go_wp2
      go_ret
      have e : k - j = 0 := by omega
      exact ⟨by rw [HD.out, e]; rfl, hb⟩

/-- a byte as a value -/
abbrev B (c : UInt8) : Value := .int .u8 c.toNat
/-- the block g is a row of just these bytes, none of which is marked -/
def Row8 (w : World) (g : Nat) (l : List UInt8) : Prop := ∃ lo hi, w.heap[g]? = some (.cells (l.map B).toArray 5 (lo, hi)) ∧ l.length ≤ lo
section
variable {w w' : World} {g : Nat} {l : List UInt8}
theorem Row8.lt (h : Row8 w g l) : g < w.heap.size := by
  obtain ⟨lo, hi, h, _⟩ := h
  rcases Nat.lt_or_ge g w.heap.size with k | k
  · exact k
  · rw [Array.getElem?_eq_none k] at h; cases h
theorem Row8.cell (h : Row8 w g l) (i : Nat) (c : UInt8) (hc : l[i]? = some c) : w.cell? ⟨g, i, none⟩ = some (.int .u8 c.toNat) := by
  obtain ⟨lo, hi, h, _⟩ := h
  rw [cell_of_row w g i _ 5 (lo, hi) h]
  simp [hc]
theorem Row8.frozen (h : Row8 w g l) (i : Nat) (hl : i < l.length) : w.frozen? ⟨g, i, none⟩ = false := by
  obtain ⟨lo, hi, h, hlo⟩ := h
  simp [World.frozen?, h]
  omega
theorem Row8.put (h : Row8 w g l) (i : Nat) (c : UInt8) : Row8 (w.setCell ⟨g, i, none⟩ (.int .u8 c.toNat)) g (l.set i c) := by
  obtain ⟨lo, hi, h, hlo⟩ := h
  refine ⟨lo, hi, ?_, by simpa using hlo⟩
  simp [World.setCell, Array.getElem?_modify, h, List.map_set]
theorem Row8.below {B : Nat} (h : Row8 w g l) (hb : Below B w w') (hg : g < B) : Row8 w' g l := by
  obtain ⟨lo, hi, h, hlo⟩ := h
  exact ⟨lo, hi, (hb.block g hg).trans h, hlo⟩
theorem Row8.drewN (h : Row8 w g l) (n : Nat) : Row8 (w.drewN n) g l := h
end
end Go.Proofs.YtpjnlbippcgnoaaDoor
/-
  A row of bytes that may have room behind it.
-/
namespace Go.Proofs.YtpjnlbippcgnoaaDoor
open Go.RowKit Txt

/-- bytes of a row, which may have room behind them -/
structure RowB (w : World) (g : Nat) (l : List UInt8) : Prop where
  lt : g < w.heap.size
  cell : ∀ j c, l[j]? = some c → w.cell? ⟨g, j, none⟩ = some (B c)
  frozen : ∀ j, j < l.length → w.frozen? ⟨g, j, none⟩ = false

theorem rowB_bytes (w : World) (l : List UInt8) : RowB (Lib.bytesWorld w 5 (S l)) w.heap.size l := by
  have hn := Lib.bytesWorld_at_new w 5 (S l)
  refine ⟨by rw [Lib.bytesWorld_size]; omega, ?_, ?_⟩
  · intro j c hc
    have hj : j < l.length := by
      rcases Nat.lt_or_ge j l.length with q | q
      · exact q
      · rw [List.getElem?_eq_none q] at hc; cases hc
    rw [Lib.bytesWorld_cell w 5 (S l) j (show j < l.toArray.size by simpa using hj)]
    simp [List.getD, hc]
  · intro j hj
    simp only [World.frozen?, hn]
    simp [Lib.bytesCells]
    omega
theorem below_bytes {B : Nat} {w0 w : World} (h : Below B w0 w) (hB : B ≤ w.heap.size) (l : List UInt8) : Below B w0 (Lib.bytesWorld w 5 (S l)) :=
  h.trans ⟨rfl, rfl, rfl, by rw [Lib.bytesWorld_size]; omega, fun k hk => Lib.bytesWorld_at_old w 5 (S l) k (by omega)⟩

theorem RowB.below {B' : Nat} {w w' : World} {g : Nat} {l : List UInt8} (h : RowB w g l) (hb : Below B' w w') (hg : g < B') : RowB w' g l :=
  ⟨Nat.lt_of_lt_of_le h.lt hb.size, fun j c hc => (hb.cell (p := ⟨g, j, none⟩) hg).trans (h.cell j c hc), fun j hj => (hb.frozen (p := ⟨g, j, none⟩) hg).trans (h.frozen j hj)⟩
/-- what is in the row behind a store -/
theorem RowB.put {w : World} {g : Nat} {l : List UInt8} (h : RowB w g l) (p : Nat) (hp : p < l.length) (c : UInt8) : RowB (w.setCell ⟨g, p, none⟩ (B c)) g (l.set p c) := by
  refine ⟨by simpa using h.lt, ?_, ?_⟩
  · intro j d hd
    by_cases e : p = j
    · subst e
      rw [List.getElem?_set_self hp] at hd
      injection hd with hd
      have hx := h.cell p l[p] (List.getElem?_eq_getElem hp)
      rw [World.cell?_setCell_same _ _ _ hx, hd]
    · rw [List.getElem?_set_ne e] at hd
      rw [World.cell?_setCell_other _ _ _ _ (by intro q; injection q with q1 q2; exact e q2)]
      exact h.cell j d hd
  · intro j hj
    have := h.frozen j (by simpa using hj)
    simpa [go_sem] using this
end Go.Proofs.YtpjnlbippcgnoaaDoor
/-
  The reference's in and Format.
-/
namespace Go.Proofs.YtpjnlbippcgnoaaDoor
open Go.RowKit Txt

theorem lo_hi (c : Nat) (hc : c < 11) : -1000 ≤ lo c ∧ lo c < hi c ∧ hi c ≤ 11000 ∧ (c ≠ 0 → hi c ≤ 9999) := by
  have : c = 0 ∨ c = 1 ∨ c = 2 ∨ c = 3 ∨ c = 4 ∨ c = 5 ∨ c = 6 ∨ c = 7 ∨ c = 8 ∨ c = 9 ∨ c = 10 := by omega
  rcases this with rfl | rfl | rfl | rfl | rfl | rfl | rfl | rfl | rfl | rfl | rfl <;> decide
theorem dig_cases (c : Nat) : dig c = 4 ∨ dig c = 5 := by unfold dig; split <;> simp

set_option maxHeartbeats 1000000 in
theorem rin_ok (c : Nat) (hc : c < 11) (v : Int) (w : World) : Calls Tryd.prog 37 #[rdV ((c : Int) + 1) v] w fun r w' => r = .returned (.bool (decide (lo c ≤ v ∧ v ≤ hi c))) ∧ Below w.heap.size w w' := by
  have hb0 := (Below.refl w.heap.size w).alloc (Nat.le_refl _) (.cells #[.int .i64 ((c : Int) + 1), .int .i64 v] 23)
  have hB0 : Blk (w.alloc (.cells #[.int .i64 ((c : Int) + 1), .int .i64 v] 23)) w.heap.size #[.int .i64 ((c : Int) + 1), .int .i64 v] := Blk.new _ _ _
  have HX := Lib.hid hb0
  have HB0 := Lib.hid hB0
  clear hb0 hB0
  go_enter Tryd.func37, Tryd.ntmps37
  go_wp2_with fail
  refine (rdescribe_ok c hc _).mono ?_
  rintro r w1 ⟨rfl, hb1⟩
  have HY := Lib.hid (HX.out.trans (hb1.mono HX.out.size))
  have hB1 := HB0.out.below hb1 HB0.out.lt
  have hv1 := hB1.cell 1
  have hl1 := hB1.lt
  simp at hv1
  clear hb1 hB1
  by_cases h1 : lo c ≤ v
  · by_cases h2 : v ≤ hi c
    · go_wp2_with fail
      go_ret
      exact ⟨ret_b (by simp; omega), HY.out.alloc HY.out.size _⟩
    · go_wp2_with fail
      go_ret
      exact ⟨ret_b (by simp; omega), HY.out.alloc HY.out.size _⟩
  · go_wp2_with fail
    go_ret
    exact ⟨ret_b (by simp; omega), HY.out.alloc HY.out.size _⟩

/-- the digits of a reading's text -/
def sgn (v : Int) : List UInt8 := if v < 0 then [45] else []
/-- the text of a reading of the element c -/
def ftxt (c : Nat) (v : Int) : List UInt8 := ltr c :: (sgn v ++ digs (if v < 0 then -v else v) (dig c).toNat)
theorem ftxt_pos {c : Nat} {v : Int} (h : ¬ v < 0) : S (ftxt c v) = ⟨#[ltr c]⟩ ++ S (digs v (dig c).toNat) := by
  unfold ftxt sgn
  rw [if_neg h, if_neg h]
  exact (S_append [ltr c] _).symm
theorem ftxt_neg {c : Nat} {v : Int} (h : v < 0) : S (ftxt c v) = ⟨#[ltr c]⟩ ++ ⟨#[45]⟩ ++ S (digs (-v) (dig c).toNat) := by
  unfold ftxt sgn
  rw [if_pos h, if_pos h, S_append [ltr c] [45], S_append]
  rfl
theorem ret_st {l : IntKind} {a b : ByteArray} {c d : Int} (h : a = b) (g : c = d) : Ending.returned (.tuple #[.string a, .int l c]) = .returned (.tuple #[.string b, .int l d]) := by rw [h, g]
theorem rdigits_gen (n k : Int) (w : World) (h0 : 0 ≤ n) (h1 : n ≤ 99999) (hk : 0 ≤ k) (hk' : k ≤ 5) : Calls Tryd.prog 38 #[.int .i64 n, .int .i64 k] w fun e w' => e = .returned (.string (S (digs n k.toNat))) ∧ Below w.heap.size w w' := by
  obtain ⟨j, rfl⟩ := Int.eq_ofNat_of_zero_le hk
  exact rdigits_any n j w h0 h1 (by omega)

set_option maxHeartbeats 2000000 in
theorem rformat_ok (c : Nat) (hc : c < 11) (v : Int) (h1 : lo c ≤ v) (h2 : v ≤ hi c) (w : World) : Calls Tryd.prog 13 #[rdV ((c : Int) + 1) v] w fun r w' => r = .returned (.tuple #[.string (S (ftxt c v)), .int .i64 0]) ∧ Below w.heap.size w w' := by
  have hlen := digs_length
  obtain ⟨l1, l2, l3, l4⟩ := lo_hi c hc
  have hb0 := (Below.refl w.heap.size w).alloc (Nat.le_refl _) (.cells #[.int .i64 ((c : Int) + 1), .int .i64 v] 23)
  have hB0 : Blk (w.alloc (.cells #[.int .i64 ((c : Int) + 1), .int .i64 v] 23)) w.heap.size #[.int .i64 ((c : Int) + 1), .int .i64 v] := Blk.new _ _ _
  have HX := Lib.hid hb0
  have HB0 := Lib.hid hB0
  clear hb0 hB0
  go_enter Tryd.func13, Tryd.ntmps13
  go_wp2_with fail
  refine (rdescribe_ok c hc _).mono ?_
  rintro r w1 ⟨rfl, hb1⟩
  have HX1 := Lib.hid (HX.out.trans (hb1.mono HX.out.size))
  have hB1 := HB0.out.below hb1 HB0.out.lt
  have hs1 := HX1.out.size
  have hv0 := hB1.cell 0
  have hv1 := hB1.cell 1
  have hl1 := hB1.lt
  simp at hv0 hv1
  have HB1 := Lib.hid hB1
  clear hb1 hB1 HX HB0
  go_wp2_with fail
  have hdec : decide (lo c ≤ v ∧ v ≤ hi c) = true := by simp; omega
  refine (rin_ok c hc v _).mono ?_
  rintro r w2 ⟨rfl, hb2⟩
  have HX2 := Lib.hid ((HX1.out.alloc HX1.out.size (.cells #[.string ⟨#[ltr c]⟩, .int .i64 (lo c), .int .i64 (hi c), .int .i64 (dig c)] 39)).trans (hb2.mono (by simp; omega)))
  have hB2 := (HB1.out.alloc (.cells #[.string ⟨#[ltr c]⟩, .int .i64 (lo c), .int .i64 (hi c), .int .i64 (dig c)] 39)).below hb2 (by simp; omega)
  have hC2 := (Blk.new w1 39 #[.string ⟨#[ltr c]⟩, .int .i64 (lo c), .int .i64 (hi c), .int .i64 (dig c)]).below hb2 (by simp)
  clear hv0 hv1 hl1 hb2 HX1 HB1 hs1
  rw [hdec]
  clear hdec
  have hv0 := hB2.cell 0
  have hv1 := hB2.cell 1
  have hu0 := hC2.cell 0
  have hu3 := hC2.cell 3
  have hl1 := hB2.lt
  have hl2 := hC2.lt
  simp at hv0 hv1 hu0 hu3
  clear hB2 hC2
  have hd5 : 0 ≤ dig c ∧ dig c ≤ 5 := by rcases dig_cases c with q | q <;> omega
  obtain ⟨d0, d5⟩ := hd5
  by_cases hneg : v < 0
  · have HE := Lib.hid (ftxt_neg (c := c) hneg)
    go_wp2_with fail
    refine wp_region_near (by kernel_rfl) (by kernel_rfl) ?_
    repeat (go_big_quiet_step ((go_at_call 38; exact near_of (rdigits_gen _ _ _ (by omega) (by omega) (by omega) (by omega)))))
    refine wpQuiet_nil ?_
    intro X
    go_wp2_with fail
    go_ret2
    exact ⟨ret_st HE.out.symm rfl, HX2.out.trans (X.h.mono HX2.out.size)⟩
  · have HE := Lib.hid (ftxt_pos (c := c) hneg)
    go_wp2_with fail
    refine wp_region_near (by kernel_rfl) (by kernel_rfl) ?_
    repeat (go_big_quiet_step ((go_at_call 38; exact near_of (rdigits_gen _ _ _ (by omega) (by omega) (by omega) (by omega)))))
    refine wpQuiet_nil ?_
    intro X
    go_wp2_with fail
    go_ret2
    exact ⟨ret_st HE.out.symm rfl, HX2.out.trans (X.h.mono HX2.out.size)⟩

set_option maxHeartbeats 2000000 in
theorem rformat_no (e v : Int) (hne : chk e v ≠ 0) (w : World) : Calls Tryd.prog 13 #[rdV e v] w fun r w' => r = .returned (.tuple #[.string (S []), .int .i64 (chk e v)]) ∧ Below w.heap.size w w' := by
  have hb0 := (Below.refl w.heap.size w).alloc (Nat.le_refl _) (.cells #[.int .i64 e, .int .i64 v] 23)
  have hB0 : Blk (w.alloc (.cells #[.int .i64 e, .int .i64 v] 23)) w.heap.size #[.int .i64 e, .int .i64 v] := Blk.new _ _ _
  have HX := Lib.hid hb0
  have HB0 := Lib.hid hB0
  clear hb0 hB0
  rcases code_cases e with he | ⟨c, hc, rfl⟩
  · have HC := Lib.hid (chk_no he v)
    clear hne
    go_enter Tryd.func13, Tryd.ntmps13
    go_wp2_with fail
    refine (rdescribe_no _ _ he).mono ?_
    rintro r w1 ⟨rfl, hb1⟩
    have HX1 := Lib.hid (HX.out.trans (hb1.mono HX.out.size))
    clear hb1 he
    go_wp2_with fail
    go_ret2
    exact ⟨ret_st rfl HC.out.symm, HX1.out.alloc HX1.out.size _⟩
  · have hq : ¬ (lo c ≤ v ∧ v ≤ hi c) := by
      intro q; apply hne; rw [chk_at hc, if_neg (by omega)]
    have h1 : chk ((c : Int) + 1) v = 1 := by rw [chk_at hc, if_pos (by omega)]
    have HC := Lib.hid h1
    have hdec : decide (lo c ≤ v ∧ v ≤ hi c) = false := by simp; omega
    have HD := Lib.hid hdec
    clear hne hq h1 hdec
    go_enter Tryd.func13, Tryd.ntmps13
    go_wp2_with fail
    refine (rdescribe_ok c hc _).mono ?_
    rintro r w1 ⟨rfl, hb1⟩
    have HX1 := Lib.hid (HX.out.trans (hb1.mono HX.out.size))
    have hB1 := HB0.out.below hb1 HB0.out.lt
    have hs1 := HX1.out.size
    have hv0 := hB1.cell 0
    have hv1 := hB1.cell 1
    have hl1 := hB1.lt
    simp at hv0 hv1
    clear hb1 hB1 HX HB0
    go_wp2_with fail
    refine (rin_ok c hc v _).mono ?_
    rintro r w2 ⟨rfl, hb2⟩
    have HX2 := Lib.hid ((HX1.out.alloc HX1.out.size (.cells #[.string ⟨#[ltr c]⟩, .int .i64 (lo c), .int .i64 (hi c), .int .i64 (dig c)] 39)).trans (hb2.mono (by simp; omega)))
    clear hv0 hv1 hl1 hb2 HX1 hs1
    rw [HD.out]
    go_wp2_with fail
    go_ret2
    exact ⟨ret_st rfl HC.out.symm, HX2.out⟩
end Go.Proofs.YtpjnlbippcgnoaaDoor
