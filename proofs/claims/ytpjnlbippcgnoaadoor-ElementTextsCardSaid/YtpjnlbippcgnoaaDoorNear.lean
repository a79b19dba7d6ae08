/-
  A region that draws its order, whose operations only read, and whose callees may make memory of their own but change nothing that is there: one walk in the order of the text serves every order.
-/
import Derived.Test.YtpjnlbippcgnoaaDoorProg
import Derived.WalkKit
import Derived.WalkSpells
import Derived.WalkLawsBesides
import Derived.Lib.Hide
import Derived.Deep.QuietTactic
import Derived.BigQuiet
namespace Go.Proofs.YtpjnlbippcgnoaaDoor
open Go.RowKit

theorem below_drewN {B : Nat} {a w : World} (h : Below B a w) (n : Nat) : Below B a (w.drewN n) := ⟨h.os, h.tape, h.output, h.size, h.block⟩

/-- A world in which all that lies in W lies unchanged. -/
structure Near (W : World) where
  w : World
  h : Below W.heap.size W w

instance near_there (W : World) : Nonempty (Near W) := ⟨⟨W, Below.refl _ _⟩⟩

theorem Near.cell_ {W : World} (x : Near W) (b o : Nat) (hb : b < W.heap.size) : x.w.cell? ⟨b, o, none⟩ = W.cell? ⟨b, o, none⟩ := x.h.cell (p := ⟨b, o, none⟩) hb
theorem Near.frozen_ {W : World} (x : Near W) (b o : Nat) (hb : b < W.heap.size) : x.w.frozen? ⟨b, o, none⟩ = W.frozen? ⟨b, o, none⟩ := x.h.frozen (p := ⟨b, o, none⟩) hb
attribute [go_sem] Near.cell_ Near.frozen_

theorem wp_region_near {P : Program} {id : Nat} {Q : Exit → Act → World → Prop} {a : Act} {w : World} {l : List Oper} (hm : P.follows .mixedOrders = true) (hB : Region.lexB .any l.toArray = true)
    (h : wpQuiet P l.toArray (fun w' => ∃ x : Near w, w' = x.w) (fun a' => ∀ x : Near w, Q .normal a' x.w) l a) : (Code.region id l.toArray true).wp P Q a w := by
  refine wp_region_quiet (C := fun w' => ∃ x : Near w, w' = x.w) hm hB ⟨⟨w.drew, (Below.refl _ _).drew⟩, rfl⟩ ?_
  have e : (fun a' => ∀ w', (∃ x : Near w, w' = x.w) → Q .normal a' w') = (fun a' => ∀ x : Near w, Q .normal a' x.w) := by
    funext a'
    exact propext ⟨fun k x => k _ ⟨x, rfl⟩, fun k w' ⟨x, hx⟩ => hx ▸ k x⟩
  rw [e]
  simpa using h

theorem near_of {P : Program} {f : FuncId} {args : Array Value} {W : World} {x : Near W} {v : Value}
    (h : Calls P f args x.w fun e w' => e = .returned v ∧ Below x.w.heap.size x.w w') : Calls P f args x.w fun e w'' => e = .returned v ∧ ∃ y : Near W, w'' = y.w :=
  h.mono fun _ w' ⟨he, hb⟩ => ⟨he, ⟨w', x.h.trans (hb.mono x.h.size)⟩, rfl⟩
theorem near_same {P : Program} {f : FuncId} {args : Array Value} {W : World} {x : Near W} {v : Value}
    (h : Calls P f args x.w fun e w' => e = .returned v ∧ x.w = w') : Calls P f args x.w fun e w'' => e = .returned v ∧ ∃ y : Near W, w'' = y.w :=
  h.mono fun _ _ ⟨he, hw⟩ => ⟨he, x, hw.symm⟩

/-- The block g holds just the cells cs, and none of them is marked. -/
def Blk (w : World) (g : Nat) (cs : Array Value) : Prop := ∃ t, w.heap[g]? = some (.cells cs t (0, 0))
section
variable {w w' : World} {g : Nat} {cs : Array Value}
theorem Blk.lt (h : Blk w g cs) : g < w.heap.size := by
  obtain ⟨t, h⟩ := h
  rcases Nat.lt_or_ge g w.heap.size with k | k
  · exact k
  · rw [Array.getElem?_eq_none k] at h; cases h
theorem Blk.cell (h : Blk w g cs) (i : Nat) : w.cell? ⟨g, i, none⟩ = cs[i]? := by
  obtain ⟨t, h⟩ := h
  exact cell_of_row w g i cs t (0, 0) h
theorem Blk.frozen (h : Blk w g cs) (i : Nat) : w.frozen? ⟨g, i, none⟩ = false := by
  obtain ⟨t, h⟩ := h
  simp [World.frozen?, h]
theorem Blk.new (w : World) (t : TypeId) (cs : Array Value) : Blk (w.alloc (.cells cs t)) w.heap.size cs := ⟨t, heap_alloc_new w _⟩
theorem Blk.at_ {g' : Nat} (h : Blk w g cs) (e : g = g') : Blk w g' cs := e ▸ h
theorem Blk.drew (h : Blk w g cs) : Blk w.drew g cs := h
theorem Blk.drewN (h : Blk w g cs) (n : Nat) : Blk (w.drewN n) g cs := h
theorem Blk.alloc (h : Blk w g cs) (o : Obj) : Blk (w.alloc o) g cs := by
  have hl := h.lt
  obtain ⟨t, h⟩ := h
  exact ⟨t, (Below.heap_alloc w o g hl).trans h⟩
theorem Blk.put (h : Blk w g cs) (i : Nat) (u : Value) : Blk (w.setCell ⟨g, i, none⟩ u) g (cs.setIfInBounds i u) := by
  obtain ⟨t, h⟩ := h
  exact ⟨t, by simp [World.setCell, Array.getElem?_modify, h]⟩
theorem Blk.away (h : Blk w g cs) {b : Nat} (hb : g ≠ b) (i : Nat) (u : Value) : Blk (w.setCell ⟨b, i, none⟩ u) g cs := by
  obtain ⟨t, h⟩ := h
  exact ⟨t, (Below.heap_setCell w ⟨b, i, none⟩ u g hb).trans h⟩
theorem Blk.below {B : Nat} (h : Blk w g cs) (hb : Below B w w') (hg : g < B) : Blk w' g cs := by
  obtain ⟨t, h⟩ := h
  exact ⟨t, (hb.block g hg).trans h⟩
end
end Go.Proofs.YtpjnlbippcgnoaaDoor
