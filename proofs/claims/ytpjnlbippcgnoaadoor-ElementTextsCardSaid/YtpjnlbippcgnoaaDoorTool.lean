/-
  Tools: to forget how a world came about (forget), and the steps of a block's facts through stores and new blocks.
-/
import Derived.Test.YtpjnlbippcgnoaaDoorNear
namespace Go.Proofs.YtpjnlbippcgnoaaDoor
open Go.RowKit

theorem forget {P : Program} {Q : Exit → Act → World → Prop} {a : Act} {w : World} {c : Code} (I : World → Prop) (h0 : I w) (h : ∀ w', I w' → c.wp P Q a w') : c.wp P Q a w := h w h0
theorem Blk.put' {w : World} {g : Nat} {cs cs' : Array Value} (h : Blk w g cs) {i : Nat} {u : Value} (e : cs.setIfInBounds i u = cs') : Blk (w.setCell ⟨g, i, none⟩ u) g cs' := e ▸ h.put i u
theorem Blk.new' (w : World) (t : TypeId) (cs : Array Value) {g : Nat} (e : w.heap.size = g) : Blk (w.alloc (.cells cs t)) g cs := e ▸ Blk.new w t cs
end Go.Proofs.YtpjnlbippcgnoaaDoor
