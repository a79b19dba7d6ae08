/-
  Tools: to forget how a world came about (forget), and two tactics that lead the facts of a block (blk) and of what lies below (bel) through stores and new blocks.
-/
import Derived.Test.YtnfdpjckdiifkaaNear
namespace Go.Proofs.Ytnfdpjckdiifkaa
open Go.RowKit

theorem forget {P : Program} {Q : Exit → Act → World → Prop} {a : Act} {w : World} {c : Code} (I : World → Prop) (h0 : I w) (h : ∀ w', I w' → c.wp P Q a w') : c.wp P Q a w := h w h0
theorem Blk.put' {w : World} {g : Nat} {cs cs' : Array Value} (h : Blk w g cs) {i : Nat} {u : Value} (e : cs.setIfInBounds i u = cs') : Blk (w.setCell ⟨g, i, none⟩ u) g cs' := e ▸ h.put i u
theorem Blk.new' (w : World) (t : TypeId) (cs : Array Value) {g : Nat} (e : w.heap.size = g) : Blk (w.alloc (.cells cs t)) g cs := e ▸ Blk.new w t cs
syntax "blk" : tactic
macro_rules | `(tactic| blk) => `(tactic| first
  | with_reducible assumption
  | ((with_reducible refine Blk.alloc ?_ _); blk)
  | ((with_reducible refine Blk.drewN ?_ _); blk)
  | ((with_reducible apply Blk.put'); · blk
     rfl)
  | ((with_reducible refine Blk.away ?_ ?_ _ _); · blk
     omega)
  | ((with_reducible refine Blk.new' _ _ _ ?_); simp))
syntax "bel" : tactic
macro_rules | `(tactic| bel) => `(tactic| first
  | with_reducible assumption
  | with_reducible exact Below.refl _ _
  | ((with_reducible refine Below.alloc ?_ ?_ _); · bel
     simp; omega)
  | ((with_reducible refine Below.setCell ?_ ?_ _); · bel
     simp; omega))
end Go.Proofs.Ytnfdpjckdiifkaa
