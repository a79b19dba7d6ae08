/-
  The laid variable element.bounds: what the row's condition says of its cells.
-/
import Derived.Test.YtpjnlbippcgnoaaDoorRows
import Derived.Test.YtpjnlbippcgnoaaDoorTie
import Derived.WalkKit
import Derived.ProofKit
import Derived.OpenShut
import Derived.LaidMore
import Derived.Lay
import Derived.LaidOnce
import Derived.MakeChecks
import Derived.SevenTiedAt
import Derived.Below
namespace Go.Proofs.YtpjnlbippcgnoaaDoor
open Go.ChangeShapes Go.WideShapes Go.ChangeAt Go.RowKit

abbrev laid : List (String × DataW Unit) := [("synoptic/element.bounds", Rows.laid_synoptic_element_bounds)]

/-- the least value of an element -/
def lo (c : Nat) : Int := [8000, 1800, 1800, -1000, -1000, 900, 2000, 2400, 2000, 4400, 2000].getD c 0
/-- the greatest value of an element -/
def hi (c : Nat) : Int := [11000, 3300, 3300, 1000, 1000, 1700, 3200, 3400, 3000, 6200, 2900].getD c 0

/-- The variable element.bounds holds its table. -/
structure Bnd (w : World) : Prop where
  lt : 0 < w.heap.size
  lo_ : ∀ c, c < 11 → w.cell? ⟨0, 2 * c, none⟩ = some (.int .i64 (lo c))
  hi_ : ∀ c, c < 11 → w.cell? ⟨0, 2 * c + 1, none⟩ = some (.int .i64 (hi c))
theorem Bnd.below {B : Nat} {w w' : World} (h : Bnd w) (hb : Below B w w') (hB : 0 < B) : Bnd w' :=
  ⟨Nat.lt_of_lt_of_le h.lt hb.size, fun c hc => (hb.cell (p := ⟨0, 2 * c, none⟩) hB).trans (h.lo_ c hc), fun c hc => (hb.cell (p := ⟨0, 2 * c + 1, none⟩) hB).trans (h.hi_ c hc)⟩

theorem boundsN : Tryd.prog.globalNamed "synoptic/element.bounds" = some 0 := by kernel_rfl
theorem boundsT : (Tryd.prog.globals[0]?).map (·.type) = some 71 := by kernel_rfl
theorem cells70 : Tryd.prog.cellsOf 70 = 2 := by kernel_rfl
theorem cells71 : Tryd.prog.cellsOf 71 = 22 := by kernel_rfl
theorem cells3 : Tryd.prog.cellsOf 3 = 1 := by kernel_rfl

theorem lt_of_cell {w : World} {b o : Nat} {v : Value} (h : w.cell? ⟨b, o, none⟩ = some v) : b < w.heap.size := by
  rcases Nat.lt_or_ge b w.heap.size with q | q
  · exact q
  · simp [World.cell?, Array.getElem?_eq_none q] at h

set_option maxRecDepth 4000 in
theorem bounds_of {W : World} (h : laidMetH Tryd.prog laid W) : Bnd W := by
  rw [MakeChecks.laidMetH_plain _ _ _ (by kernel_rfl)] at h
  obtain ⟨ps, ⟨g, t, cs, fuel, p, q, hg, ht, hv, hd, _, _⟩, _, _⟩ := h
  obtain rfl := Option.some.inj (boundsN.symm.trans hg)
  obtain rfl := Option.some.inj (boundsT.symm.trans ht)
  obtain ⟨xs, m, _, ex, hlen, hl, hel⟩ := DataW.trod_array Tryd.underlying71 hd
  rw [cells71] at hlen
  have e3 := DataW.agg.inj (Prod.mk.inj ex).1
  have hcell := fun j => World.var?_cell boundsN hv j
  have hx : ∀ c, c < 11 → (xs[c]?).map (·.1) = some (DataW.agg [.lit (.int .i64 (lo c)), .lit (.int .i64 (hi c))]) := by
    intro c hc
    rw [← List.getElem?_map, ← e3]
    rcases c with _ | _ | _ | _ | _ | _ | _ | _ | _ | _ | _ | c
    all_goals first | rfl | omega
  have key : ∀ c, c < 11 → cs[2 * c]? = some (.int .i64 (lo c)) ∧ cs[2 * c + 1]? = some (.int .i64 (hi c)) := by
    intro c hc
    have k := hel c hc
    rw [cells70] at k
    have hx' := hx c hc
    rcases hxc : xs[c]? with _ | x
    · rw [hxc] at hx'; cases hx'
    · rw [hxc] at hx' k
      simp only [Option.map_some, Option.some.injEq] at hx'
      obtain ⟨ys, m', _, ey, hlen', hl', hel'⟩ := DataW.trod_array Tryd.underlying70 k
      rw [cells70] at hlen'
      have k0 := hel' 0 (by omega)
      have k1 := hel' 1 (by omega)
      rw [cells3] at k0 k1
      have hc0 : 2 * c < cs.toList.length := by omega
      have hc1 : 2 * c + 1 < cs.toList.length := by omega
      have hrow : (cs.toList.drop (c * 2)).take 2 = [cs.toList[2 * c], cs.toList[2 * c + 1]] := by
        rw [Nat.mul_comm c 2, List.drop_eq_getElem_cons hc0, List.drop_eq_getElem_cons hc1]
        rfl
      rw [hrow] at k0 k1
      match ys, hl' with
      | [y0, y1], _ =>
        have ey2 := DataW.agg.inj (hx'.symm.trans (congrArg Prod.fst ey))
        simp only [List.map_cons, List.map_nil, List.cons.injEq, and_true] at ey2
        obtain ⟨z0, a0, b0, _⟩ := DataW.trod_int Tryd.underlying3 k0
        obtain ⟨z1, a1, b1, _⟩ := DataW.trod_int Tryd.underlying3 k1
        rw [b0, b1] at ey2
        have q0 : z0 = lo c := by have := DataW.lit.inj ey2.1; injection this with _ q; exact q.symm
        have q1 : z1 = hi c := by have := DataW.lit.inj ey2.2; injection this with _ q; exact q.symm
        have r0 : cs.toList[2 * c] = .int .i64 z0 := (List.cons.inj a0).1
        have r1 : cs.toList[2 * c + 1] = .int .i64 z1 := (List.cons.inj a1).1
        refine ⟨?_, ?_⟩
        · rw [← q0, ← r0, ← Array.getElem?_toList]; exact List.getElem?_eq_getElem hc0
        · rw [← q1, ← r1, ← Array.getElem?_toList]; exact List.getElem?_eq_getElem hc1
  refine ⟨?_, fun c hc => (hcell _).trans (key c hc).1, fun c hc => (hcell _).trans (key c hc).2⟩
  exact lt_of_cell ((hcell 0).trans (key 0 (by omega)).1)
end Go.Proofs.YtpjnlbippcgnoaaDoor
