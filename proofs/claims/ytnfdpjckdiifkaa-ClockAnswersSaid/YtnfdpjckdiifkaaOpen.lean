/-
  A slice of ints that came in as an argument, opened to its cells.
-/
import Derived.Test.YtnfdpjckdiifkaaSrc
import Derived.ProofKit
import Derived.OpenShut
namespace Go.Proofs.Ytnfdpjckdiifkaa
open Go.ChangeShapes Go.WideShapes Go.ChangeAt Go.RowKit

theorem lt_of_cell {w : World} {b o : Nat} {v : Value} (h : w.cell? ⟨b, o, none⟩ = some v) : b < w.heap.size := by
  rcases Nat.lt_or_ge b w.heap.size with q | q
  · exact q
  · simp [World.cell?, Array.getElem?_eq_none q] at h

theorem sliceIn_of {H : Type} {enc : TypeId × Value → H} {W : World} {a : Option Addr} {len cap : Nat} {d : DataW H} {p : List MemPlace} {base : Nat} {sp : Nat → Bool} {hd : Bool}
    (h0 : DataW.Trod enc Try.prog W base sp hd 24 (.slice a len cap) d p) : SliceIn W a len cap := by
  obtain ⟨fuel, hf⟩ := h0
  rcases open_ints Try.underlying24 Try.underlying3 (by kernel_rfl) hf with ⟨hcs, _⟩ | ⟨x, l, c, zs, hcs, _, hl, hm, hz, _, hcell, hwz⟩
  · simp [Value.cells] at hcs
    obtain ⟨rfl, rfl, rfl⟩ := hcs
    exact ⟨Nat.le_refl _, Nat.zero_le _, fun h => absurd h (by omega)⟩
  · simp [Value.cells] at hcs
    obtain ⟨rfl, rfl, rfl⟩ := hcs
    refine ⟨hl, hm, fun hn => ?_⟩
    have hzl : zs.length ≤ cap := by split at hz <;> omega
    have hzl2 : len ≤ zs.length := by split at hz <;> omega
    obtain ⟨b, o, rfl, hc⟩ := ints_at hcell (by omega)
    exact ⟨b, o, rfl, lt_of_cell (hc 0 (by omega)), fun j hj => ⟨zs.getD j 0, hc j (by omega), hwz _ (by rw [List.getD_eq_getElem?_getD, List.getElem?_eq_getElem (by omega)]; exact List.getElem_mem _)⟩⟩
end Go.Proofs.Ytnfdpjckdiifkaa
