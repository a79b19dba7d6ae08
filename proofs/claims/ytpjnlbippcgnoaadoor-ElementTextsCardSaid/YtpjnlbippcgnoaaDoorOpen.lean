/-
  Arguments that came in, opened to their cells: a slice of ints, a Reading by value.
-/
import Derived.Test.YtpjnlbippcgnoaaDoorSrc
import Derived.Test.YtpjnlbippcgnoaaDoorBnd
import Derived.Test.YtpjnlbippcgnoaaDoorChk
import Derived.ProofKit
import Derived.OpenShut
namespace Go.Proofs.YtpjnlbippcgnoaaDoor
open Go.ChangeShapes Go.WideShapes Go.ChangeAt Go.RowKit

theorem sliceIn_of {H : Type} {enc : TypeId × Value → H} {W : World} {a : Option Addr} {len cap : Nat} {d : DataW H} {p : List MemPlace} {base : Nat} {sp : Nat → Bool} {hd : Bool}
    (h0 : DataW.Trod enc Tryd.prog W base sp hd 24 (.slice a len cap) d p) : SliceIn W a len cap := by
  obtain ⟨fuel, hf⟩ := h0
  rcases open_ints Tryd.underlying24 Tryd.underlying3 (by kernel_rfl) hf with ⟨hcs, _⟩ | ⟨x, l, c, zs, hcs, _, hl, hm, hz, _, hcell, hwz⟩
  · simp [Value.cells] at hcs
    obtain ⟨rfl, rfl, rfl⟩ := hcs
    exact ⟨Nat.le_refl _, Nat.zero_le _, fun h => absurd h (by omega)⟩
  · simp [Value.cells] at hcs
    obtain ⟨rfl, rfl, rfl⟩ := hcs
    refine ⟨hl, hm, fun hn => ?_⟩
    have hzl : zs.length ≤ cap := by split at hz <;> omega
    have hzl2 : len ≤ zs.length := by split at hz <;> omega
    obtain ⟨b, o, rfl, hc⟩ := ints_at hcell (by omega)
    exact ⟨b, o, rfl, lt_of_cell (hc 0 (by omega)), fun j hj => ⟨zs.getD j 0, hc j (by omega), hwz _ (by rw [List.getD_eq_getElem?_getD, List.getElem?_eq_getElem (by omega)]; exact List.getElem_mem _)⟩⟩

theorem int_cell {W : World} {base : Nat} {v : Value} (h : Cell.okWide Tryd.prog W .any base 3 v) : ∃ n, v = .int .i64 n := by
  simp only [Cell.okWide, Tryd.underlying3] at h
  cases v <;> simp_all [Cell.ok]
set_option maxRecDepth 4000 in
theorem rd_of {W : World} {base : Nat} {v : Value} (h : Value.okWide Tryd.prog W .any base 23 v) : ∃ a b : Int, v = rdV a b := by
  simp only [Value.okWide, Tryd.underlying23] at h
  obtain ⟨cs, rfl, hsz, ts, hts, _, hc⟩ := h
  have e : Tryd.prog.cellTypes Tryd.prog.depth 23 = some [3, 3] := by kernel_rfl
  have e5 : Tryd.prog.cellsOf 23 = 2 := by kernel_rfl
  rw [e] at hts
  injection hts with hts
  subst hts
  rw [e5] at hsz
  have g : ∀ j, j < 2 → ∃ n : Int, cs[j]? = some (.int .i64 n) := by
    intro j hj
    have hv : cs[j]? = some (cs[j]'(by omega)) := Array.getElem?_eq_getElem (by omega)
    obtain ⟨u, hu, hk⟩ := hc j _ hv
    have : u = 3 := by
      rcases j with _ | _ | j
      · exact (Option.some.inj hu).symm
      · exact (Option.some.inj hu).symm
      · omega
    subst this
    obtain ⟨n, hn⟩ := int_cell hk
    exact ⟨n, by rw [hv, hn]⟩
  obtain ⟨y, hy⟩ := g 0 (by omega)
  obtain ⟨m, hm⟩ := g 1 (by omega)
  refine ⟨y, m, ?_⟩
  congr 1
  apply Array.ext_getElem?
  intro j
  rcases j with _ | _ | j
  · exact hy
  · exact hm
  · rw [Array.getElem?_eq_none (by omega)]; rfl
end Go.Proofs.YtpjnlbippcgnoaaDoor
