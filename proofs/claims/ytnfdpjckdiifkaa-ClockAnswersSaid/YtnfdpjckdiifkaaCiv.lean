/-
  A Civil that comes in by value holds five ints.
-/
import Derived.Test.YtnfdpjckdiifkaaValid
import Derived.ProofKit
namespace Go.Proofs.Ytnfdpjckdiifkaa
open Go.RowKit

theorem int_cell {W : World} {base : Nat} {v : Value} (h : Cell.okWide Try.prog W .any base 3 v) : ∃ n, v = .int .i64 n := by
  simp only [Cell.okWide, Try.underlying3] at h
  cases v <;> simp_all [Cell.ok]
theorem civ_of {W : World} {base : Nat} {v : Value} (h : Value.okWide Try.prog W .any base 23 v) : ∃ y m d h i : Int, v = civ y m d h i := by
  simp only [Value.okWide, Try.underlying23] at h
  obtain ⟨cs, rfl, hsz, ts, hts, _, hc⟩ := h
  have e : Try.prog.cellTypes Try.prog.depth 23 = some [3, 3, 3, 3, 3] := by kernel_rfl
  have e5 : Try.prog.cellsOf 23 = 5 := by kernel_rfl
  rw [e] at hts
  injection hts with hts
  subst hts
  rw [e5] at hsz
  have g : ∀ j, j < 5 → ∃ n : Int, cs[j]? = some (.int .i64 n) := by
    intro j hj
    have hv : cs[j]? = some (cs[j]'(by omega)) := Array.getElem?_eq_getElem (by omega)
    obtain ⟨u, hu, hk⟩ := hc j _ hv
    have : u = 3 := by
      rcases j with _ | _ | _ | _ | _ | j
      · injection hu with hu; exact hu.symm
      · injection hu with hu; exact hu.symm
      · injection hu with hu; exact hu.symm
      · injection hu with hu; exact hu.symm
      · injection hu with hu; exact hu.symm
      · omega
    subst this
    obtain ⟨n, hn⟩ := int_cell hk
    exact ⟨n, by rw [hv, hn]⟩
  obtain ⟨y, hy⟩ := g 0 (by omega)
  obtain ⟨m, hm⟩ := g 1 (by omega)
  obtain ⟨d, hd⟩ := g 2 (by omega)
  obtain ⟨h, hh⟩ := g 3 (by omega)
  obtain ⟨i, hi⟩ := g 4 (by omega)
  refine ⟨y, m, d, h, i, ?_⟩
  congr 1
  apply Array.ext_getElem?
  intro j
  rcases j with _ | _ | _ | _ | _ | j
  · exact hy
  · exact hm
  · exact hd
  · exact hh
  · exact hi
  · rw [Array.getElem?_eq_none (by omega)]; rfl
end Go.Proofs.Ytnfdpjckdiifkaa
