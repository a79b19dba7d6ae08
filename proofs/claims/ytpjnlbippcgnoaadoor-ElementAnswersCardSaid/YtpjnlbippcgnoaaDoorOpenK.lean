/-
  A slice of ints that came in as an argument, opened to a list.
-/
import Derived.Test.YtpjnlbippcgnoaaDoorCore
import Derived.Test.YtpjnlbippcgnoaaDoorPElementAnswersx0
namespace Go.Proofs.YtpjnlbippcgnoaaDoor
open Go.ChangeShapes Go.WideShapes Go.ChangeAt Go.RowKit Go.Proofs.YtpjnlbippcgnoaaDoorW.PrintWords

theorem add_lit_ (b o j : Nat) : (⟨b, o, none⟩ : Addr).add j = ⟨b, o + j, none⟩ := Addr.add_lit ..

theorem kdInts_of {H : Type} {enc : TypeId × Value → H} {W : World} {a : Option Addr} {len cap : Nat} {d : DataW H} {p : List MemPlace} {base : Nat} {sp : Nat → Bool} {hd : Bool}
    (h0 : DataW.Trod enc Tryd.prog W base sp hd 24 (.slice a len cap) d p) : ∃ l : List Int, l.length = len ∧ len ≤ cap ∧ Kd.C (Kd.int .i64) W a len l := by
  obtain ⟨fuel, hf⟩ := h0
  rcases open_ints Tryd.underlying24 Tryd.underlying3 (by kernel_rfl) hf with ⟨hcs, _⟩ | ⟨x, l, c, zs, hcs, _, hl, hm, hz, _, hcell, hwz⟩
  · simp [Value.cells] at hcs
    obtain ⟨rfl, rfl, rfl⟩ := hcs
    exact ⟨[], rfl, Nat.le_refl _, rfl, by omega, fun h => absurd h (by omega)⟩
  · simp [Value.cells] at hcs
    obtain ⟨rfl, rfl, rfl⟩ := hcs
    have hzl2 : len ≤ zs.length := by split at hz <;> omega
    unfold maxLen at hm
    have htl : (zs.take len).length = len := by rw [List.length_take]; omega
    refine ⟨zs.take len, htl, hl, htl, by omega, fun hn => ?_⟩
    have hzl : zs.length ≤ cap := by split at hz <;> omega
    obtain ⟨b, o, rfl, hc⟩ := ints_at hcell (by omega)
    refine ⟨_, rfl, fun j q hq => ⟨[.int .i64 q], rfl, rfl, fun i u hu => ?_⟩⟩
    have hj : j < len := by
      have := (List.getElem?_eq_some_iff.1 hq).1
      omega
    have hi : i = 0 := by
      have := (List.getElem?_eq_some_iff.1 hu).1
      simp at this
      exact this
    subst hi
    have hu' : u = .int .i64 q := by simpa using hu.symm
    subst hu'
    have hq' : zs.getD j 0 = q := by
      rw [List.getElem?_take, if_pos hj] at hq
      rw [List.getD_eq_getElem?_getD, hq]
      rfl
    have k := hc j (by omega)
    rw [hq'] at k
    have e1 : (Kd.int .i64).sz = 1 := rfl
    rw [e1, Nat.mul_one, Nat.add_zero, add_lit_]
    exact k
end Go.Proofs.YtpjnlbippcgnoaaDoor
