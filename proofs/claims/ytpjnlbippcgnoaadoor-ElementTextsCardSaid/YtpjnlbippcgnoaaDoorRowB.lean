/-
  A row of bytes that may have room behind it.
-/
import Derived.Test.YtpjnlbippcgnoaaDoorDig
import Derived.Lib.ConvBytes
namespace Go.Proofs.YtpjnlbippcgnoaaDoor
open Go.RowKit Txt

/-- bytes of a row, which may have room behind them -/
structure RowB (w : World) (g : Nat) (l : List UInt8) : Prop where
  lt : g < w.heap.size
  cell : ∀ j c, l[j]? = some c → w.cell? ⟨g, j, none⟩ = some (B c)
  frozen : ∀ j, j < l.length → w.frozen? ⟨g, j, none⟩ = false

theorem rowB_bytes (w : World) (l : List UInt8) : RowB (Lib.bytesWorld w 5 (S l)) w.heap.size l := by
  have hn := Lib.bytesWorld_at_new w 5 (S l)
  refine ⟨by rw [Lib.bytesWorld_size]; omega, ?_, ?_⟩
  · intro j c hc
    have hj : j < l.length := by
      rcases Nat.lt_or_ge j l.length with q | q
      · exact q
      · rw [List.getElem?_eq_none q] at hc; cases hc
    rw [Lib.bytesWorld_cell w 5 (S l) j (show j < l.toArray.size by simpa using hj)]
    simp [List.getD, hc]
  · intro j hj
    simp only [World.frozen?, hn]
    simp [Lib.bytesCells]
    omega
theorem below_bytes {B : Nat} {w0 w : World} (h : Below B w0 w) (hB : B ≤ w.heap.size) (l : List UInt8) : Below B w0 (Lib.bytesWorld w 5 (S l)) :=
  h.trans ⟨rfl, rfl, rfl, by rw [Lib.bytesWorld_size]; omega, fun k hk => Lib.bytesWorld_at_old w 5 (S l) k (by omega)⟩

theorem RowB.below {B' : Nat} {w w' : World} {g : Nat} {l : List UInt8} (h : RowB w g l) (hb : Below B' w w') (hg : g < B') : RowB w' g l :=
  ⟨Nat.lt_of_lt_of_le h.lt hb.size, fun j c hc => (hb.cell (p := ⟨g, j, none⟩) hg).trans (h.cell j c hc), fun j hj => (hb.frozen (p := ⟨g, j, none⟩) hg).trans (h.frozen j hj)⟩
/-- what is in the row behind a store -/
theorem RowB.put {w : World} {g : Nat} {l : List UInt8} (h : RowB w g l) (p : Nat) (hp : p < l.length) (c : UInt8) : RowB (w.setCell ⟨g, p, none⟩ (B c)) g (l.set p c) := by
  refine ⟨by simpa using h.lt, ?_, ?_⟩
  · intro j d hd
    by_cases e : p = j
    · subst e
      rw [List.getElem?_set_self hp] at hd
      injection hd with hd
      have hx := h.cell p l[p] (List.getElem?_eq_getElem hp)
      rw [World.cell?_setCell_same _ _ _ hx, hd]
    · rw [List.getElem?_set_ne e] at hd
      rw [World.cell?_setCell_other _ _ _ _ (by intro q; injection q with q1 q2; exact e q2)]
      exact h.cell j d hd
  · intro j hj
    have := h.frozen j (by simpa using hj)
    simpa [go_sem] using this
end Go.Proofs.YtpjnlbippcgnoaaDoor
