/-
  Appends to a list of readings of the call's own, as steps of a region that draws its order.
-/
import Derived.Test.YtpjnlbippcgnoaaDoorPv
import Derived.Deep.RegionHeld3
namespace Go.Proofs.YtpjnlbippcgnoaaDoor
open Go.RowKit Go.Proofs.YtpjnlbippcgnoaaDoorW.PrintWords PElementAnswers

theorem block_add (a : Addr) (n : Nat) : (a.add n).block = a.block := by unfold Addr.add; split <;> rfl

theorem Blk.own {w w' : World} {g : Nat} {cs : Array Value} {row : Option Nat} (h : Blk w g cs) (hg : w.grownBy w' row) (hne : some g ≠ row) : Blk w' g cs := by
  have hl := h.lt
  obtain ⟨t, h⟩ := h
  exact ⟨t, (hg.block g hl hne).trans h⟩
/-- append(v, ys...), ys read in w0; what lay in w0 stays. -/
theorem stepX {ops : Array Oper} {o : Oper} {a : Act} {K : Act → World → Prop} {Q : Exit → Act → World → Prop} {E : Prop} (hgd : o.guard = none) (s x : Operand)
    (ho : o.op = .call { callee := .builtin .append, args := #[s, x], argTypes := #[45, 45] }) (w0 W : World) (v : Value) (xs ys : List S23) (A : Option Addr) (m c : Nat) (hs : a.eval s = v) (hx : a.eval x = .slice A m c)
    (HO : Kd.R k23 23 W w0.heap.size (fun _ => True) v xs) (HC : Kd.C k23 w0 A m ys) (HB : Below w0.heap.size w0 W) (hl : xs.length + m ≤ 1000)
    (h : ∀ v1 w1, Kd.R k23 23 w1 w0.heap.size (fun _ => True) v1 (xs ++ ys) → Below w0.heap.size w0 w1 → W.grownBy w1 v.ownBlock → (v1.ownBlock = v.ownBlock ∨ ∃ b, v1.ownBlock = some b ∧ W.heap.size ≤ b) → K (a.put o.dst v1) w1) :
    if Region.wanted o (yielded ops a.tmps) = true then Oper.wp Tryd.prog o a W K Q else E := by
  have hw : Region.wanted o (yielded ops a.tmps) = true := by simp [Region.wanted, hgd]
  have key := Kd.R_append_rows_step (P := Tryd.prog) (ops := ops) (o := o) (a := a) (Kc := K) (Q := Q) k23 (w0 := w0) (W := W) w0.heap.size hw s x 45 23 (.agg #[(.int .i64 0), (.int .i64 0)]) 16 ho Tryd.underlying45 info23 rfl (by decide) (by omega) v xs ys A m c (fun _ => True) (fun _ => False) hs hx HO (Kd.C_below HC HB)
    (fun _ _ h => h) (fun _ h => h.elim) (fun _ _ => trivial) HB HB.size (by omega) h
  rw [if_pos hw] at key ⊢
  exact key
/-- append(v, y), y's cells in a block of the call's own. -/
theorem stepB {ops : Array Oper} {o : Oper} {a : Act} {K : Act → World → Prop} {Q : Exit → Act → World → Prop} {E : Prop} (hgd : o.guard = none) (s x : Operand)
    (ho : o.op = .call { callee := .builtin .append, args := #[s, x], argTypes := #[45, 45] }) (w0 W : World) (v : Value) (xs : List S23) (y : S23) (b c : Nat) (hs : a.eval s = v) (hx : a.eval x = .slice (some ⟨b, 0, none⟩) 1 c)
    (HO : Kd.R k23 23 W w0.heap.size (fun _ => True) v xs) (HC : Blk W b #[.int .i64 y.f0, .int .i64 y.f1]) (HB : Below w0.heap.size w0 W) (hl : xs.length + 1 ≤ 1000)
    (h : ∀ v1 w1, Kd.R k23 23 w1 w0.heap.size (fun _ => True) v1 (xs ++ [y]) → Below w0.heap.size w0 w1 → K (a.put o.dst v1) w1) :
    if Region.wanted o (yielded ops a.tmps) = true then Oper.wp Tryd.prog o a W K Q else E := by
  have hw : Region.wanted o (yielded ops a.tmps) = true := by simp [Region.wanted, hgd]
  have HC' : Kd.C k23 W (some ⟨b, 0, none⟩) 1 [y] := by
    refine ⟨rfl, by omega, fun _ => ⟨_, rfl, fun j p hj => ?_⟩⟩
    have hj0 : j = 0 := by
      have := (List.getElem?_eq_some_iff.1 hj).1
      simp at this
      exact this
    subst hj0
    have hp : y = p := by simpa using hj
    subst hp
    refine ⟨[.int .i64 y.f0, .int .i64 y.f1], rfl, k23_mk _ _, fun i u hu => ?_⟩
    have hi : i < 2 := (List.getElem?_eq_some_iff.1 hu).1
    have hc := HC.cell i
    rw [Nat.zero_mul, Nat.zero_add]
    have ha : (⟨b, 0, none⟩ : Addr).add i = ⟨b, i, none⟩ := by rw [Addr.add_lit, Nat.zero_add]
    rw [ha, hc, ← hu]
    simp
  have key := Kd.R_append_rows_step (P := Tryd.prog) (ops := ops) (o := o) (a := a) (Kc := K) (Q := Q) k23 (w0 := w0) (W := W) w0.heap.size hw s x 45 23 (.agg #[(.int .i64 0), (.int .i64 0)]) 16 ho Tryd.underlying45 info23 rfl (by decide) (by omega) v xs [y] _ 1 c (fun _ => True) (fun _ => False) hs hx HO HC'
    (fun _ _ h => h) (fun _ h => h.elim) (fun _ _ => trivial) HB HB.size (by omega) (fun v1 w1 h1 h2 _ _ => h v1 w1 h1 h2)
  rw [if_pos hw] at key ⊢
  exact key
/-- an empty literal -/
theorem litR (w0 w : World) (b : Nat) (hb : w0.heap.size ≤ w.heap.size) (e : w.heap.size = b) : Kd.R k23 23 (w.alloc (.cells #[] 23)) w0.heap.size (fun _ => True) (.slice (some ⟨b, 0, none⟩) 0 0) [] := by
  subst e
  exact ⟨fun _ _ => trivial, [], World.ownsRow_lit (e := 23) (size := 2) w #[] 0 hb (by unfold maxLen; omega) rfl, Reps.none _ _⟩
end Go.Proofs.YtpjnlbippcgnoaaDoor
