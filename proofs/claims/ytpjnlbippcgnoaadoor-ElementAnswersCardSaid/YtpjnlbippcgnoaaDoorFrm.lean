/-
  The frame of a row with a laid variable that keeps the world's shape, too; a slice of readings that came in as an argument, opened to a list.
-/
import Derived.Test.YtpjnlbippcgnoaaDoorOpenK
import Derived.HandedShaped
import Derived.Shelf.Vars
import Derived.Deep.Slices
import Derived.Deep.Fields
import Derived.ChangeSame
namespace Go.Proofs.YtpjnlbippcgnoaaDoor
open Go.ChangeShapes Go.WideShapes Go.ChangeAt Go.RowKit Go.Proofs.YtpjnlbippcgnoaaDoorW.PrintWords PElementAnswers

theorem handed_and_shaped {H : Type} {enc : TypeId × Value → H} {a : Assume} {C : Checked} {os : Os} {f : FuncId} {fn : Func} {s : ChangeSpec} {conds : List PathCond} {apart fresh handsOn again : Bool} {X : World → Array Value → Prop}
    (hX : ∀ (w w' : World) (args : Array Value), w.heap = w'.heap → X w args → X w' args)
    (own : ownKnob C.prog.godebug = none) (started : os.Started) (noInit : C.prog.inits.idxOf? f = none) (hfn : C.prog.funcs[f]? = some fn)
    (witness : ∃ (w : World) (tape : Tape) (i : Input), w.os = os ∧ (w.forCall tape i).Shaped C.prog ∧ i.vars = [] ∧ Input.okWide C.prog (w.forCall tape i) .any w.heap.size f i ∧
      ((s.pre enc C.prog fn conds apart (w.forCall tape i).memory i.args ∧ X (w.forCall tape i).memory i.args) ∧ sizedMet enc C.prog fn (OpenSpec.ofChange s) apart (w.forCall tape i).memory i.args) ∧ a.holds C.prog (lone (Frame.enter C.prog f i.args .normal) [] (w.forCall tape i)))
    (contract : ∀ (W : World) (base : Nat) (args : Array Value) (ds gs : List (DataW H)) (before : List MemPlace),
      (∀ (j : Nat) t v, fn.params[j]? = some t → args[j]? = some v → Value.okWide C.prog W .any base t v) →
      DataW.Whole enc C.prog fn.params.toList s.vars apart W args.toList ds gs before →
      X W args → W.ShapedOpen C.prog →
      Calls C.prog f args W fun e W' => ∃ v, e = .returned v ∧ s.post enc C.prog fn apart fresh handsOn again W args v W') :
    ReturnsInHanded a C os f .any (fun w args => (s.pre enc C.prog fn conds apart w args ∧ X w args) ∧ sizedMet enc C.prog fn (OpenSpec.ofChange s) apart w args) (s.post enc C.prog fn apart fresh handsOn again) := by
  refine returnsInHanded_of_calls own started noInit witness ?_
  intro w tape i _ hsh _ hok hpre _
  obtain ⟨_, _, _, fn', hfn', _, _, _, _, hval⟩ := hok
  have e : fn' = fn := Option.some.inj (hfn'.symm.trans hfn)
  subst e
  obtain ⟨⟨⟨ds, gs, before, hw, _⟩, hx⟩, _⟩ := hpre
  have hw' := DataW.Whole.of_heap (w' := w.forCall tape i) (by rfl) hw
  refine (contract (w.forCall tape i) w.heap.size i.args ds gs before hval hw' (hX _ _ _ (by rfl) hx) hsh).mono fun e W' ⟨v, he, hp⟩ => ?_
  subst he
  exact ChangeSpec.post_blind hp

theorem list_of_lt {α : Type} {Q : Nat → α → Prop} : ∀ n, (∀ i, i < n → ∃ a, Q i a) → ∃ L : List α, L.length = n ∧ ∀ j p, L[j]? = some p → Q j p := by
  intro n
  induction n with
  | zero => exact fun _ => ⟨[], rfl, fun j p h => by simp at h⟩
  | succ n ih =>
    intro h
    obtain ⟨L, hl, hL⟩ := ih (fun i hi => h i (by omega))
    obtain ⟨a, ha⟩ := h n (by omega)
    refine ⟨L ++ [a], by simp [hl], fun j p hj => ?_⟩
    rcases Nat.lt_or_ge j n with q | q
    · rw [List.getElem?_append_left (by omega)] at hj
      exact hL j p hj
    · have hlt := (List.getElem?_eq_some_iff.1 hj).1
      rw [List.length_append, hl] at hlt
      simp at hlt
      obtain rfl : j = n := by omega
      rw [List.getElem?_append_right (by omega), hl] at hj
      simp at hj
      exact hj ▸ ha

theorem cells23 : Tryd.prog.cellsOf 23 = 2 := by kernel_rfl

set_option maxRecDepth 20000 in
theorem kdRd_of {H : Type} {enc : TypeId × Value → H} {W : World} {a : Option Addr} {len cap : Nat} {d : DataW H} {p : List MemPlace} {base : Nat} {sp : Nat → Bool} {hd : Bool}
    (h0 : DataW.Trod enc Tryd.prog W base sp hd 45 (.slice a len cap) d p) : ∃ L : List S23, L.length = len ∧ len ≤ cap ∧ Kd.C k23 W a len L := by
  obtain ⟨fuel, hf⟩ := h0
  rcases Go.Deep.open_slice Tryd.underlying45 hf with ⟨hcs, _⟩ | ⟨ad, len', cap', m, n, D, Pl, hcs, _, hl, hm, hmm, _, hi⟩
  · simp [Value.cells] at hcs
    obtain ⟨rfl, rfl, rfl⟩ := hcs
    exact ⟨[], rfl, Nat.le_refl _, rfl, by omega, fun h => absurd h (by omega)⟩
  · simp [Value.cells] at hcs
    obtain ⟨rfl, rfl, rfl⟩ := hcs
    have hlm : len ≤ m := by rw [hmm]; split <;> omega
    unfold maxLen at hm
    have key : ∀ i, i < len → ∃ r : S23, W.cell? (ad.add (i * 2 + 0)) = some (.int .i64 r.f0) ∧ W.cell? (ad.add (i * 2 + 1)) = some (.int .i64 r.f1) := by
      intro i hi'
      obtain ⟨cs', hc, ht⟩ := hi i (by omega)
      rw [cells23] at hc
      obtain ⟨_, hcl, hat⟩ := World.cells?_some hc
      obtain ⟨ys, n', _, _, _, hyl, hfl⟩ := DataW.trod_struct Tryd.underlying23 ht
      have k0 := hfl 0 _ rfl
      have k1 := hfl 1 _ rfl
      match cs', hcl with
      | [u0, u1], _ =>
        match ys, hyl with
        | [y0, y1], _ =>
          have q0 : DataW.trod enc Tryd.prog W base sp hd n' 3 (([u0, u1].drop 0).take (Tryd.prog.cellsOf 3)) = some y0 := k0
          rw [cells3] at q0
          have q0 : DataW.trod enc Tryd.prog W base sp hd n' 3 [u0] = some y0 := q0
          have q1 : DataW.trod enc Tryd.prog W base sp hd n' 3 (([u0, u1].drop 1).take (Tryd.prog.cellsOf 3)) = some y1 := k1
          rw [cells3] at q1
          have q1 : DataW.trod enc Tryd.prog W base sp hd n' 3 [u1] = some y1 := q1
          obtain ⟨z0, e0, _⟩ := DataW.trod_int Tryd.underlying3 q0
          obtain ⟨z1, e1, _⟩ := DataW.trod_int Tryd.underlying3 q1
          have c0 := hat 0 (by omega)
          have c1 := hat 1 (by omega)
          rw [Go.Deep.add_add] at c0 c1
          injection e0 with e0
          injection e1 with e1
          subst e0
          subst e1
          exact ⟨⟨z0, z1⟩, c0, c1⟩
    obtain ⟨L, hL, hQ⟩ := list_of_lt len key
    refine ⟨L, hL, hl, hL, by omega, fun _ => ⟨ad, rfl, fun j q hj => ?_⟩⟩
    obtain ⟨c0, c1⟩ := hQ j q hj
    refine ⟨[.int .i64 q.f0, .int .i64 q.f1], rfl, k23_mk _ _, fun i u hu => ?_⟩
    have hs : k23.sz = 2 := rfl
    rw [hs]
    rcases i with _ | _ | i
    · have : u = .int .i64 q.f0 := by simpa using hu.symm
      rw [this]; exact c0
    · have : u = .int .i64 q.f1 := by simpa using hu.symm
      rw [this]; exact c1
    · simp at hu
end Go.Proofs.YtpjnlbippcgnoaaDoor
