/-
  bent: readings in which one thing is changed: some readings, at most one more, in memory of the call's own.
-/
import Derived.Test.YtpjnlbippcgnoaaDoorStp
import Derived.BigRegion
namespace Go.Proofs.YtpjnlbippcgnoaaDoor
open Go.RowKit Go.Proofs.YtpjnlbippcgnoaaDoorW.PrintWords PElementAnswers

/-- a row of n readings of the call's own -/
def RowI (w : World) (B : Nat) (v : Value) (n : Nat) : Prop := ∃ zs : List Int, w.ownsRow B 23 2 v n (zs.map (Value.int .i64))

theorem two_at {cs : List Value} {j : Nat} (h : j * 2 + 1 < cs.length) : (cs.drop (j * 2)).take 2 = [cs[j * 2], cs[j * 2 + 1]] := by
  rw [List.drop_eq_getElem_cons (by omega), List.drop_eq_getElem_cons (by omega)]
  rfl
theorem rowI_of {w : World} {B : Nat} {ok : Nat → Prop} {v : Value} {L : List S23} (h : Kd.R k23 23 w B ok v L) : RowI w B v L.length := by
  obtain ⟨_, inner, ho, hl, hr⟩ := h
  have hl' : inner.length = L.length * 2 := hl
  have key : ∀ u ∈ inner, ∃ z, u = .int .i64 z := by
    intro u hu
    obtain ⟨i, hi, rfl⟩ := List.getElem_of_mem hu
    have hj : i / 2 < L.length := by omega
    have hm := hr (i / 2) _ (List.getElem?_eq_getElem hj)
    have hc := k23_openM hm
    have hs : k23.sz = 2 := rfl
    rw [hs, two_at (by omega)] at hc
    simp only [List.cons.injEq, and_true] at hc
    rcases (by omega : i = i / 2 * 2 ∨ i = i / 2 * 2 + 1) with e | e
    · exact ⟨_, by rw [← hc.1]; congr 1⟩
    · exact ⟨_, by rw [← hc.2]; congr 1⟩
  refine ⟨inner.map (fun u => match u with | .int _ z => z | _ => 0), ?_⟩
  have e : (inner.map (fun u => match u with | .int _ z => z | _ => 0)).map (Value.int .i64) = inner := by
    rw [List.map_map]
    conv => rhs; rw [← List.map_id inner]
    refine List.map_congr_left fun u hu => ?_
    obtain ⟨z, rfl⟩ := key u hu
    rfl
  rw [e]
  exact ho
theorem rowI_to {w : World} {B : Nat} {v : Value} {n : Nat} (h : RowI w B v n) : ∃ L : List S23, L.length = n ∧ Kd.R k23 23 w B (fun _ => True) v L := by
  obtain ⟨zs, ho⟩ := h
  have hl : zs.length = n * 2 := by have := ho.1; simpa using this
  refine ⟨(List.range n).map fun i => ⟨zs.getD (i * 2) 0, zs.getD (i * 2 + 1) 0⟩, by simp, fun _ _ => trivial, zs.map (Value.int .i64), ?_, ?_, ?_⟩
  · rw [List.length_map, List.length_range]
    exact ho
  · have hs : k23.sz = 2 := rfl
    rw [hs]
    simp [hl]
  · intro j p hp
    have hj : j < n := by have := (List.getElem?_eq_some_iff.1 hp).1; simpa using this
    have hs : k23.sz = 2 := rfl
    rw [hs, two_at (by simp; omega)]
    simp only [List.getElem?_map, List.getElem?_range hj, Option.map_some, Option.some.injEq] at hp
    subst hp
    have e1 : zs.getD (j * 2) 0 = zs[j * 2]'(by omega) := by rw [List.getD_eq_getElem?_getD, List.getElem?_eq_getElem (by omega)]; rfl
    have e2 : zs.getD (j * 2 + 1) 0 = zs[j * 2 + 1]'(by omega) := by rw [List.getD_eq_getElem?_getD, List.getElem?_eq_getElem (by omega)]; rfl
    simp only [List.getElem_map, e1, e2]
    exact k23_mkM _ _ _ _
theorem RowI.form {w : World} {B : Nat} {v : Value} {n : Nat} (h : RowI w B v n) (hn : 0 < n) :
    ∃ g c, v = .slice (some ⟨g, 0, none⟩) n c ∧ B ≤ g ∧ g < w.heap.size ∧ n ≤ c ∧ (∀ j, j < n * 2 → (∃ z, w.cell? ⟨g, j, none⟩ = some (.int .i64 z)) ∧ w.frozen? ⟨g, j, none⟩ = false) := by
  obtain ⟨zs, ho⟩ := h
  obtain ⟨g, c, rfl, hb, hl⟩ := ho.form hn
  refine ⟨g, c, rfl, hb, hl, ?_, fun j hj => ⟨?_, ho.frozenAt j⟩⟩
  · rcases ho.2 with ⟨h', _⟩ | ⟨g', c', cur, h', _, _, hc, _⟩
    · cases h'
    · simp only [Value.slice.injEq] at h'
      omega
  · have hz : zs.length = n * 2 := by have := ho.1; simpa using this
    rw [ho.cellAt j hj]
    exact ⟨zs[j]'(by omega), by rw [List.getElem?_map, List.getElem?_eq_getElem (by omega)]; rfl⟩
theorem RowI.stored {w : World} {B g n c : Nat} (h : RowI w B (.slice (some ⟨g, 0, none⟩) n c) n) (j : Nat) (z : Int) : RowI (w.setCell ⟨g, j, none⟩ (.int .i64 z)) B (.slice (some ⟨g, 0, none⟩) n c) n := by
  obtain ⟨zs, ho⟩ := h
  refine ⟨zs.set j z, ?_⟩
  have := (ho.stored j (.int .i64 z)).1
  rwa [List.map_set]
theorem RowI.keep {W w w' : World} {B g n : Nat} {l : List Int} {k : Int} {v : Value} (h : RowI w B v n) (hI : IsS62 W w g l k) (hk : KeepBut w w' g none) : RowI w' B v n := by
  obtain ⟨zs, ho⟩ := h
  refine ⟨zs, own_move ho fun b hb => ?_⟩
  obtain ⟨cells, hc⟩ := own_typed ho b hb
  obtain ⟨A0, c0, hI', _⟩ := hI
  refine hk.2 b (blk_lt hc) ?_ (by simp)
  rintro rfl
  rw [hI'] at hc
  injection hc with hc
  injection hc with _ hc
  cases hc
theorem RowI.below {w w' : World} {B n : Nat} {v : Value} (h : RowI w B v n) (hb : Below w.heap.size w w') : RowI w' B v n := by
  obtain ⟨zs, ho⟩ := h
  refine ⟨zs, own_move ho fun b hb' => ?_⟩
  obtain ⟨cells, hc⟩ := own_typed ho b hb'
  exact hb.block b (blk_lt hc)

/-- what bent leaves -/
def BentIs (W w : World) (g : Nat) (l : List Int) (n : Nat) (e : Ending) (w' : World) : Prop :=
  ∃ (v : Value) (m : Nat) (k : Int), e = .returned v ∧ m ≤ n + 1 ∧ RowI w' w.heap.size v m ∧ IsS62 W w' g l k ∧ StOK l k ∧ Below W.heap.size W w' ∧ KeepBut w w' g none

/-- behind some steps of bent: the reader is there, what lay below is as it was -/
def Bd (W w : World) (g : Nat) (l : List Int) (k : Int) (w' : World) : Prop := IsS62 W w' g l k ∧ Below W.heap.size W w' ∧ KeepBut w w' g none ∧ StOK l k
theorem Bd.low {W w w1 w2 : World} {g : Nat} {l : List Int} {k : Int} (h : Bd W w g l k w1) (hb : Below w.heap.size w1 w2) (hg : g < w.heap.size) (hW : W.heap.size ≤ w.heap.size) : Bd W w g l k w2 := by
  obtain ⟨⟨A0, c0, h1, h2, h3⟩, hB, hk, hs⟩ := h
  exact ⟨⟨A0, c0, (hb.block g hg).trans h1, h2, h3⟩, hB.trans (hb.mono hW), ⟨Nat.le_trans hk.1 hb.size, fun i hi hn hr => (hb.block i hi).trans (hk.2 i hi hn hr)⟩, hs⟩
theorem Bd.call {W w w1 w2 : World} {g : Nat} {l : List Int} {k k2 : Int} (h : Bd W w g l k w1) (hi : IsS62 W w2 g l k2) (hb : Below W.heap.size W w2) (hk : KeepBut w1 w2 g none) (hs : StOK l k2) : Bd W w g l k2 w2 :=
  ⟨hi, hb, KeepBut.trans h.2.2.1 hk (.inl rfl), hs⟩
theorem Bd.is {W w w1 : World} {g : Nat} {l : List Int} {k : Int} {n m : Nat} {v : Value} (h : Bd W w g l k w1) (hr : RowI w1 w.heap.size v m) (hm : m ≤ n + 1) : BentIs W w g l n (.returned v) w1 :=
  ⟨v, m, k, rfl, hm, hr, h.1, h.2.2.2, h.2.1, h.2.2.1⟩
theorem litC (w : World) (l : List Int) (hl : l.length ≤ 1000) : Kd.C (Kd.int .i64) (w.alloc (.cells (l.map (Value.int .i64)).toArray 3)) (some ⟨w.heap.size, 0, none⟩) l.length l := by
  have hB : Blk (w.alloc (.cells (l.map (Value.int .i64)).toArray 3)) w.heap.size (l.map (Value.int .i64)).toArray := Blk.new _ _ _
  refine ⟨rfl, by omega, fun _ => ⟨_, rfl, fun j p hj => ⟨[.int .i64 p], rfl, rfl, fun i u hu => ?_⟩⟩⟩
  have hi : i = 0 := by
    have := (List.getElem?_eq_some_iff.1 hu).1
    simp at this
    exact this
  subst hi
  have hu' : u = .int .i64 p := by simpa using hu.symm
  subst hu'
  have e1 : (Kd.int .i64).sz = 1 := rfl
  rw [e1, Nat.mul_one, Nat.add_zero, Addr.add_lit, Nat.zero_add, hB.cell j]
  simp [hj]

set_option maxRecDepth 20000 in
set_option maxHeartbeats 8000000 in
theorem bent_any (W w : World) (g : Nat) (l : List Int) (k0 : Int) (A : Option Addr) (L : List S23) (c : Nat) (hI : IsS62 W w g l k0) (hB : Below W.heap.size W w) (hS : StOK l k0) (hC : Kd.C k23 w A L.length L) (hL : L.length ≤ 60) :
    Calls Tryd.prog 24 #[.pointer (some ⟨g, 0, none⟩), .slice A L.length c] w (BentIs W w g l L.length) := by
  have hgl := IsS62.lt hI
  have hWl := hB.size
  have HS := Lib.hid hS
  have HBd := Lib.hid (show Bd W w g l k0 w from ⟨hI, hB, KeepBut.refl _ _ _, hS⟩)
  have hb0 := (Below.refl w.heap.size w).alloc (Nat.le_refl _) (.cells #[] 23)
  have HC := Lib.hid (Kd.C_below hC hb0)
  have HLIT := Lib.hid (litR w w _ (Nat.le_refl _) rfl)
  have HB0 := Lib.hid hb0
  clear hI hB hS hC hb0
  obtain ⟨n, hn⟩ : ∃ n : Nat, n = L.length := ⟨_, rfl⟩
  rw [← hn] at hL HC ⊢
  have HN := Lib.hid hn
  clear hn
  rcases Nat.eq_zero_or_pos n with h0 | h0
  · subst h0
    go_enter Tryd.func24, Tryd.ntmps24
    go_wp2_with ((at_builtin; refine Kd.R_append_rows k23 (w0 := w) w.heap.size rfl (.tmp 7) (.tmp 8) 45 23 (.agg #[(.int .i64 0), (.int .i64 0)]) 16 rfl Tryd.underlying45 info23 rfl (by decide) (by omega) (.slice (some ⟨w.heap.size, 0, none⟩) 0 0) [] L _ _ _ (fun _ => True) (fun _ => False) rfl rfl HLIT.out HC.out (fun _ _ h => h) (fun _ h => h.elim) (fun _ _ => trivial) HB0.out HB0.out.size (by simp <;> omega) ?_; intro v5 w5 hr5 hb5 _ _; have hri := rowI_of hr5; rw [List.nil_append, ← HN.out] at hri; obtain ⟨A5, c5, h5⟩ := Kd.R_slice hr5; rw [List.nil_append, ← HN.out] at h5; subst h5; have HR5 := Lib.hid hri; have HB5 := Lib.hid hb5; clear hr5 hb5 hri))
    have HB6 := Lib.hid (HBd.out.low HB5.out hgl hWl)
    obtain ⟨q, k1, e1, q0, q1, hs1⟩ := range_p (lo := -1) (hi := 13) HS.out (by omega) (by omega) (by omega)
    have HE1 := Lib.hid e1
    have HS1 := Lib.hid hs1
    clear e1 hs1
    refine (synoptickeep_Src_Range.calls g l k0 _ _ q k1 W _ HB6.out.1 HB6.out.2.1 HE1.out).mono ?_
    rintro e w6 ⟨rfl, hi, hb, hk⟩
    have HR6 := Lib.hid (HR5.out.keep HB6.out.1 hk)
    have HB7 := Lib.hid (HB6.out.call hi hb hk HS1.out)
    clear hi hb hk HR5 HB6
    obtain ⟨q2, k2, e2, q20, q21, hs2⟩ := n_p (n := 12000) HS1.out (by omega) (by omega)
    have HE2 := Lib.hid e2
    have HS2 := Lib.hid hs2
    clear e2 hs2
    go_wp2_with fail
    refine (synoptickeep_Src_N.calls g l k1 _ q2 k2 W _ HB7.out.1 HB7.out.2.1 HE2.out).mono ?_
    rintro e w7 ⟨rfl, hi, hb, hk⟩
    have hR7 := HR6.out.keep HB7.out.1 hk
    have HB8 := Lib.hid (HB7.out.call hi hb hk HS2.out)
    obtain ⟨L5, hl5, hr5⟩ := rowI_to hR7
    have HL5 := Lib.hid hl5
    have HR7 := Lib.hid hr5
    clear hi hb hk HB7 HR6 hR7 hl5 hr5
    have hsz := HB8.out.2.2.1.1
    go_wp2_with ((at_builtin; refine Kd.R_append k23 (w0 := w7) w.heap.size rfl (.tmp 13) (.tmp 19) 45 23 (.agg #[(.int .i64 0), (.int .i64 0)]) 16 rfl Tryd.underlying45 info23 rfl (by decide) (by omega) (.slice A5 0 c5) L5 (⟨q, q2⟩ : S23) [.int .i64 q, .int .i64 q2] (fun _ => True) (fun _ => False) rfl rfl (k23_mkM _ _ _ (⟨q, q2⟩ : S23)) (fun _ hk => hk.elim) (fun _ _ => trivial) HR7.out (Below.refl _ _) hsz (by rw [HL5.out]; omega) ?_; intro v8 w8 hr8 hb8 _ _; have HR8 := Lib.hid (rowI_of hr8); have HB9 := Lib.hid (HB8.out.low hb8 hgl hWl); have hll : (L5 ++ [(⟨q, q2⟩ : S23)]).length ≤ 0 + 1 := (by rw [List.length_append, HL5.out]; simp); clear hr8 hb8))
    go_ret
    exact HB9.out.is HR8.out hll
  · have hz : ((n : Int) == 0) = false := by rw [beq_eq_false_iff_ne]; omega
    go_enter Tryd.func24, Tryd.ntmps24
    go_wp2_with ((at_builtin; refine Kd.R_append_rows k23 (w0 := w) w.heap.size rfl (.tmp 7) (.tmp 8) 45 23 (.agg #[(.int .i64 0), (.int .i64 0)]) 16 rfl Tryd.underlying45 info23 rfl (by decide) (by omega) (.slice (some ⟨w.heap.size, 0, none⟩) 0 0) [] L _ _ _ (fun _ => True) (fun _ => False) rfl rfl HLIT.out HC.out (fun _ _ h => h) (fun _ h => h.elim) (fun _ _ => trivial) HB0.out HB0.out.size (by simp <;> omega) ?_; intro v5 w5 hr5 hb5 _ _; have hri := rowI_of hr5; rw [List.nil_append, ← HN.out] at hri; obtain ⟨A5, c5, h5⟩ := Kd.R_slice hr5; rw [List.nil_append, ← HN.out] at h5; subst h5; have HR5 := Lib.hid hri; have HB5 := Lib.hid hb5; clear hr5 hb5 hri))
    have HB6 := Lib.hid (HBd.out.low HB5.out hgl hWl)
    obtain ⟨g5, c5', h5, hg5, _, hnc, _⟩ := HR5.out.form h0
    cases h5
    obtain ⟨q, k1, e1, q0, q1, hs1⟩ := n_p (n := (n : Int)) HS.out (by omega) (by omega)
    obtain ⟨i, rfl⟩ := Int.eq_ofNat_of_zero_le q0
    have HE1 := Lib.hid e1
    have HS1 := Lib.hid hs1
    clear e1 hs1
    refine (synoptickeep_Src_N.calls g l k0 _ _ k1 W _ HB6.out.1 HB6.out.2.1 HE1.out).mono ?_
    rintro e w6 ⟨rfl, hi, hb, hk⟩
    have HR6 := Lib.hid (HR5.out.keep HB6.out.1 hk)
    have HB7 := Lib.hid (HB6.out.call hi hb hk HS1.out)
    clear hi hb hk HR5 HB6 HB5 HBd HLIT HC HB0
    obtain ⟨s, k2, e2, s0, s1, hs2⟩ := n_p (n := 4) HS1.out (by omega) (by omega)
    have HE2 := Lib.hid e2
    have HS2 := Lib.hid hs2
    clear e2 hs2
    go_wp2_with fail
    refine (synoptickeep_Src_N.calls g l k1 _ s k2 W _ HB7.out.1 HB7.out.2.1 HE2.out).mono ?_
    rintro e w7 ⟨rfl, hi, hb, hk⟩
    have HR7 := Lib.hid (HR6.out.keep HB7.out.1 hk)
    have HB8 := Lib.hid (HB7.out.call hi hb hk HS2.out)
    clear hi hb hk HR6 HB7 HE1 HE2
    have hsz := HB8.out.2.2.1.1
    have q1' : i < n := by omega
    rcases (by omega : s = 0 ∨ s = 1 ∨ s = 2 ∨ s = 3) with rfl | rfl | rfl | rfl
    · obtain ⟨z, k3, e3, z0, z1, hs3⟩ := range_p (lo := -1) (hi := 13) HS2.out (by omega) (by omega) (by omega)
      have HE3 := Lib.hid e3
      have HS3 := Lib.hid hs3
      clear e3 hs3
      go_wp2_with fail
      refine (synoptickeep_Src_Range.calls g l k2 _ _ z k3 W _ HB8.out.1 HB8.out.2.1 HE3.out).mono ?_
      rintro e w8 ⟨rfl, hi, hb, hk⟩
      have HR8 := Lib.hid (HR7.out.keep HB8.out.1 hk)
      have HB9 := Lib.hid (HB8.out.call hi hb hk HS3.out)
      clear hi hb hk HR7 HB8 HE3
      obtain ⟨_, _, h5, _, hl8, _, hcell⟩ := HR8.out.form h0
      cases h5
      obtain ⟨⟨y0, hy0⟩, hf0⟩ := hcell (i * 2) (by omega)
      clear hcell
      go_wp2_with fail
      go_ret
      exact (HB9.out.low ((Below.refl _ _).setCell (p := ⟨g5, i * 2, none⟩) hg5 _) hgl hWl).is (HR8.out.stored _ _) (by omega)
    · obtain ⟨z, k3, e3, _, hs3⟩ := pick_p (c := [-1001, -1000, 0, 1000, 1001, 11000, 11001]) HS2.out (by simp) (by simp)
      have HE3 := Lib.hid e3
      have HS3 := Lib.hid hs3
      have HLC := Lib.hid (litC w7 [-1001, -1000, 0, 1000, 1001, 11000, 11001] (by simp))
      have hba := (Below.refl w.heap.size w7).alloc hsz (.cells #[.int .i64 (-1001), .int .i64 (-1000), .int .i64 0, .int .i64 1000, .int .i64 1001, .int .i64 11000, .int .i64 11001] 3)
      have HB8' := Lib.hid (HB8.out.low hba hgl hWl)
      have HR7' := Lib.hid (HR7.out.below ((Below.refl w7.heap.size w7).alloc (Nat.le_refl _) (.cells #[.int .i64 (-1001), .int .i64 (-1000), .int .i64 0, .int .i64 1000, .int .i64 1001, .int .i64 11000, .int .i64 11001] 3)))
      clear e3 hs3 hba
      go_wp2_with fail
      refine (synoptickeep_Src_Pick.calls g l k2 (some ⟨w7.heap.size, 0, none⟩) 7 [-1001, -1000, 0, 1000, 1001, 11000, 11001] z k3 W _ HB8'.out.1 HB8'.out.2.1 HLC.out (by simp) (fun ad h _ => by cases h; show w7.heap.size ≠ g; omega) HE3.out).mono ?_
      rintro e w8 ⟨rfl, hi, hb, hk⟩
      have HR8 := Lib.hid (HR7'.out.keep HB8'.out.1 hk)
      have HB9 := Lib.hid (HB8'.out.call hi hb hk HS3.out)
      clear hi hb hk HR7 HB8 HE3 HR7' HB8' HLC
      obtain ⟨_, _, h5, _, hl8, _, hcell⟩ := HR8.out.form h0
      cases h5
      obtain ⟨⟨y0, hy0⟩, hf0⟩ := hcell (i * 2 + 1) (by omega)
      clear hcell
      go_wp2_with fail
      go_ret
      exact (HB9.out.low ((Below.refl _ _).setCell (p := ⟨g5, i * 2 + 1, none⟩) hg5 _) hgl hWl).is (HR8.out.stored _ _) (by omega)
    · obtain ⟨_, _, h5, _, hl8, _, hcell⟩ := HR7.out.form h0
      cases h5
      obtain ⟨⟨y0, hy0⟩, _⟩ := hcell (i * 2) (by omega)
      obtain ⟨⟨y1, hy1⟩, _⟩ := hcell (i * 2 + 1) (by omega)
      obtain ⟨L5, hl5, hr5⟩ := rowI_to HR7.out
      have HL5 := Lib.hid hl5
      have HR5 := Lib.hid hr5
      clear hcell hl5 hr5
      go_wp2_with ((at_builtin; refine Kd.R_append k23 (w0 := w7) w.heap.size rfl (.tmp 58) (.tmp 63) 45 23 (.agg #[(.int .i64 0), (.int .i64 0)]) 16 rfl Tryd.underlying45 info23 rfl (by decide) (by omega) (.slice (some ⟨g5, 0, none⟩) n c5) L5 (⟨y0, y1⟩ : S23) [.int .i64 y0, .int .i64 y1] (fun _ => True) (fun _ => False) rfl rfl (k23_mkM _ _ _ (⟨y0, y1⟩ : S23)) (fun _ hk => hk.elim) (fun _ _ => trivial) HR5.out (Below.refl _ _) hsz (by rw [HL5.out]; omega) ?_; intro v8 w8 hr8 hb8 _ _; have HR8 := Lib.hid (rowI_of hr8); have HB9 := Lib.hid (HB8.out.low hb8 hgl hWl); have hll : (L5 ++ [(⟨y0, y1⟩ : S23)]).length ≤ n + 1 := (by rw [List.length_append, HL5.out]; simp); clear hr8 hb8))
      go_ret
      exact HB9.out.is HR8.out hll
    · obtain ⟨_, _, h5, _, hl8, _, hcell⟩ := HR7.out.form h0
      cases h5
      obtain ⟨⟨y0, hy0⟩, hf0⟩ := hcell (i * 2) (by omega)
      obtain ⟨⟨y1, hy1⟩, hf1⟩ := hcell (i * 2 + 1) (by omega)
      obtain ⟨⟨x0, hx0⟩, hg0⟩ := hcell 0 (by omega)
      obtain ⟨⟨x1, hx1⟩, hg1⟩ := hcell 1 (by omega)
      clear hcell
      rcases Nat.eq_zero_or_pos i with hi0 | hi0
      · subst hi0
        have n0 : (0 : Int) < (n : Int) := by omega
        go_wp2_with fail
        go_region
        go_wp2
        go_ret
        refine Bd.is (k := k2) (HB8.out.low (Below.drew ?_) hgl hWl) (n := n) (m := n) ?_ (by omega)
        · exact ((((Below.refl _ _).setCell (p := ⟨g5, 0, none⟩) hg5 _).setCell (p := ⟨g5, 1, none⟩) hg5 _).setCell (p := ⟨g5, 0, none⟩) hg5 _).setCell (p := ⟨g5, 1, none⟩) hg5 _
        · exact (((HR7.out.stored 0 _).stored 1 _).stored 0 _).stored 1 _
      · have n0 : (0 : Int) < (n : Int) := by omega
        have i0 : (0 : Int) ≤ (i : Int) := by omega
        have i1 : (i : Int) < (n : Int) := by omega
        have d0 : ¬ i * 2 = 0 := by omega
        have d1 : ¬ 0 = i * 2 := by omega
        have d2 : ¬ i * 2 = 1 := by omega
        have d3 : ¬ 1 = i * 2 := by omega
        have d4 : ¬ i * 2 + 1 = 0 := by omega
        have d5 : ¬ i = 0 := by omega
        go_wp2_with fail
        go_region
        go_wp2
        go_ret
        refine Bd.is (k := k2) (HB8.out.low (Below.drew ?_) hgl hWl) (n := n) (m := n) ?_ (by omega)
        · exact ((((Below.refl _ _).setCell (p := ⟨g5, i * 2, none⟩) hg5 _).setCell (p := ⟨g5, i * 2 + 1, none⟩) hg5 _).setCell (p := ⟨g5, 0, none⟩) hg5 _).setCell (p := ⟨g5, 1, none⟩) hg5 _
        · exact (((HR7.out.stored (i * 2) _).stored (i * 2 + 1) _).stored 0 _).stored 1 _
end Go.Proofs.YtpjnlbippcgnoaaDoor
