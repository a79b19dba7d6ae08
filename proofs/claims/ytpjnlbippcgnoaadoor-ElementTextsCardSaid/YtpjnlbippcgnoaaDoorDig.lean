/-
  The reference's Digits returns the last digits of a number as a string.
-/
import Derived.Test.YtpjnlbippcgnoaaDoorTxt
import Derived.Test.YtpjnlbippcgnoaaDoorTool
namespace Go.Proofs.YtpjnlbippcgnoaaDoor
open Go.RowKit Txt

/-- a list of bytes as a string -/
abbrev S (l : List UInt8) : ByteArray := ⟨l.toArray⟩

theorem addr_add (g o j : Nat) : (⟨g, o, none⟩ : Addr).add j = ⟨g, o + j, none⟩ := by
  unfold Addr.add
  split <;> simp_all
theorem S_append (l m : List UInt8) : S l ++ S m = S (l ++ m) := ByteArray.mk_append_mk l m

theorem fold_push (l acc : List UInt8) : (l.map fun c => (c.toNat : Int)).foldl (fun (r : ByteArray) n => r.push (UInt8.ofNat n.toNat)) ⟨acc.toArray⟩ = ⟨(acc ++ l).toArray⟩ := by
  induction l generalizing acc with
  | nil => simp
  | cons c l ih =>
    have e : (ByteArray.mk acc.toArray).push (UInt8.ofNat ((c.toNat : Int)).toNat) = ⟨(acc ++ [c]).toArray⟩ := by
      simp [ByteArray.push]
    rw [List.map_cons, List.foldl_cons, e, ih]
    simp

/-- bytes in memory as a string -/
theorem conv_bytes (W : World) (g o cap : Nat) (l : List UInt8) (h : ∀ j c, l[j]? = some c → W.cell? ⟨g, o + j, none⟩ = some (.int .u8 c.toNat)) :
    (convert 35 9 (.slice (some ⟨g, o, none⟩) l.length cap)).run Tryd.prog W = .ok (.string (S l)) W := by
  rw [run_convert_bytes_string W 35 9 5 _ _ _ Tryd.underlying35 Tryd.underlying5 Tryd.underlying9]
  have hl := run_loadCells_list (P := Tryd.prog) (w := W) ⟨g, o, none⟩ ((l.map fun c => (c.toNat : Int)).map (Value.int .u8)) (fun j v hv => by
    rw [List.getElem?_map, List.getElem?_map] at hv
    rcases hc : l[j]? with _ | c
    · rw [hc] at hv; cases hv
    · rw [hc] at hv
      simp only [Option.map_some, Option.some.injEq] at hv
      rw [← hv, ← h j c hc, addr_add])
  rw [List.length_map, List.length_map] at hl
  rw [run_bytesToString W _ _ _ _ hl]
  exact congrArg (fun s => Result.ok (Value.string s) W) (fold_push l [])

theorem conv_one (q : Int) (wr : World) : (convert 35 9 (.slice (some ⟨wr.heap.size, 0, none⟩) 1 1)).run Tryd.prog (wr.alloc (.cells #[.int .u8 (48 + q % 10)] 5)) = .ok (.string (S [dgt q])) (wr.alloc (.cells #[.int .u8 (48 + q % 10)] 5)) := by
  refine conv_bytes _ _ 0 1 [dgt q] (fun j c hc => ?_)
  match j, hc with
  | 0, hc =>
    simp only [List.getElem?_cons_zero, Option.some.injEq] at hc
    rw [(Blk.new wr 5 _).cell (0 + 0), ← hc, dgt_int]
    rfl

set_option maxHeartbeats 400000 in
theorem rdigits_any (n : Int) (k : Nat) (w : World) (h0 : 0 ≤ n) (h1 : n ≤ 99999) (hk : k ≤ 5) :
    Calls Tryd.prog 38 #[.int .i64 n, .int .i64 k] w fun e w' => e = .returned (.string (S (digs n k))) ∧ Below w.heap.size w w' := by
  go_enter Tryd.func38, Tryd.ntmps38
  go_wp2
  go_loopw [0, 5, 6] (fun m s i wr => ∃ (j : Nat) (q : Int) (t : List UInt8), j ≤ k ∧ i = .int .i64 j ∧ 0 ≤ q ∧ q ≤ 99999 ∧ m = .int .i64 q ∧ s = .string (S t) ∧ t.length = j ∧ digs n k = digs q (k - j) ++ t ∧ Below w.heap.size w wr) (fun _ _ i _ => k - (intOf i).toNat)
  case atStart => exact ⟨0, n, [], Nat.zero_le _, rfl, h0, h1, rfl, rfl, rfl, by simp, Below.refl _ _⟩
  case round =>
    obtain ⟨j, q, t, hj, rfl, q0, q1, rfl, rfl, ht, hd, hb⟩ := hrel
    have HD := Lib.hid hd
    have HT := Lib.hid ht
    clear hd ht
    by_cases hlt : j < k
    · have hconv := conv_one q wr
      have hl : t.length ≤ 4 := by have := HT.out; omega
      go_wp2
      go_roundw
      case rel =>
        have e : k - j = (k - (j + 1)) + 1 := by omega
        exact ⟨j + 1, q / 10, dgt q :: t, by omega, by go_num, by omega, by omega, rfl, by rw [S_append]; rfl, by rw [List.length_cons, HT.out], by rw [HD.out, e]; simp [digs], hb.alloc hb.size _⟩
      case measure => simp [intOf]; omega
    · go_wp2
      go_ret
      have e : k - j = 0 := by omega
      exact ⟨by rw [HD.out, e]; rfl, hb⟩

/-- a byte as a value -/
abbrev B (c : UInt8) : Value := .int .u8 c.toNat
/-- the block g is a row of just these bytes, none of which is marked -/
def Row8 (w : World) (g : Nat) (l : List UInt8) : Prop := ∃ lo hi, w.heap[g]? = some (.cells (l.map B).toArray 5 (lo, hi)) ∧ l.length ≤ lo
section
variable {w w' : World} {g : Nat} {l : List UInt8}
theorem Row8.lt (h : Row8 w g l) : g < w.heap.size := by
  obtain ⟨lo, hi, h, _⟩ := h
  rcases Nat.lt_or_ge g w.heap.size with k | k
  · exact k
  · rw [Array.getElem?_eq_none k] at h; cases h
theorem Row8.cell (h : Row8 w g l) (i : Nat) (c : UInt8) (hc : l[i]? = some c) : w.cell? ⟨g, i, none⟩ = some (.int .u8 c.toNat) := by
  obtain ⟨lo, hi, h, _⟩ := h
  rw [cell_of_row w g i _ 5 (lo, hi) h]
  simp [hc]
theorem Row8.frozen (h : Row8 w g l) (i : Nat) (hl : i < l.length) : w.frozen? ⟨g, i, none⟩ = false := by
  obtain ⟨lo, hi, h, hlo⟩ := h
  simp [World.frozen?, h]
  omega
theorem Row8.put (h : Row8 w g l) (i : Nat) (c : UInt8) : Row8 (w.setCell ⟨g, i, none⟩ (.int .u8 c.toNat)) g (l.set i c) := by
  obtain ⟨lo, hi, h, hlo⟩ := h
  refine ⟨lo, hi, ?_, by simpa using hlo⟩
  simp [World.setCell, Array.getElem?_modify, h, List.map_set]
theorem Row8.below {B : Nat} (h : Row8 w g l) (hb : Below B w w') (hg : g < B) : Row8 w' g l := by
  obtain ⟨lo, hi, h, hlo⟩ := h
  exact ⟨lo, hi, (hb.block g hg).trans h, hlo⟩
theorem Row8.drewN (h : Row8 w g l) (n : Nat) : Row8 (w.drewN n) g l := h
end
end Go.Proofs.YtpjnlbippcgnoaaDoor
