/-
  The walk of ClockTexts: it returns true for any arguments.
-/
import Derived.Test.YtnfdpjckdiifkaaAwake
import Derived.Test.YtnfdpjckdiifkaaRparse
import Derived.Test.YtnfdpjckdiifkaaSrc
import Derived.Test.YtnfdpjckdiifkaaTool
import Derived.Lib.ConvBytes
import Derived.Laws.BitsAllLaws
namespace Go.Proofs.Ytnfdpjckdiifkaa
open Go.RowKit Txt Cal

/-- each minute has a date -/
theorem mnt_has_nat : ∀ n : Nat, n ≤ 52595999 → ∃ y m d h i : Int, vld y m d h i = true ∧ mnt y m d h i = n
  | 0, _ => ⟨2000, 1, 1, 0, 0, by decide, by decide⟩
  | n + 1, hn => by
    obtain ⟨y, m, d, h, i, hv, hm⟩ := mnt_has_nat n (by omega)
    have := mnt_next hv (by omega)
    exact ⟨_, _, _, _, _, this.1, this.2.trans (by omega)⟩
theorem mnt_has {n : Int} (h0 : 0 ≤ n) (h1 : n ≤ 52595999) : ∃ y m d h i : Int, vld y m d h i = true ∧ mnt y m d h i = n := by
  obtain ⟨k, rfl⟩ := Int.eq_ofNat_of_zero_le h0
  exact mnt_has_nat k (by omega)
theorem rformat_at {n y m d h i : Int} (hv : vld y m d h i = true) (hm : mnt y m d h i = n) (w : World) :
    Calls Try.prog 29 #[.int .i64 n] w fun e w' => e = .returned (.tuple #[.string (S (txt y m d h i)), .int .i64 0]) ∧ Below w.heap.size w w' := by
  have hn : inB n = true := by have := mnt_bd hv; simp [inB]; omega
  refine (rformat_ok n w hn).mono ?_
  rintro e w' ⟨y', m', d', h', i', rfl, hv', hm', hb⟩
  obtain ⟨rfl, rfl, rfl, rfl, rfl⟩ := mnt_inj hv hv' (by omega)
  exact ⟨rfl, hb⟩

/-- what Format and its reference both return -/
theorem formats (n : Int) : ∃ (t : ByteArray) (c : Int), (∀ w, Calls Try.prog 22 #[.int .i64 n] w fun e w' => e = .returned (.tuple #[.string t, .int .i64 c]) ∧ Below w.heap.size w w') ∧
    (∀ w, Calls Try.prog 29 #[.int .i64 n] w fun e w' => e = .returned (.tuple #[.string t, .int .i64 c]) ∧ Below w.heap.size w w') := by
  rcases hn : inB n with _ | _
  · exact ⟨S [], 1, fun w => format_no n w hn, fun w => rformat_no n w hn⟩
  · have hb : 0 ≤ n ∧ n ≤ 52595999 := by simpa [inB] using hn
    obtain ⟨y, m, d, h, i, hv, hm⟩ := mnt_has hb.1 hb.2
    exact ⟨S (txt y m d h i), 0, fun w => format_at hv hm w, fun w => rformat_at hv hm w⟩

/-- bytes of a row, which may have room behind them -/
structure RowB (w : World) (g : Nat) (l : List UInt8) : Prop where
  lt : g < w.heap.size
  cell : ∀ j c, l[j]? = some c → w.cell? ⟨g, j, none⟩ = some (B c)
  frozen : ∀ j, j < l.length → w.frozen? ⟨g, j, none⟩ = false

theorem rowB_bytes (w : World) (l : List UInt8) : RowB (Lib.bytesWorld w 5 (S l)) w.heap.size l := by
  have hn := Lib.bytesWorld_at_new w 5 (S l)
  refine ⟨by rw [Lib.bytesWorld_size]; omega, ?_, ?_⟩
  · intro j c hc
    have hj : j < l.length := by
      rcases Nat.lt_or_ge j l.length with q | q
      · exact q
      · rw [List.getElem?_eq_none q] at hc; cases hc
    rw [Lib.bytesWorld_cell w 5 (S l) j (show j < l.toArray.size by simpa using hj)]
    simp [List.getD, hc]
  · intro j hj
    simp only [World.frozen?, hn]
    simp [Lib.bytesCells]
    omega
theorem below_bytes {B : Nat} {w0 w : World} (h : Below B w0 w) (hB : B ≤ w.heap.size) (l : List UInt8) : Below B w0 (Lib.bytesWorld w 5 (S l)) :=
  h.trans ⟨rfl, rfl, rfl, by rw [Lib.bytesWorld_size]; omega, fun k hk => Lib.bytesWorld_at_old w 5 (S l) k (by omega)⟩

/-- what is in the row behind a store -/
theorem rowB_set {w : World} {g : Nat} {l : List UInt8} (h : RowB w g l) (p : Nat) (hp : p < l.length) (z : Int) (z0 : 0 ≤ z) (z1 : z < 256) :
    ∃ l' : List UInt8, l'.length = l.length ∧ RowB (w.setCell ⟨g, p, none⟩ (.int .u8 z)) g l' := by
  have hz : (Value.int .u8 z) = B (UInt8.ofNat z.toNat) := by
    have : (UInt8.ofNat z.toNat).toNat = z.toNat := by rw [UInt8.toNat_ofNat']; omega
    simp [this]; omega
  refine ⟨l.set p (UInt8.ofNat z.toNat), by simp, ⟨by simpa using h.lt, ?_, ?_⟩⟩
  · intro j c hc
    rw [hz]
    by_cases e : p = j
    · subst e
      rw [List.getElem?_set_self hp] at hc
      injection hc with hc
      have hx := h.cell p l[p] (List.getElem?_eq_getElem hp)
      rw [World.cell?_setCell_same _ _ _ hx, hc]
    · rw [List.getElem?_set_ne e] at hc
      rw [World.cell?_setCell_other _ _ _ _ (by intro q; injection q with q1 q2; exact e q2)]
      exact h.cell j c hc
  · intro j hj
    have := h.frozen j (by simpa using hj)
    simpa [go_sem] using this

set_option maxRecDepth 20000 in
set_option maxHeartbeats 4000000 in
theorem clockTexts_walk (w : World) (n : Int) (text : ByteArray) (A : Option Addr) (len c : Nat) (at_ by_ : Int) (hS : SliceIn w A len c) (hy0 : 0 ≤ by_) (hy1 : by_ < 256) :
    Calls Try.prog 7 #[.int .i64 n, .string text, .slice A len c, .int .i64 at_, .int .u8 by_] w fun e w' => e = .returned (.bool true) ∧ Below w.heap.size w w' := by
  rcases Nat.lt_or_ge 100 text.size with ht | ht
  · have ht' : (100 : Int) < (text.size : Int) := by omega
    go_enter Try.func7, Try.ntmps7
    go_wp2_with ((go_at_call 21; refine (awake_any _).mono ?_; rintro e w1 ⟨rfl, hb1⟩))
    go_ret
    exact ⟨rfl, hb1⟩
  have ht' : ¬ (100 : Int) < (text.size : Int) := by omega
  obtain ⟨t0, c0, hf, hr⟩ := formats n
  have HF := Lib.hid hf
  have HR := Lib.hid hr
  clear hf hr
  go_enter Try.func7, Try.ntmps7
  go_wp2_with fail
  refine (new_any _ _ _ _ hS).mono ?_
  rintro e w1 ⟨rfl, hs1, hb1⟩
  have HS1 := Lib.hid hs1
  clear hs1 hS hb1 ht'
  go_wp2_with fail
  refine (HF.out _).mono ?_
  rintro e w2 ⟨rfl, hb2⟩
  have HS2 := Lib.hid (HS1.out.below hb2)
  clear hb2
  go_wp2_with fail
  refine (HR.out _).mono ?_
  rintro e w3 ⟨rfl, hb3⟩
  have HS3 := Lib.hid (HS2.out.below hb3)
  clear hb3
  go_wp2_with fail
  refine (minute_any w _ _ HS3.out).mono ?_
  rintro e w4 ⟨x, ⟨x0, x1⟩, rfl, hs4, hg4⟩
  have HS4 := Lib.hid hs4
  clear hs4 hg4
  obtain ⟨y, m, d, h, i, hv, hm⟩ := mnt_has x0 x1
  have HV := Lib.hid hv
  have HM := Lib.hid hm
  clear hv hm
  go_wp2_with fail
  refine (rformat_at HV.out HM.out _).mono ?_
  rintro e w5 ⟨rfl, hb5⟩
  have hb5' := HS4.out.1.trans (hb5.mono HS4.out.1.size)
  clear hb5
  have HT := Lib.hid (txt_length y m d h i)
  have hsz : (S (txt y m d h i)).size = 16 := by show (txt y m d h i).toArray.size = 16; rw [List.size_toArray]; exact HT.out
  have kb := Lib.run_convert_string_bytes (P := Try.prog) w5 9 48 5 (S (txt y m d h i)) Try.underlying9 Try.underlying48 Try.underlying5
  rw [hsz] at kb
  have HZ := Lib.hid hsz
  clear hsz
  go_wp2_with fail
  have hR6 := rowB_bytes w5 (txt y m d h i)
  have hb6 := below_bytes hb5' hb5'.size (txt y m d h i)
  have hg6 := hb5'.size
  clear kb
  generalize Lib.bytesWorld w5 5 (S (txt y m d h i)) = W6 at hR6 hb6 ⊢
  generalize w5.heap.size = g at hR6 hg6 ⊢
  have HR6 := Lib.hid hR6
  have HB6 := Lib.hid hb6
  clear hR6 hb6 hb5'
  refine (mod_any _ _ _ (by omega) (by omega)).mono ?_
  rintro e w6' ⟨v, ⟨v0, v1⟩, rfl, rfl⟩
  obtain ⟨p, rfl⟩ := Int.eq_ofNat_of_zero_le v0
  have hp : p < (txt y m d h i).length := by have := HT.out; omega
  have hcp := HR6.out.cell p _ (List.getElem?_eq_getElem hp)
  have hfp := HR6.out.frozen p hp
  have hx := u8_xor (((txt y m d h i)[p].toNat : Nat) : Int) by_ (by omega) (by have := (txt y m d h i)[p].toNat_lt; omega) hy0 hy1
  have hz0 : (0 : Int) ≤ bits .xor .u8 ((txt y m d h i)[p].toNat : Int) by_ := by rw [hx]; omega
  have hz1 : bits .xor .u8 ((txt y m d h i)[p].toNat : Int) by_ < 256 := by
    rw [hx]
    have := Nat.xor_lt_two_pow (n := 8) (x := ((((txt y m d h i)[p].toNat : Nat) : Int)).toNat) (y := by_.toNat) (by have := (txt y m d h i)[p].toNat_lt; omega) (by omega)
    omega
  obtain ⟨l', hl', hR7⟩ := rowB_set HR6.out p hp _ hz0 hz1
  have HL := Lib.hid (hl'.trans HT.out)
  have HR7 := Lib.hid hR7
  have kc := conv_bytes (W6.setCell ⟨g, p, none⟩ (.int .u8 (bits .xor .u8 ((txt y m d h i)[p].toNat : Int) by_))) g 0 (grownCap w5 16 0 5) l' (fun j c hc => by rw [Nat.zero_add]; exact HR7.out.cell j c hc)
  rw [HL.out] at kc
  have hbz : Below w.heap.size w (W6.setCell ⟨g, p, none⟩ (.int .u8 (bits .xor .u8 ((txt y m d h i)[p].toNat : Int) by_))) := HB6.out.setCell hg6 _
  have HBZ := Lib.hid hbz
  have h16 := HT.out
  clear hx hl' hR7 hz0 hz1 hbz
  go_wp2_with fail
  have s1 : (S (txt y m d h i)).size = 16 := HZ.out
  have s2 : (S l').size = 16 := by show l'.toArray.size = 16; rw [List.size_toArray]; exact HL.out
  have s3 : (S (txt y m d h i) ++ ⟨#[32]⟩).size = 17 := by rw [ByteArray.size_append, s1]; rfl
  have hrow : ∀ j, j < 4 → ∃ s : ByteArray, (#[Value.string text, .string (S (txt y m d h i)), .string (S l'), .string (S (txt y m d h i) ++ ⟨#[32]⟩)] : Array Value)[j]? = some (.string s) ∧ s.size ≤ 1000 := by
    intro j hj
    rcases j with _ | _ | _ | _ | j
    · exact ⟨_, rfl, by omega⟩
    · exact ⟨_, rfl, by omega⟩
    · exact ⟨_, rfl, by omega⟩
    · exact ⟨_, rfl, by omega⟩
    · omega
  have HROW := Lib.hid hrow
  have HSZ := Lib.hid HB6.out.size
  clear hrow s1 s2 s3 kc hcp hfp h16
  go_loopw [75] (fun k wr => ∃ j : Nat, j ≤ 4 ∧ k = .int .i64 j ∧ Blk wr W6.heap.size #[.string text, .string (S (txt y m d h i)), .string (S l'), .string (S (txt y m d h i) ++ ⟨#[32]⟩)] ∧ Below w.heap.size w wr) (fun k _ => (4 - intOf k).toNat)
  case atStart => exact ⟨0, by omega, rfl, Blk.new' _ _ _ (by simp), HBZ.out.alloc HBZ.out.size _⟩
  case round =>
    obtain ⟨j, hj, rfl, hB, hbx⟩ := hrel
    rcases Nat.lt_or_ge j 4 with hlt | hge
    · have i4 : (j : Int) < 4 := by omega
      obtain ⟨s, hs, hss⟩ := HROW.out j hlt
      have c1 := (hB.cell j).trans hs
      have hlB := hB.lt
      have HX := Lib.hid hB
      have HY := Lib.hid hbx
      clear hB hbx hs
      go_wp2_with fail
      refine (parse_any s _ hss).mono ?_
      rintro e w7 ⟨hor, hb7⟩
      have HX7 := Lib.hid (HX.out.below hb7 hlB)
      have HY7 := Lib.hid (HY.out.trans (hb7.mono HY.out.size))
      have hl7 : W6.heap.size < w7.heap.size := Nat.lt_of_lt_of_le hlB hb7.size
      clear hb7
      rcases hor with ⟨hq, rfl⟩ | ⟨hq, rfl⟩
      all_goals
        have HQ := Lib.hid hq
        clear hq
        go_wp2_with fail
        refine (rparse_any s _ hss).mono ?_
        rintro e w8 ⟨hor, hb8⟩
        have HX8 := Lib.hid (HX7.out.below hb8 hl7)
        have HY8 := Lib.hid (HY7.out.trans (hb8.mono HY7.out.size))
        clear hb8
        rcases hor with ⟨hq, rfl⟩ | ⟨hq, rfl⟩
        all_goals
          first
            | exact absurd hq HQ.out
            | exact absurd HQ.out hq
            | skip
        clear hq
        go_wp2_with fail
        go_roundw
        case rel => exact ⟨j + 1, by omega, by go_num, HX8.out, HY8.out⟩
        case measure => simp [intOf]; omega
    · obtain rfl : j = 4 := by omega
      have HY := Lib.hid hbx
      clear hB hbx
      go_wp2_with ((go_at_call 21; refine (awake_any _).mono ?_; rintro e w9 ⟨rfl, hb9⟩))
      go_ret
      exact ⟨rfl, HY.out.trans (hb9.mono HY.out.size)⟩
end Go.Proofs.Ytnfdpjckdiifkaa
