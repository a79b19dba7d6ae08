/-
  Both Format functions return the text of a minute of the range, and the error ErrRange (1) of another number.
-/
import Derived.Test.YtnfdpjckdiifkaaDig
import Derived.Test.YtnfdpjckdiifkaaRdate
import Derived.Lib.SlBytesConst
import Derived.Deep.RegionWith
namespace Go.Proofs.Ytnfdpjckdiifkaa
open Go.RowKit Txt Cal

/-- the text of a date -/
def txt (y m d h i : Int) : List UInt8 := digs y 4 ++ [45] ++ digs m 2 ++ [45] ++ digs d 2 ++ [32] ++ digs h 2 ++ [58] ++ digs i 2
theorem txt_length (y m d h i : Int) : (txt y m d h i).length = 16 := by simp [txt, digs_length]

theorem txt_S (y m d h i : Int) : S (txt y m d h i) = S (digs y 4) ++ ⟨#[45]⟩ ++ S (digs m 2) ++ ⟨#[45]⟩ ++ S (digs d 2) ++ ⟨#[32]⟩ ++ S (digs h 2) ++ ⟨#[58]⟩ ++ S (digs i 2) := by
  unfold txt
  simp only [← S_append]

theorem ret_st {l : IntKind} {a b : ByteArray} {c d : Int} (h : a = b) (g : c = d) : Ending.returned (.tuple #[.string a, .int l c]) = .returned (.tuple #[.string b, .int l d]) := by rw [h, g]

/-- the pattern of a text -/
def pat : List UInt8 := [48, 48, 48, 48, 45, 48, 48, 45, 48, 48, 32, 48, 48, 58, 48, 48]
def put (l : List UInt8) (o : Nat) (x : List UInt8) (n : Nat) : List UInt8 := l.take o ++ x ++ l.drop (o + n)
theorem pat_txt (y m d h i : Int) : put (put (put (put (put pat 0 (digs y 4) 4) 5 (digs m 2) 2) 8 (digs d 2) 2) 11 (digs h 2) 2) 14 (digs i 2) 2 = txt y m d h i := by
  simp [put, pat, txt, digs]

/-- the memory of Format -/
structure FW (w wr : World) (b : Nat) (y m d h i : Int) (l : List UInt8) : Prop where
  below : Below w.heap.size w wr
  ge : w.heap.size ≤ b
  civ_ : Blk wr b #[.int .i64 y, .int .i64 m, .int .i64 d, .int .i64 h, .int .i64 i]
  row : Row8 wr (b + 1) l
theorem FW.step {w wr w' : World} {b : Nat} {y m d h i : Int} {l l' : List UInt8} (f : FW w wr b y m d h i l) (hg0 : wr.drew.grownBy w' (some (b + 1))) (hr : Row8 w' (b + 1) l') : FW w w' b y m d h i l' := by
  have hg : wr.grownBy w' (some (b + 1)) := ⟨hg0.os, hg0.tape, hg0.output, hg0.size, hg0.block⟩
  obtain ⟨t, hc⟩ := f.civ_
  have hlt := f.civ_.lt
  exact ⟨f.below.grown hg f.below.size (fun k hk => by injection hk with hk; have := f.ge; omega), f.ge, ⟨t, (hg.block b hlt (fun e => by injection e; omega)).trans hc⟩, hr⟩

def FmtIs (n : Int) (w : World) (e : Ending) (w' : World) : Prop :=
  ∃ y m d h i : Int, e = .returned (.tuple #[.string (S (txt y m d h i)), .int .i64 0]) ∧ vld y m d h i = true ∧ mnt y m d h i = n ∧ Below w.heap.size w w'

set_option maxHeartbeats 2000000 in
theorem rformat_no (n : Int) (w : World) (hn : inB n = false) : Calls Try.prog 29 #[.int .i64 n] w fun e w' => e = .returned (.tuple #[.string (S []), .int .i64 1]) ∧ Below w.heap.size w w' := by
  go_enter Try.func29, Try.ntmps29
  go_wp2_with (go_at_call 20; refine (rdate_no _ _ hn).mono ?_; rintro e w1 ⟨rfl, hb⟩)
  go_ret2
  exact ⟨rfl, hb.alloc hb.size _⟩

set_option maxHeartbeats 2000000 in
theorem format_no (n : Int) (w : World) (hn : inB n = false) : Calls Try.prog 22 #[.int .i64 n] w fun e w' => e = .returned (.tuple #[.string (S []), .int .i64 1]) ∧ Below w.heap.size w w' := by
  go_enter Try.func22, Try.ntmps22
  go_wp2_with (go_at_call 19; refine (date_no _ _ hn).mono ?_; rintro e w1 ⟨rfl, hb⟩)
  go_ret2
  exact ⟨rfl, hb.alloc hb.size _⟩

theorem rdigits_gen (n k : Int) (w : World) (h0 : 0 ≤ n) (h1 : n ≤ 9999) (hk : 0 ≤ k) (hk' : k ≤ 4) : Calls Try.prog 42 #[.int .i64 n, .int .i64 k] w fun e w' => e = .returned (.string (S (digs n k.toNat))) ∧ Below w.heap.size w w' := by
  obtain ⟨j, rfl⟩ := Int.eq_ofNat_of_zero_le hk
  exact rdigits_any n j w h0 h1 (by omega)

set_option maxHeartbeats 2000000 in
theorem rformat_ok (n : Int) (w : World) (hn : inB n = true) : Calls Try.prog 29 #[.int .i64 n] w (FmtIs n w) := by
  have hlen := digs_length
  go_enter Try.func29, Try.ntmps29
  go_wp2_with (go_at_call 20; refine (rdate_ok _ _ hn).mono ?_; rintro e w1 ⟨y, m, d, h, i, rfl, hv, hm, hb⟩; have HM := Lib.hid hm; have HV := Lib.hid hv; obtain ⟨g1, g2, g3, g4, g5, g6, g7, g8, g9, g10, g11⟩ := vld_all hv; have hz := hb.size; clear hm hv)
  refine wp_region_near (by kernel_rfl) (by kernel_rfl) ?_
  repeat (go_big_quiet_step ((go_at_call 42; exact near_of (rdigits_gen _ _ _ (by omega) (by omega) (by omega) (by omega)))))
  refine wpQuiet_nil ?_
  rintro ⟨w2, hb2⟩
  go_wp2
  go_ret2
  exact ⟨y, m, d, h, i, ret_st (txt_S _ _ _ _ _).symm rfl, HV.out, HM.out, (hb.alloc hz _).trans (hb2.mono (by simp; omega))⟩

set_option maxHeartbeats 2000000 in
theorem format_ok (n : Int) (w : World) (hn : inB n = true) : Calls Try.prog 22 #[.int .i64 n] w (FmtIs n w) := by
  have kc : ∀ (wx : World) (X C : Array Value) (n c : Nat), (convert 48 48 (.slice (some ⟨wx.heap.size + 1, 0, none⟩) n c)).run Try.prog ((wx.alloc (.cells X 23)).alloc (.cells C 5)) = .ok (.slice (some ⟨wx.heap.size + 1, 0, none⟩) n c) ((wx.alloc (.cells X 23)).alloc (.cells C 5 (C.size, C.size + 1))) := by
    intro wx X C n c
    have := Lib.run_convert_bytes_const (P := Try.prog) (wx.alloc (.cells X 23)) 48 5 C n c Try.underlying48 Try.underlying5
    simpa using this
  go_enter Try.func22, Try.ntmps22
  go_wp2_with (go_at_call 19; refine (date_ok _ _ hn).mono ?_; rintro e w1 ⟨y, m, d, h, i, rfl, hv, hm, hb⟩; have HM := Lib.hid hm; have HV := Lib.hid hv; obtain ⟨g1, g2, g3, g4, g5, g6, g7, g8, g9, g10, g11⟩ := vld_all hv; have hz := hb.size; clear hm hv)
  have h0 : FW w ((w1.alloc (.cells #[.int .i64 y, .int .i64 m, .int .i64 d, .int .i64 h, .int .i64 i] 23)).alloc (.cells #[.int .u8 48, .int .u8 48, .int .u8 48, .int .u8 48, .int .u8 45, .int .u8 48, .int .u8 48, .int .u8 45, .int .u8 48, .int .u8 48, .int .u8 32, .int .u8 48, .int .u8 48, .int .u8 58, .int .u8 48, .int .u8 48] 5 (16, 17))) w1.heap.size y m d h i pat :=
    ⟨(hb.alloc hz _).alloc (by simp; omega) _, hz, (Blk.new w1 23 _).alloc _, ⟨16, 17, by rw [show w1.heap.size + 1 = (w1.alloc (.cells #[.int .i64 y, .int .i64 m, .int .i64 d, .int .i64 h, .int .i64 i] 23)).heap.size from by simp, heap_alloc_new]; rfl, Nat.le_refl _⟩⟩
  have hbn := h0.civ_.lt
  generalize ((w1.alloc (.cells #[.int .i64 y, .int .i64 m, .int .i64 d, .int .i64 h, .int .i64 i] 23)).alloc (.cells #[.int .u8 48, .int .u8 48, .int .u8 48, .int .u8 48, .int .u8 45, .int .u8 48, .int .u8 48, .int .u8 45, .int .u8 48, .int .u8 48, .int .u8 32, .int .u8 48, .int .u8 48, .int .u8 58, .int .u8 48, .int .u8 48] 5 (16, 17))) = W0 at h0 ⊢
  generalize w1.heap.size = b at h0 ⊢
  have c0 : W0.cell? ⟨b, 0, none⟩ = some (.int .i64 y) := h0.civ_.cell 0
  go_region_with ((go_at_call 38; refine (digits_any _ _ 0 4 _ _ _ (by exact h0.row) (by decide) (by omega) (by omega) (by omega)).mono ?_; rintro e W1 ⟨rfl, hr1, hg1⟩))
  have h1 : FW w W1 b y m d h i (put pat 0 (digs y 4) 4) := h0.step hg1 hr1
  clear hr1 hg1 c0
  have c1 : W1.cell? ⟨b, 1, none⟩ = some (.int .i64 m) := h1.civ_.cell 1
  go_wp2
  go_region_with ((go_at_call 38; refine (digits_any _ _ 5 2 _ _ _ (by exact h1.row) (by simp [put, pat, digs]) (by omega) (by omega) (by omega)).mono ?_; rintro e W2 ⟨rfl, hr1, hg1⟩))
  have h2 : FW w W2 b y m d h i (put (put pat 0 (digs y 4) 4) 5 (digs m 2) 2) := h1.step hg1 hr1
  clear hr1 hg1 c1
  have c2 : W2.cell? ⟨b, 2, none⟩ = some (.int .i64 d) := h2.civ_.cell 2
  go_wp2
  go_region_with ((go_at_call 38; refine (digits_any _ _ 8 2 _ _ _ (by exact h2.row) (by simp [put, pat, digs]) (by omega) (by omega) (by omega)).mono ?_; rintro e W3 ⟨rfl, hr1, hg1⟩))
  have h3 : FW w W3 b y m d h i (put (put (put pat 0 (digs y 4) 4) 5 (digs m 2) 2) 8 (digs d 2) 2) := h2.step hg1 hr1
  clear hr1 hg1 c2
  have c3 : W3.cell? ⟨b, 3, none⟩ = some (.int .i64 h) := h3.civ_.cell 3
  go_wp2
  go_region_with ((go_at_call 38; refine (digits_any _ _ 11 2 _ _ _ (by exact h3.row) (by simp [put, pat, digs]) (by omega) (by omega) (by omega)).mono ?_; rintro e W4 ⟨rfl, hr1, hg1⟩))
  have h4 : FW w W4 b y m d h i (put (put (put (put pat 0 (digs y 4) 4) 5 (digs m 2) 2) 8 (digs d 2) 2) 11 (digs h 2) 2) := h3.step hg1 hr1
  clear hr1 hg1 c3
  have c4 : W4.cell? ⟨b, 4, none⟩ = some (.int .i64 i) := h4.civ_.cell 4
  go_wp2
  go_region_with ((go_at_call 38; refine (digits_any _ _ 14 2 _ _ _ (by exact h4.row) (by simp [put, pat, digs]) (by omega) (by omega) (by omega)).mono ?_; rintro e W5 ⟨rfl, hr1, hg1⟩))
  have h5 : FW w W5 b y m d h i (put (put (put (put (put pat 0 (digs y 4) 4) 5 (digs m 2) 2) 8 (digs d 2) 2) 11 (digs h 2) 2) 14 (digs i 2) 2) := h4.step hg1 hr1
  clear hr1 hg1 c4
  rw [pat_txt] at h5
  have hcv := conv_bytes W5 (b + 1) 0 16 (txt y m d h i) (fun j c hc => by rw [Nat.zero_add]; exact h5.row.cell j c hc)
  rw [txt_length] at hcv
  have HT := Lib.hid (txt_length y m d h i)
  go_wp2
  go_ret2
  exact ⟨y, m, d, h, i, rfl, HV.out, HM.out, h5.below⟩
end Go.Proofs.Ytnfdpjckdiifkaa
