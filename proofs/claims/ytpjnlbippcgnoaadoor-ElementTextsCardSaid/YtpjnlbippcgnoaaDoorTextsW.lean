/-
  The walk of ElementTexts: it returns true for any arguments.
-/
import Derived.Test.YtpjnlbippcgnoaaDoorAwake
import Derived.Test.YtpjnlbippcgnoaaDoorRparse
import Derived.Test.YtpjnlbippcgnoaaDoorSome
import Derived.Laws.BitsAllLaws
namespace Go.Proofs.YtpjnlbippcgnoaaDoor
open Go.RowKit Txt

theorem SliceIn.later {w w' : World} {A : Option Addr} {n c : Nat} (h : SliceIn w A n c) (hb : Below w.heap.size w w') : SliceIn w' A n c := by
  obtain ⟨h1, h2, h3⟩ := h
  refine ⟨h1, h2, fun hn => ?_⟩
  obtain ⟨b, o, e1, e2, e3⟩ := h3 hn
  refine ⟨b, o, e1, Nat.lt_of_lt_of_le e2 hb.size, fun j hj => ?_⟩
  obtain ⟨z, hz, hi⟩ := e3 j hj
  exact ⟨z, (hb.cell (p := ⟨b, o + j, none⟩) e2).trans hz, hi⟩

/-- what Format and its reference both return -/
theorem formats (e v : Int) : ∃ (t : ByteArray) (k : Int), (∀ w, Bnd w → Calls Tryd.prog 12 #[rdV e v] w fun r w' => r = .returned (.tuple #[.string t, .int .i64 k]) ∧ Below w.heap.size w w') ∧
    (∀ w, Calls Tryd.prog 13 #[rdV e v] w fun r w' => r = .returned (.tuple #[.string t, .int .i64 k]) ∧ Below w.heap.size w w') := by
  by_cases h : chk e v = 0
  · rcases code_cases e with he | ⟨c, hc, rfl⟩
    · rw [chk_no he] at h; cases h
    · have hr : lo c ≤ v ∧ v ≤ hi c := by
        rw [chk_at hc] at h
        split at h
        · cases h
        · omega
      exact ⟨S (ftxt c v), 0, fun w hB => format_ok c hc v hr.1 hr.2 w hB, fun w => rformat_ok c hc v hr.1 hr.2 w⟩
  · exact ⟨S [], chk e v, fun w hB => format_no e v h w hB, fun w => rformat_no e v h w⟩
/-- what Parse and its reference both return -/
theorem parses (L : List UInt8) (hL : L.length ≤ 1000) : ∃ (e v k : Int), (∀ w, Bnd w → Calls Tryd.prog 14 #[.string (S L)] w fun r w' => r = .returned (.tuple #[rdV e v, .int .i64 k]) ∧ Below w.heap.size w w') ∧
    (∀ w, Calls Tryd.prog 16 #[.string (S L)] w fun r w' => r = .returned (.tuple #[rdV e v, .int .i64 k]) ∧ Below w.heap.size w w') := by
  by_cases h : ∃ (c : Nat) (v : Int), c < 11 ∧ lo c ≤ v ∧ v ≤ hi c ∧ L = ftxt c v
  · obtain ⟨c, v, hc, h1, h2, e⟩ := h
    have key : ∀ w r w', ParIs L w r w' → r = .returned (.tuple #[rdV ((c : Int) + 1) v, .int .i64 0]) ∧ Below w.heap.size w w' := by
      rintro w r w' ⟨⟨d, u, q1, q2, q3, q4, rfl⟩ | ⟨q, _⟩, hb⟩
      · obtain ⟨rfl, rfl⟩ := ftxt_inj hc q1 h1 h2 q2 q3 (e.symm.trans q4)
        exact ⟨rfl, hb⟩
      · exact absurd e (q c v hc h1 h2)
    exact ⟨(c : Int) + 1, v, 0, fun w hB => (parse_any L hL w hB).mono (key w), fun w => (rparse_any L w).mono (key w)⟩
  · have key : ∀ w r w', ParIs L w r w' → r = .returned (.tuple #[rdV 0 0, .int .i64 3]) ∧ Below w.heap.size w w' := by
      rintro w r w' ⟨⟨d, u, q1, q2, q3, q4, rfl⟩ | ⟨_, rfl⟩, hb⟩
      · exact absurd ⟨d, u, q1, q2, q3, q4⟩ h
      · exact ⟨rfl, hb⟩
    exact ⟨0, 0, 3, fun w hB => (parse_any L hL w hB).mono (key w), fun w => (rparse_any L w).mono (key w)⟩

/-- what is in the row behind a store -/
theorem rowB_set {w : World} {g : Nat} {l : List UInt8} (h : RowB w g l) (p : Nat) (hp : p < l.length) (z : Int) (z0 : 0 ≤ z) (z1 : z < 256) :
    ∃ l' : List UInt8, l'.length = l.length ∧ RowB (w.setCell ⟨g, p, none⟩ (.int .u8 z)) g l' := by
  have hz : (Value.int .u8 z) = B (UInt8.ofNat z.toNat) := by
    have : (UInt8.ofNat z.toNat).toNat = z.toNat := by rw [UInt8.toNat_ofNat']; omega
    simp [this]; omega
  exact ⟨l.set p (UInt8.ofNat z.toNat), by simp, by rw [hz]; exact h.put p hp _⟩

/-- what the seven strings are: short -/
def RowOK (X : Array Value) : Prop := ∀ j, j < 7 → ∃ L : List UInt8, X[j]? = some (.string (S L)) ∧ L.length ≤ 1000
theorem s_of (s : ByteArray) (h : s.size ≤ 1000) : ∃ L : List UInt8, (Value.string s) = .string (S L) ∧ L.length ≤ 1000 := ⟨s.data.toList, rfl, by simpa using h⟩
theorem rowOK_mk (text : ByteArray) (l' : List UInt8) (t : ByteArray) (n : Nat) (h1 : 60 ≥ text.size) (h2 : l'.length = n) (h3 : t.size = n) (h4 : 5 ≤ n) (h5 : n ≤ 7) :
    RowOK #[.string text, .string (S l'), .string (t ++ ⟨#[48]⟩), .string (t.extract 0 1 ++ ⟨#[48]⟩ ++ t.extract 1 n), .string (t.extract 0 1 ++ ⟨#[45]⟩ ++ t.extract 1 n), .string (t.extract 0 (n - 1)), .string ⟨#[69, 45, 48, 48, 48, 48]⟩] := by
  have key : ∀ s : ByteArray, s.size ≤ 1000 → ∃ L : List UInt8, some (Value.string s) = some (.string (S L)) ∧ L.length ≤ 1000 := fun s h => by
    obtain ⟨L, e, k⟩ := s_of s h
    exact ⟨L, by rw [e], k⟩
  have o : ∀ x : UInt8, (⟨#[x]⟩ : ByteArray).size = 1 := fun _ => rfl
  intro j hj
  rcases j with _ | _ | _ | _ | _ | _ | _ | j
  · exact key _ (by omega)
  · exact key _ (by show l'.toArray.size ≤ 1000; rw [List.size_toArray]; omega)
  · exact key _ (by rw [ByteArray.size_append, o]; omega)
  · exact key _ (by rw [ByteArray.size_append, ByteArray.size_append, o, ByteArray.size_extract, ByteArray.size_extract]; omega)
  · exact key _ (by rw [ByteArray.size_append, ByteArray.size_append, o, ByteArray.size_extract, ByteArray.size_extract]; omega)
  · exact key _ (by rw [ByteArray.size_extract]; omega)
  · exact key _ (by decide)
  · omega

set_option maxRecDepth 20000 in
set_option maxHeartbeats 4000000 in
theorem elementTexts_walk (w : World) (e0 v0 : Int) (text : ByteArray) (A : Option Addr) (len c : Nat) (at_ by_ : Int) (hB : Bnd w) (hS : SliceIn w A len c) (hy0 : 0 ≤ by_) (hy1 : by_ < 256) :
    Calls Tryd.prog 3 #[rdV e0 v0, .string text, .slice A len c, .int .i64 at_, .int .u8 by_] w fun e w' => e = .returned (.bool true) ∧ Below w.heap.size w w' := by
  have h0 := hB.lt
  have hW0 := (Below.refl w.heap.size w).alloc (Nat.le_refl _) (.cells #[.int .i64 e0, .int .i64 v0] 23)
  have hS0 := hS.later hW0
  have hB0 := hB.below hW0 h0
  have hR0 : Blk (w.alloc (.cells #[.int .i64 e0, .int .i64 v0] 23)) w.heap.size #[.int .i64 e0, .int .i64 v0] := Blk.new _ _ _
  have HS0 := Lib.hid hS0
  have HB0 := Lib.hid hB0
  have HR0 := Lib.hid hR0
  have HW0 := Lib.hid hW0
  clear hS hB hS0 hB0 hR0 hW0
  rcases Nat.lt_or_ge 60 text.size with ht | ht
  · have ht' : (60 : Int) < (text.size : Int) := by omega
    go_enter Tryd.func3, Tryd.ntmps3
    go_wp2_with ((go_at_call 8; refine (awake_any _ HB0.out).mono ?_; rintro e w1 ⟨rfl, hb1⟩))
    go_ret
    exact ⟨rfl, HW0.out.trans (hb1.mono HW0.out.size)⟩
  have ht' : ¬ (60 : Int) < (text.size : Int) := by omega
  obtain ⟨t0, c0, hf, hr⟩ := formats e0 v0
  have HF := Lib.hid hf
  have HR := Lib.hid hr
  clear hf hr
  go_enter Tryd.func3, Tryd.ntmps3
  go_wp2_with fail
  clear ht'
  generalize w.alloc (.cells #[.int .i64 e0, .int .i64 v0] 23) = W0 at *
  refine (new_any _ _ _ _ HS0.out).mono ?_
  rintro e w1 ⟨rfl, hs1, hb1⟩
  have HS1 := Lib.hid hs1
  clear hs1 HS0 hb1
  have hlW := HR0.out.lt
  have h0W := HB0.out.lt
  generalize hgs : W0.heap.size = gs at *
  have HGS := Lib.hid hgs
  clear hgs
  go_wp2_with fail
  refine (range_any W0 _ _ _ _ HS1.out (by omega) (by omega) (by omega)).mono ?_
  rintro e w2 ⟨q, ⟨q0, q1⟩, rfl, hs2, hg2⟩
  have HS2 := Lib.hid hs2
  clear hs2 hg2
  obtain ⟨k, hk, rfl⟩ : ∃ k : Nat, k < 11 ∧ q = (k : Int) + 1 := ⟨(q - 1).toNat, by omega, by omega⟩
  go_wp2_with fail
  refine (some_any k hk W0 _ _ HS2.out).mono ?_
  rintro e w3 ⟨u, u0, u1, rfl, hs3, hg3⟩
  have HX3 := Lib.hid (hs3.1.alloc hs3.1.size (.cells #[.int .i64 ((k : Int) + 1), .int .i64 u] 23))
  have HD3 := Lib.hid (Blk.new w3 23 #[.int .i64 ((k : Int) + 1), .int .i64 u])
  have hz3 := hs3.1.size
  clear hs3 hg3 HS1 HS2
  have hR3 := HR0.out.below HX3.out HR0.out.lt
  have hv0 := hR3.cell 0
  have hv1 := hR3.cell 1
  simp at hv0 hv1
  clear hR3
  go_wp2_with fail
  refine (HF.out _ (HB0.out.below HX3.out HB0.out.lt)).mono ?_
  rintro e w4 ⟨rfl, hb4⟩
  have HX4 := Lib.hid (HX3.out.trans (hb4.mono HX3.out.size))
  have HD4 := Lib.hid (HD3.out.below hb4 HD3.out.lt)
  have hR4 := HR0.out.below HX4.out HR0.out.lt
  clear hv0 hv1 hb4 HX3 HD3
  have hv0 := hR4.cell 0
  have hv1 := hR4.cell 1
  simp at hv0 hv1
  clear hR4
  go_wp2_with fail
  refine (HR.out _).mono ?_
  rintro e w5 ⟨rfl, hb5⟩
  have HX5 := Lib.hid (HX4.out.trans (hb5.mono HX4.out.size))
  have hD5 := HD4.out.below hb5 HD4.out.lt
  clear hv0 hv1 hb5 HX4 HD4
  have hd0 := hD5.cell 0
  have hd1 := hD5.cell 1
  simp at hd0 hd1
  have HD5 := Lib.hid hD5
  clear hD5
  go_wp2_with fail
  refine (format_ok k hk u u0 u1 _ (HB0.out.below HX5.out HB0.out.lt)).mono ?_
  rintro e w6 ⟨rfl, hb6⟩
  have HX6 := Lib.hid (HX5.out.trans (hb6.mono HX5.out.size))
  have HD6 := Lib.hid (HD5.out.below hb6 HD5.out.lt)
  clear hd0 hd1 hb6 HX5 HD5
  go_wp2_with fail
  refine (parse_at k hk u u0 u1 _ (HB0.out.below HX6.out HB0.out.lt)).mono ?_
  rintro e w7 ⟨rfl, hb7⟩
  have HX7 := Lib.hid ((HX6.out.trans (hb7.mono HX6.out.size)).alloc (Nat.le_trans HX6.out.size hb7.size) (.cells #[.int .i64 ((k : Int) + 1), .int .i64 u] 23))
  have hD7 := (HD6.out.below hb7 HD6.out.lt).alloc (.cells #[.int .i64 ((k : Int) + 1), .int .i64 u] 23)
  have hd0 := hD7.cell 0
  have hd1 := hD7.cell 1
  simp at hd0 hd1
  clear hb7 HX6 HD6 hD7
  have hlen := ftxt_len_bd k u
  obtain ⟨n, hn⟩ : ∃ n : Nat, n = (ftxt k u).length := ⟨_, rfl⟩
  rw [← hn] at hlen
  obtain ⟨n5, n7⟩ := hlen
  have hsz : (S (ftxt k u)).size = n := by show (ftxt k u).toArray.size = n; rw [List.size_toArray, hn]
  have kb := Lib.run_convert_string_bytes (P := Tryd.prog) (w7.alloc (.cells #[.int .i64 ((k : Int) + 1), .int .i64 u] 23)) 9 35 5 (S (ftxt k u)) Tryd.underlying9 Tryd.underlying35 Tryd.underlying5
  rw [hsz] at kb
  have HN := Lib.hid hn
  clear hsz hn
  go_wp2_with fail
  have hR8 := rowB_bytes (w7.alloc (.cells #[.int .i64 ((k : Int) + 1), .int .i64 u] 23)) (ftxt k u)
  have hb8 := below_bytes HX7.out HX7.out.size (ftxt k u)
  have hg8 := HX7.out.size
  clear kb hd0 hd1
  rw [show (w7.alloc (.cells #[.int .i64 ((k : Int) + 1), .int .i64 u] 23)).heap.size = w7.heap.size + 1 from by simp] at hR8 hg8
  generalize hcap : grownCap (w7.alloc (.cells #[.int .i64 ((k : Int) + 1), .int .i64 u] 23)) n 0 5 = cap
  generalize Lib.bytesWorld (w7.alloc (.cells #[.int .i64 ((k : Int) + 1), .int .i64 u] 23)) 5 (S (ftxt k u)) = W8 at hR8 hb8 ⊢
  generalize w7.heap.size + 1 = g at hR8 hg8 ⊢
  have HR8 := Lib.hid hR8
  have HB8 := Lib.hid hb8
  clear hR8 hb8 HX7 hcap
  refine (mod_any _ _ _ (by omega) (by omega)).mono ?_
  rintro e w8' ⟨v, ⟨v0', v1'⟩, rfl, rfl⟩
  obtain ⟨p, rfl⟩ := Int.eq_ofNat_of_zero_le v0'
  have hp : p < (ftxt k u).length := by have := HN.out; omega
  have hcp := HR8.out.cell p _ (List.getElem?_eq_getElem hp)
  have hfp := HR8.out.frozen p hp
  have hx := u8_xor (((ftxt k u)[p].toNat : Nat) : Int) by_ (by omega) (by have := (ftxt k u)[p].toNat_lt; omega) hy0 hy1
  have hz0 : (0 : Int) ≤ bits .xor .u8 ((ftxt k u)[p].toNat : Int) by_ := by rw [hx]; omega
  have hz1 : bits .xor .u8 ((ftxt k u)[p].toNat : Int) by_ < 256 := by
    rw [hx]
    have := Nat.xor_lt_two_pow (n := 8) (x := ((((ftxt k u)[p].toNat : Nat) : Int)).toNat) (y := by_.toNat) (by have := (ftxt k u)[p].toNat_lt; omega) (by omega)
    omega
  obtain ⟨l', hl', hR9⟩ := rowB_set HR8.out p hp _ hz0 hz1
  have HL := Lib.hid (hl'.trans HN.out.symm)
  have hX9 := HB8.out.setCell (p := ⟨g, p, none⟩) hg8 (.int .u8 (bits .xor .u8 ((ftxt k u)[p].toNat : Int) by_))
  clear hx hl' hz0 hz1
  have HR9 := Lib.hid hR9
  have HX9 := Lib.hid hX9
  clear hR9 hX9
  go_wp2_with fail
  have hlt9 := HR9.out.lt
  refine forget (fun w' => RowB w' g l' ∧ Below W0.heap.size W0 w') ⟨HR9.out, HX9.out⟩ ?_
  clear hlt9 HR9 HX9 HR8 HB8 hcp hfp v0' v1'
  rintro W9 ⟨hR9, hX9⟩
  have kA : (convert 35 9 (.slice (some ⟨g, 0, none⟩) n cap)).run Tryd.prog W9.drew = .ok (.string (S l')) W9.drew := by
    have := conv_bytes W9.drew g 0 cap l' (fun j c hc => by rw [Nat.zero_add]; exact hR9.cell j c hc)
    rw [HL.out] at this
    exact this
  have kB : ∀ cs t, (convert 35 9 (.slice (some ⟨g, 0, none⟩) n cap)).run Tryd.prog (W9.drew.alloc (.cells cs t)) = .ok (.string (S l')) (W9.drew.alloc (.cells cs t)) := by
    intro cs t
    have hb : Below W9.heap.size W9 (W9.drew.alloc (.cells cs t)) := ((Below.refl _ W9).drew).alloc (Nat.le_refl _) _
    have := conv_bytes (W9.drew.alloc (.cells cs t)) g 0 cap l' (fun j c hc => by rw [Nat.zero_add]; exact (hR9.below hb hR9.lt).cell j c hc)
    rw [HL.out] at this
    exact this
  have HX9 := Lib.hid hX9
  have hz : (S (ftxt k u)).size = n := by show (ftxt k u).toArray.size = n; rw [List.size_toArray]; exact HN.out.symm
  obtain ⟨t, ht⟩ : ∃ t : ByteArray, t = S (ftxt k u) := ⟨_, rfl⟩
  rw [← ht] at hz ⊢
  clear ht
  generalize (ftxt k u)[p] = y
  have hz3 : (1 : Int) ≤ (n : Int) := by omega
  clear hR9 hX9
  rcases (by omega : n = 5 ∨ n = 6 ∨ n = 7) with rfl | rfl | rfl
  · have hz5 : (4 : Int) ≤ (t.size : Int) := by omega
    have hz6 : (1 : Int) ≤ (t.size : Int) := by omega
    have hw4 : IntKind.i64.wrap 4 = 4 := by decide
    go_region_held3 (fun w' => (convert 35 9 (.slice (some ⟨g, 0, none⟩) 5 cap)).run Tryd.prog w' = .ok (.string (S l')) w') ((first | exact kA | exact kB _ _)) ((first | fail))
    go_wp2_with fail
    refine forget (fun w' => ∃ X : Array Value, Blk w' W9.heap.size X ∧ RowOK X ∧ Below W0.heap.size W0 w') ⟨_, (Blk.new _ _ _).drew, rowOK_mk text l' t 5 ht HL.out hz (by omega) (by omega), (HX9.out.alloc HX9.out.size _).drew⟩ ?_
    rintro w' ⟨X, hBX, hRX, hXX⟩
    have HBX := Lib.hid hBX
    have HRX := Lib.hid hRX
    have HXX := Lib.hid hXX
    have HSZ := Lib.hid HX9.out.size
    clear kA hz3 hz5 hz6 hw4 hz hBX hRX hXX
    generalize W9.heap.size = gx at *
    go_loopw [115] (fun i wr => ∃ j : Nat, j ≤ 7 ∧ i = .int .i64 j ∧ Blk wr gx X ∧ Below W0.heap.size W0 wr) (fun i _ => (7 - intOf i).toNat)
    case atStart => exact ⟨0, by omega, rfl, HBX.out, HXX.out⟩
    case round =>
      obtain ⟨j, hj, rfl, hB, hbx⟩ := hrel
      rcases Nat.lt_or_ge j 7 with hlt | hge
      · have i7 : (j : Int) < 7 := by omega
        obtain ⟨L, hs, hss⟩ := HRX.out j hlt
        obtain ⟨e, v, q, hp, hr⟩ := parses L hss
        have HP := Lib.hid hp
        have HQ := Lib.hid hr
        have c1 := (hB.cell j).trans hs
        have hlB := hB.lt
        have HX := Lib.hid hB
        have HY := Lib.hid hbx
        clear hB hbx hs hp hr
        go_wp2_with fail
        refine (HP.out _ (HB0.out.below HY.out HB0.out.lt)).mono ?_
        rintro r w10 ⟨rfl, hb10⟩
        have HX10 := Lib.hid ((HX.out.below hb10 hlB).alloc (.cells #[.int .i64 e, .int .i64 v] 23))
        have HY10 := Lib.hid ((HY.out.trans (hb10.mono HY.out.size)).alloc (Nat.le_trans HY.out.size hb10.size) (.cells #[.int .i64 e, .int .i64 v] 23))
        have HD10 := Lib.hid (Blk.new w10 23 #[.int .i64 e, .int .i64 v])
        have hl10 : gx < w10.heap.size := Nat.lt_of_lt_of_le hlB hb10.size
        clear hb10 c1 HX HY
        go_wp2_with fail
        refine (HQ.out _).mono ?_
        rintro r w11 ⟨rfl, hb11⟩
        have HX11 := Lib.hid ((HX10.out.below hb11 HX10.out.lt).alloc (.cells #[.int .i64 e, .int .i64 v] 23))
        have HY11 := Lib.hid ((HY10.out.trans (hb11.mono HY10.out.size)).alloc (Nat.le_trans HY10.out.size hb11.size) (.cells #[.int .i64 e, .int .i64 v] 23))
        have hD := (HD10.out.below hb11 HD10.out.lt).alloc (.cells #[.int .i64 e, .int .i64 v] 23)
        have d0 := hD.cell 0
        have d1 := hD.cell 1
        simp at d0 d1
        clear hb11 HX10 HY10 HD10 hD
        go_wp2_with fail
        go_roundw
        case rel => exact ⟨j + 1, by omega, by go_num, HX11.out, HY11.out⟩
        case measure => simp [intOf]; omega
      · obtain rfl : j = 7 := by omega
        have HY := Lib.hid hbx
        clear hB hbx
        go_wp2_with ((go_at_call 8; refine (awake_any _ (HB0.out.below HY.out HB0.out.lt)).mono ?_; rintro e w12 ⟨rfl, hb12⟩))
        go_ret
        exact ⟨rfl, HW0.out.trans ((HY.out.trans (hb12.mono HY.out.size)).mono HW0.out.size)⟩
  · have hz5 : (5 : Int) ≤ (t.size : Int) := by omega
    have hz6 : (1 : Int) ≤ (t.size : Int) := by omega
    have hw4 : IntKind.i64.wrap 5 = 5 := by decide
    go_region_held3 (fun w' => (convert 35 9 (.slice (some ⟨g, 0, none⟩) 6 cap)).run Tryd.prog w' = .ok (.string (S l')) w') ((first | exact kA | exact kB _ _)) ((first | fail))
    go_wp2_with fail
    refine forget (fun w' => ∃ X : Array Value, Blk w' W9.heap.size X ∧ RowOK X ∧ Below W0.heap.size W0 w') ⟨_, (Blk.new _ _ _).drew, rowOK_mk text l' t 6 ht HL.out hz (by omega) (by omega), (HX9.out.alloc HX9.out.size _).drew⟩ ?_
    rintro w' ⟨X, hBX, hRX, hXX⟩
    have HBX := Lib.hid hBX
    have HRX := Lib.hid hRX
    have HXX := Lib.hid hXX
    have HSZ := Lib.hid HX9.out.size
    clear kA hz3 hz5 hz6 hw4 hz hBX hRX hXX
    generalize W9.heap.size = gx at *
    go_loopw [115] (fun i wr => ∃ j : Nat, j ≤ 7 ∧ i = .int .i64 j ∧ Blk wr gx X ∧ Below W0.heap.size W0 wr) (fun i _ => (7 - intOf i).toNat)
    case atStart => exact ⟨0, by omega, rfl, HBX.out, HXX.out⟩
    case round =>
      obtain ⟨j, hj, rfl, hB, hbx⟩ := hrel
      rcases Nat.lt_or_ge j 7 with hlt | hge
      · have i7 : (j : Int) < 7 := by omega
        obtain ⟨L, hs, hss⟩ := HRX.out j hlt
        obtain ⟨e, v, q, hp, hr⟩ := parses L hss
        have HP := Lib.hid hp
        have HQ := Lib.hid hr
        have c1 := (hB.cell j).trans hs
        have hlB := hB.lt
        have HX := Lib.hid hB
        have HY := Lib.hid hbx
        clear hB hbx hs hp hr
        go_wp2_with fail
        refine (HP.out _ (HB0.out.below HY.out HB0.out.lt)).mono ?_
        rintro r w10 ⟨rfl, hb10⟩
        have HX10 := Lib.hid ((HX.out.below hb10 hlB).alloc (.cells #[.int .i64 e, .int .i64 v] 23))
        have HY10 := Lib.hid ((HY.out.trans (hb10.mono HY.out.size)).alloc (Nat.le_trans HY.out.size hb10.size) (.cells #[.int .i64 e, .int .i64 v] 23))
        have HD10 := Lib.hid (Blk.new w10 23 #[.int .i64 e, .int .i64 v])
        have hl10 : gx < w10.heap.size := Nat.lt_of_lt_of_le hlB hb10.size
        clear hb10 c1 HX HY
        go_wp2_with fail
        refine (HQ.out _).mono ?_
        rintro r w11 ⟨rfl, hb11⟩
        have HX11 := Lib.hid ((HX10.out.below hb11 HX10.out.lt).alloc (.cells #[.int .i64 e, .int .i64 v] 23))
        have HY11 := Lib.hid ((HY10.out.trans (hb11.mono HY10.out.size)).alloc (Nat.le_trans HY10.out.size hb11.size) (.cells #[.int .i64 e, .int .i64 v] 23))
        have hD := (HD10.out.below hb11 HD10.out.lt).alloc (.cells #[.int .i64 e, .int .i64 v] 23)
        have d0 := hD.cell 0
        have d1 := hD.cell 1
        simp at d0 d1
        clear hb11 HX10 HY10 HD10 hD
        go_wp2_with fail
        go_roundw
        case rel => exact ⟨j + 1, by omega, by go_num, HX11.out, HY11.out⟩
        case measure => simp [intOf]; omega
      · obtain rfl : j = 7 := by omega
        have HY := Lib.hid hbx
        clear hB hbx
        go_wp2_with ((go_at_call 8; refine (awake_any _ (HB0.out.below HY.out HB0.out.lt)).mono ?_; rintro e w12 ⟨rfl, hb12⟩))
        go_ret
        exact ⟨rfl, HW0.out.trans ((HY.out.trans (hb12.mono HY.out.size)).mono HW0.out.size)⟩
  · have hz5 : (6 : Int) ≤ (t.size : Int) := by omega
    have hz6 : (1 : Int) ≤ (t.size : Int) := by omega
    have hw4 : IntKind.i64.wrap 6 = 6 := by decide
    go_region_held3 (fun w' => (convert 35 9 (.slice (some ⟨g, 0, none⟩) 7 cap)).run Tryd.prog w' = .ok (.string (S l')) w') ((first | exact kA | exact kB _ _)) ((first | fail))
    go_wp2_with fail
    refine forget (fun w' => ∃ X : Array Value, Blk w' W9.heap.size X ∧ RowOK X ∧ Below W0.heap.size W0 w') ⟨_, (Blk.new _ _ _).drew, rowOK_mk text l' t 7 ht HL.out hz (by omega) (by omega), (HX9.out.alloc HX9.out.size _).drew⟩ ?_
    rintro w' ⟨X, hBX, hRX, hXX⟩
    have HBX := Lib.hid hBX
    have HRX := Lib.hid hRX
    have HXX := Lib.hid hXX
    have HSZ := Lib.hid HX9.out.size
    clear kA hz3 hz5 hz6 hw4 hz hBX hRX hXX
    generalize W9.heap.size = gx at *
    go_loopw [115] (fun i wr => ∃ j : Nat, j ≤ 7 ∧ i = .int .i64 j ∧ Blk wr gx X ∧ Below W0.heap.size W0 wr) (fun i _ => (7 - intOf i).toNat)
    case atStart => exact ⟨0, by omega, rfl, HBX.out, HXX.out⟩
    case round =>
      obtain ⟨j, hj, rfl, hB, hbx⟩ := hrel
      rcases Nat.lt_or_ge j 7 with hlt | hge
      · have i7 : (j : Int) < 7 := by omega
        obtain ⟨L, hs, hss⟩ := HRX.out j hlt
        obtain ⟨e, v, q, hp, hr⟩ := parses L hss
        have HP := Lib.hid hp
        have HQ := Lib.hid hr
        have c1 := (hB.cell j).trans hs
        have hlB := hB.lt
        have HX := Lib.hid hB
        have HY := Lib.hid hbx
        clear hB hbx hs hp hr
        go_wp2_with fail
        refine (HP.out _ (HB0.out.below HY.out HB0.out.lt)).mono ?_
        rintro r w10 ⟨rfl, hb10⟩
        have HX10 := Lib.hid ((HX.out.below hb10 hlB).alloc (.cells #[.int .i64 e, .int .i64 v] 23))
        have HY10 := Lib.hid ((HY.out.trans (hb10.mono HY.out.size)).alloc (Nat.le_trans HY.out.size hb10.size) (.cells #[.int .i64 e, .int .i64 v] 23))
        have HD10 := Lib.hid (Blk.new w10 23 #[.int .i64 e, .int .i64 v])
        have hl10 : gx < w10.heap.size := Nat.lt_of_lt_of_le hlB hb10.size
        clear hb10 c1 HX HY
        go_wp2_with fail
        refine (HQ.out _).mono ?_
        rintro r w11 ⟨rfl, hb11⟩
        have HX11 := Lib.hid ((HX10.out.below hb11 HX10.out.lt).alloc (.cells #[.int .i64 e, .int .i64 v] 23))
        have HY11 := Lib.hid ((HY10.out.trans (hb11.mono HY10.out.size)).alloc (Nat.le_trans HY10.out.size hb11.size) (.cells #[.int .i64 e, .int .i64 v] 23))
        have hD := (HD10.out.below hb11 HD10.out.lt).alloc (.cells #[.int .i64 e, .int .i64 v] 23)
        have d0 := hD.cell 0
        have d1 := hD.cell 1
        simp at d0 d1
        clear hb11 HX10 HY10 HD10 hD
        go_wp2_with fail
        go_roundw
        case rel => exact ⟨j + 1, by omega, by go_num, HX11.out, HY11.out⟩
        case measure => simp [intOf]; omega
      · obtain rfl : j = 7 := by omega
        have HY := Lib.hid hbx
        clear hB hbx
        go_wp2_with ((go_at_call 8; refine (awake_any _ (HB0.out.below HY.out HB0.out.lt)).mono ?_; rintro e w12 ⟨rfl, hb12⟩))
        go_ret
        exact ⟨rfl, HW0.out.trans ((HY.out.trans (hb12.mono HY.out.size)).mono HW0.out.size)⟩
end Go.Proofs.YtpjnlbippcgnoaaDoor
