/-
  Both Parse functions return the minute of a text, and the error ErrSyntax (3) of another string.
-/
import Derived.Test.YtnfdpjckdiifkaaFormat
import Derived.Deep.RegionHeld3
namespace Go.Proofs.Ytnfdpjckdiifkaa
open Go.RowKit Txt Cal

/-- does a byte fit the pattern at a place? -/
def okAt (k : Nat) (c : UInt8) : Bool := if pat.getD k 0 = 48 then isd c else !isd c && c == pat.getD k 0
/-- has a list of bytes the form of a text? -/
def shape (l : List UInt8) : Prop := l.length = 16 ∧ ∀ k c, l[k]? = some c → okAt k c = true
def fY (l : List UInt8) : Int := num (l.take 4)
def fM (l : List UInt8) : Int := num ((l.drop 5).take 2)
def fD (l : List UInt8) : Int := num ((l.drop 8).take 2)
def fH (l : List UInt8) : Int := num ((l.drop 11).take 2)
def fI (l : List UInt8) : Int := num ((l.drop 14).take 2)
/-- is a list of bytes the text of a minute? -/
def isTxt (l : List UInt8) : Prop := shape l ∧ vld (fY l) (fM l) (fD l) (fH l) (fI l) = true
def parsed (l : List UInt8) : Int := mnt (fY l) (fM l) (fD l) (fH l) (fI l)

def ParIs (s : ByteArray) (w : World) (e : Ending) (w' : World) : Prop :=
  ((isTxt s.data.toList ∧ e = .returned (.tuple #[.int .i64 (parsed s.data.toList), .int .i64 0])) ∨ (¬ isTxt s.data.toList ∧ e = .returned (.tuple #[.int .i64 0, .int .i64 3]))) ∧ Below w.heap.size w w'

theorem pat_index (k : Nat) (hk : k < 16) (w : World) : (Instr.index 9 (.string ⟨#[48, 48, 48, 48, 45, 48, 48, 45, 48, 48, 32, 48, 48, 58, 48, 48]⟩) (.int .i64 (k : Int))).run Try.prog w = .ok (.int .u8 ((pat.getD k 0).toNat : Int)) w := by
  have : k = 0 ∨ k = 1 ∨ k = 2 ∨ k = 3 ∨ k = 4 ∨ k = 5 ∨ k = 6 ∨ k = 7 ∨ k = 8 ∨ k = 9 ∨ k = 10 ∨ k = 11 ∨ k = 12 ∨ k = 13 ∨ k = 14 ∨ k = 15 := by omega
  rcases this with rfl | rfl | rfl | rfl | rfl | rfl | rfl | rfl | rfl | rfl | rfl | rfl | rfl | rfl | rfl | rfl <;> (change _ = _; kernel_rfl)
theorem byte_at (s : ByteArray) (k : Nat) (h : k < s.size) : s.data.toList[k]? = some s[k] := List.getElem?_eq_getElem (l := s.data.toList) (i := k) (by simpa using h)
theorem not_txt {s : ByteArray} {k : Nat} (h : k < s.size) (hn : okAt k s[k] = false) : ¬ isTxt s.data.toList := fun q => by
  have := q.1.2 k s[k] (byte_at s k h)
  rw [hn] at this; cases this
theorem toNat_ne {a b : UInt8} (h : a ≠ b) : ((a.toNat : Int) == (b.toNat : Int)) = false ∧ ((a.toNat : Int) != (b.toNat : Int)) = true := by
  have : a.toNat ≠ b.toNat := fun e => h (UInt8.toNat_inj.1 e)
  constructor
  · simp; omega
  · simp; omega

/-- all places of the pattern from a up to b are digits -/
def digPl (a b : Nat) : Bool := (List.range b).all fun j => decide (j < a) || pat.getD j 0 == 48
theorem ext_list (s : ByteArray) (a b : Nat) : (s.extract a b).data.toList = (s.data.toList.drop a).take (b - a) := by
  rw [ByteArray.data_extract, Array.toList_extract, List.extract_eq_take_drop]
theorem ext_digits {l : List UInt8} (h : shape l) (a b : Nat) (hp : digPl a b = true) : ∀ c ∈ (l.drop a).take (b - a), isd c = true := by
  intro c hc
  obtain ⟨j, hj⟩ := List.mem_iff_getElem?.1 hc
  have hjb : j < b - a := by
    rcases Nat.lt_or_ge j (b - a) with q | q
    · exact q
    · rw [List.getElem?_eq_none (by simp; omega)] at hj; cases hj
  rw [List.getElem?_take, if_pos hjb, List.getElem?_drop] at hj
  have h1 := h.2 (a + j) c hj
  have h2 := List.all_eq_true.1 hp (a + j) (by simp; omega)
  simp only [Bool.or_eq_true, decide_eq_true_eq, beq_iff_eq] at h2
  rcases h2 with h2 | h2
  · omega
  · unfold okAt at h1
    rw [if_pos h2] at h1
    exact h1
theorem number_at (s : ByteArray) (a b e : Nat) (w : World) (hsh : shape s.data.toList) (hb : b = e) (hp : digPl a e = true) (hl : e - a ≤ 4) :
    Calls Try.prog 39 #[.string (s.extract a b)] w fun e' w' => e' = .returned (.int .i64 (num ((s.data.toList.drop a).take (e - a)))) ∧ w = w' := by
  subst hb
  have hd := ext_digits hsh a b hp
  rw [← ext_list] at hd ⊢
  refine number_any (s.extract a b) w ?_ hd
  rw [ByteArray.size_extract]
  omega

set_option maxHeartbeats 1500000 in
theorem parse_any (s : ByteArray) (w : World) (hs : s.size ≤ 1000) : Calls Try.prog 23 #[.string s] w (ParIs s w) := by
  by_cases hlen : s.size = 16
  case neg =>
    have hne : ((s.size : Int) == 16) = false := by simp; omega
    have hf : ¬ isTxt s.data.toList := fun h => hlen (by have := h.1.1; simpa using this)
    have HF := Lib.hid hf
    clear hf hlen
    go_enter Try.func23, Try.ntmps23
    go_wp2
    go_ret2
    exact ⟨.inr ⟨HF.out, rfl⟩, Below.refl _ _⟩
  have hlt : s.size ≤ 16 ∧ 16 ≤ s.size := by omega
  have hne : ((s.size : Int) == 16) = true := by simp; omega
  have HL := Lib.hid hlen
  clear hlen
  go_enter Try.func23, Try.ntmps23
  go_wp2
  go_loopw [14] (fun i wr => ∃ k : Nat, k ≤ 16 ∧ i = .int .i64 k ∧ (∀ j c, j < k → s.data.toList[j]? = some c → okAt j c = true) ∧ Below w.heap.size w wr) (fun i _ => (16 - intOf i).toNat)
  case atStart => exact ⟨0, by omega, rfl, fun j c hj => by omega, Below.refl _ _⟩
  case round =>
    obtain ⟨k, hk, rfl, hall, hb⟩ := hrel
    have HA := Lib.hid hall
    clear hall
    by_cases hlt2 : k < 16
    · have hks : k < s.size := by omega
      have HB := Lib.hid (byte_at s k hks)
      have hix := fun wx : World => pat_index k hlt2 wx
      have hok : okAt k s[k] = if pat.getD k 0 = 48 then isd s[k] else !isd s[k] && s[k] == pat.getD k 0 := rfl
      have HO := Lib.hid hok
      clear hok
      obtain ⟨p, hp⟩ : ∃ p, p = pat.getD k 0 := ⟨_, rfl⟩
      rw [← hp] at HO
      have hix' : ∀ wx : World, (Instr.index 9 (.string ⟨#[48, 48, 48, 48, 45, 48, 48, 45, 48, 48, 32, 48, 48, 58, 48, 48]⟩) (.int .i64 (k : Int))).run Try.prog wx = .ok (.int .u8 (p.toNat : Int)) wx := fun wx => hp ▸ hix wx
      clear hix hp
      by_cases hc : isd s[k] = true
      · obtain ⟨hc1, hc2⟩ := isd_bd hc
        have hd1 : decide ((48 : Int) ≤ (s[k].toNat : Int)) = true := by simp; omega
        have hd2 : decide ((s[k].toNat : Int) ≤ 57) = true := by simp; omega
        clear hc1 hc2
        by_cases c48 : p = 48
        · have HK := Lib.hid (p := okAt k s[k] = true) (by rw [HO.out, if_pos c48]; exact hc)
          have hp1 : ((p.toNat : Int) == 48) = true := by rw [c48]; rfl
          clear c48 hc
          go_wp2
          go_quiet (fail)
          go_wp2
          go_roundw
          case rel => exact ⟨k + 1, by omega, by go_num, fun j c hj hc => by
            rcases Nat.lt_or_ge j k with q | q
            · exact HA.out j c q hc
            · obtain rfl : j = k := by omega
              rw [HB.out] at hc
              injection hc with hc
              rw [← hc]; exact HK.out, below_drewN hb _⟩
          case measure => simp [intOf]; omega
        · have HK := Lib.hid (p := okAt k s[k] = false) (by rw [HO.out, if_neg c48, hc]; rfl)
          have hp1 : ((p.toNat : Int) == 48) = false := (toNat_ne (b := 48) c48).1
          clear c48 hc
          go_wp2
          go_quiet (fail)
          go_wp2
          go_ret2
          exact ⟨.inr ⟨not_txt hks HK.out, rfl⟩, below_drewN hb _⟩
      · have hcb : s[k].toNat < 48 ∨ (48 ≤ s[k].toNat ∧ 57 < s[k].toNat) := by
          simp [isd] at hc; omega
        have hc' : isd s[k] = false := by simpa using hc
        clear hc
        rcases hcb with hcb | ⟨hcb1, hcb2⟩
        · have hd1 : decide ((48 : Int) ≤ (s[k].toNat : Int)) = false := by simp; omega
          clear hcb
          by_cases c48 : p = 48
          · have HK := Lib.hid (p := okAt k s[k] = false) (by rw [HO.out, if_pos c48]; exact hc')
            have hp1 : ((p.toNat : Int) == 48) = true := by rw [c48]; rfl
            clear c48 hc'
            go_wp2
            go_quiet (fail)
            go_wp2
            go_ret2
            exact ⟨.inr ⟨not_txt hks HK.out, rfl⟩, below_drewN hb _⟩
          · have hp1 : ((p.toNat : Int) == 48) = false := (toNat_ne (b := 48) c48).1
            by_cases ce : s[k] = p
            · have HK := Lib.hid (p := okAt k s[k] = true) (by rw [HO.out, if_neg c48, hc', ce]; simp)
              have he1 : ((s[k].toNat : Int) == (p.toNat : Int)) = true := by rw [ce]; simp
              have he2 : ((s[k].toNat : Int) != (p.toNat : Int)) = false := by rw [ce]; simp
              clear c48 hc' ce
              go_wp2
              go_quiet (fail)
              go_wp2
              go_roundw
              case rel => exact ⟨k + 1, by omega, by go_num, fun j c hj hc => by
                rcases Nat.lt_or_ge j k with q | q
                · exact HA.out j c q hc
                · obtain rfl : j = k := by omega
                  rw [HB.out] at hc
                  injection hc with hc
                  rw [← hc]; exact HK.out, below_drewN hb _⟩
              case measure => simp [intOf]; omega
            · have HK := Lib.hid (p := okAt k s[k] = false) (by rw [HO.out, if_neg c48, hc']; simpa using ce)
              obtain ⟨he1, he2⟩ := toNat_ne ce
              clear c48 hc' ce
              go_wp2
              go_quiet (fail)
              go_wp2
              go_ret2
              exact ⟨.inr ⟨not_txt hks HK.out, rfl⟩, below_drewN hb _⟩
        · have hd1 : decide ((48 : Int) ≤ (s[k].toNat : Int)) = true := by simp; omega
          have hd2 : decide ((s[k].toNat : Int) ≤ 57) = false := by simp; omega
          clear hcb1 hcb2
          by_cases c48 : p = 48
          · have HK := Lib.hid (p := okAt k s[k] = false) (by rw [HO.out, if_pos c48]; exact hc')
            have hp1 : ((p.toNat : Int) == 48) = true := by rw [c48]; rfl
            clear c48 hc'
            go_wp2
            go_quiet (fail)
            go_wp2
            go_ret2
            exact ⟨.inr ⟨not_txt hks HK.out, rfl⟩, below_drewN hb _⟩
          · have hp1 : ((p.toNat : Int) == 48) = false := (toNat_ne (b := 48) c48).1
            by_cases ce : s[k] = p
            · have HK := Lib.hid (p := okAt k s[k] = true) (by rw [HO.out, if_neg c48, hc', ce]; simp)
              have he1 : ((s[k].toNat : Int) == (p.toNat : Int)) = true := by rw [ce]; simp
              have he2 : ((s[k].toNat : Int) != (p.toNat : Int)) = false := by rw [ce]; simp
              clear c48 hc' ce
              go_wp2
              go_quiet (fail)
              go_wp2
              go_roundw
              case rel => exact ⟨k + 1, by omega, by go_num, fun j c hj hc => by
                rcases Nat.lt_or_ge j k with q | q
                · exact HA.out j c q hc
                · obtain rfl : j = k := by omega
                  rw [HB.out] at hc
                  injection hc with hc
                  rw [← hc]; exact HK.out, below_drewN hb _⟩
              case measure => simp [intOf]; omega
            · have HK := Lib.hid (p := okAt k s[k] = false) (by rw [HO.out, if_neg c48, hc']; simpa using ce)
              obtain ⟨he1, he2⟩ := toNat_ne ce
              clear c48 hc' ce
              go_wp2
              go_quiet (fail)
              go_wp2
              go_ret2
              exact ⟨.inr ⟨not_txt hks HK.out, rfl⟩, below_drewN hb _⟩
    · obtain rfl : k = 16 := by omega
      have hsh : shape s.data.toList := ⟨by simpa using HL.out, fun j c hj => HA.out j c (by
        rcases Nat.lt_or_ge j 16 with q | q
        · exact q
        · rw [List.getElem?_eq_none (by have := HL.out; simp; omega)] at hj; cases hj) hj⟩
      have HSH := Lib.hid hsh
      clear hsh
      have hs16 : s.size = 16 := HL.out
      have HS16 := Lib.hid hs16
      clear hs16
      have q4 : (4 : Int) ≤ (s.size : Int) := by omega
      have q7 : (7 : Int) ≤ (s.size : Int) := by omega
      have q10 : (10 : Int) ≤ (s.size : Int) := by omega
      have q13 : (13 : Int) ≤ (s.size : Int) := by omega
      have q14 : (14 : Int) ≤ (s.size : Int) := by omega
      go_wp2
      go_region_held3 (fun _ => True) (exact trivial) (first
        | (go_at_call_of 39 (Value.string (s.extract 14 s.size)); refine (number_at s 14 _ 16 _ HSH.out HS16.out (by decide) (by decide)).mono ?_; rintro e w' ⟨rfl, rfl⟩)
        | (go_at_call_of 39 (Value.string (s.extract 0 4)); refine (number_at s 0 4 4 _ HSH.out rfl (by decide) (by decide)).mono ?_; rintro e w' ⟨rfl, rfl⟩)
        | (go_at_call_of 39 (Value.string (s.extract 5 7)); refine (number_at s 5 7 7 _ HSH.out rfl (by decide) (by decide)).mono ?_; rintro e w' ⟨rfl, rfl⟩)
        | (go_at_call_of 39 (Value.string (s.extract 8 10)); refine (number_at s 8 10 10 _ HSH.out rfl (by decide) (by decide)).mono ?_; rintro e w' ⟨rfl, rfl⟩)
        | (go_at_call_of 39 (Value.string (s.extract 11 13)); refine (number_at s 11 13 13 _ HSH.out rfl (by decide) (by decide)).mono ?_; rintro e w' ⟨rfl, rfl⟩))
      all_goals
        rcases hv : vld (fY s.data.toList) (fM s.data.toList) (fD s.data.toList) (fH s.data.toList) (fI s.data.toList) with _ | _
        · have HV := Lib.hid hv
          clear hv
          go_wp2_with (go_at_call 12; refine (minutes_no _ _ _ _ _ _ HV.out).mono ?_; rintro e w2 ⟨rfl, hb2⟩)
          go_ret2
          exact ⟨.inr ⟨(fun q => by have h1 := q.2; rw [HV.out] at h1; cases h1), rfl⟩, ((hb.alloc hb.size _).drew).trans (hb2.mono (Nat.le_trans hb.size (by simp)))⟩
        · have HV := Lib.hid hv
          clear hv
          go_wp2_with (go_at_call 12; refine (minutes_ok _ _ _ _ _ _ HV.out).mono ?_; rintro e w2 ⟨rfl, hb2⟩)
          go_ret2
          exact ⟨.inl ⟨⟨HSH.out, HV.out⟩, rfl⟩, ((hb.alloc hb.size _).drew).trans (hb2.mono (Nat.le_trans hb.size (by simp)))⟩
end Go.Proofs.Ytnfdpjckdiifkaa
