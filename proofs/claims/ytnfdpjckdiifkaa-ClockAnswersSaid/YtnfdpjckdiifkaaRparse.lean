/-
  The reference's Parse returns the minute of a text, and the error ErrSyntax (3) of another string.
-/
import Derived.Test.YtnfdpjckdiifkaaParse
namespace Go.Proofs.Ytnfdpjckdiifkaa
open Go.RowKit Txt Cal

theorem numR_pos {l : List UInt8} (h : ∀ c ∈ l, isd c = true) : numR l = num l := by
  unfold numR; rw [if_pos (List.all_eq_true.2 h)]
theorem numR_dig {l : List UInt8} (h : 0 ≤ numR l) : ∀ c ∈ l, isd c = true := by
  unfold numR at h
  split at h
  · rename_i q; exact List.all_eq_true.1 q
  · omega

/-- the fields as the reference reads them -/
def rV (l : List UInt8) : Bool := vld (numR (l.take 4)) (numR ((l.drop 5).take 2)) (numR ((l.drop 8).take 2)) (numR ((l.drop 11).take 2)) (numR ((l.drop 14).take 2))
def rM (l : List UInt8) : Int := mnt (numR (l.take 4)) (numR ((l.drop 5).take 2)) (numR ((l.drop 8).take 2)) (numR ((l.drop 11).take 2)) (numR ((l.drop 14).take 2))

theorem shape_fields {l : List UInt8} (h : shape l) : numR (l.take 4) = fY l ∧ numR ((l.drop 5).take 2) = fM l ∧ numR ((l.drop 8).take 2) = fD l ∧ numR ((l.drop 11).take 2) = fH l ∧ numR ((l.drop 14).take 2) = fI l :=
  ⟨numR_pos (ext_digits h 0 4 (by decide)), numR_pos (ext_digits h 5 7 (by decide)), numR_pos (ext_digits h 8 10 (by decide)), numR_pos (ext_digits h 11 13 (by decide)), numR_pos (ext_digits h 14 16 (by decide))⟩
theorem rV_shape {l : List UInt8} (h : shape l) : rV l = vld (fY l) (fM l) (fD l) (fH l) (fI l) ∧ rM l = parsed l := by
  obtain ⟨a, b, c, d, e⟩ := shape_fields h
  unfold rV rM parsed
  rw [a, b, c, d, e]
  exact ⟨rfl, rfl⟩
theorem mem_field {l : List UInt8} {k a n : Nat} {c : UInt8} (h : l[k]? = some c) (h1 : a ≤ k) (h2 : k < a + n) : c ∈ (l.drop a).take n := by
  refine List.mem_iff_getElem?.2 ⟨k - a, ?_⟩
  rw [List.getElem?_take, if_pos (by omega), List.getElem?_drop, show a + (k - a) = k from by omega]
  exact h
theorem shape_of {l : List UInt8} (h16 : l.length = 16) (s4 : l[4]? = some 45) (s7 : l[7]? = some 45) (s10 : l[10]? = some 32) (s13 : l[13]? = some 58) (hv : rV l = true) : shape l := by
  obtain ⟨g1, g2, g3, g4, g5, g6, g7, g8, g9, g10, g11⟩ := vld_all hv
  have dY := numR_dig (l := l.take 4) (by omega)
  have dM := numR_dig (l := (l.drop 5).take 2) (by omega)
  have dD := numR_dig (l := (l.drop 8).take 2) (by omega)
  have dH := numR_dig (l := (l.drop 11).take 2) (by omega)
  have dI := numR_dig (l := (l.drop 14).take 2) (by omega)
  refine ⟨h16, fun k c hc => ?_⟩
  have hk : k < 16 := by
    rcases Nat.lt_or_ge k 16 with q | q
    · exact q
    · rw [List.getElem?_eq_none (by omega)] at hc; cases hc
  have hcs : k < 4 ∨ k = 4 ∨ (5 ≤ k ∧ k < 7) ∨ k = 7 ∨ (8 ≤ k ∧ k < 10) ∨ k = 10 ∨ (11 ≤ k ∧ k < 13) ∨ k = 13 ∨ (14 ≤ k ∧ k < 16) := by omega
  have dig : pat.getD k 0 = 48 → isd c = true → okAt k c = true := fun a b => by unfold okAt; rw [if_pos a]; exact b
  have p48 : ∀ a b, digPl a b = true → a ≤ k → k < b → pat.getD k 0 = 48 := by
    intro a b hp h1 h2
    have h3 := List.all_eq_true.1 hp k (by simp; omega)
    simp only [Bool.or_eq_true, decide_eq_true_eq, beq_iff_eq] at h3
    rcases h3 with h3 | h3
    · omega
    · exact h3
  rcases hcs with q | rfl | q | rfl | q | rfl | q | rfl | q
  · exact dig (p48 0 4 (by decide) (by omega) (by omega)) (dY c (mem_field (a := 0) (n := 4) hc (by omega) (by omega)))
  · rw [s4] at hc; injection hc with hc; rw [← hc]; decide
  · exact dig (p48 5 7 (by decide) (by omega) (by omega)) (dM c (mem_field hc (by omega) (by omega)))
  · rw [s7] at hc; injection hc with hc; rw [← hc]; decide
  · exact dig (p48 8 10 (by decide) (by omega) (by omega)) (dD c (mem_field hc (by omega) (by omega)))
  · rw [s10] at hc; injection hc with hc; rw [← hc]; decide
  · exact dig (p48 11 13 (by decide) (by omega) (by omega)) (dH c (mem_field hc (by omega) (by omega)))
  · rw [s13] at hc; injection hc with hc; rw [← hc]; decide
  · exact dig (p48 14 16 (by decide) (by omega) (by omega)) (dI c (mem_field hc (by omega) (by omega)))

theorem rnumber_at (s : ByteArray) (a b e : Nat) (w : World) (hb : b = e) (hl : e - a ≤ 4) :
    Calls Try.prog 43 #[.string (s.extract a b)] w fun e' w' => e' = .returned (.int .i64 (numR ((s.data.toList.drop a).take (e - a)))) ∧ w = w' := by
  subst hb
  rw [← ext_list]
  refine rnumber_any (s.extract a b) w ?_
  rw [ByteArray.size_extract]
  omega

/-- a separator that does not fit -/
theorem sep_bad {s : ByteArray} {k : Nat} (h : k < s.size) (hp : pat.getD k 0 ≠ 48) (hn : s[k] ≠ pat.getD k 0) : ¬ isTxt s.data.toList :=
  not_txt h (by unfold okAt; rw [if_neg hp]; simp; exact fun _ => hn)

set_option maxHeartbeats 4000000 in
theorem rparse_any (s : ByteArray) (w : World) (hs : s.size ≤ 1000) : Calls Try.prog 30 #[.string s] w (ParIs s w) := by
  by_cases hlen : s.size = 16
  case neg =>
    have hne : ((s.size : Int) == 16) = false := by simp; omega
    have hne2 : ((s.size : Int) != 16) = true := by simp; omega
    have hf : ¬ isTxt s.data.toList := fun h => hlen (by have := h.1.1; simpa using this)
    have HF := Lib.hid hf
    clear hf hlen
    go_enter Try.func30, Try.ntmps30
    go_wp2
    go_ret2
    exact ⟨.inr ⟨HF.out, rfl⟩, Below.refl _ _⟩
  have hne : ((s.size : Int) == 16) = true := by simp; omega
  have hne2 : ((s.size : Int) != 16) = false := by simp; omega
  have q4 : (4 : Int) < (s.size : Int) := by omega
  have q7 : (7 : Int) < (s.size : Int) := by omega
  have q10 : (10 : Int) < (s.size : Int) := by omega
  have q13 : (13 : Int) < (s.size : Int) := by omega
  have q14 : (14 : Int) ≤ (s.size : Int) := by omega
  have p4 : 4 < s.size := by omega
  have p7 : 7 < s.size := by omega
  have p10 : 10 < s.size := by omega
  have p13 : 13 < s.size := by omega
  have HL := Lib.hid hlen
  clear hlen
  by_cases c4 : s[4] = 45
  case neg =>
    have HF := Lib.hid (sep_bad p4 (by decide) c4)
    obtain ⟨e1, e2⟩ := toNat_ne (b := 45) c4
    have e1' : ((s[4].toNat : Int) == 45) = false := e1
    have e2' : ((s[4].toNat : Int) != 45) = true := e2
    clear c4 e1 e2
    go_enter Try.func30, Try.ntmps30
    go_wp2
    go_ret2
    exact ⟨.inr ⟨HF.out, rfl⟩, Below.refl _ _⟩
  have t4 : ((s[4].toNat : Int) == 45) = true := by rw [c4]; rfl
  have t4' : ((s[4].toNat : Int) != 45) = false := by rw [c4]; rfl
  by_cases c7 : s[7] = 45
  case neg =>
    have HF := Lib.hid (sep_bad p7 (by decide) c7)
    obtain ⟨e1, e2⟩ := toNat_ne (b := 45) c7
    have e1' : ((s[7].toNat : Int) == 45) = false := e1
    have e2' : ((s[7].toNat : Int) != 45) = true := e2
    clear c4 c7 e1 e2
    go_enter Try.func30, Try.ntmps30
    go_wp2
    go_ret2
    exact ⟨.inr ⟨HF.out, rfl⟩, Below.refl _ _⟩
  have t7 : ((s[7].toNat : Int) == 45) = true := by rw [c7]; rfl
  have t7' : ((s[7].toNat : Int) != 45) = false := by rw [c7]; rfl
  by_cases c10 : s[10] = 32
  case neg =>
    have HF := Lib.hid (sep_bad p10 (by decide) c10)
    obtain ⟨e1, e2⟩ := toNat_ne (b := 32) c10
    have e1' : ((s[10].toNat : Int) == 32) = false := e1
    have e2' : ((s[10].toNat : Int) != 32) = true := e2
    clear c4 c7 c10 e1 e2
    go_enter Try.func30, Try.ntmps30
    go_wp2
    go_ret2
    exact ⟨.inr ⟨HF.out, rfl⟩, Below.refl _ _⟩
  have t10 : ((s[10].toNat : Int) == 32) = true := by rw [c10]; rfl
  have t10' : ((s[10].toNat : Int) != 32) = false := by rw [c10]; rfl
  by_cases c13 : s[13] = 58
  case neg =>
    have HF := Lib.hid (sep_bad p13 (by decide) c13)
    obtain ⟨e1, e2⟩ := toNat_ne (b := 58) c13
    have e1' : ((s[13].toNat : Int) == 58) = false := e1
    have e2' : ((s[13].toNat : Int) != 58) = true := e2
    clear c4 c7 c10 c13 e1 e2
    go_enter Try.func30, Try.ntmps30
    go_wp2
    go_ret2
    exact ⟨.inr ⟨HF.out, rfl⟩, Below.refl _ _⟩
  have t13 : ((s[13].toNat : Int) == 58) = true := by rw [c13]; rfl
  have t13' : ((s[13].toNat : Int) != 58) = false := by rw [c13]; rfl
  have b4 : s.data.toList[4]? = some 45 := c4 ▸ byte_at s 4 p4
  have b7 : s.data.toList[7]? = some 45 := c7 ▸ byte_at s 7 p7
  have b10 : s.data.toList[10]? = some 32 := c10 ▸ byte_at s 10 p10
  have b13 : s.data.toList[13]? = some 58 := c13 ▸ byte_at s 13 p13
  have hsh : rV s.data.toList = true → shape s.data.toList := shape_of (by simpa using HL.out) b4 b7 b10 b13
  have HSH := Lib.hid hsh
  clear hsh b4 b7 b10 b13 c4 c7 c10 c13
  rcases hv : rV s.data.toList with _ | _
  · have HV := Lib.hid hv
    have HV2 : Hid (vld (numR (s.data.toList.take 4)) (numR ((s.data.toList.drop 5).take 2)) (numR ((s.data.toList.drop 8).take 2)) (numR ((s.data.toList.drop 11).take 2)) (numR ((s.data.toList.drop 14).take 2)) = false) := hv
    clear hv
    go_enter Try.func30, Try.ntmps30
    go_wp2
    go_outline
    refine wp_region_near (by kernel_rfl) (by kernel_rfl) ?_
    repeat (go_big_quiet_step (first | (go_at_call_of 43 (Value.string (s.extract 14 s.size)); exact near_same (rnumber_at s 14 _ 16 _ HL.out (by decide))) | (go_at_call_of 43 (Value.string (s.extract 0 4)); exact near_same (rnumber_at s 0 4 4 _ rfl (by decide))) | (go_at_call_of 43 (Value.string (s.extract 5 7)); exact near_same (rnumber_at s 5 7 7 _ rfl (by decide))) | (go_at_call_of 43 (Value.string (s.extract 8 10)); exact near_same (rnumber_at s 8 10 10 _ rfl (by decide))) | (go_at_call_of 43 (Value.string (s.extract 11 13)); exact near_same (rnumber_at s 11 13 13 _ rfl (by decide))) | (go_at_call 13; exact near_of (rminutes_no _ _ _ _ _ _ HV2.out))))
    refine wpQuiet_nil ?_
    rintro ⟨w1, hb1⟩
    go_wp2
    go_ret2
    exact ⟨.inr ⟨(fun q => by have h1 := (rV_shape q.1).1; rw [HV.out, q.2] at h1; cases h1), rfl⟩, hb1⟩
  · have HV := Lib.hid hv
    have HV2 : Hid (vld (numR (s.data.toList.take 4)) (numR ((s.data.toList.drop 5).take 2)) (numR ((s.data.toList.drop 8).take 2)) (numR ((s.data.toList.drop 11).take 2)) (numR ((s.data.toList.drop 14).take 2)) = true) := hv
    clear hv
    go_enter Try.func30, Try.ntmps30
    go_wp2
    refine wp_region_near (by kernel_rfl) (by kernel_rfl) ?_
    repeat (go_big_quiet_step (first | (go_at_call_of 43 (Value.string (s.extract 14 s.size)); exact near_same (rnumber_at s 14 _ 16 _ HL.out (by decide))) | (go_at_call_of 43 (Value.string (s.extract 0 4)); exact near_same (rnumber_at s 0 4 4 _ rfl (by decide))) | (go_at_call_of 43 (Value.string (s.extract 5 7)); exact near_same (rnumber_at s 5 7 7 _ rfl (by decide))) | (go_at_call_of 43 (Value.string (s.extract 8 10)); exact near_same (rnumber_at s 8 10 10 _ rfl (by decide))) | (go_at_call_of 43 (Value.string (s.extract 11 13)); exact near_same (rnumber_at s 11 13 13 _ rfl (by decide))) | (go_at_call 13; exact near_of (rminutes_ok _ _ _ _ _ _ HV2.out))))
    refine wpQuiet_nil ?_
    rintro ⟨w1, hb1⟩
    go_wp2
    go_ret2
    have hr := rV_shape (HSH.out HV.out)
    exact ⟨.inl ⟨⟨HSH.out HV.out, by rw [← hr.1]; exact HV.out⟩, ret_tup hr.2 rfl⟩, hb1⟩
end Go.Proofs.Ytnfdpjckdiifkaa
