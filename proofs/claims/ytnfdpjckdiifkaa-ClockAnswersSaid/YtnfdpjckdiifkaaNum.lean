/-
  clock.number returns the number of digits; the reference's number returns it, too, and -1 if a byte is no digit.
-/
import Derived.Test.YtnfdpjckdiifkaaTxt
import Derived.Test.YtnfdpjckdiifkaaBase
namespace Go.Proofs.Ytnfdpjckdiifkaa
open Go.RowKit Txt

theorem byte_take (s : ByteArray) (k : Nat) (h : k < s.size) : s.data.toList.take (k + 1) = s.data.toList.take k ++ [s[k]] := by
  rw [List.take_succ_eq_append_getElem (by simpa using h)]; rfl

theorem byte_mem (s : ByteArray) (k : Nat) (h : k < s.size) : s[k] ∈ s.data.toList := List.getElem_mem (l := s.data.toList) (n := k) (by simpa using h)

set_option maxHeartbeats 400000 in
theorem number_any (s : ByteArray) (w : World) (hs : s.size ≤ 4) (hd : ∀ c ∈ s.data.toList, isd c = true) :
    Calls Try.prog 39 #[.string s] w fun e w' => e = .returned (.int .i64 (num s.data.toList)) ∧ w = w' := by
  have HD := Lib.hid hd
  clear hd
  go_enter Try.func39, Try.ntmps39
  go_wp2
  go_loop [3, 7] (fun n i => ∃ k : Nat, k ≤ s.size ∧ i = .int .i64 k ∧ n = .int .i64 (num (s.data.toList.take k))) (fun _ i => s.size - (intOf i).toNat)
  case atStart => exact ⟨0, Nat.zero_le _, rfl, rfl⟩
  case round =>
    obtain ⟨k, hk, rfl, rfl⟩ := hrel
    have hb := num_take_bd s.data.toList HD.out k (by simpa using hk)
    have hb2 : bd k ≤ 9999 := bd_mono (j := k) (k := 4) (by omega)
    by_cases hlt : k < s.size
    · have HS : Hid (num (s.data.toList.take (k + 1)) = 10 * num (s.data.toList.take k) + ((s[k].toNat : Int) - 48)) := by rw [byte_take s k hlt]; exact num_snoc _ _
      have hc := isd_bd (HD.out s[k] (byte_mem s k hlt))
      obtain ⟨hc1, hc2⟩ := hc
      go_wp2
      go_round
      case rel => exact ⟨k + 1, by omega, by go_num, by rw [HS.out]⟩
      case measure => simp [intOf]; omega
    · go_wp2
      go_ret
      exact ⟨ret_int (by rw [List.take_of_length_le (by simp; omega)]), rfl⟩

/-- what the reference's number returns -/
def numR (l : List UInt8) : Int := if l.all isd = true then num l else -1

set_option maxHeartbeats 400000 in
theorem rnumber_any (s : ByteArray) (w : World) (hs : s.size ≤ 4) :
    Calls Try.prog 43 #[.string s] w fun e w' => e = .returned (.int .i64 (numR s.data.toList)) ∧ w = w' := by
  go_enter Try.func43, Try.ntmps43
  go_wp2
  go_loop [3, 4] (fun n i => ∃ k : Nat, k ≤ s.size ∧ i = .int .i64 k ∧ n = .int .i64 (num (s.data.toList.take k)) ∧ 0 ≤ num (s.data.toList.take k) ∧ num (s.data.toList.take k) ≤ bd k ∧ (∀ c ∈ s.data.toList.take k, isd c = true)) (fun _ i => s.size - (intOf i).toNat)
  case atStart => exact ⟨0, Nat.zero_le _, rfl, rfl, Int.le_refl _, Int.le_refl _, fun c h => by cases h⟩
  case round =>
    obtain ⟨k, hk, rfl, rfl, hb0, hb1, hall⟩ := hrel
    have HA := Lib.hid hall
    clear hall
    have hb2 : bd k ≤ 9999 := bd_mono (j := k) (k := 4) (by omega)
    by_cases hlt : k < s.size
    · have HT : Hid (s.data.toList.take (k + 1) = s.data.toList.take k ++ [s[k]]) := byte_take s k hlt
      by_cases hc : isd s[k] = true
      · have hcb := isd_bd hc
        obtain ⟨hc1, hc2⟩ := hcb
        have HC := Lib.hid hc
        clear hc
        go_wp2
        go_round
        case rel =>
          have hn := num_snoc (s.data.toList.take k) s[k]
          refine ⟨k + 1, by omega, by go_num, ?_, ?_, ?_, ?_⟩
          · rw [HT.out, hn]; go_num
          · rw [HT.out, hn]; omega
          · rw [HT.out, hn]; simp only [bd]; omega
          · rw [HT.out]
            intro c h
            rcases List.mem_append.1 h with h | h
            · exact HA.out c h
            · rw [List.mem_singleton.1 h]; exact HC.out
        case measure => simp [intOf]; omega
      · have hr : numR s.data.toList = -1 := by
          unfold numR
          rw [if_neg]
          intro h
          exact hc (List.all_eq_true.1 h _ (byte_mem s k hlt))
        have HR := Lib.hid hr
        have hcb : s[k].toNat < 48 ∨ 57 < s[k].toNat := by
          simp [isd] at hc; omega
        clear hc hr
        rcases hcb with hcb | hcb
        · go_wp2
          go_ret
          exact ⟨ret_int HR.out.symm, rfl⟩
        · go_wp2
          all_goals
            go_ret
            exact ⟨ret_int HR.out.symm, rfl⟩
    · have e : s.data.toList.take k = s.data.toList := List.take_of_length_le (by simp; omega)
      have hr : numR s.data.toList = num (s.data.toList.take k) := by
        unfold numR
        rw [if_pos (List.all_eq_true.2 (e ▸ HA.out)), e]
      have HR := Lib.hid hr
      clear e hr
      go_wp2
      go_ret
      exact ⟨ret_int HR.out.symm, rfl⟩
end Go.Proofs.Ytnfdpjckdiifkaa
