/-
  The small tests of package words and of its reference: fit, marked, Valid, Bytes: what each answers, for every text.
-/
import Derived.Test.YtanikiheenhaeaaBuf
import Derived.Test.YtanikiheenhaeaaWordsPlain
import Derived.Deep.QuietTactic
import Derived.BigQuiet
namespace Go.Proofs.Ytanikiheenhaeaa
open Go.RowKit

theorem byte_ne {x : UInt8} {n : Nat} {m : Int} (h : ¬ x.toNat = n) (hm : m = n) : ((x.toNat : Int) == m) = false := by
  rw [beq_eq_false_iff_ne]; omega
theorem byte_is {x : UInt8} {n : Nat} {m : Int} (h : x.toNat = n) (hm : m = n) : ((x.toNat : Int) == m) = true := by
  rw [beq_iff_eq]; omega

set_option maxHeartbeats 400000 in
theorem fit_any (x : UInt8) (w : World) : Calls Try.prog 28 #[.int .u8 x.toNat] w fun e w' => e = .returned (.bool (fitB x)) ∧ w = w' := by
  by_cases h1 : 32 < x.toNat
  · by_cases h2 : x.toNat = 127
    · have h3 : ((x.toNat : Int) == 127) = true := byte_is h2 rfl
      have hf : fitB x = false := by simp [fitB, h2]
      have H := Lib.hid h2
      have HF := Lib.hid hf
      clear h2 hf
      go_enter Try.func28, Try.ntmps28
      go_wp2
      go_ret
      exact ⟨ret_bool (by rw [HF.out]; simp [bne, h3]), rfl⟩
    · have h3 : ((x.toNat : Int) == 127) = false := byte_ne h2 rfl
      have hf : fitB x = true := by simp [fitB, h2, h1]
      have HF := Lib.hid hf
      clear h2 hf
      go_enter Try.func28, Try.ntmps28
      go_wp2
      go_ret
      exact ⟨ret_bool (by rw [HF.out]; simp [bne, h3]), rfl⟩
  · have hf : fitB x = false := by simp [fitB]; omega
    have HF := Lib.hid hf
    clear hf
    go_enter Try.func28, Try.ntmps28
    go_wp2
    go_ret
    exact ⟨ret_bool (by rw [HF.out]), rfl⟩

set_option maxHeartbeats 400000 in
theorem marked_any (x : UInt8) (w : World) : Calls Try.prog 25 #[.int .u8 x.toNat] w fun e w' => e = .returned (.bool (markB x)) ∧ w = w' := by
  by_cases h1 : x.toNat = 92
  · have h3 : ((x.toNat : Int) == 92) = true := byte_is h1 rfl
    have hf : markB x = true := by simp [markB, h1]
    have HF := Lib.hid hf
    clear h1 hf
    go_enter Try.func25, Try.ntmps25
    go_wp2
    go_ret
    exact ⟨ret_bool (by rw [HF.out]), rfl⟩
  · by_cases h2 : x.toNat = 47
    · have h3 : ((x.toNat : Int) == 92) = false := byte_ne h1 rfl
      have h4 : ((x.toNat : Int) == 47) = true := byte_is h2 rfl
      have hf : markB x = true := by simp [markB, h2]
      have HF := Lib.hid hf
      clear h1 h2 hf
      go_enter Try.func25, Try.ntmps25
      go_wp2
      go_ret
      exact ⟨ret_bool (by rw [HF.out]), rfl⟩
    · by_cases h5 : x.toNat = 35
      · have h3 : ((x.toNat : Int) == 92) = false := byte_ne h1 rfl
        have h4 : ((x.toNat : Int) == 47) = false := byte_ne h2 rfl
        have h6 : ((x.toNat : Int) == 35) = true := byte_is h5 rfl
        have hf : markB x = true := by simp [markB, h5]
        have HF := Lib.hid hf
        clear h1 h2 h5 hf
        go_enter Try.func25, Try.ntmps25
        go_wp2
        go_ret
        exact ⟨ret_bool (by rw [HF.out]), rfl⟩
      · have h3 : ((x.toNat : Int) == 92) = false := byte_ne h1 rfl
        have h4 : ((x.toNat : Int) == 47) = false := byte_ne h2 rfl
        have h6 : ((x.toNat : Int) == 35) = false := byte_ne h5 rfl
        have hf : markB x = false := by simp [markB, h1, h2, h5]
        have HF := Lib.hid hf
        clear h1 h2 h5 hf
        go_enter Try.func25, Try.ntmps25
        go_wp2
        go_ret
        exact ⟨ret_bool (by rw [HF.out]), rfl⟩

set_option maxHeartbeats 400000 in
theorem refBytes_any (s : ByteArray) (w : World) (hs : s.size ≤ maxLen) :
    Calls Try.prog 29 #[.string s] w fun e w' => e = .returned (.bool (okL s.data.toList)) ∧ w = w' := by
  unfold maxLen at hs
  go_enter Try.func29, Try.ntmps29
  go_wp2
  go_loop [3] (fun i => ∃ k : Nat, k ≤ s.size ∧ i = .int .i64 k ∧ okL s.data.toList = okL (s.data.toList.drop k)) (fun i => s.size - (intOf i).toNat)
  case atStart => exact ⟨0, by omega, rfl, by simp⟩
  case round =>
    obtain ⟨k, hk, rfl, hall⟩ := hrel
    have HA := Lib.hid hall
    clear hall
    by_cases hlt : k < s.size
    · have hd := drop_cons s k hlt
      by_cases h1 : s[k].toNat < 33
      · have hf : fitB s[k] = false := by simp [fitB]; omega
        have e : okL s.data.toList = false := by rw [HA.out, hd, okL_cons, hf]; rfl
        have HE := Lib.hid e
        clear e hf hd
        go_wp2
        go_ret
        exact ⟨ret_bool HE.out.symm, rfl⟩
      · by_cases h2 : s[k].toNat = 127
        · have hf : fitB s[k] = false := by simp [fitB, h2]
          have e : okL s.data.toList = false := by rw [HA.out, hd, okL_cons, hf]; rfl
          have HE := Lib.hid e
          have h3 : ((s[k].toNat : Int) == 127) = true := byte_is h2 rfl
          clear e hf hd h2
          go_wp2
          go_ret
          exact ⟨ret_bool HE.out.symm, rfl⟩
        · have hf : fitB s[k] = true := by simp [fitB, h2]; omega
          have e : okL s.data.toList = okL (s.data.toList.drop (k + 1)) := by rw [HA.out, hd, okL_cons, hf]; rfl
          have HE := Lib.hid e
          have h3 : ((s[k].toNat : Int) == 127) = false := byte_ne h2 rfl
          clear e hf hd h2
          go_wp2
          go_round
          case rel => exact ⟨k + 1, by omega, by go_num, HE.out⟩
          case measure => simp [intOf]; omega
    · have hd := drop_end s k hlt
      have e : okL s.data.toList = true := by rw [HA.out, hd]; rfl
      have HE := Lib.hid e
      clear e hd
      go_wp2
      go_ret
      exact ⟨ret_bool HE.out.symm, rfl⟩
end Go.Proofs.Ytanikiheenhaeaa
