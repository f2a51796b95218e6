/-
  words.Valid and the reference's Valid: a text of 1 to 64 bytes, all fit; for every text.
-/
import Derived.Test.YtanikiheenhaeaaFit
namespace Go.Proofs.Ytanikiheenhaeaa
open Go.RowKit

def validL (l : List UInt8) : Bool := decide (1 ≤ l.length) && decide (l.length ≤ 64) && okL l
theorem validL_no {l : List UInt8} (h : ¬ (1 ≤ l.length ∧ l.length ≤ 64)) : validL l = false := by
  simp only [validL]
  by_cases h1 : 1 ≤ l.length
  · by_cases h2 : l.length ≤ 64
    · exact absurd ⟨h1, h2⟩ h
    · simp [h2]
  · simp [h1]
theorem validL_yes {l : List UInt8} (h1 : 1 ≤ l.length) (h2 : l.length ≤ 64) : validL l = okL l := by simp [validL, h1, h2]

set_option maxHeartbeats 400000 in
theorem refValid_any (s : ByteArray) (w : World) (hs : s.size ≤ maxLen) :
    Calls Try.prog 22 #[.string s] w fun e w' => e = .returned (.bool (validL s.data.toList)) ∧ w = w' := by
  have hl := len_eq s
  have hs' := hs
  unfold maxLen at hs'
  by_cases h1 : s.size < 1
  · have e := validL_no (l := s.data.toList) (by omega)
    have HE := Lib.hid e
    clear e hl
    go_enter Try.func22, Try.ntmps22
    go_wp2_with fail
    go_ret
    exact ⟨ret_bool HE.out.symm, rfl⟩
  · by_cases h2 : 64 < s.size
    · have e := validL_no (l := s.data.toList) (by omega)
      have HE := Lib.hid e
      clear e hl
      go_enter Try.func22, Try.ntmps22
      go_wp2_with fail
      go_ret
      exact ⟨ret_bool HE.out.symm, rfl⟩
    · have e := validL_yes (l := s.data.toList) (by omega) (by omega)
      have HE := Lib.hid e
      clear e hl
      go_enter Try.func22, Try.ntmps22
      go_wp2_with fail
      refine (refBytes_any s _ hs).mono ?_
      rintro e w' ⟨rfl, rfl⟩
      go_wp2_with fail
      go_ret
      exact ⟨ret_bool HE.out.symm, rfl⟩

set_option maxHeartbeats 400000 in
theorem valid_any (s : ByteArray) (w : World) (hs : s.size ≤ maxLen) :
    Calls Try.prog 21 #[.string s] w fun e w' => e = .returned (.bool (validL s.data.toList)) ∧ w = w' := by
  have hl := len_eq s
  unfold maxLen at hs
  have e0 : s.toList = s.data.toList := Lib.toList_data s
  by_cases h1 : s.size < 1
  · have e := validL_no (l := s.data.toList) (by omega)
    have HE := Lib.hid e
    have h0 : s.toList = [] := by rw [e0]; exact List.eq_nil_of_length_eq_zero (by omega)
    clear e hl e0
    go_enter Try.func21, Try.ntmps21
    go_wp2_with fail
    go_ret
    exact ⟨ret_bool HE.out.symm, rfl⟩
  · have h0 : (!s.toList.isEmpty) = true := by
      rw [e0]
      cases h : s.data.toList with
      | nil => rw [h] at hl; simp at hl; omega
      | cons x l => rfl
    have h00 : s.toList.isEmpty = false := by simpa using h0
    by_cases h2 : 64 < s.size
    · have e := validL_no (l := s.data.toList) (by omega)
      have HE := Lib.hid e
      clear e hl e0
      go_enter Try.func21, Try.ntmps21
      go_wp2_with fail
      go_ret
      exact ⟨ret_bool HE.out.symm, rfl⟩
    · have e := validL_yes (l := s.data.toList) (by omega) (by omega)
      have HE := Lib.hid e
      clear e hl e0
      go_enter Try.func21, Try.ntmps21
      go_wp2_with fail
      go_loop [13] (fun i => ∃ k : Nat, k ≤ s.size ∧ i = .int .i64 k ∧ validL s.data.toList = okL (s.data.toList.drop k)) (fun i => s.size - (intOf i).toNat)
      case atStart => exact ⟨0, by omega, rfl, by rw [HE.out]; simp⟩
      case round =>
        obtain ⟨k, hk, rfl, hall⟩ := hrel
        have HA := Lib.hid hall
        clear hall
        by_cases hlt : k < s.size
        · have hd := drop_cons s k hlt
          cases hf : fitB s[k] with
          | true =>
            have e : validL s.data.toList = okL (s.data.toList.drop (k + 1)) := by rw [HA.out, hd, okL_cons, hf]; rfl
            have HE := Lib.hid e
            have hfit := fit_any s[k]
            rw [hf] at hfit
            have HF := Lib.hid hfit
            clear e hf hd hfit
            go_wp2_with fail
            refine (HF.out _).mono ?_
            rintro e w' ⟨rfl, rfl⟩
            go_wp2_with fail
            go_round
            case rel => exact ⟨k + 1, by omega, by go_num, HE.out⟩
            case measure => simp [intOf]; omega
          | false =>
            have e : validL s.data.toList = false := by rw [HA.out, hd, okL_cons, hf]; rfl
            have HE := Lib.hid e
            have hfit := fit_any s[k]
            rw [hf] at hfit
            have HF := Lib.hid hfit
            clear e hf hd hfit
            go_wp2_with fail
            refine (HF.out _).mono ?_
            rintro e w' ⟨rfl, rfl⟩
            go_wp2_with fail
            go_ret
            exact ⟨ret_bool HE.out.symm, rfl⟩
        · have hd := drop_end s k hlt
          have e : validL s.data.toList = true := by rw [HA.out, hd]; rfl
          have HE := Lib.hid e
          clear e hd
          go_wp2_with fail
          go_ret
          exact ⟨ret_bool HE.out.symm, rfl⟩
end Go.Proofs.Ytanikiheenhaeaa
