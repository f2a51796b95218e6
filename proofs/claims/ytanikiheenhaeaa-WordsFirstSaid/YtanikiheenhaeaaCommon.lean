import Derived.Test.YtanikiheenhaeaaBytes
import Derived.WalkKit
import Derived.WalkSpells
import Derived.WalkLawsBesides
import Derived.Deep.QuietTactic
import Derived.BigQuiet
namespace Go.Proofs.Ytanikiheenhaeaa
open Go.RowKit

/-- how many bytes both lists begin with -/
def comm : List UInt8 → List UInt8 → Nat
  | x :: l, y :: m => if x = y then comm l m + 1 else 0
  | _, _ => 0

theorem comm_le : ∀ l m : List UInt8, comm l m ≤ l.length ∧ comm l m ≤ m.length
  | [], m => by simp [comm]
  | x :: l, [] => by simp [comm]
  | x :: l, y :: m => by
    have := comm_le l m
    simp only [comm, List.length_cons]
    split <;> omega

set_option maxHeartbeats 400000 in
theorem refCommon_any (a b : ByteArray) (w : World) (ha : a.size ≤ maxLen) (hb : b.size ≤ maxLen) :
    Calls Try.prog 13 #[.string a, .string b] w fun e w' => e = .returned (.int .i64 (comm a.data.toList b.data.toList)) ∧ ∃ n, w' = w.drewN n := by
  unfold maxLen at ha hb
  go_enter Try.func13, Try.ntmps13
  go_wp2
  go_loopw [5] (fun i wr => ∃ k m : Nat, k ≤ a.size ∧ k ≤ b.size ∧ comm a.data.toList b.data.toList = k + comm (a.data.toList.drop k) (b.data.toList.drop k) ∧ i = .int .i64 k ∧ wr = w.drewN m) (fun i _ => a.size - (intOf i).toNat)
  case atStart => exact ⟨0, 0, by omega, by omega, by simp, rfl, rfl⟩
  case round =>
    obtain ⟨k, m, hka, hkb, hc, rfl, rfl⟩ := hrel
    have HC := Lib.hid hc
    clear hc
    by_cases h1 : k < a.size
    · by_cases h2 : k < b.size
      · go_wp2
        go_quiet (fail)
        go_wp2
        · have hy : a[k] = b[k] := byte_yes (by assumption)
          go_roundw
          case rel => exact ⟨k + 1, m + nq, by omega, by omega, by rw [HC.out, drop_cons a k h1, drop_cons b k h2, comm, if_pos hy]; omega, by go_num, rfl⟩
          case measure => simp [intOf]; omega
        · have hy : a[k] ≠ b[k] := byte_no (by assumption)
          go_ret
          exact ⟨ret_int (by rw [HC.out, drop_cons a k h1, drop_cons b k h2, comm, if_neg hy]; omega), m + nq, World.drewN_drewN _ _ _⟩
      · go_wp2
        go_quiet (fail)
        go_wp2
        go_ret
        exact ⟨ret_int (by rw [HC.out, drop_end b k h2]; cases List.drop k a.data.toList <;> simp [comm]), m + nq, World.drewN_drewN _ _ _⟩
    · go_wp2
      go_quiet (fail)
      go_wp2
      go_ret
      exact ⟨ret_int (by rw [HC.out, drop_end a k h1]; simp [comm]), m + nq, World.drewN_drewN _ _ _⟩

set_option maxHeartbeats 400000 in
theorem common_any (a b : ByteArray) (w : World) (ha : a.size ≤ maxLen) (hb : b.size ≤ maxLen) :
    Calls Try.prog 12 #[.string a, .string b] w fun e w' => e = .returned (.int .i64 (comm a.data.toList b.data.toList)) ∧ ∃ n, w' = w.drewN n := by
  unfold maxLen at ha hb
  go_enter Try.func12, Try.ntmps12
  go_wp2
  go_loopw [5] (fun i wr => ∃ k m : Nat, k ≤ a.size ∧ k ≤ b.size ∧ comm a.data.toList b.data.toList = k + comm (a.data.toList.drop k) (b.data.toList.drop k) ∧ i = .int .i64 k ∧ wr = w.drewN m) (fun i _ => a.size - (intOf i).toNat)
  case atStart => exact ⟨0, 0, by omega, by omega, by simp, rfl, rfl⟩
  case round =>
    obtain ⟨k, m, hka, hkb, hc, rfl, rfl⟩ := hrel
    have HC := Lib.hid hc
    clear hc
    by_cases hba : b.size < a.size
    · by_cases h2 : k < b.size
      · have h1 : k < a.size := by omega
        go_wp2
        go_quiet (fail)
        go_wp2
        · have hy : a[k] = b[k] := byte_yes (by assumption)
          go_roundw
          case rel => exact ⟨k + 1, m + nq, by omega, by omega, by rw [HC.out, drop_cons a k h1, drop_cons b k h2, comm, if_pos hy]; omega, by go_num, rfl⟩
          case measure => simp [intOf]; omega
        · have hy : a[k] ≠ b[k] := byte_no (by assumption)
          go_ret
          exact ⟨ret_int (by rw [HC.out, drop_cons a k h1, drop_cons b k h2, comm, if_neg hy]; omega), m + nq, World.drewN_drewN _ _ _⟩
      · go_wp2
        go_quiet (fail)
        go_wp2
        go_ret
        exact ⟨ret_int (by rw [HC.out, drop_end b k h2]; cases List.drop k a.data.toList <;> simp [comm]), m + nq, World.drewN_drewN _ _ _⟩
    · by_cases h1 : k < a.size
      · have h2 : k < b.size := by omega
        go_wp2
        go_quiet (fail)
        go_wp2
        · have hy : a[k] = b[k] := byte_yes (by assumption)
          go_roundw
          case rel => exact ⟨k + 1, m + nq, by omega, by omega, by rw [HC.out, drop_cons a k h1, drop_cons b k h2, comm, if_pos hy]; omega, by go_num, rfl⟩
          case measure => simp [intOf]; omega
        · have hy : a[k] ≠ b[k] := byte_no (by assumption)
          go_ret
          exact ⟨ret_int (by rw [HC.out, drop_cons a k h1, drop_cons b k h2, comm, if_neg hy]; omega), m + nq, World.drewN_drewN _ _ _⟩
      · go_wp2
        go_quiet (fail)
        go_wp2
        go_ret
        exact ⟨ret_int (by rw [HC.out, drop_end a k h1]; simp [comm]), m + nq, World.drewN_drewN _ _ _⟩
end Go.Proofs.Ytanikiheenhaeaa
