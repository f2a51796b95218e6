import Derived.Test.YtanikiheenhaeaaRows
import Derived.Lib.Hide
import Derived.Below
namespace Go.Proofs.Ytanikiheenhaeaa
open Go.RowKit
/-! Small facts on byte arrays, as lists: no program. -/
theorem len_eq (s : ByteArray) : s.data.toList.length = s.size := by rw [Array.length_toList]; rfl
theorem drop_cons (s : ByteArray) (k : Nat) (h : k < s.size) : s.data.toList.drop k = s[k] :: s.data.toList.drop (k + 1) := by
  rw [List.drop_eq_getElem_cons (by rw [len_eq]; exact h)]; rfl
theorem drop_end (s : ByteArray) (k : Nat) (h : ¬ k < s.size) : s.data.toList.drop k = [] :=
  List.drop_eq_nil_of_le (by rw [len_eq]; omega)
theorem take_snoc (s : ByteArray) (k : Nat) (h : k < s.size) : s.data.toList.take (k + 1) = s.data.toList.take k ++ [s[k]] := by
  rw [List.take_succ_eq_append_getElem (by rw [len_eq]; exact h)]; rfl
theorem take_all (s : ByteArray) (k : Nat) (h : ¬ k < s.size) : s.data.toList.take k = s.data.toList :=
  List.take_of_length_le (by rw [len_eq]; omega)
theorem byte_yes {x y : UInt8} (h : ((x.toNat : Int) == (y.toNat : Int)) = true) : x = y := by
  have h := eq_of_beq h
  exact UInt8.toNat_inj.1 (by omega)
theorem byte_no {x y : UInt8} (h : ((x.toNat : Int) == (y.toNat : Int)) = false) : x ≠ y := by
  rintro rfl
  simp at h
theorem ret_int {k : IntKind} {a b : Int} (h : a = b) : Ending.returned (.int k a) = .returned (.int k b) := by rw [h]
theorem ret_bool {a b : Bool} (h : a = b) : Ending.returned (.bool a) = .returned (.bool b) := by rw [h]
theorem ret_str {s : ByteArray} {l : List UInt8} (h : s.data.toList = l) : Ending.returned (.string s) = .returned (.string ⟨l.toArray⟩) := by rw [← h]
end Go.Proofs.Ytanikiheenhaeaa
