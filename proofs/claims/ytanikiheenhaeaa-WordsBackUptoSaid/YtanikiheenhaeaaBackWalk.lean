/-
  The walk of the law WordsBack: it returns true; texts of together at most 1048576 bytes.
-/
import Derived.Test.YtanikiheenhaeaaReadLaws
namespace Go.Proofs.Ytanikiheenhaeaa
open Go.RowKit

theorem read_back_slash (a b : ByteArray) (w : World) (h : a.size + b.size ≤ 1048576) :
    Calls Try.prog 23 #[.string (⟨(writeL a.data.toList).toArray⟩ ++ ⟨#[47]⟩ ++ b)] w fun e w' => e = .returned (.tuple #[.string a, .string b, .bool true, .int .i64 0]) ∧ Below w.heap.size w w' := by
  have hl := writeL_len a.data.toList
  rw [len_eq] at hl
  have K := read_any (⟨(writeL a.data.toList).toArray⟩ ++ ⟨#[47]⟩ ++ b) w (by rw [add_size, add_size, mk_size]; have : (⟨#[47]⟩ : ByteArray).size = 1 := rfl; omega)
  rw [add_list, add_list, mk_list, show (⟨#[47]⟩ : ByteArray).data.toList = [47] from rfl, List.append_assoc, List.singleton_append, read_write_slash] at K
  simp only [readV, mk_self] at K
  exact K
theorem read_back_end (a : ByteArray) (w : World) (h : a.size ≤ 1048576) :
    Calls Try.prog 23 #[.string ⟨(writeL a.data.toList).toArray⟩] w fun e w' => e = .returned (.tuple #[.string a, .string ⟨#[]⟩, .bool false, .int .i64 0]) ∧ Below w.heap.size w w' := by
  have hl := writeL_len a.data.toList
  rw [len_eq] at hl
  have K := read_any ⟨(writeL a.data.toList).toArray⟩ w (by rw [mk_size]; omega)
  rw [mk_list, read_write_end] at K
  simp only [readV, mk_self] at K
  exact K

set_option maxHeartbeats 1000000 in
theorem wordsBack_walk (a b : ByteArray) (w : World) (hs : a.size + b.size ≤ 1048576) :
    Calls Try.prog 11 #[.string a, .string b] w fun e w' => e = .returned (.bool true) ∧ Below w.heap.size w w' := by
  go_enter Try.func11, Try.ntmps11
  go_wp2_with fail
  refine (wakes02_any _).mono ?_
  rintro e w1 ⟨rfl, hb1⟩
  go_wp2_with fail
  have K3 := fun w => read_back_slash a b w hs
  have K4 := fun w => read_back_end a w (by omega)
  refine (write_any _ _ (by omega)).mono ?_
  rintro e w2 ⟨rfl, hb2⟩
  have hq1 : (⟨(writeL a.data.toList).toArray⟩ : ByteArray).size ≤ 2097152 := by
    have hl := writeL_len a.data.toList
    rw [len_eq] at hl
    rw [mk_size]
    omega
  generalize (⟨(writeL a.data.toList).toArray⟩ : ByteArray) = q at hq1 K3 K4
  have H3 := Lib.hid K3
  have H4 := Lib.hid K4
  clear K3 K4
  go_wp2_with fail
  refine (H3.out _).mono ?_
  rintro e w3 ⟨rfl, hb3⟩
  go_wp2_with fail
  refine (H4.out _).mono ?_
  rintro e w4 ⟨rfl, hb4⟩
  go_wp2_with fail
  go_ret
  exact ⟨ret_bool (by simp), below_next (below_next (below_next hb1 hb2) hb3) hb4⟩
end Go.Proofs.Ytanikiheenhaeaa
