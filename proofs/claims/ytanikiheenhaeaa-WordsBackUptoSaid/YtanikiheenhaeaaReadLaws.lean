/-
  The walks of wakes and of the laws WordsValids, WordsReads, WordsBack: each returns true; texts of at most 140737488351232 bytes (WordsBack: together at most 1048576).
-/
import Derived.Test.YtanikiheenhaeaaRead
import Derived.Test.YtanikiheenhaeaaValid
import Derived.Test.YtanikiheenhaeaaWrite
namespace Go.Proofs.Ytanikiheenhaeaa
open Go.RowKit

theorem read_wakes (w : World) : Calls Try.prog 23 #[.string ⟨#[105, 110, 92, 47, 111, 117, 116, 47, 65, 66]⟩] w fun e w' =>
    e = .returned (.tuple #[.string ⟨#[105, 110, 47, 111, 117, 116]⟩, .string ⟨#[65, 66]⟩, .bool true, .int .i64 0]) ∧ Below w.heap.size w w' :=
  read_any ⟨#[105, 110, 92, 47, 111, 117, 116, 47, 65, 66]⟩ w (by decide)
theorem valid_wakes (w : World) : Calls Try.prog 21 #[.string ⟨#[111, 39, 99, 108, 111, 99, 107]⟩] w fun e w' => e = .returned (.bool true) ∧ w = w' :=
  valid_any ⟨#[111, 39, 99, 108, 111, 99, 107]⟩ w (by decide)

set_option maxHeartbeats 400000 in
theorem wakes02_any (w : World) : Calls Try.prog 20 #[] w fun e w' => e = .returned (.bool true) ∧ Below w.heap.size w w' := by
  go_enter Try.func20, Try.ntmps20
  go_wp2_with fail
  refine (read_wakes _).mono ?_
  rintro e w1 ⟨rfl, hb1⟩
  go_wp2_with fail
  refine (valid_wakes _).mono ?_
  rintro e w2 ⟨rfl, rfl⟩
  go_wp2_with fail
  go_ret
  exact ⟨rfl, hb1⟩

set_option maxHeartbeats 400000 in
theorem wordsValids_walk (s : ByteArray) (w : World) (hs : s.size ≤ 140737488351232) :
    Calls Try.prog 9 #[.string s] w fun e w' => e = .returned (.bool true) ∧ Below w.heap.size w w' := by
  have hs' : s.size ≤ maxLen := by unfold maxLen; omega
  go_enter Try.func9, Try.ntmps9
  go_wp2_with fail
  refine (wakes02_any _).mono ?_
  rintro e w1 ⟨rfl, hb1⟩
  go_wp2_with fail
  refine (valid_any _ _ hs').mono ?_
  rintro e w2 ⟨rfl, rfl⟩
  go_wp2_with fail
  refine (refValid_any _ _ hs').mono ?_
  rintro e w3 ⟨rfl, rfl⟩
  go_wp2_with fail
  go_ret
  exact ⟨ret_bool (by simp), hb1⟩

set_option maxHeartbeats 1000000 in
theorem wordsReads_walk (s : ByteArray) (w : World) (hs : s.size ≤ 140737488351232) :
    Calls Try.prog 10 #[.string s] w fun e w' => e = .returned (.bool true) ∧ Below w.heap.size w w' := by
  have K1 := fun w => read_any s w hs
  have K2 := fun w => refRead_any s w hs
  rcases h : readL s.data.toList with _ | ⟨a, b, c⟩
  all_goals
    rw [h] at K1 K2
    simp only [readV] at K1 K2
    have H1 := Lib.hid K1
    have H2 := Lib.hid K2
    clear K1 K2 h
    go_enter Try.func10, Try.ntmps10
    go_wp2_with fail
    refine (H1.out _).mono ?_
    rintro e w1 ⟨rfl, hb1⟩
    go_wp2_with fail
    refine (H2.out _).mono ?_
    rintro e w2 ⟨rfl, hb2⟩
    go_wp2_with fail
    refine (wakes02_any _).mono ?_
    rintro e w3 ⟨rfl, hb3⟩
    go_wp2_with fail
    go_ret
    exact ⟨ret_bool (by simp), below_next (below_next hb1 hb2) hb3⟩
end Go.Proofs.Ytanikiheenhaeaa
