/-
  The walk of the law WordsWrites: it returns true; texts of at most 2097152 bytes.
-/
import Derived.Test.YtanikiheenhaeaaWrite
namespace Go.Proofs.Ytanikiheenhaeaa
open Go.RowKit

theorem write_wakes : writeL [35, 49, 47, 50] = [92, 35, 49, 92, 47, 50] := by decide

set_option maxHeartbeats 400000 in
theorem wordsWrites_walk (s : ByteArray) (w : World) (hs : s.size ≤ 1048576) :
    Calls Try.prog 6 #[.string s] w fun e w' => e = .returned (.bool true) ∧ Below w.heap.size w w' := by
  have K1 := write_any ⟨#[35, 49, 47, 50]⟩ w (by decide)
  rw [show (⟨#[35, 49, 47, 50]⟩ : ByteArray).data.toList = [35, 49, 47, 50] from rfl, write_wakes] at K1
  have H1 := Lib.hid K1
  clear K1
  go_enter Try.func6, Try.ntmps6
  go_wp2_with fail
  refine H1.out.mono ?_
  rintro e w1 ⟨rfl, hb1⟩
  go_wp2_with fail
  refine (write_any _ _ (by omega)).mono ?_
  rintro e w2 ⟨rfl, hb2⟩
  go_wp2_with fail
  refine (refWrite_any _ _ (by omega)).mono ?_
  rintro e w3 ⟨rfl, hb3⟩
  go_wp2_with fail
  go_ret
  exact ⟨ret_bool (by simp), below_next (below_next hb1 hb2) hb3⟩
end Go.Proofs.Ytanikiheenhaeaa
