/-
  The walk of the law WordsTurns: it returns true; texts of at most 140737488351232 bytes.
-/
import Derived.Test.YtanikiheenhaeaaRev
namespace Go.Proofs.Ytanikiheenhaeaa
open Go.RowKit

set_option maxHeartbeats 400000 in
theorem wordsTurns_walk (a b : ByteArray) (w : World) (ha : a.size ≤ 140737488351232) (hb : b.size ≤ 140737488351232) :
    Calls Try.prog 4 #[.string a, .string b] w fun e w' => e = .returned (.bool true) ∧ Below w.heap.size w w' := by
  have ha' : a.size ≤ maxLen := by unfold maxLen; omega
  have hb' : b.size ≤ maxLen := by unfold maxLen; omega
  go_enter Try.func4, Try.ntmps4
  go_wp2_with fail
  refine (reverse_any _ _ (by decide)).mono ?_
  rintro e w1 ⟨rfl, hb1⟩
  go_wp2_with fail
  refine (reverse_any _ _ ha').mono ?_
  rintro e w2 ⟨rfl, hb2⟩
  go_wp2_with fail
  refine (refReverse_any _ _ ha).mono ?_
  rintro e w3 ⟨rfl, hb3⟩
  go_wp2_with fail
  refine (reverse_any _ _ ha').mono ?_
  rintro e w4 ⟨rfl, hb4⟩
  go_wp2_with fail
  refine (reverse_any _ _ (by rw [mk_size, List.length_reverse, len_eq]; exact ha')).mono ?_
  rintro e w5 ⟨rfl, hb5⟩
  go_wp2_with fail
  refine (reverse_any _ _ (by rw [add_size]; unfold maxLen; omega)).mono ?_
  rintro e w6 ⟨rfl, hb6⟩
  go_wp2_with fail
  refine (reverse_any _ _ hb').mono ?_
  rintro e w7 ⟨rfl, hb7⟩
  go_wp2_with fail
  refine (reverse_any _ _ ha').mono ?_
  rintro e w8 ⟨rfl, hb8⟩
  go_wp2_with fail
  go_ret
  exact ⟨ret_bool (by rw [Lib.toList_data]; simp), below_next (below_next (below_next (below_next (below_next (below_next (below_next hb1 hb2) hb3) hb4) hb5) hb6) hb7) hb8⟩
end Go.Proofs.Ytanikiheenhaeaa
