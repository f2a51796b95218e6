import Derived.Test.YtanikiheenhaeaaCommon
namespace Go.Proofs.Ytanikiheenhaeaa
open Go.RowKit

theorem below_drewN (B : Nat) (w : World) (n : Nat) : Below B w (w.drewN n) := ⟨rfl, rfl, rfl, Nat.le_refl _, fun _ _ => rfl⟩

set_option maxHeartbeats 400000 in
theorem wordsCommons_walk (a b : ByteArray) (w : World) (ha : a.size ≤ 140737488351232) (hb : b.size ≤ 140737488351232) :
    Calls Try.prog 3 #[.string a, .string b] w fun e w' => e = .returned (.bool true) ∧ Below w.heap.size w w' := by
  have ha' : a.size ≤ maxLen := by unfold maxLen; omega
  have hb' : b.size ≤ maxLen := by unfold maxLen; omega
  go_enter Try.func3, Try.ntmps3
  go_wp2_with fail
  refine (common_any _ _ _ (by decide) (by decide)).mono ?_
  rintro e w' ⟨rfl, n1, rfl⟩
  go_wp2_with fail
  refine (common_any _ _ _ ha' hb').mono ?_
  rintro e w' ⟨rfl, n2, rfl⟩
  go_wp2_with fail
  refine (refCommon_any _ _ _ ha' hb').mono ?_
  rintro e w' ⟨rfl, n3, rfl⟩
  go_wp2_with fail
  go_ret
  exact ⟨by simp, below_drewN _ _ _⟩

end Go.Proofs.Ytanikiheenhaeaa
