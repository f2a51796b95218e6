/-
  Tests of bytes against numbers, in the walk's spelling. No condition.
-/
import Derived.Test.YtpckcapilhfpcaaBytes
namespace Go.Proofs.Ytpckcapilhfpcaa
theorem byte_ne {x : UInt8} {n : Nat} {m : Int} (h : ¬ x.toNat = n) (hm : m = n) : ((x.toNat : Int) == m) = false := by
  rw [beq_eq_false_iff_ne]; omega
theorem byte_is {x : UInt8} {n : Nat} {m : Int} (h : x.toNat = n) (hm : m = n) : ((x.toNat : Int) == m) = true := by
  rw [beq_iff_eq]; omega

theorem bne_no {a b : Int} (h : (a == b) = true) : (a != b) = false := by simp [bne, h]
theorem bne_yes {a b : Int} (h : (a == b) = false) : (a != b) = true := by simp [bne, h]
end Go.Proofs.Ytpckcapilhfpcaa
