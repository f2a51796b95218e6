/-
  What the two readers' answers have in common.
-/
import Derived.Test.YtpckcapilhfpcaaWakes04
import Derived.Test.YtpckcapilhfpcaaRefStarts
namespace Go.Proofs.Ytpckcapilhfpcaa
open Go.RowKit

/-- a fact that no tactic looks into: no unfolding opens it -/
structure Caged (p : Prop) : Prop where
  out : p

theorem both_pat {s : List UInt8} {Q : List ByteArray} (h : Q.map (·.data.toList) = textsOf (readP s)) : clsOfQ Q = patOf (readP s) := by
  rw [patOf_texts, ← h, List.map_map]
  rfl
theorem both_ok {s : List UInt8} {Q : List ByteArray} (h : Q.map (·.data.toList) = textsOf (readP s)) : RefOk Q := by
  intro t ht
  have hm : t.data.toList ∈ textsOf (readP s) := by rw [← h]; exact List.mem_map.2 ⟨t, ht, rfl⟩
  have hp := texts_piece s _ hm
  refine ⟨hp.1, ?_⟩
  have := hp.2
  rw [len_eq] at this
  omega
theorem both_len {s : List UInt8} {Q : List ByteArray} (h : Q.map (·.data.toList) = textsOf (readP s)) : Q.length = (patOf (readP s)).length := by rw [← both_pat h, clsOfQ_len]
theorem pat_count (s : List UInt8) : (patOf (readP s)).length ≤ 16 := by
  rw [patOf_texts, List.length_map]
  exact texts_count s
end Go.Proofs.Ytpckcapilhfpcaa
