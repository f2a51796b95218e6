/-
  '==' and '!=' of two classes (arrays of four words), as a law of the walk.
-/
import Derived.Test.YtpckcapilhfpcaaBothRead
import Derived.Laws.StructEq
import Derived.ChangeKeysEq
namespace Go.Proofs.Ytpckcapilhfpcaa
open Go.RowKit

def eq4 (p0 p1 p2 p3 q0 q1 q2 q3 : Int) : Bool := p0 == q0 && (p1 == q1 && (p2 == q2 && p3 == q3))
theorem cls_info : ∃ i, Try.prog.info? 70 = some i := ⟨_, rfl⟩
theorem cells_u64 : Try.prog.cellsOf 70 = 1 := by kernel_rfl
theorem part_word (w : World) (p0 p1 p2 p3 : Int) (i : Nat) (p : Int) (h : ([p0, p1, p2, p3] : List Int)[i]? = some p) :
    (part 70 #[.int .u64 p0, .int .u64 p1, .int .u64 p2, .int .u64 p3] (i * 1)).run Try.prog w = .ok (.int .u64 p) w := by
  match i, h with
  | 0, h => simp at h; subst h; simp [part, isAgg, run_underlying Try.underlying70]
  | 1, h => simp at h; subst h; simp [part, isAgg, run_underlying Try.underlying70]
  | 2, h => simp at h; subst h; simp [part, isAgg, run_underlying Try.underlying70]
  | 3, h => simp at h; subst h; simp [part, isAgg, run_underlying Try.underlying70]
@[go_sem] theorem run_equal_cls (w : World) (d : Nat) (p0 p1 p2 p3 q0 q1 q2 q3 : Int) :
    (Op.equalIn (d + 2) 72 (.agg #[.int .u64 p0, .int .u64 p1, .int .u64 p2, .int .u64 p3]) (.agg #[.int .u64 q0, .int .u64 q1, .int .u64 q2, .int .u64 q3])).run Try.prog w
      = .ok (eq4 p0 p1 p2 p3 q0 q1 q2 q3) w := by
  obtain ⟨i, hi⟩ := cls_info
  rw [run_equalIn_array w (d + 1) _ _ Try.underlying72 hi, cells_u64]
  have e : List.range 4 = [0, 1, 2, 3] := rfl
  rw [e]
  simp only [Op.eqItems, Sem.run_bind]
  rw [part_word w p0 p1 p2 p3 0 p0 rfl]
  simp only [Result.andThen_ok]
  rw [part_word w q0 q1 q2 q3 0 q0 rfl]
  simp only [Result.andThen_ok, run_equalIn_int w d _ .u64 .u64 _ _ Try.underlying70]
  unfold eq4
  cases (p0 == q0)
  · simp
  · simp only [Bool.not_true, Bool.false_eq_true, if_false, Sem.run_bind]
    rw [part_word w p0 p1 p2 p3 1 p1 rfl]
    simp only [Result.andThen_ok]
    rw [part_word w q0 q1 q2 q3 1 q1 rfl]
    simp only [Result.andThen_ok, run_equalIn_int w d _ .u64 .u64 _ _ Try.underlying70]
    cases (p1 == q1)
    · simp
    · simp only [Bool.not_true, Bool.false_eq_true, if_false, Sem.run_bind]
      rw [part_word w p0 p1 p2 p3 2 p2 rfl]
      simp only [Result.andThen_ok]
      rw [part_word w q0 q1 q2 q3 2 q2 rfl]
      simp only [Result.andThen_ok, run_equalIn_int w d _ .u64 .u64 _ _ Try.underlying70]
      cases (p2 == q2)
      · simp
      · simp only [Bool.not_true, Bool.false_eq_true, if_false, Sem.run_bind]
        rw [part_word w p0 p1 p2 p3 3 p3 rfl]
        simp only [Result.andThen_ok]
        rw [part_word w q0 q1 q2 q3 3 q3 rfl]
        simp only [Result.andThen_ok, run_equalIn_int w d _ .u64 .u64 _ _ Try.underlying70]
        cases (p3 == q3) <;> simp
end Go.Proofs.Ytpckcapilhfpcaa
