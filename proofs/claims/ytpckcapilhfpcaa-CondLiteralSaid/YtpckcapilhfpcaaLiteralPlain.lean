/-
  The plain law of CondLiteral: a text of at most 16 bytes without '.' and '[' is read as its own bytes.
-/
import Derived.Test.YtpckcapilhfpcaaBothRead
namespace Go.Proofs.Ytpckcapilhfpcaa
open Go.RowKit

def PlainL (l : List UInt8) : Prop := ∀ x ∈ l, x ≠ 46 ∧ x ≠ 91
def litP (l : List UInt8) : List Cls := l.map fun x => clsOf [x]
theorem litP_len (l : List UInt8) : (litP l).length = l.length := by simp [litP]
theorem pieces_plain : ∀ (f : Nat) (l : List UInt8), l.length ≤ f → PlainL l → piecesF f l = some (l.map fun x => [x])
  | 0, [], _, _ => rfl
  | 0, x :: l, h, _ => by simp at h
  | f + 1, [], _, _ => rfl
  | f + 1, x :: l, h, hp => by
    have ih := pieces_plain f l (by simpa using h) (fun y hy => hp y (List.mem_cons_of_mem _ hy))
    have h91 : x ≠ 91 := (hp x (List.mem_cons_self ..)).2
    rw [piecesF, if_neg h91, ih]
    rfl
theorem read_plain {l : List UInt8} (hp : PlainL l) (h0 : l ≠ []) (h16 : l.length ≤ 16) : readP l = .inr (l.map fun x => [x]) := by
  have h1 : ¬ (l = [] ∨ 512 < l.length) := by
    rintro (e | e)
    · exact h0 e
    · omega
  have h2 : l ≠ [46] := by
    rintro rfl
    exact (hp 46 (List.mem_cons_self ..)).1 rfl
  rw [readP, if_neg h1, if_neg h2, pieces_plain _ _ (Nat.le_refl _) hp]
  simp only [List.length_map]
  rw [if_neg (by omega)]
theorem pat_plain {l : List UInt8} (hp : PlainL l) (h0 : l ≠ []) (h16 : l.length ≤ 16) : patOf (readP l) = litP l := by
  rw [read_plain hp h0 h16]
  simp [patOf, litP]
theorem err_plain {l : List UInt8} (hp : PlainL l) (h0 : l ≠ []) (h16 : l.length ≤ 16) : errOf (readP l) = 0 := by
  rw [read_plain hp h0 h16]
  rfl
theorem starts_lit : ∀ (L l : List UInt8), PlainL L → startsL (litP L) l = (decide (L.length ≤ l.length) && (l.take L.length == L))
  | [], l, _ => by simp [litP, startsL]
  | x :: L, [], _ => by simp [litP, startsL]
  | x :: L, y :: l, hp => by
    have ih := starts_lit L l (fun z hz => hp z (List.mem_cons_of_mem _ hz))
    have h46 : x ≠ 46 := (hp x (List.mem_cons_self ..)).1
    have hc : clsOf [x] y = (x == y) := by simp [clsOf, h46]
    have e : startsL (litP (x :: L)) (y :: l) = (clsOf [x] y && startsL (litP L) l) := rfl
    rw [e, ih, hc]
    simp only [List.length_cons, Nat.add_le_add_iff_right, List.take_succ_cons, List.cons_beq_cons]
    rw [Bool.beq_comm (a := x) (b := y)]
    cases (y == x) <;> cases decide (L.length ≤ l.length) <;> simp
theorem ends_lit (L l : List UInt8) (hp : PlainL L) : endsL (litP L) l = (decide (L.length ≤ l.length) && (l.drop (l.length - L.length) == L)) := by
  unfold endsL
  rw [litP_len]
  by_cases h : L.length ≤ l.length
  · rw [starts_lit _ _ hp, decide_eq_true h, Bool.true_and, Bool.true_and, List.length_drop]
    rw [decide_eq_true (by omega), Bool.true_and, List.take_of_length_le (by rw [List.length_drop]; omega)]
  · rw [decide_eq_false h, Bool.false_and, Bool.false_and]
theorem starts_lit_own (L l : List UInt8) (hp : PlainL L) : startsL (litP L) (L ++ l) = true := by
  rw [starts_lit _ _ hp]
  simp
theorem ends_lit_own (L l : List UInt8) (hp : PlainL L) : endsL (litP L) (l ++ L) = true := by
  rw [ends_lit _ _ hp]
  simp
end Go.Proofs.Ytpckcapilhfpcaa
