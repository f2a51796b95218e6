/-
  Plain functions on lists of bytes: what a word byte is, what is written and read with backslashes, letters once each; and the laws on them. No program, no condition.
-/
import Derived.Test.YtanikiheenhaeaaBytes
namespace Go.Proofs.Ytanikiheenhaeaa

/-- a byte that a word may hold -/
def fitB (x : UInt8) : Bool := decide (32 < x.toNat) && !(x.toNat == 127)
/-- a byte that is written behind a backslash -/
def markB (x : UInt8) : Bool := x.toNat == 92 || x.toNat == 47 || x.toNat == 35

/-- are all bytes fit? -/
def okL (l : List UInt8) : Bool := l.all fitB
theorem okL_nil : okL [] = true := rfl
theorem okL_cons (x : UInt8) (l : List UInt8) : okL (x :: l) = (fitB x && okL l) := rfl

/-! ### written -/
def writeL : List UInt8 → List UInt8
  | [] => []
  | x :: l => if markB x then 92 :: x :: writeL l else x :: writeL l

theorem writeL_append : ∀ l m : List UInt8, writeL (l ++ m) = writeL l ++ writeL m
  | [], m => rfl
  | x :: l, m => by
    simp only [List.cons_append, writeL, writeL_append l m]
    split <;> rfl

theorem writeL_len : ∀ l : List UInt8, (writeL l).length ≤ 2 * l.length
  | [] => by simp [writeL]
  | x :: l => by
    have := writeL_len l
    simp only [writeL]
    split <;> simp only [List.length_cons] <;> omega

/-! ### read: none where a backslash has nothing fit behind it -/
def readL : List UInt8 → Option (List UInt8 × List UInt8 × Bool)
  | [] => some ([], [], false)
  | [x] => if x.toNat = 47 then some ([], [], true) else if x.toNat = 92 then none else some ([x], [], false)
  | x :: y :: l =>
    if x.toNat = 47 then some ([], y :: l, true)
    else if x.toNat = 92 then if markB y then (readL l).map fun r => (y :: r.1, r.2) else none
    else (readL (y :: l)).map fun r => (x :: r.1, r.2)

theorem readL_slash {x : UInt8} (l : List UInt8) (h : x.toNat = 47) : readL (x :: l) = some ([], l, true) := by
  cases l <;> simp [readL, h]
theorem readL_plain {x : UInt8} (l : List UInt8) (h1 : x.toNat ≠ 47) (h2 : x.toNat ≠ 92) : readL (x :: l) = (readL l).map fun r => (x :: r.1, r.2) := by
  cases l <;> simp [readL, h1, h2]
theorem readL_mark {x y : UInt8} (l : List UInt8) (h2 : x.toNat = 92) (h : markB y = true) : readL (x :: y :: l) = (readL l).map fun r => (y :: r.1, r.2) := by
  simp [readL, h2, h]
theorem readL_bad {x y : UInt8} (l : List UInt8) (h2 : x.toNat = 92) (h : markB y = false) : readL (x :: y :: l) = none := by
  simp [readL, h2, h]
theorem readL_bad0 {x : UInt8} (h2 : x.toNat = 92) : readL [x] = none := by
  simp [readL, h2]

/-- what was read already, put ahead -/
def ahead (acc : List UInt8) (r : Option (List UInt8 × List UInt8 × Bool)) : Option (List UInt8 × List UInt8 × Bool) := r.map fun r => (acc ++ r.1, r.2)

theorem ahead_nil (r : Option (List UInt8 × List UInt8 × Bool)) : ahead [] r = r := by cases r <;> rfl

theorem ahead_plain (acc : List UInt8) {x : UInt8} (l : List UInt8) (h1 : x.toNat ≠ 47) (h2 : x.toNat ≠ 92) : ahead acc (readL (x :: l)) = ahead (acc ++ [x]) (readL l) := by
  rw [readL_plain l h1 h2]
  cases readL l <;> simp [ahead]
theorem ahead_mark (acc : List UInt8) {x y : UInt8} (l : List UInt8) (h2 : x.toNat = 92) (h : markB y = true) : ahead acc (readL (x :: y :: l)) = ahead (acc ++ [y]) (readL l) := by
  rw [readL_mark l h2 h]
  cases readL l <;> simp [ahead]
theorem ahead_slash (acc : List UInt8) {x : UInt8} (l : List UInt8) (h1 : x.toNat = 47) : ahead acc (readL (x :: l)) = some (acc, l, true) := by
  rw [readL_slash l h1]; simp [ahead]
theorem ahead_end (acc : List UInt8) : ahead acc (readL []) = some (acc, [], false) := by simp [readL, ahead]
theorem ahead_bad (acc : List UInt8) {x y : UInt8} (l : List UInt8) (h2 : x.toNat = 92) (h : markB y = false) : ahead acc (readL (x :: y :: l)) = none := by
  rw [readL_bad l h2 h]; rfl
theorem ahead_bad0 (acc : List UInt8) {x : UInt8} (h2 : x.toNat = 92) : ahead acc (readL [x]) = none := by
  rw [readL_bad0 h2]; rfl

theorem mark_no {x : UInt8} (h : ¬ markB x = true) : x.toNat ≠ 47 ∧ x.toNat ≠ 92 :=
  ⟨fun e => h (by simp [markB, e]), fun e => h (by simp [markB, e])⟩
theorem read_write_slash : ∀ (w rest : List UInt8), readL (writeL w ++ 47 :: rest) = some (w, rest, true)
  | [], rest => by
    simp only [writeL, List.nil_append]
    exact readL_slash rest rfl
  | x :: l, rest => by
    have ih := read_write_slash l rest
    by_cases hm : markB x = true
    · rw [writeL, if_pos hm, List.cons_append, List.cons_append, readL_mark _ rfl hm, ih]
      rfl
    · rw [writeL, if_neg hm, List.cons_append, readL_plain _ (mark_no hm).1 (mark_no hm).2, ih]
      rfl
theorem read_write_end : ∀ w : List UInt8, readL (writeL w) = some (w, [], false)
  | [] => rfl
  | x :: l => by
    have ih := read_write_end l
    by_cases hm : markB x = true
    · rw [writeL, if_pos hm, readL_mark _ rfl hm, ih]
      rfl
    · rw [writeL, if_neg hm, readL_plain _ (mark_no hm).1 (mark_no hm).2, ih]
      rfl

/-! ### letters: each byte once, where it comes first -/
def once : List UInt8 → List UInt8 → List UInt8
  | acc, [] => acc
  | acc, x :: l => if acc.contains x then once acc l else once (acc ++ [x]) l

theorem once_len : ∀ acc l : List UInt8, (once acc l).length ≤ acc.length + l.length
  | acc, [] => by simp [once]
  | acc, x :: l => by
    have h1 := once_len acc l
    have h2 := once_len (acc ++ [x]) l
    simp only [once]
    split
    · simp only [List.length_cons]; omega
    · simp only [List.length_append, List.length_cons, List.length_nil] at h2 ⊢; omega

/-- Letters: none where it is empty or a byte isn't fit -/
def lettersL (s : List UInt8) : Option (List UInt8) := if s.isEmpty || !okL s then none else some (once [] s)
end Go.Proofs.Ytanikiheenhaeaa
