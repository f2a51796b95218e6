/-
  Patterns as lists of classes, plain: how a text is cut into pieces, what class a piece writes. No program.
-/
import Derived.Test.YtpckcapilhfpcaaOf
import Derived.Lib.Bytealg
import Derived.Lib.Strings
namespace Go.Proofs.Ytpckcapilhfpcaa

/-- where the first ']' stands -/
def find93 : List UInt8 → Option Nat
  | [] => none
  | x :: l => if x = 93 then some 0 else (find93 l).map (· + 1)
theorem find93_index : ∀ l : List UInt8, Lib.indexByte l 93 = match find93 l with | none => -1 | some n => (n : Int)
  | [] => rfl
  | x :: l => by
    have ih := find93_index l
    by_cases h : x = 93
    · subst h
      simp [Lib.indexByte, find93]
    · have h2 : (x == 93) = false := by simpa using h
      cases hf : find93 l with
      | none =>
        rw [hf] at ih
        simp [Lib.indexByte, find93, h, hf, ih]
      | some n =>
        rw [hf] at ih
        have : ((n : Int) == -1) = false := by rw [beq_eq_false_iff_ne]; omega
        simp [Lib.indexByte, find93, h, hf, ih]
theorem find93_lt : ∀ {l : List UInt8} {n : Nat}, find93 l = some n → n < l.length
  | [], n, h => by simp [find93] at h
  | x :: l, n, h => by
    by_cases hx : x = 93
    · simp [find93, hx] at h
      subst h
      simp
    · cases hf : find93 l with
      | none => simp [find93, hx, hf] at h
      | some m =>
        simp [find93, hx, hf] at h
        have := find93_lt hf
        simp only [List.length_cons]
        omega
theorem find93_at : ∀ {l : List UInt8} {n : Nat}, find93 l = some n → l[n]? = some 93
  | [], n, h => by simp [find93] at h
  | x :: l, n, h => by
    by_cases hx : x = 93
    · simp [find93, hx] at h
      subst h
      simp [hx]
    · cases hf : find93 l with
      | none => simp [find93, hx, hf] at h
      | some m =>
        simp [find93, hx, hf] at h
        subst h
        simpa using find93_at hf
theorem find93_none : ∀ {l : List UInt8}, find93 l = none → ¬ (93 ∈ l)
  | [], _ => by simp
  | x :: l, h => by
    by_cases hx : x = 93
    · simp [find93, hx] at h
    · cases hf : find93 l with
      | none =>
        have := find93_none hf
        simp [this, Ne.symm hx]
      | some m => simp [find93, hx, hf] at h
theorem find93_before : ∀ {l : List UInt8} {n : Nat}, find93 l = some n → ¬ (93 ∈ l.take n)
  | [], n, h => by simp
  | x :: l, n, h => by
    by_cases hx : x = 93
    · simp [find93, hx] at h
      subst h
      simp
    · cases hf : find93 l with
      | none => simp [find93, hx, hf] at h
      | some m =>
        simp [find93, hx, hf] at h
        subst h
        have := find93_before hf
        simp [this, Ne.symm hx]

/-- what stands between the brackets, without the hat; whether there is a hat -/
def stripHat : List UInt8 → List UInt8
  | [] => []
  | x :: l => if x = 94 then l else x :: l
def isNot : List UInt8 → Bool
  | [] => false
  | x :: _ => x == 94
def bracketCls (l : List UInt8) : UInt8 → Bool := if isNot l then fun y => !(ofL (stripHat l) y) else ofL (stripHat l)
def bracketOk (l : List UInt8) : Bool := !(stripHat l).isEmpty
theorem trim_hat : ∀ l : List UInt8, Lib.trimPrefix l [94] = stripHat l ∧ Lib.hasPrefix l [94] = isNot l
  | [] => by simp [Lib.trimPrefix, Lib.hasPrefix, stripHat, isNot]
  | x :: l => by
    by_cases h : x = 94
    · subst h
      simp [Lib.trimPrefix, Lib.hasPrefix, stripHat, isNot, List.isPrefixOf]
    · have h1 : (94 == x) = false := beq_eq_false_iff_ne.2 (Ne.symm h)
      have h2 : (x == 94) = false := beq_eq_false_iff_ne.2 h
      simp only [Lib.trimPrefix, Lib.hasPrefix, stripHat, isNot, List.isPrefixOf, h1, h2, Bool.false_and, Bool.false_eq_true, if_false, if_neg h, and_self]

/-- the class that one piece of text writes -/
def clsOf : List UInt8 → (UInt8 → Bool)
  | [] => fun _ => false
  | [x] => if x = 46 then fun _ => true else fun y => x == y
  | _ :: l => bracketCls l.dropLast

/-- the pieces of a text, none where a bracket is at fault -/
def piecesF : Nat → List UInt8 → Option (List (List UInt8))
  | 0, _ => some []
  | _ + 1, [] => some []
  | f + 1, x :: l =>
    if x = 91 then
      match find93 l with
      | none => none
      | some n => if bracketOk (l.take n) then (piecesF f (l.drop (n + 1))).map ((x :: l.take (n + 1)) :: ·) else none
    else (piecesF f l).map ([x] :: ·)

/-- pieces that were read already, put ahead -/
def aheadP (acc : List (List UInt8)) (r : Option (List (List UInt8))) : Option (List (List UInt8)) := r.map (acc ++ ·)
theorem aheadP_nil (r : Option (List (List UInt8))) : aheadP [] r = r := by cases r <;> rfl
theorem aheadP_end (acc : List (List UInt8)) (f : Nat) : aheadP acc (piecesF f []) = some acc := by cases f <;> simp [aheadP, piecesF]
theorem aheadP_plain (acc : List (List UInt8)) (f : Nat) {x : UInt8} (l : List UInt8) (h : x ≠ 91) : aheadP acc (piecesF (f + 1) (x :: l)) = aheadP (acc ++ [[x]]) (piecesF f l) := by
  rw [piecesF, if_neg h]
  cases piecesF f l <;> simp [aheadP]
theorem aheadP_none (acc : List (List UInt8)) (f : Nat) {l : List UInt8} (h : find93 l = none) : aheadP acc (piecesF (f + 1) (91 :: l)) = none := by
  simp [piecesF, h, aheadP]
theorem aheadP_bad (acc : List (List UInt8)) (f : Nat) {l : List UInt8} {n : Nat} (h : find93 l = some n) (hb : bracketOk (l.take n) = false) : aheadP acc (piecesF (f + 1) (91 :: l)) = none := by
  simp [piecesF, h, hb, aheadP]
theorem aheadP_bracket (acc : List (List UInt8)) (f : Nat) {l : List UInt8} {n : Nat} (h : find93 l = some n) (hb : bracketOk (l.take n) = true) :
    aheadP acc (piecesF (f + 1) (91 :: l)) = aheadP (acc ++ [91 :: l.take (n + 1)]) (piecesF f (l.drop (n + 1))) := by
  simp only [piecesF, if_true, h, hb]
  cases piecesF f (l.drop (n + 1)) <;> simp [aheadP]
theorem clsOf_bracket {l : List UInt8} {n : Nat} (h : find93 l = some n) : clsOf (91 :: l.take (n + 1)) = bracketCls (l.take n) := by
  have hlt := find93_lt h
  have e : l.take (n + 1) = l.take n ++ [93] := by
    rw [List.take_succ_eq_append_getElem hlt]
    have := find93_at h
    rw [List.getElem?_eq_getElem hlt] at this
    simp at this
    rw [this]
  rw [e]
  cases h1 : l.take n ++ [93] with
  | nil => simp at h1
  | cons y m =>
    show bracketCls (y :: m).dropLast = _
    rw [← h1, List.dropLast_concat]

/-- Read: an error's number, or the pieces -/
def readP (s : List UInt8) : Nat ⊕ List (List UInt8) :=
  if s = [] ∨ 512 < s.length then .inl 40
  else if s = [46] then .inr []
  else match piecesF s.length s with
    | none => .inl 41
    | some ps => if 16 < ps.length then .inl 42 else .inr ps
end Go.Proofs.Ytpckcapilhfpcaa
