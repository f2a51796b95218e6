/-
  Rules, plain: which words a rule fits, what it makes, what it undoes; chains and peels. No program.
-/
import Derived.Test.YtpckcapilhfpcaaBothRead
namespace Go.Proofs.Ytpckcapilhfpcaa

structure RuleP where
  k : Int
  S : List UInt8
  A : List UInt8
  C : List UInt8

def RuleP.fits (r : RuleP) (w : List UInt8) : Bool :=
  decide (errOf (readP r.C) = 0) && decide (r.S.length < w.length) &&
    ((r.k == 2 && (Lib.hasSuffix w r.S && endsL (patOf (readP r.C)) w)) || (r.k == 1 && (Lib.hasPrefix w r.S && startsL (patOf (readP r.C)) w)))
def RuleP.made (r : RuleP) (w : List UInt8) : List UInt8 := if r.k = 2 then w.take (w.length - r.S.length) ++ r.A else r.A ++ w.drop r.S.length
def RuleP.apply (r : RuleP) (w : List UInt8) : Option (List UInt8) := if r.fits w = true then some (r.made w) else none
def RuleP.stem (r : RuleP) (w : List UInt8) : Option (List UInt8) :=
  if r.k = 2 then (if Lib.hasSuffix w r.A = true then some (w.take (w.length - r.A.length) ++ r.S) else none)
  else if r.k = 1 then (if Lib.hasPrefix w r.A = true then some (r.S ++ w.drop r.A.length) else none) else none
def RuleP.undo (r : RuleP) (w : List UInt8) : Option (List UInt8) := match r.stem w with
  | none => none
  | some v => if r.fits v = true then some v else none
def alongR (f : RuleP → List UInt8 → Option (List UInt8)) : List RuleP → List UInt8 → Option (List UInt8)
  | [], w => some w
  | r :: rs, w => (f r w).bind (alongR f rs)
def chainR : List RuleP → List UInt8 → Option (List UInt8) := alongR RuleP.apply
def peelR (rs : List RuleP) : List UInt8 → Option (List UInt8) := alongR RuleP.undo rs.reverse

theorem suffix_iff {w S : List UInt8} : Lib.hasSuffix w S = true ↔ ∃ X, w = X ++ S := by
  unfold Lib.hasSuffix
  rw [List.isSuffixOf_iff_suffix]
  exact ⟨fun ⟨X, h⟩ => ⟨X, h.symm⟩, fun ⟨X, h⟩ => ⟨X, h.symm⟩⟩
theorem prefix_iff {w S : List UInt8} : Lib.hasPrefix w S = true ↔ ∃ X, w = S ++ X := by
  unfold Lib.hasPrefix
  rw [List.isPrefixOf_iff_prefix]
  exact ⟨fun ⟨X, h⟩ => ⟨X, h.symm⟩, fun ⟨X, h⟩ => ⟨X, h.symm⟩⟩

theorem fits_kind {r : RuleP} {w : List UInt8} (h : r.fits w = true) : (r.k = 2 ∧ Lib.hasSuffix w r.S = true) ∨ (r.k = 1 ∧ Lib.hasPrefix w r.S = true) := by
  simp only [RuleP.fits, Bool.and_eq_true, Bool.or_eq_true, beq_iff_eq] at h
  rcases h.2 with h | h
  · exact .inl ⟨h.1, h.2.1⟩
  · exact .inr ⟨h.1, h.2.1⟩
theorem made_two {r : RuleP} (hk : r.k = 2) (X : List UInt8) : r.made (X ++ r.S) = X ++ r.A := by
  rw [RuleP.made, if_pos hk]
  simp
theorem made_one {r : RuleP} (hk : r.k = 1) (X : List UInt8) : r.made (r.S ++ X) = r.A ++ X := by
  rw [RuleP.made, if_neg (by omega)]
  simp
theorem stem_two {r : RuleP} (hk : r.k = 2) (X : List UInt8) : r.stem (X ++ r.A) = some (X ++ r.S) := by
  rw [RuleP.stem, if_pos hk, if_pos (suffix_iff.2 ⟨X, rfl⟩)]
  simp
theorem stem_one {r : RuleP} (hk : r.k = 1) (X : List UInt8) : r.stem (r.A ++ X) = some (r.S ++ X) := by
  rw [RuleP.stem, if_neg (by omega), if_pos hk, if_pos (prefix_iff.2 ⟨X, rfl⟩)]
  simp
theorem apply_some {r : RuleP} {w m : List UInt8} (h : r.apply w = some m) : r.fits w = true ∧ m = r.made w := by
  unfold RuleP.apply at h
  split at h
  · rename_i hf
    injection h with h
    exact ⟨hf, h.symm⟩
  · cases h
theorem apply_fits (r : RuleP) (w : List UInt8) : (r.apply w).isSome = r.fits w := by
  unfold RuleP.apply
  cases r.fits w <;> rfl
theorem undo_of_apply {r : RuleP} {w m : List UInt8} (h : r.apply w = some m) : r.undo m = some w := by
  obtain ⟨hf, rfl⟩ := apply_some h
  rcases fits_kind hf with ⟨hk, hs⟩ | ⟨hk, hs⟩
  · obtain ⟨X, rfl⟩ := suffix_iff.1 hs
    rw [made_two hk, RuleP.undo, stem_two hk]
    simp only
    rw [if_pos hf]
  · obtain ⟨X, rfl⟩ := prefix_iff.1 hs
    rw [made_one hk, RuleP.undo, stem_one hk]
    simp only
    rw [if_pos hf]
theorem stem_some {r : RuleP} {w v : List UInt8} (h : r.stem w = some v) : (r.k = 2 ∧ ∃ X, w = X ++ r.A ∧ v = X ++ r.S) ∨ (r.k = 1 ∧ ∃ X, w = r.A ++ X ∧ v = r.S ++ X) := by
  unfold RuleP.stem at h
  split at h
  · rename_i hk
    split at h
    · rename_i hs
      obtain ⟨X, rfl⟩ := suffix_iff.1 hs
      injection h with h
      refine .inl ⟨hk, X, rfl, ?_⟩
      rw [← h]
      simp
    · cases h
  · split at h
    · rename_i hk
      split at h
      · rename_i hs
        obtain ⟨X, rfl⟩ := prefix_iff.1 hs
        injection h with h
        refine .inr ⟨hk, X, rfl, ?_⟩
        rw [← h]
        simp
      · cases h
    · cases h
theorem undo_some {r : RuleP} {w v : List UInt8} (h : r.undo w = some v) : r.stem w = some v ∧ r.fits v = true := by
  unfold RuleP.undo at h
  cases hs : r.stem w with
  | none => rw [hs] at h; cases h
  | some u =>
    rw [hs] at h
    simp only at h
    split at h
    · rename_i hf
      injection h with h
      subst h
      exact ⟨rfl, hf⟩
    · cases h
theorem apply_of_undo {r : RuleP} {w v : List UInt8} (h : r.undo w = some v) : r.apply v = some w := by
  obtain ⟨hs, hf⟩ := undo_some h
  rw [RuleP.apply, if_pos hf]
  rcases stem_some hs with ⟨hk, X, rfl, rfl⟩ | ⟨hk, X, rfl, rfl⟩
  · rw [made_two hk]
  · rw [made_one hk]
theorem apply_length {r : RuleP} {w m : List UInt8} (h : r.apply w = some m) : r.S.length ≤ w.length ∧ m.length + r.S.length = w.length + r.A.length := by
  obtain ⟨hf, rfl⟩ := apply_some h
  rcases fits_kind hf with ⟨hk, hs⟩ | ⟨hk, hs⟩
  · obtain ⟨X, rfl⟩ := suffix_iff.1 hs
    rw [made_two hk]
    simp only [List.length_append]
    omega
  · obtain ⟨X, rfl⟩ := prefix_iff.1 hs
    rw [made_one hk]
    simp only [List.length_append]
    omega
theorem made_length (r : RuleP) (w : List UInt8) : (r.made w).length ≤ w.length + r.A.length := by
  unfold RuleP.made
  split
  · rw [List.length_append, List.length_take]; omega
  · rw [List.length_append, List.length_drop]; omega
theorem stem_length {r : RuleP} {w v : List UInt8} (h : r.stem w = some v) : v.length ≤ w.length + r.S.length := by
  rcases stem_some h with ⟨_, X, rfl, rfl⟩ | ⟨_, X, rfl, rfl⟩ <;> (simp only [List.length_append]; omega)

/-- the reference's Undo -/
def RuleP.refStem (r : RuleP) (w : List UInt8) : List UInt8 := if r.k = 1 then r.S ++ w.drop r.A.length else w.take (w.length - r.A.length) ++ r.S
def RuleP.refUndo (r : RuleP) (w : List UInt8) : Option (List UInt8) :=
  if w.length < r.A.length then none else if r.apply (r.refStem w) = some w then some (r.refStem w) else none
theorem refUndo_eq (r : RuleP) (w : List UInt8) : r.refUndo w = r.undo w := by
  cases hu : r.undo w with
  | some v =>
    have ha := apply_of_undo hu
    obtain ⟨hs, hf⟩ := undo_some hu
    have hl : ¬ w.length < r.A.length := by rcases stem_some hs with ⟨_, X, rfl, _⟩ | ⟨_, X, rfl, _⟩ <;> (rw [List.length_append]; omega)
    have hr : r.refStem w = v := by
      rcases stem_some hs with ⟨hk, X, rfl, rfl⟩ | ⟨hk, X, rfl, rfl⟩
      · rw [RuleP.refStem, if_neg (by omega)]; simp
      · rw [RuleP.refStem, if_pos hk]; simp
    rw [RuleP.refUndo, if_neg hl, hr, if_pos ha]
  | none =>
    rw [RuleP.refUndo]
    split
    · rfl
    · split
      · rename_i h
        have h2 := undo_of_apply h
        rw [hu] at h2
        cases h2
      · rfl

theorem along_append (f : RuleP → List UInt8 → Option (List UInt8)) : ∀ (a b : List RuleP) (w : List UInt8), alongR f (a ++ b) w = (alongR f a w).bind (alongR f b)
  | [], b, w => rfl
  | r :: a, b, w => by
    simp only [List.cons_append, alongR]
    cases f r w with
    | none => rfl
    | some m => exact along_append f a b m
theorem chain_append (a b : List RuleP) (w : List UInt8) : chainR (a ++ b) w = (chainR a w).bind (chainR b) := along_append _ a b w
theorem peel_append (a b : List RuleP) (w : List UInt8) : peelR (a ++ b) w = (peelR b w).bind (peelR a) := by
  unfold peelR
  rw [List.reverse_append]
  exact along_append _ _ _ w
theorem peel_one (r : RuleP) (w : List UInt8) : peelR [r] w = r.undo w := by
  show (r.undo w).bind (alongR RuleP.undo []) = _
  cases r.undo w <;> rfl
theorem chain_cons (r : RuleP) (rs : List RuleP) (w : List UInt8) : chainR (r :: rs) w = (r.apply w).bind (chainR rs) := rfl
theorem peel_cons (r : RuleP) (rs : List RuleP) (w : List UInt8) : peelR (r :: rs) w = (peelR rs w).bind (r.undo) := by
  have := peel_append [r] rs w
  simp only [List.cons_append, List.nil_append] at this
  rw [this]
  congr 1
  funext v
  exact peel_one r v
theorem peel_of_chain : ∀ (rs : List RuleP) (w m : List UInt8), chainR rs w = some m → peelR rs m = some w
  | [], w, m, h => by
    have : w = m := by simpa [chainR, alongR] using h
    subst this
    rfl
  | r :: rs, w, m, h => by
    rw [chain_cons] at h
    cases ha : r.apply w with
    | none => rw [ha] at h; cases h
    | some x =>
      rw [ha] at h
      rw [peel_cons, peel_of_chain rs x m h]
      exact undo_of_apply ha
theorem chain_of_peel : ∀ (rs : List RuleP) (w p : List UInt8), peelR rs w = some p → chainR rs p = some w
  | [], w, p, h => by
    have : w = p := by simpa [peelR, alongR] using h
    subst this
    rfl
  | r :: rs, w, p, h => by
    rw [peel_cons] at h
    cases ha : peelR rs w with
    | none => rw [ha] at h; cases h
    | some x =>
      rw [ha] at h
      rw [chain_cons, apply_of_undo h]
      exact chain_of_peel rs w x ha

/-- a suffix rule and a prefix rule that do not meet, in either order -/
theorem apart_same {s p : RuleP} {w a b : List UInt8} (hs : s.k = 2) (hp : p.k = 1) (h1 : s.fits w = true) (h2 : p.fits w = true) (hl : s.S.length + p.S.length ≤ w.length) (ha : chainR [s, p] w = some a) (hb : chainR [p, s] w = some b) : a = b := by
  have g1 : Lib.hasSuffix w s.S = true := by
    rcases fits_kind h1 with ⟨_, h⟩ | ⟨h, _⟩
    · exact h
    · omega
  have g2 : Lib.hasPrefix w p.S = true := by
    rcases fits_kind h2 with ⟨h, _⟩ | ⟨_, h⟩
    · omega
    · exact h
  obtain ⟨X, hX⟩ := suffix_iff.1 g1
  obtain ⟨Y, hY⟩ := prefix_iff.1 g2
  have hlen := congrArg List.length hX
  rw [List.length_append] at hlen
  have hXp : ∃ Z, X = p.S ++ Z := by
    refine ⟨X.drop p.S.length, ?_⟩
    have : X.take p.S.length = p.S := by
      have e := congrArg (List.take p.S.length) (hX.symm.trans hY)
      rw [List.take_append_of_le_length (by omega)] at e
      simpa using e
    conv => lhs; rw [← List.take_append_drop p.S.length X, this]
  obtain ⟨Z, rfl⟩ := hXp
  have e1 : chainR [s, p] w = (s.apply w).bind fun x => (p.apply x).bind some := rfl
  have e2 : chainR [p, s] w = (p.apply w).bind fun x => (s.apply x).bind some := rfl
  rw [e1] at ha
  rw [e2] at hb
  have f1 : s.apply w = some (p.S ++ (Z ++ s.A)) := by
    rw [RuleP.apply, if_pos h1, hX, made_two hs, List.append_assoc]
  have f2 : p.apply w = some ((p.A ++ Z) ++ s.S) := by
    rw [RuleP.apply, if_pos h2, hX, List.append_assoc, made_one hp, List.append_assoc]
  rw [f1] at ha
  rw [f2] at hb
  simp only [Option.bind_some] at ha hb
  cases h3 : p.apply (p.S ++ (Z ++ s.A)) with
  | none => rw [h3] at ha; cases ha
  | some x =>
    rw [h3] at ha
    injection ha with ha
    subst ha
    cases h4 : s.apply ((p.A ++ Z) ++ s.S) with
    | none => rw [h4] at hb; cases hb
    | some y =>
      rw [h4] at hb
      injection hb with hb
      subst hb
      rw [(apply_some h3).2, (apply_some h4).2, made_one hp, made_two hs, List.append_assoc]
end Go.Proofs.Ytpckcapilhfpcaa
