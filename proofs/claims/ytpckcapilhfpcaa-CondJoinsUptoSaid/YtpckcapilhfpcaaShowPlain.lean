/-
  Show, plain: the one text of a class and of a pattern; it is no longer than what was read, and it is read back as the same pattern. No program.
-/
import Derived.Test.YtpckcapilhfpcaaBothRead
namespace Go.Proofs.Ytpckcapilhfpcaa

def allB : List UInt8 := (List.range 256).map UInt8.ofNat
theorem bytesBelow_eq (f : Cls) : ∀ n, bytesBelow f n = ((List.range n).map UInt8.ofNat).filter f
  | 0 => rfl
  | n + 1 => by
    rw [bytesBelow, bytesBelow_eq f n, List.range_succ, List.map_append, List.filter_append]
    congr 1
    by_cases h : f (UInt8.ofNat n) = true
    · simp [h]
    · simp at h
      simp [h]
theorem bytesOf_eq (f : Cls) : bytesOf f = allB.filter f := bytesBelow_eq f 256
theorem mem_allB (x : UInt8) : x ∈ allB := List.mem_map.2 ⟨x.toNat, List.mem_range.2 x.toNat_lt, by simp⟩
theorem mem_bytes {f : Cls} {x : UInt8} : x ∈ bytesOf f ↔ f x = true := by
  rw [bytesOf_eq, List.mem_filter]
  exact ⟨fun h => h.2, fun h => ⟨mem_allB x, h⟩⟩
theorem allB_nodup : allB.Nodup := by
  unfold allB List.Nodup
  rw [List.pairwise_map]
  refine List.Pairwise.imp_of_mem ?_ (List.pairwise_lt_range (n := 256))
  intro a b ha hb hlt e
  have ha := List.mem_range.1 ha
  have hb := List.mem_range.1 hb
  have h1 := congrArg UInt8.toNat e
  rw [ofNat_nat ha, ofNat_nat hb] at h1
  omega
theorem bytes_nodup (f : Cls) : (bytesOf f).Nodup := by rw [bytesOf_eq]; exact allB_nodup.filter _
theorem bytes_all {f : Cls} : (bytesOf f).length = 256 ↔ ∀ x, f x = true := by
  have h256 : allB.length = 256 := by simp [allB]
  rw [bytesOf_eq, ← h256, List.length_filter_eq_length_iff]
  exact ⟨fun h x => h x (mem_allB x), fun h x _ => h x⟩
theorem bytes_none {f : Cls} : bytesOf (fun y => !f y) = [] ↔ ∀ x, f x = true := by
  constructor
  · intro h x
    cases hx : f x with
    | true => rfl
    | false =>
      have : x ∈ bytesOf (fun y => !f y) := mem_bytes.2 (by simp [hx])
      rw [h] at this
      cases this
  · intro h
    cases hb : bytesOf (fun y => !f y) with
    | nil => rfl
    | cons x l =>
      have : x ∈ bytesOf (fun y => !f y) := by rw [hb]; simp
      rw [mem_bytes] at this
      simp [h x] at this
theorem bytes_ext {f g : Cls} (h : bytesOf f = bytesOf g) : f = g := by
  funext x
  rw [Bool.eq_iff_iff, ← mem_bytes, ← mem_bytes, h]
theorem filter_or_le (p q : UInt8 → Bool) : ∀ L : List UInt8, (L.filter fun y => p y || q y).length ≤ (L.filter p).length + (L.filter q).length
  | [] => by simp
  | x :: L => by
    have ih := filter_or_le p q L
    simp only [List.filter_cons]
    cases p x <;> cases q x <;> simp <;> omega
theorem bytes_list_le : ∀ l : List UInt8, (bytesOf (ofL l)).length ≤ l.length
  | [] => by
    have : bytesOf (ofL []) = [] := by
      cases hb : bytesOf (ofL []) with
      | nil => rfl
      | cons x l =>
        have : x ∈ bytesOf (ofL []) := by rw [hb]; simp
        rw [mem_bytes] at this
        simp [ofL] at this
    rw [this]
    simp
  | x :: l => by
    have ih := bytes_list_le l
    have e : ofL (x :: l) = fun y => (y == x) || ofL l y := by
      funext y
      rw [Bool.eq_iff_iff]
      simp [ofL]
    have h1 : (allB.filter (· == x)).length ≤ 1 := by
      have := List.nodup_iff_count.1 allB_nodup x
      rw [List.count_eq_countP, List.countP_eq_length_filter] at this
      exact this
    rw [bytesOf_eq] at ih
    rw [bytesOf_eq, e]
    have := filter_or_le (· == x) (ofL l) allB
    simp only [List.length_cons]
    omega

/-- the one text of a class -/
def showC (f : Cls) : List UInt8 :=
  if (bytesOf f).length = 256 then [46]
  else if (bytesOf f).length = 1 ∧ bytesOf f ≠ [46] ∧ bytesOf f ≠ [91] then bytesOf f
  else if f 93 = true then 91 :: 94 :: bytesOf (fun y => !f y) ++ [93]
  else if f 94 = true then 91 :: (bytesOf f).filter (· != 94) ++ [94, 93]
  else 91 :: bytesOf f ++ [93]
def showP (P : List Cls) : List UInt8 := if P = [] then [46] else (P.map showC).flatten

/-- a text that one item may be, without the closing bracket within -/
def Piece2 (t : List UInt8) : Prop := (∃ x, t = [x] ∧ x ≠ 91) ∨ ∃ l, t = 91 :: l ++ [93] ∧ bracketOk l = true ∧ ¬ 93 ∈ l
theorem strip_cases (l : List UInt8) : (isNot l = true ∧ l = 94 :: stripHat l) ∨ (isNot l = false ∧ stripHat l = l) := by
  cases l with
  | nil => exact .inr ⟨rfl, rfl⟩
  | cons x r =>
    by_cases h : x = 94
    · subst h; exact .inl ⟨rfl, rfl⟩
    · exact .inr ⟨by simpa [isNot] using h, by simp [stripHat, h]⟩
theorem ok_strip {l : List UInt8} (h : bracketOk l = true) : stripHat l ≠ [] := by
  intro e
  rw [bracketOk, e] at h
  simp at h
theorem ofL_mem {l : List UInt8} {x : UInt8} : ofL l x = true ↔ x ∈ l := by simp [ofL]
theorem ofL_bytes (f : Cls) : ofL (bytesOf f) = f := by
  funext x
  rw [Bool.eq_iff_iff, ofL_mem, mem_bytes]
theorem one_cls {f : Cls} {x : UInt8} (h : bytesOf f = [x]) : f = fun y => x == y := by
  funext y
  rw [Bool.eq_iff_iff, ← mem_bytes, h, beq_iff_eq, List.mem_singleton, eq_comm]
theorem cls_one (x : UInt8) : bytesOf (fun y => x == y) = [x] := by
  have hn := bytes_nodup (fun y => x == y)
  cases hb : bytesOf (fun y => x == y) with
  | nil =>
    have : x ∈ bytesOf (fun y => x == y) := mem_bytes.2 (by simp)
    rw [hb] at this
    cases this
  | cons a l =>
    have hm : ∀ y ∈ a :: l, y = x := fun y hy => by
      rw [← hb, mem_bytes] at hy
      exact (beq_iff_eq.1 hy).symm
    have ha := hm a (by simp)
    subst ha
    cases l with
    | nil => rfl
    | cons b l =>
      have hb2 := hm b (by simp)
      subst hb2
      rw [hb] at hn
      simp at hn
/-- the class of a piece: not empty; full only where the piece is the full stop -/
theorem piece_some {t : List UInt8} (h : Piece2 t) : ∃ x, clsOf t x = true := by
  rcases h with ⟨x, rfl, _⟩ | ⟨l, rfl, hok, h93⟩
  · by_cases c : x = 46
    · exact ⟨0, by simp [clsOf, c]⟩
    · exact ⟨x, by simp [clsOf, c]⟩
  · rw [clsOf_wrap (ok_ne hok)]
    have hs := ok_strip hok
    rcases strip_cases l with ⟨h1, h2⟩ | ⟨h1, h2⟩
    · refine ⟨93, ?_⟩
      have : ¬ 93 ∈ stripHat l := fun h => h93 (by rw [h2]; exact List.mem_cons_of_mem _ h)
      simp only [bracketCls, h1, if_true]
      rw [Bool.not_eq_true', ← Bool.not_eq_true, ofL_mem]
      exact this
    · cases hl : stripHat l with
      | nil => exact absurd hl hs
      | cons y r =>
        refine ⟨y, ?_⟩
        simp only [bracketCls, h1, Bool.false_eq_true, if_false, hl]
        rw [ofL_mem]
        simp
theorem piece_full {t : List UInt8} (h : Piece2 t) (hf : ∀ x, clsOf t x = true) : t = [46] := by
  rcases h with ⟨x, rfl, hx⟩ | ⟨l, rfl, hok, h93⟩
  · by_cases c : x = 46
    · rw [c]
    · have h1 := hf 46
      simp only [clsOf, if_neg c, beq_iff_eq] at h1
      exact absurd h1 c
  · rw [clsOf_wrap (ok_ne hok)] at hf
    have hs := ok_strip hok
    rcases strip_cases l with ⟨h1, h2⟩ | ⟨h1, h2⟩
    · cases hl : stripHat l with
      | nil => exact absurd hl hs
      | cons y r =>
        have := hf y
        simp only [bracketCls, h1, if_true, hl] at this
        rw [Bool.not_eq_true', ← Bool.not_eq_true, ofL_mem] at this
        simp at this
    · have := hf 93
      simp only [bracketCls, h1, Bool.false_eq_true, if_false, h2] at this
      rw [ofL_mem] at this
      exact absurd this h93

/-- what is shown of a class that is not empty is a piece that writes this class -/
theorem show_piece {f : Cls} (h0 : ∃ x, f x = true) : Piece2 (showC f) ∧ clsOf (showC f) = f := by
  unfold showC
  by_cases h1 : (bytesOf f).length = 256
  · rw [if_pos h1]
    refine ⟨.inl ⟨46, rfl, by decide⟩, ?_⟩
    funext x
    rw [bytes_all.1 h1 x]
    rfl
  · rw [if_neg h1]
    by_cases h2 : (bytesOf f).length = 1 ∧ bytesOf f ≠ [46] ∧ bytesOf f ≠ [91]
    · rw [if_pos h2]
      obtain ⟨h2, h3, h4⟩ := h2
      obtain ⟨x, hx⟩ := List.length_eq_one_iff.1 h2
      rw [hx] at h3 h4 ⊢
      have e46 : x ≠ 46 := fun e => h3 (by rw [e])
      refine ⟨.inl ⟨x, rfl, fun e => h4 (by rw [e])⟩, ?_⟩
      rw [one_cls hx]
      simp only [clsOf, if_neg e46]
    · rw [if_neg h2]
      by_cases h3 : f 93 = true
      · rw [if_pos h3]
        have hne : bytesOf (fun y => !f y) ≠ [] := fun e => h1 (bytes_all.2 (bytes_none.1 e))
        have hok : bracketOk (94 :: bytesOf (fun y => !f y)) = true := by
          simp only [bracketOk, stripHat, if_true]
          simpa using hne
        refine ⟨.inr ⟨94 :: bytesOf (fun y => !f y), rfl, hok, ?_⟩, ?_⟩
        · intro h
          rcases List.mem_cons.1 h with h | h
          · exact absurd h (by decide)
          · rw [mem_bytes] at h
            simp [h3] at h
        · show clsOf (91 :: (94 :: bytesOf (fun y => !f y)) ++ [93]) = f
          rw [clsOf_wrap (by simp)]
          funext y
          simp only [bracketCls, isNot, beq_self_eq_true, if_true, stripHat, ofL_bytes, Bool.not_not]
      · rw [if_neg h3]
        obtain ⟨x0, hx0⟩ := h0
        have hm0 := mem_bytes.2 hx0
        by_cases h4 : f 94 = true
        · rw [if_pos h4]
          have hne : (bytesOf f).filter (· != 94) ≠ [] := by
            intro e
            have hall : ∀ y, f y = true → y = 94 := fun y hy => by
              by_cases c : y = 94
              · exact c
              · have : y ∈ (bytesOf f).filter (· != 94) := List.mem_filter.2 ⟨mem_bytes.2 hy, by simpa using c⟩
                rw [e] at this
                cases this
            have hf : f = fun y => 94 == y := by
              funext y
              rw [Bool.eq_iff_iff, beq_iff_eq]
              exact ⟨fun h => (hall y h).symm, fun h => by rw [← h]; exact h4⟩
            apply h2
            rw [hf, cls_one]
            exact ⟨rfl, by simp, by simp⟩
          have hst : stripHat ((bytesOf f).filter (· != 94) ++ [94]) = (bytesOf f).filter (· != 94) ++ [94] ∧ isNot ((bytesOf f).filter (· != 94) ++ [94]) = false := by
            cases hl : (bytesOf f).filter (· != 94) with
            | nil => exact absurd hl hne
            | cons y r =>
              have hy : y ≠ 94 := by
                have : y ∈ (bytesOf f).filter (· != 94) := by rw [hl]; simp
                simpa using (List.mem_filter.1 this).2
              exact ⟨by simp [stripHat, hy], by simpa [isNot] using hy⟩
          have e : (91 :: (bytesOf f).filter (· != 94) ++ [94, 93] : List UInt8) = 91 :: ((bytesOf f).filter (· != 94) ++ [94]) ++ [93] := by simp
          rw [e]
          refine ⟨.inr ⟨_, rfl, ?_, ?_⟩, ?_⟩
          · rw [bracketOk, hst.1]
            simp
          · intro h
            rcases List.mem_append.1 h with h | h
            · have := mem_bytes.1 (List.mem_filter.1 h).1
              exact h3 this
            · exact absurd (List.mem_singleton.1 h) (by decide)
          · rw [clsOf_wrap (by simp)]
            simp only [bracketCls, hst.1, hst.2, Bool.false_eq_true, if_false]
            funext y
            rw [Bool.eq_iff_iff, ofL_mem]
            constructor
            · intro h
              rcases List.mem_append.1 h with h | h
              · exact mem_bytes.1 (List.mem_filter.1 h).1
              · rw [List.mem_singleton.1 h]; exact h4
            · intro h
              by_cases c : y = 94
              · rw [c]; simp
              · exact List.mem_append_left _ (List.mem_filter.2 ⟨mem_bytes.2 h, by simpa using c⟩)
        · rw [if_neg h4]
          have hst : stripHat (bytesOf f) = bytesOf f ∧ isNot (bytesOf f) = false := by
            cases hl : bytesOf f with
            | nil => exact ⟨rfl, rfl⟩
            | cons y r =>
              have hy : y ≠ 94 := by
                intro c
                have : y ∈ bytesOf f := by rw [hl]; simp
                rw [mem_bytes, c] at this
                exact h4 this
              exact ⟨by simp [stripHat, hy], by simpa [isNot] using hy⟩
          have hne : bytesOf f ≠ [] := fun e => by rw [e] at hm0; cases hm0
          refine ⟨.inr ⟨_, rfl, ?_, ?_⟩, ?_⟩
          · rw [bracketOk, hst.1]
            simpa using hne
          · intro h
            exact h3 (mem_bytes.1 h)
          · rw [clsOf_wrap hne]
            simp only [bracketCls, hst.1, hst.2, Bool.false_eq_true, if_false, ofL_bytes]

theorem filter_hat_len (l : List UInt8) (h : 94 ∈ l) : (l.filter (· != 94)).length + 1 ≤ l.length := by
  have := List.length_filter_lt_length_iff_exists (p := (· != (94 : UInt8))) (l := l) |>.2 ⟨94, h, by simp⟩
  omega
/-- what is shown is no longer than the piece that was read -/
theorem show_len {t : List UInt8} (h : Piece2 t) : (showC (clsOf t)).length ≤ t.length := by
  unfold showC
  by_cases h1 : (bytesOf (clsOf t)).length = 256
  · rw [if_pos h1]
    rcases h with ⟨x, rfl, _⟩ | ⟨l, rfl, _⟩ <;> simp
  · rw [if_neg h1]
    by_cases h2 : (bytesOf (clsOf t)).length = 1 ∧ bytesOf (clsOf t) ≠ [46] ∧ bytesOf (clsOf t) ≠ [91]
    · rw [if_pos h2, h2.1]
      rcases h with ⟨x, rfl, _⟩ | ⟨l, rfl, _⟩ <;> simp
    · rw [if_neg h2]
      rcases h with ⟨x, rfl, hx⟩ | ⟨l, rfl, hok, h93⟩
      · exfalso
        by_cases c : x = 46
        · apply h1
          rw [c]
          exact bytes_all.2 fun _ => rfl
        · have e : clsOf [x] = fun y => x == y := by simp only [clsOf, if_neg c]
          apply h2
          rw [e, cls_one]
          exact ⟨rfl, by simpa using c, by simpa using hx⟩
      · rw [clsOf_wrap (ok_ne hok)]
        rcases strip_cases l with ⟨g1, g2⟩ | ⟨g1, g2⟩
        · have e : bracketCls l = fun y => !ofL (stripHat l) y := by simp only [bracketCls, g1, if_true]
          have hn93 : ¬ 93 ∈ stripHat l := fun h => h93 (by rw [g2]; exact List.mem_cons_of_mem _ h)
          have y93 : bracketCls l 93 = true := by
            rw [e]
            simp only [Bool.not_eq_true', ← Bool.not_eq_true]
            rw [ofL_mem]
            exact hn93
          rw [if_pos y93, e]
          have hb : (bytesOf fun y => ofL (stripHat l) y).length ≤ (stripHat l).length := bytes_list_le (stripHat l)
          have hl := congrArg List.length g2
          simp only [Bool.not_not, List.length_append, List.length_cons, List.length_nil] at hl ⊢
          omega
        · have e : bracketCls l = ofL l := by simp only [bracketCls, g1, Bool.false_eq_true, if_false, g2]
          have n93 : ¬ bracketCls l 93 = true := by
            rw [e, ofL_mem]
            exact h93
          rw [if_neg n93, e]
          have := bytes_list_le l
          by_cases h4 : ofL l 94 = true
          · rw [if_pos h4]
            have := filter_hat_len (bytesOf (ofL l)) (mem_bytes.2 h4)
            simp only [List.length_append, List.length_cons, List.length_nil]
            omega
          · rw [if_neg h4]
            simp only [List.length_append, List.length_cons, List.length_nil]
            omega

theorem piecesF_piece2 : ∀ (f : Nat) (l : List UInt8) (ps : List (List UInt8)), piecesF f l = some ps → ∀ t ∈ ps, Piece2 t
  | 0, l, ps, h => by simp [piecesF] at h; subst h; simp
  | f + 1, [], ps, h => by simp [piecesF] at h; subst h; simp
  | f + 1, x :: l, ps, h => by
    by_cases hx : x = 91
    · subst hx
      simp only [piecesF, if_true] at h
      cases hf : find93 l with
      | none => simp [hf] at h
      | some n =>
        simp only [hf] at h
        by_cases hok : bracketOk (l.take n) = true
        · rw [if_pos hok] at h
          cases hp : piecesF f (l.drop (n + 1)) with
          | none => simp [hp] at h
          | some qs =>
            simp [hp] at h
            subst h
            intro t ht
            rcases List.mem_cons.1 ht with rfl | ht
            · refine .inr ⟨l.take n, ?_, hok, find93_before hf⟩
              have hlt := find93_lt hf
              have := find93_at hf
              rw [List.getElem?_eq_getElem hlt] at this
              rw [List.take_succ_eq_append_getElem hlt]
              simp at this
              simp [this]
            · exact piecesF_piece2 f _ qs hp t ht
        · rw [if_neg hok] at h
          cases h
    · simp only [piecesF, if_neg hx] at h
      cases hp : piecesF f l with
      | none => simp [hp] at h
      | some qs =>
        simp [hp] at h
        subst h
        intro t ht
        rcases List.mem_cons.1 ht with rfl | ht
        · exact .inl ⟨x, rfl, hx⟩
        · exact piecesF_piece2 f l qs hp t ht
theorem piecesF_flat : ∀ (f : Nat) (l : List UInt8) (ps : List (List UInt8)), piecesF f l = some ps → l.length ≤ f → ps.flatten = l
  | 0, l, ps, h, hl => by
    simp [piecesF] at h
    subst h
    cases l with
    | nil => rfl
    | cons x l => simp at hl
  | f + 1, [], ps, h, _ => by simp [piecesF] at h; subst h; rfl
  | f + 1, x :: l, ps, h, hl => by
    by_cases hx : x = 91
    · subst hx
      simp only [piecesF, if_true] at h
      cases hf : find93 l with
      | none => simp [hf] at h
      | some n =>
        simp only [hf] at h
        by_cases hok : bracketOk (l.take n) = true
        · rw [if_pos hok] at h
          cases hp : piecesF f (l.drop (n + 1)) with
          | none => simp [hp] at h
          | some qs =>
            simp [hp] at h
            subst h
            have := piecesF_flat f _ qs hp (by rw [List.length_drop]; simp at hl; omega)
            simp [this]
        · rw [if_neg hok] at h
          cases h
    · simp only [piecesF, if_neg hx] at h
      cases hp : piecesF f l with
      | none => simp [hp] at h
      | some qs =>
        simp [hp] at h
        subst h
        have := piecesF_flat f l qs hp (by simpa using hl)
        simp [this]
theorem find93_mid : ∀ (l r : List UInt8), ¬ 93 ∈ l → find93 (l ++ 93 :: r) = some l.length
  | [], r, _ => by simp [find93]
  | x :: l, r, h => by
    have hx : x ≠ 93 := fun e => h (by rw [e]; simp)
    have ih := find93_mid l r (fun e => h (List.mem_cons_of_mem _ e))
    simp [find93, hx, ih]
theorem piece_pos {t : List UInt8} (h : Piece2 t) : 0 < t.length := by rcases h with ⟨x, rfl, _⟩ | ⟨l, rfl, _⟩ <;> simp
/-- pieces put one behind the other are read as these pieces -/
theorem piecesF_of : ∀ (ts : List (List UInt8)) (f : Nat), (∀ t ∈ ts, Piece2 t) → ts.flatten.length ≤ f → piecesF f ts.flatten = some ts
  | [], f, _, _ => by cases f <;> simp [piecesF]
  | t :: ts, 0, h, hf => by
    have := piece_pos (h t (by simp))
    simp only [List.flatten_cons, List.length_append] at hf
    omega
  | t :: ts, f + 1, h, hf => by
    have hp := h t (by simp)
    have hpos := piece_pos hp
    simp only [List.flatten_cons, List.length_append] at hf
    have ih := piecesF_of ts f (fun u hu => h u (List.mem_cons_of_mem _ hu)) (by omega)
    rcases hp with ⟨x, rfl, hx⟩ | ⟨l, rfl, hok, h93⟩
    · simp only [List.flatten_cons, List.cons_append, List.nil_append, piecesF, if_neg hx, ih]
      rfl
    · have e : (((91 :: l ++ [93]) :: ts).flatten) = 91 :: (l ++ 93 :: ts.flatten) := by simp
      rw [e]
      simp only [piecesF, if_true, find93_mid l _ h93]
      have e1 : (l ++ 93 :: ts.flatten).take l.length = l := by simp
      have e2 : (l ++ 93 :: ts.flatten).drop (l.length + 1) = ts.flatten := by rw [List.drop_append]; simp
      have e3 : (l ++ 93 :: ts.flatten).take (l.length + 1) = l ++ [93] := by rw [List.take_append, List.take_of_length_le (by omega)]; simp
      rw [e1, if_pos hok, e2, ih, e3]
      rfl

theorem map_show_len : ∀ ts : List (List UInt8), (∀ t ∈ ts, Piece2 t) → (((ts.map clsOf).map showC).flatten).length ≤ ts.flatten.length
  | [], _ => by simp
  | t :: ts, h => by
    have ih := map_show_len ts (fun u hu => h u (List.mem_cons_of_mem _ hu))
    have h1 := show_len (h t (by simp))
    simp only [List.map_cons, List.flatten_cons, List.length_append]
    omega
theorem read_cases {s : List UInt8} {ps : List (List UInt8)} (h : readP s = .inr ps) :
    ps = [] ∨ (ps ≠ [] ∧ s ≠ [46] ∧ ps.flatten = s ∧ s.length ≤ 512 ∧ ps.length ≤ 16 ∧ ∀ t ∈ ps, Piece2 t) := by
  unfold readP at h
  split at h
  · cases h
  · rename_i h0
    split at h
    · injection h with h
      exact .inl h.symm
    · rename_i h46
      cases hp : piecesF s.length s with
      | none => rw [hp] at h; cases h
      | some qs =>
        rw [hp] at h
        simp only at h
        split at h
        · cases h
        · injection h with h
          subst h
          have hfl := piecesF_flat _ _ _ hp (Nat.le_refl _)
          refine .inr ⟨fun e => h0 (.inl ?_), h46, hfl, by have : ¬ 512 < s.length := fun e => h0 (.inr e); omega, by omega, piecesF_piece2 _ _ _ hp⟩
          rw [e] at hfl
          exact hfl.symm
/-- P4.4: the text that is shown is no longer than the one that was read -/
theorem showP_len {s : List UInt8} (h : errOf (readP s) = 0) : (showP (patOf (readP s))).length ≤ s.length := by
  have hpos : 0 < s.length := by
    cases s with
    | nil => rw [readP_empty rfl] at h; cases h
    | cons x s => simp
  cases hr : readP s with
  | inl e => rw [hr] at h; simp only [errOf] at h; unfold readP at hr; rw [h] at hr; split at hr; · cases hr
             split at hr; · cases hr
             split at hr; · cases hr
             split at hr <;> cases hr
  | inr ps =>
    unfold showP patOf
    by_cases h0 : ps.map clsOf = []
    · rw [if_pos h0]
      exact hpos
    · rw [if_neg h0]
      rcases read_cases hr with hn | ⟨_, _, hfl, _, _, hpc⟩
      · rw [hn] at h0
        exact absurd rfl h0
      · have := map_show_len ps hpc
        rw [hfl] at this
        exact this

/-- a pattern that Read may answer -/
def CanRead (P : List Cls) : Prop := ∃ s, patOf (readP s) = P
/-- what is shown is read back as the same pattern -/
theorem show_back {s : List UInt8} : errOf (readP (showP (patOf (readP s)))) = 0 ∧ patOf (readP (showP (patOf (readP s)))) = patOf (readP s) := by
  by_cases h0 : patOf (readP s) = []
  · rw [h0]
    have : showP [] = [46] := if_pos rfl
    rw [this, readP_dot]
    exact ⟨rfl, rfl⟩
  · cases hr : readP s with
    | inl e => rw [hr] at h0; exact absurd rfl h0
    | inr ps =>
      rw [hr] at h0
      rcases read_cases hr with hn | ⟨hne, h46, hfl, h512, h16, hpc⟩
      · rw [hn] at h0
        exact absurd rfl h0
      · have hq : ∀ t ∈ (ps.map clsOf).map showC, Piece2 t := by
          intro t ht
          obtain ⟨f, hf, rfl⟩ := List.mem_map.1 ht
          obtain ⟨u, hu, rfl⟩ := List.mem_map.1 hf
          exact (show_piece (piece_some (hpc u hu))).1
        have hback : ((ps.map clsOf).map showC).map clsOf = ps.map clsOf := by
          rw [List.map_map, List.map_map]
          apply List.map_congr_left
          intro u hu
          have := (show_piece (f := clsOf u) (piece_some (hpc u hu))).2
          simp only [Function.comp_apply]
          exact this
        have hlen := map_show_len ps hpc
        rw [hfl] at hlen
        have hs : showP (patOf (.inr ps)) = ((ps.map clsOf).map showC).flatten := by
          unfold showP
          rw [if_neg h0]
          rfl
        rw [hs]
        have n0 : ((ps.map clsOf).map showC).flatten ≠ [] := by
          intro e
          cases ps with
          | nil => exact hne rfl
          | cons t ps =>
            have := piece_pos (hq (showC (clsOf t)) (by simp))
            simp only [List.map_cons, List.flatten_cons, List.append_eq_nil_iff] at e
            rw [e.1] at this
            simp at this
        have n46 : ((ps.map clsOf).map showC).flatten ≠ [46] := by
          intro e
          have h1 := piecesF_of _ _ hq (Nat.le_refl _)
          rw [e] at h1
          have h2 : piecesF ([46] : List UInt8).length [46] = some [[46]] := rfl
          rw [h2] at h1
          injection h1 with h1
          cases ps with
          | nil => exact hne rfl
          | cons t ps =>
            simp only [List.map_cons, List.cons.injEq] at h1
            have hps : ps = [] := by
              have := h1.2.symm
              simpa using this
            subst hps
            have hfull : ∀ x, clsOf t x = true := by
              have hb := (show_piece (piece_some (hpc t (by simp)))).2
              rw [← h1.1] at hb
              intro x
              rw [← hb]
              rfl
            have ht := piece_full (hpc t (by simp)) hfull
            apply h46
            rw [← hfl, ht]
            rfl
        rw [readP_rest n0 (by omega) n46, piecesF_of _ _ hq (Nat.le_refl _)]
        simp only [List.length_map]
        rw [if_neg (by omega)]
        exact ⟨rfl, hback⟩
theorem show_inj {s t : List UInt8} (h : showP (patOf (readP s)) = showP (patOf (readP t))) : patOf (readP s) = patOf (readP t) := by
  have h1 := (show_back (s := s)).2
  have h2 := (show_back (s := t)).2
  rw [h] at h1
  rw [← h1, h2]
end Go.Proofs.Ytpckcapilhfpcaa
