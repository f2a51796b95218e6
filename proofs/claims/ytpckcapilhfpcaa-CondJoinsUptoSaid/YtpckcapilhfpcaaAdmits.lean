/-
  Pattern.Len, Pattern.Admits, and the reference's listed and Admits.
-/
import Derived.Test.YtpckcapilhfpcaaRefRead
namespace Go.Proofs.Ytpckcapilhfpcaa
open Go.RowKit

set_option maxHeartbeats 400000 in
theorem len_any (B : Nat) (v : Value) (P : List Cls) (w : World) (h : PatOwn B v P w) :
    Calls Try.prog 21 #[.agg #[v]] w fun e w' => e = .returned (.int .i64 P.length) ∧ Below w.heap.size w w' := by
  obtain ⟨a, cap, rfl⟩ := h.form
  go_enter Try.func21, Try.ntmps21
  go_wp2_with fail
  go_ret
  exact ⟨rfl, (Below.refl _ _).alloc (Nat.le_refl _) _⟩

set_option maxHeartbeats 1000000 in
theorem admits_in (B : Nat) (v : Value) (P : List Cls) (k : Nat) (f : Cls) (b : UInt8) (w : World) (h : PatOwn B v P w) (hk : P[k]? = some f) :
    Calls Try.prog 22 #[.agg #[v], .int .i64 k, .int .u8 b.toNat] w fun e w' => e = .returned (.bool (f b)) ∧ Below w.heap.size w w' := by
  have hlt : k < P.length := (List.getElem?_eq_some_iff.1 hk).1
  obtain ⟨g, cap, rfl, _, hcap⟩ := h.somewhere (by intro e; rw [e] at hlt; simp at hlt)
  have c0 := h.cell hk (k := 0) (by decide)
  have c1 := h.cell hk (k := 1) (by decide)
  have c2 := h.cell hk (k := 2) (by decide)
  have c3 := h.cell hk (k := 3) (by decide)
  have K := fun w => has_any f b w
  have HK := Lib.hid K
  have hg : g < w.heap.size := (h.lt g rfl).2
  simp only [Nat.add_zero] at c0
  clear K hk hcap
  unfold clsV at HK
  go_enter Try.func22, Try.ntmps22
  go_wp2_with fail
  refine (HK.out _).mono ?_
  rintro e w1 ⟨rfl, hb1⟩
  go_wp2_with fail
  go_ret
  exact ⟨ret_bool (by simp), ((Below.refl _ _).alloc (Nat.le_refl _) _).trans (hb1.mono (by simp))⟩

set_option maxHeartbeats 1000000 in
theorem admits_neg (B : Nat) (v : Value) (P : List Cls) (i : Int) (b : UInt8) (w : World) (h : PatOwn B v P w) (hi : i < 0) :
    Calls Try.prog 22 #[.agg #[v], .int .i64 i, .int .u8 b.toNat] w fun e w' => e = .returned (.bool false) ∧ Below w.heap.size w w' := by
  obtain ⟨a, cap, rfl⟩ := h.form
  go_enter Try.func22, Try.ntmps22
  go_wp2_with fail
  go_ret
  exact ⟨rfl, (Below.refl _ _).alloc (Nat.le_refl _) _⟩
set_option maxHeartbeats 1000000 in
theorem admits_out (B : Nat) (v : Value) (P : List Cls) (k : Nat) (b : UInt8) (w : World) (h : PatOwn B v P w) (hk : ¬ k < P.length) :
    Calls Try.prog 22 #[.agg #[v], .int .i64 k, .int .u8 b.toNat] w fun e w' => e = .returned (.bool false) ∧ Below w.heap.size w w' := by
  obtain ⟨a, cap, rfl⟩ := h.form
  have hd : decide (k < P.length) = false := decide_eq_false hk
  go_enter Try.func22, Try.ntmps22
  go_wp2_with fail
  go_ret
  exact ⟨rfl, (Below.refl _ _).alloc (Nat.le_refl _) _⟩

set_option maxHeartbeats 1000000 in
theorem listed_any (s : ByteArray) (b : UInt8) (w : World) (hs : s.size ≤ maxLen) :
    Calls Try.prog 50 #[.string s, .int .u8 b.toNat] w fun e w' => e = .returned (.bool (ofL s.data.toList b)) ∧ w = w' := by
  unfold maxLen at hs
  go_enter Try.func50, Try.ntmps50
  go_wp2_with fail
  go_loop [5] (fun i => ∃ k : Nat, k ≤ s.size ∧ i = .int .i64 k ∧ ofL s.data.toList b = ofL (s.data.toList.drop k) b) (fun i => s.size - (intOf i).toNat)
  case atStart => exact ⟨0, by omega, rfl, rfl⟩
  case round =>
    obtain ⟨k, hk, rfl, hall⟩ := hrel
    by_cases hlt : k < s.size
    · rw [drop_cons s k hlt] at hall
      by_cases hx : s[k] = b
      · have e : ofL s.data.toList b = true := by rw [hall, hx]; simp [ofL]
        have h3 : ((s[k].toNat : Int) == (b.toNat : Int)) = true := by rw [hx]; simp
        have HE := Lib.hid e
        clear hall e hx
        go_wp2_with fail
        go_ret
        exact ⟨ret_bool HE.out.symm, rfl⟩
      · have e : ofL s.data.toList b = ofL (s.data.toList.drop (k + 1)) b := by rw [hall]; simp [ofL, Ne.symm hx]
        have h3 : ((s[k].toNat : Int) == (b.toNat : Int)) = false := by
          rw [beq_eq_false_iff_ne]
          intro e
          exact hx (UInt8.toNat_inj.1 (by omega))
        have HE := Lib.hid e
        clear hall e hx
        go_wp2_with fail
        go_round
        case rel => exact ⟨k + 1, by omega, by go_num, HE.out⟩
        case measure => simp [intOf]; omega
    · have e : ofL s.data.toList b = false := by rw [hall, drop_end s k hlt]; rfl
      have HE := Lib.hid e
      clear hall e
      go_wp2_with fail
      go_ret
      exact ⟨ret_bool HE.out.symm, rfl⟩

/-- a text that one item may be: one byte, or a bracket that holds something -/
def Piece (t : List UInt8) : Prop := (∃ x, t = [x] ∧ x ≠ 91) ∨ ∃ l, t = 91 :: l ++ [93] ∧ bracketOk l = true

set_option maxHeartbeats 1000000 in
theorem refAdmits_one (t : ByteArray) (x b : UInt8) (w : World) (ht : t.data.toList = [x]) :
    Calls Try.prog 23 #[.agg #[.string t], .int .u8 b.toNat] w fun e w' => e = .returned (.bool (clsOf t.data.toList b)) ∧ Below w.heap.size w w' := by
  have hsz : t.size = 1 := by rw [← len_eq, ht]; rfl
  have t1 : ((t.size : Int) == 1) = true := by rw [beq_iff_eq]; omega
  have h0 : 0 < t.size := by omega
  have hx : t[0] = x := by
    have h1 : t.data.toList[0]? = some t[0] := by rw [List.getElem?_eq_getElem (by rw [len_eq]; exact h0)]; rfl
    rw [ht] at h1
    simpa using h1.symm
  have HS := Lib.hid hsz
  by_cases c : x = 46
  · have e1 : (t.toList == [46]) = true := by rw [toList_eq, ht, c]; rfl
    have e : clsOf t.data.toList b = true := by rw [ht]; simp [clsOf, c]
    have HE := Lib.hid e
    clear hsz hx ht e
    go_enter Try.func23, Try.ntmps23
    go_wp2_with fail
    go_ret
    exact ⟨ret_bool HE.out.symm, (Below.refl _ _).alloc (Nat.le_refl _) _⟩
  · have e1 : (t.toList == [46]) = false := by rw [toList_eq, ht, beq_eq_false_iff_ne]; simpa using c
    have e : clsOf t.data.toList b = ((t[0].toNat : Int) == b.toNat) := by
      rw [ht, hx]
      simp only [clsOf, if_neg c]
      by_cases h : x = b
      · rw [h]; simp
      · rw [beq_eq_false_iff_ne.2 h]
        symm
        rw [beq_eq_false_iff_ne]
        intro e
        exact h (UInt8.toNat_inj.1 (by omega))
    have HE := Lib.hid e
    clear hsz hx ht e
    go_enter Try.func23, Try.ntmps23
    go_wp2_with fail
    go_ret
    exact ⟨ret_bool HE.out.symm, (Below.refl _ _).alloc (Nat.le_refl _) _⟩

theorem clsOf_wrap {l : List UInt8} (h : l ≠ []) : clsOf (91 :: l ++ [93]) = bracketCls l := by
  cases l with
  | nil => exact absurd rfl h
  | cons x l =>
    show bracketCls ((x :: l) ++ [93]).dropLast = _
    rw [List.dropLast_concat]

set_option maxHeartbeats 1000000 in
theorem refAdmits_bracket (t : ByteArray) (l : List UInt8) (b : UInt8) (w : World) (hs : t.size ≤ 1048576) (ht : t.data.toList = 91 :: l ++ [93]) (hl : l ≠ []) :
    Calls Try.prog 23 #[.agg #[.string t], .int .u8 b.toNat] w fun e w' => e = .returned (.bool (clsOf t.data.toList b)) ∧ Below w.heap.size w w' := by
  have hlen := len_eq t
  rw [ht] at hlen
  simp only [List.length_append, List.length_cons, List.length_nil] at hlen
  have hpos : 0 < l.length := by cases l with | nil => exact absurd rfl hl | cons x l => simp
  have hsz : 3 ≤ t.size := by omega
  have t1 : ((t.size : Int) == 1) = false := by rw [beq_eq_false_iff_ne]; omega
  have h1 : 1 < t.size := by omega
  have hx : l[0]? = some t[1] := by
    have h1 : t.data.toList[1]? = some t[1] := by rw [List.getElem?_eq_getElem (by rw [len_eq]; omega)]; rfl
    rw [ht] at h1
    rw [← h1]
    simp [hpos]
  have hcl := clsOf_wrap hl
  rw [← ht] at hcl
  by_cases c : t[1] = 94
  · have h3 : ((t[1].toNat : Int) == 94) = true := by rw [c]; rfl
    obtain ⟨r, hr⟩ : ∃ r, l = 94 :: r := by
      cases l with
      | nil => exact absurd rfl hl
      | cons y r => simp at hx; exact ⟨r, by rw [hx, c]⟩
    have he : (t.extract 2 (t.size - 1)).data.toList = r := by
      rw [Lib.extract_data, ht, hr]
      rw [hr] at hlen
      simp only [List.length_cons] at hlen
      have : t.size - 1 - 2 = r.length := by omega
      rw [this]
      simp
    have K := fun w => listed_any (t.extract 2 (t.size - 1)) b w (by rw [← len_eq, he]; rw [hr] at hlen; simp at hlen; unfold maxLen; omega)
    rw [he] at K
    have e : clsOf t.data.toList b = !(ofL r b) := by rw [hcl, hr]; rfl
    have HE := Lib.hid e
    have HK := Lib.hid K
    clear hcl hx hr he K e ht hlen c
    go_enter Try.func23, Try.ntmps23
    go_wp2_with fail
    refine (HK.out _).mono ?_
    rintro e w1 ⟨rfl, rfl⟩
    go_wp2_with fail
    go_ret
    exact ⟨ret_bool HE.out.symm, (Below.refl _ _).alloc (Nat.le_refl _) _⟩
  · have h3 : ((t[1].toNat : Int) == 94) = false := byte_ne (n := 94) (fun e => c (UInt8.toNat_inj.1 e)) rfl
    have he : (t.extract 1 (t.size - 1)).data.toList = l := by
      rw [Lib.extract_data, ht]
      have : t.size - 1 - 1 = l.length := by omega
      rw [this]
      simp
    have K := fun w => listed_any (t.extract 1 (t.size - 1)) b w (by rw [← len_eq, he]; unfold maxLen; omega)
    rw [he] at K
    have e : clsOf t.data.toList b = ofL l b := by
      rw [hcl]
      cases l with
      | nil => exact absurd rfl hl
      | cons y r =>
        simp at hx
        have hy : (y == 94) = false := by rw [beq_eq_false_iff_ne, hx]; exact c
        have hy2 : y ≠ 94 := by rw [hx]; exact c
        simp [bracketCls, isNot, stripHat, hy, hy2]
    have HE := Lib.hid e
    have HK := Lib.hid K
    clear hcl hx he K e ht hlen c
    go_enter Try.func23, Try.ntmps23
    go_wp2_with fail
    refine (HK.out _).mono ?_
    rintro e w1 ⟨rfl, rfl⟩
    go_wp2_with fail
    go_ret
    exact ⟨ret_bool HE.out.symm, (Below.refl _ _).alloc (Nat.le_refl _) _⟩

theorem ok_ne {l : List UInt8} (h : bracketOk l = true) : l ≠ [] := by
  rintro rfl
  simp [bracketOk, stripHat] at h
/-- the reference's Admits, of any item that Read answers -/
theorem refAdmits_any (t : ByteArray) (b : UInt8) (w : World) (hs : t.size ≤ 1048576) (ht : Piece t.data.toList) :
    Calls Try.prog 23 #[.agg #[.string t], .int .u8 b.toNat] w fun e w' => e = .returned (.bool (clsOf t.data.toList b)) ∧ Below w.heap.size w w' := by
  rcases ht with ⟨x, h, _⟩ | ⟨l, h, hok⟩
  · exact refAdmits_one t x b w h
  · exact refAdmits_bracket t l b w hs h (ok_ne hok)

theorem piecesF_piece : ∀ (f : Nat) (l : List UInt8) (ps : List (List UInt8)), piecesF f l = some ps → ∀ t ∈ ps, Piece t
  | 0, l, ps, h => by simp [piecesF] at h; subst h; simp
  | f + 1, [], ps, h => by simp [piecesF] at h; subst h; simp
  | f + 1, x :: l, ps, h => by
    by_cases hx : x = 91
    · subst hx
      simp only [piecesF, if_true] at h
      cases hf : find93 l with
      | none => simp [hf] at h
      | some n =>
        simp only [hf] at h
        by_cases hok : bracketOk (l.take n) = true
        · rw [if_pos hok] at h
          cases hp : piecesF f (l.drop (n + 1)) with
          | none => simp [hp] at h
          | some qs =>
            simp [hp] at h
            subst h
            intro t ht
            rcases List.mem_cons.1 ht with rfl | ht
            · refine .inr ⟨l.take n, ?_, hok⟩
              have hlt := find93_lt hf
              have := find93_at hf
              rw [List.getElem?_eq_getElem hlt] at this
              rw [List.take_succ_eq_append_getElem hlt]
              simp at this
              simp [this]
            · exact piecesF_piece f _ qs hp t ht
        · rw [if_neg hok] at h
          cases h
    · simp only [piecesF, if_neg hx] at h
      cases hp : piecesF f l with
      | none => simp [hp] at h
      | some qs =>
        simp [hp] at h
        subst h
        intro t ht
        rcases List.mem_cons.1 ht with rfl | ht
        · exact .inl ⟨x, rfl, hx⟩
        · exact piecesF_piece f l qs hp t ht
theorem piecesF_len : ∀ (f : Nat) (l : List UInt8) (ps : List (List UInt8)), piecesF f l = some ps → ∀ t ∈ ps, t.length ≤ l.length
  | 0, l, ps, h => by simp [piecesF] at h; subst h; simp
  | f + 1, [], ps, h => by simp [piecesF] at h; subst h; simp
  | f + 1, x :: l, ps, h => by
    by_cases hx : x = 91
    · subst hx
      simp only [piecesF, if_true] at h
      cases hf : find93 l with
      | none => simp [hf] at h
      | some n =>
        simp only [hf] at h
        by_cases hok : bracketOk (l.take n) = true
        · rw [if_pos hok] at h
          cases hp : piecesF f (l.drop (n + 1)) with
          | none => simp [hp] at h
          | some qs =>
            simp [hp] at h
            subst h
            intro t ht
            rcases List.mem_cons.1 ht with rfl | ht
            · simp only [List.length_cons]
              have := List.length_take_le' (n + 1) l
              omega
            · have := piecesF_len f _ qs hp t ht
              rw [List.length_drop] at this
              simp only [List.length_cons]
              omega
        · rw [if_neg hok] at h
          cases h
    · simp only [piecesF, if_neg hx] at h
      cases hp : piecesF f l with
      | none => simp [hp] at h
      | some qs =>
        simp [hp] at h
        subst h
        intro t ht
        rcases List.mem_cons.1 ht with rfl | ht
        · simp
        · have := piecesF_len f l qs hp t ht
          simp only [List.length_cons]
          omega
/-- what is known of what Read answers -/
theorem texts_piece (s : List UInt8) : ∀ t ∈ textsOf (readP s), Piece t ∧ t.length ≤ 512 := by
  unfold readP
  split
  · simp [textsOf]
  · rename_i h
    split
    · simp [textsOf]
    · cases hp : piecesF s.length s with
      | none => simp [textsOf]
      | some ps =>
        simp only
        split
        · simp [textsOf]
        · intro t ht
          have h1 := piecesF_len _ _ _ hp t ht
          exact ⟨piecesF_piece _ _ _ hp t ht, by have : ¬ 512 < s.length := fun e => h (.inr e); omega⟩
theorem texts_count (s : List UInt8) : (textsOf (readP s)).length ≤ 16 := by
  unfold readP
  split
  · simp [textsOf]
  · split
    · simp [textsOf]
    · cases hp : piecesF s.length s with
      | none => simp [textsOf]
      | some ps =>
        simp only
        split
        · simp [textsOf]
        · simp only [textsOf]
          omega
theorem patOf_texts (s : List UInt8) : patOf (readP s) = (textsOf (readP s)).map clsOf := by
  cases readP s <;> rfl
end Go.Proofs.Ytpckcapilhfpcaa
