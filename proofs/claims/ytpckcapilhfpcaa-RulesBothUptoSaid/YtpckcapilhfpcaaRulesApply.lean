/-
  rules.Apply and rules.Undo, of any rule and any word.
-/
import Derived.Test.YtpckcapilhfpcaaRulesFits
namespace Go.Proofs.Ytpckcapilhfpcaa
open Go.RowKit

def outS (o : Option (List UInt8)) : ByteArray := ⟨(o.getD []).toArray⟩
theorem outS_none : outS none = ⟨#[]⟩ := rfl
theorem outS_some (l : List UInt8) : outS (some l) = ⟨l.toArray⟩ := rfl
theorem outS_list (o : Option (List UInt8)) : (outS o).data.toList = o.getD [] := by simp [outS]
theorem ret_pair {a b : ByteArray} {x : Bool} (h : a = b) : Ending.returned (.tuple #[.string a, .bool x]) = .returned (.tuple #[.string b, .bool x]) := by rw [h]

/-- a contract that leaves the world alone, on a base world -/
theorem on_same {W w' : World} {F : World → Prop} {n : Nat} {args : Array Value} {r : Ending} (cells : ∀ w'', Below W.heap.size W w'' → F w'') (h : Below W.heap.size W w')
    (K : Calls Try.prog n args w' fun e w'' => e = r ∧ w'' = w') : Calls Try.prog n args w' fun e w'' => e = r ∧ Below W.heap.size W w'' ∧ F w'' :=
  K.mono fun _ w'' hh => ⟨hh.1, by rw [hh.2]; exact h, by rw [hh.2]; exact cells w' h⟩

theorem apply_parts {p : RuleP} {word : List UInt8} {X : ByteArray} {b : Bool} (h : outS (p.apply word) = X ∧ (p.apply word).isSome = b) :
    p.fits word = b ∧ (b = false → X = ⟨#[]⟩) ∧ (b = true → X = ⟨(p.made word).toArray⟩) := by
  obtain ⟨h1, h2⟩ := h
  rw [apply_fits] at h2
  refine ⟨h2, fun e => ?_, fun e => ?_⟩
  · rw [e] at h2
    rw [← h1, RuleP.apply, if_neg (by rw [h2]; decide)]
    rfl
  · rw [e] at h2
    rw [← h1, RuleP.apply, if_pos h2]
    rfl

set_option maxHeartbeats 2000000 in
set_option maxRecDepth 100000 in
theorem apply_pair (k fl : Int) (cr : Bool) (S A C : ByteArray) (a : Option Addr) (n c : Nat) (word : ByteArray) (X : ByteArray) (b : Bool)
    (hX : Caged (outS (RuleP.apply ⟨k, S.data.toList, A.data.toList, C.data.toList⟩ word.data.toList) = X ∧ (RuleP.apply ⟨k, S.data.toList, A.data.toList, C.data.toList⟩ word.data.toList).isSome = b)) (w : World)
    (hw : word.size ≤ 1125899906842624) (hA : A.size ≤ 1125899906842624) :
    Calls Try.prog 33 #[.agg #[.int .i64 k, .int .u16 fl, .bool cr, .string S, .string A, .string C, .slice a n c], .string word] w fun e w' => e = .returned (.tuple #[.string X, .bool b]) ∧ Below w.heap.size w w' := by
  obtain ⟨hf, hno, hyes⟩ := apply_parts hX.out
  have HF := Caged.mk (fun w => fits_bool k fl cr S A C a n c word b ⟨hf⟩ w hw)
  go_enter Try.func33, Try.ntmps33
  have hx := heap_alloc_new w (.cells #[.int .i64 k, .int .u16 fl, .bool cr, .string S, .string A, .string C, .slice a n c] 53)
  have HX := Caged.mk hx
  clear hx
  go_wp2_with fail
  refine (HF.out _).mono ?_
  rintro e W ⟨rfl, hb1⟩
  have hbW : Below w.heap.size w W := below_next (below_box (Below.refl _ _) _) hb1
  have hxW := (hb1.block _ (lt_box _ _)).trans HX.out
  have cells := fun (w'' : World) (h : Below W.heap.size W w'') => row7 ((h.block _ (Array.getElem?_eq_some_iff.1 hxW).1).trans hxW)
  have HC := Caged.mk cells
  obtain ⟨c0, _, _, c3, c4, _, _⟩ := row7 hxW
  have hbd : Below W.heap.size W W.drew := (Below.refl _ _).drew
  cases b with
  | false =>
    have hX0 := hno rfl
    have HX0 := Caged.mk hX0
    clear hX0 hno hyes hf cells hxW hb1
    go_wp2_with fail
    go_ret2
    exact ⟨ret_pair HX0.out.symm, hbW⟩
  | true =>
    have hX1 := hyes rfl
    rcases fits_kind hf with ⟨hk, hs⟩ | ⟨hk, hs⟩
    · simp only at hk hs
      subst hk
      have hmade : RuleP.made ⟨2, S.data.toList, A.data.toList, C.data.toList⟩ word.data.toList = Lib.trimSuffix word.data.toList S.data.toList ++ A.data.toList := by
        rw [RuleP.made, if_pos rfl, Lib.trimSuffix, if_pos hs]
      rw [hmade] at hX1
      have hTl : (Lib.trimSuffix word.data.toList S.data.toList).length ≤ word.size := by
        rw [Lib.trimSuffix, if_pos hs, List.length_take, len_eq]
        omega
      have K := fun w' h => on_same cells h (Try.strings_TrimSuffix word S w' (by omega))
      obtain ⟨T, hT⟩ : ∃ T : ByteArray, (⟨(Lib.trimSuffix word.data.toList S.data.toList).toArray⟩ : ByteArray) = T := ⟨_, rfl⟩
      have hTs : T.size ≤ word.size := by rw [← hT, mk_size]; exact hTl
      have hXT : T ++ A = X := by rw [hX1, ← hT]; exact ext_list (by simp)
      have hn : ¬ 9223372036854775807 < T.size + A.size := by omega
      rw [hT] at K
      have HK := Caged.mk K
      have HXT := Caged.mk hXT
      clear hX1 hno hyes hf cells hxW hb1 K hT hXT hmade hs hTl
      go_wp2_with fail
      refine wp_region_S (fun w' => Below W.heap.size W w' ∧ w'.cell? ⟨w.heap.size, 0, none⟩ = some (.int .i64 2) ∧ w'.cell? ⟨w.heap.size, 1, none⟩ = some (.int .u16 fl) ∧ w'.cell? ⟨w.heap.size, 2, none⟩ = some (.bool cr) ∧ w'.cell? ⟨w.heap.size, 3, none⟩ = some (.string S) ∧
        w'.cell? ⟨w.heap.size, 4, none⟩ = some (.string A) ∧ w'.cell? ⟨w.heap.size, 5, none⟩ = some (.string C) ∧ w'.cell? ⟨w.heap.size, 6, none⟩ = some (.slice a n c)) (by kernel_rfl) (by kernel_rfl) ?_ ?_
      · exact ⟨hbd, HC.out _ hbd⟩
      repeat
        first
          | (apply wpS_off; · rfl)
          | (apply wpS_on
             · rfl
             · intro w' hS
               obtain ⟨hb, h0, h1, h2, h3, h4, h5, h6⟩ := hS
               go_simp
               first
                 | with_reducible exact runs_value ⟨hb, h0, h1, h2, h3, h4, h5, h6⟩
                 | with_reducible exact runs_call (HK.out _ hb))
        simp only [Act.put, List.setIfInBounds_toArray, List.set_cons_zero, List.set_cons_succ]
      refine wpS_end fun W9 hS9 => ?_
      obtain ⟨hb9, _⟩ := hS9
      go_wp2_with fail
      go_ret2
      exact ⟨ret_pair HXT.out, below_next hbW hb9⟩
    · simp only at hk hs
      subst hk
      have hmade : RuleP.made ⟨1, S.data.toList, A.data.toList, C.data.toList⟩ word.data.toList = A.data.toList ++ Lib.trimPrefix word.data.toList S.data.toList := by
        rw [RuleP.made, if_neg (by show ¬ (1 : Int) = 2; decide), Lib.trimPrefix, if_pos hs]
      rw [hmade] at hX1
      have hTl : (Lib.trimPrefix word.data.toList S.data.toList).length ≤ word.size := by
        rw [Lib.trimPrefix, if_pos hs, List.length_drop, len_eq]
        omega
      have K := fun w' h => on_same cells h (Try.strings_TrimPrefix word S w')
      obtain ⟨T, hT⟩ : ∃ T : ByteArray, (⟨(Lib.trimPrefix word.data.toList S.data.toList).toArray⟩ : ByteArray) = T := ⟨_, rfl⟩
      have hTs : T.size ≤ word.size := by rw [← hT, mk_size]; exact hTl
      have hXT : A ++ T = X := by rw [hX1, ← hT]; exact ext_list (by simp)
      have hn : ¬ 9223372036854775807 < A.size + T.size := by omega
      rw [hT] at K
      have HK := Caged.mk K
      have HXT := Caged.mk hXT
      clear hX1 hno hyes hf cells hxW hb1 K hT hXT hmade hs hTl
      go_wp2_with fail
      refine wp_region_S (fun w' => Below W.heap.size W w' ∧ w'.cell? ⟨w.heap.size, 0, none⟩ = some (.int .i64 1) ∧ w'.cell? ⟨w.heap.size, 1, none⟩ = some (.int .u16 fl) ∧ w'.cell? ⟨w.heap.size, 2, none⟩ = some (.bool cr) ∧ w'.cell? ⟨w.heap.size, 3, none⟩ = some (.string S) ∧
        w'.cell? ⟨w.heap.size, 4, none⟩ = some (.string A) ∧ w'.cell? ⟨w.heap.size, 5, none⟩ = some (.string C) ∧ w'.cell? ⟨w.heap.size, 6, none⟩ = some (.slice a n c)) (by kernel_rfl) (by kernel_rfl) ?_ ?_
      · exact ⟨hbd, HC.out _ hbd⟩
      repeat
        first
          | (apply wpS_off; · rfl)
          | (apply wpS_on
             · rfl
             · intro w' hS
               obtain ⟨hb, h0, h1, h2, h3, h4, h5, h6⟩ := hS
               go_simp
               first
                 | with_reducible exact runs_value ⟨hb, h0, h1, h2, h3, h4, h5, h6⟩
                 | with_reducible exact runs_call (HK.out _ hb))
        simp only [Act.put, List.setIfInBounds_toArray, List.set_cons_zero, List.set_cons_succ]
      refine wpS_end fun W9 hS9 => ?_
      obtain ⟨hb9, _⟩ := hS9
      go_wp2_with fail
      go_ret2
      exact ⟨ret_pair HXT.out, below_next hbW hb9⟩

theorem undo_none {p : RuleP} {word : List UInt8} (h : p.stem word = none) : p.undo word = none := by rw [RuleP.undo, h]
theorem undo_stem {p : RuleP} {word v : List UInt8} (h : p.stem word = some v) : p.undo word = if p.fits v = true then some v else none := by rw [RuleP.undo, h]

set_option maxHeartbeats 2000000 in
set_option maxRecDepth 100000 in
theorem undo_pair (k fl : Int) (cr : Bool) (S A C : ByteArray) (a : Option Addr) (n c : Nat) (word : ByteArray) (X : ByteArray) (b : Bool)
    (hX : Caged (outS (RuleP.undo ⟨k, S.data.toList, A.data.toList, C.data.toList⟩ word.data.toList) = X ∧ (RuleP.undo ⟨k, S.data.toList, A.data.toList, C.data.toList⟩ word.data.toList).isSome = b)) (w : World)
    (hw : word.size ≤ 562949953421312) (hS : S.size ≤ 562949953421312) :
    Calls Try.prog 38 #[.agg #[.int .i64 k, .int .u16 fl, .bool cr, .string S, .string A, .string C, .slice a n c], .string word] w fun e w' => e = .returned (.tuple #[.string X, .bool b]) ∧ Below w.heap.size w w' := by
  have HF := Caged.mk (fun v b2 (h : Caged (RuleP.fits ⟨k, S.data.toList, A.data.toList, C.data.toList⟩ v.data.toList = b2)) (hv : v.size ≤ 1125899906842624) w => fits_bool k fl cr S A C a n c v b2 h w hv)
  by_cases hk2 : k = 2
  · subst hk2
    have K := fun w => Try.strings_CutSuffix word A w (by omega)
    obtain ⟨T, hT⟩ : ∃ T : ByteArray, (⟨(Lib.trimSuffix word.data.toList A.data.toList).toArray⟩ : ByteArray) = T := ⟨_, rfl⟩
    have hTs : T.size ≤ word.size := by
      rw [← hT, mk_size, Lib.trimSuffix]
      split
      · rw [List.length_take, len_eq]; omega
      · rw [len_eq]; omega
    have hst : RuleP.stem ⟨2, S.data.toList, A.data.toList, C.data.toList⟩ word.data.toList = if Lib.hasSuffix word.data.toList A.data.toList = true then some (T ++ S).data.toList else none := by
      rw [RuleP.stem, if_pos rfl]
      split
      · rename_i h
        rw [add_list, ← hT, Lib.trimSuffix, if_pos h]
      · rfl
    rw [hT] at K
    generalize Lib.hasSuffix word.data.toList A.data.toList = b1 at K hst
    obtain ⟨U, hU⟩ : ∃ U, T ++ S = U := ⟨_, rfl⟩
    have hUs : U.size ≤ 1125899906842624 := by rw [← hU, add_size]; omega
    rw [hU] at hst
    have HK := Caged.mk K
    have HU := Caged.mk hU
    clear K hT hU
    cases b1 with
    | false =>
      rw [if_neg (by decide)] at hst
      have hu := undo_none hst
      rw [hu] at hX
      have hX0 := hX.out.1
      have hb0 := hX.out.2
      simp only [Option.isSome_none] at hb0
      subst hb0
      have HX0 := Caged.mk hX0
      clear hst hu hX0 hX
      go_enter Try.func38, Try.ntmps38
      go_wp2_with fail
      refine (HK.out _).mono ?_
      rintro e w1 ⟨rfl, rfl⟩
      go_wp2_with fail
      go_ret2
      exact ⟨ret_pair HX0.out, (Below.refl _ _).alloc (Nat.le_refl _) _⟩
    | true =>
      rw [if_pos rfl] at hst
      have hu := undo_stem hst
      rw [hu] at hX
      obtain ⟨b2, hb2⟩ : ∃ b2, RuleP.fits ⟨2, S.data.toList, A.data.toList, C.data.toList⟩ U.data.toList = b2 := ⟨_, rfl⟩
      have HF2 := Caged.mk (HF.out U b2 ⟨hb2⟩ hUs)
      rw [hb2] at hX
      have hXc : (b2 = true ∧ b = true ∧ X = U) ∨ (b2 = false ∧ b = false ∧ X = ⟨#[]⟩) := by
        obtain ⟨e1, e2⟩ := hX.out
        cases b2 with
        | true =>
          rw [if_pos rfl] at e1 e2
          exact .inl ⟨rfl, e2.symm, by rw [← e1, outS_some]⟩
        | false =>
          rw [if_neg (by decide)] at e1 e2
          exact .inr ⟨rfl, e2.symm, e1.symm⟩
      clear hst hu hX hb2
      rcases hXc with ⟨rfl, rfl, hXU⟩ | ⟨rfl, rfl, hXU⟩
      · have HXU := Caged.mk hXU
        clear hXU
        go_enter Try.func38, Try.ntmps38
        go_wp2_with fail
        refine (HK.out _).mono ?_
        rintro e w1 ⟨rfl, rfl⟩
        go_wp2_with fail
        rw [HU.out]
        refine (HF2.out _).mono ?_
        rintro e w2 ⟨rfl, hb2⟩
        go_wp2_with fail
        go_ret2
        exact ⟨ret_pair HXU.out.symm, below_next (below_box (Below.refl _ _) _) hb2⟩
      · have HXU := Caged.mk hXU
        clear hXU
        go_enter Try.func38, Try.ntmps38
        go_wp2_with fail
        refine (HK.out _).mono ?_
        rintro e w1 ⟨rfl, rfl⟩
        go_wp2_with fail
        rw [HU.out]
        refine (HF2.out _).mono ?_
        rintro e w2 ⟨rfl, hb2⟩
        go_wp2_with fail
        go_ret2
        exact ⟨ret_pair HXU.out.symm, below_next (below_box (Below.refl _ _) _) hb2⟩
  · by_cases hk1 : k = 1
    · subst hk1
      have K := fun w => Try.strings_CutPrefix word A w
      obtain ⟨T, hT⟩ : ∃ T : ByteArray, (⟨(Lib.trimPrefix word.data.toList A.data.toList).toArray⟩ : ByteArray) = T := ⟨_, rfl⟩
      have hTs : T.size ≤ word.size := by
        rw [← hT, mk_size, Lib.trimPrefix]
        split
        · rw [List.length_drop, len_eq]; omega
        · rw [len_eq]; omega
      have hst : RuleP.stem ⟨1, S.data.toList, A.data.toList, C.data.toList⟩ word.data.toList = if Lib.hasPrefix word.data.toList A.data.toList = true then some (S ++ T).data.toList else none := by
        rw [RuleP.stem, if_neg (by show ¬ (1 : Int) = 2; decide), if_pos rfl]
        split
        · rename_i h
          rw [add_list, ← hT, Lib.trimPrefix, if_pos h]
        · rfl
      rw [hT] at K
      generalize Lib.hasPrefix word.data.toList A.data.toList = b1 at K hst
      obtain ⟨U, hU⟩ : ∃ U, S ++ T = U := ⟨_, rfl⟩
      have hUs : U.size ≤ 1125899906842624 := by rw [← hU, add_size]; omega
      rw [hU] at hst
      have HK := Caged.mk K
      have HU := Caged.mk hU
      clear K hT hU
      cases b1 with
      | false =>
        rw [if_neg (by decide)] at hst
        have hu := undo_none hst
        rw [hu] at hX
        have hX0 := hX.out.1
        have hb0 := hX.out.2
        simp only [Option.isSome_none] at hb0
        subst hb0
        have HX0 := Caged.mk hX0
        clear hst hu hX0 hX hk2
        go_enter Try.func38, Try.ntmps38
        go_wp2_with fail
        refine (HK.out _).mono ?_
        rintro e w1 ⟨rfl, rfl⟩
        go_wp2_with fail
        go_ret2
        exact ⟨ret_pair HX0.out, (Below.refl _ _).alloc (Nat.le_refl _) _⟩
      | true =>
        rw [if_pos rfl] at hst
        have hu := undo_stem hst
        rw [hu] at hX
        obtain ⟨b2, hb2⟩ : ∃ b2, RuleP.fits ⟨1, S.data.toList, A.data.toList, C.data.toList⟩ U.data.toList = b2 := ⟨_, rfl⟩
        have HF2 := Caged.mk (HF.out U b2 ⟨hb2⟩ hUs)
        rw [hb2] at hX
        have hXc : (b2 = true ∧ b = true ∧ X = U) ∨ (b2 = false ∧ b = false ∧ X = ⟨#[]⟩) := by
          obtain ⟨e1, e2⟩ := hX.out
          cases b2 with
          | true =>
            rw [if_pos rfl] at e1 e2
            exact .inl ⟨rfl, e2.symm, by rw [← e1, outS_some]⟩
          | false =>
            rw [if_neg (by decide)] at e1 e2
            exact .inr ⟨rfl, e2.symm, e1.symm⟩
        clear hst hu hX hb2 hk2
        rcases hXc with ⟨rfl, rfl, hXU⟩ | ⟨rfl, rfl, hXU⟩
        · have HXU := Caged.mk hXU
          clear hXU
          go_enter Try.func38, Try.ntmps38
          go_wp2_with fail
          refine (HK.out _).mono ?_
          rintro e w1 ⟨rfl, rfl⟩
          go_wp2_with fail
          rw [HU.out]
          refine (HF2.out _).mono ?_
          rintro e w2 ⟨rfl, hb2⟩
          go_wp2_with fail
          go_ret2
          exact ⟨ret_pair HXU.out.symm, below_next (below_box (Below.refl _ _) _) hb2⟩
        · have HXU := Caged.mk hXU
          clear hXU
          go_enter Try.func38, Try.ntmps38
          go_wp2_with fail
          refine (HK.out _).mono ?_
          rintro e w1 ⟨rfl, rfl⟩
          go_wp2_with fail
          rw [HU.out]
          refine (HF2.out _).mono ?_
          rintro e w2 ⟨rfl, hb2⟩
          go_wp2_with fail
          go_ret2
          exact ⟨ret_pair HXU.out.symm, below_next (below_box (Below.refl _ _) _) hb2⟩
    · have k2 : (k == 2) = false := by rw [beq_eq_false_iff_ne]; exact hk2
      have k1 : (k == 1) = false := by rw [beq_eq_false_iff_ne]; exact hk1
      have hst : RuleP.stem ⟨k, S.data.toList, A.data.toList, C.data.toList⟩ word.data.toList = none := by rw [RuleP.stem, if_neg hk2, if_neg hk1]
      have hu := undo_none hst
      rw [hu] at hX
      have hX0 := hX.out.1
      have hb0 := hX.out.2
      simp only [Option.isSome_none] at hb0
      subst hb0
      have HX0 := Caged.mk hX0
      clear hst hu hX0 hX hk1 hk2
      go_enter Try.func38, Try.ntmps38
      go_wp2_with fail
      go_ret2
      exact ⟨ret_pair HX0.out, (Below.refl _ _).alloc (Nat.le_refl _) _⟩
end Go.Proofs.Ytpckcapilhfpcaa
