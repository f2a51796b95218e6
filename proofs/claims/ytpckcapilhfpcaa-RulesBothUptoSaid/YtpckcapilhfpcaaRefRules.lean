/-
  The reference's Fits, Apply and Undo of layer 15.
-/
import Derived.Test.YtpckcapilhfpcaaRulesApply
namespace Go.Proofs.Ytpckcapilhfpcaa
open Go.RowKit

theorem suffix_test {word S : ByteArray} (h : S.size < word.size) : ((word.extract (word.size - S.size) word.size).toList == S.toList) = Lib.hasSuffix word.data.toList S.data.toList := by
  rw [Lib.toList_data, Lib.toList_data, Lib.extract_data]
  have e : (word.data.toList.drop (word.size - S.size)).take (word.size - (word.size - S.size)) = word.data.toList.drop (word.size - S.size) :=
    List.take_of_length_le (by rw [List.length_drop, len_eq]; omega)
  rw [e, Bool.eq_iff_iff, beq_iff_eq, suffix_iff]
  constructor
  · intro h2
    exact ⟨word.data.toList.take (word.size - S.size), by rw [← h2, List.take_append_drop]⟩
  · rintro ⟨X, hX⟩
    have hl := congrArg List.length hX
    rw [List.length_append, len_eq, len_eq] at hl
    rw [hX, show word.size - S.size = X.length from by omega]
    simp
theorem prefix_test {word S : ByteArray} : ((word.extract 0 S.size).toList == S.toList) = Lib.hasPrefix word.data.toList S.data.toList := by
  rw [Lib.toList_data, Lib.toList_data, Lib.extract_data]
  simp only [List.drop_zero, Nat.sub_zero]
  rw [Bool.eq_iff_iff, beq_iff_eq, prefix_iff]
  constructor
  · intro h2
    exact ⟨word.data.toList.drop S.size, by rw [← h2, List.take_append_drop]⟩
  · rintro ⟨X, hX⟩
    rw [hX, show S.size = S.data.toList.length from (len_eq S).symm]
    simp

set_option maxHeartbeats 4000000 in
set_option maxRecDepth 100000 in
theorem refFits_bool (k : Int) (S A C : ByteArray) (word : ByteArray) (b : Bool) (hb : Caged (RuleP.fits ⟨k, S.data.toList, A.data.toList, C.data.toList⟩ word.data.toList = b)) (w : World)
    (hw : word.size ≤ 1125899906842624) :
    Calls Try.prog 56 #[.agg #[.int .i64 k, .int .i64 0, .bool false, .string S, .string A, .string C, .slice none 0 0, .int .i64 0], .string word] w fun e w' => e = .returned (.bool b) ∧ Below w.heap.size w w' := by
  obtain ⟨er, hs, en, hp, st, h1, h2, h3, h4, h5, h6⟩ := fits_parts k S A C word
  rw [h6] at hb
  have K0 := fun w' => refRead04_any C w'
  unfold RefPost at K0
  rw [h1] at K0
  have HK0 := Caged.mk K0
  have H2 := Caged.mk h2
  have H3 := Caged.mk h3
  have H4 := Caged.mk h4
  have H5 := Caged.mk h5
  clear K0 h1 h2 h3 h4 h5 h6
  go_enter Try.func56, Try.ntmps56
  go_wp2_with fail
  have hx := heap_alloc_new w (.cells #[.int .i64 k, .int .i64 0, .bool false, .string S, .string A, .string C, .slice none 0 0, .int .i64 0] 59)
  refine (HK0.out _).mono ?_
  rintro e w1 ⟨v, Q, rfl, hq, hQ, hb1⟩
  have hPQ := both_pat hQ
  have hok := both_ok hQ
  have hlen := both_len hQ
  have hcnt := pat_count C.data.toList
  have K1 := fun v w' h => refEnds_any 0 v Q word w' h hok hw (by omega)
  have K2 := fun v w' h => refStarts_any 0 v Q word w' h hok hw (by omega)
  rw [hPQ, H3.out] at K1
  rw [hPQ, H5.out] at K2
  have HK1 := Caged.mk K1
  have HK2 := Caged.mk K2
  clear K1 K2 hPQ hok hlen hcnt hQ
  have hx1 := (hb1.block _ (lt_box _ _)).trans hx
  have lx1 := (Array.getElem?_eq_some_iff.1 hx1).1
  have hbW : Below w.heap.size w w1 := below_next (below_box (Below.refl _ _) _) hb1
  have hq0 : ∃ B', ItemsOwn B' v Q w1 := ⟨_, hq⟩
  obtain ⟨a2, cap2, hv2⟩ := hq.form
  subst hv2
  have HQ := Caged.mk (show ItemsOwn 0 (.slice a2 Q.length cap2) Q w1 from ⟨hq.1, by
    rcases hq.2 with h2 | ⟨g, cap, cur, e, hb, rest⟩
    · exact .inl h2
    · exact .inr ⟨g, cap, cur, e, Nat.zero_le _, rest⟩⟩)
  obtain ⟨d0, _, _, d3, _, _, _, _⟩ := row8 hx1
  have HX := Caged.mk hx1
  clear hx hx1 hq hb1 hq0
  by_cases he : er = 0
  · have g1 : ((er : Int) == 0) = true := by rw [beq_iff_eq]; omega
    have g2 : ((er : Int) != 0) = false := by rw [bne_eq_false_iff_eq]; omega
    by_cases hl : S.size < word.size
    · have hl2 : decide (word.size ≤ S.size) = false := decide_eq_false (by omega)
      have hb2 := hb.out
      rw [decide_eq_true he, decide_eq_true hl, Bool.true_and, Bool.true_and] at hb2
      have HB := Caged.mk hb2
      clear hb2 he hb
      by_cases hk2 : k = 2
      · subst hk2
        go_wp2_with fail
        refine (HK1.out _ _ HQ.out).mono ?_
        rintro e W ⟨rfl, hb3⟩
        have hbW3 := below_next hbW hb3
        have hxW := (hb3.block _ lx1).trans HX.out
        have hlW := (Array.getElem?_eq_some_iff.1 hxW).1
        obtain ⟨c0, _, _, c3, _, _, _, _⟩ := row8 hxW
        have HC := Caged.mk (fun (w'' : World) (h : Below W.heap.size W w'') => (row8 ((h.block _ hlW).trans hxW)).2.2.2.1)
        have hbd : Below W.heap.size W W.drew := (Below.refl _ _).drew
        have ht := suffix_test hl
        rw [H2.out] at ht
        have hw2 : IntKind.i64.wrap ((word.size : Int) - (S.size : Int)) = ((word.size - S.size : Nat) : Int) := by rw [IntWalk.i64_in _ (by omega)]; omega
        have hsub : word.size - S.size ≤ word.size := Nat.sub_le _ _
        clear hxW hb3
        cases en
        all_goals
          go_wp2_with fail
          refine wp_region_S (fun w' => Below W.heap.size W w' ∧ w'.cell? ⟨w.heap.size, 3, none⟩ = some (.string S)) (by kernel_rfl) (by kernel_rfl) ?_ ?_
          · exact ⟨hbd, HC.out _ hbd⟩
          repeat
            first
              | (apply wpS_off; · rfl)
              | (apply wpS_on
                 · rfl
                 · intro w' hS
                   obtain ⟨hb, h1⟩ := hS
                   go_simp
                   with_reducible exact runs_value ⟨hb, h1⟩)
            simp only [Act.put, List.setIfInBounds_toArray, List.set_cons_zero, List.set_cons_succ]
          refine wpS_end fun W9 hS9 => ?_
          obtain ⟨hb9, _⟩ := hS9
          go_wp2_with fail
          go_ret
          exact ⟨ret_bool (by rw [← HB.out]; simp), below_next hbW3 hb9⟩
      · by_cases hk1 : k = 1
        · subst hk1
          go_wp2_with fail
          refine (HK2.out _ _ HQ.out).mono ?_
          rintro e W ⟨rfl, hb3⟩
          have hbW3 := below_next hbW hb3
          have hxW := (hb3.block _ lx1).trans HX.out
          have hlW := (Array.getElem?_eq_some_iff.1 hxW).1
          obtain ⟨c0, _, _, c3, _, _, _, _⟩ := row8 hxW
          have HC := Caged.mk (fun (w'' : World) (h : Below W.heap.size W w'') => (row8 ((h.block _ hlW).trans hxW)).2.2.2.1)
          have hbd : Below W.heap.size W W.drew := (Below.refl _ _).drew
          have ht := prefix_test (word := word) (S := S)
          rw [H4.out] at ht
          have hsub : S.size ≤ word.size := by omega
          clear hxW hb3
          cases st
          all_goals
            go_wp2_with fail
            refine wp_region_S (fun w' => Below W.heap.size W w' ∧ w'.cell? ⟨w.heap.size, 3, none⟩ = some (.string S)) (by kernel_rfl) (by kernel_rfl) ?_ ?_
            · exact ⟨hbd, HC.out _ hbd⟩
            repeat
              first
                | (apply wpS_off; · rfl)
                | (apply wpS_on
                   · rfl
                   · intro w' hS
                     obtain ⟨hb, h1⟩ := hS
                     go_simp
                     with_reducible exact runs_value ⟨hb, h1⟩)
              simp only [Act.put, List.setIfInBounds_toArray, List.set_cons_zero, List.set_cons_succ]
            refine wpS_end fun W9 hS9 => ?_
            obtain ⟨hb9, _⟩ := hS9
            go_wp2_with fail
            go_ret
            exact ⟨ret_bool (by rw [← HB.out]; simp), below_next hbW3 hb9⟩
        · have k2 : (k == 2) = false := by rw [beq_eq_false_iff_ne]; exact hk2
          have k1 : (k == 1) = false := by rw [beq_eq_false_iff_ne]; exact hk1
          have hbf : b = false := by rw [← HB.out, k2, k1]; rfl
          subst hbf
          clear hk1 hk2 HB
          go_wp2_with fail
          go_ret
          exact ⟨rfl, hbW⟩
    · have hl2 : decide (word.size ≤ S.size) = true := decide_eq_true (by omega)
      have hbf : b = false := by rw [← hb.out, decide_eq_false hl]; simp
      subst hbf
      clear he hb
      go_wp2_with fail
      go_ret
      exact ⟨rfl, hbW⟩
  · have g1 : ((er : Int) == 0) = false := by rw [beq_eq_false_iff_ne]; omega
    have g2 : ((er : Int) != 0) = true := by rw [bne_iff_ne]; omega
    have hbf : b = false := by rw [← hb.out, decide_eq_false he]; simp
    subst hbf
    clear he hb
    go_wp2_with fail
    go_ret
    exact ⟨rfl, hbW⟩

set_option maxHeartbeats 2000000 in
set_option maxRecDepth 100000 in
theorem refApply_pair (k : Int) (S A C : ByteArray) (word : ByteArray) (X : ByteArray) (b : Bool)
    (hX : Caged (outS (RuleP.apply ⟨k, S.data.toList, A.data.toList, C.data.toList⟩ word.data.toList) = X ∧ (RuleP.apply ⟨k, S.data.toList, A.data.toList, C.data.toList⟩ word.data.toList).isSome = b)) (w : World)
    (hw : word.size ≤ 1125899906842624) (hA : A.size ≤ 1125899906842624) :
    Calls Try.prog 34 #[.agg #[.int .i64 k, .int .i64 0, .bool false, .string S, .string A, .string C, .slice none 0 0, .int .i64 0], .string word] w fun e w' => e = .returned (.tuple #[.string X, .bool b]) ∧ Below w.heap.size w w' := by
  obtain ⟨hf, hno, hyes⟩ := apply_parts hX.out
  have HF := Caged.mk (fun w => refFits_bool k S A C word b ⟨hf⟩ w hw)
  go_enter Try.func34, Try.ntmps34
  have hx := heap_alloc_new w (.cells #[.int .i64 k, .int .i64 0, .bool false, .string S, .string A, .string C, .slice none 0 0, .int .i64 0] 59)
  have HX := Caged.mk hx
  clear hx
  go_wp2_with fail
  refine (HF.out _).mono ?_
  rintro e W ⟨rfl, hb1⟩
  have hbW : Below w.heap.size w W := below_next (below_box (Below.refl _ _) _) hb1
  have hxW := (hb1.block _ (lt_box _ _)).trans HX.out
  have hlW := (Array.getElem?_eq_some_iff.1 hxW).1
  have cells := fun (w'' : World) (h : Below W.heap.size W w'') => And.intro (row8 ((h.block _ hlW).trans hxW)).2.2.2.1 (row8 ((h.block _ hlW).trans hxW)).2.2.2.2.1
  have HC := Caged.mk cells
  obtain ⟨c0, _, _, c3, c4, _, _, _⟩ := row8 hxW
  have hbd : Below W.heap.size W W.drew := (Below.refl _ _).drew
  cases b with
  | false =>
    have hX0 := hno rfl
    have HX0 := Caged.mk hX0
    clear hX0 hno hyes hf cells hxW hb1
    go_wp2_with fail
    go_ret2
    exact ⟨ret_pair HX0.out.symm, hbW⟩
  | true =>
    have hX1 := hyes rfl
    have hlt : S.size < word.size := by
      have := hf
      simp only [RuleP.fits, Bool.and_eq_true, decide_eq_true_eq, len_eq] at this
      exact this.1.2
    rcases fits_kind hf with ⟨hk, hs⟩ | ⟨hk, hs⟩
    · simp only at hk hs
      subst hk
      have hmade : RuleP.made ⟨2, S.data.toList, A.data.toList, C.data.toList⟩ word.data.toList = word.data.toList.take (word.size - S.size) ++ A.data.toList := by
        rw [RuleP.made, if_pos rfl, len_eq, len_eq]
      rw [hmade] at hX1
      have hXT : word.extract 0 (word.size - S.size) ++ A = X := by rw [hX1]; exact ext_list (by rw [add_list, Lib.extract_data]; simp)
      have hsz : (word.extract 0 (word.size - S.size)).size ≤ word.size := by rw [ByteArray.size_extract]; omega
      have hn : ¬ 9223372036854775807 < (word.extract 0 (word.size - S.size)).size + A.size := by omega
      have hn2 : ¬ 9223372036854775807 < word.size - S.size + A.size := by omega
      have hw2 : IntKind.i64.wrap ((word.size : Int) - (S.size : Int)) = ((word.size - S.size : Nat) : Int) := by rw [IntWalk.i64_in _ (by omega)]; omega
      have hsub : word.size - S.size ≤ word.size := Nat.sub_le _ _
      have HXT := Caged.mk hXT
      clear hX1 hno hyes hf cells hxW hb1 hXT hmade hs hsz
      go_wp2_with fail
      refine wp_region_S (fun w' => Below W.heap.size W w' ∧ w'.cell? ⟨w.heap.size, 3, none⟩ = some (.string S) ∧ w'.cell? ⟨w.heap.size, 4, none⟩ = some (.string A)) (by kernel_rfl) (by kernel_rfl) ?_ ?_
      · exact ⟨hbd, HC.out _ hbd⟩
      repeat
        first
          | (apply wpS_off; · rfl)
          | (apply wpS_on
             · rfl
             · intro w' hS
               obtain ⟨hb, h1, h2⟩ := hS
               go_simp
               with_reducible exact runs_value ⟨hb, h1, h2⟩)
        simp only [Act.put, List.setIfInBounds_toArray, List.set_cons_zero, List.set_cons_succ]
      refine wpS_end fun W9 hS9 => ?_
      obtain ⟨hb9, _, _⟩ := hS9
      go_wp2_with fail
      go_ret2
      exact ⟨ret_pair HXT.out, below_next hbW hb9⟩
    · simp only at hk hs
      subst hk
      have hmade : RuleP.made ⟨1, S.data.toList, A.data.toList, C.data.toList⟩ word.data.toList = A.data.toList ++ word.data.toList.drop S.size := by
        rw [RuleP.made, if_neg (by show ¬ (1 : Int) = 2; decide), len_eq]
      rw [hmade] at hX1
      have hXT : A ++ word.extract S.size word.size = X := by rw [hX1]; exact ext_list (by rw [add_list, drop_data])
      have hn2 : ¬ 9223372036854775807 < A.size + (word.size - S.size) := by omega
      have hsub : S.size ≤ word.size := by omega
      have HXT := Caged.mk hXT
      clear hX1 hno hyes hf cells hxW hb1 hXT hmade hs
      go_wp2_with fail
      refine wp_region_S (fun w' => Below W.heap.size W w' ∧ w'.cell? ⟨w.heap.size, 3, none⟩ = some (.string S) ∧ w'.cell? ⟨w.heap.size, 4, none⟩ = some (.string A)) (by kernel_rfl) (by kernel_rfl) ?_ ?_
      · exact ⟨hbd, HC.out _ hbd⟩
      repeat
        first
          | (apply wpS_off; · rfl)
          | (apply wpS_on
             · rfl
             · intro w' hS
               obtain ⟨hb, h1, h2⟩ := hS
               go_simp
               with_reducible exact runs_value ⟨hb, h1, h2⟩)
        simp only [Act.put, List.setIfInBounds_toArray, List.set_cons_zero, List.set_cons_succ]
      refine wpS_end fun W9 hS9 => ?_
      obtain ⟨hb9, _, _⟩ := hS9
      go_wp2_with fail
      go_ret2
      exact ⟨ret_pair HXT.out, below_next hbW hb9⟩

theorem refUndo_parts {p : RuleP} {word : List UInt8} {X : ByteArray} {b : Bool} (h : outS (p.undo word) = X ∧ (p.undo word).isSome = b) :
    (word.length < p.A.length ∧ b = false ∧ X = ⟨#[]⟩) ∨ (¬ word.length < p.A.length ∧ ((p.apply (p.refStem word) = some word ∧ b = true ∧ X = ⟨(p.refStem word).toArray⟩) ∨ (p.apply (p.refStem word) ≠ some word ∧ b = false ∧ X = ⟨#[]⟩))) := by
  obtain ⟨h1, h2⟩ := h
  rw [← refUndo_eq, RuleP.refUndo] at h1 h2
  by_cases hl : word.length < p.A.length
  · rw [if_pos hl] at h1 h2
    exact .inl ⟨hl, h2.symm, h1.symm⟩
  · rw [if_neg hl] at h1 h2
    refine .inr ⟨hl, ?_⟩
    by_cases ha : p.apply (p.refStem word) = some word
    · rw [if_pos ha] at h1 h2
      exact .inl ⟨ha, h2.symm, h1.symm⟩
    · rw [if_neg ha] at h1 h2
      exact .inr ⟨ha, h2.symm, h1.symm⟩
set_option maxHeartbeats 4000000 in
set_option maxRecDepth 100000 in
theorem refUndo_pair (k : Int) (S A C : ByteArray) (word : ByteArray) (X : ByteArray) (b : Bool)
    (hX : Caged (outS (RuleP.undo ⟨k, S.data.toList, A.data.toList, C.data.toList⟩ word.data.toList) = X ∧ (RuleP.undo ⟨k, S.data.toList, A.data.toList, C.data.toList⟩ word.data.toList).isSome = b)) (w : World)
    (hw : word.size ≤ 562949953421312) (hS : S.size ≤ 562949953421312) (hA : A.size ≤ 1125899906842624) :
    Calls Try.prog 39 #[.agg #[.int .i64 k, .int .i64 0, .bool false, .string S, .string A, .string C, .slice none 0 0, .int .i64 0], .string word] w fun e w' => e = .returned (.tuple #[.string X, .bool b]) ∧ Below w.heap.size w w' := by
  have hbx : Below w.heap.size w (w.alloc (.cells #[.int .i64 k, .int .i64 0, .bool false, .string S, .string A, .string C, .slice none 0 0, .int .i64 0] 59)) := below_box (Below.refl _ _) _
  have hrow := row8 (heap_alloc_new w (.cells #[.int .i64 k, .int .i64 0, .bool false, .string S, .string A, .string C, .slice none 0 0, .int .i64 0] 59))
  have HROW := Caged.mk hrow
  have HBX := Caged.mk hbx
  clear hrow hbx
  rcases refUndo_parts hX.out with ⟨hl, rfl, hX0⟩ | ⟨hl, hcase⟩
  · rw [len_eq, len_eq] at hl
    have t1 : decide (word.size < A.size) = true := decide_eq_true hl
    have HX0 := Caged.mk hX0
    clear hX0 hX
    go_enter Try.func39, Try.ntmps39
    go_wp2_with fail
    go_ret2
    exact ⟨ret_pair HX0.out.symm, HBX.out⟩
  · rw [len_eq, len_eq] at hl
    have t1 : decide (word.size < A.size) = false := decide_eq_false hl
    have hw2 : IntKind.i64.wrap ((word.size : Int) - (A.size : Int)) = ((word.size - A.size : Nat) : Int) := by rw [IntWalk.i64_in _ (by omega)]; omega
    have hsub : word.size - A.size ≤ word.size := Nat.sub_le _ _
    have hn2 : ¬ 9223372036854775807 < word.size - A.size + S.size := by omega
    have hn3 : ¬ 9223372036854775807 < S.size + (word.size - A.size) := by omega
    have hle : A.size ≤ word.size := by omega
    have HDR : Caged (∀ w' : World, Below w.heap.size w w' → Below w.heap.size w w'.drew) := ⟨fun w' h => h.drew⟩
    -- what the reference's Apply makes of the stem
    have hmade : ∃ (U Y : ByteArray) (by2 : Bool), U.data.toList = RuleP.refStem ⟨k, S.data.toList, A.data.toList, C.data.toList⟩ word.data.toList ∧ U.size ≤ 1125899906842624 ∧
        (outS (RuleP.apply ⟨k, S.data.toList, A.data.toList, C.data.toList⟩ U.data.toList) = Y ∧ (RuleP.apply ⟨k, S.data.toList, A.data.toList, C.data.toList⟩ U.data.toList).isSome = by2) ∧
        ((by2 = true ∧ (Y.toList == word.toList) = true ∧ b = true ∧ X = U) ∨ (by2 = true ∧ (Y.toList == word.toList) = false ∧ b = false ∧ X = ⟨#[]⟩) ∨ (by2 = false ∧ b = false ∧ X = ⟨#[]⟩)) := by
      refine ⟨⟨(RuleP.refStem ⟨k, S.data.toList, A.data.toList, C.data.toList⟩ word.data.toList).toArray⟩, _, _, by simp, ?_, ⟨rfl, rfl⟩, ?_⟩
      · rw [mk_size, RuleP.refStem]
        split <;> (rw [List.length_append]; simp only [List.length_drop, List.length_take, len_eq]; omega)
      · simp only
        rcases hcase with ⟨ha, hb, hx⟩ | ⟨ha, hb, hx⟩
        · rw [ha]
          refine .inl ⟨rfl, ?_, hb, hx⟩
          rw [Lib.toList_data, Lib.toList_data, outS_list]
          exact beq_self_eq_true _
        · cases ho : RuleP.apply ⟨k, S.data.toList, A.data.toList, C.data.toList⟩ (RuleP.refStem ⟨k, S.data.toList, A.data.toList, C.data.toList⟩ word.data.toList) with
          | none => exact .inr (.inr ⟨rfl, hb, hx⟩)
          | some m =>
            refine .inr (.inl ⟨rfl, ?_, hb, hx⟩)
            rw [Lib.toList_data, Lib.toList_data, outS_list]
            rw [ho] at ha
            exact beq_eq_false_iff_ne.2 fun e => ha (by rw [← e]; rfl)
    obtain ⟨U, Y, by2, hU, hUs, hY, hend⟩ := hmade
    have HP := Caged.mk (fun w => refApply_pair k S A C U Y by2 ⟨hY⟩ w hUs hA)
    clear hcase hX hY
    by_cases hk1 : k = 1
    · subst hk1
      have hU1 : S ++ word.extract A.size word.size = U := by
        apply ext_list
        rw [hU, RuleP.refStem, if_pos rfl, add_list, drop_data, len_eq]
      have HU := Caged.mk hU1
      clear hU hU1
      rcases hend with ⟨rfl, ht, rfl, hXU⟩ | ⟨rfl, ht, rfl, hXU⟩ | ⟨rfl, rfl, hXU⟩
      all_goals
        have HXU := Caged.mk hXU
        clear hXU
        go_enter Try.func39, Try.ntmps39
        go_wp2_with fail
        refine wp_region_S (fun w' => Below w.heap.size w w' ∧ w'.cell? ⟨w.heap.size, 0, none⟩ = some (.int .i64 1) ∧ w'.cell? ⟨w.heap.size, 1, none⟩ = some (.int .i64 0) ∧ w'.cell? ⟨w.heap.size, 2, none⟩ = some (.bool false) ∧ w'.cell? ⟨w.heap.size, 3, none⟩ = some (.string S) ∧ w'.cell? ⟨w.heap.size, 4, none⟩ = some (.string A) ∧ w'.cell? ⟨w.heap.size, 5, none⟩ = some (.string C) ∧ w'.cell? ⟨w.heap.size, 6, none⟩ = some (.slice none 0 0) ∧ w'.cell? ⟨w.heap.size, 7, none⟩ = some (.int .i64 0)) (by kernel_rfl) (by kernel_rfl) ?_ ?_
        · exact ⟨HDR.out _ HBX.out, HROW.out⟩
        repeat
          first
            | (apply wpS_off; · rfl)
            | (apply wpS_on
               · rfl
               · intro w' hS
                 obtain ⟨hb, h0, h1, h2, h3, h4, h5, h6, h7⟩ := hS
                 go_simp
                 with_reducible exact runs_value ⟨hb, h0, h1, h2, h3, h4, h5, h6, h7⟩)
          simp only [Act.put, List.setIfInBounds_toArray, List.set_cons_zero, List.set_cons_succ]
        refine wpS_end fun W9 hS9 => ?_
        obtain ⟨kb, k0, k1, k2, k3, k4, k5, k6, k7⟩ := hS9
        have hd9 := HDR.out _ kb
        go_wp2_with fail
        refine wp_region_S (fun w' => Below w.heap.size w w' ∧ w'.cell? ⟨w.heap.size, 0, none⟩ = some (.int .i64 1) ∧ w'.cell? ⟨w.heap.size, 1, none⟩ = some (.int .i64 0) ∧ w'.cell? ⟨w.heap.size, 2, none⟩ = some (.bool false) ∧ w'.cell? ⟨w.heap.size, 3, none⟩ = some (.string S) ∧ w'.cell? ⟨w.heap.size, 4, none⟩ = some (.string A) ∧ w'.cell? ⟨w.heap.size, 5, none⟩ = some (.string C) ∧ w'.cell? ⟨w.heap.size, 6, none⟩ = some (.slice none 0 0) ∧ w'.cell? ⟨w.heap.size, 7, none⟩ = some (.int .i64 0)) (by kernel_rfl) (by kernel_rfl) ?_ ?_
        · exact ⟨hd9, k0, k1, k2, k3, k4, k5, k6, k7⟩
        repeat
          first
            | (apply wpS_off; · rfl)
            | (apply wpS_on
               · rfl
               · intro w' hS
                 obtain ⟨hb, h0, h1, h2, h3, h4, h5, h6, h7⟩ := hS
                 go_simp
                 with_reducible exact runs_value ⟨hb, h0, h1, h2, h3, h4, h5, h6, h7⟩)
          simp only [Act.put, List.setIfInBounds_toArray, List.set_cons_zero, List.set_cons_succ]
        refine wpS_end fun W8 hS9 => ?_
        obtain ⟨jb, j0, j1, j2, j3, j4, j5, j6, j7⟩ := hS9
        go_wp2_with fail
        rw [HU.out]
        refine (HP.out _).mono ?_
        rintro e W4 ⟨rfl, hb4⟩
        have hbW4 := below_next jb hb4
        go_wp2_with fail
        go_ret2
        exact ⟨ret_pair HXU.out.symm, hbW4⟩
    · have hkb : (k == 1) = false := by rw [beq_eq_false_iff_ne]; exact hk1
      have hU1 : word.extract 0 (word.size - A.size) ++ S = U := by
        apply ext_list
        rw [hU, RuleP.refStem, if_neg hk1, add_list, Lib.extract_data, len_eq, len_eq]
        simp
      have HU := Caged.mk hU1
      clear hU hU1 hk1
      rcases hend with ⟨rfl, ht, rfl, hXU⟩ | ⟨rfl, ht, rfl, hXU⟩ | ⟨rfl, rfl, hXU⟩
      all_goals
        have HXU := Caged.mk hXU
        clear hXU
        go_enter Try.func39, Try.ntmps39
        go_wp2_with fail
        refine wp_region_S (fun w' => Below w.heap.size w w' ∧ w'.cell? ⟨w.heap.size, 0, none⟩ = some (.int .i64 k) ∧ w'.cell? ⟨w.heap.size, 1, none⟩ = some (.int .i64 0) ∧ w'.cell? ⟨w.heap.size, 2, none⟩ = some (.bool false) ∧ w'.cell? ⟨w.heap.size, 3, none⟩ = some (.string S) ∧ w'.cell? ⟨w.heap.size, 4, none⟩ = some (.string A) ∧ w'.cell? ⟨w.heap.size, 5, none⟩ = some (.string C) ∧ w'.cell? ⟨w.heap.size, 6, none⟩ = some (.slice none 0 0) ∧ w'.cell? ⟨w.heap.size, 7, none⟩ = some (.int .i64 0)) (by kernel_rfl) (by kernel_rfl) ?_ ?_
        · exact ⟨HDR.out _ HBX.out, HROW.out⟩
        repeat
          first
            | (apply wpS_off; · rfl)
            | (apply wpS_on
               · rfl
               · intro w' hS
                 obtain ⟨hb, h0, h1, h2, h3, h4, h5, h6, h7⟩ := hS
                 go_simp
                 with_reducible exact runs_value ⟨hb, h0, h1, h2, h3, h4, h5, h6, h7⟩)
          simp only [Act.put, List.setIfInBounds_toArray, List.set_cons_zero, List.set_cons_succ]
        refine wpS_end fun W9 hS9 => ?_
        obtain ⟨qb, q0, q1, q2, q3, q4, q5, q6, q7⟩ := hS9
        go_wp2_with fail
        rw [HU.out]
        refine (HP.out _).mono ?_
        rintro e W4 ⟨rfl, hb4⟩
        have hbW4 := below_next qb hb4
        go_wp2_with fail
        go_ret2
        exact ⟨ret_pair HXU.out.symm, hbW4⟩
end Go.Proofs.Ytpckcapilhfpcaa
