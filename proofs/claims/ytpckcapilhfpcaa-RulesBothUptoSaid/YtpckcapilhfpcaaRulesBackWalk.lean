/-
  The law RulesBack: its walk.
-/
import Derived.Test.YtpckcapilhfpcaaWakes15
namespace Go.Proofs.Ytpckcapilhfpcaa
open Go.RowKit

theorem row_next {w w' : World} {g : Nat} {o : Obj} (h : w.heap[g]? = some o) (hb : Below w.heap.size w w') : w'.heap[g]? = some o := (hb.block _ (Array.getElem?_eq_some_iff.1 h).1).trans h

theorem out_self {o : Option (List UInt8)} {X : ByteArray} {b : Bool} (h1 : outS o = X) (h2 : o.isSome = b) : (b = true ∧ o = some X.data.toList) ∨ (b = false ∧ o = none ∧ X = ⟨#[]⟩) := by
  cases o with
  | none => exact .inr ⟨h2.symm, rfl, h1.symm⟩
  | some l => exact .inl ⟨h2.symm, by rw [← h1, outS_some, mk_list]⟩

set_option maxHeartbeats 2000000 in
theorem rulesBack_walk (k fl : Int) (cr : Bool) (S A C : ByteArray) (a : Option Addr) (n c : Nat) (word : ByteArray) (w : World) (hw : word.size ≤ 140737488351232) (hS : S.size ≤ 140737488351232) (hA : A.size ≤ 140737488351232) :
    Calls Try.prog 13 #[.agg #[.int .i64 k, .int .u16 fl, .bool cr, .string S, .string A, .string C, .slice a n c], .string word] w fun e w' => e = .returned (.bool true) ∧ Below w.heap.size w w' := by
  obtain ⟨X, hX⟩ : ∃ X, outS (RuleP.apply ⟨k, S.data.toList, A.data.toList, C.data.toList⟩ word.data.toList) = X := ⟨_, rfl⟩
  obtain ⟨b, hb⟩ : ∃ b, (RuleP.apply ⟨k, S.data.toList, A.data.toList, C.data.toList⟩ word.data.toList).isSome = b := ⟨_, rfl⟩
  obtain ⟨Y, hY⟩ : ∃ Y, outS (RuleP.undo ⟨k, S.data.toList, A.data.toList, C.data.toList⟩ word.data.toList) = Y := ⟨_, rfl⟩
  obtain ⟨d, hd⟩ : ∃ d, (RuleP.undo ⟨k, S.data.toList, A.data.toList, C.data.toList⟩ word.data.toList).isSome = d := ⟨_, rfl⟩
  have K1 := fun w => apply_pair k fl cr S A C a n c word X b ⟨hX, hb⟩ w (by omega) (by omega)
  have K2 := fun w => undo_pair k fl cr S A C a n c word Y d ⟨hY, hd⟩ w (by omega) (by omega)
  have K3 := fun w => fits_bool k fl cr S A C a n c word b ⟨by rw [← apply_fits]; exact hb⟩ w (by omega)
  have cX := out_self hX hb
  have cY := out_self hY hd
  have f1 : (b == b) = true := beq_self_eq_true _
  -- what is made is undone, and is as long as it should be
  have U1 : b = true → (∀ w, Calls Try.prog 38 #[.agg #[.int .i64 k, .int .u16 fl, .bool cr, .string S, .string A, .string C, .slice a n c], .string X] w fun e w' => e = .returned (.tuple #[.string word, .bool true]) ∧ Below w.heap.size w w') ∧
      S.size ≤ word.size ∧ X.size + S.size = word.size + A.size := by
    intro e
    rcases cX with ⟨_, ho⟩ | ⟨h, _⟩
    · have hu := undo_of_apply ho
      obtain ⟨l1, l2⟩ := apply_length ho
      simp only [len_eq] at l1 l2
      exact ⟨fun w => undo_pair k fl cr S A C a n c X word true ⟨by rw [hu, outS_some, mk_self], by rw [hu]; rfl⟩ w (by omega) (by omega), l1, l2⟩
    · rw [e] at h; cases h
  have U2 : d = true → (∀ w, Calls Try.prog 33 #[.agg #[.int .i64 k, .int .u16 fl, .bool cr, .string S, .string A, .string C, .slice a n c], .string Y] w fun e w' => e = .returned (.tuple #[.string word, .bool true]) ∧ Below w.heap.size w w') := by
    intro e
    rcases cY with ⟨_, ho⟩ | ⟨h, _⟩
    · have hu := apply_of_undo ho
      have hl := stem_length (undo_some ho).1
      simp only [len_eq] at hl
      exact fun w => apply_pair k fl cr S A C a n c Y word true ⟨by rw [hu, outS_some, mk_self], by rw [hu]; rfl⟩ w (by omega) (by omega)
    · rw [e] at h; cases h
  have hY0 : d = false → Y = ⟨#[]⟩ := by
    intro e
    rcases cY with ⟨h, _⟩ | ⟨_, _, h⟩
    · rw [e] at h; cases h
    · exact h
  have HK1 := Caged.mk K1
  have HK2 := Caged.mk K2
  have HK3 := Caged.mk K3
  have HU1 := Caged.mk U1
  have HU2 := Caged.mk U2
  have HY0 := Caged.mk hY0
  clear K1 K2 K3 hX hb hY hd cX cY U1 U2 hY0
  have HX := Caged.mk (heap_alloc_new w (.cells #[.int .i64 k, .int .u16 fl, .bool cr, .string S, .string A, .string C, .slice a n c] 53))
  go_enter Try.func13, Try.ntmps13
  go_wp2_with fail
  refine (wakes15_any _).mono ?_
  rintro e w1 ⟨rfl, hb1⟩
  have hbw1 : Below w.heap.size w w1 := below_next (below_box (Below.refl _ _) _) hb1
  have HX1 := Caged.mk (row_next HX.out hb1)
  obtain ⟨c0, c1, c2, c3, c4, c5, c6⟩ := row7 HX1.out
  go_wp2_with fail
  refine (HK1.out _).mono ?_
  rintro e w2 ⟨rfl, hb2⟩
  have hbw2 := below_next hbw1 hb2
  have HX2 := Caged.mk (row_next HX1.out hb2)
  clear c0 c1 c2 c3 c4 c5 c6
  obtain ⟨c0, c1, c2, c3, c4, c5, c6⟩ := row7 HX2.out
  go_wp2_with fail
  refine (HK3.out _).mono ?_
  rintro e w3 ⟨rfl, hb3⟩
  have hbw3 := below_next hbw2 hb3
  have HX3 := Caged.mk (row_next HX2.out hb3)
  clear c0 c1 c2 c3 c4 c5 c6
  obtain ⟨c0, c1, c2, c3, c4, c5, c6⟩ := row7 HX3.out
  cases b with
  | false =>
    cases d with
    | false =>
      have hY := HY0.out rfl
      subst hY
      go_wp2_with fail
      refine (HK2.out _).mono ?_
      rintro e w4 ⟨rfl, hb4⟩
      have hbw4 := below_next hbw3 hb4
      go_wp2_with fail
      go_ret
      exact ⟨rfl, hbw4⟩
    | true =>
      have HA2 := Caged.mk (HU2.out rfl)
      go_wp2_with fail
      refine (HK2.out _).mono ?_
      rintro e w4 ⟨rfl, hb4⟩
      have hbw4 := below_next hbw3 hb4
      have HX4 := Caged.mk (row_next HX3.out hb4)
      clear c0 c1 c2 c3 c4 c5 c6
      obtain ⟨c0, c1, c2, c3, c4, c5, c6⟩ := row7 HX4.out
      go_wp2_with fail
      refine (HA2.out _).mono ?_
      rintro e w5 ⟨rfl, hb5⟩
      have hbw5 := below_next hbw4 hb5
      go_wp2_with fail
      go_ret
      exact ⟨rfl, hbw5⟩
  | true =>
    obtain ⟨U, l1, l2⟩ := HU1.out rfl
    have HUU := Caged.mk U
    have t1 : ((X.size : Int) == (word.size : Int) - (S.size : Int) + (A.size : Int)) = true := by rw [beq_iff_eq]; omega
    have t2 : ((X.size : Int) != (word.size : Int) - (S.size : Int) + (A.size : Int)) = false := bne_no t1
    have L2 := Caged.mk l2
    clear U l2
    go_wp2_with fail
    refine (HUU.out _).mono ?_
    rintro e w4 ⟨rfl, hb4⟩
    have hbw4 := below_next hbw3 hb4
    have HX4 := Caged.mk (row_next HX3.out hb4)
    clear c0 c1 c2 c3 c4 c5 c6
    obtain ⟨c0, c1, c2, c3, c4, c5, c6⟩ := row7 HX4.out
    cases d with
    | false =>
      have hY := HY0.out rfl
      subst hY
      go_wp2_with fail
      refine (HK2.out _).mono ?_
      rintro e w5 ⟨rfl, hb5⟩
      have hbw5 := below_next hbw4 hb5
      go_wp2_with fail
      go_ret
      exact ⟨rfl, hbw5⟩
    | true =>
      have HA2 := Caged.mk (HU2.out rfl)
      go_wp2_with fail
      refine (HK2.out _).mono ?_
      rintro e w5 ⟨rfl, hb5⟩
      have hbw5 := below_next hbw4 hb5
      have HX5 := Caged.mk (row_next HX4.out hb5)
      clear c0 c1 c2 c3 c4 c5 c6
      obtain ⟨c0, c1, c2, c3, c4, c5, c6⟩ := row7 HX5.out
      go_wp2_with fail
      refine (HA2.out _).mono ?_
      rintro e w6 ⟨rfl, hb6⟩
      have hbw6 := below_next hbw5 hb6
      go_wp2_with fail
      go_ret
      exact ⟨rfl, hbw6⟩
end Go.Proofs.Ytpckcapilhfpcaa
