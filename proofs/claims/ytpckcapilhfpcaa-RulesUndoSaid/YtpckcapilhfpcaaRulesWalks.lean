/-
  The laws RulesApply and RulesUndo: their walks.
-/
import Derived.Test.YtpckcapilhfpcaaWakes15
namespace Go.Proofs.Ytpckcapilhfpcaa
open Go.RowKit

set_option maxHeartbeats 2000000 in
theorem rulesApply_walk (k fl : Int) (cr : Bool) (S A C : ByteArray) (a : Option Addr) (n c : Nat) (word : ByteArray) (w : World) (hw : word.size ≤ 140737488351232) (_hS : S.size ≤ 140737488351232) (hA : A.size ≤ 140737488351232) :
    Calls Try.prog 11 #[.agg #[.int .i64 k, .int .u16 fl, .bool cr, .string S, .string A, .string C, .slice a n c], .string word] w fun e w' => e = .returned (.bool true) ∧ Below w.heap.size w w' := by
  obtain ⟨X, hX⟩ : ∃ X, outS (RuleP.apply ⟨k, S.data.toList, A.data.toList, C.data.toList⟩ word.data.toList) = X := ⟨_, rfl⟩
  obtain ⟨b, hb⟩ : ∃ b, (RuleP.apply ⟨k, S.data.toList, A.data.toList, C.data.toList⟩ word.data.toList).isSome = b := ⟨_, rfl⟩
  have K1 := fun w => apply_pair k fl cr S A C a n c word X b ⟨hX, hb⟩ w (by omega) (by omega)
  have K2 := fun w => refApply_pair k S A C word X b ⟨hX, hb⟩ w (by omega) (by omega)
  have K3 := fun w => fits_bool k fl cr S A C a n c word b ⟨by rw [← apply_fits]; exact hb⟩ w (by omega)
  have f1 : (b == b) = true := beq_self_eq_true _
  have HK1 := Caged.mk K1
  have HK2 := Caged.mk K2
  have HK3 := Caged.mk K3
  clear K1 K2 K3 hX hb
  have hx := heap_alloc_new w (.cells #[.int .i64 k, .int .u16 fl, .bool cr, .string S, .string A, .string C, .slice a n c] 53)
  have HX := Caged.mk hx
  clear hx
  go_enter Try.func11, Try.ntmps11
  go_wp2_with fail
  refine (HK1.out _).mono ?_
  rintro e w1 ⟨rfl, hb1⟩
  have hbw1 : Below w.heap.size w w1 := below_next (below_box (Below.refl _ _) _) hb1
  have hx1 := (hb1.block _ (lt_box _ _)).trans HX.out
  have hl1 := (Array.getElem?_eq_some_iff.1 hx1).1
  obtain ⟨c0, c1, c2, c3, c4, c5, c6⟩ := row7 hx1
  have HX1 := Caged.mk hx1
  clear hx1
  go_wp2_with fail
  refine (ref_any k fl cr S A C a n c _).mono ?_
  rintro e w2 ⟨rfl, hb2⟩
  have hbw2 := below_next hbw1 hb2
  have hx2 := (hb2.block _ hl1).trans HX1.out
  have hl2 := (Array.getElem?_eq_some_iff.1 hx2).1
  have HX2 := Caged.mk hx2
  clear hx2 c0 c1 c2 c3 c4 c5 c6
  go_wp2_with fail
  refine (HK2.out _).mono ?_
  rintro e w3 ⟨rfl, hb3⟩
  have hbw3 := below_next hbw2 hb3
  have hx3 := (hb3.block _ hl2).trans HX2.out
  have hl3 := (Array.getElem?_eq_some_iff.1 hx3).1
  have HX3 := Caged.mk hx3
  clear hx3
  go_wp2_with fail
  refine (wakes15_any _).mono ?_
  rintro e w4 ⟨rfl, hb4⟩
  have hbw4 := below_next hbw3 hb4
  have hx4 := (hb4.block _ hl3).trans HX3.out
  obtain ⟨c0, c1, c2, c3, c4, c5, c6⟩ := row7 hx4
  clear hx4
  go_wp2_with fail
  refine (HK3.out _).mono ?_
  rintro e w5 ⟨rfl, hb5⟩
  have hbw5 := below_next hbw4 hb5
  go_wp2_with fail
  go_ret
  exact ⟨rfl, hbw5⟩

set_option maxHeartbeats 2000000 in
theorem rulesUndo_walk (k fl : Int) (cr : Bool) (S A C : ByteArray) (a : Option Addr) (n c : Nat) (word : ByteArray) (w : World) (hw : word.size ≤ 140737488351232) (hS : S.size ≤ 140737488351232) (hA : A.size ≤ 140737488351232) :
    Calls Try.prog 12 #[.agg #[.int .i64 k, .int .u16 fl, .bool cr, .string S, .string A, .string C, .slice a n c], .string word] w fun e w' => e = .returned (.bool true) ∧ Below w.heap.size w w' := by
  obtain ⟨X, hX⟩ : ∃ X, outS (RuleP.undo ⟨k, S.data.toList, A.data.toList, C.data.toList⟩ word.data.toList) = X := ⟨_, rfl⟩
  obtain ⟨b, hb⟩ : ∃ b, (RuleP.undo ⟨k, S.data.toList, A.data.toList, C.data.toList⟩ word.data.toList).isSome = b := ⟨_, rfl⟩
  have K1 := fun w => undo_pair k fl cr S A C a n c word X b ⟨hX, hb⟩ w (by omega) (by omega)
  have K2 := fun w => refUndo_pair k S A C word X b ⟨hX, hb⟩ w (by omega) (by omega) (by omega)
  have f1 : (b == b) = true := beq_self_eq_true _
  have HK1 := Caged.mk K1
  have HK2 := Caged.mk K2
  clear K1 K2 hX hb
  have hx := heap_alloc_new w (.cells #[.int .i64 k, .int .u16 fl, .bool cr, .string S, .string A, .string C, .slice a n c] 53)
  have HX := Caged.mk hx
  clear hx
  go_enter Try.func12, Try.ntmps12
  go_wp2_with fail
  refine (HK1.out _).mono ?_
  rintro e w1 ⟨rfl, hb1⟩
  have hbw1 : Below w.heap.size w w1 := below_next (below_box (Below.refl _ _) _) hb1
  have hx1 := (hb1.block _ (lt_box _ _)).trans HX.out
  obtain ⟨c0, c1, c2, c3, c4, c5, c6⟩ := row7 hx1
  clear hx1
  go_wp2_with fail
  refine (ref_any k fl cr S A C a n c _).mono ?_
  rintro e w2 ⟨rfl, hb2⟩
  have hbw2 := below_next hbw1 hb2
  clear c0 c1 c2 c3 c4 c5 c6
  go_wp2_with fail
  refine (HK2.out _).mono ?_
  rintro e w3 ⟨rfl, hb3⟩
  have hbw3 := below_next hbw2 hb3
  go_wp2_with fail
  refine (wakes15_any _).mono ?_
  rintro e w4 ⟨rfl, hb4⟩
  have hbw4 := below_next hbw3 hb4
  go_wp2_with fail
  go_ret
  exact ⟨rfl, hbw4⟩
end Go.Proofs.Ytpckcapilhfpcaa
