/-
  rules.Fits and the reference's Fits, of any rule and any word.
-/
import Derived.Test.YtpckcapilhfpcaaRulesPlain
import Derived.Test.YtpckcapilhfpcaaRegionS
import Derived.Test.YtpckcapilhfpcaaShelf
namespace Go.Proofs.Ytpckcapilhfpcaa
open Go.RowKit

abbrev ruleCells (k fl : Int) (cr : Bool) (S A C : ByteArray) (a : Option Addr) (n c : Nat) : Array Value := #[.int .i64 k, .int .u16 fl, .bool cr, .string S, .string A, .string C, .slice a n c]
abbrev refCells (k : Int) (S A C : ByteArray) : Array Value := #[.int .i64 k, .int .i64 0, .bool false, .string S, .string A, .string C, .slice none 0 0, .int .i64 0]

theorem row7 {w : World} {g : Nat} {x0 x1 x2 x3 x4 x5 x6 : Value} {T : TypeId} {fr : Nat × Nat} (h : w.heap[g]? = some (.cells #[x0, x1, x2, x3, x4, x5, x6] T fr)) :
    w.cell? ⟨g, 0, none⟩ = some x0 ∧ w.cell? ⟨g, 1, none⟩ = some x1 ∧ w.cell? ⟨g, 2, none⟩ = some x2 ∧ w.cell? ⟨g, 3, none⟩ = some x3 ∧ w.cell? ⟨g, 4, none⟩ = some x4 ∧ w.cell? ⟨g, 5, none⟩ = some x5 ∧ w.cell? ⟨g, 6, none⟩ = some x6 := by
  refine ⟨?_, ?_, ?_, ?_, ?_, ?_, ?_⟩ <;> (rw [cell_of_row w g _ _ _ _ h]; rfl)
theorem row8 {w : World} {g : Nat} {x0 x1 x2 x3 x4 x5 x6 x7 : Value} {T : TypeId} {fr : Nat × Nat} (h : w.heap[g]? = some (.cells #[x0, x1, x2, x3, x4, x5, x6, x7] T fr)) :
    w.cell? ⟨g, 0, none⟩ = some x0 ∧ w.cell? ⟨g, 1, none⟩ = some x1 ∧ w.cell? ⟨g, 2, none⟩ = some x2 ∧ w.cell? ⟨g, 3, none⟩ = some x3 ∧ w.cell? ⟨g, 4, none⟩ = some x4 ∧ w.cell? ⟨g, 5, none⟩ = some x5 ∧ w.cell? ⟨g, 6, none⟩ = some x6 ∧ w.cell? ⟨g, 7, none⟩ = some x7 := by
  refine ⟨?_, ?_, ?_, ?_, ?_, ?_, ?_, ?_⟩ <;> (rw [cell_of_row w g _ _ _ _ h]; rfl)

/-- Fits, part for part -/
theorem fits_parts (k : Int) (S A C word : ByteArray) : ∃ er hs en hp st, errOf (readP C.data.toList) = er ∧ Lib.hasSuffix word.data.toList S.data.toList = hs ∧ endsL (patOf (readP C.data.toList)) word.data.toList = en ∧
    Lib.hasPrefix word.data.toList S.data.toList = hp ∧ startsL (patOf (readP C.data.toList)) word.data.toList = st ∧
    RuleP.fits ⟨k, S.data.toList, A.data.toList, C.data.toList⟩ word.data.toList = (decide (er = 0) && decide (S.size < word.size) && ((k == 2 && (hs && en)) || (k == 1 && (hp && st)))) :=
  ⟨_, _, _, _, _, rfl, rfl, rfl, rfl, rfl, by unfold RuleP.fits; simp only [len_eq]⟩

set_option maxHeartbeats 2000000 in
set_option maxRecDepth 100000 in
theorem fits_bool (k fl : Int) (cr : Bool) (S A C : ByteArray) (a : Option Addr) (n c : Nat) (word : ByteArray) (b : Bool) (hb : Caged (RuleP.fits ⟨k, S.data.toList, A.data.toList, C.data.toList⟩ word.data.toList = b)) (w : World)
    (hw : word.size ≤ 1125899906842624) :
    Calls Try.prog 37 #[.agg #[.int .i64 k, .int .u16 fl, .bool cr, .string S, .string A, .string C, .slice a n c], .string word] w fun e w' => e = .returned (.bool b) ∧ Below w.heap.size w w' := by
  obtain ⟨er, hs, en, hp, st, h1, h2, h3, h4, h5, h6⟩ := fits_parts k S A C word
  rw [h6] at hb
  have K0 := fun w' => condRead_any C w'
  unfold ReadPost at K0
  have hPl := pat_count C.data.toList
  generalize patOf (readP C.data.toList) = P at K0 hPl h3 h5
  rw [h1] at K0
  have K1 := fun v w' h => ends_any 0 v P word w' h hw (by omega)
  have K2 := fun v w' h => starts_any 0 v P word w' h hw (by omega)
  have K3 := fun w' => Try.strings_HasSuffix word S w' (by omega)
  have K4 := fun w' => Try.strings_HasPrefix word S w'
  rw [h3] at K1
  rw [h5] at K2
  rw [h2] at K3
  rw [h4] at K4
  have HK0 := Caged.mk K0
  have HK1 := Caged.mk K1
  have HK2 := Caged.mk K2
  have HK3 := Caged.mk K3
  have HK4 := Caged.mk K4
  clear K0 K1 K2 K3 K4 h1 h2 h3 h4 h5 h6
  go_enter Try.func37, Try.ntmps37
  go_wp2_with fail
  have hx := heap_alloc_new w (.cells #[.int .i64 k, .int .u16 fl, .bool cr, .string S, .string A, .string C, .slice a n c] 53)
  refine (HK0.out _).mono ?_
  rintro e w1 ⟨v, rfl, hpo, hb1⟩
  obtain ⟨a1, cap1, hv⟩ := hpo.form
  subst hv
  have hx1 := (hb1.block _ (lt_box _ _)).trans hx
  have lx1 := (Array.getElem?_eq_some_iff.1 hx1).1
  have hbW : Below w.heap.size w (w1.alloc (.cells #[.slice a1 P.length cap1] 24)) := below_box (below_next (below_box (Below.refl _ _) _) hb1) _
  have hxW : (w1.alloc (.cells #[.slice a1 P.length cap1] 24)).heap[w.heap.size]? = some (.cells #[.int .i64 k, .int .u16 fl, .bool cr, .string S, .string A, .string C, .slice a n c] 53 (0, 0)) := by rw [Below.heap_alloc _ _ _ lx1]; exact hx1
  have HPW : Caged (PatOwn 0 (.slice a1 P.length cap1) P (w1.alloc (.cells #[.slice a1 P.length cap1] 24))) := ⟨(hpo.alloc _).less (Nat.zero_le _)⟩
  obtain ⟨c0, _, _, c3, _, _, _⟩ := row7 hxW
  obtain ⟨d0, _, _, d3, _, _, _⟩ := row7 hx1
  clear hx hx1 hpo hb1 hxW
  by_cases he : er = 0
  · have g1 : ((er : Int) == 0) = true := by rw [beq_iff_eq]; omega
    have g2 : ((er : Int) != 0) = false := by rw [bne_eq_false_iff_eq]; omega
    by_cases hl : S.size < word.size
    · have hl2 : decide (word.size ≤ S.size) = false := decide_eq_false (by omega)
      have hb2 := hb.out
      rw [decide_eq_true he, decide_eq_true hl, Bool.true_and, Bool.true_and] at hb2
      have HB := Caged.mk hb2
      clear hb2 he hb
      by_cases hk2 : k = 2
      · subst hk2
        cases hs with
        | false =>
          go_wp2_with fail
          refine (HK3.out _).mono ?_
          rintro e w2 ⟨rfl, rfl⟩
          go_wp2_with fail
          go_ret
          exact ⟨ret_bool (by rw [← HB.out]; simp), hbW⟩
        | true =>
          go_wp2_with fail
          refine (HK3.out _).mono ?_
          rintro e w2 ⟨rfl, rfl⟩
          go_wp2_with fail
          refine (HK1.out _ _ HPW.out).mono ?_
          rintro e w3 ⟨rfl, hb3⟩
          go_wp2_with fail
          go_ret
          exact ⟨ret_bool (by rw [← HB.out]; simp), below_next hbW hb3⟩
      · by_cases hk1 : k = 1
        · subst hk1
          cases hp with
          | false =>
            go_wp2_with fail
            refine (HK4.out _).mono ?_
            rintro e w2 ⟨rfl, rfl⟩
            go_wp2_with fail
            go_ret
            exact ⟨ret_bool (by rw [← HB.out]; simp), hbW⟩
          | true =>
            go_wp2_with fail
            refine (HK4.out _).mono ?_
            rintro e w2 ⟨rfl, rfl⟩
            go_wp2_with fail
            refine (HK2.out _ _ HPW.out).mono ?_
            rintro e w3 ⟨rfl, hb3⟩
            go_wp2_with fail
            go_ret
            exact ⟨ret_bool (by rw [← HB.out]; simp), below_next hbW hb3⟩
        · have k2 : (k == 2) = false := by rw [beq_eq_false_iff_ne]; exact hk2
          have k1 : (k == 1) = false := by rw [beq_eq_false_iff_ne]; exact hk1
          have hbf : b = false := by rw [← HB.out, k2, k1]; rfl
          subst hbf
          clear hk1 hk2 HB
          go_wp2_with fail
          go_ret
          exact ⟨rfl, hbW⟩
    · have hl2 : decide (word.size ≤ S.size) = true := decide_eq_true (by omega)
      have hbf : b = false := by rw [← hb.out, decide_eq_false hl]; simp
      subst hbf
      clear he hb
      go_wp2_with fail
      go_ret
      exact ⟨rfl, hbW⟩
  · have g1 : ((er : Int) == 0) = false := by rw [beq_eq_false_iff_ne]; omega
    have g2 : ((er : Int) != 0) = true := by rw [bne_iff_ne]; omega
    have hbf : b = false := by rw [← hb.out, decide_eq_false he]; simp
    subst hbf
    clear he hb
    go_wp2_with fail
    go_ret
    exact ⟨rfl, hbW⟩
end Go.Proofs.Ytpckcapilhfpcaa
