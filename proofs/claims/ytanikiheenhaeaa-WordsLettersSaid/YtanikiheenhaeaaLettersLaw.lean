/-
  The walk of the law WordsLetters: it returns true; texts of at most 140737488351232 bytes.
-/
import Derived.Test.YtanikiheenhaeaaLetters
namespace Go.Proofs.Ytanikiheenhaeaa
open Go.RowKit

theorem letters_wakes (w : World) : Calls Try.prog 18 #[.string ⟨#[110, 111, 111, 110]⟩] w fun e w' => e = .returned (.tuple #[.string ⟨#[110, 111]⟩, .int .i64 0]) ∧ Below w.heap.size w w' :=
  letters_any ⟨#[110, 111, 111, 110]⟩ w (by decide)

set_option maxHeartbeats 1000000 in
theorem wordsLetters_walk (s : ByteArray) (w : World) (hs : s.size ≤ 140737488351232) :
    Calls Try.prog 7 #[.string s] w fun e w' => e = .returned (.bool true) ∧ Below w.heap.size w w' := by
  have K1 := fun w => letters_any s w (by omega)
  have K2 := fun w => refLetters_any s w (by omega)
  rcases h : lettersL s.data.toList with _ | a
  all_goals
    rw [h] at K1 K2
    simp only [lettersV] at K1 K2
    have H1 := Lib.hid K1
    have H2 := Lib.hid K2
    clear K1 K2 h
    go_enter Try.func7, Try.ntmps7
    go_wp2_with fail
    refine (H1.out _).mono ?_
    rintro e w1 ⟨rfl, hb1⟩
    go_wp2_with fail
    refine (H2.out _).mono ?_
    rintro e w2 ⟨rfl, hb2⟩
    go_wp2_with fail
    refine (letters_wakes _).mono ?_
    rintro e w3 ⟨rfl, hb3⟩
    go_wp2_with fail
    go_ret
    exact ⟨ret_bool (by simp), below_next (below_next hb1 hb2) hb3⟩
end Go.Proofs.Ytanikiheenhaeaa
