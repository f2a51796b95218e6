/-
  Pattern.Ends, and the Pattern.Ends.
-/
import Derived.Test.YtpckcapilhfpcaaStarts
import Derived.BigQuiet
namespace Go.Proofs.Ytpckcapilhfpcaa
open Go.RowKit

theorem drop_data (s : ByteArray) (k : Nat) : (s.extract k s.size).data.toList = s.data.toList.drop k := by
  rw [Lib.extract_data, List.take_of_length_le (by rw [List.length_drop, len_eq]; omega)]

set_option maxHeartbeats 1000000 in
theorem ends_any (B : Nat) (v : Value) (P : List Cls) (s : ByteArray) (w : World) (h : PatOwn B v P w) (hs : s.size ≤ 1125899906842624) (hP : P.length ≤ 1048576) :
    Calls Try.prog 26 #[.agg #[v], .string s] w fun e w' => e = .returned (.bool (endsL P s.data.toList)) ∧ Below w.heap.size w w' := by
  obtain ⟨a, cap, rfl⟩ := h.form
  by_cases hd : P.length ≤ s.size
  · have e : endsL P s.data.toList = startsL P (s.data.toList.drop (s.size - P.length)) := by unfold endsL; rw [len_eq, decide_eq_true hd, Bool.true_and]
    have t1 : decide (P.length ≤ s.size) = true := decide_eq_true hd
    have t2 : IntKind.i64.wrap ((s.size : Int) - (P.length : Int)) = ((s.size - P.length : Nat) : Int) := by rw [IntWalk.i64_in _ (by omega)]; omega
    have t3 : s.size - P.length ≤ s.size := Nat.sub_le _ _
    have K := fun w' (h : PatOwn B (.slice a P.length cap) P w') => starts_any B _ P (s.extract (s.size - P.length) s.size) w' h (by rw [ByteArray.size_extract]; omega) hP
    rw [drop_data] at K
    have HE := Lib.hid e
    have HK := Lib.hid K
    have H := Lib.hid h
    clear e K h
    go_enter Try.func26, Try.ntmps26
    go_wp2_with fail
    go_region_with (go_at_call 24; refine (HK.out _ (H.out.alloc _).drew).mono ?_; rintro e w1 ⟨rfl, hb1⟩)
    go_wp2_with fail
    all_goals (go_ret; exact ⟨ret_bool HE.out.symm, ((Below.refl _ _).alloc (Nat.le_refl _) _).drew.trans (hb1.mono (by simp))⟩)
  · have e : endsL P s.data.toList = false := by unfold endsL; rw [len_eq, decide_eq_false hd, Bool.false_and]
    have t1 : decide (P.length ≤ s.size) = false := decide_eq_false hd
    have HE := Lib.hid e
    clear e h
    go_enter Try.func26, Try.ntmps26
    go_wp2_with fail
    have hb0 : Below w.heap.size w (w.alloc (.cells #[.slice a P.length cap] 24)) := (Below.refl _ _).alloc (Nat.le_refl _) _
    have hc0 := box_cell (heap_alloc_new w (.cells #[.slice a P.length cap] 24))
    generalize w.alloc (.cells #[.slice a P.length cap] 24) = w1 at hb0 hc0 ⊢
    go_quiet (fail)
    go_wp2_with fail
    all_goals (go_ret; exact ⟨ret_bool HE.out.symm, hb0.trans (below_drewN _ _ _)⟩)
end Go.Proofs.Ytpckcapilhfpcaa
