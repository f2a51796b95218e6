/-
  The walk of the law WordsFirst: it returns true; texts of at most 140737488351232 bytes.
-/
import Derived.Test.YtanikiheenhaeaaCommon
namespace Go.Proofs.Ytanikiheenhaeaa
open Go.RowKit

theorem comm_app : ∀ (p l m : List UInt8), comm (p ++ l) (p ++ m) = p.length + comm l m
  | [], l, m => by simp
  | x :: p, l, m => by simp only [List.cons_append, comm, if_true, comm_app p l m, List.length_cons]; omega
theorem comm_swap : ∀ (l m : List UInt8), comm l m = comm m l
  | [], [] => rfl
  | [], _ :: _ => rfl
  | _ :: _, [] => rfl
  | x :: l, y :: m => by
    simp only [comm, comm_swap l m]
    by_cases h : x = y
    · rw [if_pos h, if_pos h.symm]
    · rw [if_neg h, if_neg (fun e => h e.symm)]
theorem comm_take : ∀ (l m : List UInt8), l.take (comm l m) = m.take (comm l m)
  | [], m => by cases m <;> simp [comm]
  | x :: l, [] => by simp [comm]
  | x :: l, y :: m => by
    simp only [comm]
    by_cases h : x = y
    · rw [if_pos h]
      simp [h, comm_take l m]
    · rw [if_neg h]
      simp
theorem comm_parts : ∀ (l m : List UInt8) (h1 : comm l m < l.length) (h2 : comm l m < m.length), l[comm l m] ≠ m[comm l m]
  | [], _, h1, _ => by simp at h1
  | x :: l, [], _, h2 => by simp at h2
  | x :: l, y :: m, h1, h2 => by
    by_cases h : x = y
    · have e : comm (x :: l) (y :: m) = comm l m + 1 := by simp [comm, h]
      simp only [e, List.length_cons] at h1 h2 ⊢
      have := comm_parts l m (by omega) (by omega)
      simpa using this
    · have e : comm (x :: l) (y :: m) = 0 := by simp [comm, h]
      simp only [e]
      simpa using h

theorem common_wakes (w : World) : Calls Try.prog 12 #[.string ⟨#[119, 97, 108, 107]⟩, .string ⟨#[119, 97, 108, 108]⟩] w fun e w' => e = .returned (.int .i64 3) ∧ ∃ n, w' = w.drewN n :=
  common_any ⟨#[119, 97, 108, 107]⟩ ⟨#[119, 97, 108, 108]⟩ w (by decide) (by decide)

set_option maxHeartbeats 1000000 in
theorem wordsFirst_walk (p a b : ByteArray) (w : World) (hp : p.size ≤ 140737488351232) (ha : a.size ≤ 140737488351232) (hb : b.size ≤ 140737488351232) :
    Calls Try.prog 5 #[.string p, .string a, .string b] w fun e w' => e = .returned (.bool true) ∧ Below w.heap.size w w' := by
  have ha' : a.size ≤ maxLen := by unfold maxLen; omega
  have hb' : b.size ≤ maxLen := by unfold maxLen; omega
  have hpa : (p ++ a).size ≤ maxLen := by rw [add_size]; unfold maxLen; omega
  have hpb : (p ++ b).size ≤ maxLen := by rw [add_size]; unfold maxLen; omega
  have C1 := common_any a b
  have C2 := common_any b a
  have C3 := common_any (p ++ a) (p ++ b)
  have le := comm_le a.data.toList b.data.toList
  rw [len_eq, len_eq] at le
  have htk := comm_take a.data.toList b.data.toList
  have hpt := comm_parts a.data.toList b.data.toList
  rw [comm_swap b.data.toList] at C2
  rw [add_list, add_list, comm_app, len_eq] at C3
  generalize comm a.data.toList b.data.toList = n at C1 C2 C3 le htk hpt
  obtain ⟨n1, n2⟩ := le
  have hx : a.extract 0 n = b.extract 0 n := by rw [Lib.extract_eq, Lib.extract_eq]; simp [htk]
  have hne : (h1 : n < a.size) → (h2 : n < b.size) → a[n] ≠ b[n] := fun h1 h2 => hpt (by rw [len_eq]; exact h1) (by rw [len_eq]; exact h2)
  have H1 := Lib.hid C1
  have H2 := Lib.hid C2
  have H3 := Lib.hid C3
  clear C1 C2 C3 htk hpt
  have hx2 : (!((a.extract 0 n).toList == (b.extract 0 n).toList)) = false := by rw [hx]; simp
  have HX := Lib.hid hx
  have HN := Lib.hid hne
  clear hx hne
  go_enter Try.func5, Try.ntmps5
  go_wp2_with fail
  refine (H1.out _ ha' hb').mono ?_
  rintro e w1 ⟨rfl, k1, hk1⟩
  have hb1 : Below w.heap.size w w1 := by rw [hk1]; exact below_drewN _ _ _
  clear hk1
  go_wp2_with fail
  go_quiet ((go_at_call 12; exact Calls.quiet_of (common_wakes _)))
  have hb2 : Below w.heap.size w (w1.drewN nq) := hb1.trans (below_drewN _ _ _)
  generalize w1.drewN nq = w2 at hb2
  go_wp2_with fail
  by_cases h1 : n < a.size
  · by_cases h2 : n < b.size
    · have hno : ((a[n].toNat : Int) == b[n].toNat) = false := by
        rw [beq_eq_false_iff_ne]
        intro e
        exact HN.out h1 h2 (UInt8.toNat_inj.1 (by omega))
      go_quiet (fail)
      have hb3 : Below w.heap.size w (w2.drewN nq) := hb2.trans (below_drewN _ _ _)
      generalize w2.drewN nq = w3 at hb3
      go_wp2_with fail
      refine (H3.out _ hpa hpb).mono ?_
      rintro e w4 ⟨rfl, k4, hk4⟩
      have hb4 : Below w.heap.size w w4 := by rw [hk4]; exact hb3.trans (below_drewN _ _ _)
      clear hk4
      go_wp2_with fail
      refine (H2.out _ hb' ha').mono ?_
      rintro e w5 ⟨rfl, k5, hk5⟩
      have hb5 : Below w.heap.size w w5 := by rw [hk5]; exact hb4.trans (below_drewN _ _ _)
      clear hk5
      go_wp2_with fail
      go_ret
      exact ⟨ret_bool (by simp), hb5⟩
    · have hd2 : decide (n < b.size) = false := decide_eq_false h2
      go_quiet (fail)
      have hb3 : Below w.heap.size w (w2.drewN nq) := hb2.trans (below_drewN _ _ _)
      generalize w2.drewN nq = w3 at hb3
      go_wp2_with fail
      refine (H3.out _ hpa hpb).mono ?_
      rintro e w4 ⟨rfl, k4, hk4⟩
      have hb4 : Below w.heap.size w w4 := by rw [hk4]; exact hb3.trans (below_drewN _ _ _)
      clear hk4
      go_wp2_with fail
      refine (H2.out _ hb' ha').mono ?_
      rintro e w5 ⟨rfl, k5, hk5⟩
      have hb5 : Below w.heap.size w w5 := by rw [hk5]; exact hb4.trans (below_drewN _ _ _)
      clear hk5
      go_wp2_with fail
      go_ret
      exact ⟨ret_bool (by simp), hb5⟩
  · have hd1 : decide (n < a.size) = false := decide_eq_false h1
    go_quiet (fail)
    have hb3 : Below w.heap.size w (w2.drewN nq) := hb2.trans (below_drewN _ _ _)
    generalize w2.drewN nq = w3 at hb3
    go_wp2_with fail
    refine (H3.out _ hpa hpb).mono ?_
    rintro e w4 ⟨rfl, k4, hk4⟩
    have hb4 : Below w.heap.size w w4 := by rw [hk4]; exact hb3.trans (below_drewN _ _ _)
    clear hk4
    go_wp2_with fail
    refine (H2.out _ hb' ha').mono ?_
    rintro e w5 ⟨rfl, k5, hk5⟩
    have hb5 : Below w.heap.size w w5 := by rw [hk5]; exact hb4.trans (below_drewN _ _ _)
    clear hk5
    go_wp2_with fail
    go_ret
    exact ⟨ret_bool (by simp), hb5⟩
end Go.Proofs.Ytanikiheenhaeaa
