/-
  slices.Equal of classes, Pattern.Equal.
-/
import Derived.Test.YtpckcapilhfpcaaClsEq
import Derived.BigQuiet
namespace Go.Proofs.Ytpckcapilhfpcaa
open Go.RowKit

noncomputable def eqB (P Q : List Cls) : Bool := @decide (P = Q) (Classical.propDecidable _)
theorem eqB_true {P Q : List Cls} (h : P = Q) : eqB P Q = true := by unfold eqB; exact @decide_eq_true _ (Classical.propDecidable _) h
theorem eqB_false {P Q : List Cls} (h : P ≠ Q) : eqB P Q = false := by unfold eqB; exact @decide_eq_false _ (Classical.propDecidable _) h

theorem eq4_same (p0 p1 p2 p3 : Int) : eq4 p0 p1 p2 p3 p0 p1 p2 p3 = true := by simp [eq4]
theorem eq4_ne {p0 p1 p2 p3 q0 q1 q2 q3 : Nat} (h : p0 ≠ q0 ∨ p1 ≠ q1 ∨ p2 ≠ q2 ∨ p3 ≠ q3) : eq4 p0 p1 p2 p3 q0 q1 q2 q3 = false := by
  cases he : eq4 p0 p1 p2 p3 q0 q1 q2 q3 with
  | false => rfl
  | true =>
    simp only [eq4, Bool.and_eq_true, beq_iff_eq] at he
    omega
theorem take_same {P Q : List Cls} {k : Nat} {f : Cls} (h : P.take k = Q.take k) (hp : P[k]? = some f) (hq : Q[k]? = some f) : P.take (k + 1) = Q.take (k + 1) := by
  rw [List.take_add_one, List.take_add_one, h, hp, hq]
theorem ne_at {P Q : List Cls} {k : Nat} {f g : Cls} (hp : P[k]? = some f) (hq : Q[k]? = some g) (h : f ≠ g) : P ≠ Q := by
  rintro rfl
  rw [hp] at hq
  exact h (Option.some.inj hq)
theorem words_ne {f g : Cls} (h : f ≠ g) : clsW f 0 ≠ clsW g 0 ∨ clsW f 1 ≠ clsW g 1 ∨ clsW f 2 ≠ clsW g 2 ∨ clsW f 3 ≠ clsW g 3 := by
  by_cases h0 : clsW f 0 = clsW g 0
  · by_cases h1 : clsW f 1 = clsW g 1
    · by_cases h2 : clsW f 2 = clsW g 2
      · by_cases h3 : clsW f 3 = clsW g 3
        · refine absurd (clsW_ext fun k hk => ?_) h
          have : k = 0 ∨ k = 1 ∨ k = 2 ∨ k = 3 := by omega
          rcases this with rfl | rfl | rfl | rfl <;> assumption
        · exact .inr (.inr (.inr h3))
      · exact .inr (.inr (.inl h2))
    · exact .inr (.inl h1)
  · exact .inl h0

set_option maxHeartbeats 1000000 in
theorem slicesEqual_any (B1 B2 : Nat) (v1 v2 : Value) (P Q : List Cls) (w : World) (h1 : PatOwn B1 v1 P w) (h2 : PatOwn B2 v2 Q w) (hP : P.length ≤ 1048576) :
    Calls Try.prog 51 #[v1, v2] w fun e w' => e = .returned (.bool (eqB P Q)) ∧ Below w.heap.size w w' := by
  obtain ⟨a1, cap1, rfl⟩ := h1.form
  obtain ⟨a2, cap2, rfl⟩ := h2.form
  by_cases hl : P.length = Q.length
  · have hb : ((P.length : Int) == (Q.length : Int)) = true := by rw [hl]; exact beq_self_eq_true _
    have hn : ((P.length : Int) != (Q.length : Int)) = false := by rw [hl]; simp
    have HL := Lib.hid hl
    have H1 := Lib.hid h1
    have H2 := Lib.hid h2
    clear hl h1 h2
    go_enter Try.func51, Try.ntmps51
    go_wp2_with fail
    go_loopw [13] (fun i wr => ∃ k m : Nat, k ≤ P.length ∧ i = .int .i64 k ∧ P.take k = Q.take k ∧ wr = w.drewN m) (fun i _ => P.length - (intOf i).toNat)
    case atStart => exact ⟨0, 0, by omega, rfl, rfl, rfl⟩
    case round =>
      obtain ⟨k, m, hk, rfl, htk, rfl⟩ := hrel
      by_cases hlt : k < P.length
      · have hlq : k < Q.length := by rw [← HL.out]; exact hlt
        obtain ⟨f, hf⟩ : ∃ f, P[k]? = some f := ⟨_, List.getElem?_eq_getElem hlt⟩
        obtain ⟨g, hg⟩ : ∃ g, Q[k]? = some g := ⟨_, List.getElem?_eq_getElem hlq⟩
        obtain ⟨g1, cap1', hv1, _⟩ := H1.out.somewhere (by rintro rfl; simp at hlt)
        obtain ⟨g2, cap2', hv2, _⟩ := H2.out.somewhere (by rintro rfl; simp at hlq)
        injection hv1 with e1 x1 e2
        injection hv2 with e3 x2 e4
        clear x1 x2
        subst e1 e2 e3 e4
        have O1 : PatOwn B1 _ P (w.drewN m) := H1.out.drewN m
        have O2 : PatOwn B2 _ Q (w.drewN m) := H2.out.drewN m
        have c0 := O1.cell hf (k := 0) (by decide)
        have c1 := O1.cell hf (k := 1) (by decide)
        have c2 := O1.cell hf (k := 2) (by decide)
        have c3 := O1.cell hf (k := 3) (by decide)
        have d0 := O2.cell hg (k := 0) (by decide)
        have d1 := O2.cell hg (k := 1) (by decide)
        have d2 := O2.cell hg (k := 2) (by decide)
        have d3 := O2.cell hg (k := 3) (by decide)
        simp only [Nat.add_zero] at c0 d0
        by_cases hfg : f = g
        · subst hfg
          have HT := Lib.hid (take_same htk hf hg)
          clear htk hf hg O1 O2
          have h4 := eq4_same (clsW f 0) (clsW f 1) (clsW f 2) (clsW f 3)
          have hm := Try.eqGuardType72
          have hwn : ∃ w1, w1 = w.drewN m := ⟨_, rfl⟩
          obtain ⟨w1, hw1⟩ := hwn
          rw [← hw1] at c0 c1 c2 c3 d0 d1 d2 d3 ⊢
          have HW1 := Lib.hid hw1
          clear hw1
          go_wp2_with fail
          go_quiet (fail)
          go_wp2_with fail
          go_roundw
          case rel => exact ⟨k + 1, m + nq, by omega, by go_num, HT.out, by rw [HW1.out]; simp [World.drewN, Nat.add_assoc]⟩
          case measure => simp [intOf]; omega
        · have HN := Lib.hid (ne_at hf hg hfg)
          have hw := words_ne hfg
          have h4 := eq4_ne hw
          have hm := Try.eqGuardType72
          clear htk hf hg O1 O2 hfg hw
          obtain ⟨w1, hw1⟩ : ∃ w1, w1 = w.drewN m := ⟨_, rfl⟩
          rw [← hw1] at c0 c1 c2 c3 d0 d1 d2 d3 ⊢
          have HW1 := Lib.hid hw1
          clear hw1
          go_wp2_with fail
          go_quiet (fail)
          go_wp2_with fail
          go_ret
          exact ⟨ret_bool (eqB_false HN.out).symm, by rw [HW1.out]; exact (below_drewN _ _ _).trans (below_drewN _ _ _)⟩
      · have e : P = Q := by
          have e : k = P.length := by omega
          subst e
          rw [List.take_length, HL.out, List.take_length] at htk
          exact htk
        have HE := Lib.hid (eqB_true e)
        clear htk e
        go_wp2_with fail
        go_ret
        exact ⟨ret_bool HE.out.symm, below_drewN _ _ _⟩
  · have hb : ((P.length : Int) == (Q.length : Int)) = false := by rw [beq_eq_false_iff_ne]; omega
    have hn : ((P.length : Int) != (Q.length : Int)) = true := by rw [bne_iff_ne]; omega
    have HE := Lib.hid (eqB_false (P := P) (Q := Q) (fun e => hl (by rw [e])))
    clear hl h1 h2
    go_enter Try.func51, Try.ntmps51
    go_wp2_with fail
    go_ret
    exact ⟨ret_bool HE.out.symm, Below.refl _ _⟩

set_option maxHeartbeats 1000000 in
theorem equal_any (B1 B2 : Nat) (v1 v2 : Value) (P Q : List Cls) (w : World) (h1 : PatOwn B1 v1 P w) (h2 : PatOwn B2 v2 Q w) (hP : P.length ≤ 1048576) :
    Calls Try.prog 29 #[.agg #[v1], .agg #[v2]] w fun e w' => e = .returned (.bool (eqB P Q)) ∧ Below w.heap.size w w' := by
  have K := slicesEqual_any B1 B2 v1 v2 P Q _ ((h1.alloc (.cells #[v1] 24)).alloc (.cells #[v2] 24)) ((h2.alloc (.cells #[v1] 24)).alloc (.cells #[v2] 24)) hP
  obtain ⟨a1, cap1, rfl⟩ := h1.form
  obtain ⟨a2, cap2, rfl⟩ := h2.form
  have HK := Lib.hid K
  clear K h1 h2
  go_enter Try.func29, Try.ntmps29
  go_wp2_with fail
  refine HK.out.mono ?_
  rintro e w1 ⟨rfl, hb1⟩
  go_wp2_with fail
  go_ret
  exact ⟨rfl, below_next (below_box (below_box (Below.refl _ _) _) _) hb1⟩
end Go.Proofs.Ytpckcapilhfpcaa
