/-
  The law RulesBoth: its walk.
-/
import Derived.Test.YtpckcapilhfpcaaRulesListWalks
namespace Go.Proofs.Ytpckcapilhfpcaa
open Go.RowKit

theorem chain_len : ∀ (Rs : List RV) (w m : List UInt8), chainR (Rs.map RV.p) w = some m → m.length ≤ w.length + sumOf (fun r => r.A.size) Rs
  | [], w, m, h => by
    have : w = m := by simpa [chainR, alongR] using h
    subst this
    simp [sumOf]
  | r :: Rs, w, m, h => by
    rw [List.map_cons, chain_cons] at h
    cases ha : r.p.apply w with
    | none => rw [ha] at h; cases h
    | some x =>
      rw [ha] at h
      have h1 := chain_len Rs x m h
      have h2 := apply_len ha
      simp only [RV.p, len_eq] at h2
      simp only [sumOf]
      omega
theorem peel_len : ∀ (Rs : List RV) (w m : List UInt8), peelR (Rs.map RV.p) w = some m → m.length ≤ w.length + sumOf (fun r => r.S.size) Rs
  | [], w, m, h => by
    have : w = m := by simpa [peelR, alongR] using h
    subst this
    simp [sumOf]
  | r :: Rs, w, m, h => by
    rw [List.map_cons, peel_cons] at h
    cases ha : peelR (Rs.map RV.p) w with
    | none => rw [ha] at h; cases h
    | some x =>
      rw [ha] at h
      have h1 := peel_len Rs w x ha
      have h2 := undo_len (r := r.p) (w := x) (m := m) h
      simp only [RV.p, len_eq] at h2
      simp only [sumOf]
      omega

/-- what the two chains and the peels come to -/
theorem both_facts (word : ByteArray) (R1 R2 : List RV) :
    ∃ (X V P : ByteArray) (b b1 d : Bool), (outS (chainR ((R1 ++ R2).map RV.p) word.data.toList) = X ∧ (chainR ((R1 ++ R2).map RV.p) word.data.toList).isSome = b) ∧
      (outS (chainR (R1.map RV.p) word.data.toList) = V ∧ (chainR (R1.map RV.p) word.data.toList).isSome = b1) ∧
      (outS (peelR ((R1 ++ R2).map RV.p) word.data.toList) = P ∧ (peelR ((R1 ++ R2).map RV.p) word.data.toList).isSome = d) ∧
      (b1 = false → b = false ∧ X = ⟨#[]⟩) ∧
      (b1 = true → (outS (chainR (R2.map RV.p) V.data.toList) = X ∧ (chainR (R2.map RV.p) V.data.toList).isSome = b) ∧ V.size ≤ word.size + sumOf (fun r => r.A.size) R1) ∧
      (b = true → b1 = true ∧ (outS (peelR ((R1 ++ R2).map RV.p) X.data.toList) = word ∧ (peelR ((R1 ++ R2).map RV.p) X.data.toList).isSome = true) ∧
        (outS (peelR (R2.map RV.p) X.data.toList) = V ∧ (peelR (R2.map RV.p) X.data.toList).isSome = true) ∧ X.size ≤ word.size + sumOf (fun r => r.A.size) (R1 ++ R2)) ∧
      (d = true → (outS (chainR ((R1 ++ R2).map RV.p) P.data.toList) = word ∧ (chainR ((R1 ++ R2).map RV.p) P.data.toList).isSome = true) ∧ P.size ≤ word.size + sumOf (fun r => r.S.size) (R1 ++ R2)) ∧ (d = false → P = ⟨#[]⟩) := by
  refine ⟨_, _, _, _, _, _, ⟨rfl, rfl⟩, ⟨rfl, rfl⟩, ⟨rfl, rfl⟩, ?_, ?_, ?_, ?_, ?_⟩
  all_goals have happ : chainR ((R1 ++ R2).map RV.p) word.data.toList = (chainR (R1.map RV.p) word.data.toList).bind (chainR (R2.map RV.p)) := by rw [List.map_append, chain_append]
  · intro h
    rw [happ]
    cases ho : chainR (R1.map RV.p) word.data.toList with
    | none => exact ⟨rfl, rfl⟩
    | some v => rw [ho] at h; cases h
  · intro h
    rw [happ]
    cases ho : chainR (R1.map RV.p) word.data.toList with
    | none => rw [ho] at h; cases h
    | some v =>
      have hl := chain_len R1 _ _ ho
      rw [len_eq] at hl
      simp only [Option.bind_some, outS_some]
      exact ⟨⟨trivial, trivial⟩, by rw [mk_size]; exact hl⟩
  · intro h
    cases ho : chainR ((R1 ++ R2).map RV.p) word.data.toList with
    | none => rw [ho] at h; cases h
    | some x =>
      have hl := chain_len (R1 ++ R2) _ _ ho
      rw [len_eq] at hl
      have hp := peel_of_chain _ _ _ ho
      cases ho1 : chainR (R1.map RV.p) word.data.toList with
      | none => rw [happ, ho1] at ho; cases ho
      | some v =>
        rw [happ, ho1] at ho
        have hp2 := peel_of_chain _ _ _ ho
        rw [outS_some, mk_list, hp, hp2]
        exact ⟨rfl, ⟨mk_self _, rfl⟩, ⟨rfl, rfl⟩, by rw [mk_size]; exact hl⟩
  · intro h
    cases ho : peelR ((R1 ++ R2).map RV.p) word.data.toList with
    | none => rw [ho] at h; cases h
    | some x =>
      have hl := peel_len (R1 ++ R2) _ _ ho
      rw [len_eq] at hl
      have hp := chain_of_peel _ _ _ ho
      rw [outS_some, mk_list, hp]
      exact ⟨⟨mk_self _, rfl⟩, by rw [mk_size]; exact hl⟩
  · intro h
    cases ho : peelR ((R1 ++ R2).map RV.p) word.data.toList with
    | none => rfl
    | some x => rw [ho] at h; cases h

theorem out_post {o : Option (List UInt8)} {X : ByteArray} {b : Bool} {n : Nat} {args : Array Value} {w : World} (h : outS o = X ∧ o.isSome = b) (K : Calls Try.prog n args w (OutPost o w)) :
    Calls Try.prog n args w fun e w' => e = .returned (.tuple #[.string X, .bool b]) ∧ Below w.heap.size w w' := by
  unfold OutPost at K
  rw [h.1, h.2] at K
  exact K

set_option maxHeartbeats 4000000 in
set_option maxRecDepth 100000 in
theorem rulesBoth_walk (word : ByteArray) (a1 : Option Addr) (cap1 : Nat) (R1 : List RV) (a2 : Option Addr) (cap2 : Nat) (R2 : List RV) (w : World) (h1 : RulesIn a1 R1 w) (hn1 : a1 = none → cap1 = 0) (h2 : RulesIn a2 R2 w) (hn2 : a2 = none → cap2 = 0)
    (hl : R1.length + R2.length ≤ 1048576) (hs : word.size + sumOf (fun r => r.A.size) (R1 ++ R2) + sumOf (fun r => r.S.size) (R1 ++ R2) ≤ 1048576) :
    Calls Try.prog 17 #[.string word, .slice a1 R1.length cap1, .slice a2 R2.length cap2] w fun e w' => e = .returned (.bool true) ∧ Below w.heap.size w w' := by
  obtain ⟨X, V, P, b, b1, d, q1, q2, q3, q4, q5, q6, q7, q8⟩ := both_facts word R1 R2
  have sA := sumOf_append (fun r => r.A.size) R1 R2
  have sS := sumOf_append (fun r => r.S.size) R1 R2
  -- the calls, each by its answer
  have CA : ∀ (wd Z : ByteArray) (z : Bool), wd.size ≤ 4194304 → (outS (chainR ((R1 ++ R2).map RV.p) wd.data.toList) = Z ∧ (chainR ((R1 ++ R2).map RV.p) wd.data.toList).isSome = z) → ∀ a cap w, RulesIn a (R1 ++ R2) w →
      Calls Try.prog 40 #[.string wd, .slice a (R1.length + R2.length) cap] w fun e w' => e = .returned (.tuple #[.string Z, .bool z]) ∧ Below w.heap.size w w' := by
    intro wd Z z hwd hq a cap w hin
    have := out_post hq (chain_any a cap (R1 ++ R2) wd w hin (by rw [List.length_append]; omega) (by omega))
    rw [List.length_append] at this
    exact this
  have PA : ∀ (wd Z : ByteArray) (z : Bool), wd.size ≤ 4194304 → (outS (peelR ((R1 ++ R2).map RV.p) wd.data.toList) = Z ∧ (peelR ((R1 ++ R2).map RV.p) wd.data.toList).isSome = z) → ∀ a cap w, RulesIn a (R1 ++ R2) w →
      Calls Try.prog 43 #[.string wd, .slice a (R1.length + R2.length) cap] w fun e w' => e = .returned (.tuple #[.string Z, .bool z]) ∧ Below w.heap.size w w' := by
    intro wd Z z hwd hq a cap w hin
    have := out_post hq (peel_any a cap (R1 ++ R2) wd w hin (by rw [List.length_append]; omega) (by omega))
    rw [List.length_append] at this
    exact this
  have K1 := CA word X b (by omega) q1
  have K2 := fun w h => out_post q2 (chain_any a1 cap1 R1 word w h (by omega) (by omega))
  have K3 : b1 = true → ∀ w, RulesIn a2 R2 w → Calls Try.prog 40 #[.string V, .slice a2 R2.length cap2] w fun e w' => e = .returned (.tuple #[.string X, .bool b]) ∧ Below w.heap.size w w' := fun e w h =>
    out_post (q5 e).1 (chain_any a2 cap2 R2 V w h (by omega) (by have := (q5 e).2; omega))
  have K4 : b = true → ∀ a cap w, RulesIn a (R1 ++ R2) w → Calls Try.prog 43 #[.string X, .slice a (R1.length + R2.length) cap] w fun e w' => e = .returned (.tuple #[.string word, .bool true]) ∧ Below w.heap.size w w' := fun e =>
    PA X word true (by have := (q6 e).2.2.2; omega) (q6 e).2.1
  have K5 : b = true → ∀ w, RulesIn a2 R2 w → Calls Try.prog 43 #[.string X, .slice a2 R2.length cap2] w fun e w' => e = .returned (.tuple #[.string V, .bool true]) ∧ Below w.heap.size w w' := fun e w h =>
    out_post (q6 e).2.2.1 (peel_any a2 cap2 R2 X w h (by omega) (by have := (q6 e).2.2.2; omega))
  have K6 := PA word P d (by omega) q3
  have K7 : d = true → ∀ a cap w, RulesIn a (R1 ++ R2) w → Calls Try.prog 40 #[.string P, .slice a (R1.length + R2.length) cap] w fun e w' => e = .returned (.tuple #[.string word, .bool true]) ∧ Below w.heap.size w w' := fun e =>
    CA P word true (by have := (q7 e).2; omega) (q7 e).1
  have hb : b1 = false → b = false ∧ X = ⟨#[]⟩ := q4
  have HK1 := Caged.mk K1
  have HK2 := Caged.mk K2
  have HK3 := Caged.mk K3
  have HK4 := Caged.mk K4
  have HK5 := Caged.mk K5
  have HK6 := Caged.mk K6
  have HK7 := Caged.mk K7
  have HB := Caged.mk hb
  have HP := Caged.mk q8
  have H1 := Caged.mk h1
  have H2 := Caged.mk h2
  have HN1 := Caged.mk hn1
  have HN2 := Caged.mk hn2
  clear CA PA K1 K2 K3 K4 K5 K6 K7 hb q1 q2 q3 q4 q5 q6 q7 q8 sA sS h1 h2 hn1 hn2
  go_enter Try.func17, Try.ntmps17
  go_wp2_with fail
  refine (wakes15_any _).mono ?_
  rintro e w0 ⟨rfl, hb0⟩
  go_wp2_with (at_builtin; refine wpList_append_rules rfl (.const (.slice none 0 0)) (.tmp 21) rfl w.heap.size (.slice none 0 0) [] a1 cap1 R1 _ rfl rfl ?ho ?hin ?hn ?c1 ?c2 ?_)
  case ho => exact RuleOwn.nil _ _
  case hin => exact H1.out.below hb0
  case hn => exact HN1.out
  case c1 => simp; omega
  case c2 => exact hb0.size
  intro v1 w1 hown1 hg1 hb1
  have hbw1 : Below w.heap.size w w1 := hb0.trans hb1
  have hB1 := hbw1.size
  have HO1 := Caged.mk hown1
  clear hown1 hg1 hb1 hb0
  go_wp2_with (at_builtin; refine wpList_append_rules rfl (.tmp 22) (.tmp 23) rfl w.heap.size v1 R1 a2 cap2 R2 _ rfl rfl ?ho3 ?hin3 ?hn3 ?c3 ?c4 ?_)
  case ho3 => exact HO1.out
  case hin3 => exact H2.out.below hbw1
  case hn3 => exact HN2.out
  case c3 => omega
  case c4 => exact hB1
  intro v2 w2 hown2 hg2 hb2
  have hbw2 : Below w.heap.size w w2 := hbw1.trans hb2
  obtain ⟨a3, cap3, hv2, hin2, _⟩ := hown2.form
  rw [List.length_append] at hv2
  subst hv2
  have HI := Caged.mk hin2
  clear hin2 hown2 hg2 hb2
  go_wp2_with fail
  ((with_reducible refine (HK1.out _ _ _ HI.out).mono ?_))
  rintro e w3 ⟨rfl, hb3⟩
  have hbw3 := below_next hbw2 hb3
  have HI3 := Caged.mk (HI.out.below hb3)
  clear hb3
  go_wp2_with fail
  ((with_reducible refine (HK2.out _ (H1.out.below hbw3)).mono ?_))
  rintro e w4 ⟨rfl, hb4⟩
  have hbw4 := below_next hbw3 hb4
  have HI4 := Caged.mk (HI3.out.below hb4)
  clear hb4
  cases b1 with
  | false =>
    obtain ⟨hb, hX⟩ := HB.out rfl
    subst hb
    subst hX
    go_wp2_with fail
    ((with_reducible refine (HK6.out _ _ _ HI4.out).mono ?_))
    rintro e w5 ⟨rfl, hb5⟩
    have hbw5 := below_next hbw4 hb5
    have HI5 := Caged.mk (HI4.out.below hb5)
    clear hb5
    cases d with
    | false =>
      have hP := HP.out rfl
      subst hP
      go_wp2_with fail
      go_ret
      exact ⟨rfl, hbw5⟩
    | true =>
      have HC := Caged.mk (HK7.out rfl)
      go_wp2_with fail
      ((with_reducible refine (HC.out _ _ _ HI5.out).mono ?_))
      rintro e w6 ⟨rfl, hb6⟩
      have hbw6 := below_next hbw5 hb6
      go_wp2_with fail
      go_ret
      exact ⟨rfl, hbw6⟩
  | true =>
    have HC3 := Caged.mk (HK3.out rfl)
    go_wp2_with fail
    ((with_reducible refine (HC3.out _ (H2.out.below hbw4)).mono ?_))
    rintro e w5 ⟨rfl, hb5⟩
    have hbw5 := below_next hbw4 hb5
    have HI5 := Caged.mk (HI4.out.below hb5)
    clear hb5
    cases b with
    | false =>
      go_wp2_with fail
      ((with_reducible refine (HK6.out _ _ _ HI5.out).mono ?_))
      rintro e w6 ⟨rfl, hb6⟩
      have hbw6 := below_next hbw5 hb6
      have HI6 := Caged.mk (HI5.out.below hb6)
      clear hb6
      cases d with
      | false =>
        have hP := HP.out rfl
        subst hP
        go_wp2_with fail
        go_ret
        exact ⟨rfl, hbw6⟩
      | true =>
        have HC := Caged.mk (HK7.out rfl)
        go_wp2_with fail
        ((with_reducible refine (HC.out _ _ _ HI6.out).mono ?_))
        rintro e w7 ⟨rfl, hb7⟩
        have hbw7 := below_next hbw6 hb7
        go_wp2_with fail
        go_ret
        exact ⟨rfl, hbw7⟩
    | true =>
      have HC4 := Caged.mk (HK4.out rfl)
      have HC5 := Caged.mk (HK5.out rfl)
      go_wp2_with fail
      ((with_reducible refine (HC4.out _ _ _ HI5.out).mono ?_))
      rintro e w6 ⟨rfl, hb6⟩
      have hbw6 := below_next hbw5 hb6
      clear hb6
      go_wp2_with fail
      ((with_reducible refine (HC5.out _ (H2.out.below hbw6)).mono ?_))
      rintro e w7 ⟨rfl, hb7⟩
      have hbw7 := below_next hbw6 hb7
      go_wp2_with fail
      go_ret
      exact ⟨rfl, hbw7⟩
end Go.Proofs.Ytpckcapilhfpcaa
