/-
  The reference's Peel; the laws RulesChain, RulesPeel and RulesBoth: their walks.
-/
import Derived.Test.YtpckcapilhfpcaaRulesRefs
namespace Go.Proofs.Ytpckcapilhfpcaa
open Go.RowKit

set_option maxHeartbeats 2000000 in
set_option maxRecDepth 100000 in
theorem refPeel_any (B : Nat) (v : Value) (Rs : List RV) (word : ByteArray) (w : World) (h : RefOwn B v Rs w) (hl : Rs.length ≤ 1048576) (hs : word.size + sumOf (fun r => r.S.size) Rs ≤ 562949953421312) (hA : ∀ r ∈ Rs, r.A.size ≤ 1125899906842624) :
    Calls Try.prog 44 #[.string word, v] w (OutPost (peelR (Rs.map RV.p) word.data.toList) w) := by
  obtain ⟨o, ho⟩ : ∃ o, peelR (Rs.map RV.p) word.data.toList = o := ⟨_, rfl⟩
  rw [ho]
  unfold peelR at ho
  rw [← List.map_reverse] at ho
  obtain ⟨a, cap, hv, hg⟩ := h.form
  subst hv
  have hsum := fun r hr => sumOf_mem (fun r => r.S.size) (a := Rs) (r := r) hr
  have HG := Caged.mk hg
  have H := Caged.mk h
  have HSUM := Caged.mk hsum
  have HAA := Caged.mk hA
  clear hg h hsum hA
  go_enter Try.func44, Try.ntmps44
  go_wp2_with fail
  go_loopw [0, 6] (fun wd i wr => ∃ (j : Nat) (X : ByteArray), j ≤ Rs.length ∧ i = .int .i64 ((j : Int) - 1) ∧ wd = .string X ∧ alongR RuleP.undo ((Rs.take j).reverse.map RV.p) X.data.toList = o ∧ X.size + sumOf (fun r => r.S.size) (Rs.take j) ≤ 562949953421312 ∧ Below w.heap.size w wr) (fun _ i _ => (intOf i + 1).toNat)
  case atStart => exact ⟨Rs.length, word, Nat.le_refl _, rfl, rfl, by rw [List.take_length]; exact ho, by rw [List.take_length]; exact hs, Below.refl _ _⟩
  case round =>
    obtain ⟨j, X, hj, rfl, rfl, hall, hsz, hbw⟩ := hrel
    cases j with
    | zero =>
      simp only [List.take_zero, List.reverse_nil, List.map_nil] at hall
      have HE : Caged (outS o = X ∧ o.isSome = true) := ⟨by rw [← hall]; exact ⟨by simp [alongR, outS], rfl⟩⟩
      clear hall ho
      go_wp2_with fail
      go_ret2
      exact ⟨ret_out HE.out.1 HE.out.2, hbw⟩
    | succ m =>
      have e1 : ((m + 1 : Nat) : Int) - 1 = (m : Int) := by omega
      rw [e1]
      have hlt : m < Rs.length := by omega
      obtain ⟨r, hr⟩ : ∃ r, Rs[m]? = some r := ⟨_, List.getElem?_eq_getElem hlt⟩
      have hd : Rs.take (m + 1) = Rs.take m ++ [r] := by rw [List.take_add_one, hr]; rfl
      rw [hd, List.reverse_append] at hall
      rw [hd, sumOf_append] at hsz
      simp only [List.reverse_cons, List.reverse_nil, List.nil_append, List.cons_append, List.map_cons, alongR, sumOf] at hall hsz
      obtain ⟨g, ha⟩ := HG.out (by intro e; rw [e] at hlt; simp at hlt)
      subst ha
      obtain ⟨c0, c1, c2, c3, c4, c5, c6, c7⟩ := (H.out.below hbw).cells hr
      have hro := HSUM.out r (List.mem_of_getElem? hr)
      have hra := HAA.out r (List.mem_of_getElem? hr)
      obtain ⟨Y, hY⟩ : ∃ Y, outS (RuleP.undo r.p X.data.toList) = Y := ⟨_, rfl⟩
      obtain ⟨b, hb⟩ : ∃ b, (RuleP.undo r.p X.data.toList).isSome = b := ⟨_, rfl⟩
      have K := fun w => refUndo_pair r.k r.S r.A r.C X Y b ⟨hY, hb⟩ w (by omega) (by omega) hra
      have hcase := out_self hY hb
      have HK := Caged.mk K
      have HY : Caged ((b = true ∧ alongR RuleP.undo ((Rs.take m).reverse.map RV.p) Y.data.toList = o ∧ Y.size + sumOf (fun r => r.S.size) (Rs.take m) ≤ 562949953421312) ∨ (b = false ∧ o = none)) := ⟨by
        rcases hcase with ⟨h1, h2⟩ | ⟨h1, h2, _⟩
        · rw [h2] at hall
          have hlen := undo_len h2
          simp only [len_eq, RV.p] at hlen
          exact .inl ⟨h1, hall, by omega⟩
        · rw [h2] at hall
          exact .inr ⟨h1, hall.symm⟩⟩
      clear K hall hd hY hb hcase hr ho e1
      rcases HY.out with ⟨rfl, hy1, hy2⟩ | ⟨rfl, rfl⟩
      · have HY1 := Caged.mk hy1
        have HY2 := Caged.mk hy2
        clear hy1 hy2 HY
        go_wp2_with fail
        refine (HK.out _).mono ?_
        rintro e w1 ⟨rfl, hb1⟩
        have hbw1 : Below w.heap.size w w1 := below_next hbw hb1
        go_wp2_with fail
        go_roundw
        case rel => exact ⟨m, Y, by omega, by go_num, rfl, HY1.out, HY2.out, hbw1⟩
        case measure => simp [intOf]
      · go_wp2_with fail
        refine (HK.out _).mono ?_
        rintro e w1 ⟨rfl, hb1⟩
        have hbw1 : Below w.heap.size w w1 := below_next hbw hb1
        go_wp2_with fail
        go_ret2
        exact ⟨rfl, hbw1⟩

set_option maxHeartbeats 2000000 in
theorem rulesChain_walk (word : ByteArray) (a : Option Addr) (cap : Nat) (Rs : List RV) (w : World) (h : RulesIn a Rs w) (hnil : a = none → cap = 0) (hl : Rs.length ≤ 1048576) (hs : word.size + sumOf (fun r => r.A.size) Rs ≤ 562949953421312) :
    Calls Try.prog 14 #[.string word, .slice a Rs.length cap] w fun e w' => e = .returned (.bool true) ∧ Below w.heap.size w w' := by
  have K1 := fun a cap w h => chain_any a cap Rs word w h (by omega) hs
  have K2 := fun B v w h => refChain_any B v Rs word w h hl hs
  have K3 := fun w h => refs_any a cap Rs w h hl
  unfold OutPost at K1 K2
  generalize chainR (Rs.map RV.p) word.data.toList = o at K1 K2
  generalize outS o = X at K1 K2
  generalize o.isSome = b at K1 K2
  have f1 : (b == b) = true := beq_self_eq_true _
  have HK1 := Caged.mk K1
  have HK2 := Caged.mk K2
  have HK3 := Caged.mk K3
  have H := Caged.mk h
  clear K1 K2 K3 h
  go_enter Try.func14, Try.ntmps14
  go_wp2_with (at_builtin; refine wpList_append_rules rfl _ _ rfl w.heap.size (.slice none 0 0) [] a cap Rs _ rfl rfl ?ho ?hin ?hn ?c1 ?c2 ?_)
  case ho => exact RuleOwn.nil _ _
  case hin => exact H.out
  case hn => exact hnil
  case c1 => simp; omega
  case c2 => exact Nat.le_refl _
  intro v1 w1 hown1 hg1 hb1
  obtain ⟨a1, cap1, hv1, hin1, _⟩ := hown1.form
  subst hv1
  have HI := Caged.mk hin1
  clear hin1 hown1 hg1
  go_wp2_with fail
  ((with_reducible refine (HK1.out _ _ _ HI.out).mono ?_))
  rintro e w2 ⟨rfl, hb2⟩
  have hbw2 := below_next hb1 hb2
  go_wp2_with fail
  ((with_reducible refine (HK3.out _ (H.out.below hbw2)).mono ?_))
  rintro e w3 ⟨v3, rfl, hown3, hb3⟩
  have hbw3 := below_next hbw2 hb3
  have HO3 := Caged.mk hown3
  clear hown3
  go_wp2_with fail
  ((with_reducible refine (HK2.out _ _ _ HO3.out).mono ?_))
  rintro e w4 ⟨rfl, hb4⟩
  have hbw4 := below_next hbw3 hb4
  go_wp2_with fail
  refine (wakes15_any _).mono ?_
  rintro e w5 ⟨rfl, hb5⟩
  have hbw5 := below_next hbw4 hb5
  go_wp2_with fail
  go_ret
  exact ⟨rfl, hbw5⟩

set_option maxHeartbeats 2000000 in
theorem rulesPeel_walk (word : ByteArray) (a : Option Addr) (cap : Nat) (Rs : List RV) (w : World) (h : RulesIn a Rs w) (hnil : a = none → cap = 0) (hl : Rs.length ≤ 1048576) (hs : word.size + sumOf (fun r => r.S.size) Rs ≤ 562949953421312) (hA : ∀ r ∈ Rs, r.A.size ≤ 1125899906842624) :
    Calls Try.prog 16 #[.string word, .slice a Rs.length cap] w fun e w' => e = .returned (.bool true) ∧ Below w.heap.size w w' := by
  have K1 := fun a cap w h => peel_any a cap Rs word w h hl hs
  have K2 := fun B v w h => refPeel_any B v Rs word w h hl hs hA
  have K3 := fun w h => refs_any a cap Rs w h hl
  unfold OutPost at K1 K2
  generalize peelR (Rs.map RV.p) word.data.toList = o at K1 K2
  generalize outS o = X at K1 K2
  generalize o.isSome = b at K1 K2
  have f1 : (b == b) = true := beq_self_eq_true _
  have HK1 := Caged.mk K1
  have HK2 := Caged.mk K2
  have HK3 := Caged.mk K3
  have H := Caged.mk h
  clear K1 K2 K3 h hA
  go_enter Try.func16, Try.ntmps16
  go_wp2_with (at_builtin; refine wpList_append_rules rfl _ _ rfl w.heap.size (.slice none 0 0) [] a cap Rs _ rfl rfl ?ho ?hin ?hn ?c1 ?c2 ?_)
  case ho => exact RuleOwn.nil _ _
  case hin => exact H.out
  case hn => exact hnil
  case c1 => simp; omega
  case c2 => exact Nat.le_refl _
  intro v1 w1 hown1 hg1 hb1
  obtain ⟨a1, cap1, hv1, hin1, _⟩ := hown1.form
  subst hv1
  have HI := Caged.mk hin1
  clear hin1 hown1 hg1
  go_wp2_with fail
  ((with_reducible refine (HK1.out _ _ _ HI.out).mono ?_))
  rintro e w2 ⟨rfl, hb2⟩
  have hbw2 := below_next hb1 hb2
  go_wp2_with fail
  ((with_reducible refine (HK3.out _ (H.out.below hbw2)).mono ?_))
  rintro e w3 ⟨v3, rfl, hown3, hb3⟩
  have hbw3 := below_next hbw2 hb3
  have HO3 := Caged.mk hown3
  clear hown3
  go_wp2_with fail
  ((with_reducible refine (HK2.out _ _ _ HO3.out).mono ?_))
  rintro e w4 ⟨rfl, hb4⟩
  have hbw4 := below_next hbw3 hb4
  go_wp2_with fail
  refine (wakes15_any _).mono ?_
  rintro e w5 ⟨rfl, hb5⟩
  have hbw5 := below_next hbw4 hb5
  go_wp2_with fail
  go_ret
  exact ⟨rfl, hbw5⟩
end Go.Proofs.Ytpckcapilhfpcaa
