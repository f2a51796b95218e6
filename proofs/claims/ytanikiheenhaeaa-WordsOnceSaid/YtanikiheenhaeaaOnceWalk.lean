/-
  The walk of the law WordsOnce: it returns true; texts of at most 140737488351232 bytes.
-/
import Derived.Test.YtanikiheenhaeaaLetters
import Derived.IntWalk
namespace Go.Proofs.Ytanikiheenhaeaa
open Go.RowKit

theorem once_prefix : ∀ acc l : List UInt8, ∃ r, once acc l = acc ++ r
  | acc, [] => ⟨[], by simp [once]⟩
  | acc, x :: l => by
    simp only [once]
    split
    · exact once_prefix acc l
    · obtain ⟨r, hr⟩ := once_prefix (acc ++ [x]) l
      exact ⟨x :: r, by rw [hr]; simp⟩
theorem once_mem : ∀ (acc l : List UInt8) (x : UInt8), x ∈ once acc l ↔ x ∈ acc ∨ x ∈ l
  | acc, [], x => by simp [once]
  | acc, y :: l, x => by
    simp only [once]
    split
    · rename_i h
      rw [once_mem acc l x]
      have hm : y ∈ acc := by simpa using h
      constructor
      · rintro (h | h)
        · exact .inl h
        · exact .inr (List.mem_cons.2 (.inr h))
      · rintro (h | h)
        · exact .inl h
        · rcases List.mem_cons.1 h with rfl | h
          · exact .inl hm
          · exact .inr h
    · rw [once_mem (acc ++ [y]) l x]
      simp [or_assoc]
theorem once_nodup : ∀ (acc l : List UInt8), acc.Nodup → (once acc l).Nodup
  | acc, [], h => by simpa [once] using h
  | acc, y :: l, h => by
    simp only [once]
    split
    · exact once_nodup acc l h
    · rename_i hc
      refine once_nodup (acc ++ [y]) l ?_
      rw [List.nodup_append]
      refine ⟨h, by simp, ?_⟩
      intro a ha b hb e
      have : b = y := by simpa using hb
      subst this
      subst e
      exact hc (by simpa using ha)
theorem once_self : ∀ (acc l : List UInt8), (acc ++ l).Nodup → once acc l = acc ++ l
  | acc, [], _ => by simp [once]
  | acc, y :: l, h => by
    have hn : acc.contains y = false := by
      rw [List.nodup_append] at h
      have := h.2.2
      simp only [List.contains_eq_mem, decide_eq_false_iff_not]
      exact fun hm => this y hm y (by simp) rfl
    rw [once_no hn, once_self (acc ++ [y]) l (by simpa using h)]
    simp
theorem okL_all {l : List UInt8} (h : ∀ x ∈ l, fitB x = true) : okL l = true := List.all_eq_true.2 h
theorem okL_mem {l : List UInt8} (h : okL l = true) : ∀ x ∈ l, fitB x = true := List.all_eq_true.1 h

/-- the letters of fit bytes behind an 'o' -/
theorem letters_fit (F : List UInt8) (h : okL F = true) : lettersL (111 :: F) = some (once [] (111 :: F)) :=
  lettersL_some (by simp) (by rw [okL_cons, h]; rfl)
theorem letters_again (F : List UInt8) (h : okL F = true) : lettersL (once [] (111 :: F)) = some (once [] (111 :: F)) := by
  have hne : once [] (111 :: F) ≠ [] := by
    intro e
    have : (111 : UInt8) ∈ once [] (111 :: F) := (once_mem _ _ _).2 (.inr (by simp))
    rw [e] at this
    cases this
  rw [lettersL_some hne, once_self [] _ (by simpa using once_nodup [] (111 :: F) (by simp))]
  · simp
  · refine okL_all fun x hx => ?_
    rcases (once_mem _ _ _).1 hx with h1 | h1
    · cases h1
    · rcases List.mem_cons.1 h1 with rfl | h1
      · rfl
      · exact okL_mem h x h1
theorem filter_ok (l : List UInt8) : okL (l.filter fitB) = true := okL_all fun _ hx => (List.mem_filter.1 hx).2
theorem filter_len (l : List UInt8) : (l.filter fitB).length ≤ l.length := List.length_filter_le _ _
theorem filter_snoc (l : List UInt8) (x : UInt8) : (l ++ [x]).filter fitB = l.filter fitB ++ if fitB x then [x] else [] := by
  rw [List.filter_append]
  cases h : fitB x <;> simp [h]

theorem letters_two (q : ByteArray) (hq : okL q.data.toList = true) (hs : q.size ≤ 140737488351232) :
    ∃ T : ByteArray, T.data.toList = once [] (111 :: q.data.toList) ∧ T.size ≤ q.size + 1 ∧
      (∀ w, Calls Try.prog 18 #[.string (⟨#[111]⟩ ++ q)] w fun e w' => e = .returned (.tuple #[.string T, .int .i64 0]) ∧ Below w.heap.size w w') ∧
      (∀ w, Calls Try.prog 18 #[.string T] w fun e w' => e = .returned (.tuple #[.string T, .int .i64 0]) ∧ Below w.heap.size w w') := by
  have hl : (once [] (111 :: q.data.toList)).length ≤ q.size + 1 := by
    have := once_len [] (111 :: q.data.toList)
    simp only [List.length_nil, List.length_cons, len_eq] at this
    omega
  refine ⟨⟨(once [] (111 :: q.data.toList)).toArray⟩, by simp, by rw [mk_size]; exact hl, fun w => ?_, fun w => ?_⟩
  · have K := letters_any (⟨#[111]⟩ ++ q) w (by rw [add_size]; have : (⟨#[111]⟩ : ByteArray).size = 1 := rfl; omega)
    rw [add_list, show (⟨#[111]⟩ : ByteArray).data.toList = [111] from rfl, List.singleton_append, letters_fit _ hq] at K
    exact K
  · have K := letters_any ⟨(once [] (111 :: q.data.toList)).toArray⟩ w (by rw [mk_size]; omega)
    rw [mk_list, letters_again _ hq] at K
    exact K

set_option maxHeartbeats 2000000 in
theorem wordsOnce_walk (s : ByteArray) (w : World) (hs : s.size ≤ 140737488351232) :
    Calls Try.prog 8 #[.string s] w fun e w' => e = .returned (.bool true) ∧ Below w.heap.size w w' := by
  go_enter Try.func8, Try.ntmps8
  go_wp2_with fail
  go_loop [3, 4] (fun f i => ∃ (k : Nat) (q : ByteArray), k ≤ s.size ∧ i = .int .i64 k ∧ f = .string q ∧ q.size ≤ k ∧ q.data.toList = (s.data.toList.take k).filter fitB) (fun _ i => s.size - (intOf i).toNat)
  case atStart => exact ⟨0, ⟨#[]⟩, by omega, rfl, rfl, Nat.le_refl _, by simp⟩
  case round =>
    obtain ⟨k, q, hk, rfl, rfl, hqk, hq⟩ := hrel
    have HQ := Lib.hid hq
    clear hq
    by_cases hlt : k < s.size
    · have hts := take_snoc s k hlt
      have hq1 : (q ++ s.extract k (k + 1)).data.toList = q.data.toList ++ [s[k]] := by
        rw [add_list, Lib.extract_data, drop_cons s k hlt]
        simp
      have hq2 : (q ++ s.extract k (k + 1)).size ≤ k + 1 := by
        rw [← len_eq, hq1, List.length_append, len_eq]
        simp
        omega
      cases hf : fitB s[k] with
      | true =>
        have hq3 : (q ++ s.extract k (k + 1)).data.toList = (s.data.toList.take (k + 1)).filter fitB := by
          rw [hq1, hts, filter_snoc, hf, HQ.out]; rfl
        have hf2 : 32 < s[k].toNat ∧ s[k].toNat ≠ 127 := by simpa [fitB] using hf
        have f1 : (32 : Int) < s[k].toNat := by omega
        have f2 : ((s[k].toNat : Int) != 127) = true := by rw [bne_iff_ne]; omega
        have H3 := Lib.hid hq3
        clear hts hq1 hq3 hf hf2
        go_wp2_with fail
        go_round
        case rel => exact ⟨k + 1, _, by omega, by go_num, rfl, hq2, H3.out⟩
        case measure => simp [intOf]; omega
      | false =>
        have hq3 : q.data.toList = (s.data.toList.take (k + 1)).filter fitB := by
          rw [hts, filter_snoc, hf, HQ.out]; simp
        have H3 := Lib.hid hq3
        clear hts hq1 hq2 hq3
        by_cases f1 : 32 < s[k].toNat
        · have hf2 : s[k].toNat = 127 := by
            simp [fitB, f1] at hf
            exact hf
          have f2 : ((s[k].toNat : Int) != 127) = false := by rw [bne_eq_false_iff_eq]; omega
          clear hf hf2
          go_wp2_with fail
          go_round
          case rel => exact ⟨k + 1, q, by omega, by go_num, rfl, by omega, H3.out⟩
          case measure => simp [intOf]; omega
        · clear hf
          go_wp2_with fail
          go_round
          case rel => exact ⟨k + 1, q, by omega, by go_num, rfl, by omega, H3.out⟩
          case measure => simp [intOf]; omega
    · have e : q.data.toList = s.data.toList.filter fitB := by rw [HQ.out, take_all s k hlt]
      have hok : okL q.data.toList = true := by rw [e]; exact filter_ok _
      obtain ⟨T, hT, hTs, K1, K2⟩ := letters_two q hok (by omega)
      have H1 := Lib.hid K1
      have H2 := Lib.hid K2
      have HT := Lib.hid hT
      clear K1 K2 hT e hok
      have hqs : q.size ≤ 140737488351232 := by omega
      clear hTs hqk
      go_wp2_with fail
      refine (H1.out _).mono ?_
      rintro e w1 ⟨rfl, hb1⟩
      go_wp2_with fail
      refine (H2.out _).mono ?_
      rintro e w2 ⟨rfl, hb2⟩
      have hb3 := below_next hb1 hb2
      clear hb1 hb2
      go_wp2_with fail
      go_loop [8, 9] (fun at_ i => ∃ (i' : Nat) (acc : List UInt8), i' ≤ q.size + 1 ∧ acc.length ≤ i' ∧ at_ = .int .i64 acc.length ∧ i = .int .i64 i' ∧ T.data.toList = once acc ((111 :: q.data.toList).drop i')) (fun _ i => q.size + 1 - (intOf i).toNat)
      case atStart => exact ⟨0, [], by omega, by simp, rfl, rfl, by rw [HT.out]; simp⟩
      case round =>
        obtain ⟨i, acc, hi, hai, rfl, rfl, hTa⟩ := hrel
        have HTA := Lib.hid hTa
        clear hTa
        by_cases hil : i < q.size + 1
        · have hpi : i < (⟨#[111]⟩ ++ q : ByteArray).size := by rw [add_size]; have : (⟨#[111]⟩ : ByteArray).size = 1 := rfl; omega
          have hd := drop_cons (⟨#[111]⟩ ++ q) i hpi
          rw [add_list, show (⟨#[111]⟩ : ByteArray).data.toList = [111] from rfl, List.singleton_append] at hd
          have HD := Lib.hid hd
          clear hd
          have hip : i ≤ 140737488351232 := by omega
          go_wp2_with fail
          generalize ({ data := #[111] } ++ q : ByteArray)[i] = x at HD ⊢
          have hTx : T.data.toList = once acc (x :: (111 :: q.data.toList).drop (i + 1)) := by rw [HTA.out, HD.out]
          have HTX := Lib.hid hTx
          obtain ⟨r, hr⟩ := once_prefix acc (x :: (111 :: q.data.toList).drop (i + 1))
          rw [hr] at hTx
          have haT : acc.length ≤ T.size := by rw [← len_eq, hTx, List.length_append]; omega
          have hat : ∀ k (hk : k < acc.length) (hk' : k < T.size), acc[k]? = some T[k] := by
            intro k hk hk'
            have h1 : T.data.toList[k]? = some T[k] := by
              rw [List.getElem?_eq_getElem (by rw [len_eq]; exact hk')]; rfl
            rw [hTx, List.getElem?_append_left hk] at h1
            exact h1
          have HAT := Lib.hid hat
          clear hTx hr hat
          go_loop [11, 12] (fun kn kk => ∃ (k' : Nat) (b : Bool), k' ≤ acc.length ∧ kk = .int .i64 k' ∧ kn = .bool b ∧ (acc.take k').contains x = b) (fun _ kk => acc.length - (intOf kk).toNat)
          case atStart => exact ⟨0, false, by omega, rfl, rfl, by simp⟩
          case round =>
            obtain ⟨k', b, hk', rfl, rfl, hcon⟩ := hrel
            have HN := Lib.hid hcon
            clear hcon
            by_cases hkl : k' < acc.length
            · have hkT : k' < T.size := by omega
              have hy := HAT.out k' hkl hkT
              have hct := contains_take acc x hy
              rw [HN.out] at hct
              cases b with
              | true =>
                rw [Bool.true_or] at hct
                have HC := Lib.hid hct
                clear hct hy
                go_wp2_with fail
                go_round
                case rel => exact ⟨k' + 1, true, by omega, by go_num, rfl, HC.out⟩
                case measure => simp [intOf]; omega
              | false =>
                rw [Bool.false_or, ← byte_beq] at hct
                have HC := Lib.hid hct
                clear hct hy
                go_wp2_with fail
                go_round
                case rel => exact ⟨k' + 1, _, by omega, by go_num, rfl, HC.out⟩
                case measure => simp [intOf]; omega
            · have hct : acc.contains x = b := by rw [← HN.out, List.take_of_length_le (by omega)]
              cases b with
              | true =>
                have e := HTX.out
                rw [once_yes hct] at e
                have HE := Lib.hid e
                clear hct e
                go_wp2_with fail
                go_round
                case rel => exact ⟨i + 1, acc, by omega, by omega, rfl, by go_num, HE.out⟩
                case measure => simp [intOf]; omega
              | false =>
                have e := HTX.out
                rw [once_no hct] at e
                have HE := Lib.hid e
                obtain ⟨r2, hr2⟩ := once_prefix (acc ++ [x]) ((111 :: q.data.toList).drop (i + 1))
                rw [hr2] at e
                have ha2 : acc.length < T.size := by rw [← len_eq, e]; simp
                have hTa : T[acc.length] = x := by
                  have h1 : T.data.toList[acc.length]? = some T[acc.length] := by
                    rw [List.getElem?_eq_getElem (by rw [len_eq]; exact ha2)]; rfl
                  rw [e] at h1
                  simpa using h1.symm
                have hne : ((T[acc.length].toNat : Int) != x.toNat) = false := by rw [hTa]; simp
                clear hct e hr2 hTa
                go_wp2_with fail
                go_round
                case rel => exact ⟨i + 1, _, by omega, by simp; omega, by simp, by go_num, HE.out⟩
                case measure => simp [intOf]; omega
        · have e : T.data.toList = acc := by
            rw [HTA.out, List.drop_eq_nil_of_le (by simp only [List.length_cons, len_eq]; omega)]; rfl
          have e2 : ((acc.length : Int) == T.size) = true := by rw [beq_iff_eq, ← len_eq, e]
          have hip : i ≤ 140737488351233 := by omega
          clear e
          go_wp2_with fail
          go_ret
          exact ⟨rfl, hb3⟩
end Go.Proofs.Ytanikiheenhaeaa
