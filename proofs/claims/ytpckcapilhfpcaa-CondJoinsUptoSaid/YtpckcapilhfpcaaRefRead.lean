/-
  The reference's Read of layer 4: the pieces of a text as items, or the fault; for every text.
-/
import Derived.Test.YtpckcapilhfpcaaItems
namespace Go.Proofs.Ytpckcapilhfpcaa
open Go.RowKit

/-- the texts that Read answers -/
def textsOf : Nat ⊕ List (List UInt8) → List (List UInt8)
  | .inl _ => []
  | .inr ps => ps
def RefPost (s : ByteArray) (w : World) (e : Ending) (w' : World) : Prop :=
  ∃ v Q, e = .returned (.tuple #[v, .int .i64 (errOf (readP s.data.toList))]) ∧ ItemsOwn w.heap.size v Q w' ∧ Q.map (·.data.toList) = textsOf (readP s.data.toList) ∧ Below w.heap.size w w'

theorem ok_zero (L : List UInt8) : bracketOk (L.take 0) = false := rfl
theorem ok_hat {L : List UInt8} (h : L[0]? = some 94) : bracketOk (L.take 1) = false := by
  cases L with
  | nil => rfl
  | cons x L =>
    simp at h
    subst h
    rfl
theorem ok_one {L : List UInt8} {x : UInt8} (h : L[0]? = some x) (hx : x ≠ 94) : bracketOk (L.take 1) = true := by
  cases L with
  | nil => simp at h
  | cons y L =>
    simp at h
    subst h
    simp [bracketOk, stripHat, hx]
theorem ok_more {L : List UInt8} {n : Nat} (hn : 2 ≤ n) (hl : n < L.length) : bracketOk (L.take n) = true := by
  match L, n, hn, hl with
  | x :: y :: L, n + 2, _, _ =>
    simp only [bracketOk, List.take_succ_cons, stripHat]
    split <;> simp
  | [x], n, hn, hl => simp at hl; omega
  | [], n, hn, hl => simp at hl

set_option maxHeartbeats 2000000 in
theorem refRead04_loop (s : ByteArray) (w : World) (h0 : s.data.toList ≠ []) (h1 : s.size ≤ 512) (h2 : s.data.toList ≠ [46]) :
    Calls Try.prog 19 #[.string s] w (RefPost s w) := by
  have hl := len_eq s
  have hpos : 0 < s.size := by
    rcases Nat.eq_zero_or_pos s.size with h | h
    · exact absurd (List.eq_nil_of_length_eq_zero (by omega)) h0
    · exact h
  have e0 : ((s.size : Int) == 0) = false := by rw [beq_eq_false_iff_ne]; omega
  have e1 : (s.toList == [46]) = false := by rw [toList_eq, beq_eq_false_iff_ne]; exact h2
  have hr := readP_rest h0 (by rw [len_eq]; exact h1) h2
  rw [len_eq] at hr
  have HR := Lib.hid hr
  have e2 : decide ((512 : Int) < (s.size : Int)) = false := decide_eq_false (by omega)
  clear hr h0 h2 hl
  go_enter Try.func19, Try.ntmps19
  go_wp2_with fail
  go_loopw [4, 5] (fun v i wr => ∃ (k fuel : Nat) (Q : List ByteArray), k ≤ s.size ∧ s.size ≤ k + fuel ∧ Q.length ≤ k ∧ i = .int .i64 k ∧ piecesF s.size s.data.toList = aheadP (Q.map (·.data.toList)) (piecesF fuel (s.data.toList.drop k)) ∧
    ItemsOwn w.heap.size v Q wr ∧ Below w.heap.size w wr) (fun _ i _ => s.size - (intOf i).toNat)
  case atStart => exact ⟨0, s.size, [], by omega, by omega, by simp, rfl, by rw [List.map_nil, aheadP_nil]; rfl, ItemsOwn.nil _ _, Below.refl _ _⟩
  case round =>
    obtain ⟨k, fuel, Q, hk, hf, hac, rfl, hall, hown, hbw⟩ := hrel
    have hB := hbw.size
    by_cases hlt : k < s.size
    · obtain ⟨f, hff⟩ : ∃ f, fuel = f + 1 := ⟨fuel - 1, by omega⟩
      have hd := drop_cons s k hlt
      rw [hff, hd] at hall
      have hf1 : s.size ≤ k + 1 + f := by omega
      clear hff hf
      have ext : ∀ j, (s.extract k j).data.toList = ((s.data.toList.drop k).take (j - k)) := fun j => Lib.extract_data s k j
      by_cases c1 : s[k].toNat = 91
      · have h3 : ((s[k].toNat : Int) == 91) = true := byte_is c1 rfl
        have hx : s[k] = 91 := UInt8.toNat_inj.1 c1
        rw [hx] at hall hd
        have K := fun w => closing_any s k w (by unfold maxLen; omega) hk
        rw [hd] at K
        have hf93 : find93 (91 :: s.data.toList.drop (k + 1)) = (find93 (s.data.toList.drop (k + 1))).map (· + 1) := rfl
        rw [hf93] at K
        clear c1 hx hf93
        cases hfi : find93 (s.data.toList.drop (k + 1)) with
        | none =>
          rw [aheadP_none _ _ hfi] at hall
          rw [hfi] at K
          simp only [Option.map_none, closeV] at K
          have HA := Lib.hid hall
          have HK := Lib.hid K
          clear hall K hfi hd ext
          go_wp2_with fail
          refine (HK.out _).mono ?_
          rintro e w1 ⟨rfl, rfl⟩
          go_wp2_with fail
          go_ret2
          have hrp : readP s.data.toList = .inl 41 := by rw [HR.out, HA.out]
          exact ⟨.slice none 0 0, [], by rw [hrp]; rfl, ItemsOwn.nil _ _, by rw [hrp]; rfl, hbw⟩
        | some n =>
          have hn := find93_lt hfi
          rw [List.length_drop, len_eq] at hn
          have hk1 : k + 1 < s.size := by omega
          rw [hfi] at K
          simp only [Option.map_some, closeV] at K
          have hT : (s.extract k (k + 1 + n + 1)).data.toList = 91 :: List.take (n + 1) (List.drop (k + 1) s.data.toList) := by
            rw [ext, hd, show k + 1 + n + 1 - k = (n + 1) + 1 from by omega, List.take_succ_cons]
          have hgo : bracketOk ((s.data.toList.drop (k + 1)).take n) = true → piecesF s.size s.data.toList = aheadP ((Q ++ [s.extract k (k + 1 + n + 1)]).map (·.data.toList)) (piecesF f (s.data.toList.drop (k + 1 + n + 1))) := by
            intro hok
            rw [hall, aheadP_bracket _ _ hfi hok, List.drop_drop, List.map_append, List.map_cons, List.map_nil, hT]
            congr 3
          have hno : bracketOk ((s.data.toList.drop (k + 1)).take n) = false → piecesF s.size s.data.toList = none := by
            intro hok
            rw [hall, aheadP_bad _ _ hfi hok]
          have hbyte : (s.data.toList.drop (k + 1))[0]? = some s[k + 1] := by
            rw [drop_cons s (k + 1) (by omega)]; rfl
          have hmore : 2 ≤ n → bracketOk ((s.data.toList.drop (k + 1)).take n) = true := fun h => ok_more h (by rw [List.length_drop, len_eq]; omega)
          clear hall hT hd ext hfi
          by_cases n0 : n = 0
          · subst n0
            have HA := Lib.hid (hno (ok_zero _))
            rw [show ((k + (0 + 1) : Nat) : Int) = (k : Int) + 1 from by omega] at K
            have HK := Lib.hid K
            clear hgo hno hbyte hmore K
            go_wp2_with fail
            refine (HK.out _).mono ?_
            rintro e w1 ⟨rfl, rfl⟩
            go_wp2_with fail
            go_ret2
            have hrp : readP s.data.toList = .inl 41 := by rw [HR.out, HA.out]
            exact ⟨.slice none 0 0, [], by rw [hrp]; rfl, ItemsOwn.nil _ _, by rw [hrp]; rfl, hbw⟩
          · by_cases n1 : n = 1
            · subst n1
              rw [show ((k + (1 + 1) : Nat) : Int) = (k : Int) + 2 from by omega] at K
              have HK := Lib.hid K
              have t1 : ((k : Int) + 2 == (k : Int) + 1) = false := by rw [beq_eq_false_iff_ne]; omega
              by_cases c4 : s[k + 1].toNat = 94
              · have h4 : ((s[k + 1].toNat : Int) == 94) = true := byte_is c4 rfl
                have hx : s[k + 1] = 94 := UInt8.toNat_inj.1 c4
                have HA := Lib.hid (hno (ok_hat (by rw [hbyte, hx])))
                clear hgo hno hbyte hmore K c4 hx
                go_wp2_with fail
                refine (HK.out _).mono ?_
                rintro e w1 ⟨rfl, rfl⟩
                go_wp2_with fail
                go_ret2
                have hrp : readP s.data.toList = .inl 41 := by rw [HR.out, HA.out]
                exact ⟨.slice none 0 0, [], by rw [hrp]; rfl, ItemsOwn.nil _ _, by rw [hrp]; rfl, hbw⟩
              · have h4 : ((s[k + 1].toNat : Int) == 94) = false := byte_ne c4 rfl
                have hx : s[k + 1] ≠ 94 := fun e => c4 (by rw [e]; rfl)
                have HA := Lib.hid (hgo (ok_one hbyte hx))
                clear hgo hno hbyte hmore K c4 hx
                go_wp2_with fail
                refine (HK.out _).mono ?_
                rintro e w1 ⟨rfl, rfl⟩
                go_wp2_with (at_builtin; (refine wpList_append_item rfl _ _ rfl w.heap.size _ Q _ (s.extract k (k + 2 + 1)) rfl rfl ?ho ?c1 ?c2 ?_))
                case ho => exact hown
                case c1 => omega
                case c2 => exact hB
                intro v1 w1 hown1 hb1
                have hbw1 := hbw.trans hb1
                go_wp2_with fail
                go_roundw
                case rel => exact ⟨k + 1 + 1 + 1, f, _, by omega, by omega, by simp; omega, by go_num, HA.out, hown1, hbw1⟩
                case measure => simp [intOf]; omega
            · rw [show ((k + (n + 1) : Nat) : Int) = (k : Int) + n + 1 from by omega] at K
              have HK := Lib.hid K
              have t1 : ((k : Int) + n + 1 == (k : Int) + 1) = false := by rw [beq_eq_false_iff_ne]; omega
              have t2 : ((k : Int) + n + 1 == (k : Int) + 2) = false := by rw [beq_eq_false_iff_ne]; omega
              have HA := Lib.hid (hgo (hmore (by omega)))
              clear hgo hno hbyte hmore K n0 n1
              go_wp2_with fail
              refine (HK.out _).mono ?_
              rintro e w1 ⟨rfl, rfl⟩
              go_wp2_with (at_builtin; (refine wpList_append_item rfl _ _ rfl w.heap.size _ Q _ (s.extract k (k + n + 1 + 1)) rfl rfl ?ho ?c1 ?c2 ?_))
              case ho => exact hown
              case c1 => omega
              case c2 => exact hB
              intro v1 w1 hown1 hb1
              have hbw1 := hbw.trans hb1
              go_wp2_with fail
              go_roundw
              case rel => exact ⟨k + 1 + n + 1, f, Q ++ [s.extract k (k + n + 1 + 1)], by omega, by omega, by simp; omega, by go_num, by rw [show k + n + 1 + 1 = k + 1 + n + 1 from by omega]; exact HA.out, hown1, hbw1⟩
              case measure => simp [intOf]; omega
      · have h3 : ((s[k].toNat : Int) == 91) = false := byte_ne c1 rfl
        have hx : s[k] ≠ 91 := fun e => c1 (by rw [e]; rfl)
        rw [aheadP_plain _ _ _ hx] at hall
        have hT : (s.extract k (k + 1)).data.toList = [s[k]] := by rw [ext, hd]; simp
        rw [← hT] at hall
        have HA := Lib.hid hall
        clear hall c1 hx hT hd ext
        go_wp2_with (at_builtin; refine wpList_append_item rfl _ _ rfl w.heap.size _ Q _ (s.extract k (k + 1)) rfl rfl ?ho ?c1 ?c2 ?_)
        case ho => exact hown
        case c1 => omega
        case c2 => exact hB
        intro v1 w1 hown1 hb1
        have hbw1 := hbw.trans hb1
        go_wp2_with fail
        go_roundw
        case rel => exact ⟨k + 1, f, _, by omega, by omega, by simp; omega, by go_num, by rw [HA.out]; simp, hown1, hbw1⟩
        case measure => simp [intOf]; omega
    · rw [drop_end s k hlt, aheadP_end] at hall
      have HA := Lib.hid hall
      have hks : s.size ≤ k := by omega
      obtain ⟨a, cap, hv⟩ := hown.form
      rw [hv] at hown
      rw [hv]
      clear hall hv hf
      by_cases h16 : 16 < Q.length
      · go_wp2_with fail
        go_ret2
        have hrp : readP s.data.toList = .inl 42 := by rw [HR.out, HA.out]; simp [h16]
        exact ⟨.slice none 0 0, [], by rw [hrp]; rfl, ItemsOwn.nil _ _, by rw [hrp]; rfl, hbw⟩
      · go_wp2_with fail
        go_ret2
        have hrp : readP s.data.toList = .inr (Q.map (·.data.toList)) := by rw [HR.out, HA.out]; simp [h16]
        exact ⟨_, Q, by rw [hrp]; rfl, hown, by rw [hrp]; rfl, hbw⟩

set_option maxHeartbeats 1000000 in
theorem refRead04_empty (s : ByteArray) (w : World) (h0 : s.data.toList = []) : Calls Try.prog 19 #[.string s] w (RefPost s w) := by
  have hl : s.size = 0 := by rw [← len_eq, h0]; rfl
  have e0 : ((s.size : Int) == 0) = true := by rw [beq_iff_eq]; omega
  have hrp : readP s.data.toList = .inl 40 := readP_empty h0
  have HR := Lib.hid hrp
  clear hrp h0 hl
  go_enter Try.func19, Try.ntmps19
  go_wp2_with fail
  go_ret2
  exact ⟨.slice none 0 0, [], by rw [HR.out]; rfl, ItemsOwn.nil _ _, by rw [HR.out]; rfl, Below.refl _ _⟩
set_option maxHeartbeats 1000000 in
theorem refRead04_long (s : ByteArray) (w : World) (h1 : 512 < s.size) : Calls Try.prog 19 #[.string s] w (RefPost s w) := by
  have e0 : ((s.size : Int) == 0) = false := by rw [beq_eq_false_iff_ne]; omega
  have hrp : readP s.data.toList = .inl 40 := readP_long (by rw [len_eq]; exact h1)
  have HR := Lib.hid hrp
  clear hrp
  go_enter Try.func19, Try.ntmps19
  go_wp2_with fail
  go_ret2
  exact ⟨.slice none 0 0, [], by rw [HR.out]; rfl, ItemsOwn.nil _ _, by rw [HR.out]; rfl, Below.refl _ _⟩
set_option maxHeartbeats 1000000 in
theorem refRead04_dot (s : ByteArray) (w : World) (h2 : s.data.toList = [46]) : Calls Try.prog 19 #[.string s] w (RefPost s w) := by
  have h1 : s.size = 1 := by rw [← len_eq, h2]; rfl
  have e0 : ((s.size : Int) == 0) = false := by rw [beq_eq_false_iff_ne]; omega
  have e1 : s.toList = [46] := by rw [Lib.toList_data]; exact h2
  have hrp : readP s.data.toList = .inr [] := by rw [h2]; exact readP_dot
  have HR := Lib.hid hrp
  clear hrp h2
  go_enter Try.func19, Try.ntmps19
  go_wp2_with fail
  go_ret2
  exact ⟨.slice none 0 0, [], by rw [HR.out]; rfl, ItemsOwn.nil _ _, by rw [HR.out]; rfl, Below.refl _ _⟩
/-- the reference's Read -/
theorem refRead04_any (s : ByteArray) (w : World) : Calls Try.prog 19 #[.string s] w (RefPost s w) := by
  by_cases h0 : s.data.toList = []
  · exact refRead04_empty s w h0
  · by_cases h1 : 512 < s.size
    · exact refRead04_long s w h1
    · by_cases h2 : s.data.toList = [46]
      · exact refRead04_dot s w h2
      · exact refRead04_loop s w h0 (by omega) h2
end Go.Proofs.Ytpckcapilhfpcaa
