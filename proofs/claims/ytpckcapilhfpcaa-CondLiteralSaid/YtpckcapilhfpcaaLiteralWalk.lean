/-
  The law CondLiteral: its walk.
-/
import Derived.Test.YtpckcapilhfpcaaLiteralPlain
namespace Go.Proofs.Ytpckcapilhfpcaa
open Go.RowKit

/-- behind the loop: what the law asks of a text that is read as its own bytes -/
theorem lit_facts (q t : ByteArray) (hp : PlainL q.data.toList) (h0 : q.size ≠ 0) (h16 : q.size ≤ 16) (ht : t.size ≤ 140737488351232) (w : World) :
    ∃ P : List Cls, P.length = q.size ∧
      Calls Try.prog 18 #[.string q] w (fun e w' => ∃ v, e = .returned (.tuple #[.agg #[v], .int .i64 0]) ∧ PatOwn w.heap.size v P w' ∧ Below w.heap.size w w') ∧
      (∀ v w', PatOwn w.heap.size v P w' → Calls Try.prog 21 #[.agg #[v]] w' fun e w'' => e = .returned (.int .i64 q.size) ∧ Below w'.heap.size w' w'') ∧
      (∀ v w', PatOwn w.heap.size v P w' → Calls Try.prog 24 #[.agg #[v], .string (q ++ t)] w' fun e w'' => e = .returned (.bool true) ∧ Below w'.heap.size w' w'') ∧
      (∀ v w', PatOwn w.heap.size v P w' → Calls Try.prog 26 #[.agg #[v], .string (t ++ q)] w' fun e w'' => e = .returned (.bool true) ∧ Below w'.heap.size w' w'') ∧
      (∀ v w', PatOwn w.heap.size v P w' → Calls Try.prog 24 #[.agg #[v], .string t] w' fun e w'' => e = .returned (.bool (decide (q.size ≤ t.size) && (t.data.toList.take q.size == q.data.toList))) ∧ Below w'.heap.size w' w'') ∧
      (∀ v w', PatOwn w.heap.size v P w' → Calls Try.prog 26 #[.agg #[v], .string t] w' fun e w'' => e = .returned (.bool (decide (q.size ≤ t.size) && (t.data.toList.drop (t.size - q.size) == q.data.toList))) ∧ Below w'.heap.size w' w'') := by
  have hne : q.data.toList ≠ [] := by
    intro e
    have := len_eq q
    rw [e] at this
    exact h0 this.symm
  have hl : q.data.toList.length ≤ 16 := by rw [len_eq]; exact h16
  have hP := pat_plain hp hne hl
  have hE := err_plain hp hne hl
  have K := condRead_any q w
  unfold ReadPost at K
  rw [hP, hE] at K
  have hlen : (litP q.data.toList).length = q.size := by rw [litP_len, len_eq]
  have h1 := starts_lit_own q.data.toList t.data.toList hp
  have h2 := ends_lit_own q.data.toList t.data.toList hp
  have h3 := starts_lit q.data.toList t.data.toList hp
  have h4 := ends_lit q.data.toList t.data.toList hp
  rw [← add_list] at h1 h2
  rw [len_eq, len_eq] at h3 h4
  refine ⟨litP q.data.toList, hlen, K, fun v w' h => ?_, fun v w' h => ?_, fun v w' h => ?_, fun v w' h => ?_, fun v w' h => ?_⟩
  · have := len_any w.heap.size v _ w' h
    rw [hlen] at this
    exact this
  · have := starts_any w.heap.size v _ (q ++ t) w' h (by rw [add_size]; omega) (by omega)
    rw [h1] at this
    exact this
  · have := ends_any w.heap.size v _ (t ++ q) w' h (by rw [add_size]; omega) (by omega)
    rw [h2] at this
    exact this
  · have := starts_any w.heap.size v _ t w' h (by omega) (by omega)
    rw [h3] at this
    exact this
  · have := ends_any w.heap.size v _ t w' h (by omega) (by omega)
    rw [h4] at this
    exact this

set_option maxHeartbeats 2000000 in
theorem condLiteral_walk (s t : ByteArray) (w : World) (_h1 : s.size ≤ 140737488351232) (h2 : t.size ≤ 140737488351232) :
    Calls Try.prog 5 #[.string s, .string t] w fun e w' => e = .returned (.bool true) ∧ Below w.heap.size w w' := by
  go_enter Try.func5, Try.ntmps5
  go_wp2_with fail
  refine (wakes04_any _).mono ?_
  rintro e w1 ⟨rfl, hb⟩
  go_wp2_with fail
  go_loop [5, 6] (fun f i => ∃ (k : Nat) (q : ByteArray), k ≤ s.size ∧ i = .int .i64 k ∧ f = .string q ∧ q.size ≤ 16 ∧ PlainL q.data.toList) (fun _ i => s.size - (intOf i).toNat)
  case atStart => exact ⟨0, ⟨#[]⟩, by omega, rfl, rfl, by decide, by intro x hx; simp at hx⟩
  case round =>
    obtain ⟨k, q, hk, rfl, rfl, hqk, hq⟩ := hrel
    have HQ := Lib.hid hq
    clear hq
    by_cases hgo : k < s.size ∧ q.size < 16
    · obtain ⟨hlt, hql⟩ := hgo
      by_cases hx : s[k] ≠ 46 ∧ s[k] ≠ 91
      · have f1 : ((s[k].toNat : Int) != 46) = true := by rw [bne_iff_ne]; intro e; exact hx.1 (UInt8.toNat_inj.1 (by rw [show (46 : UInt8).toNat = 46 from rfl]; omega))
        have f2 : ((s[k].toNat : Int) != 91) = true := by rw [bne_iff_ne]; intro e; exact hx.2 (UInt8.toNat_inj.1 (by rw [show (91 : UInt8).toNat = 91 from rfl]; omega))
        have hq1 : (q ++ s.extract k (k + 1)).data.toList = q.data.toList ++ [s[k]] := by
          rw [add_list, Lib.extract_data, drop_cons s k hlt]
          simp
        have hq2 : (q ++ s.extract k (k + 1)).size ≤ 16 := by
          rw [← len_eq, hq1, List.length_append, len_eq]
          simp
          omega
        have hq3 : PlainL (q ++ s.extract k (k + 1)).data.toList := by
          rw [hq1]
          intro y hy
          rcases List.mem_append.1 hy with h | h
          · exact HQ.out y h
          · rw [List.mem_singleton.1 h]; exact hx
        have H3 := Lib.hid hq3
        clear hq1 hq3 hx
        go_wp2_with fail
        go_round
        case rel => exact ⟨k + 1, _, by omega, by go_num, rfl, hq2, H3.out⟩
        case measure => simp [intOf]; omega
      · by_cases h46 : s[k] = 46
        · have f1 : ((s[k].toNat : Int) != 46) = false := by rw [h46]; rfl
          clear hx h46
          go_wp2_with fail
          go_round
          case rel => exact ⟨k + 1, q, by omega, by go_num, rfl, hqk, HQ.out⟩
          case measure => simp [intOf]; omega
        · have h91 : s[k] = 91 := by
            by_cases h : s[k] = 91
            · exact h
            · exact absurd ⟨h46, h⟩ hx
          have f1 : ((s[k].toNat : Int) != 46) = true := by rw [h91]; rfl
          have f2 : ((s[k].toNat : Int) != 91) = false := by rw [h91]; rfl
          clear hx h46 h91
          go_wp2_with fail
          go_round
          case rel => exact ⟨k + 1, q, by omega, by go_num, rfl, hqk, HQ.out⟩
          case measure => simp [intOf]; omega
    · have hout : (k < s.size ∧ ¬ q.size < 16) ∨ ¬ k < s.size := by
        by_cases h : k < s.size
        · exact .inl ⟨h, fun h2 => hgo ⟨h, h2⟩⟩
        · exact .inr h
      clear hgo
      by_cases h0 : q.size = 0
      · have e0 : q.toList.isEmpty = true := by
          rw [Lib.toList_data]
          have := len_eq q
          rw [h0] at this
          rw [List.eq_nil_of_length_eq_zero this]
          rfl
        rcases hout with ⟨hlt, hql⟩ | hlt
        · omega
        · go_wp2_with fail
          go_ret
          exact ⟨rfl, hb⟩
      · have e0 : q.toList.isEmpty = false := by
          rw [Lib.toList_data]
          cases h : q.data.toList with
          | nil => have := len_eq q; rw [h] at this; simp at this; omega
          | cons x l => rfl
        obtain ⟨P, hPl, K0, K1, K2, K3, K4, K5⟩ := lit_facts q t HQ.out h0 hqk h2 w1
        have fqq : ((q.size : Int) == (q.size : Int)) = true := beq_self_eq_true _
        by_cases hqt : q.size ≤ t.size
        · have d1 : decide (q.size ≤ t.size) = true := decide_eq_true hqt
          have hw : IntKind.i64.wrap ((t.size : Int) - (q.size : Int)) = ((t.size - q.size : Nat) : Int) := by rw [IntWalk.i64_in _ (by omega)]; omega
          have hsub : t.size - q.size ≤ t.size := Nat.sub_le _ _
          obtain ⟨b1, hb1⟩ : ∃ b1, (t.data.toList.take q.size == q.data.toList) = b1 := ⟨_, rfl⟩
          obtain ⟨b2, hb2⟩ : ∃ b2, (t.data.toList.drop (t.size - q.size) == q.data.toList) = b2 := ⟨_, rfl⟩
          rw [d1, hb1, Bool.true_and] at K4
          rw [d1, hb2, Bool.true_and] at K5
          have g1 : ((t.extract 0 q.size).toList == q.toList) = b1 := by
            rw [Lib.toList_data, Lib.toList_data, Lib.extract_data, ← hb1]
            simp
          have g2 : ((t.extract (t.size - q.size) t.size).toList == q.toList) = b2 := by
            rw [Lib.toList_data, Lib.toList_data, drop_data, ← hb2]
          have gb1 : (b1 == b1) = true := beq_self_eq_true _
          have gb2 : (b2 == b2) = true := beq_self_eq_true _
          have HK0 := Lib.hid K0
          have HK1 := Lib.hid K1
          have HK2 := Lib.hid K2
          have HK3 := Lib.hid K3
          have HK4 := Lib.hid K4
          have HK5 := Lib.hid K5
          have HPl := Lib.hid hPl
          clear K0 K1 K2 K3 K4 K5 hPl hb1 hb2
          rcases hout with ⟨hlt, hql⟩ | hlt
          all_goals
            go_wp2_with fail
            refine HK0.out.mono ?_
            rintro e w2 ⟨v, rfl, hp, hb2⟩
            obtain ⟨a, cap, hv⟩ := hp.form
            rw [HPl.out] at hv
            subst hv
            have HP2 := Lib.hid hp
            clear hp
            have hbox := heap_alloc_new w2 (.cells #[.slice a q.size cap] 24)
            go_wp2_with fail
            refine (HK1.out _ _ (HP2.out.alloc _)).mono ?_
            rintro e w3 ⟨rfl, hb3⟩
            have HP3 := Lib.hid ((HP2.out.alloc _).below hb3)
            have hbx3 := (hb3.block _ (lt_box _ _)).trans hbox
            have hc3 := box_cell hbx3
            have hl3 := (Array.getElem?_eq_some_iff.1 hbx3).1
            have HX3 := Lib.hid hbx3
            clear hbx3 hbox
            go_wp2_with fail
            refine (HK2.out _ _ HP3.out).mono ?_
            rintro e w4 ⟨rfl, hb4⟩
            have HP4 := Lib.hid (HP3.out.below hb4)
            have hl4 := Nat.lt_of_lt_of_le hl3 hb4.size
            have hbx4 := (hb4.block _ hl3).trans HX3.out
            have hc4 := box_cell hbx4
            have HX4 := Lib.hid hbx4
            clear hc3 hbx4
            go_wp2_with fail
            refine (HK3.out _ _ HP4.out).mono ?_
            rintro e w5 ⟨rfl, hb5⟩
            have HP5 := Lib.hid (HP4.out.below hb5)
            have hl5 := Nat.lt_of_lt_of_le hl4 hb5.size
            have hbx5 := (hb5.block _ hl4).trans HX4.out
            have hc5 := box_cell hbx5
            have HX5 := Lib.hid hbx5
            clear hc4 hbx5
            go_wp2_with fail
            refine (HK4.out _ _ HP5.out).mono ?_
            rintro e w6 ⟨rfl, hb6⟩
            have HP6 := Lib.hid (HP5.out.below hb6)
            have hbx6 := (hb6.block _ hl5).trans HX5.out
            have hc6 := box_cell hbx6
            clear hc5 hbx6
            go_wp2_with fail
            refine (HK5.out _ _ HP6.out).mono ?_
            rintro e w7 ⟨rfl, hb7⟩
            go_wp2_with fail
            go_ret
            exact ⟨rfl, below_next (below_next (below_next (below_next (below_next (below_box (below_next hb hb2) _) hb3) hb4) hb5) hb6) hb7⟩
        · have d1 : decide (q.size ≤ t.size) = false := decide_eq_false hqt
          rw [d1, Bool.false_and] at K4 K5
          have HK0 := Lib.hid K0
          have HK1 := Lib.hid K1
          have HK2 := Lib.hid K2
          have HK3 := Lib.hid K3
          have HK4 := Lib.hid K4
          have HK5 := Lib.hid K5
          have HPl := Lib.hid hPl
          clear K0 K1 K2 K3 K4 K5 hPl
          rcases hout with ⟨hlt, hql⟩ | hlt
          all_goals
            go_wp2_with fail
            refine HK0.out.mono ?_
            rintro e w2 ⟨v, rfl, hp, hb2⟩
            obtain ⟨a, cap, hv⟩ := hp.form
            rw [HPl.out] at hv
            subst hv
            have HP2 := Lib.hid hp
            clear hp
            have hbox := heap_alloc_new w2 (.cells #[.slice a q.size cap] 24)
            go_wp2_with fail
            refine (HK1.out _ _ (HP2.out.alloc _)).mono ?_
            rintro e w3 ⟨rfl, hb3⟩
            have HP3 := Lib.hid ((HP2.out.alloc _).below hb3)
            have hbx3 := (hb3.block _ (lt_box _ _)).trans hbox
            have hc3 := box_cell hbx3
            have hl3 := (Array.getElem?_eq_some_iff.1 hbx3).1
            have HX3 := Lib.hid hbx3
            clear hbx3 hbox
            go_wp2_with fail
            refine (HK2.out _ _ HP3.out).mono ?_
            rintro e w4 ⟨rfl, hb4⟩
            have HP4 := Lib.hid (HP3.out.below hb4)
            have hl4 := Nat.lt_of_lt_of_le hl3 hb4.size
            have hbx4 := (hb4.block _ hl3).trans HX3.out
            have hc4 := box_cell hbx4
            have HX4 := Lib.hid hbx4
            clear hc3 hbx4
            go_wp2_with fail
            refine (HK3.out _ _ HP4.out).mono ?_
            rintro e w5 ⟨rfl, hb5⟩
            have HP5 := Lib.hid (HP4.out.below hb5)
            have hl5 := Nat.lt_of_lt_of_le hl4 hb5.size
            have hbx5 := (hb5.block _ hl4).trans HX4.out
            have hc5 := box_cell hbx5
            have HX5 := Lib.hid hbx5
            clear hc4 hbx5
            go_wp2_with fail
            refine (HK4.out _ _ HP5.out).mono ?_
            rintro e w6 ⟨rfl, hb6⟩
            have HP6 := Lib.hid (HP5.out.below hb6)
            have hbx6 := (hb6.block _ hl5).trans HX5.out
            have hc6 := box_cell hbx6
            clear hc5 hbx6
            go_wp2_with fail
            refine (HK5.out _ _ HP6.out).mono ?_
            rintro e w7 ⟨rfl, hb7⟩
            go_wp2_with fail
            go_ret
            exact ⟨rfl, below_next (below_next (below_next (below_next (below_next (below_box (below_next hb hb2) _) hb3) hb4) hb5) hb6) hb7⟩
end Go.Proofs.Ytpckcapilhfpcaa
