/-
  The law CondMatches: its walk.
-/
import Derived.Test.YtpckcapilhfpcaaBothRead
namespace Go.Proofs.Ytpckcapilhfpcaa
open Go.RowKit

set_option maxHeartbeats 2000000 in
theorem condMatches_walk (s t : ByteArray) (w : World) (_h1 : s.size ≤ 140737488351232) (h2 : t.size ≤ 140737488351232) :
    Calls Try.prog 4 #[.string s, .string t] w fun e w' => e = .returned (.bool true) ∧ Below w.heap.size w w' := by
  have K0 := condRead_any s w
  unfold ReadPost at K0
  have R0 := fun w' => refRead04_any s w'
  unfold RefPost at R0
  generalize hP : patOf (readP s.data.toList) = P at K0
  generalize errOf (readP s.data.toList) = er at K0 R0
  have hPl : P.length ≤ 16 := by rw [← hP]; exact pat_count _
  have K1 := fun v w' h => starts_any w.heap.size v P t w' h h2 (by omega)
  have K2 := fun v w' h => ends_any w.heap.size v P t w' h h2 (by omega)
  generalize hb1 : startsL P t.data.toList = b1 at K1
  generalize hb2 : endsL P t.data.toList = b2 at K2
  have f1 : (b1 == b1) = true := beq_self_eq_true _
  have f2 : (b2 == b2) = true := beq_self_eq_true _
  have HK0 := Lib.hid K0
  have HR0 := Lib.hid R0
  have HK1 := Lib.hid K1
  have HK2 := Lib.hid K2
  have HP := Lib.hid hP
  have HB1 := Lib.hid hb1
  have HB2 := Lib.hid hb2
  clear K0 R0 K1 K2 hP hb1 hb2 hPl
  go_enter Try.func4, Try.ntmps4
  go_wp2_with fail
  refine HK0.out.mono ?_
  rintro e w1 ⟨v, rfl, hp, hb⟩
  obtain ⟨a, cap, hv⟩ := hp.form
  subst hv
  have HO := Lib.hid hp
  clear hp
  go_wp2_with fail
  have hbox := heap_alloc_new w1 (.cells #[.slice a P.length cap] 24)
  refine (HR0.out _).mono ?_
  rintro e w2 ⟨v2, Q, rfl, hq, hQ, hb2⟩
  have hPQ := both_pat hQ
  rw [HP.out] at hPQ
  have hok := both_ok hQ
  have hlen := both_len hQ
  rw [HP.out] at hlen
  have hcnt := pat_count s.data.toList
  rw [HP.out] at hcnt
  have S1 := fun v w' h => refStarts_any (w1.alloc (.cells #[.slice a P.length cap] 24)).heap.size v Q t w' h hok h2 (by omega)
  have S2 := fun v w' h => refEnds_any (w1.alloc (.cells #[.slice a P.length cap] 24)).heap.size v Q t w' h hok h2 (by omega)
  rw [hPQ, HB1.out] at S1
  rw [hPQ, HB2.out] at S2
  have HS1 := Lib.hid S1
  have HS2 := Lib.hid S2
  clear S1 S2 hPQ hok hcnt hQ hlen
  have HP2 := Lib.hid ((HO.out.alloc _).below hb2)
  have hbx2 := (hb2.block _ (lt_box _ _)).trans hbox
  have hl2 := (Array.getElem?_eq_some_iff.1 hbx2).1
  have HX2 := Lib.hid hbx2
  obtain ⟨a2, cap2, hv2⟩ := hq.form
  subst hv2
  have HQ2 := Lib.hid hq
  clear hbx2 hbox hq
  go_wp2_with fail
  refine (wakes04_any _).mono ?_
  rintro e w3 ⟨rfl, hb3⟩
  have HP3 := Lib.hid (HP2.out.below hb3)
  have HQ3 := Lib.hid (HQ2.out.below hb3)
  have hl3 := Nat.lt_of_lt_of_le hl2 hb3.size
  have hbx3 := (hb3.block _ hl2).trans HX2.out
  have HX3 := Lib.hid hbx3
  have hc3 := box_cell hbx3
  clear hbx3
  go_wp2_with fail
  refine (HK1.out _ _ HP3.out).mono ?_
  rintro e w4 ⟨rfl, hb4⟩
  have HP4 := Lib.hid (HP3.out.below hb4)
  have HQ4 := Lib.hid (HQ3.out.below hb4)
  have hl4 := Nat.lt_of_lt_of_le hl3 hb4.size
  have hbx4 := (hb4.block _ hl3).trans HX3.out
  have HX4 := Lib.hid hbx4
  clear hbx4 hc3
  go_wp2_with fail
  refine (HS1.out _ _ HQ4.out).mono ?_
  rintro e w5 ⟨rfl, hb5⟩
  have HP5 := Lib.hid (HP4.out.below hb5)
  have HQ5 := Lib.hid (HQ4.out.below hb5)
  have hbx5 := (hb5.block _ hl4).trans HX4.out
  have hc5 := box_cell hbx5
  clear hbx5
  go_wp2_with fail
  refine (HK2.out _ _ HP5.out).mono ?_
  rintro e w6 ⟨rfl, hb6⟩
  have HQ6 := Lib.hid (HQ5.out.below hb6)
  clear hc5
  go_wp2_with fail
  refine (HS2.out _ _ HQ6.out).mono ?_
  rintro e w7 ⟨rfl, hb7⟩
  go_wp2_with fail
  go_ret
  exact ⟨rfl, below_next (below_next (below_next (below_next (below_next (below_next (below_box hb _) hb2) hb3) hb4) hb5) hb6) hb7⟩
end Go.Proofs.Ytpckcapilhfpcaa
