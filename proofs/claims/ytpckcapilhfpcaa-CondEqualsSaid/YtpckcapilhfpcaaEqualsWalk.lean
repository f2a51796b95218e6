/-
  The law CondEquals: its walk.
-/
import Derived.Test.YtpckcapilhfpcaaRefEqual
namespace Go.Proofs.Ytpckcapilhfpcaa
open Go.RowKit

set_option maxHeartbeats 2000000 in
theorem condEquals_walk (s t : ByteArray) (w : World) (_h1 : s.size ≤ 140737488351232) (_h2 : t.size ≤ 140737488351232) :
    Calls Try.prog 7 #[.string s, .string t] w fun e w' => e = .returned (.bool true) ∧ Below w.heap.size w w' := by
  have K0 := condRead_any s w
  unfold ReadPost at K0
  have L0 := fun w' => condRead_any t w'
  unfold ReadPost at L0
  have R0 := fun w' => refRead04_any s w'
  unfold RefPost at R0
  have M0 := fun w' => refRead04_any t w'
  unfold RefPost at M0
  have hPl := pat_count s.data.toList
  generalize hP : patOf (readP s.data.toList) = P at K0 hPl
  generalize hQ : patOf (readP t.data.toList) = Q at L0
  generalize errOf (readP s.data.toList) = er at K0 R0
  generalize errOf (readP t.data.toList) = er2 at L0 M0
  have K1 := fun B1 B2 v1 v2 w' h h' => equal_any B1 B2 v1 v2 P Q w' h h' (by omega)
  have K2 := fun B1 B2 v1 v2 w' h h' => equal_any B1 B2 v1 v2 P P w' h h' (by omega)
  rw [eqB_true rfl] at K2
  obtain ⟨b1, hb1⟩ : ∃ b1, eqB P Q = b1 := ⟨_, rfl⟩
  rw [hb1] at K1
  have f1 : (b1 == b1) = true := beq_self_eq_true _
  have HK0 := Lib.hid K0
  have HL0 := Lib.hid L0
  have HR0 := Lib.hid R0
  have HM0 := Lib.hid M0
  have HK1 := Lib.hid K1
  have HK2 := Lib.hid K2
  have HP := Lib.hid hP
  have HQ := Lib.hid hQ
  have HB1 := Lib.hid hb1
  have HPL := Lib.hid hPl
  clear K0 L0 R0 M0 K1 K2 hP hQ hb1 hPl
  go_enter Try.func7, Try.ntmps7
  go_wp2_with fail
  refine HK0.out.mono ?_
  rintro e w1 ⟨v, rfl, hp, hb⟩
  obtain ⟨a, cap, hv⟩ := hp.form
  subst hv
  have HO := Lib.hid hp
  clear hp
  go_wp2_with fail
  have hbox := heap_alloc_new w1 (.cells #[.slice a P.length cap] 24)
  refine (HL0.out _).mono ?_
  rintro e w2 ⟨v2, rfl, hq, hb2⟩
  obtain ⟨a2, cap2, hv2⟩ := hq.form
  subst hv2
  have HP2 := Lib.hid ((HO.out.alloc _).below hb2)
  have hbx2 := (hb2.block _ (lt_box _ _)).trans hbox
  have hl2 := (Array.getElem?_eq_some_iff.1 hbx2).1
  have HX2 := Lib.hid hbx2
  have HQ2 := Lib.hid hq
  clear hbx2 hbox hq
  go_wp2_with fail
  have hboy := heap_alloc_new w2 (.cells #[.slice a2 Q.length cap2] 24)
  refine (HR0.out _).mono ?_
  rintro e w3 ⟨v3, A, rfl, hA, hA2, hb3⟩
  obtain ⟨a3, cap3, hv3⟩ := hA.form
  subst hv3
  have HP3 := Lib.hid ((HP2.out.alloc _).below hb3)
  have HQ3 := Lib.hid ((HQ2.out.alloc _).below hb3)
  have hlx3 := Nat.lt_trans hl2 (lt_box w2 (.cells #[.slice a2 Q.length cap2] 24))
  have hbx3 := (hb3.block _ hlx3).trans ((Below.heap_alloc w2 (.cells #[.slice a2 Q.length cap2] 24) _ hl2).trans HX2.out)
  have hby3 := (hb3.block _ (lt_box _ _)).trans hboy
  have lx3 := (Array.getElem?_eq_some_iff.1 hbx3).1
  have ly3 := (Array.getElem?_eq_some_iff.1 hby3).1
  have HX3 := Lib.hid hbx3
  have HY3 := Lib.hid hby3
  have HA3 := Lib.hid hA
  have HAA := Lib.hid hA2
  clear hbx3 hby3 hboy hA hA2 hlx3
  go_wp2_with fail
  refine (HM0.out _).mono ?_
  rintro e w4 ⟨v4, D, rfl, hD, hD2, hb4⟩
  obtain ⟨a4, cap4, hv4⟩ := hD.form
  subst hv4
  have hlen := both_len HAA.out
  rw [HP.out] at hlen
  have hcnt := HPL.out
  have S1 := fun B1 B2 v1 v2 w' h h' => refEqual_any B1 B2 v1 v2 A D w' h h' (both_ok HAA.out) (both_ok hD2) (by omega)
  rw [both_pat HAA.out, both_pat hD2, HP.out, HQ.out, HB1.out] at S1
  have HS1 := Lib.hid S1
  have HP4 := Lib.hid (HP3.out.below hb4)
  have HQ4 := Lib.hid (HQ3.out.below hb4)
  have HA4 := Lib.hid (HA3.out.below hb4)
  have HD4 := Lib.hid hD
  have hbx4 := (hb4.block _ lx3).trans HX3.out
  have hby4 := (hb4.block _ ly3).trans HY3.out
  have lx4 := (Array.getElem?_eq_some_iff.1 hbx4).1
  have ly4 := (Array.getElem?_eq_some_iff.1 hby4).1
  have HX4 := Lib.hid hbx4
  have HY4 := Lib.hid hby4
  clear S1 hbx4 hby4 hD hD2 hlen hcnt
  go_wp2_with fail
  refine (wakes04_any _).mono ?_
  rintro e w5 ⟨rfl, hb5⟩
  have HP5 := Lib.hid (HP4.out.below hb5)
  have HQ5 := Lib.hid (HQ4.out.below hb5)
  have HA5 := Lib.hid (HA4.out.below hb5)
  have HD5 := Lib.hid (HD4.out.below hb5)
  have hbx5 := (hb5.block _ lx4).trans HX4.out
  have hby5 := (hb5.block _ ly4).trans HY4.out
  have lx5 := (Array.getElem?_eq_some_iff.1 hbx5).1
  have c5 := box_cell hbx5
  have d5 := box_cell hby5
  have HX5 := Lib.hid hbx5
  clear hbx5 hby5
  go_wp2_with fail
  refine (HK1.out _ _ _ _ _ HP5.out HQ5.out).mono ?_
  rintro e w6 ⟨rfl, hb6⟩
  have HP6 := Lib.hid (HP5.out.below hb6)
  have HA6 := Lib.hid (HA5.out.below hb6)
  have HD6 := Lib.hid (HD5.out.below hb6)
  have hbx6 := (hb6.block _ lx5).trans HX5.out
  have lx6 := (Array.getElem?_eq_some_iff.1 hbx6).1
  have HX6 := Lib.hid hbx6
  clear hbx6 c5 d5
  go_wp2_with fail
  refine (HS1.out _ _ _ _ _ HA6.out HD6.out).mono ?_
  rintro e w7 ⟨rfl, hb7⟩
  have HP7 := Lib.hid (HP6.out.below hb7)
  have hbx7 := (hb7.block _ lx6).trans HX6.out
  have c7 := box_cell hbx7
  clear hbx7
  go_wp2_with fail
  refine (HK2.out _ _ _ _ _ HP7.out HP7.out).mono ?_
  rintro e w8 ⟨rfl, hb8⟩
  go_wp2_with fail
  go_ret
  exact ⟨rfl, below_next (below_next (below_next (below_next (below_next (below_next (below_box (below_next (below_box hb _) hb2) _) hb3) hb4) hb5) hb6) hb7) hb8⟩
end Go.Proofs.Ytpckcapilhfpcaa
