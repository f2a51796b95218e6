/-
  The law CondReads: its walk.
-/
import Derived.Test.YtpckcapilhfpcaaBothRead
import Derived.Deep.RegionHeld3
namespace Go.Proofs.Ytpckcapilhfpcaa
open Go.RowKit

set_option maxHeartbeats 2000000 in
set_option maxRecDepth 100000 in
theorem condReads_walk (s : ByteArray) (w : World) (_h1 : s.size ≤ 140737488351232) :
    Calls Try.prog 3 #[.string s] w fun e w' => e = .returned (.bool true) ∧ Below w.heap.size w w' := by
  have K0 := condRead_any s w
  unfold ReadPost at K0
  have R0 := fun w' => refRead04_any s w'
  unfold RefPost at R0
  generalize hP : patOf (readP s.data.toList) = P at K0
  have he : ((errOf (readP s.data.toList) : Int) == (errOf (readP s.data.toList) : Int)) = true := beq_self_eq_true _
  have hPp : ((P.length : Int) == (P.length : Int)) = true := beq_self_eq_true _
  generalize errOf (readP s.data.toList) = er at K0 R0 he
  have K1 := fun v w' h => len_any w.heap.size v P w' h
  have HK1 := Lib.hid K1
  clear K1
  have HK0 := Lib.hid K0
  have HR0 := Lib.hid R0
  have HP := Lib.hid hP
  clear K0 R0 hP
  go_enter Try.func3, Try.ntmps3
  go_wp2_with fail
  refine HK0.out.mono ?_
  rintro e w1 ⟨v, rfl, hp, hb⟩
  obtain ⟨a, cap, hv⟩ := hp.form
  subst hv
  have HO := Lib.hid hp
  clear hp
  go_wp2_with fail
  have hbox := heap_alloc_new w1 (.cells #[.slice a P.length cap] 24)
  refine (HR0.out _).mono ?_
  rintro e w2 ⟨v2, Q, rfl, hq, hQ, hb2⟩
  have hPQ := both_pat hQ
  rw [HP.out] at hPQ
  have hok := both_ok hQ
  have hlen := both_len hQ
  rw [HP.out] at hlen
  have hcnt := pat_count s.data.toList
  rw [HP.out] at hcnt
  have HP2 := Lib.hid ((HO.out.alloc _).below hb2)
  have hbx2 := (hb2.block _ (lt_box _ _)).trans hbox
  have hl2 := (Array.getElem?_eq_some_iff.1 hbx2).1
  have HX2 := Lib.hid hbx2
  obtain ⟨a2, cap2, hv2⟩ := hq.form
  rw [hlen] at hv2
  subst hv2
  have HQ2 := Lib.hid hq
  have HPQ := Lib.hid hPQ
  have HOK := Lib.hid hok
  have HLN := Lib.hid hlen
  clear hbx2 hbox hq hQ hPQ hok hlen
  go_wp2_with fail
  refine (wakes04_any _).mono ?_
  rintro e w3 ⟨rfl, hb3⟩
  have HP3 := Lib.hid (HP2.out.below hb3)
  have HQ3 := Lib.hid (HQ2.out.below hb3)
  have hl3 := Nat.lt_of_lt_of_le hl2 hb3.size
  have hbx3 := (hb3.block _ hl2).trans HX2.out
  have HX3 := Lib.hid hbx3
  have hc3 := box_cell hbx3
  clear hbx3
  go_wp2_with fail
  refine (HK1.out _ _ HP3.out).mono ?_
  rintro e w4 ⟨rfl, hb4⟩
  have HP4 := Lib.hid (HP3.out.below hb4)
  have HQ4 := Lib.hid (HQ3.out.below hb4)
  have hl4 := Nat.lt_of_lt_of_le hl3 hb4.size
  have hbx4 := (hb4.block _ hl3).trans HX3.out
  have HX4 := Lib.hid hbx4
  clear hbx4 hc3
  have hb04 : Below w.heap.size w w4 := below_next (below_next (below_next (below_box hb _) hb2) hb3) hb4
  have HB4 := Lib.hid hb04
  clear hb04 hb hb2 hb3 hb4
  go_wp2_with fail
  obtain ⟨bx, hbx⟩ : ∃ bx : Nat, bx = w1.heap.size := ⟨_, rfl⟩
  rw [← hbx] at HX4 hl4
  rw [← hbx]
  have HBX := Lib.hid hbx
  clear hbx
  go_loopw [33] (fun i wr => ∃ k : Nat, k ≤ 256 ∧ i = .int .i64 k ∧ Below w4.heap.size w4 wr) (fun i _ => 256 - (intOf i).toNat)
  case atStart => exact ⟨0, by omega, rfl, Below.refl _ _⟩
  case round =>
    obtain ⟨k, hk, rfl, hbw⟩ := hrel
    by_cases hlt : k < 256
    · have d1 : decide ((k : Int) < 256) = true := decide_eq_true (by omega)
      have d2 : decide (k < 256) = true := decide_eq_true hlt
      go_wp2_with fail
      go_loopw [38] (fun i wr => ∃ j : Nat, j ≤ P.length ∧ i = .int .i64 j ∧ Below w4.heap.size w4 wr) (fun i _ => P.length - (intOf i).toNat)
      case atStart => exact ⟨0, by omega, rfl, hbw⟩
      case round =>
        obtain ⟨j, hj, rfl, hbr⟩ := hrel
        by_cases hjl : j < P.length
        · have d3 : decide ((j : Int) < (P.length : Int)) = true := decide_eq_true (by omega)
          have d4 : decide (j < P.length) = true := decide_eq_true hjl
          obtain ⟨f, hf⟩ : ∃ f, P[j]? = some f := ⟨_, List.getElem?_eq_getElem hjl⟩
          have hlen := HLN.out
          obtain ⟨g, cap', hv⟩ := HQ4.out.somewhere (by rintro rfl; simp at hlen; omega)
          injection hv with hv1 hv2 hv3
          clear hv2
          subst hv1 hv3
          obtain ⟨t, ht⟩ : ∃ t, Q[j]? = some t := ⟨_, List.getElem?_eq_getElem (by omega)⟩
          have hft : f = clsOf t.data.toList := by
            have h1 := clsOfQ_at ht
            rw [HPQ.out, hf] at h1
            exact Option.some.inj h1
          have hok := HOK.out t (List.mem_of_getElem? ht)
          have h8 := ofNat_nat hlt
          have cells := fun (w'' : World) (h : Below w4.heap.size w4 w'') => And.intro (box_cell ((h.block _ hl4).trans HX4.out)) ((HQ4.out.below h).cell ht)
          obtain ⟨bv, hbv⟩ : ∃ bv, bv = f (UInt8.ofNat k) := ⟨_, rfl⟩
          have hbb : (bv == bv) = true := beq_self_eq_true _
          have K22 := fun w' (h : Below w4.heap.size w4 w') => (admits_in w.heap.size (.slice a P.length cap) P j f (UInt8.ofNat k) w' (HP4.out.below h) hf).mono
            (fun e w'' (hh : e = .returned (.bool (f (UInt8.ofNat k))) ∧ Below w'.heap.size w' w'') => show e = .returned (.bool (f (UInt8.ofNat k))) ∧ Below w4.heap.size w4 w'' ∧ _ from ⟨hh.1, below_next h hh.2, cells w'' (below_next h hh.2)⟩)
          have K23 := fun w' (h : Below w4.heap.size w4 w') => (refAdmits_any t (UInt8.ofNat k) w' hok.2 hok.1).mono
            (fun e w'' (hh : e = .returned (.bool (clsOf t.data.toList (UInt8.ofNat k))) ∧ Below w'.heap.size w' w'') => show e = .returned (.bool (clsOf t.data.toList (UInt8.ofNat k))) ∧ Below w4.heap.size w4 w'' ∧ _ from ⟨hh.1, below_next h hh.2, cells w'' (below_next h hh.2)⟩)
          rw [← hft] at K23
          have hwr : ((UInt8.ofNat k).toNat : Int) = IntKind.u8.wrap (k : Int) := by rw [h8]; simp [IntKind.wrap, IntKind.bits, IntKind.signed]; omega
          rw [← hbv, hwr] at K22 K23
          clear hwr
          have HK22 := Lib.hid K22
          have HK23 := Lib.hid K23
          obtain ⟨c1, c2⟩ := cells wr hbr
          have hbd : Below w4.heap.size w4 wr.drew := hbr.drew
          clear K22 K23 cells hok hft hbv hf ht hlen h8
          go_wp2_with fail
          go_region_held3 (fun w' => w'.cell? ⟨bx, 0, none⟩ = some (.slice a P.length cap) ∧ w'.cell? ⟨g, j, none⟩ = some (.string t) ∧ Below w4.heap.size w4 w') (go_keep)
            (first
              | (go_at_call 22; with_reducible refine (HK22.out _ ?_).mono ?_; with_reducible assumption; rintro e w' ⟨rfl, hbk, hk1, hk2⟩)
              | (go_at_call 23; with_reducible refine (HK23.out _ ?_).mono ?_; with_reducible assumption; rintro e w' ⟨rfl, hbk, hk1, hk2⟩))
          go_wp2_with fail
          go_roundw
          case rel => exact ⟨j + 1, by omega, by go_num, by assumption⟩
          case measure => simp [intOf]; omega
        · have e : j = P.length := by omega
          subst e
          have c1 := box_cell ((hbr.block _ hl4).trans HX4.out)
          have h8 := ofNat_nat hlt
          have K1 := fun w' h => admits_neg w.heap.size (.slice a P.length cap) P (-1) (UInt8.ofNat k) w' h (by omega)
          have K2 := fun w' h => admits_out w.heap.size (.slice a P.length cap) P P.length (UInt8.ofNat k) w' h (by omega)
          rw [h8] at K1 K2
          have HK1 := Lib.hid K1
          have HK2 := Lib.hid K2
          clear K1 K2 h8
          go_wp2_with fail
          refine (HK1.out _ (HP4.out.below hbr)).mono ?_
          rintro e w5 ⟨rfl, hb5⟩
          have hbr5 := below_next hbr hb5
          have c5 := box_cell ((hbr5.block _ hl4).trans HX4.out)
          clear c1
          go_wp2_with fail
          refine (HK2.out _ (HP4.out.below hbr5)).mono ?_
          rintro e w6 ⟨rfl, hb6⟩
          have hbr6 := below_next hbr5 hb6
          go_wp2_with fail
          go_roundw
          case rel => exact ⟨k + 1, by omega, by go_num, hbr6⟩
          case measure => simp [intOf]; omega
    · have e : k = 256 := by omega
      subst e
      go_wp2_with fail
      go_ret
      exact ⟨rfl, below_next HB4.out hbw⟩
end Go.Proofs.Ytpckcapilhfpcaa
