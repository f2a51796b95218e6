/-
  The law CondShows: its walk.
-/
import Derived.Test.YtpckcapilhfpcaaRefShown
namespace Go.Proofs.Ytpckcapilhfpcaa
open Go.RowKit

set_option maxHeartbeats 2000000 in
set_option maxRecDepth 100000 in
theorem condShows_walk (s : ByteArray) (w : World) (_h1 : s.size ≤ 140737488351232) :
    Calls Try.prog 8 #[.string s] w fun e w' => e = .returned (.bool true) ∧ Below w.heap.size w w' := by
  have K0 := condRead_any s w
  unfold ReadPost at K0
  have R0 := fun w' => refRead04_any s w'
  unfold RefPost at R0
  have hsm := read_some s.data.toList
  have hcnt := pat_count s.data.toList
  have hsl := showP_len (s := s.data.toList)
  obtain ⟨P, hP⟩ : ∃ P, patOf (readP s.data.toList) = P := ⟨_, rfl⟩
  obtain ⟨er, her⟩ : ∃ er, errOf (readP s.data.toList) = er := ⟨_, rfl⟩
  obtain ⟨T, hT⟩ : ∃ T, showP P = T := ⟨_, rfl⟩
  rw [hP, her] at K0
  rw [her] at R0
  rw [hP] at hsm hcnt
  rw [hP, her, hT, len_eq] at hsl
  have hTl : er ≠ 0 ∨ T.length ≤ s.size := by
    by_cases e : er = 0
    · exact .inr (hsl e)
    · exact .inl e
  have HK0 := Caged.mk K0
  have HR0 := Caged.mk R0
  have HP := Caged.mk hP
  have HT := Caged.mk hT
  have HSM := Caged.mk hsm
  clear K0 R0 hP hT hsm her hsl
  go_enter Try.func8, Try.ntmps8
  go_wp2_with fail
  refine HK0.out.mono ?_
  rintro e w1 ⟨v, rfl, hp, hb⟩
  obtain ⟨a, cap, hv⟩ := hp.form
  subst hv
  have HO := Caged.mk hp
  clear hp
  go_wp2_with fail
  have hbox := heap_alloc_new w1 (.cells #[.slice a P.length cap] 24)
  refine (HR0.out _).mono ?_
  rintro e w2 ⟨v2, Q, rfl, hq, hQ, hb2⟩
  have hPQ := both_pat hQ
  rw [HP.out] at hPQ
  have hok := both_ok hQ
  have hp2 := both_piece2 hQ
  have hlen := both_len hQ
  rw [HP.out] at hlen
  have S1 := fun v w' h => refShow_text (w1.alloc (.cells #[.slice a P.length cap] 24)).heap.size v Q T ⟨by rw [hPQ]; exact HT.out⟩ w' h hok hp2 (by omega)
  have HS1 := Caged.mk S1
  clear S1 hPQ hok hp2 hQ hlen
  have HP2 := Caged.mk ((HO.out.alloc _).below hb2)
  have hbx2 := (hb2.block _ (lt_box _ _)).trans hbox
  have hl2 := (Array.getElem?_eq_some_iff.1 hbx2).1
  have hc2 := box_cell hbx2
  obtain ⟨a2, cap2, hv2⟩ := hq.form
  subst hv2
  have HQ2 := Caged.mk hq
  have hbw2 : Below w.heap.size w w2 := below_next (below_box hb _) hb2
  clear hbx2 hbox hq
  go_wp2_with fail
  refine (showAll_text _ _ P T HT _ HP2.out HSM.out (by omega)).mono ?_
  rintro e w3 ⟨rfl, hb3⟩
  have HQ3 := Caged.mk (HQ2.out.below hb3)
  have hbw3 := below_next hbw2 hb3
  clear hc2
  go_wp2_with fail
  refine (wakes04_any _).mono ?_
  rintro e w4 ⟨rfl, hb4⟩
  have HQ4 := Caged.mk (HQ3.out.below hb4)
  have hbw4 := below_next hbw3 hb4
  go_wp2_with fail
  refine (HS1.out _ _ HQ4.out).mono ?_
  rintro e w5 ⟨rfl, hb5⟩
  have hbw5 := below_next hbw4 hb5
  rcases hTl with he | hle
  · have g1 : ((er : Int) == 0) = false := by rw [beq_eq_false_iff_ne]; omega
    have g2 : ((er : Int) != 0) = true := by rw [bne_iff_ne]; omega
    clear he
    go_wp2_with fail
    go_ret
    exact ⟨rfl, hbw5⟩
  · by_cases he : er = 0
    · have g1 : ((er : Int) == 0) = true := by rw [beq_iff_eq]; omega
      have g2 : ((er : Int) != 0) = false := by rw [bne_eq_false_iff_eq]; omega
      clear he
      go_wp2_with fail
      go_ret
      exact ⟨rfl, hbw5⟩
    · have g1 : ((er : Int) == 0) = false := by rw [beq_eq_false_iff_ne]; omega
      have g2 : ((er : Int) != 0) = true := by rw [bne_iff_ne]; omega
      clear he
      go_wp2_with fail
      go_ret
      exact ⟨rfl, hbw5⟩
end Go.Proofs.Ytpckcapilhfpcaa
