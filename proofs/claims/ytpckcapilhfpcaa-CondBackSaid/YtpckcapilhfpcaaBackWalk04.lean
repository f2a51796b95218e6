/-
  The law CondBack: its walk.
-/
import Derived.Test.YtpckcapilhfpcaaRefShown
import Derived.Test.YtpckcapilhfpcaaRegionS
import Derived.Test.YtpckcapilhfpcaaEqual
namespace Go.Proofs.Ytpckcapilhfpcaa
open Go.RowKit

theorem eq_shown {s t : List UInt8} : (showP (patOf (readP s)) == showP (patOf (readP t))) = eqB (patOf (readP s)) (patOf (readP t)) := by
  by_cases h : patOf (readP s) = patOf (readP t)
  · rw [h, eqB_true rfl]
    exact beq_self_eq_true _
  · rw [eqB_false h]
    exact beq_eq_false_iff_ne.2 fun e => h (show_inj e)
/-- a contract on one base world -/
theorem on_base {W : World} {F : World → Prop} {n : Nat} {args : Array Value} {r : Ending} (cells : ∀ w'', Below W.heap.size W w'' → F w'') {w' : World} (h : Below W.heap.size W w')
    (K : Calls Try.prog n args w' fun e w'' => e = r ∧ Below w'.heap.size w' w'') : Calls Try.prog n args w' fun e w'' => e = r ∧ Below W.heap.size W w'' ∧ F w'' :=
  K.mono fun _ w'' hh => ⟨hh.1, below_next h hh.2, cells w'' (below_next h hh.2)⟩

set_option maxHeartbeats 4000000 in
set_option maxRecDepth 100000 in
theorem condBack_walk (s t : ByteArray) (w : World) (_h1 : s.size ≤ 140737488351232) (_h2 : t.size ≤ 140737488351232) :
    Calls Try.prog 10 #[.string s, .string t] w fun e w' => e = .returned (.bool true) ∧ Below w.heap.size w w' := by
  have K0 := fun w' => condRead_any s w'
  unfold ReadPost at K0
  have L0 := fun w' => condRead_any t w'
  unfold ReadPost at L0
  have hsm := read_some s.data.toList
  have hsm2 := read_some t.data.toList
  have hPl := pat_count s.data.toList
  have hQl := pat_count t.data.toList
  have hinj := eq_shown (s := s.data.toList) (t := t.data.toList)
  have hback := show_back (s := s.data.toList)
  have R0 := fun w' => condRead_any ⟨(showP (patOf (readP s.data.toList))).toArray⟩ w'
  unfold ReadPost at R0
  simp only at R0
  rw [hback.1, hback.2] at R0
  clear hback
  generalize patOf (readP s.data.toList) = P at K0 hPl hsm hinj R0
  generalize patOf (readP t.data.toList) = Q at L0 hQl hsm2 hinj
  generalize errOf (readP s.data.toList) = er at K0
  generalize errOf (readP t.data.toList) = er2 at L0
  have S1 := fun B v w' h => showAll_any B v P w' h hsm (by omega)
  have S2 := fun B v w' h => showAll_any B v Q w' h hsm2 (by omega)
  unfold ShowPost at S1 S2
  generalize showP P = T1 at S1 R0 hinj
  generalize showP Q = T2 at S2 hinj
  have hA : ((⟨T1.toArray⟩ : ByteArray).toList == (⟨T2.toArray⟩ : ByteArray).toList) = eqB P Q := by
    rw [Lib.toList_data, Lib.toList_data, mk_list, mk_list]
    exact hinj
  generalize (⟨T1.toArray⟩ : ByteArray) = A1 at S1 R0 hA
  generalize (⟨T2.toArray⟩ : ByteArray) = A2 at S2 hA
  have E1 := fun B1 B2 v1 v2 w' h h' => equal_any B1 B2 v1 v2 P Q w' h h' (by omega)
  have E2 := fun B1 B2 v1 v2 w' h h' => equal_any B1 B2 v1 v2 P P w' h h' (by omega)
  rw [eqB_true rfl] at E2
  generalize eqB P Q = c at E1 hA
  have f1 : (c == c) = true := beq_self_eq_true _
  have HK0 := Caged.mk K0
  have HL0 := Caged.mk L0
  have HR0 := Caged.mk R0
  have HS1 := Caged.mk S1
  have HS2 := Caged.mk S2
  have HE1 := Caged.mk E1
  have HE2 := Caged.mk E2
  clear K0 L0 R0 S1 S2 E1 E2 hinj hsm hsm2
  go_enter Try.func10, Try.ntmps10
  go_wp2_with fail
  refine (wakes04_any _).mono ?_
  rintro e w0 ⟨rfl, hb0⟩
  go_wp2_with fail
  refine (HK0.out _).mono ?_
  rintro e w1 ⟨v, rfl, hp, hb⟩
  obtain ⟨a, cap, hv⟩ := hp.form
  subst hv
  have HO := Caged.mk hp
  clear hp
  go_wp2_with fail
  have hbox := heap_alloc_new w1 (.cells #[.slice a P.length cap] 24)
  refine (HL0.out _).mono ?_
  rintro e w2 ⟨v2, rfl, hq, hb2⟩
  obtain ⟨a2, cap2, hv2⟩ := hq.form
  subst hv2
  have hbx2 := (hb2.block _ (lt_box _ _)).trans hbox
  have lx2 := (Array.getElem?_eq_some_iff.1 hbx2).1
  have cx2 := box_cell hbx2
  obtain ⟨W, hW⟩ : ∃ W, W = w2.alloc (.cells #[.slice a2 Q.length cap2] 24) := ⟨_, rfl⟩
  have hbW : Below w.heap.size w W := by rw [hW]; exact below_box (below_next (below_box (below_next hb0 hb) _) hb2) _
  have hx : W.heap[w1.heap.size]? = some (.cells #[.slice a P.length cap] 24 (0, 0)) := by rw [hW, Below.heap_alloc _ _ _ lx2]; exact hbx2
  have hy : W.heap[w2.heap.size]? = some (.cells #[.slice a2 Q.length cap2] 24 (0, 0)) := by rw [hW]; exact heap_alloc_new w2 _
  have PW : PatOwn 0 (.slice a P.length cap) P W := by rw [hW]; exact (((HO.out.alloc _).below hb2).alloc _).less (Nat.zero_le _)
  have QW : PatOwn 0 (.slice a2 Q.length cap2) Q W := by rw [hW]; exact (hq.alloc _).less (Nat.zero_le _)
  have cells := fun (w'' : World) (h : Below W.heap.size W w'') => And.intro (box_cell ((h.block _ (Array.getElem?_eq_some_iff.1 hx).1).trans hx)) (box_cell ((h.block _ (Array.getElem?_eq_some_iff.1 hy).1).trans hy))
  have B1 := fun w' h => on_base cells h (HS1.out _ _ w' (PW.below h))
  have B2 := fun w' h => on_base cells h (HS2.out _ _ w' (QW.below h))
  have B3 := fun w' h => on_base cells h (HE1.out _ _ _ _ w' (PW.below h) (QW.below h))
  have HB1 := Caged.mk B1
  have HB2 := Caged.mk B2
  have HB3 := Caged.mk B3
  have HC := Caged.mk cells
  have HX := Caged.mk hx
  have HPW := Caged.mk PW
  have HW := Caged.mk hW
  have hbd : Below W.heap.size W W.drew := (Below.refl _ _).drew
  clear hW B1 B2 B3 cells hx hy PW QW hb0 hb hb2 hbx2 hbox hq
  go_wp2_with fail
  rw [← HW.out]
  clear cx2 lx2
  refine wp_region_S (fun w' => Below W.heap.size W w' ∧ w'.cell? ⟨w1.heap.size, 0, none⟩ = some (.slice a P.length cap) ∧ w'.cell? ⟨w2.heap.size, 0, none⟩ = some (.slice a2 Q.length cap2)) (by kernel_rfl) (by kernel_rfl) ?_ ?_
  · exact ⟨hbd, HC.out _ hbd⟩
  repeat
    first
      | (apply wpS_off; · rfl)
      | (apply wpS_on
         · rfl
         · intro w' hS
           obtain ⟨hb, h1, h2⟩ := hS
           go_simp
           first
             | with_reducible exact runs_value ⟨hb, h1, h2⟩
             | with_reducible exact runs_call (HB1.out _ hb)
             | with_reducible exact runs_call (HB2.out _ hb)
             | with_reducible exact runs_call (HB3.out _ hb))
    simp only [Act.put, List.setIfInBounds_toArray, List.set_cons_zero, List.set_cons_succ]
  refine wpS_end fun W9 hS9 => ?_
  obtain ⟨hb9, k91, k92⟩ := hS9
  clear hA hbd
  by_cases he : er = 0
  · by_cases he2 : er2 = 0
    · have g1 : ((er : Int) == 0) = true := by rw [beq_iff_eq]; omega
      have g2 : ((er : Int) != 0) = false := by rw [bne_eq_false_iff_eq]; omega
      have g3 : ((er2 : Int) == 0) = true := by rw [beq_iff_eq]; omega
      have g4 : ((er2 : Int) != 0) = false := by rw [bne_eq_false_iff_eq]; omega
      clear he he2
      go_wp2_with fail
      refine (HB1.out _ hb9).mono ?_
      rintro e w3 ⟨rfl, hb3, j1, j2⟩
      go_wp2_with fail
      refine (HR0.out _).mono ?_
      rintro e w4 ⟨v4, rfl, hr, hb4⟩
      obtain ⟨a4, cap4, hv4⟩ := hr.form
      subst hv4
      have hb4W := below_next hb3 hb4
      have hx4 := (hb4W.block _ (Array.getElem?_eq_some_iff.1 HX.out).1).trans HX.out
      have lx4 := (Array.getElem?_eq_some_iff.1 hx4).1
      obtain ⟨V, hV⟩ : ∃ V, V = w4.alloc (.cells #[.slice a4 P.length cap4] 24) := ⟨_, rfl⟩
      have hbV : Below W.heap.size W V := by rw [hV]; exact below_box hb4W _
      have hxV : V.heap[w1.heap.size]? = some (.cells #[.slice a P.length cap] 24 (0, 0)) := by rw [hV, Below.heap_alloc _ _ _ lx4]; exact hx4
      have hzV : V.heap[w4.heap.size]? = some (.cells #[.slice a4 P.length cap4] 24 (0, 0)) := by rw [hV]; exact heap_alloc_new w4 _
      have PV : PatOwn 0 (.slice a P.length cap) P V := HPW.out.below hbV
      have ZV : PatOwn 0 (.slice a4 P.length cap4) P V := by rw [hV]; exact (hr.alloc _).less (Nat.zero_le _)
      have cells2 := fun (w'' : World) (h : Below V.heap.size V w'') => And.intro (box_cell ((h.block _ (Array.getElem?_eq_some_iff.1 hxV).1).trans hxV)) (box_cell ((h.block _ (Array.getElem?_eq_some_iff.1 hzV).1).trans hzV))
      have D1 := fun w' h => on_base cells2 h (HS1.out _ _ w' (PV.below h))
      have D2 := fun w' h => on_base cells2 h (HS1.out _ _ w' (ZV.below h))
      have D3 := fun w' h => on_base cells2 h (HE2.out _ _ _ _ w' (ZV.below h) (PV.below h))
      have HD1 := Caged.mk D1
      have HD2 := Caged.mk D2
      have HD3 := Caged.mk D3
      have HC2 := Caged.mk cells2
      have HV := Caged.mk hV
      have hbd2 : Below V.heap.size V V.drew := (Below.refl _ _).drew
      have hbVw := below_next hbW hbV
      clear hV D1 D2 D3 cells2 hxV hzV PV ZV hb4 hb4W hx4 lx4 hr hb3 j1 j2 hb9 k91 k92
      go_wp2_with fail
      rw [← HV.out]
      refine wp_region_S (fun w' => Below V.heap.size V w' ∧ w'.cell? ⟨w1.heap.size, 0, none⟩ = some (.slice a P.length cap) ∧ w'.cell? ⟨w4.heap.size, 0, none⟩ = some (.slice a4 P.length cap4)) (by kernel_rfl) (by kernel_rfl) ?_ ?_
      · exact ⟨hbd2, HC2.out _ hbd2⟩
      repeat
        first
          | (apply wpS_off; · rfl)
          | (apply wpS_on
             · rfl
             · intro w' hS
               obtain ⟨hb, h1, h2⟩ := hS
               go_simp
               first
                 | with_reducible exact runs_value ⟨hb, h1, h2⟩
                 | with_reducible exact runs_call (HD1.out _ hb)
                 | with_reducible exact runs_call (HD2.out _ hb)
                 | with_reducible exact runs_call (HD3.out _ hb))
        simp only [Act.put, List.setIfInBounds_toArray, List.set_cons_zero, List.set_cons_succ]
      refine wpS_end fun V9 hV9 => ?_
      obtain ⟨hb9, k91, k92⟩ := hV9
      go_wp2_with fail
      go_ret
      exact ⟨rfl, below_next hbVw hb9⟩
    · have g1 : ((er : Int) == 0) = true := by rw [beq_iff_eq]; omega
      have g2 : ((er : Int) != 0) = false := by rw [bne_eq_false_iff_eq]; omega
      have g3 : ((er2 : Int) == 0) = false := by rw [beq_eq_false_iff_ne]; omega
      have g4 : ((er2 : Int) != 0) = true := by rw [bne_iff_ne]; omega
      clear he he2
      go_wp2_with fail
      go_ret
      exact ⟨rfl, below_next hbW hb9⟩
  · have g1 : ((er : Int) == 0) = false := by rw [beq_eq_false_iff_ne]; omega
    have g2 : ((er : Int) != 0) = true := by rw [bne_iff_ne]; omega
    clear he
    go_wp2_with fail
    go_ret
    exact ⟨rfl, below_next hbW hb9⟩
end Go.Proofs.Ytpckcapilhfpcaa
