/-
  The law CondJoins: its walk.
-/
import Derived.Test.YtpckcapilhfpcaaJoinsOwn
import Derived.Test.YtpckcapilhfpcaaOpenTexts
namespace Go.Proofs.Ytpckcapilhfpcaa
open Go.RowKit

def patT (s : ByteArray) : List Cls := patOf (readP s.data.toList)
theorem texts_le (s : List UInt8) : (textsOf (readP s)).length ≤ s.length := by
  cases hr : readP s with
  | inl e => simp [textsOf]
  | inr ps =>
    rcases read_cases hr with hn | ⟨_, _, hfl, _, _, hpc⟩
    · rw [hn]; simp [textsOf]
    · have key : ∀ qs : List (List UInt8), (∀ t ∈ qs, Piece2 t) → qs.length ≤ qs.flatten.length := by
        intro qs
        induction qs with
        | nil => intro _; simp
        | cons t qs ih =>
          intro h
          have h1 := piece_pos (h t (by simp))
          have h2 := ih (fun u hu => h u (List.mem_cons_of_mem _ hu))
          simp only [List.length_cons, List.flatten_cons, List.length_append]
          omega
      have := key ps hpc
      rw [hfl] at this
      exact this
theorem sumT_append : ∀ a b : List ByteArray, sumT (a ++ b) = sumT a + sumT b
  | [], b => by simp [sumT]
  | s :: a, b => by simp only [List.cons_append, sumT, sumT_append a b]; omega
theorem sumT_take (Ts : List ByteArray) (k : Nat) : sumT (Ts.take k) ≤ sumT Ts := by
  conv => rhs; rw [← List.take_append_drop k Ts, sumT_append]
  omega
theorem sumT_len : ∀ Ts : List ByteArray, Ts.length ≤ sumT Ts
  | [] => by simp [sumT]
  | s :: Ts => by have := sumT_len Ts; simp only [List.length_cons, sumT]; omega

theorem join_cases {Ps : List (List Cls)} {Q : List ByteArray} (h : clsOfQ Q = Ps.flatten) : (16 < Q.length ∧ joinErr Ps = 42 ∧ joinPat Ps = []) ∨ (¬ 16 < Q.length ∧ joinErr Ps = 0 ∧ joinPat Ps = clsOfQ Q) := by
  have hl : Ps.flatten.length = Q.length := by rw [← h, clsOfQ_len]
  by_cases hb : 16 < Q.length
  · exact .inl ⟨hb, by rw [joinErr, hl, if_pos hb], by rw [joinPat, hl, if_pos hb]⟩
  · exact .inr ⟨hb, by rw [joinErr, hl, if_neg hb], by rw [joinPat, hl, if_neg hb, h]⟩

set_option maxHeartbeats 8000000 in
set_option maxRecDepth 100000 in
theorem condJoins_walk (a : Option Addr) (cap : Nat) (Ts : List ByteArray) (w : World) (h : TextsIn a Ts w) (hs : sumT Ts ≤ 1048576) :
    Calls Try.prog 9 #[.slice a Ts.length cap] w fun e w' => e = .returned (.bool true) ∧ Below w.heap.size w w' := by
  have hn := sumT_len Ts
  have H := Caged.mk h
  have KR := fun (s : ByteArray) (w : World) => condRead_any s w
  unfold ReadPost at KR
  have KQ := fun (s : ByteArray) (w : World) => refRead04_any s w
  unfold RefPost at KQ
  have HR := Caged.mk KR
  have HQ := Caged.mk KQ
  clear h KR KQ
  go_enter Try.func9, Try.ntmps9
  go_wp2_with fail
  refine (wakes04_any _).mono ?_
  rintro e w0 ⟨rfl, hb0⟩
  go_wp2_with fail
  go_loopw [3, 4, 21] (fun ps want i wr => ∃ (k : Nat) (Q : List ByteArray), k ≤ Ts.length ∧ i = .int .i64 k ∧ PsOwn w.heap.size ps ((Ts.take k).map patT) wr ∧ ItemsOwn w.heap.size want Q wr ∧ clsOfQ Q = ((Ts.take k).map patT).flatten ∧
    Q.length ≤ sumT (Ts.take k) ∧ RefOk Q ∧ (∀ t ∈ Q, Piece2 t.data.toList) ∧ Below w.heap.size w wr) (fun _ _ i _ => Ts.length - (intOf i).toNat)
  case atStart => exact ⟨0, [], Nat.zero_le _, rfl, PsOwn.nil _ _, ItemsOwn.nil _ _, rfl, by simp, fun t ht => (by cases ht), fun t ht => (by cases ht), hb0⟩
  case round =>
    obtain ⟨k, Q, hk, rfl, hps, hit, hcl, hql, hok, hp2, hbw⟩ := hrel
    have hB := hbw.size
    have HPS := Caged.mk hps
    have HIT := Caged.mk hit
    have HCL := Caged.mk hcl
    have HOK := Caged.mk hok
    have HP2 := Caged.mk hp2
    by_cases hlt : k < Ts.length
    · obtain ⟨s, hsk⟩ : ∃ s, Ts[k]? = some s := ⟨_, List.getElem?_eq_getElem hlt⟩
      have ht : Ts.take (k + 1) = Ts.take k ++ [s] := by rw [List.take_add_one, hsk]; rfl
      have hs1 := sumT_take Ts (k + 1)
      rw [ht, sumT_append] at hs1
      simp only [sumT] at hs1
      have htl : ((Ts.take k).map patT).length ≤ 1048576 := by rw [List.length_map, List.length_take]; omega
      obtain ⟨g, off, ha, hat⟩ := (H.out.below hbw) (by intro e; rw [e] at hlt; simp at hlt)
      subst ha
      have c0 := hat k s hsk
      have KR := HR.out s
      have KQ := HQ.out s
      obtain ⟨P, hP⟩ : ∃ P, patOf (readP s.data.toList) = P := ⟨_, rfl⟩
      obtain ⟨L, hL⟩ : ∃ L, textsOf (readP s.data.toList) = L := ⟨_, rfl⟩
      rw [hP] at KR
      rw [hL] at KQ
      generalize errOf (readP s.data.toList) = er at KR KQ
      have HKR := Caged.mk KR
      have HKQ := Caged.mk KQ
      have HP := Caged.mk hP
      have HL := Caged.mk hL
      have HT := Caged.mk ht
      clear hps hit hcl hok hp2 hat hsk ht KR KQ hP hL
      go_wp2_with fail
      refine (HKR.out _).mono ?_
      rintro e w1 ⟨v1, rfl, hp1, hb1⟩
      obtain ⟨a1, cap1, hv1⟩ := hp1.form
      subst hv1
      have HO1 := Caged.mk hp1
      have hbox := heap_alloc_new w1 (.cells #[.slice a1 P.length cap1] 24)
      clear hp1
      go_wp2_with fail
      refine (HKQ.out _).mono ?_
      rintro e w2 ⟨v2, Q2, rfl, hq2, hQ2, hb2⟩
      obtain ⟨a2, cap2, hv2⟩ := hq2.form
      subst hv2
      have hb02 : Below wr.heap.size wr w2 := below_next (below_box hb1 _) hb2
      have hbw2 := below_next hbw hb02
      have hB2 := hbw2.size
      have c7 := box_cell ((hb2.block _ (lt_box _ _)).trans hbox)
      have HPS2 := Caged.mk (HPS.out.below hb02)
      have HIT2 := Caged.mk (HIT.out.below hb02)
      have HO2 := Caged.mk (((HO1.out.alloc (.cells #[.slice a1 P.length cap1] 24)).below hb2).less (Nat.zero_le _))
      have HQ2 := Caged.mk (hq2.less (Nat.zero_le _))
      have HQt := Caged.mk hQ2
      clear hb1 hb2 hb02 hbox hq2 hQ2
      go_wp2_with (at_builtin; refine wpList_append_pattern rfl (.tmp 35) (.tmp 37) rfl w.heap.size _ ((Ts.take k).map patT) _ P a1 cap1 rfl rfl ?ho ?hp ?c1 ?c2 ?_)
      case ho => exact HPS2.out
      case hp => exact HO2.out
      case c1 => omega
      case c2 => exact hB2
      intro v3 w3 hps3 hg3 hb3
      have hbw3 := hbw2.trans hb3
      have hB3 := hbw3.size
      have HIT3 := Caged.mk ((HPS2.out.alloc _).itemsKept (HIT2.out.alloc _) hg3)
      have HQ3 := Caged.mk ((HPS2.out.alloc _).itemsKept (HQ2.out.alloc _) hg3)
      have HPS3 := Caged.mk hps3
      have hq2l : Q2.length ≤ s.size := by
        have e := congrArg List.length HQt.out
        rw [List.length_map, ← HL.out] at e
        have := texts_le s.data.toList
        rw [len_eq] at this
        omega
      clear hps3 hg3 hb3
      go_wp2_with (at_builtin; refine wpList_append_items rfl (.tmp 39) (.tmp 40) rfl w.heap.size 0 _ (.slice a2 Q2.length cap2) Q Q2 _ rfl rfl ?ho2 ?hq ?c3 ?c4 ?_)
      case ho2 => exact HIT3.out
      case hq => exact HQ3.out
      case c3 => omega
      case c4 => exact hB3
      intro v4 w4 hit4 hg4 hb4
      have hbw4 := hbw3.trans hb4
      have HPS4 := Caged.mk (HPS3.out.keptItems HIT3.out hg4)
      have HIT4 := Caged.mk hit4
      clear hit4 hg4 hb4
      go_wp2_with fail
      go_roundw
      case rel =>
        refine ⟨k + 1, Q ++ Q2, by omega, by go_num, ?_, HIT4.out, ?_, ?_, ?_, ?_, hbw4⟩
        · have e : (Ts.take (k + 1)).map patT = (Ts.take k).map patT ++ [P] := by rw [HT.out, List.map_append, ← HP.out]; rfl
          rw [e]
          simpa only [List.map_take] using HPS4.out
        · have e : (Ts.take (k + 1)).map patT = (Ts.take k).map patT ++ [P] := by rw [HT.out, List.map_append, ← HP.out]; rfl
          rw [e, List.flatten_append, ← HCL.out]
          have := both_pat (s := s.data.toList) (Q := Q2) (by rw [HL.out]; exact HQt.out)
          rw [HP.out] at this
          simp only [List.flatten_cons, List.flatten_nil, List.append_nil, ← this, clsOfQ, List.map_append]
        · rw [HT.out, sumT_append, List.length_append]
          simp only [sumT]
          omega
        · intro t ht
          rcases List.mem_append.1 ht with h | h
          · exact HOK.out t h
          · exact both_ok (s := s.data.toList) (Q := Q2) (by rw [HL.out]; exact HQt.out) t h
        · intro t ht
          rcases List.mem_append.1 ht with h | h
          · exact HP2.out t h
          · exact both_piece2 (s := s.data.toList) (Q := Q2) (by rw [HL.out]; exact HQt.out) t h
      case measure => simp [intOf]; omega
    · have htk : Ts.take k = Ts := List.take_of_length_le (by omega)
      rw [htk] at hps hcl hql
      have hjc := join_cases hcl
      obtain ⟨ap, capp, hv, hcase⟩ := hps.form
      rw [List.length_map] at hv
      have KJ : Calls Try.prog 28 #[.slice ap Ts.length capp] wr (JoinPost (Ts.map patT) wr) := by
        rcases hcase with ⟨e, rfl, rfl⟩ | ⟨gp, rfl, hat⟩
        · have e0 : Ts.length = 0 := by
            have := congrArg List.length e
            simpa using this
          rw [e, e0]
          exact join_none wr
        · have := join_any gp capp (Ts.map patT) wr hat (by rw [List.length_map]; omega) (by
            intro R hR
            obtain ⟨t, _, rfl⟩ := List.mem_map.1 hR
            exact pat_count _)
          rw [List.length_map] at this
          exact this
      unfold JoinPost at KJ
      generalize joinErr (Ts.map patT) = je at KJ hjc
      generalize joinPat (Ts.map patT) = JP at KJ hjc
      subst hv
      obtain ⟨aw, capw, hvw⟩ := hit.form
      subst hvw
      have HKJ := Caged.mk KJ
      have HJC := Caged.mk hjc
      have HPSF := Caged.mk hps
      have HCLF := Caged.mk hcl
      have HITF := Caged.mk hit
      clear KJ hjc hps hcl hcase htk hok hp2 HPS HCL HIT hit
      go_wp2_with fail
      refine HKJ.out.mono ?_
      rintro e w5 ⟨v5, rfl, hp5, hb5⟩
      obtain ⟨a5, cap5, hv5⟩ := hp5.form
      subst hv5
      obtain ⟨W, hW⟩ : ∃ W, W = w5.alloc (.cells #[.slice a5 JP.length cap5] 24) := ⟨_, rfl⟩
      have hbW0 : Below wr.heap.size wr W := by rw [hW]; exact below_box hb5 _
      have hbW := below_next hbw hbW0
      have HZ : Caged (W.heap[w5.heap.size]? = some (.cells #[.slice a5 JP.length cap5] 24 (0, 0))) := ⟨by rw [hW]; exact heap_alloc_new w5 _⟩
      have HPZ : Caged (PatOwn 0 (.slice a5 JP.length cap5) JP W) := ⟨by rw [hW]; exact (hp5.alloc _).less (Nat.zero_le _)⟩
      have HPSW := Caged.mk (HPSF.out.below hbW0)
      have HITW := Caged.mk (HITF.out.below hbW0)
      have HWW := Caged.mk hW
      clear hW hp5 hb5 hbW0
      go_wp2_with fail
      rw [← HWW.out]
      go_loopw [50] (fun i wr2 => ∃ k : Nat, k ≤ Ts.length ∧ i = .int .i64 k ∧ Below W.heap.size W wr2) (fun i _ => Ts.length - (intOf i).toNat)
      case atStart => exact ⟨0, Nat.zero_le _, rfl, Below.refl _ _⟩
      case round =>
        obtain ⟨k2, hk2, rfl, hbr⟩ := hrel
        have hbwr := below_next hbW hbr
        by_cases hlt2 : k2 < Ts.length
        · obtain ⟨s, hsk⟩ : ∃ s, Ts[k2]? = some s := ⟨_, List.getElem?_eq_getElem hlt2⟩
          obtain ⟨g, off, ha, hat⟩ := (H.out.below hbwr) (by intro e; rw [e] at hlt2; simp at hlt2)
          subst ha
          have c0 := hat k2 s hsk
          have KQ := HQ.out s
          obtain ⟨P, hP⟩ : ∃ P, patOf (readP s.data.toList) = P := ⟨_, rfl⟩
          obtain ⟨L, hL⟩ : ∃ L, textsOf (readP s.data.toList) = L := ⟨_, rfl⟩
          obtain ⟨T, hT⟩ : ∃ T, showP P = T := ⟨_, rfl⟩
          have hPk : (Ts.map patT)[k2]? = some P := by rw [List.getElem?_map, hsk, ← hP]; rfl
          have hsm := read_some s.data.toList
          have hpc := pat_count s.data.toList
          rw [hP] at hsm hpc
          obtain ⟨ap2, capp2, hv2, hcase2⟩ := HPSW.out.form
          injection hv2 with e1 e2 e3
          subst e1
          obtain ⟨gp, hap, hpat⟩ : ∃ gp, ap = some ⟨gp, 0, none⟩ ∧ PatsAt gp (Ts.map patT) W := by
            rcases hcase2 with ⟨e, _, _⟩ | h
            · have := congrArg List.length e
              simp only [List.length_map, List.length_nil] at this
              omega
            · exact h
          subst hap
          obtain ⟨av, cv, hcv, hpv⟩ := (hpat.below hbr).2 k2 P hPk
          rw [hL] at KQ
          generalize errOf (readP s.data.toList) = er at KQ
          have HKQ := Caged.mk KQ
          have HP := Caged.mk hP
          have HL := Caged.mk hL
          have HT := Caged.mk hT
          have HSM := Caged.mk hsm
          have HPAT := Caged.mk hpat
          have HPK := Caged.mk hPk
          have HPV := Caged.mk hpv
          clear hat hsk KQ hP hL hT hPk hsm e2 e3 hcase2 hpat hpv hcv
          go_wp2_with fail
          refine (HKQ.out _).mono ?_
          rintro e w6 ⟨v6, Q6, rfl, hq6, hQ6, hb6⟩
          obtain ⟨a6, cap6, hv6⟩ := hq6.form
          subst hv6
          have hbr6 := below_next hbr hb6
          obtain ⟨av6, cv6, hcv6, hpv6⟩ := (HPAT.out.below hbr6).2 k2 P HPK.out
          have HPV6 := Caged.mk hpv6
          have HQ6 := Caged.mk hq6
          have HQt := Caged.mk hQ6
          clear hpv6 hq6 hQ6 hb6
          go_wp2_with fail
          refine (showAll_text 0 _ P T HT _ HPV6.out HSM.out (by omega)).mono ?_
          rintro e w7 ⟨rfl, hb7⟩
          have hbr7 := below_next hbr6 hb7
          have HQ7 := Caged.mk (HQ6.out.below hb7)
          have e6 : Q6.map (·.data.toList) = textsOf (readP s.data.toList) := by rw [HL.out]; exact HQt.out
          have hpq := both_pat e6
          rw [HP.out] at hpq
          have hln := both_len e6
          rw [HP.out] at hln
          have KS := fun B w h => refShow_text B (.slice a6 Q6.length cap6) Q6 T ⟨by rw [hpq]; exact HT.out⟩ w h (both_ok e6) (both_piece2 e6) (by omega)
          have HKS := Caged.mk KS
          clear KS e6 hpq hln hb7 hcv6
          go_wp2_with fail
          refine (HKS.out _ _ HQ7.out).mono ?_
          rintro e w8 ⟨rfl, hb8⟩
          have hbr8 := below_next hbr7 hb8
          clear hb8
          go_wp2_with fail
          go_roundw
          case rel => exact ⟨k2 + 1, by omega, by go_num, hbr8⟩
          case measure => simp [intOf]; omega
        · have cz := box_cell ((hbr.block _ (Array.getElem?_eq_some_iff.1 HZ.out).1).trans HZ.out)
          have HPZr := Caged.mk (HPZ.out.below hbr)
          have HITr := Caged.mk (HITW.out.below hbr)
          rcases HJC.out with ⟨h16, hje, hjp⟩ | ⟨h16, hje, hjp⟩
          · have d1 : decide (16 < Q.length) = true := decide_eq_true h16
            have d2 : decide ((16 : Int) < (Q.length : Int)) = true := decide_eq_true (by omega)
            subst hje
            have hjl : JP.length = 0 := by rw [hjp]; rfl
            have t1 : ((JP.length : Int) == 0) = true := by rw [beq_iff_eq]; omega
            have HJ := Caged.mk hjl
            clear hjp hjl
            go_wp2_with fail
            refine (len_any 0 _ JP _ HPZr.out).mono ?_
            rintro e w9 ⟨rfl, hb9⟩
            go_wp2_with fail
            go_ret
            exact ⟨rfl, below_next hbwr hb9⟩
          · have d1 : decide (16 < Q.length) = false := decide_eq_false h16
            have d2 : decide ((16 : Int) < (Q.length : Int)) = false := decide_eq_false (by omega)
            subst hje
            have hjl : JP.length = Q.length := by rw [hjp, clsOfQ_len]
            have t1 : ((JP.length : Int) == (Q.length : Int)) = true := by rw [beq_iff_eq]; omega
            obtain ⟨T, hT⟩ : ∃ T, showP JP = T := ⟨_, rfl⟩
            have hsm : ∀ f ∈ JP, ∃ x, f x = true := by rw [hjp]; exact items_some HP2.out
            have K1 := fun w h => showAll_text 0 (.slice a5 JP.length cap5) JP T ⟨hT⟩ w h hsm (by omega)
            have K2 := fun w h => refShow_text w.heap.size (.slice aw Q.length capw) Q T ⟨by rw [← hjp]; exact hT⟩ w h HOK.out HP2.out (by omega)
            have HS1 := Caged.mk K1
            have HS2 := Caged.mk (fun B w h => refShow_text B (.slice aw Q.length capw) Q T ⟨by rw [← hjp]; exact hT⟩ w h HOK.out HP2.out (by omega))
            have HJ := Caged.mk hjl
            clear hjp hT hsm K1 K2 hjl
            go_wp2_with fail
            refine (len_any 0 _ JP _ HPZr.out).mono ?_
            rintro e w9 ⟨rfl, hb9⟩
            have hbr9 := below_next hbr hb9
            have cz9 := box_cell ((hbr9.block _ (Array.getElem?_eq_some_iff.1 HZ.out).1).trans HZ.out)
            have HPZ9 := Caged.mk (HPZr.out.below hb9)
            have HIT9 := Caged.mk (HITr.out.below hb9)
            clear hb9 cz
            go_wp2_with fail
            refine (HS1.out _ HPZ9.out).mono ?_
            rintro e w10 ⟨rfl, hb10⟩
            have hbr10 := below_next hbr9 hb10
            have HIT10 := Caged.mk (HIT9.out.below hb10)
            clear hb10
            go_wp2_with fail
            refine (HS2.out _ _ HIT10.out).mono ?_
            rintro e w11 ⟨rfl, hb11⟩
            have hbr11 := below_next hbr10 hb11
            go_wp2_with fail
            go_ret
            exact ⟨rfl, below_next hbW hbr11⟩
end Go.Proofs.Ytpckcapilhfpcaa
