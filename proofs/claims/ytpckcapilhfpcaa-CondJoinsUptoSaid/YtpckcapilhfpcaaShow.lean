/-
  cond.show and Pattern.Show: the one text of a class that is not empty, and of a pattern of such.
-/
import Derived.Test.YtpckcapilhfpcaaDelete
namespace Go.Proofs.Ytpckcapilhfpcaa
open Go.RowKit

theorem find94_mem : ∀ {l : List UInt8}, 94 ∈ l → ∃ k, find94 l = some k ∧ k < l.length ∧ (l.Nodup → l.eraseIdx k = l.filter (· != 94))
  | [], h => by cases h
  | x :: l, h => by
    by_cases hx : x = 94
    · subst hx
      refine ⟨0, by simp [find94], by simp, fun hn => ?_⟩
      have h1 : ¬ 94 ∈ l := (List.nodup_cons.1 hn).1
      simp only [List.eraseIdx_cons_zero, List.filter_cons]
      simp only [bne_self_eq_false, Bool.false_eq_true, if_false]
      rw [List.filter_eq_self.2]
      intro y hy
      have : y ≠ 94 := fun e => h1 (by rw [← e]; exact hy)
      simpa using this
    · have hm : 94 ∈ l := by
        rcases List.mem_cons.1 h with h | h
        · exact absurd h.symm hx
        · exact h
      obtain ⟨k, h1, h2, h3⟩ := find94_mem hm
      refine ⟨k + 1, by simp [find94, hx, h1], by simp; omega, fun hn => ?_⟩
      have := h3 (List.nodup_cons.1 hn).2
      have hb : (x != 94) = true := by simpa using hx
      simp only [List.eraseIdx_cons_succ, List.filter_cons, hb, if_true, this]
theorem find94_not : ∀ {l : List UInt8}, ¬ 94 ∈ l → find94 l = none
  | [], _ => rfl
  | x :: l, h => by
    have hx : x ≠ 94 := fun e => h (by rw [e]; simp)
    have := find94_not (l := l) (fun e => h (List.mem_cons_of_mem _ e))
    simp [find94, hx, this]
theorem bytes_le (f : Cls) : (bytesOf f).length ≤ 256 := bytesBelow_len f 256
theorem showC_full {f : Cls} (h : (bytesOf f).length = 256) : showC f = [46] := by rw [showC, if_pos h]
theorem showC_one {f : Cls} {x : UInt8} (h : bytesOf f = [x]) (h1 : x ≠ 46) (h2 : x ≠ 91) : showC f = [x] := by
  have h3 : ([x] : List UInt8) ≠ [46] := by simpa using h1
  have h4 : ([x] : List UInt8) ≠ [91] := by simpa using h2
  rw [showC, h, if_neg (by simp), if_pos ⟨rfl, h3, h4⟩]
theorem showC_93 {f : Cls} (h0 : (bytesOf f).length ≠ 256) (h1 : ¬ ((bytesOf f).length = 1 ∧ bytesOf f ≠ [46] ∧ bytesOf f ≠ [91])) (h : f 93 = true) : showC f = 91 :: 94 :: bytesOf (fun y => !f y) ++ [93] := by
  rw [showC, if_neg h0, if_neg h1, if_pos h]
theorem showC_94 {f : Cls} (h0 : (bytesOf f).length ≠ 256) (h1 : ¬ ((bytesOf f).length = 1 ∧ bytesOf f ≠ [46] ∧ bytesOf f ≠ [91])) (h : f 93 = false) (h4 : f 94 = true) :
    showC f = 91 :: (bytesOf f).filter (· != 94) ++ [94, 93] := by
  rw [showC, if_neg h0, if_neg h1, if_neg (by rw [h]; decide), if_pos h4]
theorem showC_rest {f : Cls} (h0 : (bytesOf f).length ≠ 256) (h1 : ¬ ((bytesOf f).length = 1 ∧ bytesOf f ≠ [46] ∧ bytesOf f ≠ [91])) (h : f 93 = false) (h4 : f 94 = false) :
    showC f = 91 :: bytesOf f ++ [93] := by
  rw [showC, if_neg h0, if_neg h1, if_neg (by rw [h]; decide), if_neg (by rw [h4]; decide)]
theorem showC_len (f : Cls) : (showC f).length ≤ 259 := by
  have h1 := bytes_le f
  have h2 := bytes_le (fun y => !f y)
  have h3 := List.length_filter_le (· != (94 : UInt8)) (bytesOf f)
  unfold showC
  split
  · simp
  · split
    · omega
    · split
      · simp only [List.length_append, List.length_cons, List.length_nil]; omega
      · split <;> (simp only [List.length_append, List.length_cons, List.length_nil]; omega)
theorem not_one {f : Cls} {x : UInt8} (h1 : ¬ ((bytesOf f).length = 1 ∧ bytesOf f ≠ [46] ∧ bytesOf f ≠ [91])) (hx : f x = true) (h46 : x ≠ 46) (h91 : x ≠ 91) : (bytesOf f).length ≠ 1 := by
  intro e
  obtain ⟨y, hy⟩ := List.length_eq_one_iff.1 e
  have hm := mem_bytes.2 hx
  rw [hy] at hm
  have hxy := List.mem_singleton.1 hm
  subst hxy
  apply h1
  rw [hy]
  exact ⟨rfl, by simpa using h46, by simpa using h91⟩
theorem ret_bytes {s : ByteArray} {l : List UInt8} (h : s.data.toList = l) : Ending.returned (.string s) = .returned (.string ⟨l.toArray⟩) := by rw [← h]


def ShowPost (t : List UInt8) (w : World) (e : Ending) (w' : World) : Prop := e = .returned (.string ⟨t.toArray⟩) ∧ Below w.heap.size w w'

set_option maxHeartbeats 4000000 in
set_option maxRecDepth 100000 in
theorem show_text (f : Cls) (t : List UInt8) (HT : Caged (showC f = t)) (w : World) (h0 : ∃ x, f x = true) : Calls Try.prog 52 #[clsV f] w (ShowPost t w) := by
  have hne : bytesOf f ≠ [] := by
    obtain ⟨x, hx⟩ := h0
    intro e
    have := mem_bytes.2 hx
    rw [e] at this
    cases this
  have hl256 := bytes_le f
  have hpos : 0 < (bytesOf f).length := List.length_pos_iff.2 hne
  have KB := fun w => bytes_any f w
  have KB2 := fun w => bytes_any (fun y => !f y) w
  obtain ⟨l, hL⟩ : ∃ l, bytesOf f = l := ⟨_, rfl⟩
  obtain ⟨m, hM⟩ : ∃ m, bytesOf (fun y => !f y) = m := ⟨_, rfl⟩
  have hm256 := bytes_le (fun y => !f y)
  rw [hM] at hm256
  rw [hL] at hne hl256 hpos KB
  rw [hM] at KB2
  have HB := Lib.hid KB
  have KO := fun w => other_any f w
  generalize clsV (fun y => !f y) = cv at KB2 KO
  unfold clsV at KO
  have HB2 := Lib.hid KB2
  have HO := Lib.hid KO
  have HL := Caged.mk hL
  have HM := Caged.mk hM
  clear KB KB2 hL hM KO
  have HV := Lib.hid (fun w => has_any f 93 w)
  unfold clsV
  go_enter Try.func52, Try.ntmps52
  go_wp2_with fail
  refine (HB.out _).mono ?_
  rintro e w1 ⟨v, rfl, hown, hb1⟩
  have hc0 : ClsAt (w.alloc (.cells #[.int .u64 (clsW f 0), .int .u64 (clsW f 1), .int .u64 (clsW f 2), .int .u64 (clsW f 3)] 72)) w.heap.size f := heap_alloc_new w _
  have hc := hc0.below hb1 (lt_box _ _)
  have hbw : Below w.heap.size w w1 := below_next (below_box (Below.refl _ _) _) hb1
  have hBl : w.heap.size + 1 ≤ w1.heap.size := by have := hb1.size; simpa using this
  obtain ⟨g, cap, hv⟩ := hown.somewhere hne
  have c0 := hc.cell (k := 0) (by decide)
  have c1 := hc.cell (k := 1) (by decide)
  have c2 := hc.cell (k := 2) (by decide)
  have c3 := hc.cell (k := 3) (by decide)
  have HC := Lib.hid hc
  clear hc0 hc hne hb1
  generalize hBdef : (w.alloc (.cells #[.int .u64 (clsW f 0), .int .u64 (clsW f 1), .int .u64 (clsW f 2), .int .u64 (clsW f 3)] 72)).heap.size = B at hown
  have hB1 : w.heap.size + 1 = B := by rw [← hBdef]; simp
  clear hBdef
  by_cases hfull : (l).length = 256
  · have HS := Caged.mk (showC_full (f := f) (by rw [HL.out]; exact hfull))
    have t1 : (((l).length : Int) == 256) = true := by rw [beq_iff_eq]; omega
    subst hv
    clear hfull hown hB1
    go_wp2_with fail
    go_ret
    exact ⟨ret_bytes (by rw [← HT.out, HS.out]), hbw⟩
  · by_cases hone : (l).length = 1 ∧ l ≠ [46] ∧ l ≠ [91]
    · obtain ⟨x, hx⟩ := List.length_eq_one_iff.1 hone.1
      have h46 : x ≠ 46 := fun e => hone.2.1 (by rw [hx, e])
      have h91 : x ≠ 91 := fun e => hone.2.2 (by rw [hx, e])
      have HS := Caged.mk (showC_one (f := f) (by rw [HL.out]; exact hx) h46 h91)
      rw [hx] at hown hv
      have hv2 : v = .slice (some ⟨g, 0, none⟩) 1 cap := hv
      subst hv2
      have x0 : w1.cell? ⟨g, 0, none⟩ = some (.int .u8 x.toNat) := hown.cell (j := 0) rfl
      have hst := run_string_own hown
      have t2 : ((x.toNat : Int) == 46) = false := byte_ne (n := 46) (fun e => h46 (UInt8.toNat_inj.1 e)) rfl
      have t3 : ((x.toNat : Int) == 91) = false := byte_ne (n := 91) (fun e => h91 (UInt8.toNat_inj.1 e)) rfl
      have t4 := bne_yes t2
      have t5 := bne_yes t3
      clear hfull hone hx h46 h91 hown hv hpos hl256 hB1
      go_wp2_with fail
      go_ret
      exact ⟨ret_bytes (by rw [← HT.out, HS.out]), hbw⟩
    · have t1 : (((l).length : Int) == 256) = false := by rw [beq_eq_false_iff_ne]; omega
      cases h93 : f 93 with
      | true =>
        have hn1 := not_one (f := f) (by rw [HL.out]; exact hone) h93 (by decide) (by decide)
        rw [HL.out] at hn1
        have t2 : (((l).length : Int) == 1) = false := by rw [beq_eq_false_iff_ne]; omega
        have HS := Caged.mk (showC_93 (f := f) (by rw [HL.out]; exact hfull) (by rw [HL.out]; exact hone) h93)
        have KV := HV.out
        rw [h93] at KV
        have HKV := Lib.hid KV
        have H93 := Lib.hid h93
        subst hv
        clear h93 hn1 hfull hone hown KV hB1
        go_wp2_with fail
        refine (HKV.out _).mono ?_
        rintro e w2 ⟨rfl, hb2⟩
        have hc2 := HC.out.below hb2 HC.out.lt
        have c02 := hc2.cell (k := 0) (by decide)
        have c12 := hc2.cell (k := 1) (by decide)
        have c22 := hc2.cell (k := 2) (by decide)
        have c32 := hc2.cell (k := 3) (by decide)
        have hbw2 := below_next hbw hb2
        clear c0 c1 c2 c3 hc2
        go_wp2_with fail
        refine (HO.out _).mono ?_
        rintro e w3 ⟨rfl, hb3⟩
        have hbw3 := below_next hbw2 hb3
        go_wp2_with fail
        refine (HB2.out _).mono ?_
        rintro e w4 ⟨v4, rfl, hown4, hb4⟩
        have hbw4 := below_next hbw3 hb4
        have hst := run_string_own hown4
        clear hown4
        go_wp2_with fail
        go_ret
        exact ⟨ret_bytes (by rw [← HT.out, HS.out, HM.out]; simp), hbw4⟩
      | false =>
        have KV := HV.out
        rw [h93] at KV
        have HKV := Lib.hid KV
        cases h94 : f 94 with
        | true =>
          have hn1 := not_one (f := f) (by rw [HL.out]; exact hone) h94 (by decide) (by decide)
          rw [HL.out] at hn1
          have HS := Caged.mk (showC_94 (f := f) (by rw [HL.out]; exact hfull) (by rw [HL.out]; exact hone) h93 h94)
          obtain ⟨k, hk1, hk2, hk3⟩ := find94_mem (l := l) (by rw [← HL.out]; exact mem_bytes.2 h94)
          have HE := Caged.mk (hk3 (by rw [← HL.out]; exact bytes_nodup f))
          have KI := fun w' h => index94_any B g cap (l) w' h (by omega)
          rw [hk1] at KI
          obtain ⟨r, hr⟩ : ∃ r, (l).length = r + 1 := ⟨(l).length - 1, by omega⟩
          have KD := fun w' h => delete_any B g cap k r (l) w' h hr (by omega) (by omega)
          rw [hv, hr] at hown
          rw [hr] at KI KD hv
          have HOwn := Lib.hid hown
          have HKI := Lib.hid KI
          have HKD := Lib.hid KD
          have hr9 : r ≤ 255 := by omega
          have hr1 : 1 ≤ r := by omega
          have hkr : k ≤ r := by omega
          have t2 : ((r : Int) + 1 == 1) = false := by rw [beq_eq_false_iff_ne]; omega
          have t3 : ((r : Int) + 1 == 256) = false := by rw [beq_eq_false_iff_ne]; omega
          have hdl : ((l).eraseIdx k).length = r := by rw [List.length_eraseIdx_of_lt hk2]; omega
          have HDL := Lib.hid hdl
          have HR := Lib.hid hr
          subst hv
          clear h93 h94 hn1 hfull hone KV hk1 hk2 hk3 KI KD hown hr hdl t1 hl256 hpos
          go_wp2_with fail
          refine (HKV.out _).mono ?_
          rintro e w2 ⟨rfl, hb2⟩
          have hbw2 := below_next hbw hb2
          have HO2 := Lib.hid (HOwn.out.below hb2)
          go_wp2_with fail
          refine (HKI.out _ HO2.out).mono ?_
          rintro e w3 ⟨rfl, rfl⟩
          simp only [idxV]
          go_wp2_with fail
          refine (HKD.out _ HO2.out).mono ?_
          rintro e w4 ⟨rfl, hown4, hb4⟩
          have hBw2 : B ≤ w2.heap.size := by have := hb2.size; omega
          have hbw4 : Below w.heap.size w w4 := hbw2.trans (hb4.mono (by omega))
          have hBw4 : B ≤ w4.heap.size := Nat.le_trans hBw2 hb4.size
          have HO4 := Lib.hid hown4
          clear hown4 hb4 hb2
          go_wp2_with (at_builtin; refine wpList_append_num rfl _ _ rfl B _ ((l).eraseIdx k) _ 94 94 rfl rfl rfl ?ho ?c1 ?c2 ?_)
          case ho => exact HO4.out
          case c1 => have := HDL.out; omega
          case c2 => exact hBw4
          intro v5 w5 hown5 hg5 hb5
          have hbw5 : Below w.heap.size w w5 := hbw4.trans (hb5.mono (by omega))
          have h5l : (l.eraseIdx k ++ [94]).length ≤ 257 := by have := HDL.out; rw [List.length_append]; simp; omega
          obtain ⟨m5, hm5⟩ : ∃ m5, l.eraseIdx k ++ [94] = m5 := ⟨_, rfl⟩
          rw [hm5] at hown5 h5l
          have HM5 := Caged.mk hm5
          have hst := run_string_own hown5
          clear hown5 hg5 hm5
          go_wp2_with fail
          go_ret
          exact ⟨ret_bytes (by rw [← HT.out, HS.out, ← HM5.out, HL.out, ← HE.out]; simp), hbw5⟩
        | false =>
          have HS := Caged.mk (showC_rest (f := f) (by rw [HL.out]; exact hfull) (by rw [HL.out]; exact hone) h93 h94)
          have hk1 := find94_not (l := l) (fun h => by rw [← HL.out, mem_bytes, h94] at h; cases h)
          have KI := fun w' h => index94_any B g cap (l) w' h (by omega)
          rw [hk1] at KI
          have HKI := Lib.hid KI
          rw [hv] at hown
          have HOwn := Lib.hid hown
          have hx0 : ∃ x : UInt8, (l)[0]? = some x := ⟨_, List.getElem?_eq_getElem hpos⟩
          have hcase : ((((l).length : Int) == 1) = false) ∨ ((((l).length : Int) == 1) = true ∧ (l = [46] ∨ l = [91])) := by
            by_cases e : (l).length = 1
            · refine .inr ⟨by rw [beq_iff_eq]; omega, ?_⟩
              by_cases e1 : l = [46]
              · exact .inl e1
              · by_cases e2 : l = [91]
                · exact .inr e2
                · exact absurd ⟨e, e1, e2⟩ hone
            · exact .inl (by rw [beq_eq_false_iff_ne]; omega)
          subst hv
          clear h93 h94 hfull hone KV hk1 KI hx0 hBl
          rcases hcase with t2 | ⟨t2, hx | hx⟩
          · clear hown
            go_wp2_with fail
            refine (HKV.out _).mono ?_
            rintro e w2 ⟨rfl, hb2⟩
            have hbw2 := below_next hbw hb2
            have HO2 := Lib.hid (HOwn.out.below hb2)
            have hst := run_string_own HO2.out
            go_wp2_with fail
            refine (HKI.out _ HO2.out).mono ?_
            rintro e w3 ⟨rfl, rfl⟩
            simp only [idxV]
            go_wp2_with fail
            go_ret
            exact ⟨ret_bytes (by rw [← HT.out, HS.out, HL.out]; simp), hbw2⟩
          · have x0 : w1.cell? ⟨g, 0, none⟩ = some (.int .u8 46) := by simpa using hown.cell (j := 0) (x := 46) (by rw [hx]; rfl)
            have hlt : 0 < (l).length := hpos
            clear hown hx
            go_wp2_with fail
            refine (HKV.out _).mono ?_
            rintro e w2 ⟨rfl, hb2⟩
            have hbw2 := below_next hbw hb2
            have HO2 := Lib.hid (HOwn.out.below hb2)
            have hst := run_string_own HO2.out
            go_wp2_with fail
            refine (HKI.out _ HO2.out).mono ?_
            rintro e w3 ⟨rfl, rfl⟩
            simp only [idxV]
            go_wp2_with fail
            go_ret
            exact ⟨ret_bytes (by rw [← HT.out, HS.out, HL.out]; simp), hbw2⟩
          · have x0 : w1.cell? ⟨g, 0, none⟩ = some (.int .u8 91) := by simpa using hown.cell (j := 0) (x := 91) (by rw [hx]; rfl)
            have hlt : 0 < (l).length := hpos
            clear hown hx
            go_wp2_with fail
            refine (HKV.out _).mono ?_
            rintro e w2 ⟨rfl, hb2⟩
            have hbw2 := below_next hbw hb2
            have HO2 := Lib.hid (HOwn.out.below hb2)
            have hst := run_string_own HO2.out
            go_wp2_with fail
            refine (HKI.out _ HO2.out).mono ?_
            rintro e w3 ⟨rfl, rfl⟩
            simp only [idxV]
            go_wp2_with fail
            go_ret
            exact ⟨ret_bytes (by rw [← HT.out, HS.out, HL.out]; simp), hbw2⟩

theorem show_any (f : Cls) (w : World) (h0 : ∃ x, f x = true) : Calls Try.prog 52 #[clsV f] w (ShowPost (showC f) w) := show_text f _ ⟨rfl⟩ w h0

theorem showP_some {P : List Cls} (h : P ≠ []) : showP P = (P.map showC).flatten := by rw [showP, if_neg h]

set_option maxHeartbeats 2000000 in
theorem showAll_text (B : Nat) (v : Value) (P : List Cls) (t : List UInt8) (HT : Caged (showP P = t)) (w : World) (h : PatOwn B v P w) (hP : ∀ f ∈ P, ∃ x, f x = true) (hl : P.length ≤ 1048576) :
    Calls Try.prog 31 #[.agg #[v]] w (ShowPost t w) := by
  by_cases h0 : P = []
  · subst h0
    obtain ⟨a, cap, rfl⟩ := h.form
    go_enter Try.func31, Try.ntmps31
    go_wp2_with fail
    go_ret
    exact ⟨ret_bytes (by rw [← HT.out]; rfl), (Below.refl _ _).alloc (Nat.le_refl _) _⟩
  · have HS := Caged.mk (showP_some h0)
    obtain ⟨g, cap, rfl, _, hcap⟩ := h.somewhere h0
    have hp0 : ((P.length : Int) == 0) = false := by
      rw [beq_eq_false_iff_ne]
      have := List.length_pos_iff.2 h0
      omega
    have H := Lib.hid h
    have HP := Lib.hid hP
    clear h hP h0
    go_enter Try.func31, Try.ntmps31
    go_wp2_with fail
    go_loopw [3, 13] (fun s i wr => ∃ (k : Nat) (acc : List UInt8), k ≤ P.length ∧ i = .int .i64 k ∧ s = .string ⟨acc.toArray⟩ ∧ acc ++ ((P.drop k).map showC).flatten = (P.map showC).flatten ∧ acc.length ≤ 259 * k ∧ Below w.heap.size w wr) (fun _ i _ => P.length - (intOf i).toNat)
    case atStart => exact ⟨0, [], Nat.zero_le _, rfl, rfl, by simp, by simp, (Below.refl _ _).alloc (Nat.le_refl _) _⟩
    case round =>
      obtain ⟨k, acc, hk, rfl, rfl, hall, hal, hbw⟩ := hrel
      by_cases hlt : k < P.length
      · obtain ⟨f, hf⟩ : ∃ f, P[k]? = some f := ⟨_, List.getElem?_eq_getElem hlt⟩
        have hd : P.drop k = f :: P.drop (k + 1) := by
          rw [List.drop_eq_getElem_cons hlt]
          rw [List.getElem?_eq_getElem hlt] at hf
          injection hf with hf
          rw [hf]
        rw [hd, List.map_cons, List.flatten_cons, ← List.append_assoc] at hall
        have Hw := H.out.below hbw
        have c0 := Hw.cell hf (k := 0) (by decide)
        have c1 := Hw.cell hf (k := 1) (by decide)
        have c2 := Hw.cell hf (k := 2) (by decide)
        have c3 := Hw.cell hf (k := 3) (by decide)
        simp only [Nat.add_zero] at c0
        have K := fun w' => show_any f w' (HP.out f (List.mem_of_getElem? hf))
        unfold clsV ShowPost at K
        have ht1 := showC_len f
        generalize showC f = t1 at K hall ht1
        have HK := Lib.hid K
        have HA := Lib.hid hall
        clear K hall hd hf Hw
        go_wp2_with fail
        refine (HK.out _).mono ?_
        rintro e w1 ⟨rfl, hb1⟩
        have hbw1 : Below w.heap.size w w1 := below_next (below_box hbw _) hb1
        go_wp2_with fail
        go_roundw
        case rel => exact ⟨k + 1, acc ++ t1, by omega, by go_num, by rw [add_mk], HA.out, by rw [List.length_append]; omega, hbw1⟩
        case measure => simp [intOf]; omega
      · rw [List.drop_eq_nil_of_le (by omega)] at hall
        have HA := Lib.hid hall
        clear hall
        go_wp2_with fail
        go_ret
        exact ⟨ret_list (by rw [← HT.out, HS.out, ← HA.out]; simp), hbw⟩
theorem showAll_any (B : Nat) (v : Value) (P : List Cls) (w : World) (h : PatOwn B v P w) (hP : ∀ f ∈ P, ∃ x, f x = true) (hl : P.length ≤ 1048576) :
    Calls Try.prog 31 #[.agg #[v]] w (ShowPost (showP P) w) := showAll_text B v P _ ⟨rfl⟩ w h hP hl
end Go.Proofs.Ytpckcapilhfpcaa
