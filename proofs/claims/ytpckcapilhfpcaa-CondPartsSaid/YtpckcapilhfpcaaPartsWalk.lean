/-
  The law CondParts: its walk.
-/
import Derived.Test.YtpckcapilhfpcaaJoin
import Derived.Test.YtpckcapilhfpcaaRegionS
namespace Go.Proofs.Ytpckcapilhfpcaa
open Go.RowKit

theorem starts_append : ∀ (P Q : List Cls) (l : List UInt8), startsL (P ++ Q) l = (startsL P l && startsL Q (l.drop P.length))
  | [], Q, l => by simp [startsL]
  | f :: P, Q, [] => by simp [startsL]
  | f :: P, Q, x :: l => by
    have ih := starts_append P Q l
    simp only [List.cons_append, startsL, ih, List.length_cons, List.drop_succ_cons, Bool.and_assoc]
theorem starts_take : ∀ (P : List Cls) (l : List UInt8) (n : Nat), P.length ≤ n → startsL P (l.take n) = startsL P l
  | [], l, n, _ => rfl
  | f :: P, [], n, _ => by simp
  | f :: P, x :: l, 0, h => by simp at h
  | f :: P, x :: l, n + 1, h => by
    have ih := starts_take P l n (by simpa using h)
    simp only [List.take_succ_cons, startsL, ih]
theorem ends_append (P Q : List Cls) (l : List UInt8) (h : Q.length ≤ l.length) : endsL (P ++ Q) l = (endsL Q l && endsL P (l.take (l.length - Q.length))) := by
  have hm : min (l.length - Q.length) l.length = l.length - Q.length := Nat.min_eq_left (Nat.sub_le _ _)
  by_cases hp : P.length + Q.length ≤ l.length
  · unfold endsL
    rw [List.length_append, decide_eq_true hp, decide_eq_true h, List.length_take, hm, decide_eq_true (by omega), Bool.true_and, Bool.true_and, Bool.true_and, starts_append, List.drop_drop, Bool.and_comm]
    rw [List.drop_take, starts_take _ _ _ (by omega)]
    congr 3 <;> omega
  · have e1 : endsL (P ++ Q) l = false := by unfold endsL; rw [List.length_append, decide_eq_false hp, Bool.false_and]
    have e2 : endsL P (l.take (l.length - Q.length)) = false := by
      unfold endsL
      rw [List.length_take, hm, decide_eq_false (by omega), Bool.false_and]
    rw [e1, e2, Bool.and_false]
theorem ends_short {P : List Cls} {l : List UInt8} (h : l.length < P.length) : endsL P l = false := by unfold endsL; rw [decide_eq_false (by omega), Bool.false_and]
theorem err_cases (s : List UInt8) : errOf (readP s) = 0 ∨ (errOf (readP s) ≠ 0 ∧ patOf (readP s) = []) := by
  unfold readP
  split
  · exact .inr ⟨by simp [errOf], rfl⟩
  · split
    · exact .inl rfl
    · split
      · exact .inr ⟨by simp [errOf], rfl⟩
      · split
        · exact .inr ⟨by simp [errOf], rfl⟩
        · exact .inl rfl

theorem based {W w' : World} {F : World → Prop} {n : Nat} {args : Array Value} {r : Ending} (cells : ∀ w'', Below W.heap.size W w'' → F w'') (h : Below W.heap.size W w')
    (K : Calls Try.prog n args w' fun e w'' => e = r ∧ Below w'.heap.size w' w'') : Calls Try.prog n args w' fun e w'' => e = r ∧ Below W.heap.size W w'' ∧ F w'' :=
  K.mono fun _ w'' hh => ⟨hh.1, below_next h hh.2, cells w'' (below_next h hh.2)⟩
theorem parts_starts {P Q : List Cls} {l : List UInt8} : ∃ b c r : Bool, startsL P l = b ∧ startsL Q (l.drop P.length) = c ∧ startsL (P ++ Q) l = r ∧ ((b = false ∧ r = false) ∨ (b = true ∧ r = c)) := by
  refine ⟨_, _, _, rfl, rfl, rfl, ?_⟩
  rw [starts_append]
  cases startsL P l <;> simp
theorem parts_ends {P Q : List Cls} {l : List UInt8} (h : Q.length ≤ l.length) : ∃ b c r : Bool, endsL Q l = b ∧ endsL P (l.take (l.length - Q.length)) = c ∧ endsL (P ++ Q) l = r ∧ ((b = false ∧ r = false) ∨ (b = true ∧ r = c)) := by
  refine ⟨_, _, _, rfl, rfl, rfl, ?_⟩
  rw [ends_append P Q l h]
  cases endsL Q l <;> simp
theorem take_data (s : ByteArray) (k : Nat) : (s.extract 0 k).data.toList = s.data.toList.take k := by
  rw [Lib.extract_data]
  simp
theorem pats_two {w2 : World} {o : Obj} {a a2 : Option Addr} {cap cap2 : Nat} {P Q : List Cls} {B1 B2 : Nat} (h1 : PatOwn B1 (.slice a P.length cap) P (w2.alloc o)) (h2 : PatOwn B2 (.slice a2 Q.length cap2) Q (w2.alloc o)) :
    PatsAt (w2.heap.size + 1) [P, Q] ((w2.alloc o).alloc (.cells #[.slice a P.length cap, .slice a2 Q.length cap2] 24)) := by
  have hg := heap_alloc_new (w2.alloc o) (.cells #[.slice a P.length cap, .slice a2 Q.length cap2] 24)
  have hsz : (w2.alloc o).heap.size = w2.heap.size + 1 := by simp
  rw [hsz] at hg
  refine ⟨(Array.getElem?_eq_some_iff.1 hg).1, fun k R hk => ?_⟩
  match k, hk with
  | 0, hk =>
    simp at hk
    subst hk
    exact ⟨a, cap, by rw [cell_of_row _ _ 0 _ _ _ hg]; rfl, (h1.alloc _).less (Nat.zero_le _)⟩
  | 1, hk =>
    simp at hk
    subst hk
    exact ⟨a2, cap2, by rw [cell_of_row _ _ 1 _ _ _ hg]; rfl, (h2.alloc _).less (Nat.zero_le _)⟩

set_option maxHeartbeats 4000000 in
set_option maxRecDepth 100000 in
theorem condParts_walk (s t u : ByteArray) (w : World) (_h1 : s.size ≤ 140737488351232) (_h2 : t.size ≤ 140737488351232) (h3 : u.size ≤ 140737488351232) :
    Calls Try.prog 6 #[.string s, .string t, .string u] w fun e w' => e = .returned (.bool true) ∧ Below w.heap.size w w' := by
  have K0 := fun w' => condRead_any s w'
  unfold ReadPost at K0
  have L0 := fun w' => condRead_any t w'
  unfold ReadPost at L0
  have hPl := pat_count s.data.toList
  have hQl := pat_count t.data.toList
  have hPe := err_cases s.data.toList
  have hQe := err_cases t.data.toList
  generalize patOf (readP s.data.toList) = P at K0 hPl hPe
  generalize patOf (readP t.data.toList) = Q at L0 hQl hQe
  generalize errOf (readP s.data.toList) = er at K0 hPe
  generalize errOf (readP t.data.toList) = er2 at L0 hQe
  have HK0 := Lib.hid K0
  have HL0 := Lib.hid L0
  have HPE := Lib.hid hPe
  have HQE := Lib.hid hQe
  clear K0 L0 hPe hQe
  go_enter Try.func6, Try.ntmps6
  go_wp2_with fail
  refine (wakes04_any _).mono ?_
  rintro e w0 ⟨rfl, hb0⟩
  go_wp2_with fail
  refine (HK0.out _).mono ?_
  rintro e w1 ⟨v, rfl, hp, hb⟩
  obtain ⟨a, cap, hv⟩ := hp.form
  subst hv
  have HO := Lib.hid hp
  clear hp
  go_wp2_with fail
  have hbox := heap_alloc_new w1 (.cells #[.slice a P.length cap] 24)
  refine (HL0.out _).mono ?_
  rintro e w2 ⟨v2, rfl, hq, hb2⟩
  obtain ⟨a2, cap2, hv2⟩ := hq.form
  subst hv2
  have HP2 := Lib.hid ((HO.out.alloc _).below hb2)
  have hbx2 := (hb2.block _ (lt_box _ _)).trans hbox
  have hl2 := (Array.getElem?_eq_some_iff.1 hbx2).1
  have HX2 := Lib.hid hbx2
  have HQ2 := Lib.hid hq
  have HB2 := Lib.hid (below_next (below_box (below_next hb0 hb) _) hb2)
  clear hbx2 hbox hq hb0 hb hb2
  have cx2 := box_cell HX2.out
  have hby3 := heap_alloc_new w2 (.cells #[.slice a2 Q.length cap2] 24)
  have hbx3 : (w2.alloc (.cells #[.slice a2 Q.length cap2] 24)).heap[w1.heap.size]? = some (.cells #[.slice a P.length cap] 24 (0, 0)) := by rw [Below.heap_alloc _ _ _ hl2]; exact HX2.out
  have HP3 := Lib.hid (HP2.out.alloc (.cells #[.slice a2 Q.length cap2] 24))
  have HQ3 := Lib.hid (HQ2.out.alloc (.cells #[.slice a2 Q.length cap2] 24))
  have HB3 := Lib.hid (below_box HB2.out (.cells #[.slice a2 Q.length cap2] 24))
  have cx3 := box_cell hbx3
  have cy3 := box_cell hby3
  have lx3 := (Array.getElem?_eq_some_iff.1 hbx3).1
  have ly3 := (Array.getElem?_eq_some_iff.1 hby3).1
  have HX3 := Lib.hid hbx3
  have HY3 := Lib.hid hby3
  clear hbx3 hby3
  have LP := fun B v w' h => len_any B v P w' h
  have LQ := fun B v w' h => len_any B v Q w' h
  have HLP := Lib.hid LP
  have HLQ := Lib.hid LQ
  clear LP LQ
  rcases HPE.out with he | ⟨he, hPn⟩
  · have g1 : ((er : Int) == 0) = true := by rw [beq_iff_eq]; omega
    have g2 : ((er : Int) != 0) = false := by rw [bne_eq_false_iff_eq]; omega
    rcases HQE.out with he2 | ⟨he2, hQn⟩
    · have g3 : ((er2 : Int) == 0) = true := by rw [beq_iff_eq]; omega
      have g4 : ((er2 : Int) != 0) = false := by rw [bne_eq_false_iff_eq]; omega
      clear he he2
      have J : Calls Try.prog 28 #[.slice (some ⟨w2.heap.size + 1, 0, none⟩) 2 2] _ (JoinPost [P, Q] ((w2.alloc (.cells #[.slice a2 Q.length cap2] 24)).alloc (.cells #[.slice a P.length cap, .slice a2 Q.length cap2] 24))) :=
        join_any (w2.heap.size + 1) 2 [P, Q] _ (pats_two HP3.out HQ3.out) (by simp) (by intro R hR; simp at hR; rcases hR with rfl | rfl <;> assumption)
      unfold JoinPost at J
      have hfl : [P, Q].flatten = P ++ Q := by simp
      have hlx4 : w1.heap.size < ((w2.alloc (.cells #[.slice a2 Q.length cap2] 24)).alloc (.cells #[.slice a P.length cap, .slice a2 Q.length cap2] 24)).heap.size := Nat.lt_trans lx3 (lt_box _ _)
      have hly4 : w2.heap.size < ((w2.alloc (.cells #[.slice a2 Q.length cap2] 24)).alloc (.cells #[.slice a P.length cap, .slice a2 Q.length cap2] 24)).heap.size := Nat.lt_trans ly3 (lt_box _ _)
      have hbx4 : ((w2.alloc (.cells #[.slice a2 Q.length cap2] 24)).alloc (.cells #[.slice a P.length cap, .slice a2 Q.length cap2] 24)).heap[w1.heap.size]? = some (.cells #[.slice a P.length cap] 24 (0, 0)) := by
        rw [Below.heap_alloc _ _ _ lx3]; exact HX3.out
      have hby4 : ((w2.alloc (.cells #[.slice a2 Q.length cap2] 24)).alloc (.cells #[.slice a P.length cap, .slice a2 Q.length cap2] 24)).heap[w2.heap.size]? = some (.cells #[.slice a2 Q.length cap2] 24 (0, 0)) := by
        rw [Below.heap_alloc _ _ _ ly3]; exact HY3.out
      have HX4 := Lib.hid hbx4
      have HY4 := Lib.hid hby4
      clear hbx4 hby4
      by_cases hbig : 16 < P.length + Q.length
      · have hE : joinErr [P, Q] = 42 := by rw [joinErr, hfl, List.length_append, if_pos hbig]
        have hJ : joinPat [P, Q] = [] := by rw [joinPat, hfl, List.length_append, if_pos hbig]
        rw [hE, hJ] at J
        have HJ := Lib.hid J
        clear J hE hJ hfl
        go_wp2_with fail
        refine HJ.out.mono ?_
        rintro e w4 ⟨v3, rfl, hr, hbj⟩
        obtain ⟨a3, cap3, hv3⟩ := hr.form
        simp only [List.length_nil] at hv3
        subst hv3
        go_wp2_with fail
        have hb4 : Below w.heap.size w w4 := below_next (below_box HB3.out _) hbj
        have hbx := (hbj.block _ hlx4).trans HX4.out
        have hby := (hbj.block _ hly4).trans HY4.out
        have lx := (Array.getElem?_eq_some_iff.1 hbx).1
        have ly := (Array.getElem?_eq_some_iff.1 hby).1
        obtain ⟨W, hW⟩ : ∃ W, W = w4.alloc (.cells #[.slice a3 0 cap3] 24) := ⟨_, rfl⟩
        have hbW : Below w.heap.size w W := by rw [hW]; exact below_box hb4 _
        have hx : W.heap[w1.heap.size]? = some (.cells #[.slice a P.length cap] 24 (0, 0)) := by rw [hW, Below.heap_alloc _ _ _ lx]; exact hbx
        have hy : W.heap[w2.heap.size]? = some (.cells #[.slice a2 Q.length cap2] 24 (0, 0)) := by rw [hW, Below.heap_alloc _ _ _ ly]; exact hby
        have hz : W.heap[w4.heap.size]? = some (.cells #[.slice a3 0 cap3] 24 (0, 0)) := by rw [hW]; exact heap_alloc_new w4 _
        have PW : PatOwn 0 (.slice a P.length cap) P W := by rw [hW]; exact (((HP3.out.alloc _).below hbj).alloc _).less (Nat.zero_le _)
        have QW : PatOwn 0 (.slice a2 Q.length cap2) Q W := by rw [hW]; exact (((HQ3.out.alloc _).below hbj).alloc _).less (Nat.zero_le _)
        have RW : PatOwn 0 (.slice a3 0 cap3) [] W := by rw [hW]; exact (hr.alloc _).less (Nat.zero_le _)
        rw [← hW]
        have cells := fun (w'' : World) (h : Below W.heap.size W w'') => And.intro (box_cell ((h.block _ (Array.getElem?_eq_some_iff.1 hx).1).trans hx)) (And.intro (box_cell ((h.block _ (Array.getElem?_eq_some_iff.1 hy).1).trans hy)) (box_cell ((h.block _ (Array.getElem?_eq_some_iff.1 hz).1).trans hz)))
        obtain ⟨cx, cy, cz⟩ := cells W (Below.refl _ _)
        have hbd : Below W.heap.size W W.drew := (Below.refl _ _).drew
        have L1 := fun w' h => based cells h (HLP.out _ _ w' (PW.below h))
        have L2 := fun w' h => based cells h (HLQ.out _ _ w' (QW.below h))
        have HL1 := Lib.hid L1
        have HL2 := Lib.hid L2
        have HCL := Lib.hid cells
        have HPW := Lib.hid PW
        have HQW := Lib.hid QW
        have HRW := Lib.hid RW
        clear L1 L2 hr hb4 hbx hby hx hy hz cells PW QW RW hbj hW cx3 cy3 lx3 ly3 cx2 hlx4 hly4 lx ly
        have hw : IntKind.i64.wrap ((P.length : Int) + (Q.length : Int)) = ((P.length + Q.length : Nat) : Int) := by rw [IntWalk.i64_in _ (by omega)]; omega
        have d1 : decide (16 < P.length + Q.length) = true := decide_eq_true hbig
        have d3 : decide ((16 : Int) < (P.length : Int) + (Q.length : Int)) = true := decide_eq_true (by omega)
        go_region_held3 (fun w' => w'.cell? ⟨w1.heap.size, 0, none⟩ = some (.slice a P.length cap) ∧ w'.cell? ⟨w2.heap.size, 0, none⟩ = some (.slice a2 Q.length cap2) ∧ w'.cell? ⟨w4.heap.size, 0, none⟩ = some (.slice a3 0 cap3) ∧ Below W.heap.size W w') (go_keep)
          (first
            | (go_at_call 21; with_reducible refine (HL1.out _ ?_).mono ?_; with_reducible assumption; rintro e w' ⟨rfl, hbk, hk1, hk2, hk3⟩)
            | (go_at_call 21; with_reducible refine (HL2.out _ ?_).mono ?_; with_reducible assumption; rintro e w' ⟨rfl, hbk, hk1, hk2, hk3⟩))
        go_wp2_with fail
        all_goals (go_ret; exact ⟨rfl, below_next hbW (by assumption)⟩)
      · have hE : joinErr [P, Q] = 0 := by rw [joinErr, hfl, List.length_append, if_neg hbig]
        have hJ : joinPat [P, Q] = P ++ Q := by rw [joinPat, hfl, List.length_append, if_neg hbig]
        obtain ⟨R, hR⟩ : ∃ R, R = P ++ Q := ⟨_, rfl⟩
        rw [hE, hJ, ← hR] at J
        have HJ := Lib.hid J
        have HR := Lib.hid hR
        have hRl : R.length = P.length + Q.length := by rw [hR, List.length_append]
        have HRL := Lib.hid hRl
        clear J hE hJ hfl hR hRl
        go_wp2_with fail
        refine HJ.out.mono ?_
        rintro e w4 ⟨v3, rfl, hr, hbj⟩
        obtain ⟨a3, cap3, hv3⟩ := hr.form
        subst hv3
        have hbx0 := (hbj.block _ hlx4).trans HX4.out
        have lx0 := (Array.getElem?_eq_some_iff.1 hbx0).1
        have cx40 := box_cell hbx0
        have cx50 := box_cell ((Below.heap_alloc w4 (.cells #[.slice a3 R.length cap3] 24) _ lx0).trans hbx0)
        clear hbx0
        go_wp2_with fail
        have hb4 : Below w.heap.size w w4 := below_next (below_box HB3.out _) hbj
        have hbx := (hbj.block _ hlx4).trans HX4.out
        have hby := (hbj.block _ hly4).trans HY4.out
        have lx := (Array.getElem?_eq_some_iff.1 hbx).1
        have ly := (Array.getElem?_eq_some_iff.1 hby).1
        obtain ⟨W, hW⟩ : ∃ W, W = w4.alloc (.cells #[.slice a3 R.length cap3] 24) := ⟨_, rfl⟩
        have hbW : Below w.heap.size w W := by rw [hW]; exact below_box hb4 _
        have hx : W.heap[w1.heap.size]? = some (.cells #[.slice a P.length cap] 24 (0, 0)) := by rw [hW, Below.heap_alloc _ _ _ lx]; exact hbx
        have hy : W.heap[w2.heap.size]? = some (.cells #[.slice a2 Q.length cap2] 24 (0, 0)) := by rw [hW, Below.heap_alloc _ _ _ ly]; exact hby
        have hz : W.heap[w4.heap.size]? = some (.cells #[.slice a3 R.length cap3] 24 (0, 0)) := by rw [hW]; exact heap_alloc_new w4 _
        have PW : PatOwn 0 (.slice a P.length cap) P W := by rw [hW]; exact (((HP3.out.alloc _).below hbj).alloc _).less (Nat.zero_le _)
        have QW : PatOwn 0 (.slice a2 Q.length cap2) Q W := by rw [hW]; exact (((HQ3.out.alloc _).below hbj).alloc _).less (Nat.zero_le _)
        have RW : PatOwn 0 (.slice a3 R.length cap3) R W := by rw [hW]; exact (hr.alloc _).less (Nat.zero_le _)
        rw [← hW]
        have cells := fun (w'' : World) (h : Below W.heap.size W w'') => And.intro (box_cell ((h.block _ (Array.getElem?_eq_some_iff.1 hx).1).trans hx)) (And.intro (box_cell ((h.block _ (Array.getElem?_eq_some_iff.1 hy).1).trans hy)) (box_cell ((h.block _ (Array.getElem?_eq_some_iff.1 hz).1).trans hz)))
        obtain ⟨cx, cy, cz⟩ := cells W (Below.refl _ _)
        have hbd : Below W.heap.size W W.drew := (Below.refl _ _).drew
        have L1 := fun w' h => based cells h (HLP.out _ _ w' (PW.below h))
        have L2 := fun w' h => based cells h (HLQ.out _ _ w' (QW.below h))
        have HL1 := Lib.hid L1
        have HL2 := Lib.hid L2
        have HCL := Lib.hid cells
        have HPW := Lib.hid PW
        have HQW := Lib.hid QW
        have HRW := Lib.hid RW
        clear L1 L2 hr hb4 hbx hby hx hy hz cells PW QW RW hbj hW cx3 cy3 lx3 ly3 cx2 hlx4 hly4 lx ly
        refine (HL1.out _ (Below.refl _ _)).mono ?_
        rintro e W1 ⟨rfl, hb1, k1, k2, k3⟩
        obtain ⟨b1, c1, r1, hb1', hc1', hr1', hcase1⟩ := parts_starts (P := P) (Q := Q) (l := u.data.toList)
        have A1 := fun w' h => based HCL.out h (starts_any 0 _ R u w' (HRW.out.below h) (by omega) (by have := HRL.out; omega))
        have A2 := fun w' h => based HCL.out h (starts_any 0 _ P u w' (HPW.out.below h) (by omega) (by omega))
        have HA1 := Lib.hid A1
        have HA2 := Lib.hid A2
        clear A1 A2
        clear cx40 cx50 lx0
        by_cases hshort : u.size < P.length
        · have n1 : decide (u.size < P.length) = true := decide_eq_true hshort
          have e1 : startsL P u.data.toList = false := startsL_short (by rw [len_eq]; exact hshort)
          rw [e1] at hb1'
          have e2 : startsL R u.data.toList = false := by
            rw [HR.out, hr1']
            rcases hcase1 with ⟨_, h⟩ | ⟨h, _⟩
            · exact h
            · rw [← hb1'] at h; cases h
          rw [e2] at HA1
          clear hb1' hc1' hr1' hcase1 e1 e2
          go_wp2_with fail
          refine (HA1.out _ hb1).mono ?_
          rintro e W2 ⟨rfl, hb2', k21, k22, k23⟩
          go_wp2_with fail
          go_ret
          exact ⟨rfl, below_next hbW hb2'⟩
        · have n1 : decide (u.size < P.length) = false := decide_eq_false hshort
          rw [← HR.out] at hr1'
          have A3 := fun w' h => based HCL.out h (starts_any 0 _ Q (u.extract P.length u.size) w' (HQW.out.below h) (by rw [ByteArray.size_extract]; omega) (by omega))
          rw [drop_data, hc1'] at A3
          rw [hr1'] at HA1
          rw [hb1'] at HA2
          have HA3 := Lib.hid A3
          have hs2 : P.length ≤ u.size := by omega
          have f1 : (c1 == c1) = true := beq_self_eq_true _
          have hbd1 : Below W.heap.size W W1.drew := hb1.drew
          clear A3 hb1' hc1' hr1'
          rcases hcase1 with ⟨rfl, rfl⟩ | ⟨rfl, rfl⟩
          all_goals
            go_wp2_with fail
            refine wp_region_S (fun w' => Below W.heap.size W w' ∧ w'.cell? ⟨w1.heap.size, 0, none⟩ = some (.slice a P.length cap) ∧ w'.cell? ⟨w2.heap.size, 0, none⟩ = some (.slice a2 Q.length cap2) ∧ w'.cell? ⟨w4.heap.size, 0, none⟩ = some (.slice a3 R.length cap3)) (by kernel_rfl) (by kernel_rfl) ?_ ?_
            · exact ⟨by with_reducible assumption, HCL.out _ (by with_reducible assumption)⟩
            repeat
              first
                | (apply wpS_off; · rfl)
                | (apply wpS_on
                   · rfl
                   · intro w' hS
                     obtain ⟨hb, h1, h2, h3⟩ := hS
                     go_simp
                     first
                       | with_reducible exact runs_value ⟨hb, h1, h2, h3⟩
                       | with_reducible exact runs_call (HA1.out _ hb)
                       | with_reducible exact runs_call (HA2.out _ hb)
                       | with_reducible exact runs_call (HA3.out _ hb))
              simp only [Act.put, List.setIfInBounds_toArray, List.set_cons_zero, List.set_cons_succ]
            refine wpS_end fun W9 hS9 => ?_
            obtain ⟨hb9, k91, k92, k93⟩ := hS9
            go_wp2_with fail
            refine (HL2.out _ (by with_reducible assumption)).mono ?_
            rintro e W2 ⟨rfl, hb2', k21, k22, k23⟩
            have B1 := fun w' h => based HCL.out h (ends_any 0 _ R u w' (HRW.out.below h) (by omega) (by have := HRL.out; omega))
            by_cases hshort2 : u.size < Q.length
            · have n2 : decide (u.size < Q.length) = true := decide_eq_true hshort2
              have e2 : endsL R u.data.toList = false := ends_short (by have := HRL.out; rw [len_eq]; omega)
              rw [e2] at B1
              have HB1 := Lib.hid B1
              clear e2 B1
              go_wp2_with fail
              refine (HB1.out _ hb2').mono ?_
              rintro e W3 ⟨rfl, hb3', k31, k32, k33⟩
              go_wp2_with fail
              go_ret
              exact ⟨rfl, below_next hbW hb3'⟩
            · have n2 : decide (u.size < Q.length) = false := decide_eq_false hshort2
              obtain ⟨b2, c2, r2, hb2', hc2', hr2', hcase2⟩ := parts_ends (P := P) (Q := Q) (l := u.data.toList) (by rw [len_eq]; omega)
              rw [len_eq] at hc2'
              rw [← HR.out] at hr2'
              have B2 := fun w' h => based HCL.out h (ends_any 0 _ Q u w' (HQW.out.below h) (by omega) (by omega))
              have B3 := fun w' h => based HCL.out h (ends_any 0 _ P (u.extract 0 (u.size - Q.length)) w' (HPW.out.below h) (by rw [ByteArray.size_extract]; omega) (by omega))
              rw [take_data _ _, hc2'] at B3
              rw [hr2'] at B1
              rw [hb2'] at B2
              have HB1 := Lib.hid B1
              have HB2 := Lib.hid B2
              have HB3 := Lib.hid B3
              have g1 : (c2 == c2) = true := beq_self_eq_true _
              have hw2 : IntKind.i64.wrap ((u.size : Int) - (Q.length : Int)) = ((u.size - Q.length : Nat) : Int) := by rw [IntWalk.i64_in _ (by omega)]; omega
              have hsub : u.size - Q.length ≤ u.size := Nat.sub_le _ _
              have hbd2 : Below W.heap.size W W2.drew := (by with_reducible assumption : Below W.heap.size W W2).drew
              clear B1 B2 B3 hb2' hc2' hr2'
              rcases hcase2 with ⟨rfl, rfl⟩ | ⟨rfl, rfl⟩
              all_goals
                go_wp2_with fail
                refine wp_region_S (fun w' => Below W.heap.size W w' ∧ w'.cell? ⟨w1.heap.size, 0, none⟩ = some (.slice a P.length cap) ∧ w'.cell? ⟨w2.heap.size, 0, none⟩ = some (.slice a2 Q.length cap2) ∧ w'.cell? ⟨w4.heap.size, 0, none⟩ = some (.slice a3 R.length cap3)) (by kernel_rfl) (by kernel_rfl) ?_ ?_
                · exact ⟨by with_reducible assumption, HCL.out _ (by with_reducible assumption)⟩
                repeat
                  first
                    | (apply wpS_off; · rfl)
                    | (apply wpS_on
                       · rfl
                       · intro w' hS
                         obtain ⟨hb, h1, h2, h3⟩ := hS
                         go_simp
                         first
                           | with_reducible exact runs_value ⟨hb, h1, h2, h3⟩
                           | with_reducible exact runs_call (HB1.out _ hb)
                           | with_reducible exact runs_call (HB2.out _ hb)
                           | with_reducible exact runs_call (HB3.out _ hb))
                  simp only [Act.put, List.setIfInBounds_toArray, List.set_cons_zero, List.set_cons_succ]
                refine wpS_end fun W9 hS9 => ?_
                obtain ⟨hb9, k91, k92, k93⟩ := hS9
                go_wp2_with fail
                all_goals (go_ret; exact ⟨rfl, below_next hbW (by with_reducible assumption)⟩)
    · have g3 : ((er2 : Int) == 0) = false := by rw [beq_eq_false_iff_ne]; omega
      have g4 : ((er2 : Int) != 0) = true := by rw [bne_iff_ne]; omega
      have qz : ((Q.length : Int) == 0) = true := by rw [hQn]; rfl
      clear he he2 hQn
      by_cases hz : P.length = 0
      · have pz : ((P.length : Int) == 0) = true := by rw [beq_iff_eq]; omega
        clear hz
        go_wp2_with fail
        refine (HLP.out _ _ _ HP3.out).mono ?_
        rintro e w4 ⟨rfl, hb4⟩
        go_wp2_with fail
        go_ret
        exact ⟨rfl, below_next HB3.out hb4⟩
      · have pz : ((P.length : Int) == 0) = false := by rw [beq_eq_false_iff_ne]; omega
        clear hz
        go_wp2_with fail
        refine (HLP.out _ _ _ HP3.out).mono ?_
        rintro e w4 ⟨rfl, hb4⟩
        have hby4 := (hb4.block _ ly3).trans HY3.out
        have c4 := box_cell hby4
        clear hby4
        go_wp2_with fail
        refine (HLQ.out _ _ _ (HQ3.out.below hb4)).mono ?_
        rintro e w5 ⟨rfl, hb5⟩
        go_wp2_with fail
        go_ret
        exact ⟨rfl, below_next (below_next HB3.out hb4) hb5⟩
  · have g1 : ((er : Int) == 0) = false := by rw [beq_eq_false_iff_ne]; omega
    have g2 : ((er : Int) != 0) = true := by rw [bne_iff_ne]; omega
    have pz : ((P.length : Int) == 0) = true := by rw [hPn]; rfl
    clear he hPn
    go_wp2_with fail
    refine (HLP.out _ _ _ HP3.out).mono ?_
    rintro e w4 ⟨rfl, hb4⟩
    go_wp2_with fail
    go_ret
    exact ⟨rfl, below_next HB3.out hb4⟩
end Go.Proofs.Ytpckcapilhfpcaa
