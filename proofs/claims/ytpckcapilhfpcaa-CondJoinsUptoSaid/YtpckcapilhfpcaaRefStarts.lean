/-
  The reference's Starts and Ends.
-/
import Derived.Test.YtpckcapilhfpcaaStarts
namespace Go.Proofs.Ytpckcapilhfpcaa
open Go.RowKit

theorem drop_dataR (s : ByteArray) (k : Nat) : (s.extract k s.size).data.toList = s.data.toList.drop k := by
  rw [Lib.extract_data, List.take_of_length_le (by rw [List.length_drop, len_eq]; omega)]

def RefOk (Q : List ByteArray) : Prop := ∀ t ∈ Q, Piece t.data.toList ∧ t.size ≤ 1048576
def clsOfQ (Q : List ByteArray) : List Cls := Q.map fun t => clsOf t.data.toList
theorem clsOfQ_len (Q : List ByteArray) : (clsOfQ Q).length = Q.length := by simp [clsOfQ]
theorem clsOfQ_at {Q : List ByteArray} {k : Nat} {t : ByteArray} (h : Q[k]? = some t) : (clsOfQ Q)[k]? = some (clsOf t.data.toList) := by simp [clsOfQ, h]

set_option maxHeartbeats 1000000 in
theorem refStarts_any (B : Nat) (v : Value) (Q : List ByteArray) (s : ByteArray) (w : World) (h : ItemsOwn B v Q w) (hQ : RefOk Q) (hs : s.size ≤ 1125899906842624) (hP : Q.length ≤ 1048576) :
    Calls Try.prog 25 #[v, .string s] w fun e w' => e = .returned (.bool (startsL (clsOfQ Q) s.data.toList)) ∧ Below w.heap.size w w' := by
  by_cases hsh : s.size < Q.length
  · obtain ⟨a, cap, rfl⟩ := h.form
    have e := startsL_short (P := clsOfQ Q) (l := s.data.toList) (by rw [len_eq, clsOfQ_len]; exact hsh)
    have HE := Lib.hid e
    clear e
    go_enter Try.func25, Try.ntmps25
    go_wp2_with fail
    go_ret
    exact ⟨ret_bool HE.out.symm, Below.refl _ _⟩
  · have hd : decide (s.size < Q.length) = false := decide_eq_false hsh
    obtain ⟨a, cap, rfl⟩ := h.form
    have H := Lib.hid h
    clear h
    go_enter Try.func25, Try.ntmps25
    go_wp2_with fail
    go_loopw [5] (fun i wr => ∃ k : Nat, k ≤ Q.length ∧ i = .int .i64 k ∧ startsL (clsOfQ Q) s.data.toList = startsL ((clsOfQ Q).drop k) (s.data.toList.drop k) ∧ Below w.heap.size w wr) (fun i _ => Q.length - (intOf i).toNat)
    case atStart => exact ⟨0, by omega, rfl, by simp, Below.refl _ _⟩
    case round =>
      obtain ⟨k, hk, rfl, hall, hbw⟩ := hrel
      by_cases hlt : k < Q.length
      · have hks : k < s.size := by omega
        obtain ⟨g, cap', hv⟩ := H.out.somewhere (by rintro rfl; simp at hlt)
        injection hv with hv1 _ hv3
        subst hv1 hv3
        obtain ⟨t, ht⟩ : ∃ t, Q[k]? = some t := ⟨_, List.getElem?_eq_getElem hlt⟩
        rw [dropC (clsOfQ_at ht), drop_cons s k hks, startsL_cons] at hall
        have hown : ItemsOwn B (.slice (some ⟨g, 0, none⟩) Q.length cap) Q wr := H.out.below hbw
        have c0 := hown.cell ht
        have hok := hQ t (List.mem_of_getElem? ht)
        have K := fun w' => refAdmits_any t s[k] w' hok.2 hok.1
        have hge := hbw.size
        cases hfx : clsOf t.data.toList s[k] with
        | false =>
          rw [hfx] at K hall
          rw [Bool.false_and] at hall
          have HA := Lib.hid hall
          have HK := Lib.hid K
          clear hall K hown hfx hok ht
          go_wp2_with fail
          go_region_with (go_at_call 23; refine (HK.out _).mono ?_; rintro e w1 ⟨rfl, hb1⟩)
          go_wp2_with fail
          all_goals (go_ret; exact ⟨ret_bool HA.out.symm, hbw.drew.trans (hb1.mono hge)⟩)
        | true =>
          rw [hfx] at K hall
          rw [Bool.true_and] at hall
          have HA := Lib.hid hall
          have HK := Lib.hid K
          clear hall K hown hfx hok ht
          go_wp2_with fail
          go_region_with (go_at_call 23; refine (HK.out _).mono ?_; rintro e w1 ⟨rfl, hb1⟩)
          go_wp2_with fail
          all_goals go_roundw
          case rel => exact ⟨k + 1, by omega, by go_num, HA.out, hbw.drew.trans (hb1.mono hge)⟩
          case measure => simp [intOf]; omega
          case rel => exact ⟨k + 1, by omega, by go_num, HA.out, hbw.drew.trans (hb1.mono hge)⟩
          case measure => simp [intOf]; omega
      · have e : startsL (clsOfQ Q) s.data.toList = true := by rw [hall, List.drop_eq_nil_of_le (by rw [clsOfQ_len]; omega)]; rfl
        have HE := Lib.hid e
        clear hall e
        go_wp2_with fail
        go_ret
        exact ⟨ret_bool HE.out.symm, hbw⟩

set_option maxHeartbeats 1000000 in
theorem refEnds_any (B : Nat) (v : Value) (Q : List ByteArray) (s : ByteArray) (w : World) (h : ItemsOwn B v Q w) (hQ : RefOk Q) (hs : s.size ≤ 1125899906842624) (hP : Q.length ≤ 1048576) :
    Calls Try.prog 27 #[v, .string s] w fun e w' => e = .returned (.bool (endsL (clsOfQ Q) s.data.toList)) ∧ Below w.heap.size w w' := by
  obtain ⟨a, cap, rfl⟩ := h.form
  by_cases hd : Q.length ≤ s.size
  · have e : endsL (clsOfQ Q) s.data.toList = startsL (clsOfQ Q) (s.data.toList.drop (s.size - Q.length)) := by unfold endsL; rw [len_eq, clsOfQ_len, decide_eq_true hd, Bool.true_and]
    have t1 : decide (s.size < Q.length) = false := decide_eq_false (by omega)
    have K := fun w' (h : ItemsOwn B (.slice a Q.length cap) Q w') => refStarts_any B _ Q (s.extract (s.size - Q.length) s.size) w' h hQ (by rw [ByteArray.size_extract]; omega) hP
    rw [drop_dataR] at K
    have HE := Lib.hid e
    have HK := Lib.hid K
    have H := Lib.hid h
    clear e K h
    go_enter Try.func27, Try.ntmps27
    go_wp2_with fail
    refine (HK.out _ H.out).mono ?_
    rintro e w1 ⟨rfl, hb1⟩
    go_wp2_with fail
    go_ret
    exact ⟨ret_bool HE.out.symm, hb1⟩
  · have e : endsL (clsOfQ Q) s.data.toList = false := by unfold endsL; rw [len_eq, clsOfQ_len, decide_eq_false hd, Bool.false_and]
    have t1 : decide (s.size < Q.length) = true := decide_eq_true (by omega)
    have HE := Lib.hid e
    clear e h
    go_enter Try.func27, Try.ntmps27
    go_wp2_with fail
    go_ret
    exact ⟨ret_bool HE.out.symm, Below.refl _ _⟩
end Go.Proofs.Ytpckcapilhfpcaa
