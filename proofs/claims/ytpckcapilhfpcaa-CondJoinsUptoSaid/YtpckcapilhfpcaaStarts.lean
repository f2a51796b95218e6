/-
  Pattern.Starts and Ends, and the reference's: whether a text begins, ends with bytes that the classes admit.
-/
import Derived.Test.YtpckcapilhfpcaaAdmits
import Derived.Deep.RegionWith
namespace Go.Proofs.Ytpckcapilhfpcaa
open Go.RowKit

def startsL : List Cls → List UInt8 → Bool
  | [], _ => true
  | _ :: _, [] => false
  | f :: P, x :: l => f x && startsL P l
def endsL (P : List Cls) (l : List UInt8) : Bool := decide (P.length ≤ l.length) && startsL P (l.drop (l.length - P.length))
theorem startsL_short : ∀ {P : List Cls} {l : List UInt8}, l.length < P.length → startsL P l = false
  | [], l, h => by simp at h
  | f :: P, [], _ => rfl
  | f :: P, x :: l, h => by
    simp only [startsL, Bool.and_eq_false_iff]
    exact .inr (startsL_short (by simpa using h))
theorem startsL_cons (f : Cls) (P : List Cls) (x : UInt8) (l : List UInt8) : startsL (f :: P) (x :: l) = (f x && startsL P l) := rfl
theorem dropC {P : List Cls} {k : Nat} {f : Cls} (h : P[k]? = some f) : P.drop k = f :: P.drop (k + 1) := by
  have hlt : k < P.length := (List.getElem?_eq_some_iff.1 h).1
  rw [List.drop_eq_getElem_cons hlt, (List.getElem?_eq_some_iff.1 h).2]
theorem PatOwn.drew {B : Nat} {v : Value} {P : List Cls} {w : World} (h : PatOwn B v P w) : PatOwn B v P w.drew := h
theorem box_cell {w : World} {b : Nat} {u : Value} {T : TypeId} {fr : Nat × Nat} (h : w.heap[b]? = some (.cells #[u] T fr)) : w.cell? ⟨b, 0, none⟩ = some u := by
  rw [cell_of_row w b 0 _ _ _ h]; rfl

set_option maxHeartbeats 1000000 in
theorem starts_any (B : Nat) (v : Value) (P : List Cls) (s : ByteArray) (w : World) (h : PatOwn B v P w) (hs : s.size ≤ 1125899906842624) (hP : P.length ≤ 1048576) :
    Calls Try.prog 24 #[.agg #[v], .string s] w fun e w' => e = .returned (.bool (startsL P s.data.toList)) ∧ Below w.heap.size w w' := by
  obtain ⟨a, cap, rfl⟩ := h.form
  by_cases hsh : s.size < P.length
  · have e := startsL_short (P := P) (l := s.data.toList) (by rw [len_eq]; exact hsh)
    have HE := Lib.hid e
    clear e
    go_enter Try.func24, Try.ntmps24
    go_wp2_with fail
    go_ret
    exact ⟨ret_bool HE.out.symm, (Below.refl _ _).alloc (Nat.le_refl _) _⟩
  · have hd : decide (s.size < P.length) = false := decide_eq_false hsh
    have H := Lib.hid h
    clear h
    go_enter Try.func24, Try.ntmps24
    go_wp2_with fail
    go_loopw [15] (fun i wr => ∃ k : Nat, k ≤ P.length ∧ i = .int .i64 k ∧ startsL P s.data.toList = startsL (P.drop k) (s.data.toList.drop k) ∧ wr.heap[w.heap.size]? = some (.cells #[.slice a P.length cap] 24 (0, 0)) ∧ Below w.heap.size w wr) (fun i _ => P.length - (intOf i).toNat)
    case atStart => exact ⟨0, by omega, rfl, by simp, heap_alloc_new w _, (Below.refl _ _).alloc (Nat.le_refl _) _⟩
    case round =>
      obtain ⟨k, hk, rfl, hall, hbox, hbw⟩ := hrel
      have hlt2 : w.heap.size < wr.heap.size := (Array.getElem?_eq_some_iff.1 hbox).1
      by_cases hlt : k < P.length
      · have hks : k < s.size := by omega
        obtain ⟨f, hf⟩ : ∃ f, P[k]? = some f := ⟨_, List.getElem?_eq_getElem hlt⟩
        rw [dropC hf, drop_cons s k hks, startsL_cons] at hall
        have hown : PatOwn B (.slice a P.length cap) P wr := H.out.below hbw
        have K := fun w' (h : PatOwn B (.slice a P.length cap) P w') => admits_in B _ P k f s[k] w' h hf
        have hbc := box_cell hbox
        cases hfx : f s[k] with
        | false =>
          rw [hfx] at K hall
          rw [Bool.false_and] at hall
          have HA := Lib.hid hall
          have HK := Lib.hid K
          have HB := Lib.hid hbox
          have HO := Lib.hid hown
          clear hall K hbox hown hf hfx
          go_wp2_with fail
          go_region_with (go_at_call 22; refine (HK.out _ HO.out.drew).mono ?_; rintro e w1 ⟨rfl, hb1⟩)
          go_wp2_with fail
          all_goals (go_ret; exact ⟨ret_bool HA.out.symm, hbw.drew.trans (hb1.mono (Nat.le_of_lt hlt2))⟩)
        | true =>
          rw [hfx] at K hall
          rw [Bool.true_and] at hall
          have HA := Lib.hid hall
          have HK := Lib.hid K
          have HB := Lib.hid hbox
          have HO := Lib.hid hown
          clear hall K hbox hown hf hfx
          go_wp2_with fail
          go_region_with (go_at_call 22; refine (HK.out _ HO.out.drew).mono ?_; rintro e w1 ⟨rfl, hb1⟩)
          go_wp2_with fail
          all_goals go_roundw
          case rel => exact ⟨k + 1, by omega, by go_num, HA.out, (hb1.block _ hlt2).trans HB.out, hbw.drew.trans (hb1.mono (Nat.le_of_lt hlt2))⟩
          case measure => simp [intOf]; omega
          case rel => exact ⟨k + 1, by omega, by go_num, HA.out, (hb1.block _ hlt2).trans HB.out, hbw.drew.trans (hb1.mono (Nat.le_of_lt hlt2))⟩
          case measure => simp [intOf]; omega
      · have e : startsL P s.data.toList = true := by rw [hall, List.drop_eq_nil_of_le (by omega)]; rfl
        have HE := Lib.hid e
        clear hall e hbox
        go_wp2_with fail
        go_ret
        exact ⟨ret_bool HE.out.symm, hbw⟩
end Go.Proofs.Ytpckcapilhfpcaa
