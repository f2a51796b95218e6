/-
  words.Reverse and the reference's Reverse give the bytes from the last to the first; for every text.
-/
import Derived.Test.YtanikiheenhaeaaBuf
import Derived.Deep.QuietTactic
import Derived.BigQuiet
import Derived.RegionTactic
import Derived.BigRegion
import Derived.ChangeAlike
namespace Go.Proofs.Ytanikiheenhaeaa
open Go.RowKit

set_option maxHeartbeats 400000 in
theorem refReverse_any (s : ByteArray) (w : World) (hs : s.size ≤ 140737488351232) :
    Calls Try.prog 15 #[.string s] w fun e w' => e = .returned (.string ⟨s.data.toList.reverse.toArray⟩) ∧ Below w.heap.size w w' := by
  go_enter Try.func15, Try.ntmps15
  go_wp2
  go_loopw [3, 4] (fun v i wr => ∃ j : Nat, j ≤ s.size ∧ i = .int .i64 ((j : Int) - 1) ∧ Own w.heap.size v (s.data.toList.drop j).reverse wr ∧ Below w.heap.size w wr) (fun _ i _ => (intOf i + 1).toNat)
  case atStart => exact ⟨s.size, Nat.le_refl _, rfl, by rw [drop_end s s.size (by omega)]; exact Own.made _ _ (Nat.le_refl _), (Below.refl _ _).alloc (Nat.le_refl _) _⟩
  case round =>
    obtain ⟨j, hj, rfl, hown, hbw⟩ := hrel
    have hB := hbw.size
    cases j with
    | zero =>
      have hst := run_string_own hown
      simp only [List.drop_zero] at hst
      go_wp2_with fail
      go_ret
      exact ⟨rfl, hbw⟩
    | succ m =>
      have e1 : ((m + 1 : Nat) : Int) - 1 = (m : Int) := by omega
      rw [e1]
      have hm : m < s.size := by omega
      go_wp2_with (at_builtin; refine wpList_append_byte rfl _ _ rfl w.heap.size _ (List.drop (m + 1) s.data.toList).reverse _ s[m] rfl rfl ?ho ?c1 ?c2 ?_)
      case ho => exact hown
      case c1 => simp; omega
      case c2 => exact hB
      intro v' w' hown' _ hb'
      have hbw' := hbw.trans hb'
      go_wp2
      go_roundw
      case rel => exact ⟨m, by omega, by go_num, by rw [drop_cons s m hm, List.reverse_cons]; exact hown', hbw'⟩
      case measure => simp [intOf]

/-- the ends are exchanged up to k -/
def RevAt (l : List UInt8) (k : Nat) (m : List UInt8) : Prop := m.length = l.length ∧ ∀ p, p < l.length → m[p]? = if p < k ∨ l.length - k ≤ p then l.reverse[p]? else l[p]?

theorem RevAt.start (l : List UInt8) : RevAt l 0 l := ⟨rfl, fun p hp => by rw [if_neg (by omega)]⟩
theorem RevAt.step {l m : List UInt8} {k j : Nat} (h : RevAt l k m) (hj : j + 1 + k = l.length) (hk : k < j) {x y : UInt8} (hx : m[k]? = some x) (hy : m[j]? = some y) :
    RevAt l (k + 1) ((m.set k y).set j x) := by
  obtain ⟨hl, hm⟩ := h
  refine ⟨by simpa using hl, fun p hp => ?_⟩
  have h1 := hm k (by omega)
  have h2 := hm j (by omega)
  rw [if_neg (by omega)] at h1 h2
  have hm' := hm p hp
  by_cases e1 : p = j
  · subst e1
    rw [if_pos (by omega), List.getElem?_set_self (by simp; omega), ← hx, h1, List.getElem?_reverse hp]
    congr 1
    omega
  · rw [List.getElem?_set_ne (fun e => e1 e.symm)]
    by_cases e2 : p = k
    · subst e2
      rw [if_pos (by omega), List.getElem?_set_self (by omega), ← hy, h2, List.getElem?_reverse hp]
      congr 1
      omega
    · rw [List.getElem?_set_ne (fun e => e2 e.symm), hm']
      by_cases c : p < k ∨ l.length - k ≤ p
      · rw [if_pos c, if_pos (by omega)]
      · rw [if_neg c, if_neg (by omega)]
theorem RevAt.done {l m : List UInt8} {k : Nat} (h : RevAt l k m) (hk : l.length ≤ 2 * k + 1) : m = l.reverse := by
  obtain ⟨hl, hm⟩ := h
  refine List.ext_getElem? fun p => ?_
  by_cases hp : p < l.length
  · rw [hm p hp]
    by_cases c : p < k ∨ l.length - k ≤ p
    · rw [if_pos c]
    · rw [if_neg c, List.getElem?_reverse hp]
      congr 1
      omega
  · rw [List.getElem?_eq_none (by omega), List.getElem?_eq_none (by simp; omega)]

set_option maxHeartbeats 1000000 in
theorem reverse_any (s : ByteArray) (w : World) (hs : s.size ≤ maxLen) :
    Calls Try.prog 14 #[.string s] w fun e w' => e = .returned (.string ⟨s.data.toList.reverse.toArray⟩) ∧ Below w.heap.size w w' := by
  unfold maxLen at hs
  have hcv := fun (w : World) => run_bytes_of_string (P := Try.prog) w 9 37 5 s Try.underlying9 Try.underlying37 Try.underlying5
  go_enter Try.func14, Try.ntmps14
  go_wp2
  go_loopw [4, 5] (fun i j wr => ∃ (k : Nat) (m : List UInt8), k ≤ s.size ∧ i = .int .i64 k ∧ j = .int .i64 ((s.size : Int) - 1 - k) ∧ RevAt s.data.toList k m ∧ RowB wr w.heap.size m ∧ Below w.heap.size w wr) (fun i _ _ => s.size - (intOf i).toNat)
  case atStart => exact ⟨0, _, by omega, rfl, by simp, RevAt.start _, RowB.bytes _ _ _, ((Below.refl _ _).alloc (Nat.le_refl _) _).drew⟩
  case round =>
    obtain ⟨k, m, hk, rfl, rfl, hm, hrow, hbw⟩ := hrel
    have hl : m.length = s.size := by rw [hm.1, len_eq]
    by_cases h1 : k + 1 + k < s.size
    · obtain ⟨j, hj⟩ : ∃ j : Nat, j + 1 + k = s.size := ⟨s.size - 1 - k, by omega⟩
      have ej : (s.size : Int) - 1 - k = (j : Int) := by omega
      rw [ej]
      obtain ⟨x, hx, c1⟩ := hrow.at_ (j := k) (by omega)
      obtain ⟨y, hy, c2⟩ := hrow.at_ (j := j) (by omega)
      have f1 := hrow.frozen (j := k) (by omega)
      have f2 := hrow.frozen (j := j) (by omega)
      have b1 : k < s.size := by omega
      have b2 : j < s.size := by omega
      have b3 : k < j := by omega
      have b4 : (k : Int) < (j : Int) := by omega
      have HM := Lib.hid hm
      have HR := Lib.hid hrow
      have HJ := Lib.hid hj
      have HL := Lib.hid hl
      have HX := Lib.hid hx
      have HY := Lib.hid hy
      clear hm hrow hj ej hl hx hy
      go_wp2
      go_region
      go_wp2
      have hj := HJ.out
      have hl := HL.out
      go_roundw
      case rel =>
        refine ⟨k + 1, _, by omega, by go_num, by congr 1; omega, HM.out.step (by rw [len_eq]; omega) (by omega) HX.out HY.out, (((HR.out.store (by omega) y).store (by simp; omega) x)).drew, ?_⟩
        exact ((hbw.setCell (p := ⟨w.heap.size, k, none⟩) (Nat.le_refl _) _).setCell (p := ⟨w.heap.size, j, none⟩) (Nat.le_refl _) _).drew
      case measure => simp [intOf]; omega
    · have hst := hrow.string
      have e := hm.done (by rw [len_eq]; omega)
      subst e
      rw [hl] at hst
      clear hm hl
      have h1 : (s.size : Int) - 1 - k ≤ (k : Int) := by omega
      go_wp2
      go_ret
      exact ⟨rfl, hbw⟩
end Go.Proofs.Ytanikiheenhaeaa
