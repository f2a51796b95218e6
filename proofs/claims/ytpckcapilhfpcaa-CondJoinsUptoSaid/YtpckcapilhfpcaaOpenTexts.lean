/-
  An argument that is a list of texts, opened.
-/
import Derived.Test.YtpckcapilhfpcaaLaw
import Derived.Deep.Strs
namespace Go.Proofs.Ytpckcapilhfpcaa
open Go.ChangeShapes Go.WideShapes Go.ChangeAt Go.RowKit

def TextsIn (a : Option Addr) (Ts : List ByteArray) (w : World) : Prop := Ts ≠ [] → ∃ g off, a = some ⟨g, off, none⟩ ∧ ∀ i s, Ts[i]? = some s → w.cell? ⟨g, off + i, none⟩ = some (.string s)
def sumT : List ByteArray → Nat
  | [] => 0
  | s :: r => s.size + 1 + sumT r
theorem TextsIn.below {a : Option Addr} {Ts : List ByteArray} {w w' : World} (h : TextsIn a Ts w) (hb : Below w.heap.size w w') : TextsIn a Ts w' := by
  intro h0
  obtain ⟨g, off, e, hc⟩ := h h0
  refine ⟨g, off, e, fun i s hs => ?_⟩
  have h1 := hc i s hs
  rw [hb.cell (p := ⟨g, off + i, none⟩) (World.block_lt_of_cell? w ⟨g, off + i, none⟩ h1)]
  exact h1

section
variable {H : Type} {enc : TypeId × Value → H} {w : World} {base : Nat} {sp : Nat → Bool} {held : Bool}
theorem cells_text : Try.prog.cellsOf 9 = 1 := by kernel_rfl

theorem bulk_texts : ∀ Ts : List ByteArray, sumT Ts ≤ Rows.uptoBulkAll (Ts.map fun s => (DataW.lit (.string s.data.toList) : DataW H))
  | [] => by simp [sumT]
  | s :: Ts => by
    have ih := bulk_texts Ts
    have h1 : s.data.size = s.size := rfl
    simp only [sumT, List.map_cons, Rows.uptoBulkAll, Rows.uptoBulk, Array.length_toList]
    omega

theorem open_texts {r : Reach} {b0 : Nat} {v : Value} {d : DataW H} {p : List MemPlace} (hv : Value.okWide Try.prog w r b0 46 v) (h : DataW.Trod enc Try.prog w base sp held 46 v d p) :
    ∃ (a : Option Addr) (cap : Nat) (Ts : List ByteArray), v = .slice a Ts.length cap ∧ TextsIn a Ts w ∧ (a = none → cap = 0) ∧ sumT Ts ≤ Rows.uptoBulk d := by
  obtain ⟨a, len, cap, rfl⟩ := okWide_slice Try.underlying46 hv
  obtain ⟨fuel, hf⟩ := h
  rcases Deep.open_strs Try.underlying46 Try.underlying9 cells_text hf with ⟨hcs, hx⟩ | ⟨ad, len', cap', m, Sx, hcs, hb, hl, hm, hmm, hx, hall⟩
  · have e : Value.slice a len cap = .slice none 0 0 := by simpa [Value.cells] using hcs
    injection e with e1 e2 e3
    subst e1 e2 e3
    exact ⟨none, 0, [], rfl, fun h => absurd rfl h, fun _ => rfl, by simp [sumT]⟩
  · have e : Value.slice a len cap = .slice (some ad) len' cap' := by simpa [Value.cells] using hcs
    injection e with e1 e2 e3
    subst e1 e2 e3
    have hlm : len ≤ m := by rw [hmm]; split <;> omega
    have hl2 : ((List.range len).map Sx).length = len := by simp
    refine ⟨some ad, cap, (List.range len).map Sx, by rw [hl2], fun h0 => ?_, fun h => (by cases h), ?_⟩
    · have hpos : 0 < len := by
        rcases Nat.eq_zero_or_pos len with h | h
        · subst h; exact absurd rfl h0
        · exact h
      have hc0 := (hall 0 (by omega)).1
      have hsp : ad.spot = none := by
        have e0 : ad.add 0 = ad := by simp [Addr.add]
        rw [e0] at hc0
        cases hs : ad.spot with
        | none => rfl
        | some x =>
          unfold World.cell? at hc0
          rw [hs] at hc0
          split at hc0 <;> simp at hc0
      obtain ⟨g, off, spot⟩ := ad
      simp only at hsp
      subst hsp
      refine ⟨g, off, rfl, fun i s hs => ?_⟩
      have hi : i < len := by
        have := (List.getElem?_eq_some_iff.1 hs).1
        rwa [hl2] at this
      rw [List.getElem?_map, List.getElem?_range hi] at hs
      simp at hs
      subst hs
      have := (hall i (by omega)).1
      rw [Addr.add_lit] at this
      exact this
    · simp only [Prod.mk.injEq] at hx
      rw [hx.1]
      have := bulk_texts (H := H) ((List.range len).map Sx)
      rw [List.map_map] at this
      simp only [Rows.uptoBulk]
      have e2 : ((fun s => (DataW.lit (.string s.data.toList) : DataW H)) ∘ Sx) = fun i => DataW.lit (.string (Sx i).data.toList) := rfl
      rw [e2] at this
      omega
end
end Go.Proofs.Ytpckcapilhfpcaa
