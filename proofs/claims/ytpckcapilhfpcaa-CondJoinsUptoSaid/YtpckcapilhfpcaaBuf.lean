/-
  A slice of bytes that the call itself made, told as a list of bytes: append of one byte, its text, what else leaves it as it is. No condition but the length's bound.
-/
import Derived.Test.YtpckcapilhfpcaaBytes
import Derived.WalkKit
import Derived.WalkSpells
import Derived.WalkLawsBesides
import Derived.Laws.IdiomStrings
import Derived.Lib.UnsafeStr
import Derived.ChangeAlike
namespace Go.Proofs.Ytpckcapilhfpcaa
open Go.RowKit

/-- v is a slice of the call's own (from block B on) that holds the bytes l -/
def Own (B : Nat) (v : Value) (l : List UInt8) (w : World) : Prop := w.ownsRow B 5 1 v l.length (Lib.byteCells l)

theorem infoByte : (Try.prog.info? 5).map (fun i => (i.zero, i.size, i.bytes)) = some (some (.int .u8 0), 1, 1) := by kernel_rfl

section
variable {B : Nat} {v : Value} {l : List UInt8} {w w' : World}
theorem Own.alloc (h : Own B v l w) (o : Obj) : Own B v l (w.alloc o) := World.ownsRow.alloc h o
theorem Own.drew (h : Own B v l w) : Own B v l w.drew := h
theorem Own.drewN (h : Own B v l w) (n : Nat) : Own B v l (w.drewN n) := h
theorem Own.kept {row : Option Nat} (h : Own B v l w) (hg : w.grownBy w' row) (hne : v.ownBlock = none ∨ v.ownBlock ≠ row) : Own B v l w' := World.ownsRow.kept h hg hne
theorem Own.below (h : Own B v l w) (hb : Below w.heap.size w w') : Own B v l w' := by
  refine World.ownsRow.kept (row := none) h ⟨hb.os, hb.tape, hb.output, hb.size, fun k hk _ => hb.block k hk⟩ ?_
  cases hv : v.ownBlock <;> simp
theorem Own.lt (h : Own B v l w) : ∀ k, v.ownBlock = some k → B ≤ k ∧ k < w.heap.size := World.ownsRow.lt h
theorem Own.nil (B : Nat) (w : World) : Own B (.slice none 0 0) [] w := World.ownsRow_nil w B _ 1
theorem Own.made (B : Nat) (w : World) (hB : B ≤ w.heap.size) : Own B (.slice (some ⟨w.heap.size, 0, none⟩) 0 0) [] (w.alloc (.cells #[] 5)) :=
  World.ownsRow_made w #[] 0 hB (Nat.zero_le _) rfl
theorem Own.somewhere (h : Own B v l w) (h0 : l ≠ []) : ∃ g cap, v = .slice (some ⟨g, 0, none⟩) l.length cap := by
  rcases h.2 with ⟨rfl, hn⟩ | ⟨g, cap, cur, rfl, _⟩
  · exact absurd (List.eq_nil_of_length_eq_zero hn) h0
  · exact ⟨g, cap, rfl⟩
theorem Own.cell {g n cap : Nat} (h : Own B (.slice (some ⟨g, 0, none⟩) n cap) l w) {j : Nat} {x : UInt8} (hj : l[j]? = some x) : w.cell? ⟨g, j, none⟩ = some (.int .u8 x.toNat) := by
  have := World.ownsRow.cells h (g := g) rfl j (.int .u8 x.toNat) (by simp [Lib.byteCells, hj])
  have hadd : (⟨g, 0, none⟩ : Addr).add j = ⟨g, j, none⟩ := by unfold Addr.add; split <;> simp_all
  rw [hadd] at this
  exact this
end

/-- 'append(out, c)', outside a region that draws -/
theorem wpList_append_byte {ops : Array Oper} {rest : List Oper} {o : Oper} {a : Act} {Q : Exit → Act → World → Prop} (hgd : o.guard = none) (s x : Operand)
    (ho : o.op = .call { callee := .builtin .append, args := #[s, x], argTypes := #[92, 92] })
    (B : Nat) (v : Value) (l : List UInt8) (w : World) (c : UInt8) (hs : a.eval s = v) (hx : a.eval x = .slice (some ⟨w.heap.size, 0, none⟩) 1 1)
    (hown : Own B v l w) (hlen : l.length + 1 ≤ 140737488355328) (hB : B ≤ w.heap.size)
    (h : ∀ v' w', Own B v' (l ++ [c]) w' → (w.alloc (.cells #[.int .u8 c.toNat] 5)).grownBy w' v.ownBlock → Below B w w' → wpList Try.prog ops Q rest (a.put o.dst v') w') :
    wpList Try.prog ops Q (o :: rest) a (w.alloc (.cells #[.int .u8 c.toNat] 5)) := by
  obtain ⟨i0, hi, hz0, hz1, hz2⟩ := info_parts infoByte
  refine wpList_append_own _ hgd s x 92 ho B 5 i0 (.int .u8 0) 1 1 Try.underlying92 hi hz0 hz1 hz2 rfl (by decide) v l.length (Lib.byteCells l) hs (World.ownsRow.alloc hown _)
    ⟨w.heap.size, 0, none⟩ 1 1 [.int .u8 c.toNat] hx rfl ?_ ?_ (by unfold maxLen; omega) (by omega) (by simp; omega) ?_
  · intro j u hj
    match j, hj with
    | 0, hj => simp at hj; subst hj; simp [Addr.add]
  · intro u hu; simp at hu; subst hu; rfl
  · intro v' w' hown' hgrow _
    refine h v' w' ?_ hgrow (((Below.refl B w).alloc hB _).grown hgrow (by simp; omega) (fun k hk => (World.ownsRow.lt hown k hk).1))
    have e1 : (l ++ [c]).length = l.length + 1 := by simp
    unfold Own
    rw [e1, Lib.byteCells_append]
    exact hown'

/-- .. where the byte is told as a number -/
theorem wpList_append_num {ops : Array Oper} {rest : List Oper} {o : Oper} {a : Act} {Q : Exit → Act → World → Prop} (hgd : o.guard = none) (s x : Operand)
    (ho : o.op = .call { callee := .builtin .append, args := #[s, x], argTypes := #[92, 92] })
    (B : Nat) (v : Value) (l : List UInt8) (w : World) (c : UInt8) (n : Int) (hn : (c.toNat : Int) = n) (hs : a.eval s = v) (hx : a.eval x = .slice (some ⟨w.heap.size, 0, none⟩) 1 1)
    (hown : Own B v l w) (hlen : l.length + 1 ≤ 140737488355328) (hB : B ≤ w.heap.size)
    (h : ∀ v' w', Own B v' (l ++ [c]) w' → (w.alloc (.cells #[.int .u8 c.toNat] 5)).grownBy w' v.ownBlock → Below B w w' → wpList Try.prog ops Q rest (a.put o.dst v') w') :
    wpList Try.prog ops Q (o :: rest) a (w.alloc (.cells #[.int .u8 n] 5)) := by
  subst hn
  exact wpList_append_byte hgd s x ho B v l w c hs hx hown hlen hB h

/-- 'string(out)' -/
theorem run_string_own {B : Nat} {v : Value} {l : List UInt8} {w : World} (h : Own B v l w) : (convert 92 9 v).run Try.prog w = .ok (.string ⟨l.toArray⟩) w := by
  rcases h.2 with ⟨rfl, hn⟩ | ⟨g, cap, cur, rfl, _, hg, _, _, _, htk⟩
  · have hl : l = [] := List.eq_nil_of_length_eq_zero hn
    subst hl
    rw [run_convert_bytes_string w _ _ _ _ _ _ Try.underlying92 Try.underlying5 Try.underlying9]
    rfl
  · refine run_convert_bytes_back w _ _ _ ⟨g, 0, none⟩ cap l Try.underlying92 Try.underlying5 Try.underlying9 fun j hj => ?_
    exact World.ownsRow.cells h (g := g) rfl j _ (by simp [Lib.byteCells, List.getElem?_eq_getElem hj])

/-! ### a block that holds bytes at its head, none of them frozen -/
def RowB (w : World) (g : Nat) (m : List UInt8) : Prop := ∃ rest fr, w.heap[g]? = some (.cells (Lib.byteCells m ++ rest).toArray 5 fr) ∧ m.length ≤ fr.1

section
variable {w : World} {g : Nat} {m : List UInt8}
theorem RowB.drew (h : RowB w g m) : RowB w.drew g m := h
theorem RowB.drewN (h : RowB w g m) (n : Nat) : RowB (w.drewN n) g m := h
theorem RowB.alike {w' : World} (h : RowB w g m) (ha : w'.Alike w) : RowB w' g m := by
  obtain ⟨rest, fr, hg, hl⟩ := h
  exact ⟨rest, fr, by rw [ha.1]; exact hg, hl⟩
theorem RowB.cell (h : RowB w g m) {j : Nat} (hj : j < m.length) : w.cell? ⟨g, j, none⟩ = some (.int .u8 m[j].toNat) := by
  obtain ⟨rest, fr, hg, hl⟩ := h
  rw [cell_of_row w g j _ _ fr hg]
  simp [List.getElem?_append, Lib.byteCells, hj]
theorem RowB.at_ (h : RowB w g m) {j : Nat} (hj : j < m.length) : ∃ x : UInt8, m[j]? = some x ∧ w.cell? ⟨g, j, none⟩ = some (.int .u8 x.toNat) :=
  ⟨m[j], List.getElem?_eq_getElem hj, h.cell hj⟩
theorem RowB.frozen (h : RowB w g m) {j : Nat} (hj : j < m.length) : w.frozen? ⟨g, j, none⟩ = false := by
  obtain ⟨rest, fr, hg, hl⟩ := h
  simp only [World.frozen?, hg]
  simp
  omega
theorem RowB.lt (h : RowB w g m) : g < w.heap.size := by
  obtain ⟨rest, fr, hg, hl⟩ := h
  exact (Array.getElem?_eq_some_iff.1 hg).1
theorem RowB.store (h : RowB w g m) {j : Nat} (hj : j < m.length) (c : UInt8) : RowB (w.setCell ⟨g, j, none⟩ (.int .u8 c.toNat)) g (m.set j c) := by
  obtain ⟨rest, fr, hg, hl⟩ := h
  refine ⟨rest, fr, ?_, by simpa using hl⟩
  simp only [World.setCell, Array.getElem?_modify, if_true, hg, Option.map_some]
  congr 2
  apply Array.ext'
  simp only [Option.isSome_none, Bool.false_eq_true, if_false, Array.toList_setIfInBounds, Lib.byteCells, List.map_set]
  rw [List.set_append_left _ _ (by simpa using hj)]
theorem RowB.bytes (w : World) (s : ByteArray) (cap : Nat) : RowB (w.alloc (.cells (bytesRow s cap) 5 ((bytesRow s cap).size, (bytesRow s cap).size + 1))) w.heap.size s.data.toList := by
  refine ⟨List.replicate (cap - s.size) (.int .u8 0), ((bytesRow s cap).size, (bytesRow s cap).size + 1), ?_, ?_⟩
  · rw [heap_alloc_new]
    congr 2
    simp [bytesRow, Lib.byteCells]
  · simp only [bytesRow, Array.size_append, Array.size_map, Array.length_toList]
    omega
theorem RowB.string (h : RowB w g m) (cap : Nat) : (convert 92 9 (.slice (some ⟨g, 0, none⟩) m.length cap)).run Try.prog w = .ok (.string ⟨m.toArray⟩) w :=
  run_convert_bytes_back w _ _ _ ⟨g, 0, none⟩ cap m Try.underlying92 Try.underlying5 Try.underlying9 fun j hj => by
    have hadd : (⟨g, 0, none⟩ : Addr).add j = ⟨g, j, none⟩ := by unfold Addr.add; split <;> simp_all
    rw [hadd]
    exact h.cell hj
end
end Go.Proofs.Ytpckcapilhfpcaa
