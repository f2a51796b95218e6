/-
  Patterns in memory: a slice of classes that a call owns; append of one class; what else leaves it as it is.
-/
import Derived.Test.YtpckcapilhfpcaaBracket
namespace Go.Proofs.Ytpckcapilhfpcaa
open Go.RowKit

abbrev Cls := UInt8 → Bool
def clsCells (f : Cls) : List Value := [.int .u64 (clsW f 0), .int .u64 (clsW f 1), .int .u64 (clsW f 2), .int .u64 (clsW f 3)]
def patCells : List Cls → List Value
  | [] => []
  | f :: P => clsCells f ++ patCells P
theorem patCells_append : ∀ P Q : List Cls, patCells (P ++ Q) = patCells P ++ patCells Q
  | [], Q => rfl
  | f :: P, Q => by simp [patCells, patCells_append P Q]
theorem patCells_len : ∀ P : List Cls, (patCells P).length = P.length * 4
  | [] => rfl
  | f :: P => by
    simp only [patCells, List.length_append, patCells_len P, List.length_cons, clsCells, List.length_nil]
    omega
theorem patCells_at : ∀ (P : List Cls) (i k : Nat) (f : Cls), P[i]? = some f → k < 4 → (patCells P)[i * 4 + k]? = some (.int .u64 (clsW f k))
  | [], i, k, f, h, _ => by simp at h
  | g :: P, 0, k, f, h, hk => by
    simp at h
    subst h
    have : k = 0 ∨ k = 1 ∨ k = 2 ∨ k = 3 := by omega
    rcases this with h | h | h | h <;> subst h <;> rfl
  | g :: P, i + 1, k, f, h, hk => by
    have ih := patCells_at P i k f (by simpa using h) hk
    have e : (i + 1) * 4 + k = (i * 4 + k) + 4 := by omega
    rw [e]
    simpa [patCells, clsCells] using ih

/-- v is a slice of the call's own (from block B on) that holds the classes P -/
def PatOwn (B : Nat) (v : Value) (P : List Cls) (w : World) : Prop := w.ownsRow B 72 4 v P.length (patCells P)
theorem infoCls : (Try.prog.info? 72).map (fun i => (i.zero, i.size, i.bytes)) = some (some (.agg #[.int .u64 0, .int .u64 0, .int .u64 0, .int .u64 0]), 4, 32) := by kernel_rfl

section
variable {B : Nat} {v : Value} {P : List Cls} {w w' : World}
theorem PatOwn.nil (B : Nat) (w : World) : PatOwn B (.slice none 0 0) [] w := World.ownsRow_nil w B _ 4
theorem PatOwn.alloc (h : PatOwn B v P w) (o : Obj) : PatOwn B v P (w.alloc o) := World.ownsRow.alloc h o
theorem PatOwn.drewN (h : PatOwn B v P w) (n : Nat) : PatOwn B v P (w.drewN n) := h
theorem PatOwn.kept {row : Option Nat} (h : PatOwn B v P w) (hg : w.grownBy w' row) (hne : v.ownBlock = none ∨ v.ownBlock ≠ row) : PatOwn B v P w' := World.ownsRow.kept h hg hne
theorem PatOwn.below (h : PatOwn B v P w) (hb : Below w.heap.size w w') : PatOwn B v P w' := by
  refine World.ownsRow.kept (row := none) h ⟨hb.os, hb.tape, hb.output, hb.size, fun k hk _ => hb.block k hk⟩ ?_
  cases hv : v.ownBlock <;> simp
theorem PatOwn.lt (h : PatOwn B v P w) : ∀ k, v.ownBlock = some k → B ≤ k ∧ k < w.heap.size := World.ownsRow.lt h
theorem PatOwn.less (h : PatOwn B v P w) {B' : Nat} (hB : B' ≤ B) : PatOwn B' v P w := by
  refine ⟨h.1, ?_⟩
  rcases h.2 with h2 | ⟨g, cap, cur, e, hb, rest⟩
  · exact .inl h2
  · exact .inr ⟨g, cap, cur, e, Nat.le_trans hB hb, rest⟩
/-- the block of another type than the classes' is none of the pattern's -/
theorem PatOwn.ne_block {g : Nat} {cs : Array Value} {T : TypeId} {fr : Nat × Nat} (h : PatOwn B v P w) (hg : w.heap[g]? = some (.cells cs T fr)) (hT : T ≠ 72) : v.ownBlock ≠ some g := by
  rcases h.2 with ⟨rfl, _⟩ | ⟨g', cap, cur, rfl, _, hg', _⟩
  · simp [Value.ownBlock]
  · intro e
    simp only [Value.ownBlock, Option.some.injEq] at e
    subst e
    rw [hg'] at hg
    injection hg with hg
    injection hg with _ hg
    exact hT hg.symm
theorem PatOwn.store {g j : Nat} {cs : Array Value} {T : TypeId} {fr : Nat × Nat} (h : PatOwn B v P w) (hg : w.heap[g]? = some (.cells cs T fr)) (hT : T ≠ 72) (u : Value) : PatOwn B v P (w.setCell ⟨g, j, none⟩ u) :=
  h.kept (row := some g) ⟨rfl, rfl, rfl, by simp [World.setCell], fun k _ hk => Below.heap_setCell _ _ _ _ (fun e => hk (by rw [e]))⟩ (Or.inr (h.ne_block hg hT))
theorem PatOwn.form (h : PatOwn B v P w) : ∃ a cap, v = .slice a P.length cap := by
  rcases h.2 with ⟨rfl, hn⟩ | ⟨g, cap, cur, rfl, _⟩
  · exact ⟨none, 0, by rw [hn]⟩
  · exact ⟨_, cap, rfl⟩
theorem PatOwn.somewhere (h : PatOwn B v P w) (h0 : P ≠ []) : ∃ g cap, v = .slice (some ⟨g, 0, none⟩) P.length cap ∧ B ≤ g ∧ P.length ≤ cap := by
  rcases h.2 with ⟨rfl, hn⟩ | ⟨g, cap, cur, rfl, hb, _, hc, _⟩
  · exact absurd (List.eq_nil_of_length_eq_zero hn) h0
  · exact ⟨g, cap, rfl, hb, hc⟩
theorem PatOwn.cell {g n cap : Nat} (h : PatOwn B (.slice (some ⟨g, 0, none⟩) n cap) P w) {i k : Nat} {f : Cls} (hi : P[i]? = some f) (hk : k < 4) : w.cell? ⟨g, i * 4 + k, none⟩ = some (.int .u64 (clsW f k)) := by
  have := World.ownsRow.cells h (g := g) rfl (i * 4 + k) _ (patCells_at P i k f hi hk)
  have hadd : (⟨g, 0, none⟩ : Addr).add (i * 4 + k) = ⟨g, i * 4 + k, none⟩ := by unfold Addr.add; split <;> simp_all
  rw [hadd] at this
  exact this
end

/-- 'append(items, c)' for one class -/
theorem wpList_append_cls {ops : Array Oper} {rest : List Oper} {o : Oper} {a : Act} {Q : Exit → Act → World → Prop} (hgd : o.guard = none) (s x : Operand)
    (ho : o.op = .call { callee := .builtin .append, args := #[s, x], argTypes := #[22, 22] })
    (B : Nat) (v : Value) (P : List Cls) (w : World) (f : Cls) (g : Nat) (hg : g = w.heap.size) (hs : a.eval s = v) (hx : a.eval x = .slice (some ⟨g, 0, none⟩) 1 1)
    (hown : PatOwn B v P w) (hlen : P.length + 1 ≤ 1048576) (hB : B ≤ w.heap.size)
    (h : ∀ v' w', PatOwn B v' (P ++ [f]) w' → (w.alloc (.cells #[.int .u64 (clsW f 0), .int .u64 (clsW f 1), .int .u64 (clsW f 2), .int .u64 (clsW f 3)] 72)).grownBy w' v.ownBlock → Below B w w' → wpList Try.prog ops Q rest (a.put o.dst v') w') :
    wpList Try.prog ops Q (o :: rest) a (w.alloc (.cells #[.int .u64 (clsW f 0), .int .u64 (clsW f 1), .int .u64 (clsW f 2), .int .u64 (clsW f 3)] 72)) := by
  subst hg
  obtain ⟨i0, hi, hz0, hz1, hz2⟩ := info_parts infoCls
  refine wpList_append_own _ hgd s x 22 ho B 72 i0 _ 4 32 Try.underlying22 hi hz0 hz1 hz2 rfl (by decide) v P.length (patCells P) hs (World.ownsRow.alloc hown _)
    ⟨w.heap.size, 0, none⟩ 1 1 (clsCells f) hx rfl ?_ ?_ (by unfold maxLen; omega) (by omega) (by simp; omega) ?_
  · intro j u hj
    have hadd : (⟨w.heap.size, 0, none⟩ : Addr).add j = ⟨w.heap.size, j, none⟩ := by unfold Addr.add; split <;> simp_all
    rw [hadd, cell_of_row _ _ _ _ _ _ (heap_alloc_new w _)]
    simpa [clsCells] using hj
  · intro u hu
    simp only [clsCells, List.mem_cons, List.not_mem_nil, or_false] at hu
    rcases hu with rfl | rfl | rfl | rfl <;> rfl
  · intro v' w' hown' hgrow _
    refine h v' w' ?_ hgrow (((Below.refl B w).alloc hB _).grown hgrow (by simp; omega) (fun k hk => (World.ownsRow.lt hown k hk).1))
    have e1 : (P ++ [f]).length = P.length + 1 := by simp
    have e2 : patCells (P ++ [f]) = patCells P ++ clsCells f := by rw [patCells_append]; simp [patCells]
    unfold PatOwn
    rw [e1, e2]
    exact hown'
end Go.Proofs.Ytpckcapilhfpcaa
