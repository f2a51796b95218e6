/-
  An argument that is a rule, opened: its seven cells, and what each reads as.
-/
import Derived.Test.YtpckcapilhfpcaaLaw
import Derived.Lib.SmallJoins
namespace Go.Proofs.Ytpckcapilhfpcaa
open Go.ChangeShapes Go.WideShapes Go.ChangeAt Go.RowKit

section
variable {H : Type} {enc : TypeId × Value → H} {w : World} {base : Nat} {sp : Nat → Bool} {held : Bool}

theorem cells_rule : Try.prog.cellsOf 53 = 7 := by kernel_rfl
theorem cells_f0 : Try.prog.cellsOf 3 = 1 := by kernel_rfl
theorem cells_f1 : Try.prog.cellsOf 50 = 1 := by kernel_rfl
theorem cells_f2 : Try.prog.cellsOf 4 = 1 := by kernel_rfl
theorem cells_f3 : Try.prog.cellsOf 9 = 1 := by kernel_rfl
theorem cells_f6 : Try.prog.cellsOf 51 = 1 := by kernel_rfl
theorem list7 {α : Type} {l : List α} (h : l.length = 7) : ∃ x0 x1 x2 x3 x4 x5 x6, l = [x0, x1, x2, x3, x4, x5, x6] := by
  match l, h with
  | [x0, x1, x2, x3, x4, x5, x6], _ => exact ⟨x0, x1, x2, x3, x4, x5, x6, rfl⟩

theorem trod_rule {fuel : Nat} {cs : List Value} {x : DataW H × List MemPlace} (h : DataW.trod enc Try.prog w base sp held fuel 53 cs = some x) :
    ∃ (k fl : Int) (cr : Bool) (S A C : ByteArray) (a : Option Addr) (n c : Nat) (d6 : DataW H), cs = [.int .i64 k, .int .u16 fl, .bool cr, .string S, .string A, .string C, .slice a n c] ∧
      x.1 = .agg [.lit (.int .i64 k), .lit (.int .u16 fl), .lit (.bool cr), .lit (.string S.data.toList), .lit (.string A.data.toList), .lit (.string C.data.toList), d6] := by
  obtain ⟨xs, m, _, hx, hl, hlen, hf⟩ := DataW.trod_struct Try.underlying53 h
  rw [cells_rule] at hl
  obtain ⟨c0, c1, c2, c3, c4, c5, c6, rfl⟩ := list7 hl
  obtain ⟨y0, y1, y2, y3, y4, y5, y6, rfl⟩ := list7 hlen
  have h0 : DataW.trod enc Try.prog w base sp held m 3 [c0] = some y0 := by simpa [cells_f0] using hf 0 _ rfl
  have h1 : DataW.trod enc Try.prog w base sp held m 50 [c1] = some y1 := by simpa [cells_f1] using hf 1 _ rfl
  have h2 : DataW.trod enc Try.prog w base sp held m 4 [c2] = some y2 := by simpa [cells_f2] using hf 2 _ rfl
  have h3 : DataW.trod enc Try.prog w base sp held m 9 [c3] = some y3 := by simpa [cells_f3] using hf 3 _ rfl
  have h4 : DataW.trod enc Try.prog w base sp held m 9 [c4] = some y4 := by simpa [cells_f3] using hf 4 _ rfl
  have h5 : DataW.trod enc Try.prog w base sp held m 9 [c5] = some y5 := by simpa [cells_f3] using hf 5 _ rfl
  have h6 : DataW.trod enc Try.prog w base sp held m 51 [c6] = some y6 := by simpa [cells_f6] using hf 6 _ rfl
  obtain ⟨k, e0, r0, _⟩ := DataW.trod_int Try.underlying3 h0
  obtain ⟨fl, e1, r1, _⟩ := DataW.trod_int Try.underlying50 h1
  obtain ⟨cr, e2, r2⟩ := DataW.trod_bool Try.underlying4 h2
  obtain ⟨S, e3, r3, _⟩ := DataW.trod_string Try.underlying9 h3
  obtain ⟨A, e4, r4, _⟩ := DataW.trod_string Try.underlying9 h4
  obtain ⟨C, e5, r5, _⟩ := DataW.trod_string Try.underlying9 h5
  obtain ⟨a, n, c, e6⟩ := Joins.slice_form Try.underlying51 h6
  simp only [List.cons.injEq, and_true] at e0 e1 e2 e3 e4 e5 e6
  subst e0 e1 e2 e3 e4 e5 e6 r0 r1 r2 r3 r4 r5
  exact ⟨k, fl, cr, S, A, C, a, n, c, y6.1, rfl, by rw [hx]; rfl⟩

theorem open_rule {r : Reach} {b0 : Nat} {v : Value} {d : DataW H} {p : List MemPlace} (hv : Value.okWide Try.prog w r b0 53 v) (h : DataW.Trod enc Try.prog w base sp held 53 v d p) :
    ∃ (k fl : Int) (cr : Bool) (S A C : ByteArray) (a : Option Addr) (n c : Nat) (d6 : DataW H), v = .agg #[.int .i64 k, .int .u16 fl, .bool cr, .string S, .string A, .string C, .slice a n c] ∧
      d = .agg [.lit (.int .i64 k), .lit (.int .u16 fl), .lit (.bool cr), .lit (.string S.data.toList), .lit (.string A.data.toList), .lit (.string C.data.toList), d6] := by
  obtain ⟨cs, rfl, hsz⟩ := okWide_struct Try.underlying53 hv
  obtain ⟨fuel, hf⟩ := h
  obtain ⟨k, fl, cr, S, A, C, a, n, c, d6, h1, h2⟩ := trod_rule hf
  refine ⟨k, fl, cr, S, A, C, a, n, c, d6, ?_, h2⟩
  congr 1
  apply Array.ext'
  simpa [Value.cells] using h1

/-- what the form's own reach gives of a rule's strings -/
theorem reach_rule {ts : List TypeId} {ds : List (DataW H)} (h : (DataW.weightsEach Try.prog ts ds).all (· ≤ reachBytes) = true) (j : Nat) (k fl : Int) (cr : Bool) (S A C : ByteArray) (d6 : DataW H) (ht : ts[j]? = some 53)
    (hd : ds[j]? = some (.agg [.lit (.int .i64 k), .lit (.int .u16 fl), .lit (.bool cr), .lit (.string S.data.toList), .lit (.string A.data.toList), .lit (.string C.data.toList), d6])) :
    S.size ≤ 140737488351232 ∧ A.size ≤ 140737488351232 ∧ C.size ≤ 140737488351232 := by
  have key : ∀ n ∈ [S.size, A.size, C.size], n ≤ 140737488351232 := by
    intro n hn
    have := List.all_eq_true.1 h _ (DataW.weights_mem_each ht hd n (by
      simp only [DataW.weights, Try.underlying53, List.map_cons, List.map_nil, DataW.weightsEach, Array.length_toList]
      simp at hn ⊢
      rcases hn with rfl | rfl | rfl
      · exact .inl rfl
      · exact .inr (.inl rfl)
      · exact .inr (.inr (.inl rfl))))
    exact of_decide_eq_true this
  exact ⟨key _ (by simp), key _ (by simp), key _ (by simp)⟩
end
end Go.Proofs.Ytpckcapilhfpcaa
