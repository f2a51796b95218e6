/-
  The law RulesApart: its walk.
-/
import Derived.Test.YtpckcapilhfpcaaRulesChain
namespace Go.Proofs.Ytpckcapilhfpcaa
open Go.RowKit

def rulesCells (Rs : List RV) : List Value := (Rs.map RV.row).flatten
theorem rulesCells_at : ∀ (Rs : List RV) (i j : Nat) (r : RV) (v : Value), Rs[i]? = some r → r.row[j]? = some v → (rulesCells Rs)[i * 7 + j]? = some v
  | [], i, j, r, v, h, _ => by simp at h
  | x :: Rs, 0, j, r, v, h, hv => by
    simp at h
    subst h
    have hj : j < x.row.length := (List.getElem?_eq_some_iff.1 hv).1
    simp only [rulesCells, List.map_cons, List.flatten_cons, Nat.zero_mul, Nat.zero_add]
    rw [List.getElem?_append_left hj]
    exact hv
  | x :: Rs, i + 1, j, r, v, h, hv => by
    have ih := rulesCells_at Rs i j r v (by simpa using h) hv
    have hl : x.row.length = 7 := rfl
    simp only [rulesCells, List.map_cons, List.flatten_cons]
    rw [List.getElem?_append_right (by rw [hl]; omega), hl, show (i + 1) * 7 + j - 7 = i * 7 + j from by omega]
    exact ih
theorem RulesAt.of_row {Rs : List RV} {w : World} {g : Nat} {cur : Array Value} {T : TypeId} {fr : Nat × Nat} (h : w.heap[g]? = some (.cells cur T fr)) (hc : ∀ (q : Nat) (v : Value), (rulesCells Rs)[q]? = some v → cur[q]? = some v) : RulesAt Rs g 0 w := by
  intro i r hr j v hv
  rw [cell_of_row w g _ _ _ _ h, Nat.zero_add]
  exact hc _ _ (rulesCells_at Rs i j r v hr hv)
theorem RulesIn.of_row {Rs : List RV} {w : World} {g : Nat} {cur : Array Value} {T : TypeId} {fr : Nat × Nat} (h : w.heap[g]? = some (.cells cur T fr)) (hc : ∀ (q : Nat) (v : Value), (rulesCells Rs)[q]? = some v → cur[q]? = some v) : RulesIn (some ⟨g, 0, none⟩) Rs w :=
  fun _ => ⟨g, 0, rfl, RulesAt.of_row h hc⟩
theorem row_set {w : World} {g : Nat} {cs : Array Value} {T : TypeId} {fr : Nat × Nat} (h : w.heap[g]? = some (.cells cs T fr)) (q : Nat) (hq : g ≠ q) (j : Nat) (v : Value) : (w.setCell ⟨q, j, none⟩ v).heap[g]? = some (.cells cs T fr) :=
  (Below.heap_setCell w ⟨q, j, none⟩ v g hq).trans h

set_option maxHeartbeats 4000000 in
set_option maxRecDepth 100000 in
theorem rulesApart_walk (word : ByteArray) (k1 fl1 : Int) (cr1 : Bool) (S1 A1 C1 : ByteArray) (a1 : Option Addr) (n1 c1 : Nat) (k2 fl2 : Int) (cr2 : Bool) (S2 A2 C2 : ByteArray) (a2 : Option Addr) (n2 c2 : Nat) (w : World)
    (hw : word.size ≤ 140737488351232) (hS1 : S1.size ≤ 140737488351232) (hA1 : A1.size ≤ 140737488351232) (hS2 : S2.size ≤ 140737488351232) (hA2 : A2.size ≤ 140737488351232) :
    Calls Try.prog 15 #[.string word, .agg #[.int .i64 k1, .int .u16 fl1, .bool cr1, .string S1, .string A1, .string C1, .slice a1 n1 c1], .agg #[.int .i64 k2, .int .u16 fl2, .bool cr2, .string S2, .string A2, .string C2, .slice a2 n2 c2]] w fun e w' => e = .returned (.bool true) ∧ Below w.heap.size w w' := by
  obtain ⟨b1, hb1⟩ : ∃ b, RuleP.fits ⟨2, S1.data.toList, A1.data.toList, C1.data.toList⟩ word.data.toList = b := ⟨_, rfl⟩
  obtain ⟨b2, hb2⟩ : ∃ b, RuleP.fits ⟨1, S2.data.toList, A2.data.toList, C2.data.toList⟩ word.data.toList = b := ⟨_, rfl⟩
  have HF1 := Caged.mk (fun w => fits_bool 2 fl1 cr1 S1 A1 C1 a1 n1 c1 word b1 ⟨hb1⟩ w (by omega))
  have HF2 := Caged.mk (fun w => fits_bool 1 fl2 cr2 S2 A2 C2 a2 n2 c2 word b2 ⟨hb2⟩ w (by omega))
  have K1 := fun cap g w h => chain_any (some ⟨g, 0, none⟩) cap [⟨2, fl1, cr1, S1, A1, C1, a1, n1, c1⟩, ⟨1, fl2, cr2, S2, A2, C2, a2, n2, c2⟩] word w h (by simp) (by simp only [sumOf]; omega)
  have K2 := fun cap g w h => chain_any (some ⟨g, 0, none⟩) cap [⟨1, fl2, cr2, S2, A2, C2, a2, n2, c2⟩, ⟨2, fl1, cr1, S1, A1, C1, a1, n1, c1⟩] word w h (by simp) (by simp only [sumOf]; omega)
  have hsame : b1 = true → b2 = true → S1.size + S2.size ≤ word.size → ∀ x y, chainR [⟨2, S1.data.toList, A1.data.toList, C1.data.toList⟩, ⟨1, S2.data.toList, A2.data.toList, C2.data.toList⟩] word.data.toList = some x →
      chainR [⟨1, S2.data.toList, A2.data.toList, C2.data.toList⟩, ⟨2, S1.data.toList, A1.data.toList, C1.data.toList⟩] word.data.toList = some y → x = y := by
    intro e1 e2 hl x y hx hy
    exact apart_same rfl rfl (by rw [hb1]; exact e1) (by rw [hb2]; exact e2) (by simp only [len_eq]; exact hl) hx hy
  unfold OutPost at K1 K2
  simp only [List.map_cons, List.map_nil, RV.p, List.length_cons, List.length_nil, Nat.zero_add, Nat.reduceAdd] at K1 K2
  generalize chainR [⟨2, S1.data.toList, A1.data.toList, C1.data.toList⟩, ⟨1, S2.data.toList, A2.data.toList, C2.data.toList⟩] word.data.toList = o1 at K1 hsame
  generalize chainR [⟨1, S2.data.toList, A2.data.toList, C2.data.toList⟩, ⟨2, S1.data.toList, A1.data.toList, C1.data.toList⟩] word.data.toList = o2 at K2 hsame
  have hXY : b1 = true → b2 = true → S1.size + S2.size ≤ word.size → o1.isSome = true → o2.isSome = true → outS o1 = outS o2 := by
    intro e1 e2 hl h1 h2
    cases o1 with
    | none => cases h1
    | some x =>
      cases o2 with
      | none => cases h2
      | some y => rw [hsame e1 e2 hl x y rfl rfl]
  generalize outS o1 = X at K1 hXY
  generalize outS o2 = Y at K2 hXY
  generalize o1.isSome = d1 at K1 hXY
  generalize o2.isSome = d2 at K2 hXY
  have HK1 := Caged.mk K1
  have HK2 := Caged.mk K2
  have HXY := Caged.mk hXY
  clear K1 K2 hXY hsame hb1 hb2
  have HX := Caged.mk (heap_alloc_new w (.cells #[.int .i64 k1, .int .u16 fl1, .bool cr1, .string S1, .string A1, .string C1, .slice a1 n1 c1] 53))
  have HY := Caged.mk (heap_alloc_new (w.alloc (.cells #[.int .i64 k1, .int .u16 fl1, .bool cr1, .string S1, .string A1, .string C1, .slice a1 n1 c1] 53)) (.cells #[.int .i64 k2, .int .u16 fl2, .bool cr2, .string S2, .string A2, .string C2, .slice a2 n2 c2] 53))
  have hXX := HX.out
  have HX0 := Caged.mk ((Below.heap_alloc _ (.cells #[.int .i64 k2, .int .u16 fl2, .bool cr2, .string S2, .string A2, .string C2, .slice a2 n2 c2] 53) _ (Array.getElem?_eq_some_iff.1 hXX).1).trans hXX)
  clear hXX
  go_enter Try.func15, Try.ntmps15
  go_wp2_with fail
  refine (wakes15_any _).mono ?_
  rintro e w1 ⟨rfl, hbw⟩
  have hbw1 : Below w.heap.size w w1 := below_next (below_box (below_box (Below.refl _ _) _) _) hbw
  have hx1 := row_next HX0.out hbw
  have hy1 := row_next HY.out hbw
  simp only [World.size_alloc] at hy1
  obtain ⟨x0, x1, x2, x3, x4, x5, x6⟩ := row7 hx1
  obtain ⟨y0, y1, y2, y3, y4, y5, y6⟩ := row7 hy1
  have zx : w1.frozen? ⟨w.heap.size, 0, none⟩ = false := by simp [World.frozen?, hx1]
  have zy : w1.frozen? ⟨w.heap.size + 1, 0, none⟩ = false := by simp [World.frozen?, hy1]
  have hx2 : ((w1.setCell ⟨w.heap.size, 0, none⟩ (.int .i64 2)).setCell ⟨w.heap.size + 1, 0, none⟩ (.int .i64 1)).heap[w.heap.size]? = some (.cells #[.int .i64 2, .int .u16 fl1, .bool cr1, .string S1, .string A1, .string C1, .slice a1 n1 c1] 53 (0, 0)) :=
    row_set (set_at hx1 0 _) _ (by omega) _ _
  have hy2 : ((w1.setCell ⟨w.heap.size, 0, none⟩ (.int .i64 2)).setCell ⟨w.heap.size + 1, 0, none⟩ (.int .i64 1)).heap[w.heap.size + 1]? = some (.cells #[.int .i64 1, .int .u16 fl2, .bool cr2, .string S2, .string A2, .string C2, .slice a2 n2 c2] 53 (0, 0)) :=
    set_at (row_set hy1 _ (by omega) 0 (.int .i64 2)) 0 _
  have hbw2 : Below w.heap.size w ((w1.setCell ⟨w.heap.size, 0, none⟩ (.int .i64 2)).setCell ⟨w.heap.size + 1, 0, none⟩ (.int .i64 1)) := (hbw1.setCell (p := ⟨w.heap.size, 0, none⟩) (Nat.le_refl _) _).setCell (p := ⟨w.heap.size + 1, 0, none⟩) (Nat.le_succ _) _
  have HX2 := Caged.mk hx2
  have HY2 := Caged.mk hy2
  clear hx1 hy1 hx2 hy2 hbw
  go_wp2_with fail
  refine (HF1.out _).mono ?_
  rintro e w3 ⟨rfl, hb3⟩
  have hbw3 := below_next hbw2 hb3
  have HX3 := Caged.mk (row_next HX2.out hb3)
  have HY3 := Caged.mk (row_next HY2.out hb3)
  clear x0 x1 x2 x3 x4 x5 x6 y0 y1 y2 y3 y4 y5 y6 zx zy hb3 hbw2 hbw1
  obtain ⟨x0, x1, x2, x3, x4, x5, x6⟩ := row7 HX3.out
  obtain ⟨y0, y1, y2, y3, y4, y5, y6⟩ := row7 HY3.out
  cases b1 with
  | false =>
    go_wp2_with fail
    go_ret
    exact ⟨rfl, hbw3⟩
  | true =>
    go_wp2_with fail
    refine (HF2.out _).mono ?_
    rintro e w4 ⟨rfl, hb4⟩
    have hbw4 := below_next hbw3 hb4
    have HX4 := Caged.mk (row_next HX3.out hb4)
    have HY4 := Caged.mk (row_next HY3.out hb4)
    clear x0 x1 x2 x3 x4 x5 x6 y0 y1 y2 y3 y4 y5 y6
    obtain ⟨x0, x1, x2, x3, x4, x5, x6⟩ := row7 HX4.out
    obtain ⟨y0, y1, y2, y3, y4, y5, y6⟩ := row7 HY4.out
    cases b2 with
    | false =>
      go_wp2_with fail
      go_ret
      exact ⟨rfl, hbw4⟩
    | true =>
      by_cases hl : S1.size + S2.size ≤ word.size
      · have t1 : decide ((word.size : Int) < (S1.size : Int) + (S2.size : Int)) = false := decide_eq_false (by omega)
        have t2 : decide (word.size < S1.size + S2.size) = false := decide_eq_false (by omega)
        go_wp2_with fail
        have hr1 := heap_alloc_new w4 (.cells (rulesCells [⟨2, fl1, cr1, S1, A1, C1, a1, n1, c1⟩, ⟨1, fl2, cr2, S2, A2, C2, a2, n2, c2⟩]).toArray 53)
        refine (HK1.out _ _ _ (RulesIn.of_row hr1 (fun q v h => by simpa using h))).mono ?_
        rintro e w5 ⟨rfl, hb5⟩
        have hbw5 := below_next (below_box hbw4 _) hb5
        have hx5 := row_next ((Below.heap_alloc w4 (.cells (rulesCells [⟨2, fl1, cr1, S1, A1, C1, a1, n1, c1⟩, ⟨1, fl2, cr2, S2, A2, C2, a2, n2, c2⟩]).toArray 53) _ (Array.getElem?_eq_some_iff.1 HX4.out).1).trans HX4.out) hb5
        have hy5 := row_next ((Below.heap_alloc w4 (.cells (rulesCells [⟨2, fl1, cr1, S1, A1, C1, a1, n1, c1⟩, ⟨1, fl2, cr2, S2, A2, C2, a2, n2, c2⟩]).toArray 53) _ (Array.getElem?_eq_some_iff.1 HY4.out).1).trans HY4.out) hb5
        clear x0 x1 x2 x3 x4 x5 x6 y0 y1 y2 y3 y4 y5 y6 hr1 hb5
        obtain ⟨x0, x1, x2, x3, x4, x5, x6⟩ := row7 hx5
        obtain ⟨y0, y1, y2, y3, y4, y5, y6⟩ := row7 hy5
        clear hx5 hy5
        go_wp2_with fail
        have hr2 := heap_alloc_new w5 (.cells (rulesCells [⟨1, fl2, cr2, S2, A2, C2, a2, n2, c2⟩, ⟨2, fl1, cr1, S1, A1, C1, a1, n1, c1⟩]).toArray 53)
        refine (HK2.out _ _ _ (RulesIn.of_row hr2 (fun q v h => by simpa using h))).mono ?_
        rintro e w6 ⟨rfl, hb6⟩
        have hbw6 := below_next (below_box hbw5 _) hb6
        clear hr2 hb6
        cases d1 with
        | false =>
          go_wp2_with fail
          go_ret
          exact ⟨rfl, hbw6⟩
        | true =>
          cases d2 with
          | false =>
            go_wp2_with fail
            go_ret
            exact ⟨rfl, hbw6⟩
          | true =>
            have e := HXY.out (by first | rfl | trivial) (by first | rfl | trivial) hl (by first | rfl | trivial) (by first | rfl | trivial)
            subst e
            go_wp2_with fail
            go_ret
            exact ⟨rfl, hbw6⟩
      · have t1 : decide ((word.size : Int) < (S1.size : Int) + (S2.size : Int)) = true := decide_eq_true (by omega)
        have t2 : decide (word.size < S1.size + S2.size) = true := decide_eq_true (by omega)
        go_wp2_with fail
        go_ret
        exact ⟨rfl, hbw4⟩
end Go.Proofs.Ytpckcapilhfpcaa
