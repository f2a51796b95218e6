/-
  append of a nil slice, append of a pattern to a pattern.
-/
import Derived.Test.YtpckcapilhfpcaaBothRead
import Derived.Laws.AppendOwn
namespace Go.Proofs.Ytpckcapilhfpcaa
open Go.RowKit

theorem run_append_nothing {P : Program} (w : World) (t ty e : TypeId) (i : TypeInfo) (ht : P.underlying t = some (.slice e)) (hi : P.info? e = some i) {base size n : Nat} {v : Value} {xs : List Value} (hown : w.ownsRow base e size v n xs) :
    (Builtin.append_ #[t, t] ty #[v, .slice none 0 0]).run P w = .ok v w := by
  rcases hown.2 with ⟨rfl, rfl⟩ | ⟨g, cap, cur, rfl, hbg, hg, hnc, hcm, hcs, htake⟩
  · simp [Builtin.append_, run_underlying ht, sizeOf, typeInfo, hi, Builtin.lenOf, Builtin.firstCells]
  · simp [Builtin.append_, run_underlying ht, sizeOf, typeInfo, hi, Builtin.lenOf, Builtin.firstCells, loadCells, hnc, storeCells]

theorem wpList_append_nothing {P : Program} {w : World} {ops : Array Oper} {rest : List Oper} {o : Oper} {a : Act} {Q : Exit → Act → World → Prop} (hgd : o.guard = none) (s x : Operand) (t : TypeId)
    (ho : o.op = .call { callee := .builtin .append, args := #[s, x], argTypes := #[t, t] })
    (e : TypeId) (i : TypeInfo) (ht : P.underlying t = some (.slice e)) (hi : P.info? e = some i) {base size n : Nat} {v : Value} {xs : List Value} (hs : a.eval s = v) (hown : w.ownsRow base e size v n xs)
    (hx : a.eval x = .slice none 0 0) (h : wpList P ops Q rest (a.put o.dst v) w) : wpList P ops Q (o :: rest) a w := by
  refine wpList_plain hgd fun _ hK => ?_
  unfold Oper.wp execOp
  simp only [ho, resolve, invoke, builtin, Sem.run_bind, Sem.run_pure, Result.andThen_ok, List.map_toArray, List.map_cons, List.map_nil, hs, hx, run_append_nothing (P := P) w t o.type e i ht hi hown]
  exact hK _ _ h

theorem wpList_append_pat {ops : Array Oper} {rest : List Oper} {o : Oper} {a : Act} {Q : Exit → Act → World → Prop} (hgd : o.guard = none) (s x : Operand)
    (ho : o.op = .call { callee := .builtin .append, args := #[s, x], argTypes := #[22, 22] })
    (B B2 : Nat) (v v2 : Value) (P P2 : List Cls) (w : World) (hs : a.eval s = v) (hx : a.eval x = v2)
    (hown : PatOwn B v P w) (hown2 : PatOwn B2 v2 P2 w) (hlen : P.length + P2.length ≤ 1048576) (hB : B ≤ w.heap.size)
    (h : ∀ v' w', PatOwn B v' (P ++ P2) w' → w.grownBy w' v.ownBlock → Below B w w' → wpList Try.prog ops Q rest (a.put o.dst v') w') :
    wpList Try.prog ops Q (o :: rest) a w := by
  obtain ⟨i0, hi, hz0, hz1, hz2⟩ := info_parts infoCls
  by_cases h0 : P2 = []
  · subst h0
    rcases hown2.2 with ⟨rfl, _⟩ | ⟨g, cap, cur, rfl, _, hg, _, _, _, _⟩
    · refine wpList_append_nothing hgd s x 22 ho 72 i0 Try.underlying22 hi hs hown hx ?_
      refine h v w (by rw [List.append_nil]; exact hown) ⟨rfl, rfl, rfl, Nat.le_refl _, fun _ _ _ => rfl⟩ (Below.refl _ _)
    · refine wpList_append_own _ hgd s x 22 ho B 72 i0 _ 4 32 Try.underlying22 hi hz0 hz1 hz2 rfl (by decide) v P.length (patCells P) hs hown
        ⟨g, 0, none⟩ 0 cap [] hx rfl (by simp) (by simp) (by simp at hlen; unfold maxLen; omega) (by simp at hlen; omega) hB ?_
      intro v' w' hown' hgrow _
      refine h v' w' ?_ hgrow ((Below.refl B w).grown hgrow hB (fun k hk => (World.ownsRow.lt hown k hk).1))
      rw [List.append_nil]
      simpa [PatOwn] using hown'
  · obtain ⟨g, cap, rfl, _, _⟩ := hown2.somewhere h0
    refine wpList_append_own _ hgd s x 22 ho B 72 i0 _ 4 32 Try.underlying22 hi hz0 hz1 hz2 rfl (by decide) v P.length (patCells P) hs hown
      ⟨g, 0, none⟩ P2.length cap (patCells P2) hx (patCells_len P2) ?_ ?_ (by unfold maxLen; omega) (by omega) hB ?_
    · exact fun j u hj => World.ownsRow.cells hown2 (g := g) rfl j u hj
    · intro u hu
      have : ∀ (R : List Cls), ∀ u ∈ patCells R, u.oneCell' = true := by
        intro R
        induction R with
        | nil => intro u hu; simp [patCells] at hu
        | cons f R ih =>
          intro u hu
          rcases List.mem_append.1 hu with h | h
          · simp only [clsCells, List.mem_cons, List.not_mem_nil, or_false] at h
            rcases h with rfl | rfl | rfl | rfl <;> rfl
          · exact ih u h
      exact this P2 u hu
    · intro v' w' hown' hgrow _
      refine h v' w' ?_ hgrow ((Below.refl B w).grown hgrow hB (fun k hk => (World.ownsRow.lt hown k hk).1))
      unfold PatOwn
      rw [List.length_append, patCells_append]
      exact hown'
end Go.Proofs.Ytpckcapilhfpcaa
