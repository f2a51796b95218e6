/-
  Patterns in a row that the call owns; append of items; Join of no pattern.
-/
import Derived.Test.YtpckcapilhfpcaaRefShown
import Derived.Test.YtpckcapilhfpcaaJoin
namespace Go.Proofs.Ytpckcapilhfpcaa
open Go.RowKit

/-- rows of two element types lie in two blocks -/
theorem own_ne {w : World} {b1 b2 : Nat} {e1 e2 : TypeId} {s1 s2 : Nat} {v1 v2 : Value} {n1 n2 : Nat} {x1 x2 : List Value} (h1 : w.ownsRow b1 e1 s1 v1 n1 x1) (h2 : w.ownsRow b2 e2 s2 v2 n2 x2) (he : e1 ≠ e2) :
    v1.ownBlock = none ∨ v1.ownBlock ≠ v2.ownBlock := by
  rcases h1.2 with ⟨rfl, _⟩ | ⟨g, c, cur, rfl, _, hg, _⟩
  · exact .inl rfl
  · refine .inr fun e => ?_
    rcases h2.2 with ⟨rfl, _⟩ | ⟨g', c', cur', rfl, _, hg', _⟩
    · simp [Value.ownBlock] at e
    · simp only [Value.ownBlock, Option.some.injEq] at e
      subst e
      rw [hg] at hg'
      injection hg' with hg'
      injection hg' with _ hg'
      exact he hg'

theorem ItemsOwn.less {B B' : Nat} {v : Value} {Q : List ByteArray} {w : World} (h : ItemsOwn B v Q w) (hB : B' ≤ B) : ItemsOwn B' v Q w := by
  refine ⟨h.1, ?_⟩
  rcases h.2 with h2 | ⟨g, cap, cur, e, hb, rest⟩
  · exact .inl h2
  · exact .inr ⟨g, cap, cur, e, Nat.le_trans hB hb, rest⟩

theorem wpList_append_items {ops : Array Oper} {rest : List Oper} {o : Oper} {a : Act} {Q : Exit → Act → World → Prop} (hgd : o.guard = none) (s x : Operand)
    (ho : o.op = .call { callee := .builtin .append, args := #[s, x], argTypes := #[28, 28] })
    (B B2 : Nat) (v v2 : Value) (P P2 : List ByteArray) (w : World) (hs : a.eval s = v) (hx : a.eval x = v2)
    (hown : ItemsOwn B v P w) (hown2 : ItemsOwn B2 v2 P2 w) (hlen : P.length + P2.length ≤ 2097152) (hB : B ≤ w.heap.size)
    (h : ∀ v' w', ItemsOwn B v' (P ++ P2) w' → w.grownBy w' v.ownBlock → Below B w w' → wpList Try.prog ops Q rest (a.put o.dst v') w') :
    wpList Try.prog ops Q (o :: rest) a w := by
  obtain ⟨i0, hi, hz0, hz1, hz2⟩ := info_parts infoItem
  by_cases h0 : P2 = []
  · subst h0
    rcases hown2.2 with ⟨rfl, _⟩ | ⟨g, cap, cur, rfl, _, hg, _, _, _, _⟩
    · refine wpList_append_nothing hgd s x 28 ho 36 i0 Try.underlying28 hi hs hown hx ?_
      refine h v w (by rw [List.append_nil]; exact hown) ⟨rfl, rfl, rfl, Nat.le_refl _, fun _ _ _ => rfl⟩ (Below.refl _ _)
    · refine wpList_append_own _ hgd s x 28 ho B 36 i0 _ 1 16 Try.underlying28 hi hz0 hz1 hz2 rfl (by decide) v P.length (P.map Value.string) hs hown
        ⟨g, 0, none⟩ 0 cap [] hx rfl (by simp) (by simp) (by simp at hlen; unfold maxLen; omega) (by simp at hlen; omega) hB ?_
      intro v' w' hown' hgrow _
      refine h v' w' ?_ hgrow ((Below.refl B w).grown hgrow hB (fun k hk => (World.ownsRow.lt hown k hk).1))
      rw [List.append_nil]
      simpa [ItemsOwn] using hown'
  · obtain ⟨g, cap, rfl⟩ := hown2.somewhere h0
    refine wpList_append_own _ hgd s x 28 ho B 36 i0 _ 1 16 Try.underlying28 hi hz0 hz1 hz2 rfl (by decide) v P.length (P.map Value.string) hs hown
      ⟨g, 0, none⟩ P2.length cap (P2.map Value.string) hx (by simp) ?_ ?_ (by unfold maxLen; omega) (by omega) hB ?_
    · exact fun j u hj => World.ownsRow.cells hown2 (g := g) rfl j u hj
    · intro u hu
      obtain ⟨t, _, rfl⟩ := List.mem_map.1 hu
      rfl
    · intro v' w' hown' hgrow _
      refine h v' w' ?_ hgrow ((Below.refl B w).grown hgrow hB (fun k hk => (World.ownsRow.lt hown k hk).1))
      unfold ItemsOwn
      rw [List.length_append, List.map_append]
      exact hown'

/-- v is a slice of the call's own that holds the patterns Ps, each of which lies somewhere -/
def PsOwn (B : Nat) (v : Value) (Ps : List (List Cls)) (w : World) : Prop :=
  ∃ vs : List Value, w.ownsRow B 24 1 v Ps.length vs ∧ ∀ (i : Nat) (P : List Cls), Ps[i]? = some P → ∃ (a : Option Addr) (cap : Nat), vs[i]? = some (Value.slice a P.length cap) ∧ PatOwn 0 (Value.slice a P.length cap) P w
theorem infoPattern : (Try.prog.info? 24).map (fun i => (i.zero, i.size, i.bytes)) = some (some (.agg #[.slice none 0 0]), 1, 24) := by kernel_rfl
section
variable {B : Nat} {v : Value} {Ps : List (List Cls)} {w w' : World}
theorem PsOwn.nil (B : Nat) (w : World) : PsOwn B (.slice none 0 0) [] w := ⟨[], World.ownsRow_nil w B _ 1, fun i P h => by simp at h⟩
theorem PsOwn.below (h : PsOwn B v Ps w) (hb : Below w.heap.size w w') : PsOwn B v Ps w' := by
  obtain ⟨vs, h1, h2⟩ := h
  refine ⟨vs, ?_, fun i P hi => ?_⟩
  · refine World.ownsRow.kept (row := none) h1 ⟨hb.os, hb.tape, hb.output, hb.size, fun k hk _ => hb.block k hk⟩ ?_
    cases hv : v.ownBlock <;> simp
  · obtain ⟨a, cap, e, hp⟩ := h2 i P hi
    exact ⟨a, cap, e, hp.below hb⟩
theorem PsOwn.alloc (h : PsOwn B v Ps w) (o : Obj) : PsOwn B v Ps (w.alloc o) := by
  obtain ⟨vs, h1, h2⟩ := h
  refine ⟨vs, World.ownsRow.alloc h1 _, fun i P hi => ?_⟩
  obtain ⟨a, cap, e, hp⟩ := h2 i P hi
  exact ⟨a, cap, e, hp.alloc _⟩
theorem PsOwn.itemsKept {B2 : Nat} {v2 : Value} {Q : List ByteArray} (h : PsOwn B v Ps w) (h2 : ItemsOwn B2 v2 Q w) (hg : w.grownBy w' v.ownBlock) : ItemsOwn B2 v2 Q w' := by
  obtain ⟨vs, h3, _⟩ := h
  exact World.ownsRow.kept h2 hg (own_ne h2 h3 (by decide))
theorem PsOwn.keptItems {B2 : Nat} {v2 : Value} {Q : List ByteArray} (h : PsOwn B v Ps w) (h2 : ItemsOwn B2 v2 Q w) (hg : w.grownBy w' v2.ownBlock) : PsOwn B v Ps w' := by
  obtain ⟨vs, h3, h4⟩ := h
  refine ⟨vs, World.ownsRow.kept h3 hg (own_ne h3 h2 (by decide)), fun i P hi => ?_⟩
  obtain ⟨a, cap, e, hp⟩ := h4 i P hi
  exact ⟨a, cap, e, hp.kept hg (own_ne hp h2 (by decide))⟩
theorem PsOwn.form (h : PsOwn B v Ps w) : ∃ a cap, v = .slice a Ps.length cap ∧ ((Ps = [] ∧ a = none ∧ cap = 0) ∨ ∃ g, a = some ⟨g, 0, none⟩ ∧ PatsAt g Ps w) := by
  obtain ⟨vs, h1, h2⟩ := h
  have hc := h1
  rcases h1.2 with ⟨rfl, hn⟩ | ⟨g, cap, cur, rfl, _, hg, _⟩
  · exact ⟨none, 0, by rw [hn], .inl ⟨List.eq_nil_of_length_eq_zero hn, rfl, rfl⟩⟩
  · refine ⟨_, cap, rfl, .inr ⟨g, rfl, (Array.getElem?_eq_some_iff.1 hg).1, fun k P hk => ?_⟩⟩
    obtain ⟨a, c, e, hp⟩ := h2 k P hk
    refine ⟨a, c, ?_, hp⟩
    have := World.ownsRow.cells hc (g := g) rfl k _ e
    rw [Addr.add_lit, Nat.zero_add] at this
    exact this
end

theorem wpList_append_pattern {ops : Array Oper} {rest : List Oper} {o : Oper} {a : Act} {Q : Exit → Act → World → Prop} (hgd : o.guard = none) (s x : Operand)
    (ho : o.op = .call { callee := .builtin .append, args := #[s, x], argTypes := #[47, 47] })
    (B : Nat) (v : Value) (Ps : List (List Cls)) (w : World) (P : List Cls) (ad : Option Addr) (cap : Nat) (hs : a.eval s = v) (hx : a.eval x = .slice (some ⟨w.heap.size, 0, none⟩) 1 1)
    (hown : PsOwn B v Ps w) (hP : PatOwn 0 (.slice ad P.length cap) P w) (hlen : Ps.length + 1 ≤ 1048577) (hB : B ≤ w.heap.size)
    (h : ∀ v' w', PsOwn B v' (Ps ++ [P]) w' → (w.alloc (.cells #[.slice ad P.length cap] 24)).grownBy w' v.ownBlock → Below B w w' → wpList Try.prog ops Q rest (a.put o.dst v') w') :
    wpList Try.prog ops Q (o :: rest) a (w.alloc (.cells #[.slice ad P.length cap] 24)) := by
  obtain ⟨i0, hi, hz0, hz1, hz2⟩ := info_parts infoPattern
  obtain ⟨vs, h1, h2⟩ := hown
  have h1' : (w.alloc (.cells #[.slice ad P.length cap] 24)).ownsRow B 24 1 v Ps.length vs := World.ownsRow.alloc h1 _
  refine wpList_append_own _ hgd s x 47 ho B 24 i0 _ 1 24 Try.underlying47 hi hz0 hz1 hz2 rfl (by decide) v Ps.length vs hs h1'
    ⟨w.heap.size, 0, none⟩ 1 1 [.slice ad P.length cap] hx rfl ?_ ?_ (by unfold maxLen; omega) (by omega) (by simp; omega) ?_
  · intro j u hj
    match j, hj with
    | 0, hj => simp at hj; subst hj; simp [Addr.add]
  · intro u hu; simp at hu; subst hu; rfl
  · intro v' w' hown' hgrow _
    refine h v' w' ?_ hgrow (((Below.refl B w).alloc hB _).grown hgrow (by simp; omega) (fun k hk => (World.ownsRow.lt h1 k hk).1))
    have hl : vs.length = Ps.length := by rw [h1.1, Nat.mul_one]
    refine ⟨vs ++ [.slice ad P.length cap], by rw [List.length_append]; exact hown', fun i R hi => ?_⟩
    by_cases hlt : i < Ps.length
    · rw [List.getElem?_append_left hlt] at hi
      obtain ⟨a2, c2, e, hp⟩ := h2 i R hi
      exact ⟨a2, c2, by rw [List.getElem?_append_left (by omega)]; exact e, (hp.alloc _).kept hgrow (own_ne (hp.alloc _) h1' (by decide))⟩
    · rw [List.getElem?_append_right (by omega)] at hi
      have hi0 : i - Ps.length = 0 := by
        have := (List.getElem?_eq_some_iff.1 hi).1
        simp at this
        omega
      rw [hi0] at hi
      simp at hi
      subst hi
      refine ⟨ad, cap, ?_, (hP.alloc _).kept hgrow (own_ne (hP.alloc _) h1' (by decide))⟩
      rw [List.getElem?_append_right (by omega), hl, hi0]
      rfl

set_option maxHeartbeats 1000000 in
theorem join_none (w : World) : Calls Try.prog 28 #[.slice none 0 0] w (JoinPost [] w) := by
  go_enter Try.func28, Try.ntmps28
  go_wp2_with fail
  go_loopw [9] (fun i wr => i = .int .i64 0 ∧ RdSt w.heap.size (.slice none 0 0) [] w wr) (fun _ _ => 0)
  case atStart =>
    refine ⟨rfl, PatOwn.nil _ _, ?_, ?_, ((Below.refl _ _).alloc (Nat.le_refl _) _).alloc (by simp) _⟩
    · have := heap_alloc_new (w.alloc (.cells #[.slice none 0 0] 24)) (.cells #[.slice none 0 0] 24)
      simpa using this
    · rw [Below.heap_alloc _ _ _ (by simp)]
      exact heap_alloc_new w _
  case round =>
    obtain ⟨rfl, hst⟩ := hrel
    have p0 := hst.cell
    have r0 := hst.cell0
    have rf := hst.frozen0
    have HS := Caged.mk hst
    clear hst
    go_wp2_with fail
    obtain ⟨q1, q2, q3⟩ := HS.out.done (.slice none 0 0)
    refine bodyPost_ret (results_pat rfl _ _ w.heap.size (.slice none 0 0) (0, 0) rfl q1) rfl ⟨.slice none 0 0, rfl, PatOwn.nil _ _, q3⟩
end Go.Proofs.Ytpckcapilhfpcaa
