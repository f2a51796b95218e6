/-
  A region that draws its order, all of whose operations do the same in every world that meets one condition S and leave a world that meets S: it is walked once, in the order of the text; behind it the world is any that meets S. No condition beyond these.
-/
import Derived.Deep.RegionHeld3
import Derived.Test.YtpckcapilhfpcaaBytes
namespace Go.Proofs.Ytpckcapilhfpcaa
open Go.RowKit

/-- the result of one operation: the value v, in a world that meets S -/
def Runs (P : Program) (S : World → Prop) (v : Value) : Result Next → Prop
  | .ok (.value u) w => u = v ∧ S w
  | .ok .skip w => v = undef ∧ S w
  | .ok (.enter f args) w => Calls P f args w fun e w' => e = .returned v ∧ S w'
  | _ => False
theorem runs_value {P : Program} {S : World → Prop} {v : Value} {w : World} (h : S w) : Runs P S v (.ok (.value v) w) := ⟨rfl, h⟩
theorem runs_call {P : Program} {S : World → Prop} {v : Value} {w : World} {f : FuncId} {args : Array Value} (h : Calls P f args w fun e w' => e = .returned v ∧ S w') : Runs P S v (.ok (.enter f args) w) := h

def YieldsS (P : Program) (ops : Array Oper) (S : World → Prop) (o : Oper) (v : Value) (a : Act) : Prop :=
  (Region.wanted o (yielded ops a.tmps) = true ∧ ∀ w, S w → Runs P S v ((execOp a.eval o).run P w)) ∨ (Region.wanted o (yielded ops a.tmps) = false ∧ v = undef)

section
variable {P : Program} {ops : Array Oper} {Q : Exit → Act → World → Prop} {md : Region.Mode} {S : World → Prop}

theorem YieldsS.of_same {o : Oper} {v : Value} {a a' : Act} (hy : YieldsS P ops S o v a) (he : execOp a'.eval o = execOp a.eval o)
    (hw : Region.wanted o (yielded ops a'.tmps) = Region.wanted o (yielded ops a.tmps)) : YieldsS P ops S o v a' := by
  unfold YieldsS at *
  rw [he, hw]
  exact hy

theorem YieldsS.wpOp {i : Nat} {o : Oper} {v : Value} {a : Act} (hi : ops[i]? = some o) (hy : YieldsS P ops S o v a) {K : Act → World → Prop} {w : World} (hS : S w)
    (h : ∀ w', S w' → K (a.put o.dst v) w') : wpOp P ops Q i K a w := by
  unfold Go.wpOp
  simp only [hi]
  rcases hy with ⟨hw, hv⟩ | ⟨hw, rfl⟩
  · have := hv w hS
    simp only [hw, if_true, Oper.wp]
    generalize (execOp a.eval o).run P w = r at this
    cases r with
    | ok n w' =>
      cases n <;> simp only [Runs, Oper.upon] at this ⊢
      case value u => obtain ⟨rfl, h2⟩ := this; exact .inl (h _ h2)
      case skip => obtain ⟨rfl, h2⟩ := this; exact .inl (h _ h2)
      case enter f args => exact .inl (Calls.mono this fun e w'' ⟨he, h2⟩ => by subst he; exact h _ h2)
    | halt x w' => simp only [Runs] at this
  · simp only [hw, Bool.false_eq_true, if_false]; exact h w hS

def Apart (md : Region.Mode) (ops : Array Oper) (listed : Array Bool) (i : Nat) (oi : Oper) : Prop :=
  ∀ j oj, ops[j]? = some oj → j ≠ i → listed.getD j true = false → (∀ e ∈ oj.after, Region.binds md e = true → e.on ≠ i) → oi.apart ops oj = true

/-- n operations are still to come; one after the other is taken -/
def GoS (P : Program) (md : Region.Mode) (ops : Array Oper) (Q : Exit → Act → World → Prop) (S : World → Prop) : Nat → Array Bool → Act → Prop
  | 0, listed, a => Region.ready md ops listed = [] ∧ ∀ w, S w → Q .normal a w
  | n + 1, listed, a => ∃ i oi v, ops[i]? = some oi ∧ Apart md ops listed i oi ∧ i ∈ Region.ready md ops listed ∧ YieldsS P ops S oi v a ∧ GoS P md ops Q S n (listed.setIfInBounds i true) (a.put oi.dst v)

theorem GoS.any (hsel : ∀ (j : Nat) (o : Oper) cs b, ops[j]? = some o → o.op ≠ .select cs b) : ∀ (n : Nat) (listed : Array Bool) (a : Act) (j : Nat), GoS P md ops Q S (n + 1) listed a → j ∈ Region.ready md ops listed →
    ∃ oj v, ops[j]? = some oj ∧ YieldsS P ops S oj v a ∧ GoS P md ops Q S n (listed.setIfInBounds j true) (a.put oj.dst v)
  | n, listed, a, j, ⟨i, oi, v, hi, hap, hr, hy, hg⟩, hj => by
    by_cases hji : j = i
    · subst hji
      exact ⟨oi, v, hi, hy, hg⟩
    · have hj2 := ready_mono hj hji
      cases n with
      | zero => rw [hg.1] at hj2; cases hj2
      | succ n =>
        obtain ⟨oj, vj, hoj, hyj, hgj⟩ := GoS.any hsel n _ _ j hg hj2
        obtain ⟨hjun, oj', hoj', hall⟩ := mem_ready.1 hj
        have hnot : ∀ e ∈ oj.after, Region.binds md e = true → e.on ≠ i := fun e he hb heq => by
          rw [hoj] at hoj'
          injection hoj' with hoj'
          subst hoj'
          have h1 := hall e he hb
          have h0 := (mem_ready.1 hr).1
          rw [heq] at h1
          rcases Nat.lt_or_ge i listed.size with h' | h'
          · simp [h'] at h0 h1; rw [h0] at h1; cases h1
          · simp [Array.getElem?_eq_none h'] at h1
        obtain ⟨h1, h2, h3⟩ := Oper.apart_spec (hap j oj hoj hji hjun hnot)
        refine ⟨oj, vj, hoj, ?_, i, oi, v, hi, ?_, ready_mono hr (Ne.symm hji), ?_, ?_⟩
        · exact hyj.of_same (execOp_put oj (fun cs b => hsel j oj cs b hoj) a oi.dst v h1).symm (wanted_put oj a oi.dst v h1).symm
        · intro k ok hk hki hun hno
          refine hap k ok hk hki ?_ hno
          by_cases hjk : j = k
          · subst hjk; exact hjun
          · rw [getD_set_ne true hjk] at hun; exact hun
        · exact hy.of_same (execOp_put oi (fun cs b => hsel i oi cs b hi) a oj.dst vj h3) (wanted_put oi a oj.dst vj h3)
        · rw [Array.setIfInBounds_comm _ _ hji, ← Act.put_comm a v vj h2]
          exact hgj

theorem GoS.wp (hsel : ∀ (j : Nat) (o : Oper) cs b, ops[j]? = some o → o.op ≠ .select cs b) : ∀ (n : Nat) (listed : Array Bool) (a : Act), GoS P md ops Q S n listed a → ∀ w, S w → wpAny P md ops Q n listed a w
  | 0, _, _, h, w, hS => ⟨h.1, h.2 w hS⟩
  | n + 1, listed, a, h, w, hS => by
    refine ⟨fun h0 => ?_, fun j hj => ?_⟩
    · obtain ⟨i, _, _, _, _, hr, _⟩ := h
      rw [h0] at hr
      cases hr
    · obtain ⟨oj, v, hoj, hy, hg⟩ := GoS.any hsel n listed a j h hj
      exact hy.wpOp hoj hS fun w' hS' => GoS.wp hsel n _ _ hg w' hS'

/-- the walk in the order of the text -/
def wpS (P : Program) (ops : Array Oper) (S : World → Prop) (Q : Exit → Act → World → Prop) : List Oper → Act → Prop
  | [], a => ∀ w, S w → Q .normal a w
  | o :: rest, a => ∃ v, YieldsS P ops S o v a ∧ wpS P ops S Q rest (a.put o.dst v)
def firsts (k n : Nat) : Array Bool := ((List.range n).map fun i => decide (i < k)).toArray
theorem firsts_zero (n : Nat) : firsts 0 n = Array.replicate n false := by
  apply Array.ext'
  simp [firsts, List.map_const']
theorem firsts_set (k n : Nat) : (firsts k n).setIfInBounds k true = firsts (k + 1) n := by
  unfold firsts
  rw [List.setIfInBounds_toArray]
  congr 1
  apply List.ext_getElem
  · simp
  · intro i h1 h2
    rw [List.getElem_set]
    simp only [List.getElem_map, List.getElem_range]
    by_cases h : k = i
    · subst h; simp
    · rw [if_neg h]
      congr 1
      apply propext
      omega
def orderOk (md : Region.Mode) (ops : Array Oper) : Bool :=
  Region.noSelect ops && (List.range ops.size).all (fun k => Region.free md ops (firsts k ops.size) k && (Region.ready md ops (firsts k ops.size)).contains k) && (Region.ready md ops (firsts ops.size ops.size)).isEmpty

theorem GoS.of_wpS (l : List Oper) (hok : orderOk md l.toArray = true) : ∀ (n k : Nat) (a : Act), n + k = l.length → wpS P l.toArray S Q (l.drop k) a → GoS P md l.toArray Q S n (firsts k l.toArray.size) a
  | 0, k, a, hn, h => by
    simp only [orderOk, Bool.and_eq_true, List.isEmpty_iff] at hok
    have hk : k = l.toArray.size := by simp; omega
    subst hk
    rw [List.drop_eq_nil_of_le (by simp)] at h
    exact ⟨hok.2, h⟩
  | n + 1, k, a, hn, h => by
    have hok0 := hok
    simp only [orderOk, Bool.and_eq_true, List.all_eq_true, List.mem_range] at hok
    have hlt : k < l.length := by omega
    obtain ⟨hf, hr⟩ := hok.1.2 k (by simpa using hlt)
    rw [List.drop_eq_getElem_cons hlt] at h
    obtain ⟨v, hy, hrest⟩ := h
    have hi : l.toArray[k]? = some l[k] := by simp [hlt]
    refine ⟨k, l[k], v, hi, Region.free_spec hi hf, by simpa using hr, hy, ?_⟩
    rw [firsts_set]
    exact GoS.of_wpS l hok0 n (k + 1) _ (by omega) hrest

theorem wp_region_S {id : Nat} {l : List Oper} {a : Act} {w : World} (S : World → Prop) (hm : P.follows .mixedOrders = true) (hok : orderOk .any l.toArray = true) (hS : S w.drew)
    (h : wpS P l.toArray S Q l a) : (Code.region id l.toArray true).wp P Q a w := by
  refine wp_region_any hm ?_
  have hsel := Region.noSelect_spec (ops := l.toArray) (by simp only [orderOk, Bool.and_eq_true] at hok; exact hok.1.1)
  have := GoS.of_wpS (P := P) (S := S) (Q := Q) l hok l.toArray.size 0 a (by simp) (by simpa using h)
  rw [firsts_zero] at this
  exact GoS.wp hsel _ _ _ this _ hS

theorem wpS_on {o : Oper} {rest : List Oper} {a : Act} {v : Value} (hw : Region.wanted o (yielded ops a.tmps) = true) (hrun : ∀ w, S w → Runs P S v ((execOp a.eval o).run P w)) (h : wpS P ops S Q rest (a.put o.dst v)) :
    wpS P ops S Q (o :: rest) a := ⟨v, .inl ⟨hw, hrun⟩, h⟩
theorem wpS_off {o : Oper} {rest : List Oper} {a : Act} (hw : Region.wanted o (yielded ops a.tmps) = false) (h : wpS P ops S Q rest (a.put o.dst undef)) :
    wpS P ops S Q (o :: rest) a := ⟨undef, .inr ⟨hw, rfl⟩, h⟩
theorem wpS_end {a : Act} (h : ∀ w, S w → Q .normal a w) : wpS P ops S Q [] a := h
end
end Go.Proofs.Ytpckcapilhfpcaa
