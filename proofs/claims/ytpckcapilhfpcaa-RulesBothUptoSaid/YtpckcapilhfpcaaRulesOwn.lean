/-
  Rules in a row that the call owns; append of rules; rules.Peel; the law package's refs; the reference's Chain and Peel.
-/
import Derived.Test.YtpckcapilhfpcaaRulesApartWalk
import Derived.Test.YtpckcapilhfpcaaAppendNothing
namespace Go.Proofs.Ytpckcapilhfpcaa
open Go.RowKit

section
variable {f : RV → List Value} {k : Nat}
theorem flat_len (hk : ∀ r, (f r).length = k) : ∀ Rs : List RV, ((Rs.map f).flatten).length = Rs.length * k
  | [] => by simp
  | r :: Rs => by
    have := flat_len hk Rs
    simp only [List.map_cons, List.flatten_cons, List.length_append, List.length_cons, this, hk, Nat.add_mul, Nat.one_mul]
    omega
theorem flat_at (hk : ∀ r, (f r).length = k) : ∀ (Rs : List RV) (i j : Nat) (r : RV) (v : Value), Rs[i]? = some r → (f r)[j]? = some v → ((Rs.map f).flatten)[i * k + j]? = some v
  | [], i, j, r, v, h, _ => by simp at h
  | x :: Rs, 0, j, r, v, h, hv => by
    simp at h
    subst h
    have hj : j < (f x).length := (List.getElem?_eq_some_iff.1 hv).1
    simp only [List.map_cons, List.flatten_cons, Nat.zero_mul, Nat.zero_add]
    rw [List.getElem?_append_left hj]
    exact hv
  | x :: Rs, i + 1, j, r, v, h, hv => by
    have ih := flat_at hk Rs i j r v (by simpa using h) hv
    simp only [List.map_cons, List.flatten_cons]
    rw [List.getElem?_append_right (by rw [hk, Nat.add_mul]; omega), hk, show (i + 1) * k + j - k = i * k + j from by rw [Nat.add_mul]; omega]
    exact ih
theorem flat_inv (hk : ∀ r, (f r).length = k) : ∀ (Rs : List RV) (q : Nat) (v : Value), ((Rs.map f).flatten)[q]? = some v → ∃ i j r, q = i * k + j ∧ Rs[i]? = some r ∧ (f r)[j]? = some v
  | [], q, v, h => by simp at h
  | x :: Rs, q, v, h => by
    simp only [List.map_cons, List.flatten_cons] at h
    by_cases hq : q < k
    · rw [List.getElem?_append_left (by rw [hk]; exact hq)] at h
      exact ⟨0, q, x, by simp, rfl, h⟩
    · rw [List.getElem?_append_right (by rw [hk]; omega), hk] at h
      obtain ⟨i, j, r, e, h1, h2⟩ := flat_inv hk Rs _ v h
      exact ⟨i + 1, j, r, by rw [Nat.add_mul]; omega, by simpa using h1, h2⟩
end

theorem row_len (r : RV) : r.row.length = 7 := rfl
def RuleOwn (B : Nat) (v : Value) (Rs : List RV) (w : World) : Prop := w.ownsRow B 53 7 v Rs.length (rulesCells Rs)
theorem infoRule : (Try.prog.info? 53).map (fun i => (i.zero, i.size, i.bytes)) = some (some (.agg #[.int .i64 0, .int .u16 0, .bool false, .string ⟨#[]⟩, .string ⟨#[]⟩, .string ⟨#[]⟩, .slice none 0 0]), 7, 88) := by kernel_rfl
section
variable {B : Nat} {v : Value} {Rs : List RV} {w w' : World}
theorem RuleOwn.nil (B : Nat) (w : World) : RuleOwn B (.slice none 0 0) [] w := World.ownsRow_nil w B _ 7
theorem RuleOwn.alloc (h : RuleOwn B v Rs w) (o : Obj) : RuleOwn B v Rs (w.alloc o) := World.ownsRow.alloc h o
theorem RuleOwn.below (h : RuleOwn B v Rs w) (hb : Below w.heap.size w w') : RuleOwn B v Rs w' := by
  refine World.ownsRow.kept (row := none) h ⟨hb.os, hb.tape, hb.output, hb.size, fun k hk _ => hb.block k hk⟩ ?_
  cases hv : v.ownBlock <;> simp
theorem RuleOwn.lt (h : RuleOwn B v Rs w) : ∀ k, v.ownBlock = some k → B ≤ k ∧ k < w.heap.size := World.ownsRow.lt h
theorem RuleOwn.form (h : RuleOwn B v Rs w) : ∃ a cap, v = .slice a Rs.length cap ∧ RulesIn a Rs w ∧ (a = none → cap = 0) := by
  have hc := h
  rcases h.2 with ⟨rfl, hn⟩ | ⟨g, cap, cur, rfl, _⟩
  · exact ⟨none, 0, by rw [hn], fun h0 => absurd (List.eq_nil_of_length_eq_zero hn) h0, fun _ => rfl⟩
  · refine ⟨some ⟨g, 0, none⟩, cap, rfl, fun _ => ⟨g, 0, rfl, ?_⟩, fun h => by cases h⟩
    intro i r hr j u hu
    have := World.ownsRow.cells hc (g := g) rfl (i * 7 + j) u (rulesCells_at Rs i j r u hr hu)
    rw [Addr.add_lit] at this
    rw [← this]
    congr 2
    omega
end

theorem row_one (r : RV) : ∀ u ∈ r.row, u.oneCell' = true := by
  intro u hu
  simp only [RV.row, List.mem_cons, List.not_mem_nil, or_false] at hu
  rcases hu with rfl | rfl | rfl | rfl | rfl | rfl | rfl <;> rfl

/-- 'append(rules, more...)', the source anywhere, nil, empty or not -/
theorem wpList_append_rules {ops : Array Oper} {rest : List Oper} {o : Oper} {a : Act} {Q : Exit → Act → World → Prop} (hgd : o.guard = none) (s x : Operand)
    (ho : o.op = .call { callee := .builtin .append, args := #[s, x], argTypes := #[62, 62] })
    (B : Nat) (v : Value) (Rs : List RV) (A2 : Option Addr) (c2 : Nat) (Rs2 : List RV) (w : World) (hs : a.eval s = v) (hx : a.eval x = .slice A2 Rs2.length c2)
    (hown : RuleOwn B v Rs w) (hin : RulesIn A2 Rs2 w) (hnil : A2 = none → c2 = 0) (hlen : Rs.length + Rs2.length ≤ 1048576) (hB : B ≤ w.heap.size)
    (h : ∀ v' w', RuleOwn B v' (Rs ++ Rs2) w' → w.grownBy w' v.ownBlock → Below B w w' → wpList Try.prog ops Q rest (a.put o.dst v') w') :
    wpList Try.prog ops Q (o :: rest) a w := by
  obtain ⟨i0, hi, hz0, hz1, hz2⟩ := info_parts infoRule
  by_cases h0 : Rs2 = []
  · subst h0
    cases A2 with
    | none =>
      have hc := hnil rfl
      subst hc
      refine wpList_append_nothing hgd s x 62 ho 53 i0 Try.underlying62 hi hs hown hx ?_
      refine h v w (by rw [List.append_nil]; exact hown) ⟨rfl, rfl, rfl, Nat.le_refl _, fun _ _ _ => rfl⟩ (Below.refl _ _)
    | some ad =>
      refine wpList_append_own _ hgd s x 62 ho B 53 i0 _ 7 88 Try.underlying62 hi hz0 hz1 hz2 rfl (by decide) v Rs.length (rulesCells Rs) hs hown
        ad 0 c2 [] hx rfl (by simp) (by simp) (by simp at hlen; unfold maxLen; omega) (by simp at hlen; omega) hB ?_
      intro v' w' hown' hgrow _
      refine h v' w' ?_ hgrow ((Below.refl B w).grown hgrow hB (fun k hk => (World.ownsRow.lt hown k hk).1))
      rw [List.append_nil]
      simpa [RuleOwn] using hown'
  · obtain ⟨g, off, ha, hat⟩ := hin h0
    subst ha
    refine wpList_append_own _ hgd s x 62 ho B 53 i0 _ 7 88 Try.underlying62 hi hz0 hz1 hz2 rfl (by decide) v Rs.length (rulesCells Rs) hs hown
      ⟨g, off, none⟩ Rs2.length c2 (rulesCells Rs2) hx (flat_len row_len Rs2) ?_ ?_ (by unfold maxLen; omega) (by omega) hB ?_
    · intro j u hj
      obtain ⟨i, q, r, e, h1, h2⟩ := flat_inv row_len Rs2 j u hj
      rw [Addr.add_lit, e, ← Nat.add_assoc]
      exact hat i r h1 q u h2
    · intro u hu
      obtain ⟨l, hl, hul⟩ := List.mem_flatten.1 hu
      obtain ⟨r, _, rfl⟩ := List.mem_map.1 hl
      exact row_one r u hul
    · intro v' w' hown' hgrow _
      refine h v' w' ?_ hgrow ((Below.refl B w).grown hgrow hB (fun k hk => (World.ownsRow.lt hown k hk).1))
      unfold RuleOwn
      have e : rulesCells (Rs ++ Rs2) = rulesCells Rs ++ rulesCells Rs2 := by simp [rulesCells]
      rw [List.length_append, e]
      exact hown'

theorem below_box' {B : Nat} {w w1 : World} (h : Below B w w1) (hB : B ≤ w1.heap.size) (o : Obj) : Below B w (w1.alloc o) := h.trans ((Below.refl _ _).alloc hB _)
theorem sumOf_reverse (f : RV → Nat) : ∀ Rs : List RV, sumOf f Rs.reverse = sumOf f Rs
  | [] => rfl
  | r :: Rs => by
    rw [List.reverse_cons, sumOf_append, sumOf_reverse f Rs]
    simp only [sumOf]
    omega

set_option maxHeartbeats 2000000 in
set_option maxRecDepth 100000 in
theorem peel_any (a : Option Addr) (cap : Nat) (Rs : List RV) (word : ByteArray) (w : World) (h : RulesIn a Rs w) (hl : Rs.length ≤ 1048576) (hs : word.size + sumOf (fun r => r.S.size) Rs ≤ 562949953421312) :
    Calls Try.prog 43 #[.string word, .slice a Rs.length cap] w (OutPost (peelR (Rs.map RV.p) word.data.toList) w) := by
  obtain ⟨o, ho⟩ : ∃ o, peelR (Rs.map RV.p) word.data.toList = o := ⟨_, rfl⟩
  rw [ho]
  unfold peelR at ho
  rw [← List.map_reverse] at ho
  have K := fun a cap w h => alongUndo_any a cap Rs.reverse word w h (by rw [List.length_reverse]; omega) (by rw [sumOf_reverse]; exact hs) (fun r hr => by have := sumOf_mem (fun r => r.S.size) hr; rw [sumOf_reverse] at this; omega) o ⟨ho⟩
  simp only [List.length_reverse] at K
  unfold OutPost at K ⊢
  generalize outS o = X at K
  generalize o.isSome = b at K
  have HK := Caged.mk K
  have H := Caged.mk h
  clear K ho h
  obtain ⟨i0, hi, hz0, hz1, hz2⟩ := info_parts infoRule
  go_enter Try.func43, Try.ntmps43
  go_wp2_with (with_reducible refine wpList_make_own _ rfl _ (.tmp 9) 62 rfl w.heap.size 53 i0 _ 7 Try.underlying62 hi hz0 hz1 .i64 .i64 (Rs.length : Int) Rs.length rfl rfl rfl ?b2 ?b3 (Nat.le_refl _) ?_)
  case b2 => rw [hz2]; omega
  case b3 => unfold maxLen; omega
  intro w1 hown1 hgrow1
  have hb1 : Below w.heap.size w w1 := (Below.refl _ _).grown hgrow1 (Nat.le_refl _) (by simp)
  clear hi hz0 hz1 hz2
  go_wp2_with fail
  go_loopw [6, 7] (fun v i wr => ∃ j : Nat, j ≤ Rs.length ∧ i = .int .i64 ((j : Int) - 1) ∧ RuleOwn w.heap.size v (Rs.drop j).reverse wr ∧ Below w.heap.size w wr) (fun _ i _ => (intOf i + 1).toNat)
  case atStart => exact ⟨Rs.length, Nat.le_refl _, rfl, by rw [List.drop_length]; exact hown1, hb1⟩
  case round =>
    obtain ⟨j, hj, rfl, hown, hbw⟩ := hrel
    have hB := hbw.size
    cases j with
    | zero =>
      simp only [List.drop_zero] at hown
      obtain ⟨a2, cap2, hv, hin, _⟩ := hown.form
      subst hv
      have HI := Caged.mk hin
      clear hin hown
      go_wp2_with fail
      ((with_reducible refine (HK.out _ _ _ HI.out).mono ?_))
      rintro e w2 ⟨rfl, hb2⟩
      go_wp2_with fail
      go_ret2
      exact ⟨rfl, below_next hbw hb2⟩
    | succ m =>
      have e1 : ((m + 1 : Nat) : Int) - 1 = (m : Int) := by omega
      rw [e1]
      have hm : m < Rs.length := by omega
      obtain ⟨r, hr⟩ : ∃ r, Rs[m]? = some r := ⟨_, List.getElem?_eq_getElem hm⟩
      have hd : (Rs.drop m).reverse = (Rs.drop (m + 1)).reverse ++ [r] := by
        rw [List.drop_eq_getElem_cons hm, List.reverse_cons]
        rw [List.getElem?_eq_getElem hm] at hr
        injection hr with hr
        rw [hr]
      obtain ⟨g, off, ha, hat⟩ := (H.out.below hbw) (by intro e; rw [e] at hm; simp at hm)
      subst ha
      obtain ⟨c0, c1, c2, c3, c4, c5, c6⟩ := hat.cells hr
      have HD := Caged.mk hd
      have hln : (Rs.drop (m + 1)).reverse.length ≤ 1048575 := by rw [List.length_reverse, List.length_drop]; omega
      clear hd e1 hr hat
      go_wp2_with (at_builtin; refine wpList_append_rules rfl _ _ rfl w.heap.size _ (Rs.drop (m + 1)).reverse (some ⟨wr.heap.size, 0, none⟩) 1 [r] _ rfl rfl ?ho ?hin ?hn ?c1 ?c2 ?_)
      case ho => exact hown.alloc _
      case hin => exact RulesIn.of_row (heap_alloc_new wr _) (fun q v h => by simpa [rulesCells, RV.row] using h)
      case hn => intro h; cases h
      case c1 => simp only [List.length_cons, List.length_nil]; omega
      case c2 => simp; omega
      intro v2 w2 hown2 hg2 hb2
      have hbw2 := (below_box' hbw hB _).trans hb2
      go_wp2_with fail
      go_roundw
      case rel => exact ⟨m, by omega, by go_num, by rw [HD.out]; exact hown2, hbw2⟩
      case measure => simp [intOf]
end Go.Proofs.Ytpckcapilhfpcaa
