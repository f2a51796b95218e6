/-
  An argument that is a list of rules, opened: each rule's cells, and what its bulk bounds.
-/
import Derived.Test.YtpckcapilhfpcaaOpenRule
import Derived.Test.YtpckcapilhfpcaaRulesChain
import Derived.Deep.Slices
namespace Go.Proofs.Ytpckcapilhfpcaa
open Go.ChangeShapes Go.WideShapes Go.ChangeAt Go.RowKit

theorem list_of {α : Type} {Pr : Nat → α → Prop} : ∀ n : Nat, (∀ i, i < n → ∃ r, Pr i r) → ∃ l : List α, l.length = n ∧ ∀ i r, l[i]? = some r → Pr i r
  | 0, _ => ⟨[], rfl, fun i r h => by simp at h⟩
  | n + 1, h => by
    obtain ⟨l, hl, hp⟩ := list_of n (fun i hi => h i (Nat.lt_succ_of_lt hi))
    obtain ⟨r, hr⟩ := h n (Nat.lt_succ_self n)
    refine ⟨l ++ [r], by simp [hl], fun i u hu => ?_⟩
    by_cases hi : i < n
    · rw [List.getElem?_append_left (by omega)] at hu
      exact hp i u hu
    · rw [List.getElem?_append_right (by omega)] at hu
      have hi2 : i - l.length = 0 := by
        rcases Nat.eq_zero_or_pos (i - l.length) with h0 | h0
        · exact h0
        · have := (List.getElem?_eq_some_iff.1 hu).1
          simp at this
          omega
      rw [hi2] at hu
      simp at hu
      subst hu
      have : i = n := by omega
      subst this
      exact hr

section
variable {H : Type} {enc : TypeId × Value → H} {w : World} {base : Nat} {sp : Nat → Bool} {held : Bool}

theorem bulk_list : ∀ (Rs : List RV) (ds : List (DataW H)), ds.length = Rs.length → (∀ (i : Nat) (r : RV) (d : DataW H), Rs[i]? = some r → ds[i]? = some d → 1 + r.S.size + r.A.size ≤ Rows.uptoBulk d) →
    Rs.length + sumOf (fun r => r.S.size) Rs + sumOf (fun r => r.A.size) Rs ≤ Rows.uptoBulkAll ds
  | [], ds, _, _ => by simp [sumOf]
  | r :: Rs, [], h, _ => by simp at h
  | r :: Rs, d :: ds, h, hd => by
    have ih := bulk_list Rs ds (by simpa using h) (fun i u e h1 h2 => hd (i + 1) u e (by simpa using h1) (by simpa using h2))
    have h0 := hd 0 r d rfl rfl
    simp only [sumOf, List.length_cons, Rows.uptoBulkAll]
    omega

theorem bulk_rule (k fl : Int) (cr : Bool) (S A C : ByteArray) (d6 : DataW H) : 1 + S.size + A.size ≤ Rows.uptoBulk (.agg [.lit (.int .i64 k), .lit (.int .u16 fl), .lit (.bool cr), .lit (.string S.data.toList), .lit (.string A.data.toList), .lit (.string C.data.toList), d6] : DataW H) := by
  simp only [Rows.uptoBulk, Rows.uptoBulkAll, Array.length_toList]
  have h1 : S.data.size = S.size := rfl
  have h2 : A.data.size = A.size := rfl
  omega

theorem open_rules {r : Reach} {b0 : Nat} {v : Value} {d : DataW H} {p : List MemPlace} (hv : Value.okWide Try.prog w r b0 62 v) (h : DataW.Trod enc Try.prog w base sp held 62 v d p) :
    ∃ (a : Option Addr) (cap : Nat) (Rs : List RV), v = .slice a Rs.length cap ∧ RulesIn a Rs w ∧ (a = none → cap = 0) ∧ Rs.length + sumOf (fun r => r.S.size) Rs + sumOf (fun r => r.A.size) Rs ≤ Rows.uptoBulk d := by
  obtain ⟨a, len, cap, rfl⟩ := okWide_slice Try.underlying62 hv
  obtain ⟨fuel, hf⟩ := h
  rcases Deep.open_slice Try.underlying62 hf with ⟨hcs, hx⟩ | ⟨ad, len', cap', m, n, D, Pl, hcs, hb, hl, hm, hmm, hx, hall⟩
  · have e : Value.slice a len cap = .slice none 0 0 := by simpa [Value.cells] using hcs
    injection e with e1 e2 e3
    subst e1 e2 e3
    exact ⟨none, 0, [], rfl, fun h => absurd rfl h, fun _ => rfl, by simp [sumOf]⟩
  · have e : Value.slice a len cap = .slice (some ad) len' cap' := by simpa [Value.cells] using hcs
    injection e with e1 e2 e3
    subst e1 e2 e3
    have hlm : len ≤ m := by rw [hmm]; split <;> omega
    have each : ∀ i, i < len → ∃ r : RV, (∀ j u, r.row[j]? = some u → w.cell? ((ad.add (i * 7)).add j) = some u) ∧ 1 + r.S.size + r.A.size ≤ Rows.uptoBulk (D i) := by
      intro i hi
      obtain ⟨cs, hc, ht⟩ := hall i (by omega)
      rw [cells_rule] at hc
      obtain ⟨k, fl, cr, S, A, C, aa, nn, cc, d6, e1, e2⟩ := trod_rule ht
      refine ⟨⟨k, fl, cr, S, A, C, aa, nn, cc⟩, fun j u hu => ?_, ?_⟩
      · obtain ⟨_, hlen, hget⟩ := World.cells?_some hc
        have hj : j < 7 := (List.getElem?_eq_some_iff.1 hu).1
        rw [hget j hj, e1]
        exact hu
      · simp only at e2
        rw [e2]
        exact bulk_rule k fl cr S A C d6
    obtain ⟨Rs, hRl, hR⟩ := list_of len each
    subst hRl
    refine ⟨some ad, cap, Rs, rfl, fun h0 => ?_, fun h => (by cases h), ?_⟩
    · have hpos : 0 < Rs.length := List.length_pos_iff.2 h0
      obtain ⟨r0, hr0⟩ : ∃ r0, Rs[0]? = some r0 := ⟨_, List.getElem?_eq_getElem hpos⟩
      have hc0 := (hR 0 r0 hr0).1 0 _ rfl
      have hsp : ad.spot = none := by
        have e0 : (ad.add (0 * 7)).add 0 = ad := by simp [Addr.add]
        rw [e0] at hc0
        cases hs : ad.spot with
        | none => rfl
        | some x =>
          unfold World.cell? at hc0
          rw [hs] at hc0
          split at hc0 <;> simp at hc0
      obtain ⟨g, off, spot⟩ := ad
      simp only at hsp
      subst hsp
      refine ⟨g, off, rfl, fun i r hr j u hu => ?_⟩
      have := (hR i r hr).1 j u hu
      rw [Addr.add_lit, Addr.add_lit] at this
      exact this
    · simp only [Prod.mk.injEq] at hx
      rw [hx.1]
      simp only [Rows.uptoBulk]
      have := bulk_list Rs ((List.range Rs.length).map D) (by simp) (fun i r dd h1 h2 => by
        have hi : i < Rs.length := (List.getElem?_eq_some_iff.1 h1).1
        rw [List.getElem?_map, List.getElem?_range hi] at h2
        simp at h2
        subst h2
        exact (hR i r h1).2)
      omega
end
end Go.Proofs.Ytpckcapilhfpcaa
