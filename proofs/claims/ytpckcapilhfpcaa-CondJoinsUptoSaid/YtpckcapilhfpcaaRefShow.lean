/-
  The reference's admitted, Shown and Show.
-/
import Derived.Test.YtpckcapilhfpcaaShow
namespace Go.Proofs.Ytpckcapilhfpcaa
open Go.RowKit

theorem Own.under {B C : Nat} {v : Value} {l : List UInt8} {w w' : World} (h : Own B v l w) (hb : Below C w w') (hv : ∀ k, v.ownBlock = some k → k < C) : Own B v l w' := by
  refine ⟨h.1, ?_⟩
  rcases h.2 with h2 | ⟨g, cap, cur, e, h3, h4, h5⟩
  · exact .inl h2
  · exact .inr ⟨g, cap, cur, e, h3, by rw [hb.block g (hv g (by rw [e]; rfl))]; exact h4, h5⟩

theorem Own.ne_block {B : Nat} {v : Value} {l : List UInt8} {w : World} {g : Nat} {cs : Array Value} {T : TypeId} {fr : Nat × Nat} (h : Own B v l w) (hg : w.heap[g]? = some (.cells cs T fr)) (hT : T ≠ 5) : v.ownBlock ≠ some g := by
  rcases h.2 with ⟨rfl, _⟩ | ⟨g', cap, cur, rfl, _, hg', _⟩
  · simp [Value.ownBlock]
  · intro e
    simp only [Value.ownBlock, Option.some.injEq] at e
    subst e
    rw [hg'] at hg
    injection hg with hg
    injection hg with _ hg
    exact hT hg.symm

def AdmPost (g : Cls) (w : World) (e : Ending) (w' : World) : Prop := ∃ v, e = .returned v ∧ Own w.heap.size v (bytesOf g) w' ∧ Below w.heap.size w w'

set_option maxHeartbeats 1000000 in
set_option maxRecDepth 100000 in
theorem admitted_any (t : ByteArray) (want : Bool) (g : Cls) (hg : ∀ y, (clsOf t.data.toList y == want) = g y) (w : World) (hs : t.size ≤ 1048576) (ht : Piece t.data.toList) :
    Calls Try.prog 68 #[.agg #[.string t], .bool want] w (AdmPost g w) := by
  have HV := Caged.mk (fun (w : World) (b : UInt8) => refAdmits_any t b w hs ht)
  have HG := Caged.mk hg
  clear hg
  go_enter Try.func68, Try.ntmps68
  go_wp2_with fail
  go_loopw [5, 6] (fun v i wr => ∃ k : Nat, k ≤ 256 ∧ i = .int .i64 k ∧ Own w.heap.size v (bytesBelow g k) wr ∧ wr.heap[w.heap.size]? = some (.cells #[.string t] 36 (0, 0)) ∧ Below w.heap.size w wr) (fun _ i _ => 256 - (intOf i).toNat)
  case atStart =>
    refine ⟨0, by omega, rfl, ?_, ?_, ((Below.refl _ _).alloc (Nat.le_refl _) _).alloc (by simp) _⟩
    · have e0 : bytesBelow g 0 = [] := rfl
      rw [e0]
      have := Own.made w.heap.size (w.alloc (.cells #[.string t] 36)) (by simp)
      simpa using this
    · rw [Below.heap_alloc _ _ _ (by simp)]
      exact heap_alloc_new w _
  case round =>
    obtain ⟨k, hk, rfl, hown, hc, hbw⟩ := hrel
    have hB := hbw.size
    have hlw := (Array.getElem?_eq_some_iff.1 hc).1
    by_cases hlt : k < 256
    · have c0 := box_cell hc
      have h8 := ofNat_nat hlt
      have K := fun w => HV.out w (UInt8.ofNat k)
      rw [h8] at K
      have hl := bytesBelow_len g k
      have hgk := HG.out (UInt8.ofNat k)
      have hcs : (g (UInt8.ofNat k) = true ∧ clsOf t.data.toList (UInt8.ofNat k) = want) ∨ (g (UInt8.ofNat k) = false ∧ clsOf t.data.toList (UInt8.ofNat k) = !want) := by
        rw [← hgk]
        cases clsOf t.data.toList (UInt8.ofNat k) <;> cases want <;> simp
      rcases hcs with ⟨hgt, hcl⟩ | ⟨hgt, hcl⟩
      · rw [hcl] at K
        have HE := Caged.mk (bytesBelow_yes hgt)
        have HK := Caged.mk K
        have H8 := Caged.mk h8
        have heq : (want == want) = true := beq_self_eq_true _
        have HC := Caged.mk hc
        clear K hgt hcl hgk h8 hc
        go_wp2_with fail
        refine (HK.out _).mono ?_
        rintro e w1 ⟨rfl, hb1⟩
        have hown1 := hown.below hb1
        have hc1 := (hb1.block _ hlw).trans HC.out
        have hbw1 := below_next hbw hb1
        have hB1 := hbw1.size
        have HC1 := Caged.mk hc1
        clear hc1
        go_wp2_with (at_builtin; refine wpList_append_num rfl _ _ rfl w.heap.size _ (bytesBelow g k) _ (UInt8.ofNat k) _ ?hn rfl rfl ?ho ?c1 ?c2 ?_)
        case hn => rw [H8.out]
        case ho => exact hown1
        case c1 => omega
        case c2 => exact hB1
        intro v2 w2 hown2 hg2 hb2
        have hlw1 : w.heap.size < w1.heap.size := Nat.lt_of_lt_of_le hlw hb1.size
        have hc2 : w2.heap[w.heap.size]? = some (.cells #[.string t] 36 (0, 0)) := by
          have hne := hown1.ne_block HC1.out (by decide)
          refine (hg2.block _ (by simp; omega) (fun e => hne e.symm)).trans ?_
          rw [Below.heap_alloc _ _ _ hlw1]
          exact HC1.out
        have hbw2 := hbw1.trans hb2
        have HC2 := Caged.mk hc2
        clear hc2 hown1
        go_wp2_with fail
        go_roundw
        case rel => exact ⟨k + 1, by omega, by go_num, by rw [HE.out]; exact hown2, HC2.out, hbw2⟩
        case measure => simp [intOf]; omega
      · rw [hcl] at K
        have HE := Caged.mk (bytesBelow_no hgt)
        have HK := Caged.mk K
        have heq : (!want == want) = false := by cases want <;> rfl
        have heq2 : (want == !want) = false := by cases want <;> rfl
        have HC := Caged.mk hc
        clear K hgt hcl hgk h8 hc
        cases want
        all_goals
          go_wp2_with fail
          refine (HK.out _).mono ?_
          rintro e w1 ⟨rfl, hb1⟩
          have hown1 := hown.below hb1
          have hc1 := (hb1.block _ hlw).trans HC.out
          have hbw1 := below_next hbw hb1
          have HC1 := Caged.mk hc1
          clear hc1
          go_wp2_with fail
          go_roundw
          case rel => exact ⟨k + 1, by omega, by go_num, by rw [HE.out]; exact hown1, HC1.out, hbw1⟩
          case measure => simp [intOf]; omega
    · have e : k = 256 := by omega
      have HE := Caged.mk e
      clear e hc
      go_wp2_with fail
      go_ret
      refine ⟨_, rfl, ?_, hbw⟩
      have := HE.out
      subst this
      exact hown
end Go.Proofs.Ytpckcapilhfpcaa
