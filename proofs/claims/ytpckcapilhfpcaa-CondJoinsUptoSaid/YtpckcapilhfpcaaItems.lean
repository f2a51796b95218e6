/-
  The reference's items in memory: a slice of texts that a call owns; the reference's Read and closing.
-/
import Derived.Test.YtpckcapilhfpcaaCondRead
namespace Go.Proofs.Ytpckcapilhfpcaa
open Go.RowKit

/-- v is a slice of the call's own (from block B on) that holds the items Q -/
def ItemsOwn (B : Nat) (v : Value) (Q : List ByteArray) (w : World) : Prop := w.ownsRow B 36 1 v Q.length (Q.map Value.string)
theorem infoItem : (Try.prog.info? 36).map (fun i => (i.zero, i.size, i.bytes)) = some (some (.agg #[.string ⟨#[]⟩]), 1, 16) := by kernel_rfl

section
variable {B : Nat} {v : Value} {Q : List ByteArray} {w w' : World}
theorem ItemsOwn.nil (B : Nat) (w : World) : ItemsOwn B (.slice none 0 0) [] w := World.ownsRow_nil w B _ 1
theorem ItemsOwn.alloc (h : ItemsOwn B v Q w) (o : Obj) : ItemsOwn B v Q (w.alloc o) := World.ownsRow.alloc h o
theorem ItemsOwn.drewN (h : ItemsOwn B v Q w) (n : Nat) : ItemsOwn B v Q (w.drewN n) := h
theorem ItemsOwn.below (h : ItemsOwn B v Q w) (hb : Below w.heap.size w w') : ItemsOwn B v Q w' := by
  refine World.ownsRow.kept (row := none) h ⟨hb.os, hb.tape, hb.output, hb.size, fun k hk _ => hb.block k hk⟩ ?_
  cases hv : v.ownBlock <;> simp
theorem ItemsOwn.form (h : ItemsOwn B v Q w) : ∃ a cap, v = .slice a Q.length cap := by
  rcases h.2 with ⟨rfl, hn⟩ | ⟨g, cap, cur, rfl, _⟩
  · exact ⟨none, 0, by rw [hn]⟩
  · exact ⟨_, cap, rfl⟩
theorem ItemsOwn.somewhere (h : ItemsOwn B v Q w) (h0 : Q ≠ []) : ∃ g cap, v = .slice (some ⟨g, 0, none⟩) Q.length cap := by
  rcases h.2 with ⟨rfl, hn⟩ | ⟨g, cap, cur, rfl, _⟩
  · exact absurd (List.eq_nil_of_length_eq_zero hn) h0
  · exact ⟨g, cap, rfl⟩
theorem ItemsOwn.cell {g n cap : Nat} (h : ItemsOwn B (.slice (some ⟨g, 0, none⟩) n cap) Q w) {i : Nat} {t : ByteArray} (hi : Q[i]? = some t) : w.cell? ⟨g, i, none⟩ = some (.string t) := by
  have := World.ownsRow.cells h (g := g) rfl i (.string t) (by simp [hi])
  have hadd : (⟨g, 0, none⟩ : Addr).add i = ⟨g, i, none⟩ := by unfold Addr.add; split <;> simp_all
  rw [hadd] at this
  exact this
theorem ItemsOwn.lt (h : ItemsOwn B v Q w) : ∀ k, v.ownBlock = some k → B ≤ k ∧ k < w.heap.size := World.ownsRow.lt h
end

theorem wpList_append_item {ops : Array Oper} {rest : List Oper} {o : Oper} {a : Act} {Q : Exit → Act → World → Prop} (hgd : o.guard = none) (s x : Operand)
    (ho : o.op = .call { callee := .builtin .append, args := #[s, x], argTypes := #[28, 28] })
    (B : Nat) (v : Value) (P : List ByteArray) (w : World) (t : ByteArray) (hs : a.eval s = v) (hx : a.eval x = .slice (some ⟨w.heap.size, 0, none⟩) 1 1)
    (hown : ItemsOwn B v P w) (hlen : P.length + 1 ≤ 1048576) (hB : B ≤ w.heap.size)
    (h : ∀ v' w', ItemsOwn B v' (P ++ [t]) w' → Below B w w' → wpList Try.prog ops Q rest (a.put o.dst v') w') :
    wpList Try.prog ops Q (o :: rest) a (w.alloc (.cells #[.string t] 36)) := by
  obtain ⟨i0, hi, hz0, hz1, hz2⟩ := info_parts infoItem
  refine wpList_append_own _ hgd s x 28 ho B 36 i0 _ 1 16 Try.underlying28 hi hz0 hz1 hz2 rfl (by decide) v P.length (P.map Value.string) hs (World.ownsRow.alloc hown _)
    ⟨w.heap.size, 0, none⟩ 1 1 [.string t] hx rfl ?_ ?_ (by unfold maxLen; omega) (by omega) (by simp; omega) ?_
  · intro j u hj
    match j, hj with
    | 0, hj => simp at hj; subst hj; simp [Addr.add]
  · intro u hu; simp at hu; subst hu; rfl
  · intro v' w' hown' hgrow _
    refine h v' w' ?_ (((Below.refl B w).alloc hB _).grown hgrow (by simp; omega) (fun k hk => (World.ownsRow.lt hown k hk).1))
    have e1 : (P ++ [t]).length = P.length + 1 := by simp
    unfold ItemsOwn
    rw [e1, List.map_append]
    exact hown'

/-- closing: the place of the next ']' from i on -/
def closeV (i : Nat) : Option Nat → Int
  | none => -1
  | some n => ((i + n : Nat) : Int)
set_option maxHeartbeats 1000000 in
theorem closing_any (s : ByteArray) (i : Nat) (w : World) (hs : s.size ≤ maxLen) (hi : i ≤ s.size) :
    Calls Try.prog 48 #[.string s, .int .i64 i] w fun e w' => e = .returned (.int .i64 (closeV i (find93 (s.data.toList.drop i)))) ∧ w = w' := by
  unfold maxLen at hs
  go_enter Try.func48, Try.ntmps48
  go_wp2_with fail
  go_loop [1] (fun j => ∃ k : Nat, k ≤ s.size ∧ j = .int .i64 k ∧ closeV i (find93 (s.data.toList.drop i)) = closeV k (find93 (s.data.toList.drop k))) (fun j => s.size - (intOf j).toNat)
  case atStart => exact ⟨i, hi, rfl, rfl⟩
  case round =>
    obtain ⟨k, hk, rfl, hall⟩ := hrel
    by_cases hlt : k < s.size
    · have hd := drop_cons s k hlt
      rw [hd] at hall
      by_cases c1 : s[k].toNat = 93
      · have h3 : ((s[k].toNat : Int) == 93) = true := byte_is c1 rfl
        have hx : s[k] = 93 := UInt8.toNat_inj.1 c1
        have e : closeV i (find93 (s.data.toList.drop i)) = (k : Int) := by rw [hall, find93, if_pos hx]; simp [closeV]
        have HE := Lib.hid e
        clear hall hd c1 hx e
        go_wp2_with fail
        go_ret
        exact ⟨ret_int HE.out.symm, rfl⟩
      · have h3 : ((s[k].toNat : Int) == 93) = false := byte_ne c1 rfl
        have hx : s[k] ≠ 93 := fun e => c1 (by rw [e]; rfl)
        have e : closeV i (find93 (s.data.toList.drop i)) = closeV (k + 1) (find93 (s.data.toList.drop (k + 1))) := by
          rw [hall, find93, if_neg hx]
          cases find93 (s.data.toList.drop (k + 1)) with
          | none => rfl
          | some n => simp only [Option.map_some, closeV]; omega
        have HE := Lib.hid e
        clear hall hd c1 hx e
        go_wp2_with fail
        go_round
        case rel => exact ⟨k + 1, by omega, by go_num, HE.out⟩
        case measure => simp [intOf]; omega
    · have hd := drop_end s k hlt
      have e : closeV i (find93 (s.data.toList.drop i)) = -1 := by rw [hall, hd]; rfl
      have HE := Lib.hid e
      clear hall hd e
      go_wp2_with fail
      go_ret
      exact ⟨ret_int HE.out.symm, rfl⟩
end Go.Proofs.Ytpckcapilhfpcaa
