/-
  words.Letters and the reference's Letters: each byte where it comes first, or the fault; for every text of at most 140737488351233 bytes.
-/
import Derived.Test.YtanikiheenhaeaaFit
import Derived.Test.YtanikiheenhaeaaBuilder
namespace Go.Proofs.Ytanikiheenhaeaa
open Go.RowKit

/-- both answers as a value -/
def lettersV : Option (List UInt8) → Value
  | some l => .tuple #[.string ⟨l.toArray⟩, .int .i64 0]
  | none => .tuple #[.string ⟨#[]⟩, .int .i64 21]

/-- the marks of the bytes seen, at first -/
def noneSeen : Array Value := Array.replicate 256 (.bool false)
theorem zeroSeen (w : World) : (zeroValue 46).run Try.prog w = .ok (.agg noneSeen) w := by kernel_rfl

/-- block g marks just the bytes of acc -/
def Seen (w : World) (g : Nat) (acc : List UInt8) : Prop :=
  ∃ cur : Array Value, w.heap[g]? = some (.cells cur 46 (0, 0)) ∧ cur.size = 256 ∧ ∀ x : UInt8, cur[x.toNat]? = some (.bool (acc.contains x))

theorem Seen.start (w : World) : Seen (w.alloc (.cells noneSeen 46)) w.heap.size [] := by
  refine ⟨noneSeen, heap_alloc_new w _, by simp [noneSeen], fun x => ?_⟩
  have := x.toNat_lt
  simp [noneSeen, this]
theorem Seen.cell {w : World} {g : Nat} {acc : List UInt8} (h : Seen w g acc) (x : UInt8) : w.cell? ⟨g, x.toNat, none⟩ = some (.bool (acc.contains x)) := by
  obtain ⟨cur, hg, _, hx⟩ := h
  rw [cell_of_row w g _ _ _ _ hg]
  exact hx x
theorem Seen.frozen {w : World} {g : Nat} {acc : List UInt8} (h : Seen w g acc) (j : Nat) : w.frozen? ⟨g, j, none⟩ = false := by
  obtain ⟨cur, hg, _, _⟩ := h
  exact Lib.frozen_of_heap hg j
theorem Seen.mark {w : World} {g : Nat} {acc : List UInt8} (h : Seen w g acc) (x : UInt8) : Seen (w.setCell ⟨g, x.toNat, none⟩ (.bool true)) g (acc ++ [x]) := by
  obtain ⟨cur, hg, hs, hx⟩ := h
  refine ⟨cur.setIfInBounds x.toNat (.bool true), ?_, by simpa using hs, fun y => ?_⟩
  · simp [World.setCell, Array.getElem?_modify, hg]
  · rw [Array.getElem?_setIfInBounds]
    by_cases e : x = y
    · subst e
      have := x.toNat_lt
      rw [if_pos rfl, if_pos (by omega)]
      simp
    · have : x.toNat ≠ y.toNat := fun h => e (UInt8.toNat_inj.1 h)
      rw [if_neg this, hx y]
      simp [Ne.symm e]
theorem Seen.other {w w' : World} {g : Nat} {acc : List UInt8} (h : Seen w g acc) (he : w'.heap[g]? = w.heap[g]?) : Seen w' g acc := by
  obtain ⟨cur, hg, hs, hx⟩ := h
  exact ⟨cur, he.trans hg, hs, hx⟩
theorem Seen.kept {w w' : World} {g b : Nat} {acc : List UInt8} (h : Seen w g acc) (hb : b ≠ g) (hk : Lib.OthersKept 5 (some b) w w') : Seen w' g acc := by
  obtain ⟨cur, hg, hs, hx⟩ := h
  refine ⟨cur, hk g _ hg (fun e => hb (by injection e with e; exact e.symm)) (fun c fz e => ?_), hs, hx⟩
  injection e with _ e
  exact absurd e (by decide)
theorem Bld.seen {w : World} {B b g : Nat} {l acc : List UInt8} (h : Bld B b l w) (hs : Seen w g acc) (hb : b ≠ g) (j : Nat) (u : Value) : Bld B b l (w.setCell ⟨g, j, none⟩ u) := by
  obtain ⟨cur, hg, _, _⟩ := hs
  have key : ∀ p, Lib.BuilderAtF 40 5 B b p (Lib.byteCells l) w → Lib.BuilderAtF 40 5 B b p (Lib.byteCells l) (w.setCell ⟨g, j, none⟩ u) := by
    rintro p ⟨hB, v, h1, h2, h3⟩
    refine ⟨hB, v, (Below.heap_setCell w ⟨g, j, none⟩ u b hb).trans h1, ?_, h3⟩
    refine h2.kept (row := some g) ⟨rfl, rfl, rfl, by simp [World.setCell], fun k _ hk => Below.heap_setCell _ _ _ _ (fun e => hk (by rw [e]))⟩ (Or.inr fun e => ?_)
    obtain ⟨c, fz, hc⟩ := Lib.ownsRowF_kind h2 g e
    rw [hg] at hc
    injection hc with hc
    injection hc with _ hc
    exact absurd hc (by decide)
  exact h.elim (fun h => Or.inl (key _ h)) (fun h => Or.inr (key _ h))

theorem lettersL_none {l : List UInt8} (h : okL l = false) : lettersL l = none := by simp [lettersL, h]
theorem lettersL_nil : lettersL [] = none := rfl
theorem lettersL_some {l : List UInt8} (h0 : l ≠ []) (h : okL l = true) : lettersL l = some (once [] l) := by
  cases l with
  | nil => exact absurd rfl h0
  | cons x l => simp [lettersL, h]

set_option maxHeartbeats 1000000 in
theorem letters_any (s : ByteArray) (w : World) (hs : s.size ≤ 140737488351233) :
    Calls Try.prog 18 #[.string s] w fun e w' => e = .returned (lettersV (lettersL s.data.toList)) ∧ Below w.heap.size w w' := by
  have hl := len_eq s
  have hz := zeroSeen
  by_cases h1 : s.size < 1
  · have hn : s.data.toList = [] := List.eq_nil_of_length_eq_zero (by omega)
    have h0 : s.toList = [] := by rw [Lib.toList_data]; exact hn
    have e : lettersL s.data.toList = none := by rw [hn]; rfl
    have HE := Lib.hid e
    clear e hn hl
    go_enter Try.func18, Try.ntmps18
    go_wp2_with fail
    go_ret2
    exact ⟨by rw [HE.out]; rfl, (Below.refl _ _).alloc (Nat.le_refl _) _⟩
  · have hn : s.data.toList ≠ [] := by
      intro h
      rw [h] at hl
      simp at hl
      omega
    have h0 : s.toList.isEmpty = false := by
      rw [Lib.toList_data]
      cases h : s.data.toList with
      | nil => exact absurd h hn
      | cons x l => rfl
    have HN := Lib.hid hn
    clear hl hn
    go_enter Try.func18, Try.ntmps18
    go_wp2_with fail
    go_loopw [11] (fun i wr => ∃ (k : Nat) (acc : List UInt8), k ≤ s.size ∧ acc.length ≤ k ∧ i = .int .i64 k ∧ okL s.data.toList = okL (s.data.toList.drop k) ∧ once [] s.data.toList = once acc (s.data.toList.drop k) ∧
      Seen wr w.heap.size acc ∧ Bld w.heap.size (w.heap.size + 1) acc wr ∧ Below w.heap.size w wr) (fun i _ => s.size - (intOf i).toNat)
    case atStart =>
      refine ⟨0, [], by omega, by simp, rfl, by simp, by simp, (Seen.start w).other (by rw [Below.heap_alloc]; simp), ?_, ((Below.refl _ _).alloc (Nat.le_refl _) _).alloc (by simp) _⟩
      have := Bld.fresh (w.alloc (.cells noneSeen 46)) w.heap.size (by simp)
      simpa using this
    case round =>
      obtain ⟨k, acc, hk, hac, rfl, hok, hon, hsn, hbd, hbw⟩ := hrel
      have hB := hbw.size
      by_cases hlt : k < s.size
      · have hd := drop_cons s k hlt
        cases hf : fitB s[k] with
        | false =>
          have e : lettersL s.data.toList = none := lettersL_none (by rw [hok, hd, okL_cons, hf]; rfl)
          have HE := Lib.hid e
          have hfit := fit_any s[k]
          rw [hf] at hfit
          have HF := Lib.hid hfit
          clear e hf hd hfit hok hon
          go_wp2_with fail
          refine (HF.out _).mono ?_
          rintro e w' ⟨rfl, rfl⟩
          go_wp2_with fail
          go_ret2
          exact ⟨by rw [HE.out]; rfl, hbw⟩
        | true =>
          have e : okL s.data.toList = okL (s.data.toList.drop (k + 1)) := by rw [hok, hd, okL_cons, hf]; rfl
          have HE := Lib.hid e
          have hfit := fit_any s[k]
          rw [hf] at hfit
          have HF := Lib.hid hfit
          have hcell := hsn.cell s[k]
          have hfz := hsn.frozen s[k].toNat
          rw [hd] at hon
          have hbound := s[k].toNat_lt
          cases hc : acc.contains s[k] with
          | true =>
            have e2 : once [] s.data.toList = once acc (s.data.toList.drop (k + 1)) := by rw [hon, once, if_pos hc]
            have HO := Lib.hid e2
            rw [hc] at hcell
            clear e hf hd hfit hok hon e2 hc
            go_wp2_with fail
            refine (HF.out _).mono ?_
            rintro e w' ⟨rfl, rfl⟩
            go_wp2_with fail
            go_roundw
            case rel => exact ⟨k + 1, acc, by omega, by omega, by go_num, HE.out, HO.out, hsn, hbd, hbw⟩
            case measure => simp [intOf]; omega
          | false =>
            have e2 : once [] s.data.toList = once (acc ++ [s[k]]) (s.data.toList.drop (k + 1)) := by rw [hon, once, if_neg (by rw [hc]; decide)]
            have HO := Lib.hid e2
            rw [hc] at hcell
            clear e hf hd hfit hok hon e2 hc
            go_wp2_with fail
            refine (HF.out _).mono ?_
            rintro e w' ⟨rfl, rfl⟩
            go_wp2_with fail
            have hbd2 := hbd.seen hsn (by omega) s[k].toNat (.bool true)
            have hsn2 := hsn.mark s[k]
            have hbw2 := hbw.setCell (p := ⟨w.heap.size, s[k].toNat, none⟩) (Nat.le_refl _) (.bool true)
            have hB2 := hbw2.size
            refine (writeByte_any w.heap.size (w.heap.size + 1) acc s[k] _ hbd2 (by omega) hB2).mono ?_
            rintro e w1 ⟨rfl, hbd3, hb3, hk3⟩
            have hsn3 := hsn2.kept (by omega) hk3
            have hbw3 := hbw2.trans hb3
            go_wp2_with fail
            go_roundw
            case rel => exact ⟨k + 1, _, by omega, by simp; omega, by go_num, HE.out, HO.out, hsn3, hbd3, hbw3⟩
            case measure => simp [intOf]; omega
      · have hd := drop_end s k hlt
        have e : lettersL s.data.toList = some acc := by rw [lettersL_some HN.out (by rw [hok, hd]; rfl), hon, hd]; rfl
        have HE := Lib.hid e
        clear hok hon hd e
        go_wp2_with fail
        refine (builderString_any w.heap.size (w.heap.size + 1) acc _ hbd hB).mono ?_
        rintro e w1 ⟨rfl, hb1⟩
        go_wp2_with fail
        go_ret2
        exact ⟨by rw [HE.out]; rfl, hbw.trans hb1⟩

theorem byte_beq (x y : UInt8) : ((x.toNat : Int) == (y.toNat : Int)) = (x == y) := by
  by_cases h : x = y
  · subst h; simp
  · have : ¬ x.toNat = y.toNat := fun e => h (UInt8.toNat_inj.1 e)
    rw [beq_eq_false_iff_ne.2 h, beq_eq_false_iff_ne]
    omega
theorem contains_take (acc : List UInt8) (x : UInt8) {j : Nat} {y : UInt8} (hj : acc[j]? = some y) : (acc.take (j + 1)).contains x = ((acc.take j).contains x || (y == x)) := by
  have hlt : j < acc.length := (List.getElem?_eq_some_iff.1 hj).1
  rw [List.take_succ_eq_append_getElem hlt, (List.getElem?_eq_some_iff.1 hj).2]
  have h : decide (x = y) = (y == x) := by
    by_cases e : x = y
    · subst e; simp
    · simp [e, Ne.symm e]
  simp [h]
theorem contains_of_take (acc : List UInt8) (x : UInt8) (j : Nat) (h : (acc.take j).contains x = true) : acc.contains x = true := by
  simp only [List.contains_iff_mem] at h ⊢
  exact List.mem_of_mem_take h
theorem once_yes {acc l : List UInt8} {x : UInt8} (h : acc.contains x = true) : once acc (x :: l) = once acc l := by rw [once, if_pos h]
theorem once_no {acc l : List UInt8} {x : UInt8} (h : acc.contains x = false) : once acc (x :: l) = once (acc ++ [x]) l := by rw [once, if_neg (by rw [h]; decide)]

set_option maxHeartbeats 2000000 in
theorem refLetters_any (s : ByteArray) (w : World) (hs : s.size ≤ 140737488351233) :
    Calls Try.prog 19 #[.string s] w fun e w' => e = .returned (lettersV (lettersL s.data.toList)) ∧ Below w.heap.size w w' := by
  have hs' : s.size ≤ maxLen := by unfold maxLen; omega
  have hl := len_eq s
  have KB := refBytes_any s w hs'
  by_cases h1 : s.size < 1
  · have hn : s.data.toList = [] := List.eq_nil_of_length_eq_zero (by omega)
    have h0 : (s.size : Int) = 0 := by omega
    have h00 : ((s.size : Int) == 0) = true := by rw [h0]; rfl
    have e : lettersL s.data.toList = none := by rw [hn]; rfl
    have HE := Lib.hid e
    have HB := Lib.hid KB
    clear e hn hl KB h0
    go_enter Try.func19, Try.ntmps19
    go_wp2_with fail
    refine HB.out.mono ?_
    rintro e w' ⟨rfl, rfl⟩
    go_wp2_with fail
    go_ret2
    exact ⟨by rw [HE.out]; rfl, Below.refl _ _⟩
  · have h0 : ((s.size : Int) == 0) = false := by rw [beq_eq_false_iff_ne]; omega
    cases hok : okL s.data.toList with
    | false =>
      rw [hok] at KB
      have e : lettersL s.data.toList = none := lettersL_none hok
      have HE := Lib.hid e
      have HB := Lib.hid KB
      clear e hl KB hok
      go_enter Try.func19, Try.ntmps19
      go_wp2_with fail
      refine HB.out.mono ?_
      rintro e w' ⟨rfl, rfl⟩
      go_wp2_with fail
      go_ret2
      exact ⟨by rw [HE.out]; rfl, Below.refl _ _⟩
    | true =>
      rw [hok] at KB
      have hn : s.data.toList ≠ [] := by
        intro h
        rw [h] at hl
        simp at hl
        omega
      have e : lettersL s.data.toList = some (once [] s.data.toList) := lettersL_some hn hok
      have HE := Lib.hid e
      have HB := Lib.hid KB
      clear e hl KB hok hn
      go_enter Try.func19, Try.ntmps19
      go_wp2_with fail
      refine HB.out.mono ?_
      rintro e w' ⟨rfl, rfl⟩
      go_wp2_with fail
      go_loopw [5, 6, 7, 8] (fun v i _ _ wr => ∃ (k : Nat) (acc : List UInt8) (g cap : Nat), k ≤ s.size ∧ acc.length ≤ k ∧ i = .int .i64 k ∧ v = .slice (some ⟨g, 0, none⟩) acc.length cap ∧ once [] s.data.toList = once acc (s.data.toList.drop k) ∧
        Own w.heap.size v acc wr ∧ Below w.heap.size w wr) (fun _ i _ _ _ => s.size - (intOf i).toNat)
      case atStart => exact ⟨0, [], w.heap.size, 0, by omega, by simp, rfl, rfl, by simp, Own.made _ _ (Nat.le_refl _), (Below.refl _ _).alloc (Nat.le_refl _) _⟩
      case round =>
        obtain ⟨k, acc, g, cap, hk, hac, rfl, rfl, hon, hown, hbw⟩ := hrel
        have hB := hbw.size
        by_cases hlt : k < s.size
        · have hd := drop_cons s k hlt
          rw [hd] at hon
          have HO := Lib.hid hon
          clear hon hd
          have hcell := fun j x (hj : acc[j]? = some x) => hown.cell hj
          have HC := Lib.hid hcell
          have HW := Lib.hid hown
          clear hcell hown
          have hal : acc.length ≤ 140737488351233 := by omega
          obtain ⟨wo, rfl⟩ : ∃ wo : World, wo = wr := ⟨_, rfl⟩
          go_wp2_with fail
          go_loopw [7, 8] (fun a i wr => ∃ (j m : Nat) (b : Bool), j ≤ acc.length ∧ i = .int .i64 j ∧ a = .bool b ∧ (acc.take j).contains s[k] = b ∧ wr = wo.drewN m) (fun _ i _ => acc.length - (intOf i).toNat)
          case atStart => exact ⟨0, 0, false, by omega, rfl, rfl, by simp, rfl⟩
          case round =>
            obtain ⟨j, m, b, hj, rfl, rfl, hcon, rfl⟩ := hrel
            have HN := Lib.hid hcon
            clear hcon
            by_cases hjl : j < acc.length
            · cases b with
              | true =>
                have e2 : once [] s.data.toList = once acc (s.data.toList.drop (k + 1)) := by rw [HO.out]; exact once_yes (contains_of_take acc s[k] j HN.out)
                have HE2 := Lib.hid e2
                clear e2
                go_wp2_with fail
                go_roundw
                case rel => exact ⟨k + 1, acc, g, cap, by omega, by omega, by go_num, rfl, HE2.out, HW.out.drewN _, hbw.trans (below_drewN _ _ _)⟩
                case measure => simp [intOf]; omega
              | false =>
                obtain ⟨y, hy⟩ : ∃ y, acc[j]? = some y := ⟨_, List.getElem?_eq_getElem hjl⟩
                have hc := HC.out j y hy
                have hct := contains_take acc s[k] hy
                rw [HN.out, Bool.false_or, ← byte_beq] at hct
                have HT := Lib.hid hct
                clear hct hy
                go_wp2_with fail
                go_quiet (fail)
                go_wp2_with fail
                go_roundw
                case rel => exact ⟨j + 1, m + nq, _, by omega, by go_num, rfl, HT.out, rfl⟩
                case measure => simp [intOf]; omega
            · have hct : acc.contains s[k] = b := by rw [← HN.out, List.take_of_length_le (by omega)]
              cases b with
              | true =>
                have e2 : once [] s.data.toList = once acc (s.data.toList.drop (k + 1)) := by rw [HO.out]; exact once_yes (hct)
                have HE2 := Lib.hid e2
                clear e2 hct
                go_wp2_with fail
                go_roundw
                case rel => exact ⟨k + 1, acc, g, cap, by omega, by omega, by go_num, rfl, HE2.out, HW.out.drewN _, hbw.trans (below_drewN _ _ _)⟩
                case measure => simp [intOf]; omega
              | false =>
                have e2 : once [] s.data.toList = once (acc ++ [s[k]]) (s.data.toList.drop (k + 1)) := by rw [HO.out]; exact once_no hct
                have HE2 := Lib.hid e2
                clear e2 hct
                go_wp2_with (at_builtin; refine wpList_append_byte rfl _ _ rfl w.heap.size _ acc _ s[k] rfl rfl ?ho ?c1 ?c2 ?_)
                case ho => exact HW.out.drewN m
                case c1 => omega
                case c2 => exact hB
                intro v1 w1 hown1 _ hb1
                have hbw1 := (hbw.trans (below_drewN _ _ m)).trans hb1
                obtain ⟨g1, cap1, hv1⟩ := hown1.somewhere (by simp)
                rw [hv1] at hown1
                rw [hv1]
                clear hv1
                go_wp2_with fail
                go_roundw
                case rel => exact ⟨k + 1, _, g1, cap1, by omega, by simp; omega, by go_num, by simp, HE2.out, hown1, hbw1⟩
                case measure => simp [intOf]; omega
        · have hd := drop_end s k hlt
          have e : once [] s.data.toList = acc := by rw [hon, hd]; rfl
          have HO := Lib.hid e
          have hst := run_string_own hown
          clear hon hd e
          go_wp2_with fail
          go_ret2
          exact ⟨by rw [HE.out, HO.out]; rfl, hbw⟩
end Go.Proofs.Ytanikiheenhaeaa
