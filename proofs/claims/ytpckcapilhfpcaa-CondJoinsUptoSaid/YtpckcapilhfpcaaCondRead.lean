/-
  cond.Read: the classes of the pieces of a text, or the fault; for every text.
-/
import Derived.Test.YtpckcapilhfpcaaPat
import Derived.Test.YtpckcapilhfpcaaByteTests
namespace Go.Proofs.Ytpckcapilhfpcaa
open Go.RowKit

theorem results_pat {fn : Func} {a t : Nat} (h : fn.results = #[.cell a 24, .tmp t]) (tmps : Array Value) (W : World) (g : Nat) (v : Value) (fr : Nat × Nat) (ha : tmps.getD a undef = .pointer (some ⟨g, 0, none⟩)) (hc : W.heap[g]? = some (.cells #[v] 24 fr)) :
    (results fn tmps).run Try.prog W = .ok (.tuple #[.agg #[v], tmps.getD t undef]) W := by
  have c0 : W.cell? ⟨g, 0, none⟩ = some v := by rw [cell_of_row W g 0 _ _ _ hc]; rfl
  have ha' : tmps[a]?.getD undef = .pointer (some ⟨g, 0, none⟩) := by simpa using ha
  simp [results, h, ha', go_sem, c0]

/-- what Read answers: the classes, the error's number -/
def patOf : Nat ⊕ List (List UInt8) → List Cls
  | .inl _ => []
  | .inr ps => ps.map clsOf
def errOf : Nat ⊕ List (List UInt8) → Nat
  | .inl e => e
  | .inr _ => 0

def ReadPost (s : ByteArray) (w : World) (e : Ending) (w' : World) : Prop :=
  ∃ v, e = .returned (.tuple #[.agg #[v], .int .i64 (errOf (readP s.data.toList))]) ∧ PatOwn w.heap.size v (patOf (readP s.data.toList)) w' ∧ Below w.heap.size w w'

theorem toList_eq (s : ByteArray) (l : List UInt8) : (s.toList == l) = (s.data.toList == l) := by rw [Lib.toList_data]
theorem readP_empty {l : List UInt8} (h : l = []) : readP l = .inl 40 := by rw [readP, if_pos (.inl h)]
theorem readP_long {l : List UInt8} (h : 512 < l.length) : readP l = .inl 40 := by rw [readP, if_pos (.inr h)]
theorem readP_dot : readP [46] = .inr [] := by rw [readP, if_neg (by simp), if_pos rfl]
theorem readP_rest {l : List UInt8} (h0 : l ≠ []) (h1 : l.length ≤ 512) (h2 : l ≠ [46]) : readP l = match piecesF l.length l with | none => .inl 41 | some ps => if 16 < ps.length then .inl 42 else .inr ps := by
  rw [readP, if_neg (by rintro (h | h); exact h0 h; omega), if_neg h2]
  cases piecesF l.length l <;> rfl

/-- the state of Read's loop: the pattern p at block B + 1, the result's cell at block B -/
def RdSt (B : Nat) (v : Value) (P : List Cls) (w wr : World) : Prop :=
  PatOwn B v P wr ∧ wr.heap[B + 1]? = some (.cells #[v] 24 (0, 0)) ∧ wr.heap[B]? = some (.cells #[.slice none 0 0] 24 (0, 0)) ∧ Below B w wr
section
variable {B : Nat} {v : Value} {P : List Cls} {w wr w' : World}
theorem RdSt.lt (h : RdSt B v P w wr) : B + 1 < wr.heap.size := (Array.getElem?_eq_some_iff.1 h.2.1).1
theorem RdSt.below (h : RdSt B v P w wr) (hb : Below wr.heap.size wr w') : RdSt B v P w w' := by
  have hl := h.lt
  exact ⟨h.1.below hb, (hb.block _ hl).trans h.2.1, (hb.block _ (by omega)).trans h.2.2.1, h.2.2.2.trans (hb.mono (by omega))⟩
theorem RdSt.cell (h : RdSt B v P w wr) : wr.cell? ⟨B + 1, 0, none⟩ = some v := by rw [cell_of_row wr _ 0 _ _ _ h.2.1]; rfl
theorem RdSt.cell0 (h : RdSt B v P w wr) : wr.cell? ⟨B, 0, none⟩ = some (.slice none 0 0) := by rw [cell_of_row wr _ 0 _ _ _ h.2.2.1]; rfl
theorem RdSt.frozen0 (h : RdSt B v P w wr) : wr.frozen? ⟨B, 0, none⟩ = false := Lib.frozen_of_heap h.2.2.1 0
/-- the answer's cell written: what Read leaves -/
theorem RdSt.done (h : RdSt B v P w wr) (u : Value) : (wr.setCell ⟨B, 0, none⟩ u).heap[B]? = some (.cells #[u] 24 (0, 0)) ∧ PatOwn B v P (wr.setCell ⟨B, 0, none⟩ u) ∧ Below B w (wr.setCell ⟨B, 0, none⟩ u) :=
  ⟨set_at h.2.2.1 0 u, h.1.store h.2.2.1 (by decide) u, h.2.2.2.setCell (Nat.le_refl _) u⟩
theorem RdSt.push (h : RdSt B v P w wr) {o : Obj} {v2 : Value} {P2 : List Cls} (hown : PatOwn B v2 P2 w') (hg : (wr.alloc o).grownBy w' v.ownBlock) :
    RdSt B v2 P2 w (w'.setCell ⟨B + 1, 0, none⟩ v2) ∧ w'.cell? ⟨B + 1, 0, none⟩ = some v ∧ w'.frozen? ⟨B + 1, 0, none⟩ = false := by
  have hl := h.lt
  have h1 : w'.heap[B + 1]? = some (.cells #[v] 24 (0, 0)) := by
    rw [hg.block _ (by simp; omega) (fun e => h.1.ne_block h.2.1 (by decide) e.symm), Below.heap_alloc _ _ _ hl]
    exact h.2.1
  have h0 : w'.heap[B]? = some (.cells #[.slice none 0 0] 24 (0, 0)) := by
    rw [hg.block _ (by simp; omega) (fun e => h.1.ne_block h.2.2.1 (by decide) e.symm), Below.heap_alloc _ _ _ (by omega)]
    exact h.2.2.1
  have hb : Below B w w' := (h.2.2.2.alloc (by omega) o).grown hg (by simp; omega) (fun k hk => (h.1.lt k hk).1)
  refine ⟨⟨hown.store h1 (by decide) _, set_at h1 0 v2, (Below.heap_setCell _ _ _ _ (by simp)).trans h0, hb.setCell (by simp) _⟩, ?_, ?_⟩
  · rw [cell_of_row w' _ 0 _ _ _ h1]; rfl
  · exact Lib.frozen_of_heap h1 0
end

set_option maxHeartbeats 2000000 in
theorem condRead_loop (s : ByteArray) (w : World) (h0 : s.data.toList ≠ []) (h1 : s.size ≤ 512) (h2 : s.data.toList ≠ [46]) :
    Calls Try.prog 18 #[.string s] w (ReadPost s w) := by
  have e0 : s.toList.isEmpty = false := by
    rw [Lib.toList_data]
    cases h : s.data.toList with
    | nil => exact absurd h h0
    | cons x l => rfl
  have e1 : (s.toList == [46]) = false := by rw [toList_eq, beq_eq_false_iff_ne]; exact h2
  have hr := readP_rest h0 (by rw [len_eq]; exact h1) h2
  rw [len_eq] at hr
  have HR := Lib.hid hr
  have e2 : decide ((512 : Int) < (s.size : Int)) = false := decide_eq_false (by omega)
  clear hr h0 h2
  go_enter Try.func18, Try.ntmps18
  go_wp2_with fail
  go_loopw [5] (fun i wr => ∃ (k fuel : Nat) (acc : List (List UInt8)) (v : Value), k ≤ s.size ∧ s.size ≤ k + fuel ∧ acc.length ≤ k ∧ i = .int .i64 k ∧ piecesF s.size s.data.toList = aheadP acc (piecesF fuel (s.data.toList.drop k)) ∧
    RdSt w.heap.size v (acc.map clsOf) w wr) (fun i _ => s.size - (intOf i).toNat)
  case atStart =>
    refine ⟨0, s.size, [], .slice none 0 0, by omega, by omega, by simp, rfl, by rw [aheadP_nil]; rfl, PatOwn.nil _ _, ?_, ?_, ((Below.refl _ _).alloc (Nat.le_refl _) _).alloc (by simp) _⟩
    · have := heap_alloc_new (w.alloc (.cells #[.slice none 0 0] 24)) (.cells #[.slice none 0 0] 24)
      simpa using this
    · rw [Below.heap_alloc _ _ _ (by simp)]
      exact heap_alloc_new w _
  case round =>
    obtain ⟨k, fuel, acc, v, hk, hf, hac, rfl, hall, hst⟩ := hrel
    have hlt2 := hst.lt
    by_cases hlt : k < s.size
    · obtain ⟨f, hff⟩ : ∃ f, fuel = f + 1 := ⟨fuel - 1, by omega⟩
      rw [hff, drop_cons s k hlt] at hall
      have hf1 : s.size ≤ k + 1 + f := by omega
      clear hff hf
      by_cases c1 : s[k].toNat = 91
      · have h3 : ((s[k].toNat : Int) == 91) = true := byte_is c1 rfl
        have hx : s[k] = 91 := UInt8.toNat_inj.1 c1
        rw [hx] at hall
        clear c1 hx
        cases hfi : find93 (s.data.toList.drop (k + 1)) with
        | none =>
          rw [aheadP_none _ _ hfi] at hall
          have K := fun w => bracket_none s (k + 1) w (by omega) hfi
          have HA := Lib.hid hall
          have HK := Lib.hid K
          clear hall K hfi
          go_wp2_with fail
          refine (HK.out _).mono ?_
          rintro e w1 ⟨rfl, hbr⟩
          have hcn := (ClsAt.new wr).below hbr (by simp)
          have hb1 : Below wr.heap.size wr w1 := ((Below.refl _ _).alloc (Nat.le_refl _) _).trans (hbr.mono (by simp))
          have hst1 := hst.below hb1
          have c0 := hcn.cell (k := 0) (by decide)
          have c1 := hcn.cell (k := 1) (by decide)
          have c2 := hcn.cell (k := 2) (by decide)
          have c3 := hcn.cell (k := 3) (by decide)
          have f0 := hcn.frozen 0
          have f1 := hcn.frozen 1
          have f2 := hcn.frozen 2
          have f3 := hcn.frozen 3
          unfold clsV
          have r0 := hst1.cell0
          have rf := hst1.frozen0
          go_wp2_with fail
          have hst2 : RdSt w.heap.size v (acc.map clsOf) w ((((w1.setCell ⟨wr.heap.size, 0, none⟩ (.int .u64 (clsW (fun _ => false) 0))).setCell ⟨wr.heap.size, 1, none⟩ (.int .u64 (clsW (fun _ => false) 1))).setCell ⟨wr.heap.size, 2, none⟩ (.int .u64 (clsW (fun _ => false) 2))).setCell ⟨wr.heap.size, 3, none⟩ (.int .u64 (clsW (fun _ => false) 3))) :=
            hst.below (below_store4 hb1 (Nat.le_refl _) _ _ _ _)
          obtain ⟨q1, q2, q3⟩ := hst2.done (.slice none 0 0)
          have hrp : readP s.data.toList = .inl 41 := by rw [HR.out, HA.out]
          refine bodyPost_ret (results_pat rfl _ _ w.heap.size (.slice none 0 0) (0, 0) rfl q1) rfl ⟨.slice none 0 0, ?_, ?_, q3⟩
          · rw [hrp]; rfl
          · rw [hrp]; exact PatOwn.nil _ _
        | some n =>
          have hn := find93_lt hfi
          rw [List.length_drop, len_eq] at hn
          have K := fun w => bracket_some s (k + 1) n w h1 (by omega) hfi
          have hcl := clsOf_bracket hfi
          cases hok : bracketOk ((s.data.toList.drop (k + 1)).take n) with
          | false =>
            rw [aheadP_bad _ _ hfi hok] at hall
            rw [hok] at K
            generalize bracketCls ((s.data.toList.drop (k + 1)).take n) = F at K
            have HA := Lib.hid hall
            have HK := Lib.hid K
            clear hall K hfi hcl hok
            go_wp2_with fail
            refine (HK.out _).mono ?_
            rintro e w1 ⟨rfl, hbr⟩
            have hcn := (ClsAt.new wr).below hbr (by simp)
            have hb1 : Below wr.heap.size wr w1 := ((Below.refl _ _).alloc (Nat.le_refl _) _).trans (hbr.mono (by simp))
            have hst1 := hst.below hb1
            have c0 := hcn.cell (k := 0) (by decide)
            have c1 := hcn.cell (k := 1) (by decide)
            have c2 := hcn.cell (k := 2) (by decide)
            have c3 := hcn.cell (k := 3) (by decide)
            have f0 := hcn.frozen 0
            have f1 := hcn.frozen 1
            have f2 := hcn.frozen 2
            have f3 := hcn.frozen 3
            unfold clsV
            have r0 := hst1.cell0
            have rf := hst1.frozen0
            go_wp2_with fail
            have hst2 : RdSt w.heap.size v (acc.map clsOf) w ((((w1.setCell ⟨wr.heap.size, 0, none⟩ (.int .u64 (clsW F 0))).setCell ⟨wr.heap.size, 1, none⟩ (.int .u64 (clsW F 1))).setCell ⟨wr.heap.size, 2, none⟩ (.int .u64 (clsW F 2))).setCell ⟨wr.heap.size, 3, none⟩ (.int .u64 (clsW F 3))) :=
              hst.below (below_store4 hb1 (Nat.le_refl _) _ _ _ _)
            obtain ⟨q1, q2, q3⟩ := hst2.done (.slice none 0 0)
            have hrp : readP s.data.toList = .inl 41 := by rw [HR.out, HA.out]
            refine bodyPost_ret (results_pat rfl _ _ w.heap.size (.slice none 0 0) (0, 0) rfl q1) rfl ⟨.slice none 0 0, ?_, ?_, q3⟩
            · rw [hrp]; rfl
            · rw [hrp]; exact PatOwn.nil _ _
          | true =>
            rw [aheadP_bracket _ _ hfi hok, List.drop_drop] at hall
            rw [hok] at K
            generalize bracketCls ((s.data.toList.drop (k + 1)).take n) = F at K hcl
            generalize 91 :: List.take (n + 1) (List.drop (k + 1) s.data.toList) = T at hcl hall
            have HA := Lib.hid hall
            have HK := Lib.hid K
            have HC := Lib.hid hcl
            clear hall K hfi hcl hok
            go_wp2_with fail
            refine (HK.out _).mono ?_
            rintro e w1 ⟨rfl, hbr⟩
            have hcn := (ClsAt.new wr).below hbr (by simp)
            have hb1 : Below wr.heap.size wr w1 := ((Below.refl _ _).alloc (Nat.le_refl _) _).trans (hbr.mono (by simp))
            have hst1 := hst.below hb1
            have c0 := hcn.cell (k := 0) (by decide)
            have c1 := hcn.cell (k := 1) (by decide)
            have c2 := hcn.cell (k := 2) (by decide)
            have c3 := hcn.cell (k := 3) (by decide)
            have f0 := hcn.frozen 0
            have f1 := hcn.frozen 1
            have f2 := hcn.frozen 2
            have f3 := hcn.frozen 3
            unfold clsV
            have p0 := hst1.cell
            have hst2 : RdSt w.heap.size v (acc.map clsOf) w ((((w1.setCell ⟨wr.heap.size, 0, none⟩ (.int .u64 (clsW F 0))).setCell ⟨wr.heap.size, 1, none⟩ (.int .u64 (clsW F 1))).setCell ⟨wr.heap.size, 2, none⟩ (.int .u64 (clsW F 2))).setCell ⟨wr.heap.size, 3, none⟩ (.int .u64 (clsW F 3))) :=
              hst.below (below_store4 hb1 (Nat.le_refl _) _ _ _ _)
            go_wp2_with (at_builtin; refine wpList_append_cls rfl _ _ rfl w.heap.size _ (acc.map clsOf) _ F _ ?hg rfl rfl ?ho ?c1 ?c2 ?_)
            case hg => simp [World.setCell]
            case ho => exact hst2.1
            case c1 => simp; omega
            case c2 => exact hst2.2.2.2.size
            intro v2 w2 hown2 hg2 _
            obtain ⟨hst3, q0, q1⟩ := hst2.push hown2 hg2
            obtain ⟨g2, cap2, hv2, _⟩ := hown2.somewhere (by simp)
            simp only [List.length_append, List.length_map, List.length_cons, List.length_nil, Nat.zero_add] at hv2
            rw [hv2] at hst3
            rw [hv2]
            clear hv2
            go_wp2_with fail
            go_roundw
            case rel => exact ⟨k + 1 + n + 1, f, acc ++ [T], _, by omega, by omega, by simp; omega, by go_num, by rw [HA.out]; congr 3, by simpa [HC.out] using hst3⟩
            case measure => simp [intOf]; omega
      · have h3 : ((s[k].toNat : Int) == 91) = false := byte_ne c1 rfl
        have hx : s[k] ≠ 91 := fun e => c1 (by rw [e]; rfl)
        rw [aheadP_plain _ _ _ hx] at hall
        have HA := Lib.hid hall
        clear hall c1 hx
        by_cases c2 : s[k].toNat = 46
        · have h4 : ((s[k].toNat : Int) == 46) = true := byte_is c2 rfl
          have hcl : clsOf [s[k]] = fun _ => !false := by
            have hx : s[k] = 46 := UInt8.toNat_inj.1 c2
            rw [hx]
            rfl
          have HC := Lib.hid hcl
          have HO := Lib.hid (fun w => other_any (fun _ => false) w)
          clear c2 hcl
          have hz : (.agg #[.int .u64 0, .int .u64 0, .int .u64 0, .int .u64 0] : Value) = clsV (fun _ => false) := by simp [clsV, clsW_zero]
          have HZ := Lib.hid hz
          clear hz
          go_wp2_with fail
          rw [HZ.out]
          refine (HO.out _).mono ?_
          rintro e w1 ⟨rfl, hbr⟩
          have hcn := (ClsAt.new wr).below hbr (by simp)
          have hb1 : Below wr.heap.size wr w1 := ((Below.refl _ _).alloc (Nat.le_refl _) _).trans (hbr.mono (by simp))
          have hst1 := hst.below hb1
          rw [← HC.out]
          obtain ⟨F, hF⟩ : ∃ F, clsOf [s[k]] = F := ⟨_, rfl⟩
          rw [hF]
          have HF := Lib.hid hF
          clear hF
          have c0 := hcn.cell (k := 0) (by decide)
          have c1 := hcn.cell (k := 1) (by decide)
          have c2 := hcn.cell (k := 2) (by decide)
          have c3 := hcn.cell (k := 3) (by decide)
          have f0 := hcn.frozen 0
          have f1 := hcn.frozen 1
          have f2 := hcn.frozen 2
          have f3 := hcn.frozen 3
          unfold clsV
          have p0 := hst1.cell
          have hst2 : RdSt w.heap.size v (acc.map clsOf) w ((((w1.setCell ⟨wr.heap.size, 0, none⟩ (.int .u64 (clsW F 0))).setCell ⟨wr.heap.size, 1, none⟩ (.int .u64 (clsW F 1))).setCell ⟨wr.heap.size, 2, none⟩ (.int .u64 (clsW F 2))).setCell ⟨wr.heap.size, 3, none⟩ (.int .u64 (clsW F 3))) :=
            hst.below (below_store4 hb1 (Nat.le_refl _) _ _ _ _)
          go_wp2_with (at_builtin; refine wpList_append_cls rfl _ _ rfl w.heap.size _ (acc.map clsOf) _ F _ ?hg rfl rfl ?ho ?c1 ?c2 ?_)
          case hg => simp [World.setCell]
          case ho => exact hst2.1
          case c1 => simp; omega
          case c2 => exact hst2.2.2.2.size
          intro v2 w2 hown2 hg2 _
          obtain ⟨hst3, q0, q1⟩ := hst2.push hown2 hg2
          obtain ⟨g2, cap2, hv2, _⟩ := hown2.somewhere (by simp)
          simp only [List.length_append, List.length_map, List.length_cons, List.length_nil, Nat.zero_add] at hv2
          rw [hv2] at hst3
          rw [hv2]
          clear hv2
          go_wp2_with fail
          go_roundw
          case rel => exact ⟨k + 1, f, acc ++ [[s[k]]], _, by omega, by omega, by simp; omega, by go_num, HA.out, by simpa [HF.out] using hst3⟩
          case measure => simp [intOf]; omega
        · have h4 : ((s[k].toNat : Int) == 46) = false := byte_ne c2 rfl
          have hcl : clsOf [s[k]] = fun y => (fun _ => false) y || y == s[k] := by
            have hx : s[k] ≠ 46 := fun e => c2 (by rw [e]; rfl)
            funext y
            simp only [clsOf, if_neg hx, Bool.false_or]
            by_cases e : s[k] = y
            · rw [e]
            · rw [beq_eq_false_iff_ne.2 e, beq_eq_false_iff_ne.2 (Ne.symm e)]
          have HC := Lib.hid hcl
          clear c2 hcl
          go_wp2_with fail
          have hc0 := ClsAt.new wr
          refine (put_any wr.heap.size _ s[k] _ hc0).mono ?_
          rintro e w1 ⟨rfl, hc1, hg1⟩
          have hb1 : Below wr.heap.size wr w1 := ((Below.refl _ _).alloc (Nat.le_refl _) _).grown hg1 (by simp) (fun k hk => by injection hk with hk; omega)
          have hst1 := hst.below hb1
          rw [← HC.out] at hc1
          have p0 := hst1.cell
          have c0 := hc1.cell (k := 0) (by decide)
          have c1 := hc1.cell (k := 1) (by decide)
          have c2 := hc1.cell (k := 2) (by decide)
          have c3 := hc1.cell (k := 3) (by decide)
          go_wp2_with (at_builtin; refine wpList_append_cls rfl _ _ rfl w.heap.size _ (acc.map clsOf) _ (clsOf [s[k]]) _ ?hg rfl rfl ?ho ?c1 ?c2 ?_)
          case hg => simp
          case ho => exact hst1.1
          case c1 => simp; omega
          case c2 => exact hst1.2.2.2.size
          intro v2 w2 hown2 hg2 _
          obtain ⟨hst2, q0, q1⟩ := hst1.push hown2 hg2
          obtain ⟨g2, cap2, hv2, _⟩ := hown2.somewhere (by simp)
          simp only [List.length_append, List.length_map, List.length_cons, List.length_nil, Nat.zero_add] at hv2
          rw [hv2] at hst2
          rw [hv2]
          clear hv2
          go_wp2_with fail
          go_roundw
          case rel => exact ⟨k + 1, f, acc ++ [[s[k]]], _, by omega, by omega, by simp; omega, by go_num, HA.out, by simpa using hst2⟩
          case measure => simp [intOf]; omega
    · have hks : s.size ≤ k := by omega
      rw [drop_end s k hlt, aheadP_end] at hall
      have HA := Lib.hid hall
      have p0 := hst.cell
      have r0 := hst.cell0
      have rf := hst.frozen0
      have hlen := hst.1.1
      clear hall hlen hf
      obtain ⟨a, cap, hv⟩ := hst.1.form
      rw [List.length_map] at hv
      rw [hv] at p0 hst
      clear hv
      by_cases h16 : 16 < acc.length
      · go_wp2_with fail
        obtain ⟨q1, q2, q3⟩ := hst.done (.slice none 0 0)
        have hrp : readP s.data.toList = .inl 42 := by rw [HR.out, HA.out]; simp [h16]
        refine bodyPost_ret (results_pat rfl _ _ w.heap.size (.slice none 0 0) (0, 0) rfl q1) rfl ⟨.slice none 0 0, ?_, ?_, q3⟩
        · rw [hrp]; rfl
        · rw [hrp]; exact PatOwn.nil _ _
      · go_wp2_with fail
        obtain ⟨q1, q2, q3⟩ := hst.done (.slice a acc.length cap)
        have hrp : readP s.data.toList = .inr acc := by rw [HR.out, HA.out]; simp [h16]
        refine bodyPost_ret (results_pat rfl _ _ w.heap.size _ (0, 0) rfl q1) rfl ⟨.slice a acc.length cap, ?_, ?_, q3⟩
        · rw [hrp]; rfl
        · rw [hrp]; exact q2

set_option maxHeartbeats 1000000 in
theorem condRead_empty (s : ByteArray) (w : World) (h0 : s.data.toList = []) : Calls Try.prog 18 #[.string s] w (ReadPost s w) := by
  have e0 : s.toList = [] := by rw [Lib.toList_data]; exact h0
  have hrp : readP s.data.toList = .inl 40 := readP_empty h0
  have HR := Lib.hid hrp
  clear hrp h0
  go_enter Try.func18, Try.ntmps18
  go_wp2_with fail
  refine bodyPost_ret (results_pat rfl _ _ w.heap.size (.slice none 0 0) (0, 0) rfl (heap_alloc_new w _)) rfl ⟨.slice none 0 0, ?_, ?_, (Below.refl _ _).alloc (Nat.le_refl _) _⟩
  · rw [HR.out]; rfl
  · rw [HR.out]; exact PatOwn.nil _ _

set_option maxHeartbeats 1000000 in
theorem condRead_long (s : ByteArray) (w : World) (h1 : 512 < s.size) : Calls Try.prog 18 #[.string s] w (ReadPost s w) := by
  have e0 : s.toList.isEmpty = false := by
    rw [Lib.toList_data]
    cases h : s.data.toList with
    | nil => have := len_eq s; rw [h] at this; simp at this; omega
    | cons x l => rfl
  have hrp : readP s.data.toList = .inl 40 := readP_long (by rw [len_eq]; exact h1)
  have HR := Lib.hid hrp
  clear hrp
  go_enter Try.func18, Try.ntmps18
  go_wp2_with fail
  refine bodyPost_ret (results_pat rfl _ _ w.heap.size (.slice none 0 0) (0, 0) rfl (heap_alloc_new w _)) rfl ⟨.slice none 0 0, ?_, ?_, (Below.refl _ _).alloc (Nat.le_refl _) _⟩
  · rw [HR.out]; rfl
  · rw [HR.out]; exact PatOwn.nil _ _

set_option maxHeartbeats 1000000 in
theorem condRead_dot (s : ByteArray) (w : World) (h2 : s.data.toList = [46]) : Calls Try.prog 18 #[.string s] w (ReadPost s w) := by
  have h1 : s.size = 1 := by rw [← len_eq, h2]; rfl
  have e1 : s.toList = [46] := by rw [Lib.toList_data]; exact h2
  have hrp : readP s.data.toList = .inr [] := by rw [h2]; exact readP_dot
  have HR := Lib.hid hrp
  clear hrp h2
  go_enter Try.func18, Try.ntmps18
  go_wp2_with fail
  refine bodyPost_ret (results_pat rfl _ _ w.heap.size (.slice none 0 0) (0, 0) rfl (heap_alloc_new w _)) rfl ⟨.slice none 0 0, ?_, ?_, (Below.refl _ _).alloc (Nat.le_refl _) _⟩
  · rw [HR.out]; rfl
  · rw [HR.out]; exact PatOwn.nil _ _

/-- Read: the classes of the pieces, or the fault -/
theorem condRead_any (s : ByteArray) (w : World) : Calls Try.prog 18 #[.string s] w (ReadPost s w) := by
  by_cases h0 : s.data.toList = []
  · exact condRead_empty s w h0
  · by_cases h1 : 512 < s.size
    · exact condRead_long s w h1
    · by_cases h2 : s.data.toList = [46]
      · exact condRead_dot s w h2
      · exact condRead_loop s w h0 (by omega) h2
end Go.Proofs.Ytpckcapilhfpcaa
