/-
  cond.Join: the items of all patterns, one behind the other.
-/
import Derived.Test.YtpckcapilhfpcaaAppendNothing
namespace Go.Proofs.Ytpckcapilhfpcaa
open Go.RowKit

def joinErr (Ps : List (List Cls)) : Nat := if 16 < Ps.flatten.length then 42 else 0
def joinPat (Ps : List (List Cls)) : List Cls := if 16 < Ps.flatten.length then [] else Ps.flatten
theorem flat_take {Ps : List (List Cls)} {k : Nat} {P : List Cls} (h : Ps[k]? = some P) : (Ps.take (k + 1)).flatten = (Ps.take k).flatten ++ P := by
  rw [List.take_add_one, h]
  simp
theorem flat_le (Ps : List (List Cls)) (k : Nat) : (Ps.take k).flatten.length ≤ Ps.flatten.length := by
  conv => rhs; rw [← List.take_append_drop k Ps, List.flatten_append, List.length_append]
  omega

/-- the patterns Ps lie in the row g -/
def PatsAt (g : Nat) (Ps : List (List Cls)) (w : World) : Prop := g < w.heap.size ∧ ∀ k P, Ps[k]? = some P → ∃ a cap, w.cell? ⟨g, k, none⟩ = some (.slice a P.length cap) ∧ PatOwn 0 (.slice a P.length cap) P w
theorem cell_below {w w' : World} {g k : Nat} {v : Value} (h : w.cell? ⟨g, k, none⟩ = some v) (hg : g < w.heap.size) (hb : Below w.heap.size w w') : w'.cell? ⟨g, k, none⟩ = some v := by
  rw [World.cell?_of_block (hb.block _ hg)]
  exact h
theorem PatsAt.below {g : Nat} {Ps : List (List Cls)} {w w' : World} (h : PatsAt g Ps w) (hb : Below w.heap.size w w') : PatsAt g Ps w' := by
  refine ⟨Nat.lt_of_lt_of_le h.1 hb.size, fun k P hk => ?_⟩
  obtain ⟨a, cap, h1, h2⟩ := h.2 k P hk
  exact ⟨a, cap, cell_below h1 h.1 hb, h2.below hb⟩

def JoinPost (Ps : List (List Cls)) (w : World) (e : Ending) (w' : World) : Prop :=
  ∃ v, e = .returned (.tuple #[.agg #[v], .int .i64 (joinErr Ps)]) ∧ PatOwn w.heap.size v (joinPat Ps) w' ∧ Below w.heap.size w w'

set_option maxHeartbeats 2000000 in
theorem join_any (g cap : Nat) (Ps : List (List Cls)) (w : World) (h : PatsAt g Ps w) (hn : Ps.length ≤ 1048576) (hP : ∀ P ∈ Ps, P.length ≤ 16) :
    Calls Try.prog 28 #[.slice (some ⟨g, 0, none⟩) Ps.length cap] w (JoinPost Ps w) := by
  have hgl := h.1
  have H := Lib.hid h
  have HP := Lib.hid hP
  clear h hP
  go_enter Try.func28, Try.ntmps28
  go_wp2_with fail
  go_loopw [9] (fun i wr => ∃ (k : Nat) (v : Value), k ≤ Ps.length ∧ i = .int .i64 k ∧ (Ps.take k).flatten.length ≤ 16 ∧ RdSt w.heap.size v (Ps.take k).flatten w wr) (fun i _ => Ps.length - (intOf i).toNat)
  case atStart =>
    refine ⟨0, .slice none 0 0, by omega, rfl, by simp, PatOwn.nil _ _, ?_, ?_, ((Below.refl _ _).alloc (Nat.le_refl _) _).alloc (by simp) _⟩
    · have := heap_alloc_new (w.alloc (.cells #[.slice none 0 0] 24)) (.cells #[.slice none 0 0] 24)
      simpa using this
    · rw [Below.heap_alloc _ _ _ (by simp)]
      exact heap_alloc_new w _
  case round =>
    obtain ⟨k, v, hk, rfl, hacc, hst⟩ := hrel
    have hlt2 := hst.lt
    by_cases hlt : k < Ps.length
    · obtain ⟨P, hPk⟩ : ∃ P, Ps[k]? = some P := ⟨_, List.getElem?_eq_getElem hlt⟩
      have hp16 := HP.out P (List.mem_of_getElem? hPk)
      have hfl := flat_take hPk
      have hle := flat_le Ps (k + 1)
      rw [hfl, List.length_append] at hle
      obtain ⟨a, cp, hcell, hown⟩ := (H.out.below hst.2.2.2).2 k P hPk
      generalize hacd : (Ps.take k).flatten = acc at *
      have hacd2 := Lib.hid hacd
      clear hacd
      obtain ⟨av, cv, hv⟩ := hst.1.form
      subst hv
      have p0 := hst.cell
      have r0 := hst.cell0
      have rf := hst.frozen0
      have HO := Lib.hid hown
      have HS := Lib.hid hst
      have HF := Lib.hid hfl
      have hw : IntKind.i64.wrap ((acc.length : Int) + (P.length : Int)) = ((acc.length + P.length : Nat) : Int) := by rw [IntWalk.i64_in _ (by omega)]; omega
      have hst2 : RdSt w.heap.size _ acc w (wr.alloc (.cells #[.slice a P.length cp] 24)) := hst.below ((Below.refl _ _).alloc (Nat.le_refl _) _)
      have HS2 := Lib.hid hst2
      have p02 := hst2.cell
      have r02 := hst2.cell0
      have rf2 := hst2.frozen0
      clear hown hst hfl hPk hst2
      by_cases hbig : 16 < acc.length + P.length
      · have d1 : decide (16 < acc.length + P.length) = true := decide_eq_true hbig
        have d2 : decide ((16 : Int) < ((acc.length + P.length : Nat) : Int)) = true := decide_eq_true (by omega)
        have d3 : decide ((16 : Int) < (acc.length : Int) + (P.length : Int)) = true := decide_eq_true (by omega)
        go_wp2_with fail
        obtain ⟨q1, q2, q3⟩ := HS2.out.done (.slice none 0 0)
        have he : joinErr Ps = 42 := by rw [joinErr, if_pos (by omega)]
        have hp : joinPat Ps = [] := by rw [joinPat, if_pos (by omega)]
        refine bodyPost_ret (results_pat rfl _ _ w.heap.size (.slice none 0 0) (0, 0) rfl q1) rfl ⟨.slice none 0 0, ?_, ?_, q3⟩
        · rw [he]; rfl
        · rw [hp]; exact PatOwn.nil _ _
      · have d1 : decide (16 < acc.length + P.length) = false := decide_eq_false hbig
        have d2 : decide ((16 : Int) < ((acc.length + P.length : Nat) : Int)) = false := decide_eq_false (by omega)
        have d3 : decide ((16 : Int) < (acc.length : Int) + (P.length : Int)) = false := decide_eq_false (by omega)
        go_wp2_with (at_builtin; refine wpList_append_pat rfl _ _ rfl w.heap.size 0 _ _ acc P _ rfl rfl ?ho1 ?ho2 ?c1 ?c2 ?_)
        case ho1 => exact HS2.out.1
        case ho2 => exact HO.out.alloc _
        case c1 => omega
        case c2 => exact HS2.out.2.2.2.size
        intro v2 w2 hown2 hg2 _
        obtain ⟨hst3, q0, q1⟩ := HS.out.push hown2 hg2
        obtain ⟨a2, cap2, hv2⟩ := hown2.form
        simp only [List.length_append] at hv2
        rw [hv2] at hst3
        rw [hv2]
        clear hv2
        go_wp2_with fail
        go_roundw
        case rel => exact ⟨k + 1, _, by omega, by go_num, by rw [HF.out, List.length_append]; omega, by rw [HF.out]; exact hst3⟩
        case measure => simp [intOf]; omega
    · have e : (Ps.take k).flatten = Ps.flatten := by rw [List.take_of_length_le (by omega)]
      rw [e] at hst hacc
      have he : joinErr Ps = 0 := by rw [joinErr, if_neg (by omega)]
      have hp : joinPat Ps = Ps.flatten := by rw [joinPat, if_neg (by omega)]
      generalize Ps.flatten = L at *
      obtain ⟨av, cv, hv⟩ := hst.1.form
      subst hv
      have p0 := hst.cell
      have r0 := hst.cell0
      have rf := hst.frozen0
      have HS := Lib.hid hst
      clear hst e
      go_wp2_with fail
      obtain ⟨q1, q2, q3⟩ := HS.out.done (.slice av L.length cv)
      refine bodyPost_ret (results_pat rfl _ _ w.heap.size (.slice av L.length cv) (0, 0) rfl q1) rfl ⟨.slice av L.length cv, ?_, ?_, q3⟩
      · rw [he]; rfl
      · rw [hp]; exact q2
end Go.Proofs.Ytpckcapilhfpcaa
