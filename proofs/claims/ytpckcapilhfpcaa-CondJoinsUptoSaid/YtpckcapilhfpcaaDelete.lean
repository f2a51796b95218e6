/-
  slices.Index and slices.Delete at bytes, on a slice that the call itself made.
-/
import Derived.Test.YtpckcapilhfpcaaShowPlain
import Derived.Deep.RegionLaw
import Derived.Deep.Upon
namespace Go.Proofs.Ytpckcapilhfpcaa
open Go.RowKit

def find94 : List UInt8 → Option Nat
  | [] => none
  | x :: l => if x = 94 then some 0 else (find94 l).map (· + 1)
def shiftO (k : Nat) (o : Option Nat) : Option Nat := o.map (k + ·)
theorem find94_step {k : Nat} {x : UInt8} {l : List UInt8} (h : x ≠ 94) : shiftO k (find94 (x :: l)) = shiftO (k + 1) (find94 l) := by
  cases hf : find94 l with
  | none => simp [find94, h, hf, shiftO]
  | some n => simp [find94, h, hf, shiftO]; omega
theorem find94_here {k : Nat} {l : List UInt8} : shiftO k (find94 (94 :: l)) = some k := by simp [find94, shiftO]
def idxV : Option Nat → Int
  | none => -1
  | some n => (n : Int)

theorem drop_get (l : List UInt8) (k : Nat) (h : k < l.length) : l.drop k = l[k] :: l.drop (k + 1) := List.drop_eq_getElem_cons h

set_option maxHeartbeats 1000000 in
theorem index94_any (B g cap : Nat) (l : List UInt8) (w : World) (h : Own B (.slice (some ⟨g, 0, none⟩) l.length cap) l w) (hl : l.length ≤ 1048576) :
    Calls Try.prog 66 #[.slice (some ⟨g, 0, none⟩) l.length cap, .int .u8 94] w fun e w' => e = .returned (.int .i64 (idxV (find94 l))) ∧ w = w' := by
  have hcp : l.length ≤ cap := by
    rcases h.2 with ⟨h1, _⟩ | ⟨_, _, _, h1, _, _, h2, _⟩
    · injection h1 with h1; cases h1
    · injection h1 with _ _ h3; subst h3; exact h2
  have H := Lib.hid h
  clear h
  go_enter Try.func66, Try.ntmps66
  go_wp2_with fail
  go_loop [8] (fun i => ∃ k : Nat, k ≤ l.length ∧ i = .int .i64 k ∧ find94 l = shiftO k (find94 (l.drop k))) (fun i => l.length - (intOf i).toNat)
  case atStart => exact ⟨0, Nat.zero_le _, rfl, by simp [shiftO]⟩
  case round =>
    obtain ⟨k, hk, rfl, hall⟩ := hrel
    by_cases hlt : k < l.length
    · have hc := H.out.cell (List.getElem?_eq_getElem hlt)
      rw [drop_get l k hlt] at hall
      by_cases hx : l[k] = 94
      · have h3 : ((94 : Int) == (l[k].toNat : Int)) = true := by rw [hx]; rfl
        rw [hx, find94_here] at hall
        have HA := Lib.hid hall
        clear hall hx
        go_wp2_with fail
        go_ret
        exact ⟨ret_int (by rw [HA.out]; rfl), rfl⟩
      · have h3 : ((94 : Int) == (l[k].toNat : Int)) = false := by
          rw [beq_eq_false_iff_ne]
          intro e
          exact hx (UInt8.toNat_inj.1 (by simpa using (Int.ofNat_inj.1 e).symm))
        rw [find94_step hx] at hall
        have HA := Lib.hid hall
        clear hall hx
        go_wp2_with fail
        go_round
        case rel => exact ⟨k + 1, by omega, by go_num, HA.out⟩
        case measure => simp [intOf]; omega
    · rw [List.drop_eq_nil_of_le (by omega)] at hall
      have HA := Lib.hid hall
      clear hall
      go_wp2_with fail
      go_ret
      exact ⟨ret_int (by rw [HA.out]; rfl), rfl⟩

/-! ### the block under a slice of the call's own -/
theorem Own.openB {B g n cap : Nat} {l : List UInt8} {w : World} (h : Own B (.slice (some ⟨g, 0, none⟩) n cap) l w) :
    ∃ cur : Array Value, w.heap[g]? = some (.cells cur 5 (0, 0)) ∧ B ≤ g ∧ l.length ≤ cap ∧ cap ≤ maxLen ∧ cur.size = cap ∧ cur.toList.take l.length = Lib.byteCells l := by
  rcases h.2 with ⟨h1, _⟩ | ⟨g', cap', cur, h1, hb, hh, h2, h3, h4, h5⟩
  · injection h1 with h1; cases h1
  · injection h1 with e1 _ e3
    injection e1 with e1
    injection e1 with e1
    subst e1 e3
    exact ⟨cur, hh, hb, h2, h3, by simpa using h4, by simpa using h5⟩
theorem Own.closeB {B g cap : Nat} {l : List UInt8} {w : World} {cur : Array Value} (hh : w.heap[g]? = some (.cells cur 5 (0, 0))) (hb : B ≤ g) (h2 : l.length ≤ cap) (h3 : cap ≤ maxLen) (h4 : cur.size = cap)
    (h5 : cur.toList.take l.length = Lib.byteCells l) : Own B (.slice (some ⟨g, 0, none⟩) l.length cap) l w :=
  ⟨by simp [Lib.byteCells], .inr ⟨g, cap, cur, rfl, hb, hh, h2, h3, by simpa using h4, by simpa using h5⟩⟩
def setAll (cs : Array Value) : Nat → List Value → Array Value
  | _, [] => cs
  | o, v :: vs => setAll (cs.setIfInBounds o v) (o + 1) vs
theorem setCells_row {T : TypeId} {fr : Nat × Nat} {g : Nat} : ∀ (vs : List Value) (o : Nat) (w : World) (cs : Array Value), w.heap[g]? = some (.cells cs T fr) → (w.setCells g o vs).heap[g]? = some (.cells (setAll cs o vs) T fr)
  | [], _, _, _, h => h
  | v :: vs, o, _, _, h => setCells_row vs (o + 1) _ _ (set_at h o v)
theorem setAll_size : ∀ (vs : List Value) (o : Nat) (cs : Array Value), (setAll cs o vs).size = cs.size
  | [], _, _ => rfl
  | v :: vs, o, cs => by rw [setAll, setAll_size vs]; simp
theorem setAll_get : ∀ (vs : List Value) (o : Nat) (cs : Array Value) (j : Nat), o + vs.length ≤ cs.size → (setAll cs o vs)[j]? = if o ≤ j ∧ j < o + vs.length then vs[j - o]? else cs[j]?
  | [], o, cs, j, _ => by rw [setAll, if_neg (by simp)]
  | v :: vs, o, cs, j, h => by
    simp only [List.length_cons] at h
    rw [setAll, setAll_get vs (o + 1) _ j (by simp; omega)]
    by_cases h1 : o = j
    · subst h1
      rw [if_neg (by omega), if_pos (by simp)]
      have : o < cs.size := by omega
      simp [this]
    · by_cases h2 : o + 1 ≤ j ∧ j < o + 1 + vs.length
      · rw [if_pos h2, if_pos (by simp; omega)]
        have : j - o = j - (o + 1) + 1 := by omega
        rw [this, List.getElem?_cons_succ]
      · rw [if_neg h2, if_neg (by simp; omega), Array.getElem?_setIfInBounds_ne h1]

/-- append where there is room, its new length by a name -/
theorem step_append_room_r {P : Program} {ops : Array Oper} {o : Oper} {a : Act} {w : World} {K : Act → World → Prop} {Q : Exit → Act → World → Prop} {E : Prop}
    (hg : o.guard = none) (s x : Operand) (t : TypeId) (hop : o.op = Op.call { callee := Callee.builtin Builtin.append, args := #[s, x], argTypes := #[t, t] })
    (e : TypeId) (i : TypeInfo) (size : Nat) (h1 : P.underlying t = some (.slice e)) (h2 : P.info? e = some i) (h4 : i.size = size)
    (b off n cap : Nat) (hs : a.eval s = .slice (some ⟨b, off, none⟩) n cap)
    (ad : Addr) (m c : Nat) (news : List Value) (hx : a.eval x = .slice (some ad) m c) (hn : news.length = m * size) (hc : ∀ j u, news[j]? = some u → w.cell? (ad.add j) = some u) (h1c : ∀ u ∈ news, u.oneCell' = true)
    (hroom : n + m ≤ cap) (hspare : ∀ j, j < news.length → (w.cell? ⟨b, off + n * size + j, none⟩).isSome = true ∧ w.frozen? ⟨b, off + n * size + j, none⟩ = false) (r : Nat) (hr : n + m = r) (W : World) (hW : w.setCells b (off + n * size) news = W)
    (hK : K (a.put o.dst (.slice (some ⟨b, off, none⟩) r cap)) W) :
    if Region.wanted o (yielded ops a.tmps) = true then Oper.wp P o a w K Q else E := by
  subst hr hW
  exact step_append_room hg s x t hop e i size h1 h2 h4 b off n cap hs ad m c news hx hn hc h1c hroom hspare hK

/-- clear of a slice of one byte -/
theorem wpList_clear_byte {ops : Array Oper} {rest : List Oper} {o : Oper} {a : Act} {Q : Exit → Act → World → Prop} (hgd : o.guard = none) (s : Operand)
    (ho : o.op = .call { callee := .builtin .clear, args := #[s], argTypes := #[92] }) (g r c : Nat) (w : World) (hs : a.eval s = .slice (some ⟨g, r, none⟩) 1 c) (old : Value)
    (hc : w.cell? ⟨g, r, none⟩ = some old) (hf : w.frozen? ⟨g, r, none⟩ = false)
    (h : wpList Try.prog ops Q rest (a.put o.dst (.tuple #[])) (w.setCell ⟨g, r, none⟩ (.int .u8 0))) : wpList Try.prog ops Q (o :: rest) a w := by
  refine wpList_plain hgd fun K hK => ?_
  have hz : ∀ w, (zeroValue 5).run Try.prog w = .ok (.int .u8 0) w := fun _ => by kernel_rfl
  have hst := run_storeCells_cells (P := Try.prog) g r [.int .u8 0] 0 w (by simp [hc]) (by simp [hf]) (by intro v hv; simp at hv; subst hv; rfl)
  have hrun : (Builtin.clear_ #[92] o.type #[.slice (some ⟨g, r, none⟩) 1 c]).run Try.prog w = .ok (.tuple #[]) (w.setCell ⟨g, r, none⟩ (.int .u8 0)) := by
    have e : (Builtin.zeroCells (Value.int .u8 0).cells 1).toList = [.int .u8 0] := by kernel_rfl
    simp only [Builtin.clear_]
    simp [run_underlying Try.underlying92, hz, e, hst, World.setCells]
  unfold Oper.wp
  simp [execOp, ho, resolve, invoke, builtin, hs, hrun, Result.andThen]
  exact hK _ _ h

def movedB (l : List UInt8) (k : Nat) : List Value := Lib.byteCells (l.drop (k + 1))
theorem movedB_len (l : List UInt8) (k : Nat) : (movedB l k).length = l.length - (k + 1) := by simp [movedB, Lib.byteCells]
theorem movedB_one (l : List UInt8) (k : Nat) : ∀ u ∈ movedB l k, u.oneCell' = true := by
  intro u hu
  obtain ⟨x, _, rfl⟩ := List.mem_map.1 hu
  rfl
theorem Own.deleted {B g cap k r : Nat} {l : List UInt8} {w : World} (h : Own B (.slice (some ⟨g, 0, none⟩) l.length cap) l w) (hr : l.length = r + 1) (hk : k ≤ r) (v : Value) :
    Own B (.slice (some ⟨g, 0, none⟩) r cap) (l.eraseIdx k) ((w.drew.setCells g k (movedB l k)).setCell ⟨g, r, none⟩ v) ∧ Below B w ((w.drew.setCells g k (movedB l k)).setCell ⟨g, r, none⟩ v) := by
  obtain ⟨cur, hh, hb, hc, hcm, hsz, htk⟩ := h.openB
  have hml := movedB_len l k
  have hrow := setCells_row (movedB l k) k w.drew cur hh
  have hrow2 := set_at hrow r v
  have hel : (l.eraseIdx k).length = r := by rw [List.length_eraseIdx_of_lt (by omega)]; omega
  refine ⟨?_, ?_⟩
  · have key : Own B (.slice (some ⟨g, 0, none⟩) (l.eraseIdx k).length cap) (l.eraseIdx k) ((w.drew.setCells g k (movedB l k)).setCell ⟨g, r, none⟩ v) := by
     refine Own.closeB hrow2 hb (by omega) hcm (by simp [setAll_size, hsz]) ?_
     apply List.ext_getElem?
     intro j
     rw [List.getElem?_take, hel]
     by_cases hj : j < r
     · rw [if_pos hj, Array.getElem?_toList, Array.getElem?_setIfInBounds_ne (by omega), setAll_get _ _ _ _ (by omega), hml]
       have hcell : ∀ i, i < l.length → cur[i]? = (Lib.byteCells l)[i]? := by
         intro i hi
         rw [← htk, List.getElem?_take, if_pos hi, Array.getElem?_toList]
       by_cases hj2 : k ≤ j ∧ j < k + (l.length - (k + 1))
       · rw [if_pos hj2]
         simp only [movedB, Lib.byteCells, List.getElem?_map, List.getElem?_drop, List.getElem?_eraseIdx]
         rw [if_neg (by omega)]
         congr 2
         omega
       · rw [if_neg hj2, hcell j (by omega)]
         simp only [Lib.byteCells, List.getElem?_map, List.getElem?_eraseIdx]
         rw [if_pos (by omega)]
     · rw [if_neg hj, List.getElem?_eq_none (by simp [Lib.byteCells, hel]; omega)]
    rw [hel] at key
    exact key
  · have h1 : Below B w w.drew := (Below.refl _ _).drew
    have h2 : ∀ (vs : List Value) (o : Nat) (w1 : World), Below B w w1 → Below B w (w1.setCells g o vs) := by
      intro vs
      induction vs with
      | nil => intro o w1 h; exact h
      | cons u vs ih => intro o w1 h; exact ih (o + 1) _ (h.setCell (p := ⟨g, o, none⟩) hb u)
    exact (h2 _ _ _ h1).setCell (p := ⟨g, r, none⟩) hb v

set_option maxHeartbeats 2000000 in
set_option maxRecDepth 1000000 in
theorem delete_any (B g cap k r : Nat) (l : List UInt8) (w : World) (h : Own B (.slice (some ⟨g, 0, none⟩) l.length cap) l w) (hr : l.length = r + 1) (hk : k ≤ r) (hl : r ≤ 1048576) :
    Calls Try.prog 67 #[.slice (some ⟨g, 0, none⟩) (r + 1) cap, .int .i64 k, .int .i64 (k + 1)] w fun e w' => e = .returned (.slice (some ⟨g, 0, none⟩) r cap) ∧
      Own B (.slice (some ⟨g, 0, none⟩) r cap) (l.eraseIdx k) w' ∧ Below B w w' := by
  obtain ⟨i0, hi0, hz0, hz1, hz2⟩ := info_parts infoByte
  obtain ⟨cur, hh, hb, hc, hcm, hsz, htk⟩ := h.openB
  have hml := movedB_len l k
  have hone := movedB_one l k
  have hcell : ∀ j, j < l.length → w.cell? ⟨g, j, none⟩ = (Lib.byteCells l)[j]? := by
    intro j hj
    rw [cell_of_row w g j _ _ _ hh, ← htk, List.getElem?_take, if_pos hj, Array.getElem?_toList]
  obtain ⟨A, hA, hnews⟩ : ∃ A : Addr, (if cap = k + 1 then some (⟨g, 0, none⟩ : Addr) else some ⟨g, k + 1, none⟩) = some A ∧ Hid (∀ j u, (movedB l k)[j]? = some u → w.drew.cell? (A.add j) = some u) := by
    by_cases he : cap = k + 1
    · refine ⟨⟨g, 0, none⟩, by simp [he], fun j u hu => ?_⟩
      have h0 : (movedB l k).length = 0 := by omega
      rw [List.length_eq_zero_iff.1 h0] at hu
      simp at hu
    · refine ⟨⟨g, k + 1, none⟩, by simp [he], fun j u hu => ?_⟩
      have hj : j < l.length - (k + 1) := by
        have := (List.getElem?_eq_some_iff.1 hu).1
        omega
      rw [Addr.add_lit]
      show w.cell? _ = _
      rw [hcell (k + 1 + j) (by omega), ← hu]
      simp [movedB, Lib.byteCells]
  have s1 : Hid ((movedB l k).length = (r - k) * 1) := by show _ = _; rw [hml]; omega
  have s2 : Hid (∀ u ∈ movedB l k, u.oneCell' = true) := hone
  have s3 : Hid (∀ j, j < (movedB l k).length → (w.drew.cell? ⟨g, 0 + k * 1 + j, none⟩).isSome = true ∧ w.drew.frozen? ⟨g, 0 + k * 1 + j, none⟩ = false) := by
    intro j hj
    rw [Nat.mul_one, Nat.zero_add]
    refine ⟨?_, ?_⟩
    · show (w.cell? _).isSome = true
      rw [hcell (k + j) (by omega), List.getElem?_eq_getElem (by simp [Lib.byteCells]; omega)]
      rfl
    · show w.frozen? _ = false
      simp [World.frozen?, hh]
  have hdel := h.deleted hr hk (.int .u8 0)
  obtain ⟨W, hW, hWr⟩ : ∃ W, w.drew.setCells g (0 + k * 1) (movedB l k) = W ∧ W = w.drew.setCells g k (movedB l k) := ⟨_, rfl, by rw [Nat.mul_one, Nat.zero_add]⟩
  have hrow := setCells_row (movedB l k) k w.drew cur hh
  rw [← hWr] at hdel hrow
  have wr : (W.cell? ⟨g, r, none⟩).isSome = true := by
    rw [cell_of_row W g r _ _ _ hrow]
    simp [setAll_size]
    omega
  obtain ⟨old, hold⟩ := Option.isSome_iff_exists.1 wr
  have hfz : W.frozen? ⟨g, r, none⟩ = false := by simp [World.frozen?, hrow]
  have hkc : k ≤ cap := by omega
  have hrc : r + 1 ≤ cap := by omega
  have hwr : IntKind.i64.wrap ((k : Int) + 1) = (k : Int) + 1 := by rw [IntKind.wrap_i64]; omega
  have hp0 : (0 : Int) ≤ (k : Int) + 1 := by omega
  have hp1 : (k : Int) + 1 ≤ (r : Int) + 1 := by omega
  have hp2 : ((k : Int) + 1).toNat = k + 1 := by omega
  have hne : ((k : Int) == (k : Int) + 1) = false := by rw [beq_eq_false_iff_ne]; omega
  have HD := Lib.hid hdel
  have HW := Lib.hid hW
  clear hcell htk hh hml hone hdel hW hWr hrow wr hsz hr h
  go_enter Try.func67, Try.ntmps67
  go_wp2_with fail
  go_region_law (refine step_append_room_r rfl (.tmp 22) (.tmp 25) 92 rfl 5 i0 1 Try.underlying92 hi0 hz1 g 0 k cap (by simp [Act.eval, Act.put]) A (r - k) (cap - (k + 1)) (movedB l k) (by simp [Act.eval, Act.put]) s1.out hnews.out s2.out (by omega) s3.out r (by omega) W HW.out ?_)
  go_wp2_with (with_reducible refine wpList_clear_byte rfl (.tmp 31) rfl g r _ _ rfl old hold hfz ?_)
  go_ret
  exact ⟨rfl, HD.out.1, HD.out.2⟩
end Go.Proofs.Ytpckcapilhfpcaa
