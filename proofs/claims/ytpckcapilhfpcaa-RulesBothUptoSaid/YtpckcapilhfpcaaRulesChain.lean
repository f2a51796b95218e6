/-
  rules.along, Chain and Peel, on rules that lie in a row of memory.
-/
import Derived.Test.YtpckcapilhfpcaaRulesBackWalk
namespace Go.Proofs.Ytpckcapilhfpcaa
open Go.RowKit

structure RV where
  k : Int
  fl : Int
  cr : Bool
  S : ByteArray
  A : ByteArray
  C : ByteArray
  a : Option Addr
  n : Nat
  c : Nat
def RV.p (r : RV) : RuleP := ⟨r.k, r.S.data.toList, r.A.data.toList, r.C.data.toList⟩
def RV.row (r : RV) : List Value := [.int .i64 r.k, .int .u16 r.fl, .bool r.cr, .string r.S, .string r.A, .string r.C, .slice r.a r.n r.c]
def RulesAt (Rs : List RV) (g off : Nat) (w : World) : Prop := ∀ i r, Rs[i]? = some r → ∀ j v, r.row[j]? = some v → w.cell? ⟨g, off + i * 7 + j, none⟩ = some v
def RulesIn (a : Option Addr) (Rs : List RV) (w : World) : Prop := Rs ≠ [] → ∃ g off, a = some ⟨g, off, none⟩ ∧ RulesAt Rs g off w

theorem RulesAt.below {Rs : List RV} {g off : Nat} {w w' : World} (h : RulesAt Rs g off w) (hb : Below w.heap.size w w') : RulesAt Rs g off w' := by
  intro i r hr j v hv
  have hc := h i r hr j v hv
  have hlt : g < w.heap.size := World.block_lt_of_cell? w ⟨g, off + i * 7 + j, none⟩ hc
  rw [hb.cell (p := ⟨g, off + i * 7 + j, none⟩) hlt]
  exact hc
theorem RulesIn.below {a : Option Addr} {Rs : List RV} {w w' : World} (h : RulesIn a Rs w) (hb : Below w.heap.size w w') : RulesIn a Rs w' := by
  intro h0
  obtain ⟨g, off, e, hat⟩ := h h0
  exact ⟨g, off, e, hat.below hb⟩
theorem RulesAt.cells {Rs : List RV} {g off : Nat} {w : World} (h : RulesAt Rs g off w) {i : Nat} {r : RV} (hr : Rs[i]? = some r) :
    w.cell? ⟨g, off + i * 7, none⟩ = some (.int .i64 r.k) ∧ w.cell? ⟨g, off + i * 7 + 1, none⟩ = some (.int .u16 r.fl) ∧ w.cell? ⟨g, off + i * 7 + 2, none⟩ = some (.bool r.cr) ∧ w.cell? ⟨g, off + i * 7 + 3, none⟩ = some (.string r.S) ∧
      w.cell? ⟨g, off + i * 7 + 4, none⟩ = some (.string r.A) ∧ w.cell? ⟨g, off + i * 7 + 5, none⟩ = some (.string r.C) ∧ w.cell? ⟨g, off + i * 7 + 6, none⟩ = some (.slice r.a r.n r.c) :=
  ⟨h i r hr 0 _ rfl, h i r hr 1 _ rfl, h i r hr 2 _ rfl, h i r hr 3 _ rfl, h i r hr 4 _ rfl, h i r hr 5 _ rfl, h i r hr 6 _ rfl⟩

def sumOf (f : RV → Nat) : List RV → Nat
  | [] => 0
  | r :: rs => f r + sumOf f rs
theorem sumOf_append (f : RV → Nat) : ∀ a b : List RV, sumOf f (a ++ b) = sumOf f a + sumOf f b
  | [], b => by simp [sumOf]
  | r :: a, b => by simp only [List.cons_append, sumOf, sumOf_append f a b]; omega
theorem sumOf_mem (f : RV → Nat) : ∀ {a : List RV} {r : RV}, r ∈ a → f r ≤ sumOf f a
  | x :: a, r, h => by
    rcases List.mem_cons.1 h with rfl | h
    · simp only [sumOf]; omega
    · have := sumOf_mem f h
      simp only [sumOf]
      omega
theorem apply_len {r : RuleP} {w m : List UInt8} (h : r.apply w = some m) : m.length ≤ w.length + r.A.length := by
  rw [(apply_some h).2]
  exact made_length r w
theorem undo_len {r : RuleP} {w m : List UInt8} (h : r.undo w = some m) : m.length ≤ w.length + r.S.length := stem_length (undo_some h).1

theorem ret_out {o : Option (List UInt8)} {X : ByteArray} {b : Bool} (h1 : outS o = X) (h2 : o.isSome = b) : Ending.returned (.tuple #[.string X, .bool b]) = .returned (.tuple #[.string (outS o), .bool o.isSome]) := by rw [h1, h2]
def OutPost (o : Option (List UInt8)) (w : World) (e : Ending) (w' : World) : Prop := e = .returned (.tuple #[.string (outS o), .bool o.isSome]) ∧ Below w.heap.size w w'

set_option maxHeartbeats 2000000 in
set_option maxRecDepth 100000 in
theorem alongApply_any (a : Option Addr) (cap : Nat) (Rs : List RV) (word : ByteArray) (w : World) (h : RulesIn a Rs w) (hl : Rs.length ≤ 140737488351232) (hs : word.size + sumOf (fun r => r.A.size) Rs ≤ 562949953421312) (hother : ∀ r ∈ Rs, r.A.size ≤ 1125899906842624)
    (o : Option (List UInt8)) (ho : Caged (alongR RuleP.apply (Rs.map RV.p) word.data.toList = o)) :
    Calls Try.prog 62 #[.func (.func 33) #[] #[], .string word, .slice a Rs.length cap] w (OutPost o w) := by
  have HO := Caged.mk hother
  by_cases h0 : Rs = []
  · subst h0
    have e := ho.out
    have HE : Caged (outS o = word ∧ o.isSome = true) := ⟨by rw [← e]; exact ⟨by simp [alongR, outS], rfl⟩⟩
    clear e h HO
    go_enter Try.func62, Try.ntmps62
    go_wp2_with fail
    go_loopw [1, 13] (fun wd i wr => wd = .string word ∧ i = .int .i64 0 ∧ Below w.heap.size w wr) (fun _ _ _ => 0)
    case atStart => exact ⟨rfl, rfl, Below.refl _ _⟩
    case round =>
      obtain ⟨rfl, rfl, hbw⟩ := hrel
      go_wp2_with fail
      go_ret2
      exact ⟨ret_out HE.out.1 HE.out.2, hbw⟩
  · obtain ⟨g, off, ha, hat⟩ := h h0
    subst ha
    have H := Caged.mk hat
    clear hat h0 h
    go_enter Try.func62, Try.ntmps62
    go_wp2_with fail
    go_loopw [1, 13] (fun wd i wr => ∃ (k : Nat) (X : ByteArray), k ≤ Rs.length ∧ i = .int .i64 k ∧ wd = .string X ∧ alongR RuleP.apply ((Rs.drop k).map RV.p) X.data.toList = o ∧ X.size + sumOf (fun r => r.A.size) (Rs.drop k) ≤ 562949953421312 ∧ Below w.heap.size w wr) (fun _ i _ => Rs.length - (intOf i).toNat)
    case atStart => exact ⟨0, word, Nat.zero_le _, rfl, rfl, ho.out, hs, Below.refl _ _⟩
    case round =>
      obtain ⟨k, X, hk, rfl, rfl, hall, hsz, hbw⟩ := hrel
      by_cases hlt : k < Rs.length
      · obtain ⟨r, hr⟩ : ∃ r, Rs[k]? = some r := ⟨_, List.getElem?_eq_getElem hlt⟩
        have hd : Rs.drop k = r :: Rs.drop (k + 1) := by
          rw [List.drop_eq_getElem_cons hlt]
          rw [List.getElem?_eq_getElem hlt] at hr
          injection hr with hr
          rw [hr]
        rw [hd] at hall hsz
        simp only [List.map_cons, alongR, sumOf] at hall hsz
        obtain ⟨c0, c1, c2, c3, c4, c5, c6⟩ := (H.out.below hbw).cells hr
        have hro := HO.out r (List.mem_of_getElem? hr)
        obtain ⟨Y, hY⟩ : ∃ Y, outS (RuleP.apply r.p X.data.toList) = Y := ⟨_, rfl⟩
        obtain ⟨b, hb⟩ : ∃ b, (RuleP.apply r.p X.data.toList).isSome = b := ⟨_, rfl⟩
        have K := fun w => apply_pair r.k r.fl r.cr r.S r.A r.C r.a r.n r.c X Y b ⟨hY, hb⟩ w (by omega) (by omega)
        have hcase := out_self hY hb
        generalize r.k = rk at K c0
        generalize r.fl = rfl2 at K c1
        generalize r.cr = rcr at K c2
        generalize r.C = rC at K c5
        generalize r.a = ra at K c6
        generalize r.n = rn at K c6
        generalize r.c = rc at K c6
        have HK := Caged.mk K
        have HY : Caged ((b = true ∧ alongR RuleP.apply ((Rs.drop (k + 1)).map RV.p) Y.data.toList = o ∧ Y.size + sumOf (fun r => r.A.size) (Rs.drop (k + 1)) ≤ 562949953421312) ∨ (b = false ∧ o = none)) := ⟨by
          rcases hcase with ⟨h1, h2⟩ | ⟨h1, h2, _⟩
          · rw [h2] at hall
            have hlen := apply_len h2
            simp only [len_eq, RV.p] at hlen
            exact .inl ⟨h1, hall, by omega⟩
          · rw [h2] at hall
            exact .inr ⟨h1, hall.symm⟩⟩
        clear K hall hd hY hb hcase hr
        rcases HY.out with ⟨rfl, hy1, hy2⟩ | ⟨rfl, rfl⟩
        · have HY1 := Caged.mk hy1
          have HY2 := Caged.mk hy2
          clear hy1 hy2 HY
          go_wp2_with fail
          refine (HK.out _).mono ?_
          rintro e w1 ⟨rfl, hb1⟩
          have hbw1 : Below w.heap.size w w1 := below_next (below_box hbw _) hb1
          go_wp2_with fail
          go_roundw
          case rel => exact ⟨k + 1, Y, by omega, by go_num, rfl, HY1.out, HY2.out, hbw1⟩
          case measure => simp [intOf]; omega
        · go_wp2_with fail
          refine (HK.out _).mono ?_
          rintro e w1 ⟨rfl, hb1⟩
          have hbw1 : Below w.heap.size w w1 := below_next (below_box hbw _) hb1
          go_wp2_with fail
          go_ret2
          exact ⟨rfl, hbw1⟩
      · rw [List.drop_eq_nil_of_le (by omega)] at hall
        have HE : Caged (outS o = X ∧ o.isSome = true) := ⟨by rw [← hall]; exact ⟨by simp [alongR, outS], rfl⟩⟩
        clear hall
        go_wp2_with fail
        go_ret2
        exact ⟨ret_out HE.out.1 HE.out.2, hbw⟩

set_option maxHeartbeats 2000000 in
set_option maxRecDepth 100000 in
theorem alongUndo_any (a : Option Addr) (cap : Nat) (Rs : List RV) (word : ByteArray) (w : World) (h : RulesIn a Rs w) (hl : Rs.length ≤ 140737488351232) (hs : word.size + sumOf (fun r => r.S.size) Rs ≤ 562949953421312) (hother : ∀ r ∈ Rs, r.S.size ≤ 1125899906842624)
    (o : Option (List UInt8)) (ho : Caged (alongR RuleP.undo (Rs.map RV.p) word.data.toList = o)) :
    Calls Try.prog 62 #[.func (.func 38) #[] #[], .string word, .slice a Rs.length cap] w (OutPost o w) := by
  have HO := Caged.mk hother
  by_cases h0 : Rs = []
  · subst h0
    have e := ho.out
    have HE : Caged (outS o = word ∧ o.isSome = true) := ⟨by rw [← e]; exact ⟨by simp [alongR, outS], rfl⟩⟩
    clear e h HO
    go_enter Try.func62, Try.ntmps62
    go_wp2_with fail
    go_loopw [1, 13] (fun wd i wr => wd = .string word ∧ i = .int .i64 0 ∧ Below w.heap.size w wr) (fun _ _ _ => 0)
    case atStart => exact ⟨rfl, rfl, Below.refl _ _⟩
    case round =>
      obtain ⟨rfl, rfl, hbw⟩ := hrel
      go_wp2_with fail
      go_ret2
      exact ⟨ret_out HE.out.1 HE.out.2, hbw⟩
  · obtain ⟨g, off, ha, hat⟩ := h h0
    subst ha
    have H := Caged.mk hat
    clear hat h0 h
    go_enter Try.func62, Try.ntmps62
    go_wp2_with fail
    go_loopw [1, 13] (fun wd i wr => ∃ (k : Nat) (X : ByteArray), k ≤ Rs.length ∧ i = .int .i64 k ∧ wd = .string X ∧ alongR RuleP.undo ((Rs.drop k).map RV.p) X.data.toList = o ∧ X.size + sumOf (fun r => r.S.size) (Rs.drop k) ≤ 562949953421312 ∧ Below w.heap.size w wr) (fun _ i _ => Rs.length - (intOf i).toNat)
    case atStart => exact ⟨0, word, Nat.zero_le _, rfl, rfl, ho.out, hs, Below.refl _ _⟩
    case round =>
      obtain ⟨k, X, hk, rfl, rfl, hall, hsz, hbw⟩ := hrel
      by_cases hlt : k < Rs.length
      · obtain ⟨r, hr⟩ : ∃ r, Rs[k]? = some r := ⟨_, List.getElem?_eq_getElem hlt⟩
        have hd : Rs.drop k = r :: Rs.drop (k + 1) := by
          rw [List.drop_eq_getElem_cons hlt]
          rw [List.getElem?_eq_getElem hlt] at hr
          injection hr with hr
          rw [hr]
        rw [hd] at hall hsz
        simp only [List.map_cons, alongR, sumOf] at hall hsz
        obtain ⟨c0, c1, c2, c3, c4, c5, c6⟩ := (H.out.below hbw).cells hr
        have hro := HO.out r (List.mem_of_getElem? hr)
        obtain ⟨Y, hY⟩ : ∃ Y, outS (RuleP.undo r.p X.data.toList) = Y := ⟨_, rfl⟩
        obtain ⟨b, hb⟩ : ∃ b, (RuleP.undo r.p X.data.toList).isSome = b := ⟨_, rfl⟩
        have K := fun w => undo_pair r.k r.fl r.cr r.S r.A r.C r.a r.n r.c X Y b ⟨hY, hb⟩ w (by omega) (by omega)
        have hcase := out_self hY hb
        generalize r.k = rk at K c0
        generalize r.fl = rfl2 at K c1
        generalize r.cr = rcr at K c2
        generalize r.C = rC at K c5
        generalize r.a = ra at K c6
        generalize r.n = rn at K c6
        generalize r.c = rc at K c6
        have HK := Caged.mk K
        have HY : Caged ((b = true ∧ alongR RuleP.undo ((Rs.drop (k + 1)).map RV.p) Y.data.toList = o ∧ Y.size + sumOf (fun r => r.S.size) (Rs.drop (k + 1)) ≤ 562949953421312) ∨ (b = false ∧ o = none)) := ⟨by
          rcases hcase with ⟨h1, h2⟩ | ⟨h1, h2, _⟩
          · rw [h2] at hall
            have hlen := undo_len h2
            simp only [len_eq, RV.p] at hlen
            exact .inl ⟨h1, hall, by omega⟩
          · rw [h2] at hall
            exact .inr ⟨h1, hall.symm⟩⟩
        clear K hall hd hY hb hcase hr
        rcases HY.out with ⟨rfl, hy1, hy2⟩ | ⟨rfl, rfl⟩
        · have HY1 := Caged.mk hy1
          have HY2 := Caged.mk hy2
          clear hy1 hy2 HY
          go_wp2_with fail
          refine (HK.out _).mono ?_
          rintro e w1 ⟨rfl, hb1⟩
          have hbw1 : Below w.heap.size w w1 := below_next (below_box hbw _) hb1
          go_wp2_with fail
          go_roundw
          case rel => exact ⟨k + 1, Y, by omega, by go_num, rfl, HY1.out, HY2.out, hbw1⟩
          case measure => simp [intOf]; omega
        · go_wp2_with fail
          refine (HK.out _).mono ?_
          rintro e w1 ⟨rfl, hb1⟩
          have hbw1 : Below w.heap.size w w1 := below_next (below_box hbw _) hb1
          go_wp2_with fail
          go_ret2
          exact ⟨rfl, hbw1⟩
      · rw [List.drop_eq_nil_of_le (by omega)] at hall
        have HE : Caged (outS o = X ∧ o.isSome = true) := ⟨by rw [← hall]; exact ⟨by simp [alongR, outS], rfl⟩⟩
        clear hall
        go_wp2_with fail
        go_ret2
        exact ⟨ret_out HE.out.1 HE.out.2, hbw⟩

set_option maxHeartbeats 1000000 in
theorem chain_any (a : Option Addr) (cap : Nat) (Rs : List RV) (word : ByteArray) (w : World) (h : RulesIn a Rs w) (hl : Rs.length ≤ 140737488351232) (hs : word.size + sumOf (fun r => r.A.size) Rs ≤ 562949953421312) :
    Calls Try.prog 40 #[.string word, .slice a Rs.length cap] w (OutPost (chainR (Rs.map RV.p) word.data.toList) w) := by
  obtain ⟨o, ho⟩ : ∃ o, chainR (Rs.map RV.p) word.data.toList = o := ⟨_, rfl⟩
  rw [ho]
  have K := fun w h => alongApply_any a cap Rs word w h hl hs (fun r hr => by have := sumOf_mem (fun r => r.A.size) hr; omega) o ⟨ho⟩
  unfold OutPost at K ⊢
  generalize outS o = X at K
  generalize o.isSome = b at K
  have HK := Caged.mk K
  have H := Caged.mk h
  clear K ho h
  go_enter Try.func40, Try.ntmps40
  go_wp2_with fail
  refine (HK.out _ H.out).mono ?_
  rintro e w1 ⟨rfl, hb1⟩
  go_wp2_with fail
  go_ret2
  exact ⟨rfl, hb1⟩
end Go.Proofs.Ytpckcapilhfpcaa
