/-
  The law package's refs; the reference's Chain and Peel, on the row that refs makes.
-/
import Derived.Test.YtpckcapilhfpcaaRulesOwn
namespace Go.Proofs.Ytpckcapilhfpcaa
open Go.RowKit

def RV.ref (r : RV) : List Value := [.int .i64 r.k, .int .i64 0, .bool false, .string r.S, .string r.A, .string r.C, .slice none 0 0, .int .i64 0]
theorem ref_len (r : RV) : r.ref.length = 8 := rfl
def RefOwn (B : Nat) (v : Value) (Rs : List RV) (w : World) : Prop := w.ownsRow B 59 8 v Rs.length ((Rs.map RV.ref).flatten)
theorem infoRef : (Try.prog.info? 59).map (fun i => (i.zero, i.size, i.bytes)) = some (some (.agg #[.int .i64 0, .int .i64 0, .bool false, .string ⟨#[]⟩, .string ⟨#[]⟩, .string ⟨#[]⟩, .slice none 0 0, .int .i64 0]), 8, 104) := by kernel_rfl
section
variable {B : Nat} {v : Value} {Rs : List RV} {w w' : World}
theorem RefOwn.nil (B : Nat) (w : World) : RefOwn B (.slice none 0 0) [] w := World.ownsRow_nil w B _ 8
theorem RefOwn.alloc (h : RefOwn B v Rs w) (o : Obj) : RefOwn B v Rs (w.alloc o) := World.ownsRow.alloc h o
theorem RefOwn.below (h : RefOwn B v Rs w) (hb : Below w.heap.size w w') : RefOwn B v Rs w' := by
  refine World.ownsRow.kept (row := none) h ⟨hb.os, hb.tape, hb.output, hb.size, fun k hk _ => hb.block k hk⟩ ?_
  cases hv : v.ownBlock <;> simp
theorem RefOwn.form (h : RefOwn B v Rs w) : ∃ a cap, v = .slice a Rs.length cap ∧ (Rs ≠ [] → ∃ g, a = some ⟨g, 0, none⟩) := by
  rcases h.2 with ⟨rfl, hn⟩ | ⟨g, cap, cur, rfl, _⟩
  · exact ⟨none, 0, by rw [hn], fun h0 => absurd (List.eq_nil_of_length_eq_zero hn) h0⟩
  · exact ⟨_, cap, rfl, fun _ => ⟨g, rfl⟩⟩
theorem RefOwn.cells {g n cap : Nat} (h : RefOwn B (.slice (some ⟨g, 0, none⟩) n cap) Rs w) {i : Nat} {r : RV} (hr : Rs[i]? = some r) :
    w.cell? ⟨g, i * 8, none⟩ = some (.int .i64 r.k) ∧ w.cell? ⟨g, i * 8 + 1, none⟩ = some (.int .i64 0) ∧ w.cell? ⟨g, i * 8 + 2, none⟩ = some (.bool false) ∧ w.cell? ⟨g, i * 8 + 3, none⟩ = some (.string r.S) ∧
      w.cell? ⟨g, i * 8 + 4, none⟩ = some (.string r.A) ∧ w.cell? ⟨g, i * 8 + 5, none⟩ = some (.string r.C) ∧ w.cell? ⟨g, i * 8 + 6, none⟩ = some (.slice none 0 0) ∧ w.cell? ⟨g, i * 8 + 7, none⟩ = some (.int .i64 0) := by
  have key : ∀ j u, r.ref[j]? = some u → w.cell? ⟨g, i * 8 + j, none⟩ = some u := by
    intro j u hu
    have := World.ownsRow.cells h (g := g) rfl (i * 8 + j) u (flat_at ref_len Rs i j r u hr hu)
    rw [Addr.add_lit, Nat.zero_add] at this
    exact this
  exact ⟨key 0 _ rfl, key 1 _ rfl, key 2 _ rfl, key 3 _ rfl, key 4 _ rfl, key 5 _ rfl, key 6 _ rfl, key 7 _ rfl⟩
end
theorem ref_one (r : RV) : ∀ u ∈ r.ref, u.oneCell' = true := by
  intro u hu
  simp only [RV.ref, List.mem_cons, List.not_mem_nil, or_false] at hu
  rcases hu with rfl | rfl | rfl | rfl | rfl | rfl | rfl | rfl <;> rfl

theorem wpList_append_ref {ops : Array Oper} {rest : List Oper} {o : Oper} {a : Act} {Q : Exit → Act → World → Prop} (hgd : o.guard = none) (s x : Operand)
    (ho : o.op = .call { callee := .builtin .append, args := #[s, x], argTypes := #[65, 65] })
    (B : Nat) (v : Value) (Rs : List RV) (r : RV) (g : Nat) (w : World) (hs : a.eval s = v) (hx : a.eval x = .slice (some ⟨g, 0, none⟩) 1 1)
    (hrow : w.heap[g]? = some (.cells r.ref.toArray 59 (0, 0))) (hown : RefOwn B v Rs w) (hlen : Rs.length + 1 ≤ 1048576) (hB : B ≤ w.heap.size)
    (h : ∀ v' w', RefOwn B v' (Rs ++ [r]) w' → w.grownBy w' v.ownBlock → Below B w w' → wpList Try.prog ops Q rest (a.put o.dst v') w') :
    wpList Try.prog ops Q (o :: rest) a w := by
  obtain ⟨i0, hi, hz0, hz1, hz2⟩ := info_parts infoRef
  refine wpList_append_own _ hgd s x 65 ho B 59 i0 _ 8 104 Try.underlying65 hi hz0 hz1 hz2 rfl (by decide) v Rs.length ((Rs.map RV.ref).flatten) hs hown
    ⟨g, 0, none⟩ 1 1 r.ref hx rfl ?_ (ref_one r) (by unfold maxLen; omega) (by omega) hB ?_
  · intro j u hj
    rw [Addr.add_lit, cell_of_row _ _ _ _ _ _ hrow]
    simpa using hj
  · intro v' w' hown' hgrow _
    refine h v' w' ?_ hgrow ((Below.refl B w).grown hgrow hB (fun k hk => (World.ownsRow.lt hown k hk).1))
    unfold RefOwn
    have e : ((Rs ++ [r]).map RV.ref).flatten = (Rs.map RV.ref).flatten ++ r.ref := by simp
    rw [List.length_append, e]
    exact hown'

set_option maxHeartbeats 2000000 in
set_option maxRecDepth 100000 in
theorem refs_any (a : Option Addr) (cap : Nat) (Rs : List RV) (w : World) (h : RulesIn a Rs w) (hl : Rs.length ≤ 1048576) :
    Calls Try.prog 42 #[.slice a Rs.length cap] w fun e w' => ∃ v, e = .returned v ∧ RefOwn w.heap.size v Rs w' ∧ Below w.heap.size w w' := by
  have H := Caged.mk h
  clear h
  go_enter Try.func42, Try.ntmps42
  go_wp2_with fail
  go_loopw [3, 8] (fun v i wr => ∃ k : Nat, k ≤ Rs.length ∧ i = .int .i64 k ∧ RefOwn w.heap.size v (Rs.take k) wr ∧ Below w.heap.size w wr) (fun _ i _ => Rs.length - (intOf i).toNat)
  case atStart => exact ⟨0, Nat.zero_le _, rfl, by rw [List.take_zero]; exact RefOwn.nil _ _, Below.refl _ _⟩
  case round =>
    obtain ⟨k, hk, rfl, hown, hbw⟩ := hrel
    have hB := hbw.size
    by_cases hlt : k < Rs.length
    · obtain ⟨r, hr⟩ : ∃ r, Rs[k]? = some r := ⟨_, List.getElem?_eq_getElem hlt⟩
      have ht : Rs.take (k + 1) = Rs.take k ++ [r] := by rw [List.take_add_one, hr]; rfl
      have HT := Caged.mk ht
      obtain ⟨g, off, ha, hat⟩ := (H.out.below hbw) (by intro e; rw [e] at hlt; simp at hlt)
      subst ha
      obtain ⟨c0, c1, c2, c3, c4, c5, c6⟩ := hat.cells hr
      have htl : (Rs.take k).length ≤ 1048575 := by rw [List.length_take]; omega
      have HO := Caged.mk hown
      clear ht hr hat hown
      go_wp2_with fail
      refine (ref_any r.k r.fl r.cr r.S r.A r.C r.a r.n r.c _).mono ?_
      rintro e w1 ⟨rfl, hb1⟩
      have hbw1 : Below w.heap.size w w1 := below_next (below_box hbw _) hb1
      have HO1 := Caged.mk ((HO.out.alloc (.cells #[.int .i64 r.k, .int .u16 r.fl, .bool r.cr, .string r.S, .string r.A, .string r.C, .slice r.a r.n r.c] 53)).below hb1)
      have hB1 := hbw1.size
      clear c0 c1 c2 c3 c4 c5 c6 hb1
      go_wp2_with (at_builtin; refine wpList_append_ref rfl _ _ rfl w.heap.size _ (Rs.take k) r w1.heap.size _ rfl rfl ?hrow ?ho ?c1 ?c2 ?_)
      case hrow => exact heap_alloc_new w1 _
      case ho => exact HO1.out.alloc _
      case c1 => omega
      case c2 => simp; omega
      intro v2 w2 hown2 hg2 hb2
      have hbw2 := (below_box' hbw1 hB1 _).trans hb2
      clear hg2 hb2
      go_wp2_with fail
      go_roundw
      case rel => exact ⟨k + 1, by omega, by go_num, by rw [HT.out]; exact hown2, hbw2⟩
      case measure => simp [intOf]; omega
    · rw [List.take_of_length_le (by omega)] at hown
      have HO := Caged.mk hown
      clear hown
      go_wp2_with fail
      go_ret
      exact ⟨_, rfl, HO.out, hbw⟩

set_option maxHeartbeats 2000000 in
set_option maxRecDepth 100000 in
theorem refChain_any (B : Nat) (v : Value) (Rs : List RV) (word : ByteArray) (w : World) (h : RefOwn B v Rs w) (hl : Rs.length ≤ 1048576) (hs : word.size + sumOf (fun r => r.A.size) Rs ≤ 562949953421312) :
    Calls Try.prog 41 #[.string word, v] w (OutPost (chainR (Rs.map RV.p) word.data.toList) w) := by
  obtain ⟨o, ho⟩ : ∃ o, chainR (Rs.map RV.p) word.data.toList = o := ⟨_, rfl⟩
  rw [ho]
  obtain ⟨a, cap, hv, hg⟩ := h.form
  subst hv
  have hsum := fun r hr => sumOf_mem (fun r => r.A.size) (a := Rs) (r := r) hr
  have HG := Caged.mk hg
  have H := Caged.mk h
  have HSUM := Caged.mk hsum
  clear hg h hsum
  go_enter Try.func41, Try.ntmps41
  go_wp2_with fail
  go_loopw [0, 6] (fun wd i wr => ∃ (k : Nat) (X : ByteArray), k ≤ Rs.length ∧ i = .int .i64 k ∧ wd = .string X ∧ alongR RuleP.apply ((Rs.drop k).map RV.p) X.data.toList = o ∧ X.size + sumOf (fun r => r.A.size) (Rs.drop k) ≤ 562949953421312 ∧ Below w.heap.size w wr) (fun _ i _ => Rs.length - (intOf i).toNat)
  case atStart => exact ⟨0, word, Nat.zero_le _, rfl, rfl, ho, hs, Below.refl _ _⟩
  case round =>
    obtain ⟨k, X, hk, rfl, rfl, hall, hsz, hbw⟩ := hrel
    by_cases hlt : k < Rs.length
    · obtain ⟨r, hr⟩ : ∃ r, Rs[k]? = some r := ⟨_, List.getElem?_eq_getElem hlt⟩
      have hd : Rs.drop k = r :: Rs.drop (k + 1) := by
        rw [List.drop_eq_getElem_cons hlt]
        rw [List.getElem?_eq_getElem hlt] at hr
        injection hr with hr
        rw [hr]
      rw [hd] at hall hsz
      simp only [List.map_cons, alongR, sumOf] at hall hsz
      obtain ⟨g, ha⟩ := HG.out (by intro e; rw [e] at hlt; simp at hlt)
      subst ha
      obtain ⟨c0, c1, c2, c3, c4, c5, c6, c7⟩ := (H.out.below hbw).cells hr
      have hro := HSUM.out r (List.mem_of_getElem? hr)
      obtain ⟨Y, hY⟩ : ∃ Y, outS (RuleP.apply r.p X.data.toList) = Y := ⟨_, rfl⟩
      obtain ⟨b, hb⟩ : ∃ b, (RuleP.apply r.p X.data.toList).isSome = b := ⟨_, rfl⟩
      have K := fun w => refApply_pair r.k r.S r.A r.C X Y b ⟨hY, hb⟩ w (by omega) (by omega)
      have hcase := out_self hY hb
      have HK := Caged.mk K
      have HY : Caged ((b = true ∧ alongR RuleP.apply ((Rs.drop (k + 1)).map RV.p) Y.data.toList = o ∧ Y.size + sumOf (fun r => r.A.size) (Rs.drop (k + 1)) ≤ 562949953421312) ∨ (b = false ∧ o = none)) := ⟨by
        rcases hcase with ⟨h1, h2⟩ | ⟨h1, h2, _⟩
        · rw [h2] at hall
          have hlen := apply_len h2
          simp only [len_eq, RV.p] at hlen
          exact .inl ⟨h1, hall, by omega⟩
        · rw [h2] at hall
          exact .inr ⟨h1, hall.symm⟩⟩
      clear K hall hd hY hb hcase hr ho
      rcases HY.out with ⟨rfl, hy1, hy2⟩ | ⟨rfl, rfl⟩
      · have HY1 := Caged.mk hy1
        have HY2 := Caged.mk hy2
        clear hy1 hy2 HY
        go_wp2_with fail
        refine (HK.out _).mono ?_
        rintro e w1 ⟨rfl, hb1⟩
        have hbw1 : Below w.heap.size w w1 := below_next hbw hb1
        go_wp2_with fail
        go_roundw
        case rel => exact ⟨k + 1, Y, by omega, by go_num, rfl, HY1.out, HY2.out, hbw1⟩
        case measure => simp [intOf]; omega
      · go_wp2_with fail
        refine (HK.out _).mono ?_
        rintro e w1 ⟨rfl, hb1⟩
        have hbw1 : Below w.heap.size w w1 := below_next hbw hb1
        go_wp2_with fail
        go_ret2
        exact ⟨rfl, hbw1⟩
    · rw [List.drop_eq_nil_of_le (by omega)] at hall
      have HE : Caged (outS o = X ∧ o.isSome = true) := ⟨by rw [← hall]; exact ⟨by simp [alongR, outS], rfl⟩⟩
      clear hall ho
      go_wp2_with fail
      go_ret2
      exact ⟨ret_out HE.out.1 HE.out.2, hbw⟩
end Go.Proofs.Ytpckcapilhfpcaa
