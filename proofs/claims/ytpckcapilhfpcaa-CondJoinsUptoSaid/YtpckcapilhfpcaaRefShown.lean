/-
  The reference's Shown (one item) and Show (a list of items).
-/
import Derived.Test.YtpckcapilhfpcaaRefShow
namespace Go.Proofs.Ytpckcapilhfpcaa
open Go.RowKit

theorem Own.form {B : Nat} {v : Value} {l : List UInt8} {w : World} (h : Own B v l w) : ∃ a cap, v = .slice a l.length cap := by
  rcases h.2 with ⟨rfl, hn⟩ | ⟨g, cap, cur, rfl, _⟩
  · exact ⟨none, 0, by rw [hn]⟩
  · exact ⟨_, cap, rfl⟩
theorem filter_hat_none {l : List UInt8} (h : l.contains 94 = false) : l.filter (· != 94) = l := by
  rw [List.filter_eq_self]
  intro x hx
  have : x ≠ 94 := by
    rintro rfl
    rw [List.contains_eq_mem] at h
    simp [hx] at h
  simpa using this

set_option maxHeartbeats 4000000 in
set_option maxRecDepth 100000 in
theorem shown_text (t : ByteArray) (f : Cls) (hf : Caged (clsOf t.data.toList = f)) (T : List UInt8) (HT : Caged (showC f = T)) (w : World) (hs : t.size ≤ 1048576) (ht : Piece t.data.toList) (h0 : ∃ x, f x = true) :
    Calls Try.prog 53 #[.agg #[.string t]] w (ShowPost T w) := by
  have hne : bytesOf f ≠ [] := by
    obtain ⟨x, hx⟩ := h0
    intro e
    have := mem_bytes.2 hx
    rw [e] at this
    cases this
  have hl256 := bytes_le f
  have hm256 := bytes_le (fun y => !f y)
  have hpos : 0 < (bytesOf f).length := List.length_pos_iff.2 hne
  have KA := fun w => admitted_any t true f (fun y => by rw [hf.out]; simp) w hs ht
  have KN := fun w => admitted_any t false (fun y => !f y) (fun y => by rw [hf.out]; cases f y <;> rfl) w hs ht
  have KH := fun w => refAdmits_any t 93 w hs ht
  rw [hf.out] at KH
  unfold AdmPost at KA KN
  obtain ⟨l, hL⟩ : ∃ l, bytesOf f = l := ⟨_, rfl⟩
  obtain ⟨m, hM⟩ : ∃ m, bytesOf (fun y => !f y) = m := ⟨_, rfl⟩
  rw [hM] at hm256 KN
  rw [hL] at hne hl256 hpos KA
  have HL := Caged.mk hL
  have HM := Caged.mk hM
  have HKA := Caged.mk KA
  have HKN := Caged.mk KN
  have HKH0 := Caged.mk KH
  clear KA KN KH hL hM
  go_enter Try.func53, Try.ntmps53
  go_wp2_with fail
  refine (HKA.out _).mono ?_
  rintro e w1 ⟨v1, rfl, hown1, hb1⟩
  have hx0 := heap_alloc_new w (.cells #[.string t] 36)
  have hx1 := (hb1.block _ (lt_box _ _)).trans hx0
  have hbw1 : Below w.heap.size w w1 := below_next (below_box (Below.refl _ _) _) hb1
  have c1 := box_cell hx1
  have hlt1 := (Array.getElem?_eq_some_iff.1 hx1).1
  obtain ⟨g, cap, hv1⟩ := hown1.somewhere hne
  subst hv1
  have HX1 := Caged.mk hx1
  clear hx0 hx1 hb1
  go_wp2_with fail
  refine (HKN.out _).mono ?_
  rintro e w2 ⟨v2, rfl, hown2, hb2⟩
  have hx2 := (hb2.block _ hlt1).trans HX1.out
  have c2 := box_cell hx2
  have hlt2 := (Array.getElem?_eq_some_iff.1 hx2).1
  have hbw2 := below_next hbw1 hb2
  obtain ⟨a2, cap2, hv2⟩ := hown2.form
  subst hv2
  have hown12 := hown1.below hb2
  have hst1 := run_string_own hown12
  have HO1 := Caged.mk hown12
  have HO2 := Caged.mk hown2
  clear hown1 hown2 hx2 hb2 hown12 c1
  by_cases hfull : l.length = 256
  · have hfl := bytes_all.1 (by rw [HL.out]; exact hfull : (bytesOf f).length = 256)
    have hmn := bytes_none.2 hfl
    rw [HM.out] at hmn
    have t1 : ((m.length : Int) == 0) = true := by rw [hmn]; rfl
    have HS := Caged.mk (showC_full (f := f) (by rw [HL.out]; exact hfull))
    clear hfull hfl hmn
    go_wp2_with fail
    go_ret
    exact ⟨ret_bytes (by rw [← HT.out, HS.out]), hbw2⟩
  · have hmn : m ≠ [] := fun e => hfull (by rw [← HL.out]; exact bytes_all.2 (bytes_none.1 (by rw [HM.out]; exact e)))
    have t1 : ((m.length : Int) == 0) = false := by
      rw [beq_eq_false_iff_ne]
      have := List.length_pos_iff.2 hmn
      omega
    clear hmn
    by_cases hone : l.length = 1
    · obtain ⟨x, hx⟩ := List.length_eq_one_iff.1 hone
      have t2 : ((l.length : Int) == 1) = true := by rw [beq_iff_eq]; omega
      have x0 : w2.cell? ⟨g, 0, none⟩ = some (.int .u8 x.toNat) := HO1.out.cell (j := 0) (by rw [hx]; rfl)
      have hfx := one_cls (by rw [HL.out]; exact hx : bytesOf f = [x])
      by_cases h46 : x = 46
      · have HS := Caged.mk (showC_rest (f := f) (by rw [HL.out]; exact hfull) (by rw [HL.out, hx, h46]; simp) (by rw [hfx, h46]; rfl) (by rw [hfx, h46]; rfl))
        have t3 : ((x.toNat : Int) == 46) = true := by rw [h46]; rfl
        have HX := Caged.mk hx
        have H46 := Caged.mk h46
        clear hone hx hfx h46 hfull hst1
        go_wp2_with fail
        go_ret
        exact ⟨ret_bytes (by rw [← HT.out, HS.out, HL.out, HX.out, H46.out]; rfl), hbw2⟩
      · have t3 : ((x.toNat : Int) == 46) = false := byte_ne (n := 46) (fun e => h46 (UInt8.toNat_inj.1 e)) rfl
        by_cases h91 : x = 91
        · have HS := Caged.mk (showC_rest (f := f) (by rw [HL.out]; exact hfull) (by rw [HL.out, hx, h91]; simp) (by rw [hfx, h91]; rfl) (by rw [hfx, h91]; rfl))
          have t4 : ((x.toNat : Int) == 91) = true := by rw [h91]; rfl
          have HX := Caged.mk hx
          have H91 := Caged.mk h91
          clear hone hx hfx h46 h91 hfull hst1
          go_wp2_with fail
          go_ret
          exact ⟨ret_bytes (by rw [← HT.out, HS.out, HL.out, HX.out, H91.out]; rfl), hbw2⟩
        · have t4 : ((x.toNat : Int) == 91) = false := byte_ne (n := 91) (fun e => h91 (UInt8.toNat_inj.1 e)) rfl
          have HS := Caged.mk (showC_one (f := f) (by rw [HL.out]; exact hx) h46 h91)
          have HX := Caged.mk hx
          clear hone hx hfx h46 h91 hfull
          go_wp2_with fail
          go_ret
          exact ⟨ret_bytes (by rw [← HT.out, HS.out, HX.out]), hbw2⟩
    · have t2 : ((l.length : Int) == 1) = false := by rw [beq_eq_false_iff_ne]; omega
      have hn1 : ¬ ((bytesOf f).length = 1 ∧ bytesOf f ≠ [46] ∧ bytesOf f ≠ [91]) := by rw [HL.out]; exact fun h => hone h.1
      have hnf : (bytesOf f).length ≠ 256 := by rw [HL.out]; exact hfull
      cases h93 : f 93 with
      | true =>
        have HS := Caged.mk (showC_93 hnf hn1 h93)
        have KH := HKH0.out
        rw [h93] at KH
        have HKH := Caged.mk KH
        clear h93 KH hone hfull hn1 hnf hst1
        go_wp2_with fail
        refine (HKH.out _).mono ?_
        rintro e w3 ⟨rfl, hb3⟩
        have hbw3 := below_next hbw2 hb3
        have hst3 := run_string_own (HO2.out.below hb3)
        go_wp2_with fail
        go_ret
        exact ⟨ret_bytes (by rw [← HT.out, HS.out, HM.out]; simp), hbw3⟩
      | false =>
        have KH := HKH0.out
        rw [h93] at KH
        have HKH := Caged.mk KH
        have h94 : l.contains 94 = f 94 := by
          rw [Bool.eq_iff_iff, ← mem_bytes (f := f), HL.out]
          simp
        have hS : showC f = if l.contains 94 then 91 :: l.filter (· != 94) ++ [94, 93] else 91 :: l.filter (· != 94) ++ [93] := by
          cases h : f 94 with
          | true =>
            rw [h94, h, if_pos rfl, showC_94 hnf hn1 h93 h, HL.out]
          | false =>
            rw [h] at h94
            rw [h94, if_neg (by decide), showC_rest hnf hn1 h93 h, HL.out, filter_hat_none h94]
        have HS := Caged.mk hS
        clear h93 KH hone hfull hn1 hnf hst1 h94 hS
        go_wp2_with fail
        refine (HKH.out _).mono ?_
        rintro e w3 ⟨rfl, hb3⟩
        have hbw3 := below_next hbw2 hb3
        have HO3 := Caged.mk (HO1.out.below hb3)
        have hg3 : g < w3.heap.size := (HO3.out.lt g rfl).2
        clear hb3 c2
        go_wp2_with fail
        go_loopw [6, 7, 8] (fun v hat i wr => ∃ (k : Nat) (acc : List UInt8) (b : Bool), k ≤ l.length ∧ i = .int .i64 k ∧ hat = .bool b ∧ (b || (l.drop k).contains 94) = l.contains 94 ∧ acc ++ (l.drop k).filter (· != 94) = l.filter (· != 94) ∧ acc.length ≤ k ∧
          Own w3.heap.size v acc wr ∧ Below w3.heap.size w3 wr) (fun _ _ i _ => l.length - (intOf i).toNat)
        case atStart => exact ⟨0, [], false, by omega, rfl, rfl, by simp, by simp, by simp, Own.made _ _ (Nat.le_refl _), (Below.refl _ _).alloc (Nat.le_refl _) _⟩
        case round =>
          obtain ⟨k, acc, b, hk, rfl, rfl, hat, hall, hal, hown, hbw⟩ := hrel
          have hB := hbw.size
          by_cases hlt : k < l.length
          · have HOw := HO3.out.under hbw (fun j hj => by simp only [Value.ownBlock, Option.some.injEq] at hj; omega)
            have hcell := HOw.cell (List.getElem?_eq_getElem hlt)
            rw [drop_get l k hlt] at hall hat
            clear HOw
            by_cases hx : l[k] = 94
            · have t3 : ((l[k].toNat : Int) == 94) = true := by rw [hx]; rfl
              rw [hx] at hall hat
              have HA := Caged.mk hall
              have hat2 : (true || (l.drop (k + 1)).contains 94) = l.contains 94 := by rw [← hat]; simp
              have HAT := Caged.mk hat2
              clear hall hx hat hat2
              go_wp2_with fail
              go_roundw
              case rel => exact ⟨k + 1, acc, true, by omega, by go_num, rfl, HAT.out, by rw [← HA.out]; simp, by omega, hown, hbw⟩
              case measure => simp [intOf]; omega
            · have t3 : ((l[k].toNat : Int) == 94) = false := byte_ne (n := 94) (fun e => hx (UInt8.toNat_inj.1 e)) rfl
              have hall2 : (acc ++ [l[k]]) ++ (l.drop (k + 1)).filter (· != 94) = l.filter (· != 94) := by
                have hb : (l[k] != 94) = true := by simpa using hx
                rw [← hall, List.filter_cons, if_pos hb]
                simp
              have hat2 : (b || (l.drop (k + 1)).contains 94) = l.contains 94 := by
                have hb : (94 == l[k]) = false := beq_eq_false_iff_ne.2 (Ne.symm hx)
                rw [← hat, List.contains_cons, hb, Bool.false_or]
              have HA := Caged.mk hall2
              have HAT := Caged.mk hat2
              clear hall hx hat hat2 hall2
              go_wp2_with (at_builtin; refine wpList_append_byte rfl _ _ rfl w3.heap.size _ acc _ l[k] rfl rfl ?ho ?c1 ?c2 ?_)
              case c1 => omega
              intro v5 w5 hown5 hg5 hb5
              have hbw5 := hbw.trans hb5
              clear hown
              go_wp2_with fail
              go_roundw
              case rel => exact ⟨k + 1, _, b, by omega, by go_num, rfl, HAT.out, HA.out, by simp; omega, hown5, hbw5⟩
              case measure => simp [intOf]; omega
          · rw [List.drop_eq_nil_of_le (by omega)] at hall hat
            have hat2 : b = l.contains 94 := by rw [← hat]; simp
            have hall2 : acc = l.filter (· != 94) := by rw [← hall]; simp
            have HA := Caged.mk hall2
            have HAT := Caged.mk hat2
            have hbw6 := below_next hbw3 hbw
            clear hall hat hat2 hall2
            cases b
            · have hst := run_string_own hown
              clear hown
              go_wp2_with fail
              go_ret
              exact ⟨ret_bytes (by rw [← HT.out, HS.out, ← HAT.out, ← HA.out]; simp), hbw6⟩
            · go_wp2_with (at_builtin; refine wpList_append_num rfl _ _ rfl w3.heap.size _ acc _ 94 94 rfl rfl rfl ?ho2 ?c3 ?c4 ?_)
              case ho2 => exact hown
              case c3 => omega
              case c4 => exact hB
              intro v5 w5 hown5 hg5 hb5
              have hbw5 := hbw6.trans (hb5.mono (by have := hbw3.size; omega))
              have h5l : (acc ++ [94]).length ≤ 257 := by rw [List.length_append]; simp; omega
              obtain ⟨m5, hm5⟩ : ∃ m5, acc ++ [94] = m5 := ⟨_, rfl⟩
              rw [hm5] at hown5 h5l
              have HM5 := Caged.mk hm5
              have hst := run_string_own hown5
              clear hown5 hg5 hm5 hown
              go_wp2_with fail
              go_ret
              exact ⟨ret_bytes (by rw [← HT.out, HS.out, ← HAT.out, ← HA.out, ← HM5.out]; simp), hbw5⟩

theorem items_some {Q : List ByteArray} (h : ∀ t ∈ Q, Piece2 t.data.toList) : ∀ f ∈ clsOfQ Q, ∃ x, f x = true := by
  intro f hf
  obtain ⟨t, ht, rfl⟩ := List.mem_map.1 hf
  exact piece_some (h t ht)

set_option maxHeartbeats 2000000 in
theorem refShow_text (B : Nat) (v : Value) (Q : List ByteArray) (T : List UInt8) (HT : Caged (showP (clsOfQ Q) = T)) (w : World) (h : ItemsOwn B v Q w) (hok : RefOk Q) (hp : ∀ t ∈ Q, Piece2 t.data.toList) (hl : Q.length ≤ 1048576) :
    Calls Try.prog 32 #[v] w (ShowPost T w) := by
  by_cases h0 : Q = []
  · subst h0
    obtain ⟨a, cap, rfl⟩ := h.form
    go_enter Try.func32, Try.ntmps32
    go_wp2_with fail
    go_ret
    exact ⟨ret_bytes (by rw [← HT.out]; rfl), Below.refl _ _⟩
  · have hq0 : clsOfQ Q ≠ [] := by
      intro e
      have := congrArg List.length e
      rw [clsOfQ_len] at this
      exact h0 (List.eq_nil_of_length_eq_zero (by simpa using this))
    have HS := Caged.mk (showP_some hq0)
    obtain ⟨g, cap, rfl⟩ := h.somewhere h0
    have hp0 : ((Q.length : Int) == 0) = false := by
      rw [beq_eq_false_iff_ne]
      have := List.length_pos_iff.2 h0
      omega
    have H := Caged.mk h
    have HP := Caged.mk hp
    have HOK := Caged.mk hok
    have hgl : g < w.heap.size := (h.lt g rfl).2
    clear h hp hok h0 hq0
    go_enter Try.func32, Try.ntmps32
    go_wp2_with fail
    go_loopw [3, 4] (fun s i wr => ∃ (k : Nat) (acc : List UInt8), k ≤ Q.length ∧ i = .int .i64 k ∧ s = .string ⟨acc.toArray⟩ ∧ acc ++ (((clsOfQ Q).drop k).map showC).flatten = ((clsOfQ Q).map showC).flatten ∧ acc.length ≤ 259 * k ∧ Below w.heap.size w wr) (fun _ i _ => Q.length - (intOf i).toNat)
    case atStart => exact ⟨0, [], Nat.zero_le _, rfl, rfl, by simp, by simp, Below.refl _ _⟩
    case round =>
      obtain ⟨k, acc, hk, rfl, rfl, hall, hal, hbw⟩ := hrel
      by_cases hlt : k < Q.length
      · obtain ⟨t, ht⟩ : ∃ t, Q[k]? = some t := ⟨_, List.getElem?_eq_getElem hlt⟩
        have htm := List.mem_of_getElem? ht
        have hf := clsOfQ_at ht
        have hlt2 : k < (clsOfQ Q).length := by rw [clsOfQ_len]; exact hlt
        have hd : (clsOfQ Q).drop k = clsOf t.data.toList :: (clsOfQ Q).drop (k + 1) := by
          rw [List.drop_eq_getElem_cons hlt2]
          rw [List.getElem?_eq_getElem hlt2] at hf
          injection hf with hf
          rw [hf]
        rw [hd, List.map_cons, List.flatten_cons, ← List.append_assoc] at hall
        have c0 := (H.out.below hbw).cell ht
        have K := fun w' => shown_text t _ ⟨rfl⟩ _ ⟨rfl⟩ w' (HOK.out t htm).2 (HOK.out t htm).1 (piece_some (HP.out t htm))
        have ht1 := showC_len (clsOf t.data.toList)
        generalize showC (clsOf t.data.toList) = t1 at K hall ht1
        unfold ShowPost at K
        have HK := Caged.mk K
        have HA := Caged.mk hall
        clear K hall hd hf ht htm hlt2
        go_wp2_with fail
        refine (HK.out _).mono ?_
        rintro e w1 ⟨rfl, hb1⟩
        have hbw1 : Below w.heap.size w w1 := below_next hbw hb1
        go_wp2_with fail
        go_roundw
        case rel => exact ⟨k + 1, acc ++ t1, by omega, by go_num, by rw [add_mk], HA.out, by rw [List.length_append]; omega, hbw1⟩
        case measure => simp [intOf]; omega
      · rw [List.drop_eq_nil_of_le (by rw [clsOfQ_len]; omega)] at hall
        have HA := Caged.mk hall
        clear hall
        go_wp2_with fail
        go_ret
        exact ⟨ret_list (by rw [← HT.out, HS.out, ← HA.out]; simp), hbw⟩

/-- what is known of the items that the reference's Read answers -/
theorem both_piece2 {s : List UInt8} {Q : List ByteArray} (h : Q.map (·.data.toList) = textsOf (readP s)) : ∀ t ∈ Q, Piece2 t.data.toList := by
  intro t ht
  have hm : t.data.toList ∈ textsOf (readP s) := by rw [← h]; exact List.mem_map.2 ⟨t, ht, rfl⟩
  cases hr : readP s with
  | inl e => rw [hr] at hm; cases hm
  | inr ps =>
    rw [hr] at hm
    rcases read_cases hr with hn | ⟨_, _, _, _, _, hpc⟩
    · rw [hn] at hm; cases hm
    · exact hpc _ hm
theorem read_some (s : List UInt8) : ∀ f ∈ patOf (readP s), ∃ x, f x = true := by
  intro f hf
  cases hr : readP s with
  | inl e => rw [hr] at hf; cases hf
  | inr ps =>
    rw [hr] at hf
    obtain ⟨t, ht, rfl⟩ := List.mem_map.1 hf
    rcases read_cases hr with hn | ⟨_, _, _, _, _, hpc⟩
    · rw [hn] at ht; cases ht
    · exact piece_some (hpc _ ht)
end Go.Proofs.Ytpckcapilhfpcaa
