/-
  The reference's Equal.
-/
import Derived.Test.YtpckcapilhfpcaaEqual
namespace Go.Proofs.Ytpckcapilhfpcaa
open Go.RowKit

theorem cls_all {f g : Cls} (h : ∀ n, n < 256 → f (UInt8.ofNat n) = g (UInt8.ofNat n)) : f = g := by
  funext b
  have := h b.toNat (by have := b.toNat_lt; omega)
  rwa [UInt8.ofNat_toNat] at this

set_option maxHeartbeats 1000000 in
set_option maxRecDepth 100000 in
theorem refEqual_any (B1 B2 : Nat) (v1 v2 : Value) (P Q : List ByteArray) (w : World) (h1 : ItemsOwn B1 v1 P w) (h2 : ItemsOwn B2 v2 Q w) (o1 : RefOk P) (o2 : RefOk Q) (hP : P.length ≤ 1048576) :
    Calls Try.prog 30 #[v1, v2] w fun e w' => e = .returned (.bool (eqB (clsOfQ P) (clsOfQ Q))) ∧ Below w.heap.size w w' := by
  obtain ⟨a1, cap1, rfl⟩ := h1.form
  obtain ⟨a2, cap2, rfl⟩ := h2.form
  by_cases hl : P.length = Q.length
  · have hb : ((P.length : Int) == (Q.length : Int)) = true := by rw [hl]; exact beq_self_eq_true _
    have hn : ((P.length : Int) != (Q.length : Int)) = false := by rw [hl]; simp
    have HL := Lib.hid hl
    have H1 := Lib.hid h1
    have H2 := Lib.hid h2
    clear hl h1 h2
    go_enter Try.func30, Try.ntmps30
    go_wp2_with fail
    go_loopw [5] (fun i wr => ∃ k : Nat, k ≤ P.length ∧ i = .int .i64 k ∧ (clsOfQ P).take k = (clsOfQ Q).take k ∧ Below w.heap.size w wr) (fun i _ => P.length - (intOf i).toNat)
    case atStart => exact ⟨0, by omega, rfl, rfl, Below.refl _ _⟩
    case round =>
      obtain ⟨k, hk, rfl, htk, hbw⟩ := hrel
      by_cases hlt : k < P.length
      · have hlq : k < Q.length := by rw [← HL.out]; exact hlt
        obtain ⟨t, ht⟩ : ∃ t, P[k]? = some t := ⟨_, List.getElem?_eq_getElem hlt⟩
        obtain ⟨u, hu⟩ : ∃ u, Q[k]? = some u := ⟨_, List.getElem?_eq_getElem hlq⟩
        obtain ⟨g1, cap1', hv1⟩ := H1.out.somewhere (by rintro rfl; simp at hlt)
        obtain ⟨g2, cap2', hv2⟩ := H2.out.somewhere (by rintro rfl; simp at hlq)
        injection hv1 with e1 x1 e2
        injection hv2 with e3 x2 e4
        clear x1 x2
        subst e1 e2 e3 e4
        have ok1 := o1 t (List.mem_of_getElem? ht)
        have ok2 := o2 u (List.mem_of_getElem? hu)
        have K1 := fun b w' => refAdmits_any t b w' ok1.2 ok1.1
        have K2 := fun b w' => refAdmits_any u b w' ok2.2 ok2.1
        have C1 := fun w' (h : Below w.heap.size w w') => (H1.out.below h).cell ht
        have C2 := fun w' (h : Below w.heap.size w w') => (H2.out.below h).cell hu
        have hf := clsOfQ_at ht
        have hg := clsOfQ_at hu
        have HTK := Lib.hid htk
        have HF := Lib.hid hf
        have HG := Lib.hid hg
        have HK1 := Lib.hid K1
        have HK2 := Lib.hid K2
        have HC1 := Lib.hid C1
        have HC2 := Lib.hid C2
        clear htk hf hg K1 K2 C1 C2 ok1 ok2 ht hu
        go_wp2_with fail
        go_loopw [6] (fun i wr => ∃ b : Nat, b ≤ 256 ∧ i = .int .i64 b ∧ (∀ n, n < b → clsOf t.data.toList (UInt8.ofNat n) = clsOf u.data.toList (UInt8.ofNat n)) ∧ Below w.heap.size w wr) (fun i _ => 256 - (intOf i).toNat)
        case atStart => exact ⟨0, by omega, rfl, by intro n hn; omega, hbw⟩
        case round =>
          obtain ⟨b, hb, rfl, hall, hbr⟩ := hrel
          have HA := Lib.hid hall
          clear hall
          by_cases hlb : b < 256
          · have h8 := ofNat_nat hlb
            have L1 := HK1.out (UInt8.ofNat b)
            have L2 := HK2.out (UInt8.ofNat b)
            rw [h8] at L1 L2
            obtain ⟨x, hx⟩ : ∃ x, clsOf t.data.toList (UInt8.ofNat b) = x := ⟨_, rfl⟩
            obtain ⟨y, hy⟩ : ∃ y, clsOf u.data.toList (UInt8.ofNat b) = y := ⟨_, rfl⟩
            rw [hx] at L1
            rw [hy] at L2
            have HX := Lib.hid hx
            have HY := Lib.hid hy
            have HL1 := Lib.hid L1
            have HL2 := Lib.hid L2
            have c1 := HC1.out _ hbr
            clear L1 L2 hx hy h8
            by_cases hxy : x = y
            · subst hxy
              have hxx : (x == x) = true := beq_self_eq_true _
              go_wp2_with fail
              refine (HL1.out _).mono ?_
              rintro e w1 ⟨rfl, hb1⟩
              have hbr1 := below_next hbr hb1
              have c2 := HC2.out _ hbr1
              go_wp2_with fail
              refine (HL2.out _).mono ?_
              rintro e w2 ⟨rfl, hb2⟩
              have hbr2 := below_next hbr1 hb2
              go_wp2_with fail
              go_roundw
              case rel =>
                refine ⟨b + 1, by omega, by go_num, ?_, hbr2⟩
                intro n hn
                by_cases h : n < b
                · exact HA.out n h
                · have : n = b := by omega
                  rw [this, HX.out, HY.out]
              case measure => simp [intOf]; omega
            · have hxx : (x == y) = false := by rw [beq_eq_false_iff_ne]; exact hxy
              have hxn : (x != y) = true := by rw [bne_iff_ne]; exact hxy
              have hne : clsOfQ P ≠ clsOfQ Q := ne_at HF.out HG.out (by intro e; rw [e, HY.out] at HX; exact hxy HX.out.symm)
              have HE := Lib.hid (eqB_false hne)
              clear hxy hne
              go_wp2_with fail
              refine (HL1.out _).mono ?_
              rintro e w1 ⟨rfl, hb1⟩
              have hbr1 := below_next hbr hb1
              have c2 := HC2.out _ hbr1
              go_wp2_with fail
              refine (HL2.out _).mono ?_
              rintro e w2 ⟨rfl, hb2⟩
              have hbr2 := below_next hbr1 hb2
              go_wp2_with fail
              go_ret
              exact ⟨ret_bool HE.out.symm, hbr2⟩
          · have e : b = 256 := by omega
            subst e
            have hfg := cls_all HA.out
            have hg2 := HG.out
            rw [← hfg] at hg2
            have HT := Lib.hid (take_same HTK.out HF.out hg2)
            clear hfg hg2
            go_wp2_with fail
            go_roundw
            case rel => exact ⟨k + 1, by omega, by go_num, HT.out, hbr⟩
            case measure => simp [intOf]; omega
      · have e : clsOfQ P = clsOfQ Q := by
          have e : k = P.length := by omega
          subst e
          rw [← clsOfQ_len P, List.take_length, clsOfQ_len, HL.out, ← clsOfQ_len Q, List.take_length] at htk
          exact htk
        have HE := Lib.hid (eqB_true e)
        clear htk e
        go_wp2_with fail
        go_ret
        exact ⟨ret_bool HE.out.symm, hbw⟩
  · have hb : ((P.length : Int) == (Q.length : Int)) = false := by rw [beq_eq_false_iff_ne]; omega
    have hn : ((P.length : Int) != (Q.length : Int)) = true := by rw [bne_iff_ne]; omega
    have HE := Lib.hid (eqB_false (P := clsOfQ P) (Q := clsOfQ Q) (fun e => hl (by rw [← clsOfQ_len P, e, clsOfQ_len])))
    clear hl h1 h2
    go_enter Try.func30, Try.ntmps30
    go_wp2_with fail
    go_ret
    exact ⟨ret_bool HE.out.symm, Below.refl _ _⟩
end Go.Proofs.Ytpckcapilhfpcaa
