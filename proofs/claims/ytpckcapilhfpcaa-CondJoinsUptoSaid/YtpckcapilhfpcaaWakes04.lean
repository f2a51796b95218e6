/-
  wakes: the law package's own look at Read, Len and Ends.
-/
import Derived.Test.YtpckcapilhfpcaaEnds
namespace Go.Proofs.Ytpckcapilhfpcaa
open Go.RowKit

abbrev lit04 : List UInt8 := [91, 94, 97, 101, 105, 111, 117, 93, 121]
theorem lit04_read : readP lit04 = .inr [[91, 94, 97, 101, 105, 111, 117, 93], [121]] := by decide
theorem lit04_pat : ∃ P : List Cls, patOf (readP lit04) = P ∧ P.length = 2 ∧ endsL P [102, 108, 121] = true ∧ endsL P [100, 97, 121] = false := by
  refine ⟨[clsOf [91, 94, 97, 101, 105, 111, 117, 93], clsOf [121]], by rw [lit04_read]; rfl, rfl, by decide, by decide⟩

theorem below_box {w w1 : World} (h : Below w.heap.size w w1) (o : Obj) : Below w.heap.size w (w1.alloc o) := below_next h ((Below.refl _ _).alloc (Nat.le_refl _) _)
theorem lt_box (w : World) (o : Obj) : w.heap.size < (w.alloc o).heap.size := by simp

set_option maxHeartbeats 1000000 in
theorem wakes04_any (w : World) : Calls Try.prog 20 #[] w fun e w' => e = .returned (.bool true) ∧ Below w.heap.size w w' := by
  obtain ⟨P, hP, hlen, hfly, hday⟩ := lit04_pat
  have K := condRead_any ⟨#[91, 94, 97, 101, 105, 111, 117, 93, 121]⟩ w
  unfold ReadPost at K
  have e0 : errOf (readP lit04) = 0 := by rw [lit04_read]; rfl
  change Calls _ _ _ _ (fun e w' => ∃ v, e = .returned (.tuple #[.agg #[v], .int .i64 (errOf (readP lit04))]) ∧ PatOwn w.heap.size v (patOf (readP lit04)) w' ∧ Below w.heap.size w w') at K
  rw [hP, e0] at K
  have K1 := fun v w' h => len_any w.heap.size v P w' h
  rw [hlen] at K1
  have K2 := fun v w' h => ends_any w.heap.size v P ⟨#[102, 108, 121]⟩ w' h (by decide) (by omega)
  have K3 := fun v w' h => ends_any w.heap.size v P ⟨#[100, 97, 121]⟩ w' h (by decide) (by omega)
  change ∀ v w', _ → Calls _ _ _ _ (fun e w'' => e = .returned (.bool (endsL P [102, 108, 121])) ∧ _) at K2
  change ∀ v w', _ → Calls _ _ _ _ (fun e w'' => e = .returned (.bool (endsL P [100, 97, 121])) ∧ _) at K3
  rw [hfly] at K2
  rw [hday] at K3
  have HK := Lib.hid K
  have HK1 := Lib.hid K1
  have HK2 := Lib.hid K2
  have HK3 := Lib.hid K3
  have HL := Lib.hid hlen
  clear K K1 K2 K3 hlen hfly hday hP e0
  go_enter Try.func20, Try.ntmps20
  go_wp2_with fail
  refine HK.out.mono ?_
  rintro e w1 ⟨v, rfl, hp, hb⟩
  obtain ⟨a, cap, hv⟩ := hp.form
  subst hv
  have HP := Lib.hid hp
  clear hp
  go_wp2_with fail
  have hbox := heap_alloc_new w1 (.cells #[.slice a P.length cap] 24)
  refine (HK1.out _ _ (HP.out.alloc _)).mono ?_
  rintro e w2 ⟨rfl, hb2⟩
  have HP2 := Lib.hid ((HP.out.alloc _).below hb2)
  have hbx2 := (hb2.block _ (lt_box _ _)).trans hbox
  have hc2 := box_cell hbx2
  have hl2 := (Array.getElem?_eq_some_iff.1 hbx2).1
  have HX2 := Lib.hid hbx2
  clear hbx2
  go_wp2_with fail
  refine (HK2.out _ _ HP2.out).mono ?_
  rintro e w3 ⟨rfl, hb3⟩
  have HP3 := Lib.hid (HP2.out.below hb3)
  have hbx3 := (hb3.block _ hl2).trans HX2.out
  have hc3 := box_cell hbx3
  go_wp2_with fail
  refine (HK3.out _ _ HP3.out).mono ?_
  rintro e w4 ⟨rfl, hb4⟩
  go_wp2_with fail
  go_ret
  exact ⟨rfl, below_next (below_next (below_next (below_box hb _) hb2) hb3) hb4⟩
end Go.Proofs.Ytpckcapilhfpcaa
