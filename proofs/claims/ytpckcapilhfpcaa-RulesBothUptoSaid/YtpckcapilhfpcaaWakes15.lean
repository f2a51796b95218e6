/-
  The law package's own helpers of layer 15: ref, ies, wakes.
-/
import Derived.Test.YtpckcapilhfpcaaRefRules
namespace Go.Proofs.Ytpckcapilhfpcaa
open Go.RowKit

set_option maxHeartbeats 1000000 in
theorem ref_any (k fl : Int) (cr : Bool) (S A C : ByteArray) (a : Option Addr) (n c : Nat) (w : World) :
    Calls Try.prog 35 #[.agg #[.int .i64 k, .int .u16 fl, .bool cr, .string S, .string A, .string C, .slice a n c]] w fun e w' =>
      e = .returned (.agg #[.int .i64 k, .int .i64 0, .bool false, .string S, .string A, .string C, .slice none 0 0, .int .i64 0]) ∧ Below w.heap.size w w' := by
  go_enter Try.func35, Try.ntmps35
  go_wp2_with fail
  refine bodyPost_ret (v := .agg #[.int .i64 k, .int .i64 0, .bool false, .string S, .string A, .string C, .slice none 0 0, .int .i64 0]) (by simp [results, Try.results35, go_sem]) rfl ⟨rfl, ?_⟩
  exact below_box (below_box (Below.refl _ _) _) _

set_option maxHeartbeats 1000000 in
theorem ies_any (w : World) :
    Calls Try.prog 57 #[] w fun e w' =>
      e = .returned (.agg #[.int .i64 2, .int .u16 0, .bool false, .string ⟨#[121]⟩, .string ⟨#[105, 101, 115]⟩, .string ⟨#[91, 94, 97, 101, 105, 111, 117, 93, 121]⟩, .slice none 0 0]) ∧ Below w.heap.size w w' := by
  go_enter Try.func57, Try.ntmps57
  go_wp2_with fail
  refine bodyPost_ret (v := .agg #[.int .i64 2, .int .u16 0, .bool false, .string ⟨#[121]⟩, .string ⟨#[105, 101, 115]⟩, .string ⟨#[91, 94, 97, 101, 105, 111, 117, 93, 121]⟩, .slice none 0 0]) (by simp [results, Try.results57, go_sem]) rfl ⟨rfl, ?_⟩
  exact below_box (Below.refl _ _) _

theorem ies_fits (word : List UInt8) : RuleP.fits ⟨2, [121], [105, 101, 115], lit04⟩ word = (decide (1 < word.length) && (Lib.hasSuffix word [121] && endsL [clsOf [91, 94, 97, 101, 105, 111, 117, 93], clsOf [121]] word)) := by
  simp only [RuleP.fits, lit04_read]
  simp [errOf, patOf]
theorem ies_fly : RuleP.fits ⟨2, [121], [105, 101, 115], lit04⟩ [102, 108, 121] = true := by rw [ies_fits]; decide
theorem ies_day : RuleP.fits ⟨2, [121], [105, 101, 115], lit04⟩ [100, 97, 121] = false := by rw [ies_fits]; decide
theorem ies_apply : RuleP.apply ⟨2, [121], [105, 101, 115], lit04⟩ [102, 108, 121] = some [102, 108, 105, 101, 115] := by
  rw [RuleP.apply, if_pos ies_fly]; decide
theorem ies_undo : RuleP.undo ⟨2, [121], [105, 101, 115], lit04⟩ [102, 108, 105, 101, 115] = some [102, 108, 121] := undo_of_apply ies_apply

set_option maxHeartbeats 2000000 in
theorem wakes15_any (w : World) : Calls Try.prog 36 #[] w fun e w' => e = .returned (.bool true) ∧ Below w.heap.size w w' := by
  have K1 := fun w => apply_pair 2 0 false ⟨#[121]⟩ ⟨#[105, 101, 115]⟩ ⟨#[91, 94, 97, 101, 105, 111, 117, 93, 121]⟩ none 0 0 ⟨#[102, 108, 121]⟩ ⟨#[102, 108, 105, 101, 115]⟩ true ⟨by
    have := ies_apply
    exact ⟨by rw [this]; rfl, by rw [this]; rfl⟩⟩ w (by decide) (by decide)
  have K2 := fun w => undo_pair 2 0 false ⟨#[121]⟩ ⟨#[105, 101, 115]⟩ ⟨#[91, 94, 97, 101, 105, 111, 117, 93, 121]⟩ none 0 0 ⟨#[102, 108, 105, 101, 115]⟩ ⟨#[102, 108, 121]⟩ true ⟨by
    have := ies_undo
    exact ⟨by rw [this]; rfl, by rw [this]; rfl⟩⟩ w (by decide) (by decide)
  have K3 := fun w => fits_bool 2 0 false ⟨#[121]⟩ ⟨#[105, 101, 115]⟩ ⟨#[91, 94, 97, 101, 105, 111, 117, 93, 121]⟩ none 0 0 ⟨#[100, 97, 121]⟩ false ⟨ies_day⟩ w (by decide)
  have HK1 := Caged.mk K1
  have HK2 := Caged.mk K2
  have HK3 := Caged.mk K3
  clear K1 K2 K3
  go_enter Try.func36, Try.ntmps36
  go_wp2_with fail
  refine (ies_any _).mono ?_
  rintro e w1 ⟨rfl, hb1⟩
  go_wp2_with fail
  refine (HK1.out _).mono ?_
  rintro e w2 ⟨rfl, hb2⟩
  have hbw2 := below_next hb1 hb2
  go_wp2_with fail
  refine (ies_any _).mono ?_
  rintro e w3 ⟨rfl, hb3⟩
  have hbw3 := below_next hbw2 hb3
  go_wp2_with fail
  refine (HK2.out _).mono ?_
  rintro e w4 ⟨rfl, hb4⟩
  have hbw4 := below_next hbw3 hb4
  go_wp2_with fail
  refine (ies_any _).mono ?_
  rintro e w5 ⟨rfl, hb5⟩
  have hbw5 := below_next hbw4 hb5
  go_wp2_with fail
  refine (HK3.out _).mono ?_
  rintro e w6 ⟨rfl, hb6⟩
  have hbw6 := below_next hbw5 hb6
  go_wp2_with fail
  go_ret
  exact ⟨rfl, hbw6⟩
end Go.Proofs.Ytpckcapilhfpcaa
