/-
  It proves 'Rows.RulesBothUptoSaid': the law 'RulesBoth' returns true and leaves its arguments as they read, for every input of bulk at most 1048576.
-/
import Derived.Test.YtpckcapilhfpcaaOpenRules
import Derived.Test.YtpckcapilhfpcaaRulesBothWalk
namespace Go.Proofs.Ytpckcapilhfpcaa.lawRulesBoth
open Go.ChangeShapes Go.WideShapes Go.ChangeAt Go.RowKit
open Go.ChangeMaps (open_string)

theorem contract (H : Type) (enc : TypeId × Value → H) (W : World) (base : Nat) (args : Array Value) (ds gs : List (DataW H)) (before : List MemPlace)
    (hval : ∀ (j : Nat) t v, Try.f17.params[j]? = some t → args[j]? = some v → Value.okWide Try.prog W .any base t v)
    (hW : DataW.Whole enc Try.prog Try.f17.params.toList Rows.rulesBothSpec.vars false W args.toList ds gs before) (hk : Rows.uptoSmall H (ds ++ gs) = true) :
    Calls Try.prog 17 args W fun e W' => ∃ v, e = .returned v ∧ Rows.rulesBothSpec.post enc Try.prog Try.f17 false true false false W args v W' := by
  have hW0 := hW
  obtain ⟨p, q, hA0, hV, rfl, hfz, hnd⟩ := hW
  have hA : DataW.TrodAll enc Try.prog W 0 (fun _ => true) true Try.f17.params.toList args.toList ds p := hA0
  rw [Try.params17] at hA hval
  obtain ⟨v1, vs1, d1, ds1, p1, q1, hargs, rfl, rfl, b1, r1⟩ := trodAll_cons hA
  obtain ⟨v2, vs2, d2, ds2, p2, q2, rfl, rfl, rfl, b2, r2⟩ := trodAll_cons r1
  obtain ⟨v3, vs3, d3, ds3, p3, q3, rfl, rfl, rfl, b3, r3⟩ := trodAll_cons r2
  obtain ⟨rfl, rfl, rfl⟩ := trodAll_nil r3
  obtain rfl : args = #[v1, v2, v3] := by cases args; simp_all
  obtain ⟨rfl, rfl⟩ := trodVars_none hV
  obtain ⟨s1, rfl, rfl, rfl, hm1⟩ := open_string Try.underlying9 (hval 0 9 v1 rfl rfl) b1
  obtain ⟨a2, cap2, R2, rfl, hin2, hnil2, hbk2⟩ := open_rules (hval 1 62 v2 rfl rfl) b2
  obtain ⟨a3, cap3, R3, rfl, hin3, hnil3, hbk3⟩ := open_rules (hval 2 62 v3 rfl rfl) b3
  clear hA0
  have hb := small_bound hk
  simp only [List.append_nil, bulk_string, Rows.uptoBulkAll] at hb
  refine (rulesBoth_walk s1 a2 cap2 R2 a3 cap3 R3 W hin2 hnil2 hin3 hnil3 (by omega) (by rw [sumOf_append, sumOf_append]; omega)).mono fun e W' ⟨he, hbl⟩ => ?_
  subst he
  exact ⟨_, rfl, law_post laidOut (by rw [Try.params17]; kernel_rfl) rfl Try.underlying4 rfl rfl hW0 hbl⟩

set_option maxRecDepth 100000 in
theorem lifted (os : Os) (started : os.Started) (H : Type) (enc : TypeId × Value → H) (F : Stop.Interp) :
    ReturnsInHanded {} Try.checked os 17 .any ((Rows.OpenSpec.upto Rows.rulesBothSpec).pre6 enc Try.prog Try.f17 Rows.rulesBothUptoRow.domain false) (((Rows.OpenSpec.upto Rows.rulesBothSpec).at F).post enc Try.prog Try.f17 false true false false) := by
  refine returnsInHanded_of_cond (C := Try.checked) (s := Rows.OpenSpec.upto Rows.rulesBothSpec) (k := Rows.uptoSmall) rfl own started (by kernel_rfl) Try.func17
    (OpenSpec.witness (enc := enc) (C := Try.checked) (s := Rows.OpenSpec.upto Rows.rulesBothSpec) (k := Rows.uptoSmall) rfl false ⟨#[], #[.string .empty, .slice none 0 0, .slice none 0 0], []⟩ 8 (by kernel_rfl) (by kernel_rfl) (by kernel_rfl)
      (x := ([.lit (.string []), .nil, .nil], [], [])) (by kernel_rfl) rfl (by kernel_rfl)) ?_
  intro W base args ds gs before hval hW _ hk _
  exact contract H enc W base args ds gs before hval hW hk

theorem proved : Rows.RulesBothUptoSaid :=
  OpenClaim.holds_of_cond 17 Try.f17 rfl rfl rfl rfl rfl rfl rfl ⟨rfl, rfl, rfl, rfl, rfl⟩ rfl rfl rfl rfl rfl (by kernel_rfl) Try.func17 (by kernel_rfl)
    (of_decide_eq_true (by kernel_rfl)) (by unfold Func.isWrapper; first | (rw [if_pos (by decide +kernel)]; kernel_rfl) | (rw [if_neg (by decide +kernel)]; exact ⟨rfl, rfl⟩))
    (fun os started H enc _ F => lifted os started H enc F)
end Go.Proofs.Ytpckcapilhfpcaa.lawRulesBoth
