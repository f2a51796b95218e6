/-
  It proves 'Rows.RulesBackSaid': the law 'RulesBack' returns true and leaves its arguments as they read, for every input.
-/
import Derived.Test.YtpckcapilhfpcaaOpenRule
import Derived.Test.YtpckcapilhfpcaaRulesBackWalk
namespace Go.Proofs.Ytpckcapilhfpcaa.lawRulesBack
open Go.ChangeShapes Go.WideShapes Go.ChangeAt Go.RowKit
open Go.ChangeMaps (open_string)

theorem contract (H : Type) (enc : TypeId × Value → H) (W : World) (base : Nat) (args : Array Value) (ds gs : List (DataW H)) (before : List MemPlace)
    (hval : ∀ (j : Nat) t v, Try.f13.params[j]? = some t → args[j]? = some v → Value.okWide Try.prog W .any base t v)
    (hW : DataW.Whole enc Try.prog Try.f13.params.toList Rows.rulesBackSpec.vars false W args.toList ds gs before) (hk : (DataW.weightsEach Try.prog (Try.f13.params.toList ++ Rows.rulesBackSpec.plain.varTypes Try.prog) (ds ++ gs)).all (· ≤ reachBytes) = true) :
    Calls Try.prog 13 args W fun e W' => ∃ v, e = .returned v ∧ Rows.rulesBackSpec.post enc Try.prog Try.f13 false true false false W args v W' := by
  have hW0 := hW
  obtain ⟨p, q, hA0, hV, rfl, hfz, hnd⟩ := hW
  have hA : DataW.TrodAll enc Try.prog W 0 (fun _ => true) true Try.f13.params.toList args.toList ds p := hA0
  rw [Try.params13] at hA hval
  obtain ⟨v1, vs1, d1, ds1, p1, q1, hargs, rfl, rfl, a1, r1⟩ := trodAll_cons hA
  obtain ⟨v2, vs2, d2, ds2, p2, q2, rfl, rfl, rfl, a2, r2⟩ := trodAll_cons r1
  obtain ⟨rfl, rfl, rfl⟩ := trodAll_nil r2
  obtain rfl : args = #[v1, v2] := by cases args; simp_all
  obtain ⟨rfl, rfl⟩ := trodVars_none hV
  obtain ⟨k1, fl1, cr1, S1, A1, C1, aa1, n1, c1, dd1, rfl, rfl⟩ := open_rule (hval 0 53 v1 rfl rfl) a1
  have hr1 := reach_rule hk 0 k1 fl1 cr1 S1 A1 C1 dd1 (by rfl) rfl
  obtain ⟨s2, rfl, rfl, rfl, hm2⟩ := open_string Try.underlying9 (hval 1 9 v2 rfl rfl) a2
  clear hA0
  refine (rulesBack_walk k1 fl1 cr1 S1 A1 C1 aa1 n1 c1 s2 W (reach_string hk 1 9 s2 (by rfl) rfl) hr1.1 hr1.2.1).mono fun e W' ⟨he, hbl⟩ => ?_
  subst he
  exact ⟨_, rfl, law_post laidOut (by rw [Try.params13]; kernel_rfl) rfl Try.underlying4 rfl rfl hW0 hbl⟩

set_option maxRecDepth 100000 in
theorem lifted (os : Os) (started : os.Started) (H : Type) (enc : TypeId × Value → H) :
    ReturnsInHanded {} Try.checked os 13 .any (Rows.rulesBackSpec.pre6 enc Try.prog Try.f13 Rows.rulesBackRow.domain false) (Rows.rulesBackSpec.post enc Try.prog Try.f13 false true false false) := by
  refine returnsInHanded_of_change_sized (C := Try.checked) own started (by kernel_rfl) Try.func13
    (ChangeSpec.witness6 (enc := enc) (C := Try.checked) false ⟨#[], #[.agg #[.int .i64 0, .int .u16 0, .bool false, .string .empty, .string .empty, .string .empty, .slice none 0 0], .string .empty], []⟩ 8 (by kernel_rfl) (by kernel_rfl) (by kernel_rfl) (by kernel_rfl)) ?_
  intro W base args ds gs before hval hW _ hk _
  exact contract H enc W base args ds gs before hval hW hk

theorem proved : Rows.RulesBackSaid :=
  OpenClaim.holds_of_wide 13 Try.f13 rfl rfl rfl rfl rfl rfl rfl ⟨rfl, rfl, rfl, rfl, rfl⟩ rfl rfl rfl rfl rfl (by kernel_rfl) Try.func13 (by kernel_rfl)
    (of_decide_eq_true (by kernel_rfl)) (by unfold Func.isWrapper; first | (rw [if_pos (by decide +kernel)]; kernel_rfl) | (rw [if_neg (by decide +kernel)]; exact ⟨rfl, rfl⟩))
    (fun os started H enc _ => lifted os started H enc)
end Go.Proofs.Ytpckcapilhfpcaa.lawRulesBack
