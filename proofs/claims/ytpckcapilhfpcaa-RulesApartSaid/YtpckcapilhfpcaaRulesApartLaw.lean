/-
  It proves 'Rows.RulesApartSaid': the law 'RulesApart' returns true and leaves its arguments as they read, for every input.
-/
import Derived.Test.YtpckcapilhfpcaaOpenRule
import Derived.Test.YtpckcapilhfpcaaRulesApartWalk
namespace Go.Proofs.Ytpckcapilhfpcaa.lawRulesApart
open Go.ChangeShapes Go.WideShapes Go.ChangeAt Go.RowKit
open Go.ChangeMaps (open_string)

theorem contract (H : Type) (enc : TypeId × Value → H) (W : World) (base : Nat) (args : Array Value) (ds gs : List (DataW H)) (before : List MemPlace)
    (hval : ∀ (j : Nat) t v, Try.f15.params[j]? = some t → args[j]? = some v → Value.okWide Try.prog W .any base t v)
    (hW : DataW.Whole enc Try.prog Try.f15.params.toList Rows.rulesApartSpec.vars false W args.toList ds gs before) (hk : (DataW.weightsEach Try.prog (Try.f15.params.toList ++ Rows.rulesApartSpec.plain.varTypes Try.prog) (ds ++ gs)).all (· ≤ reachBytes) = true) :
    Calls Try.prog 15 args W fun e W' => ∃ v, e = .returned v ∧ Rows.rulesApartSpec.post enc Try.prog Try.f15 false true false false W args v W' := by
  have hW0 := hW
  obtain ⟨p, q, hA0, hV, rfl, hfz, hnd⟩ := hW
  have hA : DataW.TrodAll enc Try.prog W 0 (fun _ => true) true Try.f15.params.toList args.toList ds p := hA0
  rw [Try.params15] at hA hval
  obtain ⟨v1, vs1, d1, ds1, p1, q1, hargs, rfl, rfl, a1, r1⟩ := trodAll_cons hA
  obtain ⟨v2, vs2, d2, ds2, p2, q2, rfl, rfl, rfl, a2, r2⟩ := trodAll_cons r1
  obtain ⟨v3, vs3, d3, ds3, p3, q3, rfl, rfl, rfl, a3, r3⟩ := trodAll_cons r2
  obtain ⟨rfl, rfl, rfl⟩ := trodAll_nil r3
  obtain rfl : args = #[v1, v2, v3] := by cases args; simp_all
  obtain ⟨rfl, rfl⟩ := trodVars_none hV
  obtain ⟨s1, rfl, rfl, rfl, hm1⟩ := open_string Try.underlying9 (hval 0 9 v1 rfl rfl) a1
  obtain ⟨k2, fl2, cr2, S2, A2, C2, aa2, n2, c2, dd2, rfl, rfl⟩ := open_rule (hval 1 53 v2 rfl rfl) a2
  have hr2 := reach_rule hk 1 k2 fl2 cr2 S2 A2 C2 dd2 (by rfl) rfl
  obtain ⟨k3, fl3, cr3, S3, A3, C3, aa3, n3, c3, dd3, rfl, rfl⟩ := open_rule (hval 2 53 v3 rfl rfl) a3
  have hr3 := reach_rule hk 2 k3 fl3 cr3 S3 A3 C3 dd3 (by rfl) rfl
  clear hA0
  refine (rulesApart_walk s1 k2 fl2 cr2 S2 A2 C2 aa2 n2 c2 k3 fl3 cr3 S3 A3 C3 aa3 n3 c3 W (reach_string hk 0 9 s1 (by rfl) rfl) hr2.1 hr2.2.1 hr3.1 hr3.2.1).mono fun e W' ⟨he, hbl⟩ => ?_
  subst he
  exact ⟨_, rfl, law_post laidOut (by rw [Try.params15]; kernel_rfl) rfl Try.underlying4 rfl rfl hW0 hbl⟩

set_option maxRecDepth 100000 in
theorem lifted (os : Os) (started : os.Started) (H : Type) (enc : TypeId × Value → H) :
    ReturnsInHanded {} Try.checked os 15 .any (Rows.rulesApartSpec.pre6 enc Try.prog Try.f15 Rows.rulesApartRow.domain false) (Rows.rulesApartSpec.post enc Try.prog Try.f15 false true false false) := by
  refine returnsInHanded_of_change_sized (C := Try.checked) own started (by kernel_rfl) Try.func15
    (ChangeSpec.witness6 (enc := enc) (C := Try.checked) false ⟨#[], #[.string .empty, .agg #[.int .i64 0, .int .u16 0, .bool false, .string .empty, .string .empty, .string .empty, .slice none 0 0], .agg #[.int .i64 0, .int .u16 0, .bool false, .string .empty, .string .empty, .string .empty, .slice none 0 0]], []⟩ 8 (by kernel_rfl) (by kernel_rfl) (by kernel_rfl) (by kernel_rfl)) ?_
  intro W base args ds gs before hval hW _ hk _
  exact contract H enc W base args ds gs before hval hW hk

theorem proved : Rows.RulesApartSaid :=
  OpenClaim.holds_of_wide 15 Try.f15 rfl rfl rfl rfl rfl rfl rfl ⟨rfl, rfl, rfl, rfl, rfl⟩ rfl rfl rfl rfl rfl (by kernel_rfl) Try.func15 (by kernel_rfl)
    (of_decide_eq_true (by kernel_rfl)) (by unfold Func.isWrapper; first | (rw [if_pos (by decide +kernel)]; kernel_rfl) | (rw [if_neg (by decide +kernel)]; exact ⟨rfl, rfl⟩))
    (fun os started H enc _ => lifted os started H enc)
end Go.Proofs.Ytpckcapilhfpcaa.lawRulesApart
