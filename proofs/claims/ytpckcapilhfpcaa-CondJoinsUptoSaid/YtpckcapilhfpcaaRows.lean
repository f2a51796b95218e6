/-
  No cell of these rows narrows 'for every input' (looked for: loops, veiled, ifaces, maps, wideKeys, modest, calm, conditions, laid).
  DERIVED. THE GIVEN ROWS OF THIS SEAT. 15 by the template 'for every input the law returns true; each argument reads behind the call as it read before'; 0 by the template 'total and deterministic' (their statements: YtpckcapilhfpcaaTotals.lean).
  GIVEN WITH THE SEED: the statements are not yours to turn. If you find one false, say at which input.
  Laid BY PROGRAM, IN A SANDBOX (cutbox-rows.mjs): the forced cells as the released guide's own fill.sh prints them over the translation 4552fbf58d5aef64… (all of the seat's roots in one cut). By AI agents, Wed Nov 11 2026. No macro, syntax, notation, axiom, sorry.
-/
import Derived.Test.YtpckcapilhfpcaaChecked
import GoSem.Claim
import GoSem.ClaimJoined
import GoSem.ClaimMapViews
import Derived.JoinedTies
import Derived.KernelRfl
namespace Go.Proofs.Ytpckcapilhfpcaa
/- THE CELL 'sum', in the pinned program and in every row, IS THE sha256 OF THE DUMP (.gsa) THAT YtpckcapilhfpcaaProg.lean LOADS. Nothing in Lean hashes anything: it is a label: what it is worth is what the hold of that sum in a sandbox is worth. -/
noncomputable def Try.pinned : Pinned := { name := "ytpckcapilhfpcaa", sum := "4552fbf58d5aef6474cdb2148cd575ad80d96c666422f9299e8ee24c1e9ea9bb", checked := Try.checked }
namespace Rows
def none {H : Type} : Left H := { results := [], args := [] }

/-- 'hornbooklaw04.CondReads': WHATEVER THE INPUT: true; the input reads as it did. -/
def condReadsSpec : ChangeSpec := { name := "condReads", fn := fun _ => fun
  | [d] => { results := [.lit (.bool true)], args := [d] }
  | _ => none }
def condReadsRow : OpenClaim := { program := "ytpckcapilhfpcaa", sum := "4552fbf58d5aef6474cdb2148cd575ad80d96c666422f9299e8ee24c1e9ea9bb", func := "hornbook/hornbooklaw04.CondReads", spec := "condReads", inPlace := ["internal/bytealg.IndexByteString"], apart := false }
def CondReadsSaid : Prop := condReadsRow.holds Try.pinned (OpenSpec.ofChange condReadsSpec)

/-- ITS FALSE NEIGHBOUR: 'it returns false'. Refute it at one input. -/
def condReadsWrong : ChangeSpec := { name := "condReads", fn := fun _ => fun
  | [d] => { results := [.lit (.bool false)], args := [d] }
  | _ => none }
def CondReadsWrongFalsely : Prop := condReadsRow.holds Try.pinned (OpenSpec.ofChange condReadsWrong)

/-- 'hornbooklaw04.CondMatches': WHATEVER THE INPUT: true; the input reads as it did. -/
def condMatchesSpec : ChangeSpec := { name := "condMatches", fn := fun _ => fun
  | [d1, d2] => { results := [.lit (.bool true)], args := [d1, d2] }
  | _ => none }
def condMatchesRow : OpenClaim := { program := "ytpckcapilhfpcaa", sum := "4552fbf58d5aef6474cdb2148cd575ad80d96c666422f9299e8ee24c1e9ea9bb", func := "hornbook/hornbooklaw04.CondMatches", spec := "condMatches", inPlace := ["internal/bytealg.IndexByteString"], apart := false }
def CondMatchesSaid : Prop := condMatchesRow.holds Try.pinned (OpenSpec.ofChange condMatchesSpec)

/-- ITS FALSE NEIGHBOUR: 'it returns false'. Refute it at one input. -/
def condMatchesWrong : ChangeSpec := { name := "condMatches", fn := fun _ => fun
  | [d1, d2] => { results := [.lit (.bool false)], args := [d1, d2] }
  | _ => none }
def CondMatchesWrongFalsely : Prop := condMatchesRow.holds Try.pinned (OpenSpec.ofChange condMatchesWrong)

/-- 'hornbooklaw04.CondLiteral': WHATEVER THE INPUT: true; the input reads as it did. -/
def condLiteralSpec : ChangeSpec := { name := "condLiteral", fn := fun _ => fun
  | [d1, d2] => { results := [.lit (.bool true)], args := [d1, d2] }
  | _ => none }
def condLiteralRow : OpenClaim := { program := "ytpckcapilhfpcaa", sum := "4552fbf58d5aef6474cdb2148cd575ad80d96c666422f9299e8ee24c1e9ea9bb", func := "hornbook/hornbooklaw04.CondLiteral", spec := "condLiteral", inPlace := ["internal/bytealg.IndexByteString"], apart := false }
def CondLiteralSaid : Prop := condLiteralRow.holds Try.pinned (OpenSpec.ofChange condLiteralSpec)

/-- ITS FALSE NEIGHBOUR: 'it returns false'. Refute it at one input. -/
def condLiteralWrong : ChangeSpec := { name := "condLiteral", fn := fun _ => fun
  | [d1, d2] => { results := [.lit (.bool false)], args := [d1, d2] }
  | _ => none }
def CondLiteralWrongFalsely : Prop := condLiteralRow.holds Try.pinned (OpenSpec.ofChange condLiteralWrong)

/-- 'hornbooklaw04.CondParts': WHATEVER THE INPUT: true; the input reads as it did. -/
def condPartsSpec : ChangeSpec := { name := "condParts", fn := fun _ => fun
  | [d1, d2, d3] => { results := [.lit (.bool true)], args := [d1, d2, d3] }
  | _ => none }
def condPartsRow : OpenClaim := { program := "ytpckcapilhfpcaa", sum := "4552fbf58d5aef6474cdb2148cd575ad80d96c666422f9299e8ee24c1e9ea9bb", func := "hornbook/hornbooklaw04.CondParts", spec := "condParts", inPlace := ["internal/bytealg.IndexByteString"], apart := false }
def CondPartsSaid : Prop := condPartsRow.holds Try.pinned (OpenSpec.ofChange condPartsSpec)

/-- ITS FALSE NEIGHBOUR: 'it returns false'. Refute it at one input. -/
def condPartsWrong : ChangeSpec := { name := "condParts", fn := fun _ => fun
  | [d1, d2, d3] => { results := [.lit (.bool false)], args := [d1, d2, d3] }
  | _ => none }
def CondPartsWrongFalsely : Prop := condPartsRow.holds Try.pinned (OpenSpec.ofChange condPartsWrong)

/-- 'hornbooklaw04.CondEquals': WHATEVER THE INPUT: true; the input reads as it did. -/
def condEqualsSpec : ChangeSpec := { name := "condEquals", fn := fun _ => fun
  | [d1, d2] => { results := [.lit (.bool true)], args := [d1, d2] }
  | _ => none }
def condEqualsRow : OpenClaim := { program := "ytpckcapilhfpcaa", sum := "4552fbf58d5aef6474cdb2148cd575ad80d96c666422f9299e8ee24c1e9ea9bb", func := "hornbook/hornbooklaw04.CondEquals", spec := "condEquals", inPlace := ["internal/bytealg.IndexByteString"], apart := false }
def CondEqualsSaid : Prop := condEqualsRow.holds Try.pinned (OpenSpec.ofChange condEqualsSpec)

/-- ITS FALSE NEIGHBOUR: 'it returns false'. Refute it at one input. -/
def condEqualsWrong : ChangeSpec := { name := "condEquals", fn := fun _ => fun
  | [d1, d2] => { results := [.lit (.bool false)], args := [d1, d2] }
  | _ => none }
def CondEqualsWrongFalsely : Prop := condEqualsRow.holds Try.pinned (OpenSpec.ofChange condEqualsWrong)

/-- 'hornbooklaw04.CondShows': WHATEVER THE INPUT: true; the input reads as it did. -/
def condShowsSpec : ChangeSpec := { name := "condShows", fn := fun _ => fun
  | [d] => { results := [.lit (.bool true)], args := [d] }
  | _ => none }
def condShowsRow : OpenClaim := { program := "ytpckcapilhfpcaa", sum := "4552fbf58d5aef6474cdb2148cd575ad80d96c666422f9299e8ee24c1e9ea9bb", func := "hornbook/hornbooklaw04.CondShows", spec := "condShows", inPlace := ["internal/bytealg.IndexByteString"], apart := false }
def CondShowsSaid : Prop := condShowsRow.holds Try.pinned (OpenSpec.ofChange condShowsSpec)

/-- ITS FALSE NEIGHBOUR: 'it returns false'. Refute it at one input. -/
def condShowsWrong : ChangeSpec := { name := "condShows", fn := fun _ => fun
  | [d] => { results := [.lit (.bool false)], args := [d] }
  | _ => none }
def CondShowsWrongFalsely : Prop := condShowsRow.holds Try.pinned (OpenSpec.ofChange condShowsWrong)

/-- 'hornbooklaw04.CondJoins': WHATEVER THE INPUT: true; the input reads as it did. -/
def condJoinsSpec : ChangeSpec := { name := "condJoins", fn := fun _ => fun
  | [d] => { results := [.lit (.bool true)], args := [d] }
  | _ => none }
def condJoinsRow : OpenClaim := { program := "ytpckcapilhfpcaa", sum := "4552fbf58d5aef6474cdb2148cd575ad80d96c666422f9299e8ee24c1e9ea9bb", func := "hornbook/hornbooklaw04.CondJoins", spec := "condJoins", inPlace := ["internal/bytealg.IndexByteString"], apart := false }
def CondJoinsSaid : Prop := condJoinsRow.holds Try.pinned (OpenSpec.ofChange condJoinsSpec)

/-- ITS FALSE NEIGHBOUR: 'it returns false'. Refute it at one input. -/
def condJoinsWrong : ChangeSpec := { name := "condJoins", fn := fun _ => fun
  | [d] => { results := [.lit (.bool false)], args := [d] }
  | _ => none }
def CondJoinsWrongFalsely : Prop := condJoinsRow.holds Try.pinned (OpenSpec.ofChange condJoinsWrong)

/-- 'hornbooklaw04.CondBack': WHATEVER THE INPUT: true; the input reads as it did. -/
def condBackSpec : ChangeSpec := { name := "condBack", fn := fun _ => fun
  | [d1, d2] => { results := [.lit (.bool true)], args := [d1, d2] }
  | _ => none }
def condBackRow : OpenClaim := { program := "ytpckcapilhfpcaa", sum := "4552fbf58d5aef6474cdb2148cd575ad80d96c666422f9299e8ee24c1e9ea9bb", func := "hornbook/hornbooklaw04.CondBack", spec := "condBack", inPlace := ["internal/bytealg.IndexByteString"], apart := false }
def CondBackSaid : Prop := condBackRow.holds Try.pinned (OpenSpec.ofChange condBackSpec)

/-- ITS FALSE NEIGHBOUR: 'it returns false'. Refute it at one input. -/
def condBackWrong : ChangeSpec := { name := "condBack", fn := fun _ => fun
  | [d1, d2] => { results := [.lit (.bool false)], args := [d1, d2] }
  | _ => none }
def CondBackWrongFalsely : Prop := condBackRow.holds Try.pinned (OpenSpec.ofChange condBackWrong)

/-- 'hornbooklaw15.RulesApply': WHATEVER THE INPUT: true; the input reads as it did. -/
def rulesApplySpec : ChangeSpec := { name := "rulesApply", fn := fun _ => fun
  | [d1, d2] => { results := [.lit (.bool true)], args := [d1, d2] }
  | _ => none }
def rulesApplyRow : OpenClaim := { program := "ytpckcapilhfpcaa", sum := "4552fbf58d5aef6474cdb2148cd575ad80d96c666422f9299e8ee24c1e9ea9bb", func := "hornbook/hornbooklaw15.RulesApply", spec := "rulesApply", inPlace := ["internal/bytealg.IndexByteString"], apart := false }
def RulesApplySaid : Prop := rulesApplyRow.holds Try.pinned (OpenSpec.ofChange rulesApplySpec)

/-- ITS FALSE NEIGHBOUR: 'it returns false'. Refute it at one input. -/
def rulesApplyWrong : ChangeSpec := { name := "rulesApply", fn := fun _ => fun
  | [d1, d2] => { results := [.lit (.bool false)], args := [d1, d2] }
  | _ => none }
def RulesApplyWrongFalsely : Prop := rulesApplyRow.holds Try.pinned (OpenSpec.ofChange rulesApplyWrong)

/-- 'hornbooklaw15.RulesUndo': WHATEVER THE INPUT: true; the input reads as it did. -/
def rulesUndoSpec : ChangeSpec := { name := "rulesUndo", fn := fun _ => fun
  | [d1, d2] => { results := [.lit (.bool true)], args := [d1, d2] }
  | _ => none }
def rulesUndoRow : OpenClaim := { program := "ytpckcapilhfpcaa", sum := "4552fbf58d5aef6474cdb2148cd575ad80d96c666422f9299e8ee24c1e9ea9bb", func := "hornbook/hornbooklaw15.RulesUndo", spec := "rulesUndo", inPlace := ["internal/bytealg.IndexByteString"], apart := false }
def RulesUndoSaid : Prop := rulesUndoRow.holds Try.pinned (OpenSpec.ofChange rulesUndoSpec)

/-- ITS FALSE NEIGHBOUR: 'it returns false'. Refute it at one input. -/
def rulesUndoWrong : ChangeSpec := { name := "rulesUndo", fn := fun _ => fun
  | [d1, d2] => { results := [.lit (.bool false)], args := [d1, d2] }
  | _ => none }
def RulesUndoWrongFalsely : Prop := rulesUndoRow.holds Try.pinned (OpenSpec.ofChange rulesUndoWrong)

/-- 'hornbooklaw15.RulesBack': WHATEVER THE INPUT: true; the input reads as it did. -/
def rulesBackSpec : ChangeSpec := { name := "rulesBack", fn := fun _ => fun
  | [d1, d2] => { results := [.lit (.bool true)], args := [d1, d2] }
  | _ => none }
def rulesBackRow : OpenClaim := { program := "ytpckcapilhfpcaa", sum := "4552fbf58d5aef6474cdb2148cd575ad80d96c666422f9299e8ee24c1e9ea9bb", func := "hornbook/hornbooklaw15.RulesBack", spec := "rulesBack", inPlace := ["internal/bytealg.IndexByteString"], apart := false }
def RulesBackSaid : Prop := rulesBackRow.holds Try.pinned (OpenSpec.ofChange rulesBackSpec)

/-- ITS FALSE NEIGHBOUR: 'it returns false'. Refute it at one input. -/
def rulesBackWrong : ChangeSpec := { name := "rulesBack", fn := fun _ => fun
  | [d1, d2] => { results := [.lit (.bool false)], args := [d1, d2] }
  | _ => none }
def RulesBackWrongFalsely : Prop := rulesBackRow.holds Try.pinned (OpenSpec.ofChange rulesBackWrong)

/-- 'hornbooklaw15.RulesChain': WHATEVER THE INPUT: true; the input reads as it did. -/
def rulesChainSpec : ChangeSpec := { name := "rulesChain", fn := fun _ => fun
  | [d1, d2] => { results := [.lit (.bool true)], args := [d1, d2] }
  | _ => none }
def rulesChainRow : OpenClaim := { program := "ytpckcapilhfpcaa", sum := "4552fbf58d5aef6474cdb2148cd575ad80d96c666422f9299e8ee24c1e9ea9bb", func := "hornbook/hornbooklaw15.RulesChain", spec := "rulesChain", inPlace := ["internal/bytealg.IndexByteString"], unfollowed := true, recurses := true, apart := false }
def RulesChainSaid : Prop := rulesChainRow.holds Try.pinned (OpenSpec.ofChange rulesChainSpec)

/-- ITS FALSE NEIGHBOUR: 'it returns false'. Refute it at one input. -/
def rulesChainWrong : ChangeSpec := { name := "rulesChain", fn := fun _ => fun
  | [d1, d2] => { results := [.lit (.bool false)], args := [d1, d2] }
  | _ => none }
def RulesChainWrongFalsely : Prop := rulesChainRow.holds Try.pinned (OpenSpec.ofChange rulesChainWrong)

/-- 'hornbooklaw15.RulesApart': WHATEVER THE INPUT: true; the input reads as it did. -/
def rulesApartSpec : ChangeSpec := { name := "rulesApart", fn := fun _ => fun
  | [d1, d2, d3] => { results := [.lit (.bool true)], args := [d1, d2, d3] }
  | _ => none }
def rulesApartRow : OpenClaim := { program := "ytpckcapilhfpcaa", sum := "4552fbf58d5aef6474cdb2148cd575ad80d96c666422f9299e8ee24c1e9ea9bb", func := "hornbook/hornbooklaw15.RulesApart", spec := "rulesApart", inPlace := ["internal/bytealg.IndexByteString"], unfollowed := true, recurses := true, apart := false }
def RulesApartSaid : Prop := rulesApartRow.holds Try.pinned (OpenSpec.ofChange rulesApartSpec)

/-- ITS FALSE NEIGHBOUR: 'it returns false'. Refute it at one input. -/
def rulesApartWrong : ChangeSpec := { name := "rulesApart", fn := fun _ => fun
  | [d1, d2, d3] => { results := [.lit (.bool false)], args := [d1, d2, d3] }
  | _ => none }
def RulesApartWrongFalsely : Prop := rulesApartRow.holds Try.pinned (OpenSpec.ofChange rulesApartWrong)

/-- 'hornbooklaw15.RulesPeel': WHATEVER THE INPUT: true; the input reads as it did. -/
def rulesPeelSpec : ChangeSpec := { name := "rulesPeel", fn := fun _ => fun
  | [d1, d2] => { results := [.lit (.bool true)], args := [d1, d2] }
  | _ => none }
def rulesPeelRow : OpenClaim := { program := "ytpckcapilhfpcaa", sum := "4552fbf58d5aef6474cdb2148cd575ad80d96c666422f9299e8ee24c1e9ea9bb", func := "hornbook/hornbooklaw15.RulesPeel", spec := "rulesPeel", inPlace := ["internal/bytealg.IndexByteString"], unfollowed := true, recurses := true, apart := false }
def RulesPeelSaid : Prop := rulesPeelRow.holds Try.pinned (OpenSpec.ofChange rulesPeelSpec)

/-- ITS FALSE NEIGHBOUR: 'it returns false'. Refute it at one input. -/
def rulesPeelWrong : ChangeSpec := { name := "rulesPeel", fn := fun _ => fun
  | [d1, d2] => { results := [.lit (.bool false)], args := [d1, d2] }
  | _ => none }
def RulesPeelWrongFalsely : Prop := rulesPeelRow.holds Try.pinned (OpenSpec.ofChange rulesPeelWrong)

/-- 'hornbooklaw15.RulesBoth': WHATEVER THE INPUT: true; the input reads as it did. -/
def rulesBothSpec : ChangeSpec := { name := "rulesBoth", fn := fun _ => fun
  | [d1, d2, d3] => { results := [.lit (.bool true)], args := [d1, d2, d3] }
  | _ => none }
def rulesBothRow : OpenClaim := { program := "ytpckcapilhfpcaa", sum := "4552fbf58d5aef6474cdb2148cd575ad80d96c666422f9299e8ee24c1e9ea9bb", func := "hornbook/hornbooklaw15.RulesBoth", spec := "rulesBoth", inPlace := ["internal/bytealg.IndexByteString"], unfollowed := true, recurses := true, apart := false }
def RulesBothSaid : Prop := rulesBothRow.holds Try.pinned (OpenSpec.ofChange rulesBothSpec)

/-- ITS FALSE NEIGHBOUR: 'it returns false'. Refute it at one input. -/
def rulesBothWrong : ChangeSpec := { name := "rulesBoth", fn := fun _ => fun
  | [d1, d2, d3] => { results := [.lit (.bool false)], args := [d1, d2, d3] }
  | _ => none }
def RulesBothWrongFalsely : Prop := rulesBothRow.holds Try.pinned (OpenSpec.ofChange rulesBothWrong)

/- THE SECOND FORM. 'bulk': how many values and letters a reading holds, each counted each time it is reached (what is shared counts as often as it is met; a slice's spare places count too). A statement '..UptoSaid' is the law's where the arguments, and the package variables that the reading takes, are together of bulk at most 1048576: NARROWER than '..Said'. Prove '..Said' where nothing that the law and all that it calls make is longer than what came in: it says more and counts as full. Else prove '..UptoSaid'. A law counts once. -/
mutual
def uptoBulk {H : Type} : DataW H → Nat
  | .lit (.string bytes) => bytes.length + 1
  | .lit _ => 1
  | .nil => 1
  | .ptr d => uptoBulk d + 1
  | .slice elems spare => uptoBulkAll elems + uptoBulkAll spare + 1
  | .agg parts => uptoBulkAll parts + 1
  | .iface _ d => uptoBulk d + 1
  | .map entries => uptoBulkEntries entries + 1
  | .held _ => 1
def uptoBulkAll {H : Type} : List (DataW H) → Nat
  | [] => 0
  | d :: r => uptoBulk d + uptoBulkAll r
def uptoBulkEntries {H : Type} : List (Lit × DataW H) → Nat
  | [] => 0
  | x :: r => uptoBulkEntry x + uptoBulkEntries r
def uptoBulkEntry {H : Type} : Lit × DataW H → Nat
  | (.string bytes, d) => bytes.length + uptoBulk d + 1
  | (_, d) => uptoBulk d + 1
 end
def uptoSmall : (H : Type) → List (DataW H) → Bool := fun _ ds => decide (uptoBulkAll ds ≤ 1048576)
def OpenSpec.upto (s : _root_.Go.ChangeSpec) : _root_.Go.OpenSpec := { _root_.Go.OpenSpec.ofChange s with cond := some uptoSmall }

/-- 'hornbooklaw04.CondReads', WHERE WHAT IT READS IS OF BULK AT MOST 1048576: true; the input reads as it did. -/
def condReadsUptoRow : OpenClaim := { program := "ytpckcapilhfpcaa", sum := "4552fbf58d5aef6474cdb2148cd575ad80d96c666422f9299e8ee24c1e9ea9bb", func := "hornbook/hornbooklaw04.CondReads", spec := "condReads", inPlace := ["internal/bytealg.IndexByteString"], apart := false, narrowed := true }
def CondReadsUptoSaid : Prop := condReadsUptoRow.holds Try.pinned (OpenSpec.upto condReadsSpec)

/-- 'hornbooklaw04.CondMatches', WHERE WHAT IT READS IS OF BULK AT MOST 1048576: true; the input reads as it did. -/
def condMatchesUptoRow : OpenClaim := { program := "ytpckcapilhfpcaa", sum := "4552fbf58d5aef6474cdb2148cd575ad80d96c666422f9299e8ee24c1e9ea9bb", func := "hornbook/hornbooklaw04.CondMatches", spec := "condMatches", inPlace := ["internal/bytealg.IndexByteString"], apart := false, narrowed := true }
def CondMatchesUptoSaid : Prop := condMatchesUptoRow.holds Try.pinned (OpenSpec.upto condMatchesSpec)

/-- 'hornbooklaw04.CondLiteral', WHERE WHAT IT READS IS OF BULK AT MOST 1048576: true; the input reads as it did. -/
def condLiteralUptoRow : OpenClaim := { program := "ytpckcapilhfpcaa", sum := "4552fbf58d5aef6474cdb2148cd575ad80d96c666422f9299e8ee24c1e9ea9bb", func := "hornbook/hornbooklaw04.CondLiteral", spec := "condLiteral", inPlace := ["internal/bytealg.IndexByteString"], apart := false, narrowed := true }
def CondLiteralUptoSaid : Prop := condLiteralUptoRow.holds Try.pinned (OpenSpec.upto condLiteralSpec)

/-- 'hornbooklaw04.CondParts', WHERE WHAT IT READS IS OF BULK AT MOST 1048576: true; the input reads as it did. -/
def condPartsUptoRow : OpenClaim := { program := "ytpckcapilhfpcaa", sum := "4552fbf58d5aef6474cdb2148cd575ad80d96c666422f9299e8ee24c1e9ea9bb", func := "hornbook/hornbooklaw04.CondParts", spec := "condParts", inPlace := ["internal/bytealg.IndexByteString"], apart := false, narrowed := true }
def CondPartsUptoSaid : Prop := condPartsUptoRow.holds Try.pinned (OpenSpec.upto condPartsSpec)

/-- 'hornbooklaw04.CondEquals', WHERE WHAT IT READS IS OF BULK AT MOST 1048576: true; the input reads as it did. -/
def condEqualsUptoRow : OpenClaim := { program := "ytpckcapilhfpcaa", sum := "4552fbf58d5aef6474cdb2148cd575ad80d96c666422f9299e8ee24c1e9ea9bb", func := "hornbook/hornbooklaw04.CondEquals", spec := "condEquals", inPlace := ["internal/bytealg.IndexByteString"], apart := false, narrowed := true }
def CondEqualsUptoSaid : Prop := condEqualsUptoRow.holds Try.pinned (OpenSpec.upto condEqualsSpec)

/-- 'hornbooklaw04.CondShows', WHERE WHAT IT READS IS OF BULK AT MOST 1048576: true; the input reads as it did. -/
def condShowsUptoRow : OpenClaim := { program := "ytpckcapilhfpcaa", sum := "4552fbf58d5aef6474cdb2148cd575ad80d96c666422f9299e8ee24c1e9ea9bb", func := "hornbook/hornbooklaw04.CondShows", spec := "condShows", inPlace := ["internal/bytealg.IndexByteString"], apart := false, narrowed := true }
def CondShowsUptoSaid : Prop := condShowsUptoRow.holds Try.pinned (OpenSpec.upto condShowsSpec)

/-- 'hornbooklaw04.CondJoins', WHERE WHAT IT READS IS OF BULK AT MOST 1048576: true; the input reads as it did. -/
def condJoinsUptoRow : OpenClaim := { program := "ytpckcapilhfpcaa", sum := "4552fbf58d5aef6474cdb2148cd575ad80d96c666422f9299e8ee24c1e9ea9bb", func := "hornbook/hornbooklaw04.CondJoins", spec := "condJoins", inPlace := ["internal/bytealg.IndexByteString"], apart := false, narrowed := true }
def CondJoinsUptoSaid : Prop := condJoinsUptoRow.holds Try.pinned (OpenSpec.upto condJoinsSpec)

/-- 'hornbooklaw04.CondBack', WHERE WHAT IT READS IS OF BULK AT MOST 1048576: true; the input reads as it did. -/
def condBackUptoRow : OpenClaim := { program := "ytpckcapilhfpcaa", sum := "4552fbf58d5aef6474cdb2148cd575ad80d96c666422f9299e8ee24c1e9ea9bb", func := "hornbook/hornbooklaw04.CondBack", spec := "condBack", inPlace := ["internal/bytealg.IndexByteString"], apart := false, narrowed := true }
def CondBackUptoSaid : Prop := condBackUptoRow.holds Try.pinned (OpenSpec.upto condBackSpec)

/-- 'hornbooklaw15.RulesApply', WHERE WHAT IT READS IS OF BULK AT MOST 1048576: true; the input reads as it did. -/
def rulesApplyUptoRow : OpenClaim := { program := "ytpckcapilhfpcaa", sum := "4552fbf58d5aef6474cdb2148cd575ad80d96c666422f9299e8ee24c1e9ea9bb", func := "hornbook/hornbooklaw15.RulesApply", spec := "rulesApply", inPlace := ["internal/bytealg.IndexByteString"], apart := false, narrowed := true }
def RulesApplyUptoSaid : Prop := rulesApplyUptoRow.holds Try.pinned (OpenSpec.upto rulesApplySpec)

/-- 'hornbooklaw15.RulesUndo', WHERE WHAT IT READS IS OF BULK AT MOST 1048576: true; the input reads as it did. -/
def rulesUndoUptoRow : OpenClaim := { program := "ytpckcapilhfpcaa", sum := "4552fbf58d5aef6474cdb2148cd575ad80d96c666422f9299e8ee24c1e9ea9bb", func := "hornbook/hornbooklaw15.RulesUndo", spec := "rulesUndo", inPlace := ["internal/bytealg.IndexByteString"], apart := false, narrowed := true }
def RulesUndoUptoSaid : Prop := rulesUndoUptoRow.holds Try.pinned (OpenSpec.upto rulesUndoSpec)

/-- 'hornbooklaw15.RulesBack', WHERE WHAT IT READS IS OF BULK AT MOST 1048576: true; the input reads as it did. -/
def rulesBackUptoRow : OpenClaim := { program := "ytpckcapilhfpcaa", sum := "4552fbf58d5aef6474cdb2148cd575ad80d96c666422f9299e8ee24c1e9ea9bb", func := "hornbook/hornbooklaw15.RulesBack", spec := "rulesBack", inPlace := ["internal/bytealg.IndexByteString"], apart := false, narrowed := true }
def RulesBackUptoSaid : Prop := rulesBackUptoRow.holds Try.pinned (OpenSpec.upto rulesBackSpec)

/-- 'hornbooklaw15.RulesChain', WHERE WHAT IT READS IS OF BULK AT MOST 1048576: true; the input reads as it did. -/
def rulesChainUptoRow : OpenClaim := { program := "ytpckcapilhfpcaa", sum := "4552fbf58d5aef6474cdb2148cd575ad80d96c666422f9299e8ee24c1e9ea9bb", func := "hornbook/hornbooklaw15.RulesChain", spec := "rulesChain", inPlace := ["internal/bytealg.IndexByteString"], unfollowed := true, recurses := true, apart := false, narrowed := true }
def RulesChainUptoSaid : Prop := rulesChainUptoRow.holds Try.pinned (OpenSpec.upto rulesChainSpec)

/-- 'hornbooklaw15.RulesApart', WHERE WHAT IT READS IS OF BULK AT MOST 1048576: true; the input reads as it did. -/
def rulesApartUptoRow : OpenClaim := { program := "ytpckcapilhfpcaa", sum := "4552fbf58d5aef6474cdb2148cd575ad80d96c666422f9299e8ee24c1e9ea9bb", func := "hornbook/hornbooklaw15.RulesApart", spec := "rulesApart", inPlace := ["internal/bytealg.IndexByteString"], unfollowed := true, recurses := true, apart := false, narrowed := true }
def RulesApartUptoSaid : Prop := rulesApartUptoRow.holds Try.pinned (OpenSpec.upto rulesApartSpec)

/-- 'hornbooklaw15.RulesPeel', WHERE WHAT IT READS IS OF BULK AT MOST 1048576: true; the input reads as it did. -/
def rulesPeelUptoRow : OpenClaim := { program := "ytpckcapilhfpcaa", sum := "4552fbf58d5aef6474cdb2148cd575ad80d96c666422f9299e8ee24c1e9ea9bb", func := "hornbook/hornbooklaw15.RulesPeel", spec := "rulesPeel", inPlace := ["internal/bytealg.IndexByteString"], unfollowed := true, recurses := true, apart := false, narrowed := true }
def RulesPeelUptoSaid : Prop := rulesPeelUptoRow.holds Try.pinned (OpenSpec.upto rulesPeelSpec)

/-- 'hornbooklaw15.RulesBoth', WHERE WHAT IT READS IS OF BULK AT MOST 1048576: true; the input reads as it did. -/
def rulesBothUptoRow : OpenClaim := { program := "ytpckcapilhfpcaa", sum := "4552fbf58d5aef6474cdb2148cd575ad80d96c666422f9299e8ee24c1e9ea9bb", func := "hornbook/hornbooklaw15.RulesBoth", spec := "rulesBoth", inPlace := ["internal/bytealg.IndexByteString"], unfollowed := true, recurses := true, apart := false, narrowed := true }
def RulesBothUptoSaid : Prop := rulesBothUptoRow.holds Try.pinned (OpenSpec.upto rulesBothSpec)

end Rows
end Go.Proofs.Ytpckcapilhfpcaa
