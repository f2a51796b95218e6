/-
  No cell of these rows narrows 'for every input' (looked for: loops, veiled, ifaces, maps, wideKeys, modest, calm, conditions, laid).
  DERIVED. THE GIVEN ROWS OF THIS SEAT. 9 by the template 'for every input the law returns true; each argument reads behind the call as it read before'; 0 by the template 'total and deterministic' (their statements: YtanikiheenhaeaaTotals.lean).
  GIVEN WITH THE SEED: the statements are not yours to turn. If you find one false, say at which input.
  Laid BY PROGRAM, IN A SANDBOX (cutbox-rows.mjs): the forced cells as the released guide's own fill.sh prints them over the translation 9c40c2d5f91f9a36… (all of the seat's roots in one cut). By AI agents, Wed Nov 11 2026. No macro, syntax, notation, axiom, sorry.
-/
import Derived.Test.YtanikiheenhaeaaChecked
import GoSem.Claim
import GoSem.ClaimJoined
import GoSem.ClaimMapViews
import Derived.JoinedTies
import Derived.KernelRfl
namespace Go.Proofs.Ytanikiheenhaeaa
/- THE CELL 'sum', in the pinned program and in every row, IS THE sha256 OF THE DUMP (.gsa) THAT YtanikiheenhaeaaProg.lean LOADS. Nothing in Lean hashes anything: it is a label: what it is worth is what the hold of that sum in a sandbox is worth. -/
noncomputable def Try.pinned : Pinned := { name := "ytanikiheenhaeaa", sum := "9c40c2d5f91f9a369293faa2d071d0e2cae2c097b8e2e7111774f05ab0c92a41", checked := Try.checked }
namespace Rows
def none {H : Type} : Left H := { results := [], args := [] }

/-- 'hornbooklaw02.WordsCommons': WHATEVER THE INPUT: true; the input reads as it did. -/
def wordsCommonsSpec : ChangeSpec := { name := "wordsCommons", fn := fun _ => fun
  | [d1, d2] => { results := [.lit (.bool true)], args := [d1, d2] }
  | _ => none }
def wordsCommonsRow : OpenClaim := { program := "ytanikiheenhaeaa", sum := "9c40c2d5f91f9a369293faa2d071d0e2cae2c097b8e2e7111774f05ab0c92a41", func := "hornbook/hornbooklaw02.WordsCommons", spec := "wordsCommons", apart := false }
def WordsCommonsSaid : Prop := wordsCommonsRow.holds Try.pinned (OpenSpec.ofChange wordsCommonsSpec)

/-- ITS FALSE NEIGHBOUR: 'it returns false'. Refute it at one input. -/
def wordsCommonsWrong : ChangeSpec := { name := "wordsCommons", fn := fun _ => fun
  | [d1, d2] => { results := [.lit (.bool false)], args := [d1, d2] }
  | _ => none }
def WordsCommonsWrongFalsely : Prop := wordsCommonsRow.holds Try.pinned (OpenSpec.ofChange wordsCommonsWrong)

/-- 'hornbooklaw02.WordsTurns': WHATEVER THE INPUT: true; the input reads as it did. -/
def wordsTurnsSpec : ChangeSpec := { name := "wordsTurns", fn := fun _ => fun
  | [d1, d2] => { results := [.lit (.bool true)], args := [d1, d2] }
  | _ => none }
def wordsTurnsRow : OpenClaim := { program := "ytanikiheenhaeaa", sum := "9c40c2d5f91f9a369293faa2d071d0e2cae2c097b8e2e7111774f05ab0c92a41", func := "hornbook/hornbooklaw02.WordsTurns", spec := "wordsTurns", apart := false }
def WordsTurnsSaid : Prop := wordsTurnsRow.holds Try.pinned (OpenSpec.ofChange wordsTurnsSpec)

/-- ITS FALSE NEIGHBOUR: 'it returns false'. Refute it at one input. -/
def wordsTurnsWrong : ChangeSpec := { name := "wordsTurns", fn := fun _ => fun
  | [d1, d2] => { results := [.lit (.bool false)], args := [d1, d2] }
  | _ => none }
def WordsTurnsWrongFalsely : Prop := wordsTurnsRow.holds Try.pinned (OpenSpec.ofChange wordsTurnsWrong)

/-- 'hornbooklaw02.WordsFirst': WHATEVER THE INPUT: true; the input reads as it did. -/
def wordsFirstSpec : ChangeSpec := { name := "wordsFirst", fn := fun _ => fun
  | [d1, d2, d3] => { results := [.lit (.bool true)], args := [d1, d2, d3] }
  | _ => none }
def wordsFirstRow : OpenClaim := { program := "ytanikiheenhaeaa", sum := "9c40c2d5f91f9a369293faa2d071d0e2cae2c097b8e2e7111774f05ab0c92a41", func := "hornbook/hornbooklaw02.WordsFirst", spec := "wordsFirst", apart := false }
def WordsFirstSaid : Prop := wordsFirstRow.holds Try.pinned (OpenSpec.ofChange wordsFirstSpec)

/-- ITS FALSE NEIGHBOUR: 'it returns false'. Refute it at one input. -/
def wordsFirstWrong : ChangeSpec := { name := "wordsFirst", fn := fun _ => fun
  | [d1, d2, d3] => { results := [.lit (.bool false)], args := [d1, d2, d3] }
  | _ => none }
def WordsFirstWrongFalsely : Prop := wordsFirstRow.holds Try.pinned (OpenSpec.ofChange wordsFirstWrong)

/-- 'hornbooklaw02.WordsWrites': WHATEVER THE INPUT: true; the input reads as it did. -/
def wordsWritesSpec : ChangeSpec := { name := "wordsWrites", fn := fun _ => fun
  | [d] => { results := [.lit (.bool true)], args := [d] }
  | _ => none }
def wordsWritesRow : OpenClaim := { program := "ytanikiheenhaeaa", sum := "9c40c2d5f91f9a369293faa2d071d0e2cae2c097b8e2e7111774f05ab0c92a41", func := "hornbook/hornbooklaw02.WordsWrites", spec := "wordsWrites", inPlace := ["internal/abi.NoEscape"], apart := false }
def WordsWritesSaid : Prop := wordsWritesRow.holds Try.pinned (OpenSpec.ofChange wordsWritesSpec)

/-- ITS FALSE NEIGHBOUR: 'it returns false'. Refute it at one input. -/
def wordsWritesWrong : ChangeSpec := { name := "wordsWrites", fn := fun _ => fun
  | [d] => { results := [.lit (.bool false)], args := [d] }
  | _ => none }
def WordsWritesWrongFalsely : Prop := wordsWritesRow.holds Try.pinned (OpenSpec.ofChange wordsWritesWrong)

/-- 'hornbooklaw02.WordsLetters': WHATEVER THE INPUT: true; the input reads as it did. -/
def wordsLettersSpec : ChangeSpec := { name := "wordsLetters", fn := fun _ => fun
  | [d] => { results := [.lit (.bool true)], args := [d] }
  | _ => none }
def wordsLettersRow : OpenClaim := { program := "ytanikiheenhaeaa", sum := "9c40c2d5f91f9a369293faa2d071d0e2cae2c097b8e2e7111774f05ab0c92a41", func := "hornbook/hornbooklaw02.WordsLetters", spec := "wordsLetters", inPlace := ["internal/abi.NoEscape"], apart := false }
def WordsLettersSaid : Prop := wordsLettersRow.holds Try.pinned (OpenSpec.ofChange wordsLettersSpec)

/-- ITS FALSE NEIGHBOUR: 'it returns false'. Refute it at one input. -/
def wordsLettersWrong : ChangeSpec := { name := "wordsLetters", fn := fun _ => fun
  | [d] => { results := [.lit (.bool false)], args := [d] }
  | _ => none }
def WordsLettersWrongFalsely : Prop := wordsLettersRow.holds Try.pinned (OpenSpec.ofChange wordsLettersWrong)

/-- 'hornbooklaw02.WordsOnce': WHATEVER THE INPUT: true; the input reads as it did. -/
def wordsOnceSpec : ChangeSpec := { name := "wordsOnce", fn := fun _ => fun
  | [d] => { results := [.lit (.bool true)], args := [d] }
  | _ => none }
def wordsOnceRow : OpenClaim := { program := "ytanikiheenhaeaa", sum := "9c40c2d5f91f9a369293faa2d071d0e2cae2c097b8e2e7111774f05ab0c92a41", func := "hornbook/hornbooklaw02.WordsOnce", spec := "wordsOnce", inPlace := ["internal/abi.NoEscape"], apart := false }
def WordsOnceSaid : Prop := wordsOnceRow.holds Try.pinned (OpenSpec.ofChange wordsOnceSpec)

/-- ITS FALSE NEIGHBOUR: 'it returns false'. Refute it at one input. -/
def wordsOnceWrong : ChangeSpec := { name := "wordsOnce", fn := fun _ => fun
  | [d] => { results := [.lit (.bool false)], args := [d] }
  | _ => none }
def WordsOnceWrongFalsely : Prop := wordsOnceRow.holds Try.pinned (OpenSpec.ofChange wordsOnceWrong)

/-- 'hornbooklaw02.WordsValids': WHATEVER THE INPUT: true; the input reads as it did. -/
def wordsValidsSpec : ChangeSpec := { name := "wordsValids", fn := fun _ => fun
  | [d] => { results := [.lit (.bool true)], args := [d] }
  | _ => none }
def wordsValidsRow : OpenClaim := { program := "ytanikiheenhaeaa", sum := "9c40c2d5f91f9a369293faa2d071d0e2cae2c097b8e2e7111774f05ab0c92a41", func := "hornbook/hornbooklaw02.WordsValids", spec := "wordsValids", inPlace := ["internal/abi.NoEscape"], apart := false }
def WordsValidsSaid : Prop := wordsValidsRow.holds Try.pinned (OpenSpec.ofChange wordsValidsSpec)

/-- ITS FALSE NEIGHBOUR: 'it returns false'. Refute it at one input. -/
def wordsValidsWrong : ChangeSpec := { name := "wordsValids", fn := fun _ => fun
  | [d] => { results := [.lit (.bool false)], args := [d] }
  | _ => none }
def WordsValidsWrongFalsely : Prop := wordsValidsRow.holds Try.pinned (OpenSpec.ofChange wordsValidsWrong)

/-- 'hornbooklaw02.WordsReads': WHATEVER THE INPUT: true; the input reads as it did. -/
def wordsReadsSpec : ChangeSpec := { name := "wordsReads", fn := fun _ => fun
  | [d] => { results := [.lit (.bool true)], args := [d] }
  | _ => none }
def wordsReadsRow : OpenClaim := { program := "ytanikiheenhaeaa", sum := "9c40c2d5f91f9a369293faa2d071d0e2cae2c097b8e2e7111774f05ab0c92a41", func := "hornbook/hornbooklaw02.WordsReads", spec := "wordsReads", inPlace := ["internal/abi.NoEscape"], apart := false }
def WordsReadsSaid : Prop := wordsReadsRow.holds Try.pinned (OpenSpec.ofChange wordsReadsSpec)

/-- ITS FALSE NEIGHBOUR: 'it returns false'. Refute it at one input. -/
def wordsReadsWrong : ChangeSpec := { name := "wordsReads", fn := fun _ => fun
  | [d] => { results := [.lit (.bool false)], args := [d] }
  | _ => none }
def WordsReadsWrongFalsely : Prop := wordsReadsRow.holds Try.pinned (OpenSpec.ofChange wordsReadsWrong)

/-- 'hornbooklaw02.WordsBack': WHATEVER THE INPUT: true; the input reads as it did. -/
def wordsBackSpec : ChangeSpec := { name := "wordsBack", fn := fun _ => fun
  | [d1, d2] => { results := [.lit (.bool true)], args := [d1, d2] }
  | _ => none }
def wordsBackRow : OpenClaim := { program := "ytanikiheenhaeaa", sum := "9c40c2d5f91f9a369293faa2d071d0e2cae2c097b8e2e7111774f05ab0c92a41", func := "hornbook/hornbooklaw02.WordsBack", spec := "wordsBack", inPlace := ["internal/abi.NoEscape"], apart := false }
def WordsBackSaid : Prop := wordsBackRow.holds Try.pinned (OpenSpec.ofChange wordsBackSpec)

/-- ITS FALSE NEIGHBOUR: 'it returns false'. Refute it at one input. -/
def wordsBackWrong : ChangeSpec := { name := "wordsBack", fn := fun _ => fun
  | [d1, d2] => { results := [.lit (.bool false)], args := [d1, d2] }
  | _ => none }
def WordsBackWrongFalsely : Prop := wordsBackRow.holds Try.pinned (OpenSpec.ofChange wordsBackWrong)

/- THE SECOND FORM. 'bulk': how many values and letters a reading holds, each counted each time it is reached (what is shared counts as often as it is met; a slice's spare places count too). A statement '..UptoSaid' is the law's where the arguments, and the package variables that the reading takes, are together of bulk at most 1048576: NARROWER than '..Said'. Prove '..Said' where nothing that the law and all that it calls make is longer than what came in: it says more and counts as full. Else prove '..UptoSaid'. A law counts once. -/
mutual
def uptoBulk {H : Type} : DataW H → Nat
  | .lit (.string bytes) => bytes.length + 1
  | .lit _ => 1
  | .nil => 1
  | .ptr d => uptoBulk d + 1
  | .slice elems spare => uptoBulkAll elems + uptoBulkAll spare + 1
  | .agg parts => uptoBulkAll parts + 1
  | .iface _ d => uptoBulk d + 1
  | .map entries => uptoBulkEntries entries + 1
  | .held _ => 1
def uptoBulkAll {H : Type} : List (DataW H) → Nat
  | [] => 0
  | d :: r => uptoBulk d + uptoBulkAll r
def uptoBulkEntries {H : Type} : List (Lit × DataW H) → Nat
  | [] => 0
  | x :: r => uptoBulkEntry x + uptoBulkEntries r
def uptoBulkEntry {H : Type} : Lit × DataW H → Nat
  | (.string bytes, d) => bytes.length + uptoBulk d + 1
  | (_, d) => uptoBulk d + 1
 end
def uptoSmall : (H : Type) → List (DataW H) → Bool := fun _ ds => decide (uptoBulkAll ds ≤ 1048576)
def OpenSpec.upto (s : _root_.Go.ChangeSpec) : _root_.Go.OpenSpec := { _root_.Go.OpenSpec.ofChange s with cond := some uptoSmall }

/-- 'hornbooklaw02.WordsCommons', WHERE WHAT IT READS IS OF BULK AT MOST 1048576: true; the input reads as it did. -/
def wordsCommonsUptoRow : OpenClaim := { program := "ytanikiheenhaeaa", sum := "9c40c2d5f91f9a369293faa2d071d0e2cae2c097b8e2e7111774f05ab0c92a41", func := "hornbook/hornbooklaw02.WordsCommons", spec := "wordsCommons", apart := false, narrowed := true }
def WordsCommonsUptoSaid : Prop := wordsCommonsUptoRow.holds Try.pinned (OpenSpec.upto wordsCommonsSpec)

/-- 'hornbooklaw02.WordsTurns', WHERE WHAT IT READS IS OF BULK AT MOST 1048576: true; the input reads as it did. -/
def wordsTurnsUptoRow : OpenClaim := { program := "ytanikiheenhaeaa", sum := "9c40c2d5f91f9a369293faa2d071d0e2cae2c097b8e2e7111774f05ab0c92a41", func := "hornbook/hornbooklaw02.WordsTurns", spec := "wordsTurns", apart := false, narrowed := true }
def WordsTurnsUptoSaid : Prop := wordsTurnsUptoRow.holds Try.pinned (OpenSpec.upto wordsTurnsSpec)

/-- 'hornbooklaw02.WordsFirst', WHERE WHAT IT READS IS OF BULK AT MOST 1048576: true; the input reads as it did. -/
def wordsFirstUptoRow : OpenClaim := { program := "ytanikiheenhaeaa", sum := "9c40c2d5f91f9a369293faa2d071d0e2cae2c097b8e2e7111774f05ab0c92a41", func := "hornbook/hornbooklaw02.WordsFirst", spec := "wordsFirst", apart := false, narrowed := true }
def WordsFirstUptoSaid : Prop := wordsFirstUptoRow.holds Try.pinned (OpenSpec.upto wordsFirstSpec)

/-- 'hornbooklaw02.WordsWrites', WHERE WHAT IT READS IS OF BULK AT MOST 1048576: true; the input reads as it did. -/
def wordsWritesUptoRow : OpenClaim := { program := "ytanikiheenhaeaa", sum := "9c40c2d5f91f9a369293faa2d071d0e2cae2c097b8e2e7111774f05ab0c92a41", func := "hornbook/hornbooklaw02.WordsWrites", spec := "wordsWrites", inPlace := ["internal/abi.NoEscape"], apart := false, narrowed := true }
def WordsWritesUptoSaid : Prop := wordsWritesUptoRow.holds Try.pinned (OpenSpec.upto wordsWritesSpec)

/-- 'hornbooklaw02.WordsLetters', WHERE WHAT IT READS IS OF BULK AT MOST 1048576: true; the input reads as it did. -/
def wordsLettersUptoRow : OpenClaim := { program := "ytanikiheenhaeaa", sum := "9c40c2d5f91f9a369293faa2d071d0e2cae2c097b8e2e7111774f05ab0c92a41", func := "hornbook/hornbooklaw02.WordsLetters", spec := "wordsLetters", inPlace := ["internal/abi.NoEscape"], apart := false, narrowed := true }
def WordsLettersUptoSaid : Prop := wordsLettersUptoRow.holds Try.pinned (OpenSpec.upto wordsLettersSpec)

/-- 'hornbooklaw02.WordsOnce', WHERE WHAT IT READS IS OF BULK AT MOST 1048576: true; the input reads as it did. -/
def wordsOnceUptoRow : OpenClaim := { program := "ytanikiheenhaeaa", sum := "9c40c2d5f91f9a369293faa2d071d0e2cae2c097b8e2e7111774f05ab0c92a41", func := "hornbook/hornbooklaw02.WordsOnce", spec := "wordsOnce", inPlace := ["internal/abi.NoEscape"], apart := false, narrowed := true }
def WordsOnceUptoSaid : Prop := wordsOnceUptoRow.holds Try.pinned (OpenSpec.upto wordsOnceSpec)

/-- 'hornbooklaw02.WordsValids', WHERE WHAT IT READS IS OF BULK AT MOST 1048576: true; the input reads as it did. -/
def wordsValidsUptoRow : OpenClaim := { program := "ytanikiheenhaeaa", sum := "9c40c2d5f91f9a369293faa2d071d0e2cae2c097b8e2e7111774f05ab0c92a41", func := "hornbook/hornbooklaw02.WordsValids", spec := "wordsValids", inPlace := ["internal/abi.NoEscape"], apart := false, narrowed := true }
def WordsValidsUptoSaid : Prop := wordsValidsUptoRow.holds Try.pinned (OpenSpec.upto wordsValidsSpec)

/-- 'hornbooklaw02.WordsReads', WHERE WHAT IT READS IS OF BULK AT MOST 1048576: true; the input reads as it did. -/
def wordsReadsUptoRow : OpenClaim := { program := "ytanikiheenhaeaa", sum := "9c40c2d5f91f9a369293faa2d071d0e2cae2c097b8e2e7111774f05ab0c92a41", func := "hornbook/hornbooklaw02.WordsReads", spec := "wordsReads", inPlace := ["internal/abi.NoEscape"], apart := false, narrowed := true }
def WordsReadsUptoSaid : Prop := wordsReadsUptoRow.holds Try.pinned (OpenSpec.upto wordsReadsSpec)

/-- 'hornbooklaw02.WordsBack', WHERE WHAT IT READS IS OF BULK AT MOST 1048576: true; the input reads as it did. -/
def wordsBackUptoRow : OpenClaim := { program := "ytanikiheenhaeaa", sum := "9c40c2d5f91f9a369293faa2d071d0e2cae2c097b8e2e7111774f05ab0c92a41", func := "hornbook/hornbooklaw02.WordsBack", spec := "wordsBack", inPlace := ["internal/abi.NoEscape"], apart := false, narrowed := true }
def WordsBackUptoSaid : Prop := wordsBackUptoRow.holds Try.pinned (OpenSpec.upto wordsBackSpec)

end Rows
end Go.Proofs.Ytanikiheenhaeaa
