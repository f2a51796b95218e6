/-
  DERIVED. GIVEN WITH THE SEED: THE CARDS: each row of YtabdiabdbomlnaaGreatDoorRows.lean that lists a variable, with what it lists TIED to the program's text (the seventh form; the later family's looks); each row that meets fmt, with fmt's text TOLD by the authors' own Lean function (tested against real Go, not proved from fmt's source: count such statements apart). THE CARD IS WHAT COUNTS. Prove the row's statement (the work); the ties are given (YtabdiabdbomlnaaGreatDoorTie.lean); close each card by the builder's one call (the guide's Derived/Test/ToyasCard.lean, 'card_holds'). Laid BY PROGRAM, IN A SANDBOX (cutbox-door.mjs). By AI agents, Wed Nov 11 2026. No macro, syntax, notation, axiom, sorry.
-/
import Derived.Test.YtabdiabdbomlnaaGreatDoorRows
import GoSem.ClaimSeven
namespace Go.Proofs.YtabdiabdbomlnaaGreatDoor
namespace Rows

/-- THE TIED CARD OF 'hornbooktop.TopFault'. -/
def topFaultCard : Claim7 := { stood := { row := topFaultRow, standIns := [], harness := (true, "dd60071b848cf0187eba88982370e80b168551368e7f95a834d7b073358559cc"), looks := true }, kinds := [], alts := [], laidByText := true, laidKinds := [.data, .handle, .sentinel, .sentinel, .sentinel, .sentinel, .sentinel, .sentinel, .sentinel, .sentinel, .sentinel, .sentinel, .sentinel, .sentinel, .sentinel, .pinned], laidTests := true, laidLooks := .later }
def TopFaultCardSaid : Prop := Claim7.holds Tryz.pinned (.plain (OpenSpec.ofChange topFaultSpec)) topFaultCard

/-- THE SECOND FORM's CARD OF 'hornbooktop.TopFault'. -/
def topFaultUptoCard : Claim7 := { stood := { row := topFaultUptoRow, standIns := [], harness := (true, "dd60071b848cf0187eba88982370e80b168551368e7f95a834d7b073358559cc"), looks := true }, kinds := [], alts := [], laidByText := true, laidKinds := [.data, .handle, .sentinel, .sentinel, .sentinel, .sentinel, .sentinel, .sentinel, .sentinel, .sentinel, .sentinel, .sentinel, .sentinel, .sentinel, .sentinel, .pinned], laidTests := true, laidLooks := .later }
def TopFaultUptoCardSaid : Prop := Claim7.holds Tryz.pinned (.plain (OpenSpec.upto topFaultSpec)) topFaultUptoCard
end Rows
end Go.Proofs.YtabdiabdbomlnaaGreatDoor
