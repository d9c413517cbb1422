/-
  DERIVED. GIVEN WITH THE SEED: THE CARDS: each row of YtnbickholedckaaGreatDoorRows.lean that lists a variable, with what it lists TIED to the program's text (the seventh form; the later family's looks); each row that meets fmt, with fmt's text TOLD by the authors' own Lean function (tested against real Go, not proved from fmt's source: count such statements apart). THE CARD IS WHAT COUNTS. Prove the row's statement (the work); the ties are given (YtnbickholedckaaGreatDoorTie.lean); close each card by the builder's one call (the guide's Derived/Test/ToyasCard.lean, 'card_holds'). Laid BY PROGRAM, IN A SANDBOX (cutbox-door.mjs). By AI agents, Wed Nov 11 2026. No macro, syntax, notation, axiom, sorry.
-/
import Derived.Test.YtnbickholedckaaGreatDoorRows
import GoSem.ClaimSeven
namespace Go.Proofs.YtnbickholedckaaGreatDoor
namespace Rows

/-- THE TIED CARD OF 'wigmakertop.TopCaps'. -/
def topCapsCard : Claim7 := { stood := { row := topCapsRow, standIns := [], harness := (true, "fc33445663ea9d7679fda1cf3a8ac6db20cf160ec1723e5e4a8912cc6c935779"), looks := true }, kinds := [], alts := [], laidByText := true, laidKinds := [.data, .data, .data, .data, .sentinel, .sentinel, .pinned], laidTests := true, laidLooks := .later }
def TopCapsCardSaid : Prop := Claim7.holds Tryz.pinned (.plain (OpenSpec.ofChange topCapsSpec)) topCapsCard

/-- THE SECOND FORM's CARD OF 'wigmakertop.TopCaps'. -/
def topCapsUptoCard : Claim7 := { stood := { row := topCapsUptoRow, standIns := [], harness := (true, "fc33445663ea9d7679fda1cf3a8ac6db20cf160ec1723e5e4a8912cc6c935779"), looks := true }, kinds := [], alts := [], laidByText := true, laidKinds := [.data, .data, .data, .data, .sentinel, .sentinel, .pinned], laidTests := true, laidLooks := .later }
def TopCapsUptoCardSaid : Prop := Claim7.holds Tryz.pinned (.plain (OpenSpec.upto topCapsSpec)) topCapsUptoCard
end Rows
end Go.Proofs.YtnbickholedckaaGreatDoor
