/-
  DERIVED. GIVEN WITH THE SEED: THE CARDS: each row of YtmblgbcipniecaaDoorRows.lean that lists a variable, with what it lists TIED to the program's text (the seventh form; the later family's looks); each row that meets fmt, with fmt's text TOLD by the authors' own Lean function (tested against real Go, not proved from fmt's source: count such statements apart). THE CARD IS WHAT COUNTS. Prove the row's statement (the work); the ties are given (YtmblgbcipniecaaDoorTie.lean); close each card by the builder's one call (the guide's Derived/Test/ToyasCard.lean, 'card_holds'). Laid BY PROGRAM, IN A SANDBOX (cutbox-door.mjs). By AI agents, Wed Nov 11 2026. No macro, syntax, notation, axiom, sorry.
-/
import Derived.Test.YtmblgbcipniecaaDoorRows
import GoSem.ClaimSeven
namespace Go.Proofs.YtmblgbcipniecaaDoor
namespace Rows

/-- THE TIED CARD OF 'wigmakerlaw01.HairTexts'. -/
def hairTextsCard : Claim7 := { stood := { row := hairTextsRow, standIns := [], harness := (true, "b19f0768862f3705d1ef5e7101ca6ce9b812db665e4b493ddbdb9924d9f05e1a"), looks := true }, kinds := [], alts := [], laidByText := true, laidKinds := [.data, .data, .data, .data, .sentinel, .sentinel, .pinned], laidTests := true, laidLooks := .later }
def HairTextsCardSaid : Prop := Claim7.holds Tryd.pinned (.plain (OpenSpec.ofChange hairTextsSpec)) hairTextsCard

/-- THE SECOND FORM's CARD OF 'wigmakerlaw01.HairTexts'. -/
def hairTextsUptoCard : Claim7 := { stood := { row := hairTextsUptoRow, standIns := [], harness := (true, "b19f0768862f3705d1ef5e7101ca6ce9b812db665e4b493ddbdb9924d9f05e1a"), looks := true }, kinds := [], alts := [], laidByText := true, laidKinds := [.data, .data, .data, .data, .sentinel, .sentinel, .pinned], laidTests := true, laidLooks := .later }
def HairTextsUptoCardSaid : Prop := Claim7.holds Tryd.pinned (.plain (OpenSpec.upto hairTextsSpec)) hairTextsUptoCard
end Rows
end Go.Proofs.YtmblgbcipniecaaDoor
