/-
  DERIVED. GIVEN WITH THE SEED: THE CARDS: each row of YtmblgbcipniecaaGreatDoorRows.lean that lists a variable, with what it lists TIED to the program's text (the seventh form; the later family's looks); each row that meets fmt, with fmt's text TOLD by the authors' own Lean function (tested against real Go, not proved from fmt's source: count such statements apart). THE CARD IS WHAT COUNTS. Prove the row's statement (the work); the ties are given (YtmblgbcipniecaaGreatDoorTie.lean); close each card by the builder's one call (the guide's Derived/Test/ToyasCard.lean, 'card_holds'). Laid BY PROGRAM, IN A SANDBOX (cutbox-door.mjs). By AI agents, Wed Nov 11 2026. No macro, syntax, notation, axiom, sorry.
-/
import Derived.Test.YtmblgbcipniecaaGreatDoorRows
import GoSem.ClaimSeven
namespace Go.Proofs.YtmblgbcipniecaaGreatDoor
namespace Rows

/-- THE TIED CARD OF 'wigmakerlaw02.CapTexts'. -/
def capTextsCard : Claim7 := { stood := { row := capTextsRow, standIns := [], harness := (true, "3b24c296ec8741861ab60863ca6045a10f89cd99a828186d00ed188e57cfdd15"), looks := true }, kinds := [], alts := [], laidByText := true, laidKinds := [.data, .data, .data, .data, .sentinel, .sentinel, .pinned], laidTests := true, laidLooks := .later }
def CapTextsCardSaid : Prop := Claim7.holds Tryz.pinned (.plain (OpenSpec.ofChange capTextsSpec)) capTextsCard

/-- THE SECOND FORM's CARD OF 'wigmakerlaw02.CapTexts'. -/
def capTextsUptoCard : Claim7 := { stood := { row := capTextsUptoRow, standIns := [], harness := (true, "3b24c296ec8741861ab60863ca6045a10f89cd99a828186d00ed188e57cfdd15"), looks := true }, kinds := [], alts := [], laidByText := true, laidKinds := [.data, .data, .data, .data, .sentinel, .sentinel, .pinned], laidTests := true, laidLooks := .later }
def CapTextsUptoCardSaid : Prop := Claim7.holds Tryz.pinned (.plain (OpenSpec.upto capTextsSpec)) capTextsUptoCard
end Rows
end Go.Proofs.YtmblgbcipniecaaGreatDoor
