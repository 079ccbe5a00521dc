/-
  DERIVED. GIVEN WITH THE SEED: THE CARDS: each row of YteknmbijodbfoaaGreatDoorRows.lean that lists a variable, with what it lists TIED to the program's text (the seventh form; the later family's looks); each row that meets fmt, with fmt's text TOLD by the authors' own Lean function (tested against real Go, not proved from fmt's source: count such statements apart). THE CARD IS WHAT COUNTS. Prove the row's statement (the work); the ties are given (YteknmbijodbfoaaGreatDoorTie.lean); close each card by the builder's one call (the guide's Derived/Test/ToyasCard.lean, 'card_holds'). Laid BY PROGRAM, IN A SANDBOX (cutbox-door.mjs). By AI agents, Wed Nov 11 2026. No macro, syntax, notation, axiom, sorry.
-/
import Derived.Test.YteknmbijodbfoaaGreatDoorRows
import GoSem.ClaimSeven
namespace Go.Proofs.YteknmbijodbfoaaGreatDoor
namespace Rows

/-- THE TIED CARD OF 'bulletinlaw20.VerifyNames'. -/
def verifyNamesCard : Claim7 := { stood := { row := verifyNamesRow, standIns := [], harness := (true, "29115d8cd0c7a338bfcc5ee9a4635a3a715c1c540eade45716c44fd927fa5fd7"), looks := false }, kinds := [], alts := [], laidByText := true, laidKinds := [.data, .data, .data, .data, .data, .data, .data, .data, .data, .pinned], laidTests := true, laidLooks := .later }
def VerifyNamesCardSaid : Prop := Claim7.holds Tryz.pinned (.plain (OpenSpec.ofChange verifyNamesSpec)) verifyNamesCard

/-- THE SECOND FORM's CARD OF 'bulletinlaw20.VerifyNames'. -/
def verifyNamesUptoCard : Claim7 := { stood := { row := verifyNamesUptoRow, standIns := [], harness := (true, "29115d8cd0c7a338bfcc5ee9a4635a3a715c1c540eade45716c44fd927fa5fd7"), looks := false }, kinds := [], alts := [], laidByText := true, laidKinds := [.data, .data, .data, .data, .data, .data, .data, .data, .data, .pinned], laidTests := true, laidLooks := .later }
def VerifyNamesUptoCardSaid : Prop := Claim7.holds Tryz.pinned (.plain (OpenSpec.upto verifyNamesSpec)) verifyNamesUptoCard
end Rows
end Go.Proofs.YteknmbijodbfoaaGreatDoor
