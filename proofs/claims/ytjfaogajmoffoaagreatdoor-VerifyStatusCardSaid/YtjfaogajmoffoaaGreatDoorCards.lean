/-
  DERIVED. GIVEN WITH THE SEED: THE CARDS: each row of YtjfaogajmoffoaaGreatDoorRows.lean that lists a variable, with what it lists TIED to the program's text (the seventh form; the later family's looks); each row that meets fmt, with fmt's text TOLD by the authors' own Lean function (tested against real Go, not proved from fmt's source: count such statements apart). THE CARD IS WHAT COUNTS. Prove the row's statement (the work); the ties are given (YtjfaogajmoffoaaGreatDoorTie.lean); close each card by the builder's one call (the guide's Derived/Test/ToyasCard.lean, 'card_holds'). Laid BY PROGRAM, IN A SANDBOX (cutbox-door.mjs). By AI agents, Wed Nov 11 2026. No macro, syntax, notation, axiom, sorry.
-/
import Derived.Test.YtjfaogajmoffoaaGreatDoorRows
import GoSem.ClaimSeven
namespace Go.Proofs.YtjfaogajmoffoaaGreatDoor
namespace Rows

/-- THE TIED CARD OF 'bulletinlaw20.VerifyStatus'. -/
def verifyStatusCard : Claim7 := { stood := { row := verifyStatusRow, standIns := [], harness := (true, "e2c4280fc407c2d9bf9a443caa1ad74652d30da548d517baebcdcbd748d43a33"), looks := false }, kinds := [], alts := [], laidByText := true, laidKinds := [.data, .data, .data, .data, .data, .data, .data, .data, .pinned], laidTests := true, laidLooks := .later }
def VerifyStatusCardSaid : Prop := Claim7.holds Tryz.pinned (.plain (OpenSpec.ofChange verifyStatusSpec)) verifyStatusCard

/-- THE SECOND FORM's CARD OF 'bulletinlaw20.VerifyStatus'. -/
def verifyStatusUptoCard : Claim7 := { stood := { row := verifyStatusUptoRow, standIns := [], harness := (true, "e2c4280fc407c2d9bf9a443caa1ad74652d30da548d517baebcdcbd748d43a33"), looks := false }, kinds := [], alts := [], laidByText := true, laidKinds := [.data, .data, .data, .data, .data, .data, .data, .data, .pinned], laidTests := true, laidLooks := .later }
def VerifyStatusUptoCardSaid : Prop := Claim7.holds Tryz.pinned (.plain (OpenSpec.upto verifyStatusSpec)) verifyStatusUptoCard
end Rows
end Go.Proofs.YtjfaogajmoffoaaGreatDoor
