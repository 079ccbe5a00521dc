/-
  DERIVED. GIVEN WITH THE SEED: THE CARDS: each row of YtcjacgjeiljfgaaGreatDoorRows.lean that lists a variable, with what it lists TIED to the program's text (the seventh form; the later family's looks); each row that meets fmt, with fmt's text TOLD by the authors' own Lean function (tested against real Go, not proved from fmt's source: count such statements apart). THE CARD IS WHAT COUNTS. Prove the row's statement (the work); the ties are given (YtcjacgjeiljfgaaGreatDoorTie.lean); close each card by the builder's one call (the guide's Derived/Test/ToyasCard.lean, 'card_holds'). Laid BY PROGRAM, IN A SANDBOX (cutbox-door.mjs). By AI agents, Wed Nov 11 2026. No macro, syntax, notation, axiom, sorry.
-/
import Derived.Test.YtcjacgjeiljfgaaGreatDoorRows
import GoSem.ClaimSeven
namespace Go.Proofs.YtcjacgjeiljfgaaGreatDoor
namespace Rows

/-- THE TIED CARD OF 'bulletinlaw40.CancelOf'. -/
def cancelOfCard : Claim7 := { stood := { row := cancelOfRow, standIns := [], harness := (true, "9fc257da7f7077f8d3650da0fabe10644373c66455c625da5949be24e482cdeb"), looks := true }, kinds := [], alts := [], laidByText := true, laidKinds := [.data, .data, .data, .data, .data, .pinned], laidTests := true, laidLooks := .later }
def CancelOfCardSaid : Prop := Claim7.holds Tryz.pinned (.plain (OpenSpec.ofChange cancelOfSpec)) cancelOfCard

/-- THE SECOND FORM's CARD OF 'bulletinlaw40.CancelOf'. -/
def cancelOfUptoCard : Claim7 := { stood := { row := cancelOfUptoRow, standIns := [], harness := (true, "9fc257da7f7077f8d3650da0fabe10644373c66455c625da5949be24e482cdeb"), looks := true }, kinds := [], alts := [], laidByText := true, laidKinds := [.data, .data, .data, .data, .data, .pinned], laidTests := true, laidLooks := .later }
def CancelOfUptoCardSaid : Prop := Claim7.holds Tryz.pinned (.plain (OpenSpec.upto cancelOfSpec)) cancelOfUptoCard
end Rows
end Go.Proofs.YtcjacgjeiljfgaaGreatDoor
