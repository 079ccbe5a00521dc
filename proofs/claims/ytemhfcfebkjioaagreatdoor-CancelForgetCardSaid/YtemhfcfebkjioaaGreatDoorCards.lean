/-
  DERIVED. GIVEN WITH THE SEED: THE CARDS: each row of YtemhfcfebkjioaaGreatDoorRows.lean that lists a variable, with what it lists TIED to the program's text (the seventh form; the later family's looks); each row that meets fmt, with fmt's text TOLD by the authors' own Lean function (tested against real Go, not proved from fmt's source: count such statements apart). THE CARD IS WHAT COUNTS. Prove the row's statement (the work); the ties are given (YtemhfcfebkjioaaGreatDoorTie.lean); close each card by the builder's one call (the guide's Derived/Test/ToyasCard.lean, 'card_holds'). Laid BY PROGRAM, IN A SANDBOX (cutbox-door.mjs). By AI agents, Wed Nov 11 2026. No macro, syntax, notation, axiom, sorry.
-/
import Derived.Test.YtemhfcfebkjioaaGreatDoorRows
import GoSem.ClaimSeven
namespace Go.Proofs.YtemhfcfebkjioaaGreatDoor
namespace Rows

/-- THE TIED CARD OF 'bulletinlaw40.CancelCounts'. -/
def cancelCountsCard : Claim7 := { stood := { row := cancelCountsRow, standIns := [], harness := (true, "ecb519981a01f1546a410ff6f5c4d72c043bdc034427fe40ba174c46ae8f949e"), looks := true }, kinds := [], alts := [], laidByText := true, laidKinds := [.data, .pinned], laidTests := true, laidLooks := .later }
def CancelCountsCardSaid : Prop := Claim7.holds Tryz.pinned (.plain (OpenSpec.ofChange cancelCountsSpec)) cancelCountsCard

/-- THE TIED CARD OF 'bulletinlaw40.CancelBy'. -/
def cancelByCard : Claim7 := { stood := { row := cancelByRow, standIns := [], harness := (true, "ecb519981a01f1546a410ff6f5c4d72c043bdc034427fe40ba174c46ae8f949e"), looks := true }, kinds := [], alts := [], laidByText := true, laidKinds := [.data, .pinned], laidTests := true, laidLooks := .later }
def CancelByCardSaid : Prop := Claim7.holds Tryz.pinned (.plain (OpenSpec.ofChange cancelBySpec)) cancelByCard

/-- THE TIED CARD OF 'bulletinlaw40.CancelWithdrawn'. -/
def cancelWithdrawnCard : Claim7 := { stood := { row := cancelWithdrawnRow, standIns := [], harness := (true, "ecb519981a01f1546a410ff6f5c4d72c043bdc034427fe40ba174c46ae8f949e"), looks := true }, kinds := [], alts := [], laidByText := true, laidKinds := [.data, .pinned], laidTests := true, laidLooks := .later }
def CancelWithdrawnCardSaid : Prop := Claim7.holds Tryz.pinned (.plain (OpenSpec.ofChange cancelWithdrawnSpec)) cancelWithdrawnCard

/-- THE TIED CARD OF 'bulletinlaw40.CancelForeign'. -/
def cancelForeignCard : Claim7 := { stood := { row := cancelForeignRow, standIns := [], harness := (true, "ecb519981a01f1546a410ff6f5c4d72c043bdc034427fe40ba174c46ae8f949e"), looks := true }, kinds := [], alts := [], laidByText := true, laidKinds := [.data, .pinned], laidTests := true, laidLooks := .later }
def CancelForeignCardSaid : Prop := Claim7.holds Tryz.pinned (.plain (OpenSpec.ofChange cancelForeignSpec)) cancelForeignCard

/-- THE TIED CARD OF 'bulletinlaw40.CancelMonotone'. -/
def cancelMonotoneCard : Claim7 := { stood := { row := cancelMonotoneRow, standIns := [], harness := (true, "ecb519981a01f1546a410ff6f5c4d72c043bdc034427fe40ba174c46ae8f949e"), looks := true }, kinds := [], alts := [], laidByText := true, laidKinds := [.data, .pinned], laidTests := true, laidLooks := .later }
def CancelMonotoneCardSaid : Prop := Claim7.holds Tryz.pinned (.plain (OpenSpec.ofChange cancelMonotoneSpec)) cancelMonotoneCard

/-- THE TIED CARD OF 'bulletinlaw40.CancelTombs'. -/
def cancelTombsCard : Claim7 := { stood := { row := cancelTombsRow, standIns := [], harness := (true, "ecb519981a01f1546a410ff6f5c4d72c043bdc034427fe40ba174c46ae8f949e"), looks := true }, kinds := [], alts := [], laidByText := true, laidKinds := [.data, .pinned], laidTests := true, laidLooks := .later }
def CancelTombsCardSaid : Prop := Claim7.holds Tryz.pinned (.plain (OpenSpec.ofChange cancelTombsSpec)) cancelTombsCard

/-- THE TIED CARD OF 'bulletinlaw40.CancelForget'. -/
def cancelForgetCard : Claim7 := { stood := { row := cancelForgetRow, standIns := [], harness := (true, "ecb519981a01f1546a410ff6f5c4d72c043bdc034427fe40ba174c46ae8f949e"), looks := true }, kinds := [], alts := [], laidByText := true, laidKinds := [.data, .pinned], laidTests := true, laidLooks := .later }
def CancelForgetCardSaid : Prop := Claim7.holds Tryz.pinned (.plain (OpenSpec.ofChange cancelForgetSpec)) cancelForgetCard

/-- THE TIED CARD OF 'bulletinlaw40.CancelClone'. -/
def cancelCloneCard : Claim7 := { stood := { row := cancelCloneRow, standIns := [], harness := (true, "ecb519981a01f1546a410ff6f5c4d72c043bdc034427fe40ba174c46ae8f949e"), looks := true }, kinds := [], alts := [], laidByText := true, laidKinds := [.data, .pinned], laidTests := true, laidLooks := .later }
def CancelCloneCardSaid : Prop := Claim7.holds Tryz.pinned (.plain (OpenSpec.ofChange cancelCloneSpec)) cancelCloneCard

/-- THE TIED CARD OF 'bulletinlaw40.CancelOf'. -/
def cancelOfCard : Claim7 := { stood := { row := cancelOfRow, standIns := [], harness := (true, "ecb519981a01f1546a410ff6f5c4d72c043bdc034427fe40ba174c46ae8f949e"), looks := true }, kinds := [], alts := [], laidByText := true, laidKinds := [.data, .data, .data, .data, .data, .pinned], laidTests := true, laidLooks := .later }
def CancelOfCardSaid : Prop := Claim7.holds Tryz.pinned (.plain (OpenSpec.ofChange cancelOfSpec)) cancelOfCard

/-- THE SECOND FORM's CARD OF 'bulletinlaw40.CancelCounts'. -/
def cancelCountsUptoCard : Claim7 := { stood := { row := cancelCountsUptoRow, standIns := [], harness := (true, "ecb519981a01f1546a410ff6f5c4d72c043bdc034427fe40ba174c46ae8f949e"), looks := true }, kinds := [], alts := [], laidByText := true, laidKinds := [.data, .pinned], laidTests := true, laidLooks := .later }
def CancelCountsUptoCardSaid : Prop := Claim7.holds Tryz.pinned (.plain (OpenSpec.upto cancelCountsSpec)) cancelCountsUptoCard

/-- THE SECOND FORM's CARD OF 'bulletinlaw40.CancelBy'. -/
def cancelByUptoCard : Claim7 := { stood := { row := cancelByUptoRow, standIns := [], harness := (true, "ecb519981a01f1546a410ff6f5c4d72c043bdc034427fe40ba174c46ae8f949e"), looks := true }, kinds := [], alts := [], laidByText := true, laidKinds := [.data, .pinned], laidTests := true, laidLooks := .later }
def CancelByUptoCardSaid : Prop := Claim7.holds Tryz.pinned (.plain (OpenSpec.upto cancelBySpec)) cancelByUptoCard

/-- THE SECOND FORM's CARD OF 'bulletinlaw40.CancelWithdrawn'. -/
def cancelWithdrawnUptoCard : Claim7 := { stood := { row := cancelWithdrawnUptoRow, standIns := [], harness := (true, "ecb519981a01f1546a410ff6f5c4d72c043bdc034427fe40ba174c46ae8f949e"), looks := true }, kinds := [], alts := [], laidByText := true, laidKinds := [.data, .pinned], laidTests := true, laidLooks := .later }
def CancelWithdrawnUptoCardSaid : Prop := Claim7.holds Tryz.pinned (.plain (OpenSpec.upto cancelWithdrawnSpec)) cancelWithdrawnUptoCard

/-- THE SECOND FORM's CARD OF 'bulletinlaw40.CancelForeign'. -/
def cancelForeignUptoCard : Claim7 := { stood := { row := cancelForeignUptoRow, standIns := [], harness := (true, "ecb519981a01f1546a410ff6f5c4d72c043bdc034427fe40ba174c46ae8f949e"), looks := true }, kinds := [], alts := [], laidByText := true, laidKinds := [.data, .pinned], laidTests := true, laidLooks := .later }
def CancelForeignUptoCardSaid : Prop := Claim7.holds Tryz.pinned (.plain (OpenSpec.upto cancelForeignSpec)) cancelForeignUptoCard

/-- THE SECOND FORM's CARD OF 'bulletinlaw40.CancelMonotone'. -/
def cancelMonotoneUptoCard : Claim7 := { stood := { row := cancelMonotoneUptoRow, standIns := [], harness := (true, "ecb519981a01f1546a410ff6f5c4d72c043bdc034427fe40ba174c46ae8f949e"), looks := true }, kinds := [], alts := [], laidByText := true, laidKinds := [.data, .pinned], laidTests := true, laidLooks := .later }
def CancelMonotoneUptoCardSaid : Prop := Claim7.holds Tryz.pinned (.plain (OpenSpec.upto cancelMonotoneSpec)) cancelMonotoneUptoCard

/-- THE SECOND FORM's CARD OF 'bulletinlaw40.CancelTombs'. -/
def cancelTombsUptoCard : Claim7 := { stood := { row := cancelTombsUptoRow, standIns := [], harness := (true, "ecb519981a01f1546a410ff6f5c4d72c043bdc034427fe40ba174c46ae8f949e"), looks := true }, kinds := [], alts := [], laidByText := true, laidKinds := [.data, .pinned], laidTests := true, laidLooks := .later }
def CancelTombsUptoCardSaid : Prop := Claim7.holds Tryz.pinned (.plain (OpenSpec.upto cancelTombsSpec)) cancelTombsUptoCard

/-- THE SECOND FORM's CARD OF 'bulletinlaw40.CancelForget'. -/
def cancelForgetUptoCard : Claim7 := { stood := { row := cancelForgetUptoRow, standIns := [], harness := (true, "ecb519981a01f1546a410ff6f5c4d72c043bdc034427fe40ba174c46ae8f949e"), looks := true }, kinds := [], alts := [], laidByText := true, laidKinds := [.data, .pinned], laidTests := true, laidLooks := .later }
def CancelForgetUptoCardSaid : Prop := Claim7.holds Tryz.pinned (.plain (OpenSpec.upto cancelForgetSpec)) cancelForgetUptoCard

/-- THE SECOND FORM's CARD OF 'bulletinlaw40.CancelClone'. -/
def cancelCloneUptoCard : Claim7 := { stood := { row := cancelCloneUptoRow, standIns := [], harness := (true, "ecb519981a01f1546a410ff6f5c4d72c043bdc034427fe40ba174c46ae8f949e"), looks := true }, kinds := [], alts := [], laidByText := true, laidKinds := [.data, .pinned], laidTests := true, laidLooks := .later }
def CancelCloneUptoCardSaid : Prop := Claim7.holds Tryz.pinned (.plain (OpenSpec.upto cancelCloneSpec)) cancelCloneUptoCard

/-- THE SECOND FORM's CARD OF 'bulletinlaw40.CancelOf'. -/
def cancelOfUptoCard : Claim7 := { stood := { row := cancelOfUptoRow, standIns := [], harness := (true, "ecb519981a01f1546a410ff6f5c4d72c043bdc034427fe40ba174c46ae8f949e"), looks := true }, kinds := [], alts := [], laidByText := true, laidKinds := [.data, .data, .data, .data, .data, .pinned], laidTests := true, laidLooks := .later }
def CancelOfUptoCardSaid : Prop := Claim7.holds Tryz.pinned (.plain (OpenSpec.upto cancelOfSpec)) cancelOfUptoCard
end Rows
end Go.Proofs.YtemhfcfebkjioaaGreatDoor
