/-
  DERIVED. GIVEN WITH THE SEED: THE CARDS: each row of YtcdcmohccbhchaaGreatDoorRows.lean that lists a variable, with what it lists TIED to the program's text (the seventh form; the later family's looks); each row that meets fmt, with fmt's text TOLD by the authors' own Lean function (tested against real Go, not proved from fmt's source: count such statements apart). THE CARD IS WHAT COUNTS. Prove the row's statement (the work); the ties are given (YtcdcmohccbhchaaGreatDoorTie.lean); close each card by the builder's one call (the guide's Derived/Test/ToyasCard.lean, 'card_holds'). Laid BY PROGRAM, IN A SANDBOX (cutbox-door.mjs). By AI agents, Wed Nov 11 2026. No macro, syntax, notation, axiom, sorry.
-/
import Derived.Test.YtcdcmohccbhchaaGreatDoorRows
import GoSem.ClaimSeven
namespace Go.Proofs.YtcdcmohccbhchaaGreatDoor
namespace Rows

/-- THE TIED CARD OF 'bulletinlaw17.ControlPrint'. -/
def controlPrintCard : Claim7 := { stood := { row := controlPrintRow, standIns := [], harness := (true, "1039577ca9cd576e0a27008438973ce34f7073233309b252d75ee407e773c739"), looks := false }, kinds := [], alts := [], laidByText := true, laidKinds := [.data, .data, .data, .data, .data, .pinned], laidTests := true, laidLooks := .later }
def ControlPrintCardSaid : Prop := Claim7.holds Tryz.pinned (.plain (OpenSpec.ofChange controlPrintSpec)) controlPrintCard

/-- THE TIED CARD OF 'bulletinlaw17.ControlParse'. -/
def controlParseCard : Claim7 := { stood := { row := controlParseRow, standIns := [], harness := (true, "1039577ca9cd576e0a27008438973ce34f7073233309b252d75ee407e773c739"), looks := false }, kinds := [], alts := [], laidByText := true, laidKinds := [.data, .data, .data, .data, .data, .pinned], laidTests := true, laidLooks := .later }
def ControlParseCardSaid : Prop := Claim7.holds Tryz.pinned (.plain (OpenSpec.ofChange controlParseSpec)) controlParseCard

/-- THE TIED CARD OF 'bulletinlaw17.ControlRoundTrip'. -/
def controlRoundTripCard : Claim7 := { stood := { row := controlRoundTripRow, standIns := [], harness := (true, "1039577ca9cd576e0a27008438973ce34f7073233309b252d75ee407e773c739"), looks := false }, kinds := [], alts := [], laidByText := true, laidKinds := [.data, .data, .data, .data, .data, .pinned], laidTests := true, laidLooks := .later }
def ControlRoundTripCardSaid : Prop := Claim7.holds Tryz.pinned (.plain (OpenSpec.ofChange controlRoundTripSpec)) controlRoundTripCard

/-- THE TIED CARD OF 'bulletinlaw17.ControlCanonical'. -/
def controlCanonicalCard : Claim7 := { stood := { row := controlCanonicalRow, standIns := [], harness := (true, "1039577ca9cd576e0a27008438973ce34f7073233309b252d75ee407e773c739"), looks := false }, kinds := [], alts := [], laidByText := true, laidKinds := [.data, .data, .data, .data, .data, .pinned], laidTests := true, laidLooks := .later }
def ControlCanonicalCardSaid : Prop := Claim7.holds Tryz.pinned (.plain (OpenSpec.ofChange controlCanonicalSpec)) controlCanonicalCard

/-- THE TIED CARD OF 'bulletinlaw17.ControlField'. -/
def controlFieldCard : Claim7 := { stood := { row := controlFieldRow, standIns := [], harness := (true, "1039577ca9cd576e0a27008438973ce34f7073233309b252d75ee407e773c739"), looks := false }, kinds := [], alts := [], laidByText := true, laidKinds := [.data, .data, .data, .data, .data, .pinned], laidTests := true, laidLooks := .later }
def ControlFieldCardSaid : Prop := Claim7.holds Tryz.pinned (.plain (OpenSpec.ofChange controlFieldSpec)) controlFieldCard

/-- THE TIED CARD OF 'bulletinlaw17.ControlEqual'. -/
def controlEqualCard : Claim7 := { stood := { row := controlEqualRow, standIns := [], harness := (true, "1039577ca9cd576e0a27008438973ce34f7073233309b252d75ee407e773c739"), looks := false }, kinds := [], alts := [], laidByText := true, laidKinds := [.data, .data, .data, .data, .data, .pinned], laidTests := true, laidLooks := .later }
def ControlEqualCardSaid : Prop := Claim7.holds Tryz.pinned (.plain (OpenSpec.ofChange controlEqualSpec)) controlEqualCard

/-- THE TIED CARD OF 'bulletinlaw17.ControlAuthors'. -/
def controlAuthorsCard : Claim7 := { stood := { row := controlAuthorsRow, standIns := [], harness := (true, "1039577ca9cd576e0a27008438973ce34f7073233309b252d75ee407e773c739"), looks := false }, kinds := [], alts := [], laidByText := true, laidKinds := [.data, .data, .data, .data, .data, .pinned], laidTests := true, laidLooks := .later }
def ControlAuthorsCardSaid : Prop := Claim7.holds Tryz.pinned (.plain (OpenSpec.ofChange controlAuthorsSpec)) controlAuthorsCard

/-- THE TIED CARD OF 'bulletinlaw17.ControlRequired'. -/
def controlRequiredCard : Claim7 := { stood := { row := controlRequiredRow, standIns := [], harness := (true, "1039577ca9cd576e0a27008438973ce34f7073233309b252d75ee407e773c739"), looks := false }, kinds := [], alts := [], laidByText := true, laidKinds := [.data, .data, .data, .data, .data, .pinned], laidTests := true, laidLooks := .later }
def ControlRequiredCardSaid : Prop := Claim7.holds Tryz.pinned (.plain (OpenSpec.ofChange controlRequiredSpec)) controlRequiredCard

/-- THE TIED CARD OF 'bulletinlaw17.ControlKinds'. -/
def controlKindsCard : Claim7 := { stood := { row := controlKindsRow, standIns := [], harness := (true, "1039577ca9cd576e0a27008438973ce34f7073233309b252d75ee407e773c739"), looks := false }, kinds := [], alts := [], laidByText := true, laidKinds := [.data, .data, .data, .data, .data, .pinned], laidTests := true, laidLooks := .later }
def ControlKindsCardSaid : Prop := Claim7.holds Tryz.pinned (.plain (OpenSpec.ofChange controlKindsSpec)) controlKindsCard

/-- THE SECOND FORM's CARD OF 'bulletinlaw17.ControlPrint'. -/
def controlPrintUptoCard : Claim7 := { stood := { row := controlPrintUptoRow, standIns := [], harness := (true, "1039577ca9cd576e0a27008438973ce34f7073233309b252d75ee407e773c739"), looks := false }, kinds := [], alts := [], laidByText := true, laidKinds := [.data, .data, .data, .data, .data, .pinned], laidTests := true, laidLooks := .later }
def ControlPrintUptoCardSaid : Prop := Claim7.holds Tryz.pinned (.plain (OpenSpec.upto controlPrintSpec)) controlPrintUptoCard

/-- THE SECOND FORM's CARD OF 'bulletinlaw17.ControlParse'. -/
def controlParseUptoCard : Claim7 := { stood := { row := controlParseUptoRow, standIns := [], harness := (true, "1039577ca9cd576e0a27008438973ce34f7073233309b252d75ee407e773c739"), looks := false }, kinds := [], alts := [], laidByText := true, laidKinds := [.data, .data, .data, .data, .data, .pinned], laidTests := true, laidLooks := .later }
def ControlParseUptoCardSaid : Prop := Claim7.holds Tryz.pinned (.plain (OpenSpec.upto controlParseSpec)) controlParseUptoCard

/-- THE SECOND FORM's CARD OF 'bulletinlaw17.ControlRoundTrip'. -/
def controlRoundTripUptoCard : Claim7 := { stood := { row := controlRoundTripUptoRow, standIns := [], harness := (true, "1039577ca9cd576e0a27008438973ce34f7073233309b252d75ee407e773c739"), looks := false }, kinds := [], alts := [], laidByText := true, laidKinds := [.data, .data, .data, .data, .data, .pinned], laidTests := true, laidLooks := .later }
def ControlRoundTripUptoCardSaid : Prop := Claim7.holds Tryz.pinned (.plain (OpenSpec.upto controlRoundTripSpec)) controlRoundTripUptoCard

/-- THE SECOND FORM's CARD OF 'bulletinlaw17.ControlCanonical'. -/
def controlCanonicalUptoCard : Claim7 := { stood := { row := controlCanonicalUptoRow, standIns := [], harness := (true, "1039577ca9cd576e0a27008438973ce34f7073233309b252d75ee407e773c739"), looks := false }, kinds := [], alts := [], laidByText := true, laidKinds := [.data, .data, .data, .data, .data, .pinned], laidTests := true, laidLooks := .later }
def ControlCanonicalUptoCardSaid : Prop := Claim7.holds Tryz.pinned (.plain (OpenSpec.upto controlCanonicalSpec)) controlCanonicalUptoCard

/-- THE SECOND FORM's CARD OF 'bulletinlaw17.ControlField'. -/
def controlFieldUptoCard : Claim7 := { stood := { row := controlFieldUptoRow, standIns := [], harness := (true, "1039577ca9cd576e0a27008438973ce34f7073233309b252d75ee407e773c739"), looks := false }, kinds := [], alts := [], laidByText := true, laidKinds := [.data, .data, .data, .data, .data, .pinned], laidTests := true, laidLooks := .later }
def ControlFieldUptoCardSaid : Prop := Claim7.holds Tryz.pinned (.plain (OpenSpec.upto controlFieldSpec)) controlFieldUptoCard

/-- THE SECOND FORM's CARD OF 'bulletinlaw17.ControlEqual'. -/
def controlEqualUptoCard : Claim7 := { stood := { row := controlEqualUptoRow, standIns := [], harness := (true, "1039577ca9cd576e0a27008438973ce34f7073233309b252d75ee407e773c739"), looks := false }, kinds := [], alts := [], laidByText := true, laidKinds := [.data, .data, .data, .data, .data, .pinned], laidTests := true, laidLooks := .later }
def ControlEqualUptoCardSaid : Prop := Claim7.holds Tryz.pinned (.plain (OpenSpec.upto controlEqualSpec)) controlEqualUptoCard

/-- THE SECOND FORM's CARD OF 'bulletinlaw17.ControlAuthors'. -/
def controlAuthorsUptoCard : Claim7 := { stood := { row := controlAuthorsUptoRow, standIns := [], harness := (true, "1039577ca9cd576e0a27008438973ce34f7073233309b252d75ee407e773c739"), looks := false }, kinds := [], alts := [], laidByText := true, laidKinds := [.data, .data, .data, .data, .data, .pinned], laidTests := true, laidLooks := .later }
def ControlAuthorsUptoCardSaid : Prop := Claim7.holds Tryz.pinned (.plain (OpenSpec.upto controlAuthorsSpec)) controlAuthorsUptoCard

/-- THE SECOND FORM's CARD OF 'bulletinlaw17.ControlRequired'. -/
def controlRequiredUptoCard : Claim7 := { stood := { row := controlRequiredUptoRow, standIns := [], harness := (true, "1039577ca9cd576e0a27008438973ce34f7073233309b252d75ee407e773c739"), looks := false }, kinds := [], alts := [], laidByText := true, laidKinds := [.data, .data, .data, .data, .data, .pinned], laidTests := true, laidLooks := .later }
def ControlRequiredUptoCardSaid : Prop := Claim7.holds Tryz.pinned (.plain (OpenSpec.upto controlRequiredSpec)) controlRequiredUptoCard

/-- THE SECOND FORM's CARD OF 'bulletinlaw17.ControlKinds'. -/
def controlKindsUptoCard : Claim7 := { stood := { row := controlKindsUptoRow, standIns := [], harness := (true, "1039577ca9cd576e0a27008438973ce34f7073233309b252d75ee407e773c739"), looks := false }, kinds := [], alts := [], laidByText := true, laidKinds := [.data, .data, .data, .data, .data, .pinned], laidTests := true, laidLooks := .later }
def ControlKindsUptoCardSaid : Prop := Claim7.holds Tryz.pinned (.plain (OpenSpec.upto controlKindsSpec)) controlKindsUptoCard
end Rows
end Go.Proofs.YtcdcmohccbhchaaGreatDoor
