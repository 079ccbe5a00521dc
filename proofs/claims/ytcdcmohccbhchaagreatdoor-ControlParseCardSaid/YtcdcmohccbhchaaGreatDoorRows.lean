/-
  NARROWER THAN 'FOR EVERY INPUT', by the rows' own cells (each row's printed sentence says how): ControlPrint: laid · ControlParse: laid · ControlRoundTrip: laid · ControlCanonical: laid · ControlField: laid · ControlEqual: laid · ControlAuthors: laid · ControlRequired: laid · ControlKinds: laid.
  DERIVED. THE GIVEN ROWS OF THIS SEAT. 9 by the template 'for every input the law returns true; each argument reads behind the call as it read before'; 0 by the template 'total and deterministic' (their statements: YtcdcmohccbhchaaGreatDoorTotals.lean).
  GIVEN WITH THE SEED: the statements are not yours to turn. If you find one false, say at which input.
  Laid BY PROGRAM, IN A SANDBOX (cutbox-rows.mjs): the forced cells as the released guide's own fill.sh prints them over the translation a9cec54f5d491f1e… (all of the seat's roots in one cut). By AI agents, Wed Nov 11 2026. No macro, syntax, notation, axiom, sorry.
-/
import Derived.Test.YtcdcmohccbhchaaGreatDoorChecked
import GoSem.PinnedTables
import GoSem.Claim
import GoSem.ClaimJoined
import GoSem.ClaimMapViews
import Derived.JoinedTies
import Derived.KernelRfl
namespace Go.Proofs.YtcdcmohccbhchaaGreatDoor
/- THE CELL 'sum', in the pinned program and in every row, IS THE sha256 OF THE DUMP (.gsa) THAT YtcdcmohccbhchaaGreatDoorProg.lean LOADS. Nothing in Lean hashes anything: it is a label: what it is worth is what the hold of that sum in a sandbox is worth. -/
noncomputable def Tryz.pinned : Pinned := { name := "ytcdcmohccbhchaagreatdoor", sum := "a9cec54f5d491f1ec5d7f175fb08bed27527d2e4e14cd81f40d32d1b7bf67409", checked := Tryz.checked }
namespace Rows
def none {H : Type} : Left H := { results := [], args := [] }

/- WHAT THE LISTED PACKAGE-LEVEL VARIABLES READ AS WHEN THE CALL BEGINS. Each datum BY PROGRAM (the guide's laid-datum.mjs) off the statement by which the dump's own 'gosem.cut.vars' lays the variable. In a bare row this is a premise. The card (YtcdcmohccbhchaaGreatDoorCards.lean) ties it to the program's text. -/
def laid_math_bits_deBruijn32tab {H : Type} : DataW H := .agg [.lit (.int .u8 0), .lit (.int .u8 1), .lit (.int .u8 28), .lit (.int .u8 2), .lit (.int .u8 29), .lit (.int .u8 14), .lit (.int .u8 24), .lit (.int .u8 3), .lit (.int .u8 30), .lit (.int .u8 22), .lit (.int .u8 20), .lit (.int .u8 15), .lit (.int .u8 25), .lit (.int .u8 17), .lit (.int .u8 4), .lit (.int .u8 8), .lit (.int .u8 31), .lit (.int .u8 27), .lit (.int .u8 13), .lit (.int .u8 23), .lit (.int .u8 21), .lit (.int .u8 19), .lit (.int .u8 16), .lit (.int .u8 7), .lit (.int .u8 26), .lit (.int .u8 12), .lit (.int .u8 18), .lit (.int .u8 6), .lit (.int .u8 11), .lit (.int .u8 5), .lit (.int .u8 10), .lit (.int .u8 9)]
def laid_math_bits_deBruijn64tab {H : Type} : DataW H := .agg [.lit (.int .u8 0), .lit (.int .u8 1), .lit (.int .u8 56), .lit (.int .u8 2), .lit (.int .u8 57), .lit (.int .u8 49), .lit (.int .u8 28), .lit (.int .u8 3), .lit (.int .u8 61), .lit (.int .u8 58), .lit (.int .u8 42), .lit (.int .u8 50), .lit (.int .u8 38), .lit (.int .u8 29), .lit (.int .u8 17), .lit (.int .u8 4), .lit (.int .u8 62), .lit (.int .u8 47), .lit (.int .u8 59), .lit (.int .u8 36), .lit (.int .u8 45), .lit (.int .u8 43), .lit (.int .u8 51), .lit (.int .u8 22), .lit (.int .u8 53), .lit (.int .u8 39), .lit (.int .u8 33), .lit (.int .u8 30), .lit (.int .u8 24), .lit (.int .u8 18), .lit (.int .u8 12), .lit (.int .u8 5), .lit (.int .u8 63), .lit (.int .u8 55), .lit (.int .u8 48), .lit (.int .u8 27), .lit (.int .u8 60), .lit (.int .u8 41), .lit (.int .u8 37), .lit (.int .u8 16), .lit (.int .u8 46), .lit (.int .u8 35), .lit (.int .u8 44), .lit (.int .u8 21), .lit (.int .u8 52), .lit (.int .u8 32), .lit (.int .u8 23), .lit (.int .u8 11), .lit (.int .u8 54), .lit (.int .u8 26), .lit (.int .u8 40), .lit (.int .u8 15), .lit (.int .u8 34), .lit (.int .u8 20), .lit (.int .u8 31), .lit (.int .u8 10), .lit (.int .u8 25), .lit (.int .u8 14), .lit (.int .u8 19), .lit (.int .u8 9), .lit (.int .u8 13), .lit (.int .u8 8), .lit (.int .u8 7), .lit (.int .u8 6)]
def laid_internal_strconv_uint64pow10 {H : Type} : DataW H := .agg [.lit (.int .u64 1), .lit (.int .u64 10), .lit (.int .u64 100), .lit (.int .u64 1000), .lit (.int .u64 10000), .lit (.int .u64 100000), .lit (.int .u64 1000000), .lit (.int .u64 10000000), .lit (.int .u64 100000000), .lit (.int .u64 1000000000), .lit (.int .u64 10000000000), .lit (.int .u64 100000000000), .lit (.int .u64 1000000000000), .lit (.int .u64 10000000000000), .lit (.int .u64 100000000000000), .lit (.int .u64 1000000000000000), .lit (.int .u64 10000000000000000), .lit (.int .u64 100000000000000000), .lit (.int .u64 1000000000000000000), .lit (.int .u64 10000000000000000000)]
def laid_unicode_utf8_acceptRanges {H : Type} : DataW H := .agg [.agg [.lit (.int .u8 128), .lit (.int .u8 191)], .agg [.lit (.int .u8 160), .lit (.int .u8 191)], .agg [.lit (.int .u8 128), .lit (.int .u8 159)], .agg [.lit (.int .u8 144), .lit (.int .u8 191)], .agg [.lit (.int .u8 128), .lit (.int .u8 143)], .agg [.lit (.int .u8 0), .lit (.int .u8 0)], .agg [.lit (.int .u8 0), .lit (.int .u8 0)], .agg [.lit (.int .u8 0), .lit (.int .u8 0)], .agg [.lit (.int .u8 0), .lit (.int .u8 0)], .agg [.lit (.int .u8 0), .lit (.int .u8 0)], .agg [.lit (.int .u8 0), .lit (.int .u8 0)], .agg [.lit (.int .u8 0), .lit (.int .u8 0)], .agg [.lit (.int .u8 0), .lit (.int .u8 0)], .agg [.lit (.int .u8 0), .lit (.int .u8 0)], .agg [.lit (.int .u8 0), .lit (.int .u8 0)], .agg [.lit (.int .u8 0), .lit (.int .u8 0)]]
def laid_bulletin_base64_alphabet {H : Type} : DataW H := .agg [.lit (.int .u8 65), .lit (.int .u8 66), .lit (.int .u8 67), .lit (.int .u8 68), .lit (.int .u8 69), .lit (.int .u8 70), .lit (.int .u8 71), .lit (.int .u8 72), .lit (.int .u8 73), .lit (.int .u8 74), .lit (.int .u8 75), .lit (.int .u8 76), .lit (.int .u8 77), .lit (.int .u8 78), .lit (.int .u8 79), .lit (.int .u8 80), .lit (.int .u8 81), .lit (.int .u8 82), .lit (.int .u8 83), .lit (.int .u8 84), .lit (.int .u8 85), .lit (.int .u8 86), .lit (.int .u8 87), .lit (.int .u8 88), .lit (.int .u8 89), .lit (.int .u8 90), .lit (.int .u8 97), .lit (.int .u8 98), .lit (.int .u8 99), .lit (.int .u8 100), .lit (.int .u8 101), .lit (.int .u8 102), .lit (.int .u8 103), .lit (.int .u8 104), .lit (.int .u8 105), .lit (.int .u8 106), .lit (.int .u8 107), .lit (.int .u8 108), .lit (.int .u8 109), .lit (.int .u8 110), .lit (.int .u8 111), .lit (.int .u8 112), .lit (.int .u8 113), .lit (.int .u8 114), .lit (.int .u8 115), .lit (.int .u8 116), .lit (.int .u8 117), .lit (.int .u8 118), .lit (.int .u8 119), .lit (.int .u8 120), .lit (.int .u8 121), .lit (.int .u8 122), .lit (.int .u8 48), .lit (.int .u8 49), .lit (.int .u8 50), .lit (.int .u8 51), .lit (.int .u8 52), .lit (.int .u8 53), .lit (.int .u8 54), .lit (.int .u8 55), .lit (.int .u8 56), .lit (.int .u8 57), .lit (.int .u8 43), .lit (.int .u8 47)]
/-- One of Go's own tables, pinned by name: the form's constant. -/
def laid_unicode_utf8_first : DataW Unit := Go.Pinned.utf8First

/-- 'bulletinlaw17.ControlPrint': WHATEVER THE INPUT: true; the input reads as it did. -/
def controlPrintSpec : ChangeSpec := { name := "controlPrint", fn := fun _ => fun
  | [d] => { results := [.lit (.bool true)], args := [d] }
  | _ => none }
def controlPrintRow : OpenClaim := { program := "ytcdcmohccbhchaagreatdoor", sum := "a9cec54f5d491f1ec5d7f175fb08bed27527d2e4e14cd81f40d32d1b7bf67409", func := "bulletin/bulletinlaw17.ControlPrint", spec := "controlPrint", inPlace := ["internal/bytealg.CountString", "internal/bytealg.IndexByteString", "internal/bytealg.IndexString", "internal/bytealg.Compare", "internal/abi.NoEscape", "internal/bytealg.MakeNoZero"], unfollowed := true, recurses := true, named := ["unicode/utf8.first", "unicode/utf8.acceptRanges", "internal/bytealg.MaxLen", "internal/strconv.uint64pow10", "math/bits.deBruijn32tab", "math/bits.deBruijn64tab", "bulletin/base64.alphabet"], apart := false, laid := [("math/bits.deBruijn32tab", laid_math_bits_deBruijn32tab), ("math/bits.deBruijn64tab", laid_math_bits_deBruijn64tab), ("internal/strconv.uint64pow10", laid_internal_strconv_uint64pow10), ("unicode/utf8.acceptRanges", laid_unicode_utf8_acceptRanges), ("bulletin/base64.alphabet", laid_bulletin_base64_alphabet), ("unicode/utf8.first", laid_unicode_utf8_first)] }
def ControlPrintSaid : Prop := controlPrintRow.holds Tryz.pinned (OpenSpec.ofChange controlPrintSpec)

/-- ITS FALSE NEIGHBOUR: 'it returns false'. Refute it at one input. -/
def controlPrintWrong : ChangeSpec := { name := "controlPrint", fn := fun _ => fun
  | [d] => { results := [.lit (.bool false)], args := [d] }
  | _ => none }
def ControlPrintWrongFalsely : Prop := controlPrintRow.holds Tryz.pinned (OpenSpec.ofChange controlPrintWrong)

/-- 'bulletinlaw17.ControlParse': WHATEVER THE INPUT: true; the input reads as it did. -/
def controlParseSpec : ChangeSpec := { name := "controlParse", fn := fun _ => fun
  | [d] => { results := [.lit (.bool true)], args := [d] }
  | _ => none }
def controlParseRow : OpenClaim := { program := "ytcdcmohccbhchaagreatdoor", sum := "a9cec54f5d491f1ec5d7f175fb08bed27527d2e4e14cd81f40d32d1b7bf67409", func := "bulletin/bulletinlaw17.ControlParse", spec := "controlParse", inPlace := ["internal/bytealg.CountString", "internal/bytealg.IndexByteString", "internal/bytealg.IndexString", "internal/bytealg.Compare", "internal/abi.NoEscape", "internal/bytealg.MakeNoZero"], unfollowed := true, recurses := true, named := ["unicode/utf8.first", "unicode/utf8.acceptRanges", "internal/bytealg.MaxLen", "internal/strconv.uint64pow10", "math/bits.deBruijn32tab", "math/bits.deBruijn64tab", "bulletin/base64.alphabet"], apart := false, laid := [("math/bits.deBruijn32tab", laid_math_bits_deBruijn32tab), ("math/bits.deBruijn64tab", laid_math_bits_deBruijn64tab), ("internal/strconv.uint64pow10", laid_internal_strconv_uint64pow10), ("unicode/utf8.acceptRanges", laid_unicode_utf8_acceptRanges), ("bulletin/base64.alphabet", laid_bulletin_base64_alphabet), ("unicode/utf8.first", laid_unicode_utf8_first)] }
def ControlParseSaid : Prop := controlParseRow.holds Tryz.pinned (OpenSpec.ofChange controlParseSpec)

/-- ITS FALSE NEIGHBOUR: 'it returns false'. Refute it at one input. -/
def controlParseWrong : ChangeSpec := { name := "controlParse", fn := fun _ => fun
  | [d] => { results := [.lit (.bool false)], args := [d] }
  | _ => none }
def ControlParseWrongFalsely : Prop := controlParseRow.holds Tryz.pinned (OpenSpec.ofChange controlParseWrong)

/-- 'bulletinlaw17.ControlRoundTrip': WHATEVER THE INPUT: true; the input reads as it did. -/
def controlRoundTripSpec : ChangeSpec := { name := "controlRoundTrip", fn := fun _ => fun
  | [d] => { results := [.lit (.bool true)], args := [d] }
  | _ => none }
def controlRoundTripRow : OpenClaim := { program := "ytcdcmohccbhchaagreatdoor", sum := "a9cec54f5d491f1ec5d7f175fb08bed27527d2e4e14cd81f40d32d1b7bf67409", func := "bulletin/bulletinlaw17.ControlRoundTrip", spec := "controlRoundTrip", inPlace := ["internal/bytealg.CountString", "internal/bytealg.IndexByteString", "internal/bytealg.IndexString", "internal/bytealg.Compare", "internal/abi.NoEscape", "internal/bytealg.MakeNoZero"], unfollowed := true, recurses := true, named := ["unicode/utf8.first", "unicode/utf8.acceptRanges", "internal/bytealg.MaxLen", "internal/strconv.uint64pow10", "math/bits.deBruijn32tab", "math/bits.deBruijn64tab", "bulletin/base64.alphabet"], apart := false, laid := [("math/bits.deBruijn32tab", laid_math_bits_deBruijn32tab), ("math/bits.deBruijn64tab", laid_math_bits_deBruijn64tab), ("internal/strconv.uint64pow10", laid_internal_strconv_uint64pow10), ("unicode/utf8.acceptRanges", laid_unicode_utf8_acceptRanges), ("bulletin/base64.alphabet", laid_bulletin_base64_alphabet), ("unicode/utf8.first", laid_unicode_utf8_first)] }
def ControlRoundTripSaid : Prop := controlRoundTripRow.holds Tryz.pinned (OpenSpec.ofChange controlRoundTripSpec)

/-- ITS FALSE NEIGHBOUR: 'it returns false'. Refute it at one input. -/
def controlRoundTripWrong : ChangeSpec := { name := "controlRoundTrip", fn := fun _ => fun
  | [d] => { results := [.lit (.bool false)], args := [d] }
  | _ => none }
def ControlRoundTripWrongFalsely : Prop := controlRoundTripRow.holds Tryz.pinned (OpenSpec.ofChange controlRoundTripWrong)

/-- 'bulletinlaw17.ControlCanonical': WHATEVER THE INPUT: true; the input reads as it did. -/
def controlCanonicalSpec : ChangeSpec := { name := "controlCanonical", fn := fun _ => fun
  | [d] => { results := [.lit (.bool true)], args := [d] }
  | _ => none }
def controlCanonicalRow : OpenClaim := { program := "ytcdcmohccbhchaagreatdoor", sum := "a9cec54f5d491f1ec5d7f175fb08bed27527d2e4e14cd81f40d32d1b7bf67409", func := "bulletin/bulletinlaw17.ControlCanonical", spec := "controlCanonical", inPlace := ["internal/bytealg.CountString", "internal/bytealg.IndexByteString", "internal/bytealg.IndexString", "internal/bytealg.Compare", "internal/abi.NoEscape", "internal/bytealg.MakeNoZero"], unfollowed := true, recurses := true, named := ["unicode/utf8.first", "unicode/utf8.acceptRanges", "internal/bytealg.MaxLen", "internal/strconv.uint64pow10", "math/bits.deBruijn32tab", "math/bits.deBruijn64tab", "bulletin/base64.alphabet"], apart := false, laid := [("math/bits.deBruijn32tab", laid_math_bits_deBruijn32tab), ("math/bits.deBruijn64tab", laid_math_bits_deBruijn64tab), ("internal/strconv.uint64pow10", laid_internal_strconv_uint64pow10), ("unicode/utf8.acceptRanges", laid_unicode_utf8_acceptRanges), ("bulletin/base64.alphabet", laid_bulletin_base64_alphabet), ("unicode/utf8.first", laid_unicode_utf8_first)] }
def ControlCanonicalSaid : Prop := controlCanonicalRow.holds Tryz.pinned (OpenSpec.ofChange controlCanonicalSpec)

/-- ITS FALSE NEIGHBOUR: 'it returns false'. Refute it at one input. -/
def controlCanonicalWrong : ChangeSpec := { name := "controlCanonical", fn := fun _ => fun
  | [d] => { results := [.lit (.bool false)], args := [d] }
  | _ => none }
def ControlCanonicalWrongFalsely : Prop := controlCanonicalRow.holds Tryz.pinned (OpenSpec.ofChange controlCanonicalWrong)

/-- 'bulletinlaw17.ControlField': WHATEVER THE INPUT: true; the input reads as it did. -/
def controlFieldSpec : ChangeSpec := { name := "controlField", fn := fun _ => fun
  | [d] => { results := [.lit (.bool true)], args := [d] }
  | _ => none }
def controlFieldRow : OpenClaim := { program := "ytcdcmohccbhchaagreatdoor", sum := "a9cec54f5d491f1ec5d7f175fb08bed27527d2e4e14cd81f40d32d1b7bf67409", func := "bulletin/bulletinlaw17.ControlField", spec := "controlField", inPlace := ["internal/bytealg.CountString", "internal/bytealg.IndexByteString", "internal/bytealg.IndexString", "internal/bytealg.Compare", "internal/abi.NoEscape", "internal/bytealg.MakeNoZero"], unfollowed := true, recurses := true, named := ["unicode/utf8.first", "unicode/utf8.acceptRanges", "internal/bytealg.MaxLen", "internal/strconv.uint64pow10", "math/bits.deBruijn32tab", "math/bits.deBruijn64tab", "bulletin/base64.alphabet"], apart := false, laid := [("math/bits.deBruijn32tab", laid_math_bits_deBruijn32tab), ("math/bits.deBruijn64tab", laid_math_bits_deBruijn64tab), ("internal/strconv.uint64pow10", laid_internal_strconv_uint64pow10), ("unicode/utf8.acceptRanges", laid_unicode_utf8_acceptRanges), ("bulletin/base64.alphabet", laid_bulletin_base64_alphabet), ("unicode/utf8.first", laid_unicode_utf8_first)] }
def ControlFieldSaid : Prop := controlFieldRow.holds Tryz.pinned (OpenSpec.ofChange controlFieldSpec)

/-- ITS FALSE NEIGHBOUR: 'it returns false'. Refute it at one input. -/
def controlFieldWrong : ChangeSpec := { name := "controlField", fn := fun _ => fun
  | [d] => { results := [.lit (.bool false)], args := [d] }
  | _ => none }
def ControlFieldWrongFalsely : Prop := controlFieldRow.holds Tryz.pinned (OpenSpec.ofChange controlFieldWrong)

/-- 'bulletinlaw17.ControlEqual': WHATEVER THE INPUT: true; the input reads as it did. -/
def controlEqualSpec : ChangeSpec := { name := "controlEqual", fn := fun _ => fun
  | [d1, d2] => { results := [.lit (.bool true)], args := [d1, d2] }
  | _ => none }
def controlEqualRow : OpenClaim := { program := "ytcdcmohccbhchaagreatdoor", sum := "a9cec54f5d491f1ec5d7f175fb08bed27527d2e4e14cd81f40d32d1b7bf67409", func := "bulletin/bulletinlaw17.ControlEqual", spec := "controlEqual", inPlace := ["internal/bytealg.CountString", "internal/bytealg.IndexByteString", "internal/bytealg.IndexString", "internal/bytealg.Compare", "internal/abi.NoEscape", "internal/bytealg.MakeNoZero"], unfollowed := true, recurses := true, named := ["unicode/utf8.first", "unicode/utf8.acceptRanges", "internal/bytealg.MaxLen", "internal/strconv.uint64pow10", "math/bits.deBruijn32tab", "math/bits.deBruijn64tab", "bulletin/base64.alphabet"], apart := false, laid := [("math/bits.deBruijn32tab", laid_math_bits_deBruijn32tab), ("math/bits.deBruijn64tab", laid_math_bits_deBruijn64tab), ("internal/strconv.uint64pow10", laid_internal_strconv_uint64pow10), ("unicode/utf8.acceptRanges", laid_unicode_utf8_acceptRanges), ("bulletin/base64.alphabet", laid_bulletin_base64_alphabet), ("unicode/utf8.first", laid_unicode_utf8_first)] }
def ControlEqualSaid : Prop := controlEqualRow.holds Tryz.pinned (OpenSpec.ofChange controlEqualSpec)

/-- ITS FALSE NEIGHBOUR: 'it returns false'. Refute it at one input. -/
def controlEqualWrong : ChangeSpec := { name := "controlEqual", fn := fun _ => fun
  | [d1, d2] => { results := [.lit (.bool false)], args := [d1, d2] }
  | _ => none }
def ControlEqualWrongFalsely : Prop := controlEqualRow.holds Tryz.pinned (OpenSpec.ofChange controlEqualWrong)

/-- 'bulletinlaw17.ControlAuthors': WHATEVER THE INPUT: true; the input reads as it did. -/
def controlAuthorsSpec : ChangeSpec := { name := "controlAuthors", fn := fun _ => fun
  | [d1, d2] => { results := [.lit (.bool true)], args := [d1, d2] }
  | _ => none }
def controlAuthorsRow : OpenClaim := { program := "ytcdcmohccbhchaagreatdoor", sum := "a9cec54f5d491f1ec5d7f175fb08bed27527d2e4e14cd81f40d32d1b7bf67409", func := "bulletin/bulletinlaw17.ControlAuthors", spec := "controlAuthors", inPlace := ["internal/bytealg.CountString", "internal/bytealg.IndexByteString", "internal/bytealg.IndexString", "internal/bytealg.Compare", "internal/abi.NoEscape", "internal/bytealg.MakeNoZero"], unfollowed := true, recurses := true, named := ["unicode/utf8.first", "unicode/utf8.acceptRanges", "internal/bytealg.MaxLen", "internal/strconv.uint64pow10", "math/bits.deBruijn32tab", "math/bits.deBruijn64tab", "bulletin/base64.alphabet"], apart := false, laid := [("math/bits.deBruijn32tab", laid_math_bits_deBruijn32tab), ("math/bits.deBruijn64tab", laid_math_bits_deBruijn64tab), ("internal/strconv.uint64pow10", laid_internal_strconv_uint64pow10), ("unicode/utf8.acceptRanges", laid_unicode_utf8_acceptRanges), ("bulletin/base64.alphabet", laid_bulletin_base64_alphabet), ("unicode/utf8.first", laid_unicode_utf8_first)] }
def ControlAuthorsSaid : Prop := controlAuthorsRow.holds Tryz.pinned (OpenSpec.ofChange controlAuthorsSpec)

/-- ITS FALSE NEIGHBOUR: 'it returns false'. Refute it at one input. -/
def controlAuthorsWrong : ChangeSpec := { name := "controlAuthors", fn := fun _ => fun
  | [d1, d2] => { results := [.lit (.bool false)], args := [d1, d2] }
  | _ => none }
def ControlAuthorsWrongFalsely : Prop := controlAuthorsRow.holds Tryz.pinned (OpenSpec.ofChange controlAuthorsWrong)

/-- 'bulletinlaw17.ControlRequired': WHATEVER THE INPUT: true; the input reads as it did. -/
def controlRequiredSpec : ChangeSpec := { name := "controlRequired", fn := fun _ => fun
  | [d] => { results := [.lit (.bool true)], args := [d] }
  | _ => none }
def controlRequiredRow : OpenClaim := { program := "ytcdcmohccbhchaagreatdoor", sum := "a9cec54f5d491f1ec5d7f175fb08bed27527d2e4e14cd81f40d32d1b7bf67409", func := "bulletin/bulletinlaw17.ControlRequired", spec := "controlRequired", inPlace := ["internal/bytealg.CountString", "internal/bytealg.IndexByteString", "internal/bytealg.IndexString", "internal/bytealg.Compare", "internal/abi.NoEscape", "internal/bytealg.MakeNoZero"], unfollowed := true, recurses := true, named := ["unicode/utf8.first", "unicode/utf8.acceptRanges", "internal/bytealg.MaxLen", "internal/strconv.uint64pow10", "math/bits.deBruijn32tab", "math/bits.deBruijn64tab", "bulletin/base64.alphabet"], apart := false, laid := [("math/bits.deBruijn32tab", laid_math_bits_deBruijn32tab), ("math/bits.deBruijn64tab", laid_math_bits_deBruijn64tab), ("internal/strconv.uint64pow10", laid_internal_strconv_uint64pow10), ("unicode/utf8.acceptRanges", laid_unicode_utf8_acceptRanges), ("bulletin/base64.alphabet", laid_bulletin_base64_alphabet), ("unicode/utf8.first", laid_unicode_utf8_first)] }
def ControlRequiredSaid : Prop := controlRequiredRow.holds Tryz.pinned (OpenSpec.ofChange controlRequiredSpec)

/-- ITS FALSE NEIGHBOUR: 'it returns false'. Refute it at one input. -/
def controlRequiredWrong : ChangeSpec := { name := "controlRequired", fn := fun _ => fun
  | [d] => { results := [.lit (.bool false)], args := [d] }
  | _ => none }
def ControlRequiredWrongFalsely : Prop := controlRequiredRow.holds Tryz.pinned (OpenSpec.ofChange controlRequiredWrong)

/-- 'bulletinlaw17.ControlKinds': WHATEVER THE INPUT: true; the input reads as it did. -/
def controlKindsSpec : ChangeSpec := { name := "controlKinds", fn := fun _ => fun
  | [d] => { results := [.lit (.bool true)], args := [d] }
  | _ => none }
def controlKindsRow : OpenClaim := { program := "ytcdcmohccbhchaagreatdoor", sum := "a9cec54f5d491f1ec5d7f175fb08bed27527d2e4e14cd81f40d32d1b7bf67409", func := "bulletin/bulletinlaw17.ControlKinds", spec := "controlKinds", inPlace := ["internal/bytealg.CountString", "internal/bytealg.IndexByteString", "internal/bytealg.IndexString", "internal/bytealg.Compare", "internal/abi.NoEscape", "internal/bytealg.MakeNoZero"], unfollowed := true, recurses := true, named := ["unicode/utf8.first", "unicode/utf8.acceptRanges", "internal/bytealg.MaxLen", "internal/strconv.uint64pow10", "math/bits.deBruijn32tab", "math/bits.deBruijn64tab", "bulletin/base64.alphabet"], apart := false, laid := [("math/bits.deBruijn32tab", laid_math_bits_deBruijn32tab), ("math/bits.deBruijn64tab", laid_math_bits_deBruijn64tab), ("internal/strconv.uint64pow10", laid_internal_strconv_uint64pow10), ("unicode/utf8.acceptRanges", laid_unicode_utf8_acceptRanges), ("bulletin/base64.alphabet", laid_bulletin_base64_alphabet), ("unicode/utf8.first", laid_unicode_utf8_first)] }
def ControlKindsSaid : Prop := controlKindsRow.holds Tryz.pinned (OpenSpec.ofChange controlKindsSpec)

/-- ITS FALSE NEIGHBOUR: 'it returns false'. Refute it at one input. -/
def controlKindsWrong : ChangeSpec := { name := "controlKinds", fn := fun _ => fun
  | [d] => { results := [.lit (.bool false)], args := [d] }
  | _ => none }
def ControlKindsWrongFalsely : Prop := controlKindsRow.holds Tryz.pinned (OpenSpec.ofChange controlKindsWrong)

/- THE SECOND FORM. 'bulk': how many values and letters a reading holds, each counted each time it is reached (what is shared counts as often as it is met; a slice's spare places count too). A statement '..UptoSaid' is the law's where the arguments, and the package variables that the reading takes, are together of bulk at most 1048576: NARROWER than '..Said'. Prove '..Said' where nothing that the law and all that it calls make is longer than what came in: it says more and counts as full. Else prove '..UptoSaid'. A law counts once. -/
mutual
def uptoBulk {H : Type} : DataW H → Nat
  | .lit (.string bytes) => bytes.length + 1
  | .lit _ => 1
  | .nil => 1
  | .ptr d => uptoBulk d + 1
  | .slice elems spare => uptoBulkAll elems + uptoBulkAll spare + 1
  | .agg parts => uptoBulkAll parts + 1
  | .iface _ d => uptoBulk d + 1
  | .map entries => uptoBulkEntries entries + 1
  | .held _ => 1
def uptoBulkAll {H : Type} : List (DataW H) → Nat
  | [] => 0
  | d :: r => uptoBulk d + uptoBulkAll r
def uptoBulkEntries {H : Type} : List (Lit × DataW H) → Nat
  | [] => 0
  | x :: r => uptoBulkEntry x + uptoBulkEntries r
def uptoBulkEntry {H : Type} : Lit × DataW H → Nat
  | (.string bytes, d) => bytes.length + uptoBulk d + 1
  | (_, d) => uptoBulk d + 1
 end
def uptoSmall : (H : Type) → List (DataW H) → Bool := fun _ ds => decide (uptoBulkAll ds ≤ 1048576)
def OpenSpec.upto (s : _root_.Go.ChangeSpec) : _root_.Go.OpenSpec := { _root_.Go.OpenSpec.ofChange s with cond := some uptoSmall }

/-- 'bulletinlaw17.ControlPrint', WHERE WHAT IT READS IS OF BULK AT MOST 1048576: true; the input reads as it did. -/
def controlPrintUptoRow : OpenClaim := { program := "ytcdcmohccbhchaagreatdoor", sum := "a9cec54f5d491f1ec5d7f175fb08bed27527d2e4e14cd81f40d32d1b7bf67409", func := "bulletin/bulletinlaw17.ControlPrint", spec := "controlPrint", inPlace := ["internal/bytealg.CountString", "internal/bytealg.IndexByteString", "internal/bytealg.IndexString", "internal/bytealg.Compare", "internal/abi.NoEscape", "internal/bytealg.MakeNoZero"], unfollowed := true, recurses := true, named := ["unicode/utf8.first", "unicode/utf8.acceptRanges", "internal/bytealg.MaxLen", "internal/strconv.uint64pow10", "math/bits.deBruijn32tab", "math/bits.deBruijn64tab", "bulletin/base64.alphabet"], apart := false, laid := [("math/bits.deBruijn32tab", laid_math_bits_deBruijn32tab), ("math/bits.deBruijn64tab", laid_math_bits_deBruijn64tab), ("internal/strconv.uint64pow10", laid_internal_strconv_uint64pow10), ("unicode/utf8.acceptRanges", laid_unicode_utf8_acceptRanges), ("bulletin/base64.alphabet", laid_bulletin_base64_alphabet), ("unicode/utf8.first", laid_unicode_utf8_first)], narrowed := true }
def ControlPrintUptoSaid : Prop := controlPrintUptoRow.holds Tryz.pinned (OpenSpec.upto controlPrintSpec)

/-- 'bulletinlaw17.ControlParse', WHERE WHAT IT READS IS OF BULK AT MOST 1048576: true; the input reads as it did. -/
def controlParseUptoRow : OpenClaim := { program := "ytcdcmohccbhchaagreatdoor", sum := "a9cec54f5d491f1ec5d7f175fb08bed27527d2e4e14cd81f40d32d1b7bf67409", func := "bulletin/bulletinlaw17.ControlParse", spec := "controlParse", inPlace := ["internal/bytealg.CountString", "internal/bytealg.IndexByteString", "internal/bytealg.IndexString", "internal/bytealg.Compare", "internal/abi.NoEscape", "internal/bytealg.MakeNoZero"], unfollowed := true, recurses := true, named := ["unicode/utf8.first", "unicode/utf8.acceptRanges", "internal/bytealg.MaxLen", "internal/strconv.uint64pow10", "math/bits.deBruijn32tab", "math/bits.deBruijn64tab", "bulletin/base64.alphabet"], apart := false, laid := [("math/bits.deBruijn32tab", laid_math_bits_deBruijn32tab), ("math/bits.deBruijn64tab", laid_math_bits_deBruijn64tab), ("internal/strconv.uint64pow10", laid_internal_strconv_uint64pow10), ("unicode/utf8.acceptRanges", laid_unicode_utf8_acceptRanges), ("bulletin/base64.alphabet", laid_bulletin_base64_alphabet), ("unicode/utf8.first", laid_unicode_utf8_first)], narrowed := true }
def ControlParseUptoSaid : Prop := controlParseUptoRow.holds Tryz.pinned (OpenSpec.upto controlParseSpec)

/-- 'bulletinlaw17.ControlRoundTrip', WHERE WHAT IT READS IS OF BULK AT MOST 1048576: true; the input reads as it did. -/
def controlRoundTripUptoRow : OpenClaim := { program := "ytcdcmohccbhchaagreatdoor", sum := "a9cec54f5d491f1ec5d7f175fb08bed27527d2e4e14cd81f40d32d1b7bf67409", func := "bulletin/bulletinlaw17.ControlRoundTrip", spec := "controlRoundTrip", inPlace := ["internal/bytealg.CountString", "internal/bytealg.IndexByteString", "internal/bytealg.IndexString", "internal/bytealg.Compare", "internal/abi.NoEscape", "internal/bytealg.MakeNoZero"], unfollowed := true, recurses := true, named := ["unicode/utf8.first", "unicode/utf8.acceptRanges", "internal/bytealg.MaxLen", "internal/strconv.uint64pow10", "math/bits.deBruijn32tab", "math/bits.deBruijn64tab", "bulletin/base64.alphabet"], apart := false, laid := [("math/bits.deBruijn32tab", laid_math_bits_deBruijn32tab), ("math/bits.deBruijn64tab", laid_math_bits_deBruijn64tab), ("internal/strconv.uint64pow10", laid_internal_strconv_uint64pow10), ("unicode/utf8.acceptRanges", laid_unicode_utf8_acceptRanges), ("bulletin/base64.alphabet", laid_bulletin_base64_alphabet), ("unicode/utf8.first", laid_unicode_utf8_first)], narrowed := true }
def ControlRoundTripUptoSaid : Prop := controlRoundTripUptoRow.holds Tryz.pinned (OpenSpec.upto controlRoundTripSpec)

/-- 'bulletinlaw17.ControlCanonical', WHERE WHAT IT READS IS OF BULK AT MOST 1048576: true; the input reads as it did. -/
def controlCanonicalUptoRow : OpenClaim := { program := "ytcdcmohccbhchaagreatdoor", sum := "a9cec54f5d491f1ec5d7f175fb08bed27527d2e4e14cd81f40d32d1b7bf67409", func := "bulletin/bulletinlaw17.ControlCanonical", spec := "controlCanonical", inPlace := ["internal/bytealg.CountString", "internal/bytealg.IndexByteString", "internal/bytealg.IndexString", "internal/bytealg.Compare", "internal/abi.NoEscape", "internal/bytealg.MakeNoZero"], unfollowed := true, recurses := true, named := ["unicode/utf8.first", "unicode/utf8.acceptRanges", "internal/bytealg.MaxLen", "internal/strconv.uint64pow10", "math/bits.deBruijn32tab", "math/bits.deBruijn64tab", "bulletin/base64.alphabet"], apart := false, laid := [("math/bits.deBruijn32tab", laid_math_bits_deBruijn32tab), ("math/bits.deBruijn64tab", laid_math_bits_deBruijn64tab), ("internal/strconv.uint64pow10", laid_internal_strconv_uint64pow10), ("unicode/utf8.acceptRanges", laid_unicode_utf8_acceptRanges), ("bulletin/base64.alphabet", laid_bulletin_base64_alphabet), ("unicode/utf8.first", laid_unicode_utf8_first)], narrowed := true }
def ControlCanonicalUptoSaid : Prop := controlCanonicalUptoRow.holds Tryz.pinned (OpenSpec.upto controlCanonicalSpec)

/-- 'bulletinlaw17.ControlField', WHERE WHAT IT READS IS OF BULK AT MOST 1048576: true; the input reads as it did. -/
def controlFieldUptoRow : OpenClaim := { program := "ytcdcmohccbhchaagreatdoor", sum := "a9cec54f5d491f1ec5d7f175fb08bed27527d2e4e14cd81f40d32d1b7bf67409", func := "bulletin/bulletinlaw17.ControlField", spec := "controlField", inPlace := ["internal/bytealg.CountString", "internal/bytealg.IndexByteString", "internal/bytealg.IndexString", "internal/bytealg.Compare", "internal/abi.NoEscape", "internal/bytealg.MakeNoZero"], unfollowed := true, recurses := true, named := ["unicode/utf8.first", "unicode/utf8.acceptRanges", "internal/bytealg.MaxLen", "internal/strconv.uint64pow10", "math/bits.deBruijn32tab", "math/bits.deBruijn64tab", "bulletin/base64.alphabet"], apart := false, laid := [("math/bits.deBruijn32tab", laid_math_bits_deBruijn32tab), ("math/bits.deBruijn64tab", laid_math_bits_deBruijn64tab), ("internal/strconv.uint64pow10", laid_internal_strconv_uint64pow10), ("unicode/utf8.acceptRanges", laid_unicode_utf8_acceptRanges), ("bulletin/base64.alphabet", laid_bulletin_base64_alphabet), ("unicode/utf8.first", laid_unicode_utf8_first)], narrowed := true }
def ControlFieldUptoSaid : Prop := controlFieldUptoRow.holds Tryz.pinned (OpenSpec.upto controlFieldSpec)

/-- 'bulletinlaw17.ControlEqual', WHERE WHAT IT READS IS OF BULK AT MOST 1048576: true; the input reads as it did. -/
def controlEqualUptoRow : OpenClaim := { program := "ytcdcmohccbhchaagreatdoor", sum := "a9cec54f5d491f1ec5d7f175fb08bed27527d2e4e14cd81f40d32d1b7bf67409", func := "bulletin/bulletinlaw17.ControlEqual", spec := "controlEqual", inPlace := ["internal/bytealg.CountString", "internal/bytealg.IndexByteString", "internal/bytealg.IndexString", "internal/bytealg.Compare", "internal/abi.NoEscape", "internal/bytealg.MakeNoZero"], unfollowed := true, recurses := true, named := ["unicode/utf8.first", "unicode/utf8.acceptRanges", "internal/bytealg.MaxLen", "internal/strconv.uint64pow10", "math/bits.deBruijn32tab", "math/bits.deBruijn64tab", "bulletin/base64.alphabet"], apart := false, laid := [("math/bits.deBruijn32tab", laid_math_bits_deBruijn32tab), ("math/bits.deBruijn64tab", laid_math_bits_deBruijn64tab), ("internal/strconv.uint64pow10", laid_internal_strconv_uint64pow10), ("unicode/utf8.acceptRanges", laid_unicode_utf8_acceptRanges), ("bulletin/base64.alphabet", laid_bulletin_base64_alphabet), ("unicode/utf8.first", laid_unicode_utf8_first)], narrowed := true }
def ControlEqualUptoSaid : Prop := controlEqualUptoRow.holds Tryz.pinned (OpenSpec.upto controlEqualSpec)

/-- 'bulletinlaw17.ControlAuthors', WHERE WHAT IT READS IS OF BULK AT MOST 1048576: true; the input reads as it did. -/
def controlAuthorsUptoRow : OpenClaim := { program := "ytcdcmohccbhchaagreatdoor", sum := "a9cec54f5d491f1ec5d7f175fb08bed27527d2e4e14cd81f40d32d1b7bf67409", func := "bulletin/bulletinlaw17.ControlAuthors", spec := "controlAuthors", inPlace := ["internal/bytealg.CountString", "internal/bytealg.IndexByteString", "internal/bytealg.IndexString", "internal/bytealg.Compare", "internal/abi.NoEscape", "internal/bytealg.MakeNoZero"], unfollowed := true, recurses := true, named := ["unicode/utf8.first", "unicode/utf8.acceptRanges", "internal/bytealg.MaxLen", "internal/strconv.uint64pow10", "math/bits.deBruijn32tab", "math/bits.deBruijn64tab", "bulletin/base64.alphabet"], apart := false, laid := [("math/bits.deBruijn32tab", laid_math_bits_deBruijn32tab), ("math/bits.deBruijn64tab", laid_math_bits_deBruijn64tab), ("internal/strconv.uint64pow10", laid_internal_strconv_uint64pow10), ("unicode/utf8.acceptRanges", laid_unicode_utf8_acceptRanges), ("bulletin/base64.alphabet", laid_bulletin_base64_alphabet), ("unicode/utf8.first", laid_unicode_utf8_first)], narrowed := true }
def ControlAuthorsUptoSaid : Prop := controlAuthorsUptoRow.holds Tryz.pinned (OpenSpec.upto controlAuthorsSpec)

/-- 'bulletinlaw17.ControlRequired', WHERE WHAT IT READS IS OF BULK AT MOST 1048576: true; the input reads as it did. -/
def controlRequiredUptoRow : OpenClaim := { program := "ytcdcmohccbhchaagreatdoor", sum := "a9cec54f5d491f1ec5d7f175fb08bed27527d2e4e14cd81f40d32d1b7bf67409", func := "bulletin/bulletinlaw17.ControlRequired", spec := "controlRequired", inPlace := ["internal/bytealg.CountString", "internal/bytealg.IndexByteString", "internal/bytealg.IndexString", "internal/bytealg.Compare", "internal/abi.NoEscape", "internal/bytealg.MakeNoZero"], unfollowed := true, recurses := true, named := ["unicode/utf8.first", "unicode/utf8.acceptRanges", "internal/bytealg.MaxLen", "internal/strconv.uint64pow10", "math/bits.deBruijn32tab", "math/bits.deBruijn64tab", "bulletin/base64.alphabet"], apart := false, laid := [("math/bits.deBruijn32tab", laid_math_bits_deBruijn32tab), ("math/bits.deBruijn64tab", laid_math_bits_deBruijn64tab), ("internal/strconv.uint64pow10", laid_internal_strconv_uint64pow10), ("unicode/utf8.acceptRanges", laid_unicode_utf8_acceptRanges), ("bulletin/base64.alphabet", laid_bulletin_base64_alphabet), ("unicode/utf8.first", laid_unicode_utf8_first)], narrowed := true }
def ControlRequiredUptoSaid : Prop := controlRequiredUptoRow.holds Tryz.pinned (OpenSpec.upto controlRequiredSpec)

/-- 'bulletinlaw17.ControlKinds', WHERE WHAT IT READS IS OF BULK AT MOST 1048576: true; the input reads as it did. -/
def controlKindsUptoRow : OpenClaim := { program := "ytcdcmohccbhchaagreatdoor", sum := "a9cec54f5d491f1ec5d7f175fb08bed27527d2e4e14cd81f40d32d1b7bf67409", func := "bulletin/bulletinlaw17.ControlKinds", spec := "controlKinds", inPlace := ["internal/bytealg.CountString", "internal/bytealg.IndexByteString", "internal/bytealg.IndexString", "internal/bytealg.Compare", "internal/abi.NoEscape", "internal/bytealg.MakeNoZero"], unfollowed := true, recurses := true, named := ["unicode/utf8.first", "unicode/utf8.acceptRanges", "internal/bytealg.MaxLen", "internal/strconv.uint64pow10", "math/bits.deBruijn32tab", "math/bits.deBruijn64tab", "bulletin/base64.alphabet"], apart := false, laid := [("math/bits.deBruijn32tab", laid_math_bits_deBruijn32tab), ("math/bits.deBruijn64tab", laid_math_bits_deBruijn64tab), ("internal/strconv.uint64pow10", laid_internal_strconv_uint64pow10), ("unicode/utf8.acceptRanges", laid_unicode_utf8_acceptRanges), ("bulletin/base64.alphabet", laid_bulletin_base64_alphabet), ("unicode/utf8.first", laid_unicode_utf8_first)], narrowed := true }
def ControlKindsUptoSaid : Prop := controlKindsUptoRow.holds Tryz.pinned (OpenSpec.upto controlKindsSpec)

end Rows
end Go.Proofs.YtcdcmohccbhchaaGreatDoor
