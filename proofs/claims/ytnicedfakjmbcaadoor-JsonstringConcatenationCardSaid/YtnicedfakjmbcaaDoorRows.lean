/-
  NARROWER THAN 'FOR EVERY INPUT', by the rows' own cells (each row's printed sentence says how): TextDecodeMatchesReference: laid · TextCheckMatchesReference: laid · TextClassesMatchReference: laid · TextNames: laid · TextCollapseMatchesReference: laid · TextCollapseComposes: laid · TextCheckConcatenation: laid · JsonstringQuotes: laid · JsonstringParses: laid · JsonstringRoundTrip: laid · JsonstringConcatenation: laid · JsonstringNumbers: laid · JsonstringPrefixes: laid.
  DERIVED. THE GIVEN ROWS OF THIS SEAT. 13 by the template 'for every input the law returns true; each argument reads behind the call as it read before'; 0 by the template 'total and deterministic' (their statements: YtnicedfakjmbcaaDoorTotals.lean).
  GIVEN WITH THE SEED: the statements are not yours to turn. If you find one false, say at which input.
  Laid BY PROGRAM, IN A SANDBOX (cutbox-rows.mjs): the forced cells as the released guide's own fill.sh prints them over the translation fb3471f198f55cb1… (all of the seat's roots in one cut). By AI agents, Wed Nov 11 2026. No macro, syntax, notation, axiom, sorry.
-/
import Derived.Test.YtnicedfakjmbcaaDoorChecked
import GoSem.PinnedTables
import GoSem.Claim
import GoSem.ClaimJoined
import GoSem.ClaimMapViews
import Derived.JoinedTies
import Derived.KernelRfl
namespace Go.Proofs.YtnicedfakjmbcaaDoor
/- THE CELL 'sum', in the pinned program and in every row, IS THE sha256 OF THE DUMP (.gsa) THAT YtnicedfakjmbcaaDoorProg.lean LOADS. Nothing in Lean hashes anything: it is a label: what it is worth is what the hold of that sum in a sandbox is worth. -/
noncomputable def Tryd.pinned : Pinned := { name := "ytnicedfakjmbcaadoor", sum := "fb3471f198f55cb12fb47eeb7786d331ebb1250becffc879cf22135380155065", checked := Tryd.checked }
namespace Rows
def none {H : Type} : Left H := { results := [], args := [] }

/- WHAT THE LISTED PACKAGE-LEVEL VARIABLES READ AS WHEN THE CALL BEGINS. Each datum BY PROGRAM (the guide's laid-datum.mjs) off the statement by which the dump's own 'gosem.cut.vars' lays the variable. In a bare row this is a premise. The card (YtnicedfakjmbcaaDoorCards.lean) ties it to the program's text. -/
def laid_unicode_utf8_acceptRanges {H : Type} : DataW H := .agg [.agg [.lit (.int .u8 128), .lit (.int .u8 191)], .agg [.lit (.int .u8 160), .lit (.int .u8 191)], .agg [.lit (.int .u8 128), .lit (.int .u8 159)], .agg [.lit (.int .u8 144), .lit (.int .u8 191)], .agg [.lit (.int .u8 128), .lit (.int .u8 143)], .agg [.lit (.int .u8 0), .lit (.int .u8 0)], .agg [.lit (.int .u8 0), .lit (.int .u8 0)], .agg [.lit (.int .u8 0), .lit (.int .u8 0)], .agg [.lit (.int .u8 0), .lit (.int .u8 0)], .agg [.lit (.int .u8 0), .lit (.int .u8 0)], .agg [.lit (.int .u8 0), .lit (.int .u8 0)], .agg [.lit (.int .u8 0), .lit (.int .u8 0)], .agg [.lit (.int .u8 0), .lit (.int .u8 0)], .agg [.lit (.int .u8 0), .lit (.int .u8 0)], .agg [.lit (.int .u8 0), .lit (.int .u8 0)], .agg [.lit (.int .u8 0), .lit (.int .u8 0)]]
def laid_feedvault_text_startRanges {H : Type} : DataW H := .agg [.agg [.lit (.int .i32 65), .lit (.int .i32 90)], .agg [.lit (.int .i32 95), .lit (.int .i32 95)], .agg [.lit (.int .i32 97), .lit (.int .i32 122)], .agg [.lit (.int .i32 192), .lit (.int .i32 214)], .agg [.lit (.int .i32 216), .lit (.int .i32 246)], .agg [.lit (.int .i32 248), .lit (.int .i32 767)], .agg [.lit (.int .i32 880), .lit (.int .i32 893)], .agg [.lit (.int .i32 895), .lit (.int .i32 8191)], .agg [.lit (.int .i32 8204), .lit (.int .i32 8205)], .agg [.lit (.int .i32 8304), .lit (.int .i32 8591)], .agg [.lit (.int .i32 11264), .lit (.int .i32 12271)], .agg [.lit (.int .i32 12289), .lit (.int .i32 55295)], .agg [.lit (.int .i32 63744), .lit (.int .i32 64975)], .agg [.lit (.int .i32 65008), .lit (.int .i32 65533)], .agg [.lit (.int .i32 65536), .lit (.int .i32 983039)]]
def laid_feedvault_text_moreRanges {H : Type} : DataW H := .agg [.agg [.lit (.int .i32 45), .lit (.int .i32 46)], .agg [.lit (.int .i32 48), .lit (.int .i32 57)], .agg [.lit (.int .i32 183), .lit (.int .i32 183)], .agg [.lit (.int .i32 768), .lit (.int .i32 879)], .agg [.lit (.int .i32 8255), .lit (.int .i32 8256)]]
/-- One of Go's own tables, pinned by name: the form's constant. -/
def laid_unicode_utf8_first : DataW Unit := Go.Pinned.utf8First
def laid_feedvault_jsonstring_letters {H : Type} : DataW H := .agg [.agg [.lit (.int .u8 98), .lit (.int .u8 8)], .agg [.lit (.int .u8 102), .lit (.int .u8 12)], .agg [.lit (.int .u8 110), .lit (.int .u8 10)], .agg [.lit (.int .u8 114), .lit (.int .u8 13)], .agg [.lit (.int .u8 116), .lit (.int .u8 9)]]

/-- 'feedvaultlaw01.TextDecodeMatchesReference': WHATEVER THE INPUT: true; the input reads as it did. -/
def textDecodeMatchesReferenceSpec : ChangeSpec := { name := "textDecodeMatchesReference", fn := fun _ => fun
  | [d1, d2] => { results := [.lit (.bool true)], args := [d1, d2] }
  | _ => none }
def textDecodeMatchesReferenceRow : OpenClaim := { program := "ytnicedfakjmbcaadoor", sum := "fb3471f198f55cb12fb47eeb7786d331ebb1250becffc879cf22135380155065", func := "feedvault/feedvaultlaw01.TextDecodeMatchesReference", spec := "textDecodeMatchesReference", inPlace := ["internal/abi.NoEscape"], named := ["unicode/utf8.first", "unicode/utf8.acceptRanges", "feedvault/text.moreRanges", "feedvault/text.startRanges"], apart := false, laid := [("unicode/utf8.acceptRanges", laid_unicode_utf8_acceptRanges), ("feedvault/text.startRanges", laid_feedvault_text_startRanges), ("feedvault/text.moreRanges", laid_feedvault_text_moreRanges), ("unicode/utf8.first", laid_unicode_utf8_first)] }
def TextDecodeMatchesReferenceSaid : Prop := textDecodeMatchesReferenceRow.holds Tryd.pinned (OpenSpec.ofChange textDecodeMatchesReferenceSpec)

/-- ITS FALSE NEIGHBOUR: 'it returns false'. Refute it at one input. -/
def textDecodeMatchesReferenceWrong : ChangeSpec := { name := "textDecodeMatchesReference", fn := fun _ => fun
  | [d1, d2] => { results := [.lit (.bool false)], args := [d1, d2] }
  | _ => none }
def TextDecodeMatchesReferenceWrongFalsely : Prop := textDecodeMatchesReferenceRow.holds Tryd.pinned (OpenSpec.ofChange textDecodeMatchesReferenceWrong)

/-- 'feedvaultlaw01.TextCheckMatchesReference': WHATEVER THE INPUT: true; the input reads as it did. -/
def textCheckMatchesReferenceSpec : ChangeSpec := { name := "textCheckMatchesReference", fn := fun _ => fun
  | [d] => { results := [.lit (.bool true)], args := [d] }
  | _ => none }
def textCheckMatchesReferenceRow : OpenClaim := { program := "ytnicedfakjmbcaadoor", sum := "fb3471f198f55cb12fb47eeb7786d331ebb1250becffc879cf22135380155065", func := "feedvault/feedvaultlaw01.TextCheckMatchesReference", spec := "textCheckMatchesReference", inPlace := ["internal/abi.NoEscape"], named := ["unicode/utf8.first", "unicode/utf8.acceptRanges", "feedvault/text.moreRanges", "feedvault/text.startRanges"], apart := false, laid := [("unicode/utf8.acceptRanges", laid_unicode_utf8_acceptRanges), ("feedvault/text.startRanges", laid_feedvault_text_startRanges), ("feedvault/text.moreRanges", laid_feedvault_text_moreRanges), ("unicode/utf8.first", laid_unicode_utf8_first)] }
def TextCheckMatchesReferenceSaid : Prop := textCheckMatchesReferenceRow.holds Tryd.pinned (OpenSpec.ofChange textCheckMatchesReferenceSpec)

/-- ITS FALSE NEIGHBOUR: 'it returns false'. Refute it at one input. -/
def textCheckMatchesReferenceWrong : ChangeSpec := { name := "textCheckMatchesReference", fn := fun _ => fun
  | [d] => { results := [.lit (.bool false)], args := [d] }
  | _ => none }
def TextCheckMatchesReferenceWrongFalsely : Prop := textCheckMatchesReferenceRow.holds Tryd.pinned (OpenSpec.ofChange textCheckMatchesReferenceWrong)

/-- 'feedvaultlaw01.TextClassesMatchReference': WHATEVER THE INPUT: true; the input reads as it did. -/
def textClassesMatchReferenceSpec : ChangeSpec := { name := "textClassesMatchReference", fn := fun _ => fun
  | [d1, d2] => { results := [.lit (.bool true)], args := [d1, d2] }
  | _ => none }
def textClassesMatchReferenceRow : OpenClaim := { program := "ytnicedfakjmbcaadoor", sum := "fb3471f198f55cb12fb47eeb7786d331ebb1250becffc879cf22135380155065", func := "feedvault/feedvaultlaw01.TextClassesMatchReference", spec := "textClassesMatchReference", inPlace := ["internal/abi.NoEscape"], named := ["unicode/utf8.first", "unicode/utf8.acceptRanges", "feedvault/text.moreRanges", "feedvault/text.startRanges"], apart := false, laid := [("unicode/utf8.acceptRanges", laid_unicode_utf8_acceptRanges), ("feedvault/text.startRanges", laid_feedvault_text_startRanges), ("feedvault/text.moreRanges", laid_feedvault_text_moreRanges), ("unicode/utf8.first", laid_unicode_utf8_first)] }
def TextClassesMatchReferenceSaid : Prop := textClassesMatchReferenceRow.holds Tryd.pinned (OpenSpec.ofChange textClassesMatchReferenceSpec)

/-- ITS FALSE NEIGHBOUR: 'it returns false'. Refute it at one input. -/
def textClassesMatchReferenceWrong : ChangeSpec := { name := "textClassesMatchReference", fn := fun _ => fun
  | [d1, d2] => { results := [.lit (.bool false)], args := [d1, d2] }
  | _ => none }
def TextClassesMatchReferenceWrongFalsely : Prop := textClassesMatchReferenceRow.holds Tryd.pinned (OpenSpec.ofChange textClassesMatchReferenceWrong)

/-- 'feedvaultlaw01.TextNames': WHATEVER THE INPUT: true; the input reads as it did. -/
def textNamesSpec : ChangeSpec := { name := "textNames", fn := fun _ => fun
  | [d1, d2] => { results := [.lit (.bool true)], args := [d1, d2] }
  | _ => none }
def textNamesRow : OpenClaim := { program := "ytnicedfakjmbcaadoor", sum := "fb3471f198f55cb12fb47eeb7786d331ebb1250becffc879cf22135380155065", func := "feedvault/feedvaultlaw01.TextNames", spec := "textNames", inPlace := ["internal/abi.NoEscape"], named := ["unicode/utf8.first", "unicode/utf8.acceptRanges", "feedvault/text.moreRanges", "feedvault/text.startRanges"], apart := false, laid := [("unicode/utf8.acceptRanges", laid_unicode_utf8_acceptRanges), ("feedvault/text.startRanges", laid_feedvault_text_startRanges), ("feedvault/text.moreRanges", laid_feedvault_text_moreRanges), ("unicode/utf8.first", laid_unicode_utf8_first)] }
def TextNamesSaid : Prop := textNamesRow.holds Tryd.pinned (OpenSpec.ofChange textNamesSpec)

/-- ITS FALSE NEIGHBOUR: 'it returns false'. Refute it at one input. -/
def textNamesWrong : ChangeSpec := { name := "textNames", fn := fun _ => fun
  | [d1, d2] => { results := [.lit (.bool false)], args := [d1, d2] }
  | _ => none }
def TextNamesWrongFalsely : Prop := textNamesRow.holds Tryd.pinned (OpenSpec.ofChange textNamesWrong)

/-- 'feedvaultlaw01.TextCollapseMatchesReference': WHATEVER THE INPUT: true; the input reads as it did. -/
def textCollapseMatchesReferenceSpec : ChangeSpec := { name := "textCollapseMatchesReference", fn := fun _ => fun
  | [d] => { results := [.lit (.bool true)], args := [d] }
  | _ => none }
def textCollapseMatchesReferenceRow : OpenClaim := { program := "ytnicedfakjmbcaadoor", sum := "fb3471f198f55cb12fb47eeb7786d331ebb1250becffc879cf22135380155065", func := "feedvault/feedvaultlaw01.TextCollapseMatchesReference", spec := "textCollapseMatchesReference", inPlace := ["internal/abi.NoEscape"], named := ["unicode/utf8.first", "unicode/utf8.acceptRanges", "feedvault/text.moreRanges", "feedvault/text.startRanges"], apart := false, laid := [("unicode/utf8.acceptRanges", laid_unicode_utf8_acceptRanges), ("feedvault/text.startRanges", laid_feedvault_text_startRanges), ("feedvault/text.moreRanges", laid_feedvault_text_moreRanges), ("unicode/utf8.first", laid_unicode_utf8_first)] }
def TextCollapseMatchesReferenceSaid : Prop := textCollapseMatchesReferenceRow.holds Tryd.pinned (OpenSpec.ofChange textCollapseMatchesReferenceSpec)

/-- ITS FALSE NEIGHBOUR: 'it returns false'. Refute it at one input. -/
def textCollapseMatchesReferenceWrong : ChangeSpec := { name := "textCollapseMatchesReference", fn := fun _ => fun
  | [d] => { results := [.lit (.bool false)], args := [d] }
  | _ => none }
def TextCollapseMatchesReferenceWrongFalsely : Prop := textCollapseMatchesReferenceRow.holds Tryd.pinned (OpenSpec.ofChange textCollapseMatchesReferenceWrong)

/-- 'feedvaultlaw01.TextCollapseComposes': WHATEVER THE INPUT: true; the input reads as it did. -/
def textCollapseComposesSpec : ChangeSpec := { name := "textCollapseComposes", fn := fun _ => fun
  | [d1, d2, d3] => { results := [.lit (.bool true)], args := [d1, d2, d3] }
  | _ => none }
def textCollapseComposesRow : OpenClaim := { program := "ytnicedfakjmbcaadoor", sum := "fb3471f198f55cb12fb47eeb7786d331ebb1250becffc879cf22135380155065", func := "feedvault/feedvaultlaw01.TextCollapseComposes", spec := "textCollapseComposes", inPlace := ["internal/abi.NoEscape"], named := ["unicode/utf8.first", "unicode/utf8.acceptRanges", "feedvault/text.moreRanges", "feedvault/text.startRanges"], apart := false, laid := [("unicode/utf8.acceptRanges", laid_unicode_utf8_acceptRanges), ("feedvault/text.startRanges", laid_feedvault_text_startRanges), ("feedvault/text.moreRanges", laid_feedvault_text_moreRanges), ("unicode/utf8.first", laid_unicode_utf8_first)] }
def TextCollapseComposesSaid : Prop := textCollapseComposesRow.holds Tryd.pinned (OpenSpec.ofChange textCollapseComposesSpec)

/-- ITS FALSE NEIGHBOUR: 'it returns false'. Refute it at one input. -/
def textCollapseComposesWrong : ChangeSpec := { name := "textCollapseComposes", fn := fun _ => fun
  | [d1, d2, d3] => { results := [.lit (.bool false)], args := [d1, d2, d3] }
  | _ => none }
def TextCollapseComposesWrongFalsely : Prop := textCollapseComposesRow.holds Tryd.pinned (OpenSpec.ofChange textCollapseComposesWrong)

/-- 'feedvaultlaw01.TextCheckConcatenation': WHATEVER THE INPUT: true; the input reads as it did. -/
def textCheckConcatenationSpec : ChangeSpec := { name := "textCheckConcatenation", fn := fun _ => fun
  | [d1, d2] => { results := [.lit (.bool true)], args := [d1, d2] }
  | _ => none }
def textCheckConcatenationRow : OpenClaim := { program := "ytnicedfakjmbcaadoor", sum := "fb3471f198f55cb12fb47eeb7786d331ebb1250becffc879cf22135380155065", func := "feedvault/feedvaultlaw01.TextCheckConcatenation", spec := "textCheckConcatenation", inPlace := ["internal/abi.NoEscape"], named := ["unicode/utf8.first", "unicode/utf8.acceptRanges", "feedvault/text.moreRanges", "feedvault/text.startRanges"], apart := false, laid := [("unicode/utf8.acceptRanges", laid_unicode_utf8_acceptRanges), ("feedvault/text.startRanges", laid_feedvault_text_startRanges), ("feedvault/text.moreRanges", laid_feedvault_text_moreRanges), ("unicode/utf8.first", laid_unicode_utf8_first)] }
def TextCheckConcatenationSaid : Prop := textCheckConcatenationRow.holds Tryd.pinned (OpenSpec.ofChange textCheckConcatenationSpec)

/-- ITS FALSE NEIGHBOUR: 'it returns false'. Refute it at one input. -/
def textCheckConcatenationWrong : ChangeSpec := { name := "textCheckConcatenation", fn := fun _ => fun
  | [d1, d2] => { results := [.lit (.bool false)], args := [d1, d2] }
  | _ => none }
def TextCheckConcatenationWrongFalsely : Prop := textCheckConcatenationRow.holds Tryd.pinned (OpenSpec.ofChange textCheckConcatenationWrong)

/-- 'feedvaultlaw10.JsonstringQuotes': WHATEVER THE INPUT: true; the input reads as it did. -/
def jsonstringQuotesSpec : ChangeSpec := { name := "jsonstringQuotes", fn := fun _ => fun
  | [d] => { results := [.lit (.bool true)], args := [d] }
  | _ => none }
def jsonstringQuotesRow : OpenClaim := { program := "ytnicedfakjmbcaadoor", sum := "fb3471f198f55cb12fb47eeb7786d331ebb1250becffc879cf22135380155065", func := "feedvault/feedvaultlaw10.JsonstringQuotes", spec := "jsonstringQuotes", inPlace := ["internal/abi.NoEscape", "internal/bytealg.IndexByteString"], named := ["unicode/utf8.first", "unicode/utf8.acceptRanges", "feedvault/jsonstring.letters"], apart := false, laid := [("unicode/utf8.acceptRanges", laid_unicode_utf8_acceptRanges), ("feedvault/jsonstring.letters", laid_feedvault_jsonstring_letters), ("unicode/utf8.first", laid_unicode_utf8_first)] }
def JsonstringQuotesSaid : Prop := jsonstringQuotesRow.holds Tryd.pinned (OpenSpec.ofChange jsonstringQuotesSpec)

/-- ITS FALSE NEIGHBOUR: 'it returns false'. Refute it at one input. -/
def jsonstringQuotesWrong : ChangeSpec := { name := "jsonstringQuotes", fn := fun _ => fun
  | [d] => { results := [.lit (.bool false)], args := [d] }
  | _ => none }
def JsonstringQuotesWrongFalsely : Prop := jsonstringQuotesRow.holds Tryd.pinned (OpenSpec.ofChange jsonstringQuotesWrong)

/-- 'feedvaultlaw10.JsonstringParses': WHATEVER THE INPUT: true; the input reads as it did. -/
def jsonstringParsesSpec : ChangeSpec := { name := "jsonstringParses", fn := fun _ => fun
  | [d1, d2] => { results := [.lit (.bool true)], args := [d1, d2] }
  | _ => none }
def jsonstringParsesRow : OpenClaim := { program := "ytnicedfakjmbcaadoor", sum := "fb3471f198f55cb12fb47eeb7786d331ebb1250becffc879cf22135380155065", func := "feedvault/feedvaultlaw10.JsonstringParses", spec := "jsonstringParses", inPlace := ["internal/abi.NoEscape", "internal/bytealg.IndexByteString"], named := ["unicode/utf8.first", "unicode/utf8.acceptRanges", "feedvault/jsonstring.letters"], apart := false, laid := [("unicode/utf8.acceptRanges", laid_unicode_utf8_acceptRanges), ("feedvault/jsonstring.letters", laid_feedvault_jsonstring_letters), ("unicode/utf8.first", laid_unicode_utf8_first)] }
def JsonstringParsesSaid : Prop := jsonstringParsesRow.holds Tryd.pinned (OpenSpec.ofChange jsonstringParsesSpec)

/-- ITS FALSE NEIGHBOUR: 'it returns false'. Refute it at one input. -/
def jsonstringParsesWrong : ChangeSpec := { name := "jsonstringParses", fn := fun _ => fun
  | [d1, d2] => { results := [.lit (.bool false)], args := [d1, d2] }
  | _ => none }
def JsonstringParsesWrongFalsely : Prop := jsonstringParsesRow.holds Tryd.pinned (OpenSpec.ofChange jsonstringParsesWrong)

/-- 'feedvaultlaw10.JsonstringRoundTrip': WHATEVER THE INPUT: true; the input reads as it did. -/
def jsonstringRoundTripSpec : ChangeSpec := { name := "jsonstringRoundTrip", fn := fun _ => fun
  | [d1, d2, d3] => { results := [.lit (.bool true)], args := [d1, d2, d3] }
  | _ => none }
def jsonstringRoundTripRow : OpenClaim := { program := "ytnicedfakjmbcaadoor", sum := "fb3471f198f55cb12fb47eeb7786d331ebb1250becffc879cf22135380155065", func := "feedvault/feedvaultlaw10.JsonstringRoundTrip", spec := "jsonstringRoundTrip", inPlace := ["internal/abi.NoEscape", "internal/bytealg.IndexByteString"], named := ["unicode/utf8.first", "unicode/utf8.acceptRanges", "feedvault/jsonstring.letters"], apart := false, laid := [("unicode/utf8.acceptRanges", laid_unicode_utf8_acceptRanges), ("feedvault/jsonstring.letters", laid_feedvault_jsonstring_letters), ("unicode/utf8.first", laid_unicode_utf8_first)] }
def JsonstringRoundTripSaid : Prop := jsonstringRoundTripRow.holds Tryd.pinned (OpenSpec.ofChange jsonstringRoundTripSpec)

/-- ITS FALSE NEIGHBOUR: 'it returns false'. Refute it at one input. -/
def jsonstringRoundTripWrong : ChangeSpec := { name := "jsonstringRoundTrip", fn := fun _ => fun
  | [d1, d2, d3] => { results := [.lit (.bool false)], args := [d1, d2, d3] }
  | _ => none }
def JsonstringRoundTripWrongFalsely : Prop := jsonstringRoundTripRow.holds Tryd.pinned (OpenSpec.ofChange jsonstringRoundTripWrong)

/-- 'feedvaultlaw10.JsonstringConcatenation': WHATEVER THE INPUT: true; the input reads as it did. -/
def jsonstringConcatenationSpec : ChangeSpec := { name := "jsonstringConcatenation", fn := fun _ => fun
  | [d1, d2] => { results := [.lit (.bool true)], args := [d1, d2] }
  | _ => none }
def jsonstringConcatenationRow : OpenClaim := { program := "ytnicedfakjmbcaadoor", sum := "fb3471f198f55cb12fb47eeb7786d331ebb1250becffc879cf22135380155065", func := "feedvault/feedvaultlaw10.JsonstringConcatenation", spec := "jsonstringConcatenation", inPlace := ["internal/abi.NoEscape", "internal/bytealg.IndexByteString"], named := ["unicode/utf8.first", "unicode/utf8.acceptRanges", "feedvault/jsonstring.letters"], apart := false, laid := [("unicode/utf8.acceptRanges", laid_unicode_utf8_acceptRanges), ("feedvault/jsonstring.letters", laid_feedvault_jsonstring_letters), ("unicode/utf8.first", laid_unicode_utf8_first)] }
def JsonstringConcatenationSaid : Prop := jsonstringConcatenationRow.holds Tryd.pinned (OpenSpec.ofChange jsonstringConcatenationSpec)

/-- ITS FALSE NEIGHBOUR: 'it returns false'. Refute it at one input. -/
def jsonstringConcatenationWrong : ChangeSpec := { name := "jsonstringConcatenation", fn := fun _ => fun
  | [d1, d2] => { results := [.lit (.bool false)], args := [d1, d2] }
  | _ => none }
def JsonstringConcatenationWrongFalsely : Prop := jsonstringConcatenationRow.holds Tryd.pinned (OpenSpec.ofChange jsonstringConcatenationWrong)

/-- 'feedvaultlaw10.JsonstringNumbers': WHATEVER THE INPUT: true; the input reads as it did. -/
def jsonstringNumbersSpec : ChangeSpec := { name := "jsonstringNumbers", fn := fun _ => fun
  | [d1, d2] => { results := [.lit (.bool true)], args := [d1, d2] }
  | _ => none }
def jsonstringNumbersRow : OpenClaim := { program := "ytnicedfakjmbcaadoor", sum := "fb3471f198f55cb12fb47eeb7786d331ebb1250becffc879cf22135380155065", func := "feedvault/feedvaultlaw10.JsonstringNumbers", spec := "jsonstringNumbers", inPlace := ["internal/bytealg.IndexByteString", "internal/abi.NoEscape"], named := ["unicode/utf8.first", "unicode/utf8.acceptRanges", "feedvault/jsonstring.letters"], apart := false, laid := [("unicode/utf8.acceptRanges", laid_unicode_utf8_acceptRanges), ("feedvault/jsonstring.letters", laid_feedvault_jsonstring_letters), ("unicode/utf8.first", laid_unicode_utf8_first)] }
def JsonstringNumbersSaid : Prop := jsonstringNumbersRow.holds Tryd.pinned (OpenSpec.ofChange jsonstringNumbersSpec)

/-- ITS FALSE NEIGHBOUR: 'it returns false'. Refute it at one input. -/
def jsonstringNumbersWrong : ChangeSpec := { name := "jsonstringNumbers", fn := fun _ => fun
  | [d1, d2] => { results := [.lit (.bool false)], args := [d1, d2] }
  | _ => none }
def JsonstringNumbersWrongFalsely : Prop := jsonstringNumbersRow.holds Tryd.pinned (OpenSpec.ofChange jsonstringNumbersWrong)

/-- 'feedvaultlaw10.JsonstringPrefixes': WHATEVER THE INPUT: true; the input reads as it did. -/
def jsonstringPrefixesSpec : ChangeSpec := { name := "jsonstringPrefixes", fn := fun _ => fun
  | [d1, d2] => { results := [.lit (.bool true)], args := [d1, d2] }
  | _ => none }
def jsonstringPrefixesRow : OpenClaim := { program := "ytnicedfakjmbcaadoor", sum := "fb3471f198f55cb12fb47eeb7786d331ebb1250becffc879cf22135380155065", func := "feedvault/feedvaultlaw10.JsonstringPrefixes", spec := "jsonstringPrefixes", inPlace := ["internal/abi.NoEscape", "internal/bytealg.IndexByteString"], named := ["unicode/utf8.first", "unicode/utf8.acceptRanges", "feedvault/jsonstring.letters"], apart := false, laid := [("unicode/utf8.acceptRanges", laid_unicode_utf8_acceptRanges), ("feedvault/jsonstring.letters", laid_feedvault_jsonstring_letters), ("unicode/utf8.first", laid_unicode_utf8_first)] }
def JsonstringPrefixesSaid : Prop := jsonstringPrefixesRow.holds Tryd.pinned (OpenSpec.ofChange jsonstringPrefixesSpec)

/-- ITS FALSE NEIGHBOUR: 'it returns false'. Refute it at one input. -/
def jsonstringPrefixesWrong : ChangeSpec := { name := "jsonstringPrefixes", fn := fun _ => fun
  | [d1, d2] => { results := [.lit (.bool false)], args := [d1, d2] }
  | _ => none }
def JsonstringPrefixesWrongFalsely : Prop := jsonstringPrefixesRow.holds Tryd.pinned (OpenSpec.ofChange jsonstringPrefixesWrong)

/- THE SECOND FORM. 'bulk': how many values and letters a reading holds, each counted each time it is reached (what is shared counts as often as it is met; a slice's spare places count too). A statement '..UptoSaid' is the law's where the arguments, and the package variables that the reading takes, are together of bulk at most 1048576: NARROWER than '..Said'. Prove '..Said' where nothing that the law and all that it calls make is longer than what came in: it says more and counts as full. Else prove '..UptoSaid'. A law counts once. -/
mutual
def uptoBulk {H : Type} : DataW H → Nat
  | .lit (.string bytes) => bytes.length + 1
  | .lit _ => 1
  | .nil => 1
  | .ptr d => uptoBulk d + 1
  | .slice elems spare => uptoBulkAll elems + uptoBulkAll spare + 1
  | .agg parts => uptoBulkAll parts + 1
  | .iface _ d => uptoBulk d + 1
  | .map entries => uptoBulkEntries entries + 1
  | .held _ => 1
def uptoBulkAll {H : Type} : List (DataW H) → Nat
  | [] => 0
  | d :: r => uptoBulk d + uptoBulkAll r
def uptoBulkEntries {H : Type} : List (Lit × DataW H) → Nat
  | [] => 0
  | x :: r => uptoBulkEntry x + uptoBulkEntries r
def uptoBulkEntry {H : Type} : Lit × DataW H → Nat
  | (.string bytes, d) => bytes.length + uptoBulk d + 1
  | (_, d) => uptoBulk d + 1
 end
def uptoSmall : (H : Type) → List (DataW H) → Bool := fun _ ds => decide (uptoBulkAll ds ≤ 1048576)
def OpenSpec.upto (s : _root_.Go.ChangeSpec) : _root_.Go.OpenSpec := { _root_.Go.OpenSpec.ofChange s with cond := some uptoSmall }

/-- 'feedvaultlaw01.TextDecodeMatchesReference', WHERE WHAT IT READS IS OF BULK AT MOST 1048576: true; the input reads as it did. -/
def textDecodeMatchesReferenceUptoRow : OpenClaim := { program := "ytnicedfakjmbcaadoor", sum := "fb3471f198f55cb12fb47eeb7786d331ebb1250becffc879cf22135380155065", func := "feedvault/feedvaultlaw01.TextDecodeMatchesReference", spec := "textDecodeMatchesReference", inPlace := ["internal/abi.NoEscape"], named := ["unicode/utf8.first", "unicode/utf8.acceptRanges", "feedvault/text.moreRanges", "feedvault/text.startRanges"], apart := false, laid := [("unicode/utf8.acceptRanges", laid_unicode_utf8_acceptRanges), ("feedvault/text.startRanges", laid_feedvault_text_startRanges), ("feedvault/text.moreRanges", laid_feedvault_text_moreRanges), ("unicode/utf8.first", laid_unicode_utf8_first)], narrowed := true }
def TextDecodeMatchesReferenceUptoSaid : Prop := textDecodeMatchesReferenceUptoRow.holds Tryd.pinned (OpenSpec.upto textDecodeMatchesReferenceSpec)

/-- 'feedvaultlaw01.TextCheckMatchesReference', WHERE WHAT IT READS IS OF BULK AT MOST 1048576: true; the input reads as it did. -/
def textCheckMatchesReferenceUptoRow : OpenClaim := { program := "ytnicedfakjmbcaadoor", sum := "fb3471f198f55cb12fb47eeb7786d331ebb1250becffc879cf22135380155065", func := "feedvault/feedvaultlaw01.TextCheckMatchesReference", spec := "textCheckMatchesReference", inPlace := ["internal/abi.NoEscape"], named := ["unicode/utf8.first", "unicode/utf8.acceptRanges", "feedvault/text.moreRanges", "feedvault/text.startRanges"], apart := false, laid := [("unicode/utf8.acceptRanges", laid_unicode_utf8_acceptRanges), ("feedvault/text.startRanges", laid_feedvault_text_startRanges), ("feedvault/text.moreRanges", laid_feedvault_text_moreRanges), ("unicode/utf8.first", laid_unicode_utf8_first)], narrowed := true }
def TextCheckMatchesReferenceUptoSaid : Prop := textCheckMatchesReferenceUptoRow.holds Tryd.pinned (OpenSpec.upto textCheckMatchesReferenceSpec)

/-- 'feedvaultlaw01.TextClassesMatchReference', WHERE WHAT IT READS IS OF BULK AT MOST 1048576: true; the input reads as it did. -/
def textClassesMatchReferenceUptoRow : OpenClaim := { program := "ytnicedfakjmbcaadoor", sum := "fb3471f198f55cb12fb47eeb7786d331ebb1250becffc879cf22135380155065", func := "feedvault/feedvaultlaw01.TextClassesMatchReference", spec := "textClassesMatchReference", inPlace := ["internal/abi.NoEscape"], named := ["unicode/utf8.first", "unicode/utf8.acceptRanges", "feedvault/text.moreRanges", "feedvault/text.startRanges"], apart := false, laid := [("unicode/utf8.acceptRanges", laid_unicode_utf8_acceptRanges), ("feedvault/text.startRanges", laid_feedvault_text_startRanges), ("feedvault/text.moreRanges", laid_feedvault_text_moreRanges), ("unicode/utf8.first", laid_unicode_utf8_first)], narrowed := true }
def TextClassesMatchReferenceUptoSaid : Prop := textClassesMatchReferenceUptoRow.holds Tryd.pinned (OpenSpec.upto textClassesMatchReferenceSpec)

/-- 'feedvaultlaw01.TextNames', WHERE WHAT IT READS IS OF BULK AT MOST 1048576: true; the input reads as it did. -/
def textNamesUptoRow : OpenClaim := { program := "ytnicedfakjmbcaadoor", sum := "fb3471f198f55cb12fb47eeb7786d331ebb1250becffc879cf22135380155065", func := "feedvault/feedvaultlaw01.TextNames", spec := "textNames", inPlace := ["internal/abi.NoEscape"], named := ["unicode/utf8.first", "unicode/utf8.acceptRanges", "feedvault/text.moreRanges", "feedvault/text.startRanges"], apart := false, laid := [("unicode/utf8.acceptRanges", laid_unicode_utf8_acceptRanges), ("feedvault/text.startRanges", laid_feedvault_text_startRanges), ("feedvault/text.moreRanges", laid_feedvault_text_moreRanges), ("unicode/utf8.first", laid_unicode_utf8_first)], narrowed := true }
def TextNamesUptoSaid : Prop := textNamesUptoRow.holds Tryd.pinned (OpenSpec.upto textNamesSpec)

/-- 'feedvaultlaw01.TextCollapseMatchesReference', WHERE WHAT IT READS IS OF BULK AT MOST 1048576: true; the input reads as it did. -/
def textCollapseMatchesReferenceUptoRow : OpenClaim := { program := "ytnicedfakjmbcaadoor", sum := "fb3471f198f55cb12fb47eeb7786d331ebb1250becffc879cf22135380155065", func := "feedvault/feedvaultlaw01.TextCollapseMatchesReference", spec := "textCollapseMatchesReference", inPlace := ["internal/abi.NoEscape"], named := ["unicode/utf8.first", "unicode/utf8.acceptRanges", "feedvault/text.moreRanges", "feedvault/text.startRanges"], apart := false, laid := [("unicode/utf8.acceptRanges", laid_unicode_utf8_acceptRanges), ("feedvault/text.startRanges", laid_feedvault_text_startRanges), ("feedvault/text.moreRanges", laid_feedvault_text_moreRanges), ("unicode/utf8.first", laid_unicode_utf8_first)], narrowed := true }
def TextCollapseMatchesReferenceUptoSaid : Prop := textCollapseMatchesReferenceUptoRow.holds Tryd.pinned (OpenSpec.upto textCollapseMatchesReferenceSpec)

/-- 'feedvaultlaw01.TextCollapseComposes', WHERE WHAT IT READS IS OF BULK AT MOST 1048576: true; the input reads as it did. -/
def textCollapseComposesUptoRow : OpenClaim := { program := "ytnicedfakjmbcaadoor", sum := "fb3471f198f55cb12fb47eeb7786d331ebb1250becffc879cf22135380155065", func := "feedvault/feedvaultlaw01.TextCollapseComposes", spec := "textCollapseComposes", inPlace := ["internal/abi.NoEscape"], named := ["unicode/utf8.first", "unicode/utf8.acceptRanges", "feedvault/text.moreRanges", "feedvault/text.startRanges"], apart := false, laid := [("unicode/utf8.acceptRanges", laid_unicode_utf8_acceptRanges), ("feedvault/text.startRanges", laid_feedvault_text_startRanges), ("feedvault/text.moreRanges", laid_feedvault_text_moreRanges), ("unicode/utf8.first", laid_unicode_utf8_first)], narrowed := true }
def TextCollapseComposesUptoSaid : Prop := textCollapseComposesUptoRow.holds Tryd.pinned (OpenSpec.upto textCollapseComposesSpec)

/-- 'feedvaultlaw01.TextCheckConcatenation', WHERE WHAT IT READS IS OF BULK AT MOST 1048576: true; the input reads as it did. -/
def textCheckConcatenationUptoRow : OpenClaim := { program := "ytnicedfakjmbcaadoor", sum := "fb3471f198f55cb12fb47eeb7786d331ebb1250becffc879cf22135380155065", func := "feedvault/feedvaultlaw01.TextCheckConcatenation", spec := "textCheckConcatenation", inPlace := ["internal/abi.NoEscape"], named := ["unicode/utf8.first", "unicode/utf8.acceptRanges", "feedvault/text.moreRanges", "feedvault/text.startRanges"], apart := false, laid := [("unicode/utf8.acceptRanges", laid_unicode_utf8_acceptRanges), ("feedvault/text.startRanges", laid_feedvault_text_startRanges), ("feedvault/text.moreRanges", laid_feedvault_text_moreRanges), ("unicode/utf8.first", laid_unicode_utf8_first)], narrowed := true }
def TextCheckConcatenationUptoSaid : Prop := textCheckConcatenationUptoRow.holds Tryd.pinned (OpenSpec.upto textCheckConcatenationSpec)

/-- 'feedvaultlaw10.JsonstringQuotes', WHERE WHAT IT READS IS OF BULK AT MOST 1048576: true; the input reads as it did. -/
def jsonstringQuotesUptoRow : OpenClaim := { program := "ytnicedfakjmbcaadoor", sum := "fb3471f198f55cb12fb47eeb7786d331ebb1250becffc879cf22135380155065", func := "feedvault/feedvaultlaw10.JsonstringQuotes", spec := "jsonstringQuotes", inPlace := ["internal/abi.NoEscape", "internal/bytealg.IndexByteString"], named := ["unicode/utf8.first", "unicode/utf8.acceptRanges", "feedvault/jsonstring.letters"], apart := false, laid := [("unicode/utf8.acceptRanges", laid_unicode_utf8_acceptRanges), ("feedvault/jsonstring.letters", laid_feedvault_jsonstring_letters), ("unicode/utf8.first", laid_unicode_utf8_first)], narrowed := true }
def JsonstringQuotesUptoSaid : Prop := jsonstringQuotesUptoRow.holds Tryd.pinned (OpenSpec.upto jsonstringQuotesSpec)

/-- 'feedvaultlaw10.JsonstringParses', WHERE WHAT IT READS IS OF BULK AT MOST 1048576: true; the input reads as it did. -/
def jsonstringParsesUptoRow : OpenClaim := { program := "ytnicedfakjmbcaadoor", sum := "fb3471f198f55cb12fb47eeb7786d331ebb1250becffc879cf22135380155065", func := "feedvault/feedvaultlaw10.JsonstringParses", spec := "jsonstringParses", inPlace := ["internal/abi.NoEscape", "internal/bytealg.IndexByteString"], named := ["unicode/utf8.first", "unicode/utf8.acceptRanges", "feedvault/jsonstring.letters"], apart := false, laid := [("unicode/utf8.acceptRanges", laid_unicode_utf8_acceptRanges), ("feedvault/jsonstring.letters", laid_feedvault_jsonstring_letters), ("unicode/utf8.first", laid_unicode_utf8_first)], narrowed := true }
def JsonstringParsesUptoSaid : Prop := jsonstringParsesUptoRow.holds Tryd.pinned (OpenSpec.upto jsonstringParsesSpec)

/-- 'feedvaultlaw10.JsonstringRoundTrip', WHERE WHAT IT READS IS OF BULK AT MOST 1048576: true; the input reads as it did. -/
def jsonstringRoundTripUptoRow : OpenClaim := { program := "ytnicedfakjmbcaadoor", sum := "fb3471f198f55cb12fb47eeb7786d331ebb1250becffc879cf22135380155065", func := "feedvault/feedvaultlaw10.JsonstringRoundTrip", spec := "jsonstringRoundTrip", inPlace := ["internal/abi.NoEscape", "internal/bytealg.IndexByteString"], named := ["unicode/utf8.first", "unicode/utf8.acceptRanges", "feedvault/jsonstring.letters"], apart := false, laid := [("unicode/utf8.acceptRanges", laid_unicode_utf8_acceptRanges), ("feedvault/jsonstring.letters", laid_feedvault_jsonstring_letters), ("unicode/utf8.first", laid_unicode_utf8_first)], narrowed := true }
def JsonstringRoundTripUptoSaid : Prop := jsonstringRoundTripUptoRow.holds Tryd.pinned (OpenSpec.upto jsonstringRoundTripSpec)

/-- 'feedvaultlaw10.JsonstringConcatenation', WHERE WHAT IT READS IS OF BULK AT MOST 1048576: true; the input reads as it did. -/
def jsonstringConcatenationUptoRow : OpenClaim := { program := "ytnicedfakjmbcaadoor", sum := "fb3471f198f55cb12fb47eeb7786d331ebb1250becffc879cf22135380155065", func := "feedvault/feedvaultlaw10.JsonstringConcatenation", spec := "jsonstringConcatenation", inPlace := ["internal/abi.NoEscape", "internal/bytealg.IndexByteString"], named := ["unicode/utf8.first", "unicode/utf8.acceptRanges", "feedvault/jsonstring.letters"], apart := false, laid := [("unicode/utf8.acceptRanges", laid_unicode_utf8_acceptRanges), ("feedvault/jsonstring.letters", laid_feedvault_jsonstring_letters), ("unicode/utf8.first", laid_unicode_utf8_first)], narrowed := true }
def JsonstringConcatenationUptoSaid : Prop := jsonstringConcatenationUptoRow.holds Tryd.pinned (OpenSpec.upto jsonstringConcatenationSpec)

/-- 'feedvaultlaw10.JsonstringNumbers', WHERE WHAT IT READS IS OF BULK AT MOST 1048576: true; the input reads as it did. -/
def jsonstringNumbersUptoRow : OpenClaim := { program := "ytnicedfakjmbcaadoor", sum := "fb3471f198f55cb12fb47eeb7786d331ebb1250becffc879cf22135380155065", func := "feedvault/feedvaultlaw10.JsonstringNumbers", spec := "jsonstringNumbers", inPlace := ["internal/bytealg.IndexByteString", "internal/abi.NoEscape"], named := ["unicode/utf8.first", "unicode/utf8.acceptRanges", "feedvault/jsonstring.letters"], apart := false, laid := [("unicode/utf8.acceptRanges", laid_unicode_utf8_acceptRanges), ("feedvault/jsonstring.letters", laid_feedvault_jsonstring_letters), ("unicode/utf8.first", laid_unicode_utf8_first)], narrowed := true }
def JsonstringNumbersUptoSaid : Prop := jsonstringNumbersUptoRow.holds Tryd.pinned (OpenSpec.upto jsonstringNumbersSpec)

/-- 'feedvaultlaw10.JsonstringPrefixes', WHERE WHAT IT READS IS OF BULK AT MOST 1048576: true; the input reads as it did. -/
def jsonstringPrefixesUptoRow : OpenClaim := { program := "ytnicedfakjmbcaadoor", sum := "fb3471f198f55cb12fb47eeb7786d331ebb1250becffc879cf22135380155065", func := "feedvault/feedvaultlaw10.JsonstringPrefixes", spec := "jsonstringPrefixes", inPlace := ["internal/abi.NoEscape", "internal/bytealg.IndexByteString"], named := ["unicode/utf8.first", "unicode/utf8.acceptRanges", "feedvault/jsonstring.letters"], apart := false, laid := [("unicode/utf8.acceptRanges", laid_unicode_utf8_acceptRanges), ("feedvault/jsonstring.letters", laid_feedvault_jsonstring_letters), ("unicode/utf8.first", laid_unicode_utf8_first)], narrowed := true }
def JsonstringPrefixesUptoSaid : Prop := jsonstringPrefixesUptoRow.holds Tryd.pinned (OpenSpec.upto jsonstringPrefixesSpec)

end Rows
end Go.Proofs.YtnicedfakjmbcaaDoor
