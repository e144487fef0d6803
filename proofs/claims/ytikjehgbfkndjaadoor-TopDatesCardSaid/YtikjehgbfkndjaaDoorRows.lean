/-
  NARROWER THAN 'FOR EVERY INPUT', by the rows' own cells (each row's printed sentence says how): TopDates: laid · Rfc3339FormatMatchesReference: laid · Rfc3339ParseMatchesReference: laid · Rfc3339RoundTrip: laid · Rfc3339Order: laid · Rfc3339Offsets: laid · Rfc3339Strict: laid.
  DERIVED. THE GIVEN ROWS OF THIS SEAT. 7 by the template 'for every input the law returns true; each argument reads behind the call as it read before'; 0 by the template 'total and deterministic' (their statements: YtikjehgbfkndjaaDoorTotals.lean).
  GIVEN WITH THE SEED: the statements are not yours to turn. If you find one false, say at which input.
  Laid BY PROGRAM, IN A SANDBOX (cutbox-rows.mjs): the forced cells as the released guide's own fill.sh prints them over the translation 9b1d6f56bc2d32d5… (all of the seat's roots in one cut). By AI agents, Wed Nov 11 2026. No macro, syntax, notation, axiom, sorry.
-/
import Derived.Test.YtikjehgbfkndjaaDoorChecked
import GoSem.PinnedTables
import GoSem.Claim
import GoSem.ClaimJoined
import GoSem.ClaimMapViews
import Derived.JoinedTies
import Derived.KernelRfl
namespace Go.Proofs.YtikjehgbfkndjaaDoor
/- THE CELL 'sum', in the pinned program and in every row, IS THE sha256 OF THE DUMP (.gsa) THAT YtikjehgbfkndjaaDoorProg.lean LOADS. Nothing in Lean hashes anything: it is a label: what it is worth is what the hold of that sum in a sandbox is worth. -/
noncomputable def Tryd.pinned : Pinned := { name := "ytikjehgbfkndjaadoor", sum := "9b1d6f56bc2d32d5c5a80fcb4e9a02399a9c598277a7be7173b6d01e5aee4b1d", checked := Tryd.checked }
namespace Rows
def none {H : Type} : Left H := { results := [], args := [] }

/- WHAT THE LISTED PACKAGE-LEVEL VARIABLES READ AS WHEN THE CALL BEGINS. Each datum BY PROGRAM (the guide's laid-datum.mjs) off the statement by which the dump's own 'gosem.cut.vars' lays the variable. In a bare row this is a premise. The card (YtikjehgbfkndjaaDoorCards.lean) ties it to the program's text. -/
def laid_math_bits_deBruijn32tab {H : Type} : DataW H := .agg [.lit (.int .u8 0), .lit (.int .u8 1), .lit (.int .u8 28), .lit (.int .u8 2), .lit (.int .u8 29), .lit (.int .u8 14), .lit (.int .u8 24), .lit (.int .u8 3), .lit (.int .u8 30), .lit (.int .u8 22), .lit (.int .u8 20), .lit (.int .u8 15), .lit (.int .u8 25), .lit (.int .u8 17), .lit (.int .u8 4), .lit (.int .u8 8), .lit (.int .u8 31), .lit (.int .u8 27), .lit (.int .u8 13), .lit (.int .u8 23), .lit (.int .u8 21), .lit (.int .u8 19), .lit (.int .u8 16), .lit (.int .u8 7), .lit (.int .u8 26), .lit (.int .u8 12), .lit (.int .u8 18), .lit (.int .u8 6), .lit (.int .u8 11), .lit (.int .u8 5), .lit (.int .u8 10), .lit (.int .u8 9)]
def laid_math_bits_deBruijn64tab {H : Type} : DataW H := .agg [.lit (.int .u8 0), .lit (.int .u8 1), .lit (.int .u8 56), .lit (.int .u8 2), .lit (.int .u8 57), .lit (.int .u8 49), .lit (.int .u8 28), .lit (.int .u8 3), .lit (.int .u8 61), .lit (.int .u8 58), .lit (.int .u8 42), .lit (.int .u8 50), .lit (.int .u8 38), .lit (.int .u8 29), .lit (.int .u8 17), .lit (.int .u8 4), .lit (.int .u8 62), .lit (.int .u8 47), .lit (.int .u8 59), .lit (.int .u8 36), .lit (.int .u8 45), .lit (.int .u8 43), .lit (.int .u8 51), .lit (.int .u8 22), .lit (.int .u8 53), .lit (.int .u8 39), .lit (.int .u8 33), .lit (.int .u8 30), .lit (.int .u8 24), .lit (.int .u8 18), .lit (.int .u8 12), .lit (.int .u8 5), .lit (.int .u8 63), .lit (.int .u8 55), .lit (.int .u8 48), .lit (.int .u8 27), .lit (.int .u8 60), .lit (.int .u8 41), .lit (.int .u8 37), .lit (.int .u8 16), .lit (.int .u8 46), .lit (.int .u8 35), .lit (.int .u8 44), .lit (.int .u8 21), .lit (.int .u8 52), .lit (.int .u8 32), .lit (.int .u8 23), .lit (.int .u8 11), .lit (.int .u8 54), .lit (.int .u8 26), .lit (.int .u8 40), .lit (.int .u8 15), .lit (.int .u8 34), .lit (.int .u8 20), .lit (.int .u8 31), .lit (.int .u8 10), .lit (.int .u8 25), .lit (.int .u8 14), .lit (.int .u8 19), .lit (.int .u8 9), .lit (.int .u8 13), .lit (.int .u8 8), .lit (.int .u8 7), .lit (.int .u8 6)]
def laid_internal_strconv_uint64pow10 {H : Type} : DataW H := .agg [.lit (.int .u64 1), .lit (.int .u64 10), .lit (.int .u64 100), .lit (.int .u64 1000), .lit (.int .u64 10000), .lit (.int .u64 100000), .lit (.int .u64 1000000), .lit (.int .u64 10000000), .lit (.int .u64 100000000), .lit (.int .u64 1000000000), .lit (.int .u64 10000000000), .lit (.int .u64 100000000000), .lit (.int .u64 1000000000000), .lit (.int .u64 10000000000000), .lit (.int .u64 100000000000000), .lit (.int .u64 1000000000000000), .lit (.int .u64 10000000000000000), .lit (.int .u64 100000000000000000), .lit (.int .u64 1000000000000000000), .lit (.int .u64 10000000000000000000)]
def laid_unicode_utf8_acceptRanges {H : Type} : DataW H := .agg [.agg [.lit (.int .u8 128), .lit (.int .u8 191)], .agg [.lit (.int .u8 160), .lit (.int .u8 191)], .agg [.lit (.int .u8 128), .lit (.int .u8 159)], .agg [.lit (.int .u8 144), .lit (.int .u8 191)], .agg [.lit (.int .u8 128), .lit (.int .u8 143)], .agg [.lit (.int .u8 0), .lit (.int .u8 0)], .agg [.lit (.int .u8 0), .lit (.int .u8 0)], .agg [.lit (.int .u8 0), .lit (.int .u8 0)], .agg [.lit (.int .u8 0), .lit (.int .u8 0)], .agg [.lit (.int .u8 0), .lit (.int .u8 0)], .agg [.lit (.int .u8 0), .lit (.int .u8 0)], .agg [.lit (.int .u8 0), .lit (.int .u8 0)], .agg [.lit (.int .u8 0), .lit (.int .u8 0)], .agg [.lit (.int .u8 0), .lit (.int .u8 0)], .agg [.lit (.int .u8 0), .lit (.int .u8 0)], .agg [.lit (.int .u8 0), .lit (.int .u8 0)]]
def laid_strconv_ErrRange {H : Type} : DataW H := .iface "*errors.errorString" (.ptr (.agg [.lit (.string [118, 97, 108, 117, 101, 32, 111, 117, 116, 32, 111, 102, 32, 114, 97, 110, 103, 101])]))
def laid_strconv_ErrSyntax {H : Type} : DataW H := .iface "*errors.errorString" (.ptr (.agg [.lit (.string [105, 110, 118, 97, 108, 105, 100, 32, 115, 121, 110, 116, 97, 120])]))
def laid_feedvault_rfc822_dayNames {H : Type} : DataW H := .agg [.lit (.string [115, 117, 110]), .lit (.string [109, 111, 110]), .lit (.string [116, 117, 101]), .lit (.string [119, 101, 100]), .lit (.string [116, 104, 117]), .lit (.string [102, 114, 105]), .lit (.string [115, 97, 116])]
def laid_feedvault_rfc822_monthNames {H : Type} : DataW H := .agg [.lit (.string [106, 97, 110]), .lit (.string [102, 101, 98]), .lit (.string [109, 97, 114]), .lit (.string [97, 112, 114]), .lit (.string [109, 97, 121]), .lit (.string [106, 117, 110]), .lit (.string [106, 117, 108]), .lit (.string [97, 117, 103]), .lit (.string [115, 101, 112]), .lit (.string [111, 99, 116]), .lit (.string [110, 111, 118]), .lit (.string [100, 101, 99])]
/-- One of Go's own tables, pinned by name: the form's constant. -/
def laid_unicode_utf8_first : DataW Unit := Go.Pinned.utf8First

/-- 'feedvaulttop.TopDates': WHATEVER THE INPUT: true; the input reads as it did. -/
def topDatesSpec : ChangeSpec := { name := "topDates", fn := fun _ => fun
  | [d] => { results := [.lit (.bool true)], args := [d] }
  | _ => none }
def topDatesRow : OpenClaim := { program := "ytikjehgbfkndjaadoor", sum := "9b1d6f56bc2d32d5c5a80fcb4e9a02399a9c598277a7be7173b6d01e5aee4b1d", func := "feedvault/feedvaulttop.TopDates", spec := "topDates", inPlace := ["internal/abi.NoEscape", "internal/bytealg.CountString", "internal/bytealg.IndexByteString", "internal/bytealg.IndexString"], named := ["feedvault/rfc822.dayNames", "feedvault/rfc822.monthNames", "internal/strconv.uint64pow10", "math/bits.deBruijn32tab", "math/bits.deBruijn64tab", "strconv.ErrSyntax", "strconv.ErrRange", "unicode/utf8.first", "unicode/utf8.acceptRanges", "internal/bytealg.MaxLen"], apart := false, laid := [("math/bits.deBruijn32tab", laid_math_bits_deBruijn32tab), ("math/bits.deBruijn64tab", laid_math_bits_deBruijn64tab), ("internal/strconv.uint64pow10", laid_internal_strconv_uint64pow10), ("unicode/utf8.acceptRanges", laid_unicode_utf8_acceptRanges), ("strconv.ErrRange", laid_strconv_ErrRange), ("strconv.ErrSyntax", laid_strconv_ErrSyntax), ("feedvault/rfc822.dayNames", laid_feedvault_rfc822_dayNames), ("feedvault/rfc822.monthNames", laid_feedvault_rfc822_monthNames), ("unicode/utf8.first", laid_unicode_utf8_first)] }
def TopDatesSaid : Prop := topDatesRow.holds Tryd.pinned (OpenSpec.ofChange topDatesSpec)

/-- ITS FALSE NEIGHBOUR: 'it returns false'. Refute it at one input. -/
def topDatesWrong : ChangeSpec := { name := "topDates", fn := fun _ => fun
  | [d] => { results := [.lit (.bool false)], args := [d] }
  | _ => none }
def TopDatesWrongFalsely : Prop := topDatesRow.holds Tryd.pinned (OpenSpec.ofChange topDatesWrong)

/-- 'feedvaultlaw03.Rfc3339FormatMatchesReference': WHATEVER THE INPUT: true; the input reads as it did. -/
def rfc3339FormatMatchesReferenceSpec : ChangeSpec := { name := "rfc3339FormatMatchesReference", fn := fun _ => fun
  | [d] => { results := [.lit (.bool true)], args := [d] }
  | _ => none }
def rfc3339FormatMatchesReferenceRow : OpenClaim := { program := "ytikjehgbfkndjaadoor", sum := "9b1d6f56bc2d32d5c5a80fcb4e9a02399a9c598277a7be7173b6d01e5aee4b1d", func := "feedvault/feedvaultlaw03.Rfc3339FormatMatchesReference", spec := "rfc3339FormatMatchesReference", named := ["internal/strconv.uint64pow10", "math/bits.deBruijn32tab", "math/bits.deBruijn64tab"], apart := false, laid := [("math/bits.deBruijn32tab", laid_math_bits_deBruijn32tab), ("math/bits.deBruijn64tab", laid_math_bits_deBruijn64tab), ("internal/strconv.uint64pow10", laid_internal_strconv_uint64pow10)] }
def Rfc3339FormatMatchesReferenceSaid : Prop := rfc3339FormatMatchesReferenceRow.holds Tryd.pinned (OpenSpec.ofChange rfc3339FormatMatchesReferenceSpec)

/-- ITS FALSE NEIGHBOUR: 'it returns false'. Refute it at one input. -/
def rfc3339FormatMatchesReferenceWrong : ChangeSpec := { name := "rfc3339FormatMatchesReference", fn := fun _ => fun
  | [d] => { results := [.lit (.bool false)], args := [d] }
  | _ => none }
def Rfc3339FormatMatchesReferenceWrongFalsely : Prop := rfc3339FormatMatchesReferenceRow.holds Tryd.pinned (OpenSpec.ofChange rfc3339FormatMatchesReferenceWrong)

/-- 'feedvaultlaw03.Rfc3339ParseMatchesReference': WHATEVER THE INPUT: true; the input reads as it did. -/
def rfc3339ParseMatchesReferenceSpec : ChangeSpec := { name := "rfc3339ParseMatchesReference", fn := fun _ => fun
  | [d] => { results := [.lit (.bool true)], args := [d] }
  | _ => none }
def rfc3339ParseMatchesReferenceRow : OpenClaim := { program := "ytikjehgbfkndjaadoor", sum := "9b1d6f56bc2d32d5c5a80fcb4e9a02399a9c598277a7be7173b6d01e5aee4b1d", func := "feedvault/feedvaultlaw03.Rfc3339ParseMatchesReference", spec := "rfc3339ParseMatchesReference", named := ["internal/strconv.uint64pow10", "math/bits.deBruijn32tab", "math/bits.deBruijn64tab"], apart := false, laid := [("math/bits.deBruijn32tab", laid_math_bits_deBruijn32tab), ("math/bits.deBruijn64tab", laid_math_bits_deBruijn64tab), ("internal/strconv.uint64pow10", laid_internal_strconv_uint64pow10)] }
def Rfc3339ParseMatchesReferenceSaid : Prop := rfc3339ParseMatchesReferenceRow.holds Tryd.pinned (OpenSpec.ofChange rfc3339ParseMatchesReferenceSpec)

/-- ITS FALSE NEIGHBOUR: 'it returns false'. Refute it at one input. -/
def rfc3339ParseMatchesReferenceWrong : ChangeSpec := { name := "rfc3339ParseMatchesReference", fn := fun _ => fun
  | [d] => { results := [.lit (.bool false)], args := [d] }
  | _ => none }
def Rfc3339ParseMatchesReferenceWrongFalsely : Prop := rfc3339ParseMatchesReferenceRow.holds Tryd.pinned (OpenSpec.ofChange rfc3339ParseMatchesReferenceWrong)

/-- 'feedvaultlaw03.Rfc3339RoundTrip': WHATEVER THE INPUT: true; the input reads as it did. -/
def rfc3339RoundTripSpec : ChangeSpec := { name := "rfc3339RoundTrip", fn := fun _ => fun
  | [d1, d2] => { results := [.lit (.bool true)], args := [d1, d2] }
  | _ => none }
def rfc3339RoundTripRow : OpenClaim := { program := "ytikjehgbfkndjaadoor", sum := "9b1d6f56bc2d32d5c5a80fcb4e9a02399a9c598277a7be7173b6d01e5aee4b1d", func := "feedvault/feedvaultlaw03.Rfc3339RoundTrip", spec := "rfc3339RoundTrip", named := ["internal/strconv.uint64pow10", "math/bits.deBruijn32tab", "math/bits.deBruijn64tab"], apart := false, laid := [("math/bits.deBruijn32tab", laid_math_bits_deBruijn32tab), ("math/bits.deBruijn64tab", laid_math_bits_deBruijn64tab), ("internal/strconv.uint64pow10", laid_internal_strconv_uint64pow10)] }
def Rfc3339RoundTripSaid : Prop := rfc3339RoundTripRow.holds Tryd.pinned (OpenSpec.ofChange rfc3339RoundTripSpec)

/-- ITS FALSE NEIGHBOUR: 'it returns false'. Refute it at one input. -/
def rfc3339RoundTripWrong : ChangeSpec := { name := "rfc3339RoundTrip", fn := fun _ => fun
  | [d1, d2] => { results := [.lit (.bool false)], args := [d1, d2] }
  | _ => none }
def Rfc3339RoundTripWrongFalsely : Prop := rfc3339RoundTripRow.holds Tryd.pinned (OpenSpec.ofChange rfc3339RoundTripWrong)

/-- 'feedvaultlaw03.Rfc3339Order': WHATEVER THE INPUT: true; the input reads as it did. -/
def rfc3339OrderSpec : ChangeSpec := { name := "rfc3339Order", fn := fun _ => fun
  | [d1, d2] => { results := [.lit (.bool true)], args := [d1, d2] }
  | _ => none }
def rfc3339OrderRow : OpenClaim := { program := "ytikjehgbfkndjaadoor", sum := "9b1d6f56bc2d32d5c5a80fcb4e9a02399a9c598277a7be7173b6d01e5aee4b1d", func := "feedvault/feedvaultlaw03.Rfc3339Order", spec := "rfc3339Order", named := ["internal/strconv.uint64pow10", "math/bits.deBruijn32tab", "math/bits.deBruijn64tab"], apart := false, laid := [("math/bits.deBruijn32tab", laid_math_bits_deBruijn32tab), ("math/bits.deBruijn64tab", laid_math_bits_deBruijn64tab), ("internal/strconv.uint64pow10", laid_internal_strconv_uint64pow10)] }
def Rfc3339OrderSaid : Prop := rfc3339OrderRow.holds Tryd.pinned (OpenSpec.ofChange rfc3339OrderSpec)

/-- ITS FALSE NEIGHBOUR: 'it returns false'. Refute it at one input. -/
def rfc3339OrderWrong : ChangeSpec := { name := "rfc3339Order", fn := fun _ => fun
  | [d1, d2] => { results := [.lit (.bool false)], args := [d1, d2] }
  | _ => none }
def Rfc3339OrderWrongFalsely : Prop := rfc3339OrderRow.holds Tryd.pinned (OpenSpec.ofChange rfc3339OrderWrong)

/-- 'feedvaultlaw03.Rfc3339Offsets': WHATEVER THE INPUT: true; the input reads as it did. -/
def rfc3339OffsetsSpec : ChangeSpec := { name := "rfc3339Offsets", fn := fun _ => fun
  | [d1, d2, d3] => { results := [.lit (.bool true)], args := [d1, d2, d3] }
  | _ => none }
def rfc3339OffsetsRow : OpenClaim := { program := "ytikjehgbfkndjaadoor", sum := "9b1d6f56bc2d32d5c5a80fcb4e9a02399a9c598277a7be7173b6d01e5aee4b1d", func := "feedvault/feedvaultlaw03.Rfc3339Offsets", spec := "rfc3339Offsets", named := ["internal/strconv.uint64pow10", "math/bits.deBruijn32tab", "math/bits.deBruijn64tab"], apart := false, laid := [("math/bits.deBruijn32tab", laid_math_bits_deBruijn32tab), ("math/bits.deBruijn64tab", laid_math_bits_deBruijn64tab), ("internal/strconv.uint64pow10", laid_internal_strconv_uint64pow10)] }
def Rfc3339OffsetsSaid : Prop := rfc3339OffsetsRow.holds Tryd.pinned (OpenSpec.ofChange rfc3339OffsetsSpec)

/-- ITS FALSE NEIGHBOUR: 'it returns false'. Refute it at one input. -/
def rfc3339OffsetsWrong : ChangeSpec := { name := "rfc3339Offsets", fn := fun _ => fun
  | [d1, d2, d3] => { results := [.lit (.bool false)], args := [d1, d2, d3] }
  | _ => none }
def Rfc3339OffsetsWrongFalsely : Prop := rfc3339OffsetsRow.holds Tryd.pinned (OpenSpec.ofChange rfc3339OffsetsWrong)

/-- 'feedvaultlaw03.Rfc3339Strict': WHATEVER THE INPUT: true; the input reads as it did. -/
def rfc3339StrictSpec : ChangeSpec := { name := "rfc3339Strict", fn := fun _ => fun
  | [d1, d2, d3] => { results := [.lit (.bool true)], args := [d1, d2, d3] }
  | _ => none }
def rfc3339StrictRow : OpenClaim := { program := "ytikjehgbfkndjaadoor", sum := "9b1d6f56bc2d32d5c5a80fcb4e9a02399a9c598277a7be7173b6d01e5aee4b1d", func := "feedvault/feedvaultlaw03.Rfc3339Strict", spec := "rfc3339Strict", named := ["internal/strconv.uint64pow10", "math/bits.deBruijn32tab", "math/bits.deBruijn64tab"], apart := false, laid := [("math/bits.deBruijn32tab", laid_math_bits_deBruijn32tab), ("math/bits.deBruijn64tab", laid_math_bits_deBruijn64tab), ("internal/strconv.uint64pow10", laid_internal_strconv_uint64pow10)] }
def Rfc3339StrictSaid : Prop := rfc3339StrictRow.holds Tryd.pinned (OpenSpec.ofChange rfc3339StrictSpec)

/-- ITS FALSE NEIGHBOUR: 'it returns false'. Refute it at one input. -/
def rfc3339StrictWrong : ChangeSpec := { name := "rfc3339Strict", fn := fun _ => fun
  | [d1, d2, d3] => { results := [.lit (.bool false)], args := [d1, d2, d3] }
  | _ => none }
def Rfc3339StrictWrongFalsely : Prop := rfc3339StrictRow.holds Tryd.pinned (OpenSpec.ofChange rfc3339StrictWrong)

/- THE SECOND FORM. 'bulk': how many values and letters a reading holds, each counted each time it is reached (what is shared counts as often as it is met; a slice's spare places count too). A statement '..UptoSaid' is the law's where the arguments, and the package variables that the reading takes, are together of bulk at most 1048576: NARROWER than '..Said'. Prove '..Said' where nothing that the law and all that it calls make is longer than what came in: it says more and counts as full. Else prove '..UptoSaid'. A law counts once. -/
mutual
def uptoBulk {H : Type} : DataW H → Nat
  | .lit (.string bytes) => bytes.length + 1
  | .lit _ => 1
  | .nil => 1
  | .ptr d => uptoBulk d + 1
  | .slice elems spare => uptoBulkAll elems + uptoBulkAll spare + 1
  | .agg parts => uptoBulkAll parts + 1
  | .iface _ d => uptoBulk d + 1
  | .map entries => uptoBulkEntries entries + 1
  | .held _ => 1
def uptoBulkAll {H : Type} : List (DataW H) → Nat
  | [] => 0
  | d :: r => uptoBulk d + uptoBulkAll r
def uptoBulkEntries {H : Type} : List (Lit × DataW H) → Nat
  | [] => 0
  | x :: r => uptoBulkEntry x + uptoBulkEntries r
def uptoBulkEntry {H : Type} : Lit × DataW H → Nat
  | (.string bytes, d) => bytes.length + uptoBulk d + 1
  | (_, d) => uptoBulk d + 1
 end
def uptoSmall : (H : Type) → List (DataW H) → Bool := fun _ ds => decide (uptoBulkAll ds ≤ 1048576)
def OpenSpec.upto (s : _root_.Go.ChangeSpec) : _root_.Go.OpenSpec := { _root_.Go.OpenSpec.ofChange s with cond := some uptoSmall }

/-- 'feedvaulttop.TopDates', WHERE WHAT IT READS IS OF BULK AT MOST 1048576: true; the input reads as it did. -/
def topDatesUptoRow : OpenClaim := { program := "ytikjehgbfkndjaadoor", sum := "9b1d6f56bc2d32d5c5a80fcb4e9a02399a9c598277a7be7173b6d01e5aee4b1d", func := "feedvault/feedvaulttop.TopDates", spec := "topDates", inPlace := ["internal/abi.NoEscape", "internal/bytealg.CountString", "internal/bytealg.IndexByteString", "internal/bytealg.IndexString"], named := ["feedvault/rfc822.dayNames", "feedvault/rfc822.monthNames", "internal/strconv.uint64pow10", "math/bits.deBruijn32tab", "math/bits.deBruijn64tab", "strconv.ErrSyntax", "strconv.ErrRange", "unicode/utf8.first", "unicode/utf8.acceptRanges", "internal/bytealg.MaxLen"], apart := false, laid := [("math/bits.deBruijn32tab", laid_math_bits_deBruijn32tab), ("math/bits.deBruijn64tab", laid_math_bits_deBruijn64tab), ("internal/strconv.uint64pow10", laid_internal_strconv_uint64pow10), ("unicode/utf8.acceptRanges", laid_unicode_utf8_acceptRanges), ("strconv.ErrRange", laid_strconv_ErrRange), ("strconv.ErrSyntax", laid_strconv_ErrSyntax), ("feedvault/rfc822.dayNames", laid_feedvault_rfc822_dayNames), ("feedvault/rfc822.monthNames", laid_feedvault_rfc822_monthNames), ("unicode/utf8.first", laid_unicode_utf8_first)], narrowed := true }
def TopDatesUptoSaid : Prop := topDatesUptoRow.holds Tryd.pinned (OpenSpec.upto topDatesSpec)

/-- 'feedvaultlaw03.Rfc3339FormatMatchesReference', WHERE WHAT IT READS IS OF BULK AT MOST 1048576: true; the input reads as it did. -/
def rfc3339FormatMatchesReferenceUptoRow : OpenClaim := { program := "ytikjehgbfkndjaadoor", sum := "9b1d6f56bc2d32d5c5a80fcb4e9a02399a9c598277a7be7173b6d01e5aee4b1d", func := "feedvault/feedvaultlaw03.Rfc3339FormatMatchesReference", spec := "rfc3339FormatMatchesReference", named := ["internal/strconv.uint64pow10", "math/bits.deBruijn32tab", "math/bits.deBruijn64tab"], apart := false, laid := [("math/bits.deBruijn32tab", laid_math_bits_deBruijn32tab), ("math/bits.deBruijn64tab", laid_math_bits_deBruijn64tab), ("internal/strconv.uint64pow10", laid_internal_strconv_uint64pow10)], narrowed := true }
def Rfc3339FormatMatchesReferenceUptoSaid : Prop := rfc3339FormatMatchesReferenceUptoRow.holds Tryd.pinned (OpenSpec.upto rfc3339FormatMatchesReferenceSpec)

/-- 'feedvaultlaw03.Rfc3339ParseMatchesReference', WHERE WHAT IT READS IS OF BULK AT MOST 1048576: true; the input reads as it did. -/
def rfc3339ParseMatchesReferenceUptoRow : OpenClaim := { program := "ytikjehgbfkndjaadoor", sum := "9b1d6f56bc2d32d5c5a80fcb4e9a02399a9c598277a7be7173b6d01e5aee4b1d", func := "feedvault/feedvaultlaw03.Rfc3339ParseMatchesReference", spec := "rfc3339ParseMatchesReference", named := ["internal/strconv.uint64pow10", "math/bits.deBruijn32tab", "math/bits.deBruijn64tab"], apart := false, laid := [("math/bits.deBruijn32tab", laid_math_bits_deBruijn32tab), ("math/bits.deBruijn64tab", laid_math_bits_deBruijn64tab), ("internal/strconv.uint64pow10", laid_internal_strconv_uint64pow10)], narrowed := true }
def Rfc3339ParseMatchesReferenceUptoSaid : Prop := rfc3339ParseMatchesReferenceUptoRow.holds Tryd.pinned (OpenSpec.upto rfc3339ParseMatchesReferenceSpec)

/-- 'feedvaultlaw03.Rfc3339RoundTrip', WHERE WHAT IT READS IS OF BULK AT MOST 1048576: true; the input reads as it did. -/
def rfc3339RoundTripUptoRow : OpenClaim := { program := "ytikjehgbfkndjaadoor", sum := "9b1d6f56bc2d32d5c5a80fcb4e9a02399a9c598277a7be7173b6d01e5aee4b1d", func := "feedvault/feedvaultlaw03.Rfc3339RoundTrip", spec := "rfc3339RoundTrip", named := ["internal/strconv.uint64pow10", "math/bits.deBruijn32tab", "math/bits.deBruijn64tab"], apart := false, laid := [("math/bits.deBruijn32tab", laid_math_bits_deBruijn32tab), ("math/bits.deBruijn64tab", laid_math_bits_deBruijn64tab), ("internal/strconv.uint64pow10", laid_internal_strconv_uint64pow10)], narrowed := true }
def Rfc3339RoundTripUptoSaid : Prop := rfc3339RoundTripUptoRow.holds Tryd.pinned (OpenSpec.upto rfc3339RoundTripSpec)

/-- 'feedvaultlaw03.Rfc3339Order', WHERE WHAT IT READS IS OF BULK AT MOST 1048576: true; the input reads as it did. -/
def rfc3339OrderUptoRow : OpenClaim := { program := "ytikjehgbfkndjaadoor", sum := "9b1d6f56bc2d32d5c5a80fcb4e9a02399a9c598277a7be7173b6d01e5aee4b1d", func := "feedvault/feedvaultlaw03.Rfc3339Order", spec := "rfc3339Order", named := ["internal/strconv.uint64pow10", "math/bits.deBruijn32tab", "math/bits.deBruijn64tab"], apart := false, laid := [("math/bits.deBruijn32tab", laid_math_bits_deBruijn32tab), ("math/bits.deBruijn64tab", laid_math_bits_deBruijn64tab), ("internal/strconv.uint64pow10", laid_internal_strconv_uint64pow10)], narrowed := true }
def Rfc3339OrderUptoSaid : Prop := rfc3339OrderUptoRow.holds Tryd.pinned (OpenSpec.upto rfc3339OrderSpec)

/-- 'feedvaultlaw03.Rfc3339Offsets', WHERE WHAT IT READS IS OF BULK AT MOST 1048576: true; the input reads as it did. -/
def rfc3339OffsetsUptoRow : OpenClaim := { program := "ytikjehgbfkndjaadoor", sum := "9b1d6f56bc2d32d5c5a80fcb4e9a02399a9c598277a7be7173b6d01e5aee4b1d", func := "feedvault/feedvaultlaw03.Rfc3339Offsets", spec := "rfc3339Offsets", named := ["internal/strconv.uint64pow10", "math/bits.deBruijn32tab", "math/bits.deBruijn64tab"], apart := false, laid := [("math/bits.deBruijn32tab", laid_math_bits_deBruijn32tab), ("math/bits.deBruijn64tab", laid_math_bits_deBruijn64tab), ("internal/strconv.uint64pow10", laid_internal_strconv_uint64pow10)], narrowed := true }
def Rfc3339OffsetsUptoSaid : Prop := rfc3339OffsetsUptoRow.holds Tryd.pinned (OpenSpec.upto rfc3339OffsetsSpec)

/-- 'feedvaultlaw03.Rfc3339Strict', WHERE WHAT IT READS IS OF BULK AT MOST 1048576: true; the input reads as it did. -/
def rfc3339StrictUptoRow : OpenClaim := { program := "ytikjehgbfkndjaadoor", sum := "9b1d6f56bc2d32d5c5a80fcb4e9a02399a9c598277a7be7173b6d01e5aee4b1d", func := "feedvault/feedvaultlaw03.Rfc3339Strict", spec := "rfc3339Strict", named := ["internal/strconv.uint64pow10", "math/bits.deBruijn32tab", "math/bits.deBruijn64tab"], apart := false, laid := [("math/bits.deBruijn32tab", laid_math_bits_deBruijn32tab), ("math/bits.deBruijn64tab", laid_math_bits_deBruijn64tab), ("internal/strconv.uint64pow10", laid_internal_strconv_uint64pow10)], narrowed := true }
def Rfc3339StrictUptoSaid : Prop := rfc3339StrictUptoRow.holds Tryd.pinned (OpenSpec.upto rfc3339StrictSpec)

end Rows
end Go.Proofs.YtikjehgbfkndjaaDoor
