/-
  NARROWER THAN 'FOR EVERY INPUT', by the rows' own cells (each row's printed sentence says how): MeasureValidate: laid · MeasureChanged: laid · MeasureParse: laid · MeasureCovers: laid · MeasureApplicable: laid · MeasureOtherDays: laid · MeasureAdded: laid · MeasureFormat: laid.
  DERIVED. THE GIVEN ROWS OF THIS SEAT. 8 by the template 'for every input the law returns true; each argument reads behind the call as it read before'; 0 by the template 'total and deterministic' (their statements: YtbilobjddflpeaaGreatDoorTotals.lean).
  GIVEN WITH THE SEED: the statements are not yours to turn. If you find one false, say at which input.
  Laid BY PROGRAM, IN A SANDBOX (cutbox-rows.mjs): the forced cells as the released guide's own fill.sh prints them over the translation 2560520b0a685e10… (all of the seat's roots in one cut). By AI agents, Wed Nov 11 2026. No macro, syntax, notation, axiom, sorry.
-/
import Derived.Test.YtbilobjddflpeaaGreatDoorChecked
import GoSem.PinnedTables
import GoSem.Claim
import GoSem.ClaimJoined
import GoSem.ClaimMapViews
import Derived.JoinedTies
import Derived.KernelRfl
namespace Go.Proofs.YtbilobjddflpeaaGreatDoor
/- THE CELL 'sum', in the pinned program and in every row, IS THE sha256 OF THE DUMP (.gsa) THAT YtbilobjddflpeaaGreatDoorProg.lean LOADS. Nothing in Lean hashes anything: it is a label: what it is worth is what the hold of that sum in a sandbox is worth. -/
noncomputable def Tryz.pinned : Pinned := { name := "ytbilobjddflpeaagreatdoor", sum := "2560520b0a685e10ae7b54de22c004892fe505842d46602f156e7895d8192a87", checked := Tryz.checked }
namespace Rows
def none {H : Type} : Left H := { results := [], args := [] }

/- WHAT THE LISTED PACKAGE-LEVEL VARIABLES READ AS WHEN THE CALL BEGINS. Each datum BY PROGRAM (the guide's laid-datum.mjs) off the statement by which the dump's own 'gosem.cut.vars' lays the variable. In a bare row this is a premise. The card (YtbilobjddflpeaaGreatDoorCards.lean) ties it to the program's text. -/
def laid_math_bits_deBruijn32tab {H : Type} : DataW H := .agg [.lit (.int .u8 0), .lit (.int .u8 1), .lit (.int .u8 28), .lit (.int .u8 2), .lit (.int .u8 29), .lit (.int .u8 14), .lit (.int .u8 24), .lit (.int .u8 3), .lit (.int .u8 30), .lit (.int .u8 22), .lit (.int .u8 20), .lit (.int .u8 15), .lit (.int .u8 25), .lit (.int .u8 17), .lit (.int .u8 4), .lit (.int .u8 8), .lit (.int .u8 31), .lit (.int .u8 27), .lit (.int .u8 13), .lit (.int .u8 23), .lit (.int .u8 21), .lit (.int .u8 19), .lit (.int .u8 16), .lit (.int .u8 7), .lit (.int .u8 26), .lit (.int .u8 12), .lit (.int .u8 18), .lit (.int .u8 6), .lit (.int .u8 11), .lit (.int .u8 5), .lit (.int .u8 10), .lit (.int .u8 9)]
def laid_math_bits_deBruijn64tab {H : Type} : DataW H := .agg [.lit (.int .u8 0), .lit (.int .u8 1), .lit (.int .u8 56), .lit (.int .u8 2), .lit (.int .u8 57), .lit (.int .u8 49), .lit (.int .u8 28), .lit (.int .u8 3), .lit (.int .u8 61), .lit (.int .u8 58), .lit (.int .u8 42), .lit (.int .u8 50), .lit (.int .u8 38), .lit (.int .u8 29), .lit (.int .u8 17), .lit (.int .u8 4), .lit (.int .u8 62), .lit (.int .u8 47), .lit (.int .u8 59), .lit (.int .u8 36), .lit (.int .u8 45), .lit (.int .u8 43), .lit (.int .u8 51), .lit (.int .u8 22), .lit (.int .u8 53), .lit (.int .u8 39), .lit (.int .u8 33), .lit (.int .u8 30), .lit (.int .u8 24), .lit (.int .u8 18), .lit (.int .u8 12), .lit (.int .u8 5), .lit (.int .u8 63), .lit (.int .u8 55), .lit (.int .u8 48), .lit (.int .u8 27), .lit (.int .u8 60), .lit (.int .u8 41), .lit (.int .u8 37), .lit (.int .u8 16), .lit (.int .u8 46), .lit (.int .u8 35), .lit (.int .u8 44), .lit (.int .u8 21), .lit (.int .u8 52), .lit (.int .u8 32), .lit (.int .u8 23), .lit (.int .u8 11), .lit (.int .u8 54), .lit (.int .u8 26), .lit (.int .u8 40), .lit (.int .u8 15), .lit (.int .u8 34), .lit (.int .u8 20), .lit (.int .u8 31), .lit (.int .u8 10), .lit (.int .u8 25), .lit (.int .u8 14), .lit (.int .u8 19), .lit (.int .u8 9), .lit (.int .u8 13), .lit (.int .u8 8), .lit (.int .u8 7), .lit (.int .u8 6)]
def laid_internal_strconv_uint64pow10 {H : Type} : DataW H := .agg [.lit (.int .u64 1), .lit (.int .u64 10), .lit (.int .u64 100), .lit (.int .u64 1000), .lit (.int .u64 10000), .lit (.int .u64 100000), .lit (.int .u64 1000000), .lit (.int .u64 10000000), .lit (.int .u64 100000000), .lit (.int .u64 1000000000), .lit (.int .u64 10000000000), .lit (.int .u64 100000000000), .lit (.int .u64 1000000000000), .lit (.int .u64 10000000000000), .lit (.int .u64 100000000000000), .lit (.int .u64 1000000000000000), .lit (.int .u64 10000000000000000), .lit (.int .u64 100000000000000000), .lit (.int .u64 1000000000000000000), .lit (.int .u64 10000000000000000000)]
def laid_unicode_utf8_acceptRanges {H : Type} : DataW H := .agg [.agg [.lit (.int .u8 128), .lit (.int .u8 191)], .agg [.lit (.int .u8 160), .lit (.int .u8 191)], .agg [.lit (.int .u8 128), .lit (.int .u8 159)], .agg [.lit (.int .u8 144), .lit (.int .u8 191)], .agg [.lit (.int .u8 128), .lit (.int .u8 143)], .agg [.lit (.int .u8 0), .lit (.int .u8 0)], .agg [.lit (.int .u8 0), .lit (.int .u8 0)], .agg [.lit (.int .u8 0), .lit (.int .u8 0)], .agg [.lit (.int .u8 0), .lit (.int .u8 0)], .agg [.lit (.int .u8 0), .lit (.int .u8 0)], .agg [.lit (.int .u8 0), .lit (.int .u8 0)], .agg [.lit (.int .u8 0), .lit (.int .u8 0)], .agg [.lit (.int .u8 0), .lit (.int .u8 0)], .agg [.lit (.int .u8 0), .lit (.int .u8 0)], .agg [.lit (.int .u8 0), .lit (.int .u8 0)], .agg [.lit (.int .u8 0), .lit (.int .u8 0)]]
def laid_strconv_ErrRange {H : Type} : DataW H := .iface "*errors.errorString" (.ptr (.agg [.lit (.string [118, 97, 108, 117, 101, 32, 111, 117, 116, 32, 111, 102, 32, 114, 97, 110, 103, 101])]))
def laid_strconv_ErrSyntax {H : Type} : DataW H := .iface "*errors.errorString" (.ptr (.agg [.lit (.string [105, 110, 118, 97, 108, 105, 100, 32, 115, 121, 110, 116, 97, 120])]))
def laid_customs_nomenclature_lengths {H : Type} : DataW H := .agg [.lit (.int .i64 2), .lit (.int .i64 4), .lit (.int .i64 6), .lit (.int .i64 8)]
/-- One of Go's own tables, pinned by name: the form's constant. -/
def laid_unicode_utf8_first : DataW Unit := Go.Pinned.utf8First

/-- 'customslaw19.MeasureValidate': WHATEVER THE INPUT: true; the input reads as it did. -/
def measureValidateSpec : ChangeSpec := { name := "measureValidate", fn := fun _ => fun
  | [d1, d2] => { results := [.lit (.bool true)], args := [d1, d2] }
  | _ => none }
def measureValidateRow : OpenClaim := { program := "ytbilobjddflpeaagreatdoor", sum := "2560520b0a685e10ae7b54de22c004892fe505842d46602f156e7895d8192a87", func := "customs/customslaw19.MeasureValidate", spec := "measureValidate", inPlace := ["internal/bytealg.IndexByteString", "internal/bytealg.IndexString", "internal/bytealg.CountString", "internal/abi.NoEscape", "internal/bytealg.MakeNoZero"], named := ["customs/nomenclature.lengths", "unicode/utf8.first", "unicode/utf8.acceptRanges", "internal/bytealg.MaxLen", "strconv.ErrSyntax", "strconv.ErrRange", "internal/strconv.uint64pow10", "math/bits.deBruijn32tab", "math/bits.deBruijn64tab"], apart := false, laid := [("math/bits.deBruijn32tab", laid_math_bits_deBruijn32tab), ("math/bits.deBruijn64tab", laid_math_bits_deBruijn64tab), ("internal/strconv.uint64pow10", laid_internal_strconv_uint64pow10), ("unicode/utf8.acceptRanges", laid_unicode_utf8_acceptRanges), ("strconv.ErrRange", laid_strconv_ErrRange), ("strconv.ErrSyntax", laid_strconv_ErrSyntax), ("customs/nomenclature.lengths", laid_customs_nomenclature_lengths), ("unicode/utf8.first", laid_unicode_utf8_first)] }
def MeasureValidateSaid : Prop := measureValidateRow.holds Tryz.pinned (OpenSpec.ofChange measureValidateSpec)

/-- ITS FALSE NEIGHBOUR: 'it returns false'. Refute it at one input. -/
def measureValidateWrong : ChangeSpec := { name := "measureValidate", fn := fun _ => fun
  | [d1, d2] => { results := [.lit (.bool false)], args := [d1, d2] }
  | _ => none }
def MeasureValidateWrongFalsely : Prop := measureValidateRow.holds Tryz.pinned (OpenSpec.ofChange measureValidateWrong)

/-- 'customslaw19.MeasureChanged': WHATEVER THE INPUT: true; the input reads as it did. -/
def measureChangedSpec : ChangeSpec := { name := "measureChanged", fn := fun _ => fun
  | [d1, d2, d3, d4, d5] => { results := [.lit (.bool true)], args := [d1, d2, d3, d4, d5] }
  | _ => none }
def measureChangedRow : OpenClaim := { program := "ytbilobjddflpeaagreatdoor", sum := "2560520b0a685e10ae7b54de22c004892fe505842d46602f156e7895d8192a87", func := "customs/customslaw19.MeasureChanged", spec := "measureChanged", inPlace := ["internal/bytealg.IndexByteString", "internal/bytealg.IndexString", "internal/bytealg.CountString", "internal/abi.NoEscape", "internal/bytealg.MakeNoZero"], named := ["customs/nomenclature.lengths", "unicode/utf8.first", "unicode/utf8.acceptRanges", "internal/bytealg.MaxLen", "strconv.ErrSyntax", "strconv.ErrRange", "internal/strconv.uint64pow10", "math/bits.deBruijn32tab", "math/bits.deBruijn64tab"], apart := false, laid := [("math/bits.deBruijn32tab", laid_math_bits_deBruijn32tab), ("math/bits.deBruijn64tab", laid_math_bits_deBruijn64tab), ("internal/strconv.uint64pow10", laid_internal_strconv_uint64pow10), ("unicode/utf8.acceptRanges", laid_unicode_utf8_acceptRanges), ("strconv.ErrRange", laid_strconv_ErrRange), ("strconv.ErrSyntax", laid_strconv_ErrSyntax), ("customs/nomenclature.lengths", laid_customs_nomenclature_lengths), ("unicode/utf8.first", laid_unicode_utf8_first)] }
def MeasureChangedSaid : Prop := measureChangedRow.holds Tryz.pinned (OpenSpec.ofChange measureChangedSpec)

/-- ITS FALSE NEIGHBOUR: 'it returns false'. Refute it at one input. -/
def measureChangedWrong : ChangeSpec := { name := "measureChanged", fn := fun _ => fun
  | [d1, d2, d3, d4, d5] => { results := [.lit (.bool false)], args := [d1, d2, d3, d4, d5] }
  | _ => none }
def MeasureChangedWrongFalsely : Prop := measureChangedRow.holds Tryz.pinned (OpenSpec.ofChange measureChangedWrong)

/-- 'customslaw19.MeasureParse': WHATEVER THE INPUT: true; the input reads as it did. -/
def measureParseSpec : ChangeSpec := { name := "measureParse", fn := fun _ => fun
  | [d1, d2, d3, d4, d5, d6] => { results := [.lit (.bool true)], args := [d1, d2, d3, d4, d5, d6] }
  | _ => none }
def measureParseRow : OpenClaim := { program := "ytbilobjddflpeaagreatdoor", sum := "2560520b0a685e10ae7b54de22c004892fe505842d46602f156e7895d8192a87", func := "customs/customslaw19.MeasureParse", spec := "measureParse", inPlace := ["internal/bytealg.CountString", "internal/bytealg.IndexByteString", "internal/bytealg.IndexString", "internal/abi.NoEscape", "internal/bytealg.MakeNoZero"], recurses := true, named := ["unicode/utf8.first", "unicode/utf8.acceptRanges", "internal/bytealg.MaxLen", "strconv.ErrSyntax", "strconv.ErrRange", "internal/strconv.uint64pow10", "math/bits.deBruijn32tab", "math/bits.deBruijn64tab", "customs/nomenclature.lengths"], apart := false, laid := [("math/bits.deBruijn32tab", laid_math_bits_deBruijn32tab), ("math/bits.deBruijn64tab", laid_math_bits_deBruijn64tab), ("internal/strconv.uint64pow10", laid_internal_strconv_uint64pow10), ("unicode/utf8.acceptRanges", laid_unicode_utf8_acceptRanges), ("strconv.ErrRange", laid_strconv_ErrRange), ("strconv.ErrSyntax", laid_strconv_ErrSyntax), ("customs/nomenclature.lengths", laid_customs_nomenclature_lengths), ("unicode/utf8.first", laid_unicode_utf8_first)] }
def MeasureParseSaid : Prop := measureParseRow.holds Tryz.pinned (OpenSpec.ofChange measureParseSpec)

/-- ITS FALSE NEIGHBOUR: 'it returns false'. Refute it at one input. -/
def measureParseWrong : ChangeSpec := { name := "measureParse", fn := fun _ => fun
  | [d1, d2, d3, d4, d5, d6] => { results := [.lit (.bool false)], args := [d1, d2, d3, d4, d5, d6] }
  | _ => none }
def MeasureParseWrongFalsely : Prop := measureParseRow.holds Tryz.pinned (OpenSpec.ofChange measureParseWrong)

/-- 'customslaw19.MeasureCovers': WHATEVER THE INPUT: true; the input reads as it did. -/
def measureCoversSpec : ChangeSpec := { name := "measureCovers", fn := fun _ => fun
  | [d1, d2, d3, d4, d5] => { results := [.lit (.bool true)], args := [d1, d2, d3, d4, d5] }
  | _ => none }
def measureCoversRow : OpenClaim := { program := "ytbilobjddflpeaagreatdoor", sum := "2560520b0a685e10ae7b54de22c004892fe505842d46602f156e7895d8192a87", func := "customs/customslaw19.MeasureCovers", spec := "measureCovers", inPlace := ["internal/bytealg.CountString", "internal/bytealg.IndexByteString", "internal/bytealg.IndexString", "internal/abi.NoEscape", "internal/bytealg.MakeNoZero"], named := ["unicode/utf8.first", "unicode/utf8.acceptRanges", "internal/bytealg.MaxLen", "strconv.ErrSyntax", "strconv.ErrRange", "internal/strconv.uint64pow10", "math/bits.deBruijn32tab", "math/bits.deBruijn64tab", "customs/nomenclature.lengths"], apart := false, laid := [("math/bits.deBruijn32tab", laid_math_bits_deBruijn32tab), ("math/bits.deBruijn64tab", laid_math_bits_deBruijn64tab), ("internal/strconv.uint64pow10", laid_internal_strconv_uint64pow10), ("unicode/utf8.acceptRanges", laid_unicode_utf8_acceptRanges), ("strconv.ErrRange", laid_strconv_ErrRange), ("strconv.ErrSyntax", laid_strconv_ErrSyntax), ("customs/nomenclature.lengths", laid_customs_nomenclature_lengths), ("unicode/utf8.first", laid_unicode_utf8_first)] }
def MeasureCoversSaid : Prop := measureCoversRow.holds Tryz.pinned (OpenSpec.ofChange measureCoversSpec)

/-- ITS FALSE NEIGHBOUR: 'it returns false'. Refute it at one input. -/
def measureCoversWrong : ChangeSpec := { name := "measureCovers", fn := fun _ => fun
  | [d1, d2, d3, d4, d5] => { results := [.lit (.bool false)], args := [d1, d2, d3, d4, d5] }
  | _ => none }
def MeasureCoversWrongFalsely : Prop := measureCoversRow.holds Tryz.pinned (OpenSpec.ofChange measureCoversWrong)

/-- 'customslaw19.MeasureApplicable': WHATEVER THE INPUT: true; the input reads as it did. -/
def measureApplicableSpec : ChangeSpec := { name := "measureApplicable", fn := fun _ => fun
  | [d1, d2] => { results := [.lit (.bool true)], args := [d1, d2] }
  | _ => none }
def measureApplicableRow : OpenClaim := { program := "ytbilobjddflpeaagreatdoor", sum := "2560520b0a685e10ae7b54de22c004892fe505842d46602f156e7895d8192a87", func := "customs/customslaw19.MeasureApplicable", spec := "measureApplicable", inPlace := ["internal/bytealg.CountString", "internal/bytealg.IndexByteString", "internal/bytealg.IndexString", "internal/abi.NoEscape", "internal/bytealg.MakeNoZero"], named := ["unicode/utf8.first", "unicode/utf8.acceptRanges", "internal/bytealg.MaxLen", "strconv.ErrSyntax", "strconv.ErrRange", "internal/strconv.uint64pow10", "math/bits.deBruijn32tab", "math/bits.deBruijn64tab", "customs/nomenclature.lengths"], apart := false, laid := [("math/bits.deBruijn32tab", laid_math_bits_deBruijn32tab), ("math/bits.deBruijn64tab", laid_math_bits_deBruijn64tab), ("internal/strconv.uint64pow10", laid_internal_strconv_uint64pow10), ("unicode/utf8.acceptRanges", laid_unicode_utf8_acceptRanges), ("strconv.ErrRange", laid_strconv_ErrRange), ("strconv.ErrSyntax", laid_strconv_ErrSyntax), ("customs/nomenclature.lengths", laid_customs_nomenclature_lengths), ("unicode/utf8.first", laid_unicode_utf8_first)] }
def MeasureApplicableSaid : Prop := measureApplicableRow.holds Tryz.pinned (OpenSpec.ofChange measureApplicableSpec)

/-- ITS FALSE NEIGHBOUR: 'it returns false'. Refute it at one input. -/
def measureApplicableWrong : ChangeSpec := { name := "measureApplicable", fn := fun _ => fun
  | [d1, d2] => { results := [.lit (.bool false)], args := [d1, d2] }
  | _ => none }
def MeasureApplicableWrongFalsely : Prop := measureApplicableRow.holds Tryz.pinned (OpenSpec.ofChange measureApplicableWrong)

/-- 'customslaw19.MeasureOtherDays': WHATEVER THE INPUT: true; the input reads as it did. -/
def measureOtherDaysSpec : ChangeSpec := { name := "measureOtherDays", fn := fun _ => fun
  | [d1, d2] => { results := [.lit (.bool true)], args := [d1, d2] }
  | _ => none }
def measureOtherDaysRow : OpenClaim := { program := "ytbilobjddflpeaagreatdoor", sum := "2560520b0a685e10ae7b54de22c004892fe505842d46602f156e7895d8192a87", func := "customs/customslaw19.MeasureOtherDays", spec := "measureOtherDays", inPlace := ["internal/bytealg.CountString", "internal/bytealg.IndexByteString", "internal/bytealg.IndexString", "internal/abi.NoEscape", "internal/bytealg.MakeNoZero"], named := ["unicode/utf8.first", "unicode/utf8.acceptRanges", "internal/bytealg.MaxLen", "strconv.ErrSyntax", "strconv.ErrRange", "internal/strconv.uint64pow10", "math/bits.deBruijn32tab", "math/bits.deBruijn64tab", "customs/nomenclature.lengths"], apart := false, laid := [("math/bits.deBruijn32tab", laid_math_bits_deBruijn32tab), ("math/bits.deBruijn64tab", laid_math_bits_deBruijn64tab), ("internal/strconv.uint64pow10", laid_internal_strconv_uint64pow10), ("unicode/utf8.acceptRanges", laid_unicode_utf8_acceptRanges), ("strconv.ErrRange", laid_strconv_ErrRange), ("strconv.ErrSyntax", laid_strconv_ErrSyntax), ("customs/nomenclature.lengths", laid_customs_nomenclature_lengths), ("unicode/utf8.first", laid_unicode_utf8_first)] }
def MeasureOtherDaysSaid : Prop := measureOtherDaysRow.holds Tryz.pinned (OpenSpec.ofChange measureOtherDaysSpec)

/-- ITS FALSE NEIGHBOUR: 'it returns false'. Refute it at one input. -/
def measureOtherDaysWrong : ChangeSpec := { name := "measureOtherDays", fn := fun _ => fun
  | [d1, d2] => { results := [.lit (.bool false)], args := [d1, d2] }
  | _ => none }
def MeasureOtherDaysWrongFalsely : Prop := measureOtherDaysRow.holds Tryz.pinned (OpenSpec.ofChange measureOtherDaysWrong)

/-- 'customslaw19.MeasureAdded': WHATEVER THE INPUT: true; the input reads as it did. -/
def measureAddedSpec : ChangeSpec := { name := "measureAdded", fn := fun _ => fun
  | [d1, d2, d3, d4] => { results := [.lit (.bool true)], args := [d1, d2, d3, d4] }
  | _ => none }
def measureAddedRow : OpenClaim := { program := "ytbilobjddflpeaagreatdoor", sum := "2560520b0a685e10ae7b54de22c004892fe505842d46602f156e7895d8192a87", func := "customs/customslaw19.MeasureAdded", spec := "measureAdded", inPlace := ["internal/bytealg.CountString", "internal/bytealg.IndexByteString", "internal/bytealg.IndexString", "internal/abi.NoEscape", "internal/bytealg.MakeNoZero"], named := ["unicode/utf8.first", "unicode/utf8.acceptRanges", "internal/bytealg.MaxLen", "strconv.ErrSyntax", "strconv.ErrRange", "internal/strconv.uint64pow10", "math/bits.deBruijn32tab", "math/bits.deBruijn64tab", "customs/nomenclature.lengths"], apart := false, laid := [("math/bits.deBruijn32tab", laid_math_bits_deBruijn32tab), ("math/bits.deBruijn64tab", laid_math_bits_deBruijn64tab), ("internal/strconv.uint64pow10", laid_internal_strconv_uint64pow10), ("unicode/utf8.acceptRanges", laid_unicode_utf8_acceptRanges), ("strconv.ErrRange", laid_strconv_ErrRange), ("strconv.ErrSyntax", laid_strconv_ErrSyntax), ("customs/nomenclature.lengths", laid_customs_nomenclature_lengths), ("unicode/utf8.first", laid_unicode_utf8_first)] }
def MeasureAddedSaid : Prop := measureAddedRow.holds Tryz.pinned (OpenSpec.ofChange measureAddedSpec)

/-- ITS FALSE NEIGHBOUR: 'it returns false'. Refute it at one input. -/
def measureAddedWrong : ChangeSpec := { name := "measureAdded", fn := fun _ => fun
  | [d1, d2, d3, d4] => { results := [.lit (.bool false)], args := [d1, d2, d3, d4] }
  | _ => none }
def MeasureAddedWrongFalsely : Prop := measureAddedRow.holds Tryz.pinned (OpenSpec.ofChange measureAddedWrong)

/-- 'customslaw19.MeasureFormat': WHATEVER THE INPUT: true; the input reads as it did. -/
def measureFormatSpec : ChangeSpec := { name := "measureFormat", fn := fun _ => fun
  | [d1, d2] => { results := [.lit (.bool true)], args := [d1, d2] }
  | _ => none }
def measureFormatRow : OpenClaim := { program := "ytbilobjddflpeaagreatdoor", sum := "2560520b0a685e10ae7b54de22c004892fe505842d46602f156e7895d8192a87", func := "customs/customslaw19.MeasureFormat", spec := "measureFormat", inPlace := ["internal/bytealg.IndexByteString", "internal/bytealg.IndexString", "internal/abi.NoEscape", "internal/bytealg.MakeNoZero", "internal/bytealg.CountString"], recurses := true, named := ["customs/nomenclature.lengths", "unicode/utf8.first", "unicode/utf8.acceptRanges", "internal/strconv.uint64pow10", "math/bits.deBruijn32tab", "math/bits.deBruijn64tab", "internal/bytealg.MaxLen", "strconv.ErrSyntax", "strconv.ErrRange"], apart := false, laid := [("math/bits.deBruijn32tab", laid_math_bits_deBruijn32tab), ("math/bits.deBruijn64tab", laid_math_bits_deBruijn64tab), ("internal/strconv.uint64pow10", laid_internal_strconv_uint64pow10), ("unicode/utf8.acceptRanges", laid_unicode_utf8_acceptRanges), ("strconv.ErrRange", laid_strconv_ErrRange), ("strconv.ErrSyntax", laid_strconv_ErrSyntax), ("customs/nomenclature.lengths", laid_customs_nomenclature_lengths), ("unicode/utf8.first", laid_unicode_utf8_first)] }
def MeasureFormatSaid : Prop := measureFormatRow.holds Tryz.pinned (OpenSpec.ofChange measureFormatSpec)

/-- ITS FALSE NEIGHBOUR: 'it returns false'. Refute it at one input. -/
def measureFormatWrong : ChangeSpec := { name := "measureFormat", fn := fun _ => fun
  | [d1, d2] => { results := [.lit (.bool false)], args := [d1, d2] }
  | _ => none }
def MeasureFormatWrongFalsely : Prop := measureFormatRow.holds Tryz.pinned (OpenSpec.ofChange measureFormatWrong)

/- THE SECOND FORM. 'bulk': how many values and letters a reading holds, each counted each time it is reached (what is shared counts as often as it is met; a slice's spare places count too). A statement '..UptoSaid' is the law's where the arguments, and the package variables that the reading takes, are together of bulk at most 1048576: NARROWER than '..Said'. Prove '..Said' where nothing that the law and all that it calls make is longer than what came in: it says more and counts as full. Else prove '..UptoSaid'. A law counts once. -/
mutual
def uptoBulk {H : Type} : DataW H → Nat
  | .lit (.string bytes) => bytes.length + 1
  | .lit _ => 1
  | .nil => 1
  | .ptr d => uptoBulk d + 1
  | .slice elems spare => uptoBulkAll elems + uptoBulkAll spare + 1
  | .agg parts => uptoBulkAll parts + 1
  | .iface _ d => uptoBulk d + 1
  | .map entries => uptoBulkEntries entries + 1
  | .held _ => 1
def uptoBulkAll {H : Type} : List (DataW H) → Nat
  | [] => 0
  | d :: r => uptoBulk d + uptoBulkAll r
def uptoBulkEntries {H : Type} : List (Lit × DataW H) → Nat
  | [] => 0
  | x :: r => uptoBulkEntry x + uptoBulkEntries r
def uptoBulkEntry {H : Type} : Lit × DataW H → Nat
  | (.string bytes, d) => bytes.length + uptoBulk d + 1
  | (_, d) => uptoBulk d + 1
 end
def uptoSmall : (H : Type) → List (DataW H) → Bool := fun _ ds => decide (uptoBulkAll ds ≤ 1048576)
def OpenSpec.upto (s : _root_.Go.ChangeSpec) : _root_.Go.OpenSpec := { _root_.Go.OpenSpec.ofChange s with cond := some uptoSmall }

/-- 'customslaw19.MeasureValidate', WHERE WHAT IT READS IS OF BULK AT MOST 1048576: true; the input reads as it did. -/
def measureValidateUptoRow : OpenClaim := { program := "ytbilobjddflpeaagreatdoor", sum := "2560520b0a685e10ae7b54de22c004892fe505842d46602f156e7895d8192a87", func := "customs/customslaw19.MeasureValidate", spec := "measureValidate", inPlace := ["internal/bytealg.IndexByteString", "internal/bytealg.IndexString", "internal/bytealg.CountString", "internal/abi.NoEscape", "internal/bytealg.MakeNoZero"], named := ["customs/nomenclature.lengths", "unicode/utf8.first", "unicode/utf8.acceptRanges", "internal/bytealg.MaxLen", "strconv.ErrSyntax", "strconv.ErrRange", "internal/strconv.uint64pow10", "math/bits.deBruijn32tab", "math/bits.deBruijn64tab"], apart := false, laid := [("math/bits.deBruijn32tab", laid_math_bits_deBruijn32tab), ("math/bits.deBruijn64tab", laid_math_bits_deBruijn64tab), ("internal/strconv.uint64pow10", laid_internal_strconv_uint64pow10), ("unicode/utf8.acceptRanges", laid_unicode_utf8_acceptRanges), ("strconv.ErrRange", laid_strconv_ErrRange), ("strconv.ErrSyntax", laid_strconv_ErrSyntax), ("customs/nomenclature.lengths", laid_customs_nomenclature_lengths), ("unicode/utf8.first", laid_unicode_utf8_first)], narrowed := true }
def MeasureValidateUptoSaid : Prop := measureValidateUptoRow.holds Tryz.pinned (OpenSpec.upto measureValidateSpec)

/-- 'customslaw19.MeasureChanged', WHERE WHAT IT READS IS OF BULK AT MOST 1048576: true; the input reads as it did. -/
def measureChangedUptoRow : OpenClaim := { program := "ytbilobjddflpeaagreatdoor", sum := "2560520b0a685e10ae7b54de22c004892fe505842d46602f156e7895d8192a87", func := "customs/customslaw19.MeasureChanged", spec := "measureChanged", inPlace := ["internal/bytealg.IndexByteString", "internal/bytealg.IndexString", "internal/bytealg.CountString", "internal/abi.NoEscape", "internal/bytealg.MakeNoZero"], named := ["customs/nomenclature.lengths", "unicode/utf8.first", "unicode/utf8.acceptRanges", "internal/bytealg.MaxLen", "strconv.ErrSyntax", "strconv.ErrRange", "internal/strconv.uint64pow10", "math/bits.deBruijn32tab", "math/bits.deBruijn64tab"], apart := false, laid := [("math/bits.deBruijn32tab", laid_math_bits_deBruijn32tab), ("math/bits.deBruijn64tab", laid_math_bits_deBruijn64tab), ("internal/strconv.uint64pow10", laid_internal_strconv_uint64pow10), ("unicode/utf8.acceptRanges", laid_unicode_utf8_acceptRanges), ("strconv.ErrRange", laid_strconv_ErrRange), ("strconv.ErrSyntax", laid_strconv_ErrSyntax), ("customs/nomenclature.lengths", laid_customs_nomenclature_lengths), ("unicode/utf8.first", laid_unicode_utf8_first)], narrowed := true }
def MeasureChangedUptoSaid : Prop := measureChangedUptoRow.holds Tryz.pinned (OpenSpec.upto measureChangedSpec)

/-- 'customslaw19.MeasureParse', WHERE WHAT IT READS IS OF BULK AT MOST 1048576: true; the input reads as it did. -/
def measureParseUptoRow : OpenClaim := { program := "ytbilobjddflpeaagreatdoor", sum := "2560520b0a685e10ae7b54de22c004892fe505842d46602f156e7895d8192a87", func := "customs/customslaw19.MeasureParse", spec := "measureParse", inPlace := ["internal/bytealg.CountString", "internal/bytealg.IndexByteString", "internal/bytealg.IndexString", "internal/abi.NoEscape", "internal/bytealg.MakeNoZero"], recurses := true, named := ["unicode/utf8.first", "unicode/utf8.acceptRanges", "internal/bytealg.MaxLen", "strconv.ErrSyntax", "strconv.ErrRange", "internal/strconv.uint64pow10", "math/bits.deBruijn32tab", "math/bits.deBruijn64tab", "customs/nomenclature.lengths"], apart := false, laid := [("math/bits.deBruijn32tab", laid_math_bits_deBruijn32tab), ("math/bits.deBruijn64tab", laid_math_bits_deBruijn64tab), ("internal/strconv.uint64pow10", laid_internal_strconv_uint64pow10), ("unicode/utf8.acceptRanges", laid_unicode_utf8_acceptRanges), ("strconv.ErrRange", laid_strconv_ErrRange), ("strconv.ErrSyntax", laid_strconv_ErrSyntax), ("customs/nomenclature.lengths", laid_customs_nomenclature_lengths), ("unicode/utf8.first", laid_unicode_utf8_first)], narrowed := true }
def MeasureParseUptoSaid : Prop := measureParseUptoRow.holds Tryz.pinned (OpenSpec.upto measureParseSpec)

/-- 'customslaw19.MeasureCovers', WHERE WHAT IT READS IS OF BULK AT MOST 1048576: true; the input reads as it did. -/
def measureCoversUptoRow : OpenClaim := { program := "ytbilobjddflpeaagreatdoor", sum := "2560520b0a685e10ae7b54de22c004892fe505842d46602f156e7895d8192a87", func := "customs/customslaw19.MeasureCovers", spec := "measureCovers", inPlace := ["internal/bytealg.CountString", "internal/bytealg.IndexByteString", "internal/bytealg.IndexString", "internal/abi.NoEscape", "internal/bytealg.MakeNoZero"], named := ["unicode/utf8.first", "unicode/utf8.acceptRanges", "internal/bytealg.MaxLen", "strconv.ErrSyntax", "strconv.ErrRange", "internal/strconv.uint64pow10", "math/bits.deBruijn32tab", "math/bits.deBruijn64tab", "customs/nomenclature.lengths"], apart := false, laid := [("math/bits.deBruijn32tab", laid_math_bits_deBruijn32tab), ("math/bits.deBruijn64tab", laid_math_bits_deBruijn64tab), ("internal/strconv.uint64pow10", laid_internal_strconv_uint64pow10), ("unicode/utf8.acceptRanges", laid_unicode_utf8_acceptRanges), ("strconv.ErrRange", laid_strconv_ErrRange), ("strconv.ErrSyntax", laid_strconv_ErrSyntax), ("customs/nomenclature.lengths", laid_customs_nomenclature_lengths), ("unicode/utf8.first", laid_unicode_utf8_first)], narrowed := true }
def MeasureCoversUptoSaid : Prop := measureCoversUptoRow.holds Tryz.pinned (OpenSpec.upto measureCoversSpec)

/-- 'customslaw19.MeasureApplicable', WHERE WHAT IT READS IS OF BULK AT MOST 1048576: true; the input reads as it did. -/
def measureApplicableUptoRow : OpenClaim := { program := "ytbilobjddflpeaagreatdoor", sum := "2560520b0a685e10ae7b54de22c004892fe505842d46602f156e7895d8192a87", func := "customs/customslaw19.MeasureApplicable", spec := "measureApplicable", inPlace := ["internal/bytealg.CountString", "internal/bytealg.IndexByteString", "internal/bytealg.IndexString", "internal/abi.NoEscape", "internal/bytealg.MakeNoZero"], named := ["unicode/utf8.first", "unicode/utf8.acceptRanges", "internal/bytealg.MaxLen", "strconv.ErrSyntax", "strconv.ErrRange", "internal/strconv.uint64pow10", "math/bits.deBruijn32tab", "math/bits.deBruijn64tab", "customs/nomenclature.lengths"], apart := false, laid := [("math/bits.deBruijn32tab", laid_math_bits_deBruijn32tab), ("math/bits.deBruijn64tab", laid_math_bits_deBruijn64tab), ("internal/strconv.uint64pow10", laid_internal_strconv_uint64pow10), ("unicode/utf8.acceptRanges", laid_unicode_utf8_acceptRanges), ("strconv.ErrRange", laid_strconv_ErrRange), ("strconv.ErrSyntax", laid_strconv_ErrSyntax), ("customs/nomenclature.lengths", laid_customs_nomenclature_lengths), ("unicode/utf8.first", laid_unicode_utf8_first)], narrowed := true }
def MeasureApplicableUptoSaid : Prop := measureApplicableUptoRow.holds Tryz.pinned (OpenSpec.upto measureApplicableSpec)

/-- 'customslaw19.MeasureOtherDays', WHERE WHAT IT READS IS OF BULK AT MOST 1048576: true; the input reads as it did. -/
def measureOtherDaysUptoRow : OpenClaim := { program := "ytbilobjddflpeaagreatdoor", sum := "2560520b0a685e10ae7b54de22c004892fe505842d46602f156e7895d8192a87", func := "customs/customslaw19.MeasureOtherDays", spec := "measureOtherDays", inPlace := ["internal/bytealg.CountString", "internal/bytealg.IndexByteString", "internal/bytealg.IndexString", "internal/abi.NoEscape", "internal/bytealg.MakeNoZero"], named := ["unicode/utf8.first", "unicode/utf8.acceptRanges", "internal/bytealg.MaxLen", "strconv.ErrSyntax", "strconv.ErrRange", "internal/strconv.uint64pow10", "math/bits.deBruijn32tab", "math/bits.deBruijn64tab", "customs/nomenclature.lengths"], apart := false, laid := [("math/bits.deBruijn32tab", laid_math_bits_deBruijn32tab), ("math/bits.deBruijn64tab", laid_math_bits_deBruijn64tab), ("internal/strconv.uint64pow10", laid_internal_strconv_uint64pow10), ("unicode/utf8.acceptRanges", laid_unicode_utf8_acceptRanges), ("strconv.ErrRange", laid_strconv_ErrRange), ("strconv.ErrSyntax", laid_strconv_ErrSyntax), ("customs/nomenclature.lengths", laid_customs_nomenclature_lengths), ("unicode/utf8.first", laid_unicode_utf8_first)], narrowed := true }
def MeasureOtherDaysUptoSaid : Prop := measureOtherDaysUptoRow.holds Tryz.pinned (OpenSpec.upto measureOtherDaysSpec)

/-- 'customslaw19.MeasureAdded', WHERE WHAT IT READS IS OF BULK AT MOST 1048576: true; the input reads as it did. -/
def measureAddedUptoRow : OpenClaim := { program := "ytbilobjddflpeaagreatdoor", sum := "2560520b0a685e10ae7b54de22c004892fe505842d46602f156e7895d8192a87", func := "customs/customslaw19.MeasureAdded", spec := "measureAdded", inPlace := ["internal/bytealg.CountString", "internal/bytealg.IndexByteString", "internal/bytealg.IndexString", "internal/abi.NoEscape", "internal/bytealg.MakeNoZero"], named := ["unicode/utf8.first", "unicode/utf8.acceptRanges", "internal/bytealg.MaxLen", "strconv.ErrSyntax", "strconv.ErrRange", "internal/strconv.uint64pow10", "math/bits.deBruijn32tab", "math/bits.deBruijn64tab", "customs/nomenclature.lengths"], apart := false, laid := [("math/bits.deBruijn32tab", laid_math_bits_deBruijn32tab), ("math/bits.deBruijn64tab", laid_math_bits_deBruijn64tab), ("internal/strconv.uint64pow10", laid_internal_strconv_uint64pow10), ("unicode/utf8.acceptRanges", laid_unicode_utf8_acceptRanges), ("strconv.ErrRange", laid_strconv_ErrRange), ("strconv.ErrSyntax", laid_strconv_ErrSyntax), ("customs/nomenclature.lengths", laid_customs_nomenclature_lengths), ("unicode/utf8.first", laid_unicode_utf8_first)], narrowed := true }
def MeasureAddedUptoSaid : Prop := measureAddedUptoRow.holds Tryz.pinned (OpenSpec.upto measureAddedSpec)

/-- 'customslaw19.MeasureFormat', WHERE WHAT IT READS IS OF BULK AT MOST 1048576: true; the input reads as it did. -/
def measureFormatUptoRow : OpenClaim := { program := "ytbilobjddflpeaagreatdoor", sum := "2560520b0a685e10ae7b54de22c004892fe505842d46602f156e7895d8192a87", func := "customs/customslaw19.MeasureFormat", spec := "measureFormat", inPlace := ["internal/bytealg.IndexByteString", "internal/bytealg.IndexString", "internal/abi.NoEscape", "internal/bytealg.MakeNoZero", "internal/bytealg.CountString"], recurses := true, named := ["customs/nomenclature.lengths", "unicode/utf8.first", "unicode/utf8.acceptRanges", "internal/strconv.uint64pow10", "math/bits.deBruijn32tab", "math/bits.deBruijn64tab", "internal/bytealg.MaxLen", "strconv.ErrSyntax", "strconv.ErrRange"], apart := false, laid := [("math/bits.deBruijn32tab", laid_math_bits_deBruijn32tab), ("math/bits.deBruijn64tab", laid_math_bits_deBruijn64tab), ("internal/strconv.uint64pow10", laid_internal_strconv_uint64pow10), ("unicode/utf8.acceptRanges", laid_unicode_utf8_acceptRanges), ("strconv.ErrRange", laid_strconv_ErrRange), ("strconv.ErrSyntax", laid_strconv_ErrSyntax), ("customs/nomenclature.lengths", laid_customs_nomenclature_lengths), ("unicode/utf8.first", laid_unicode_utf8_first)], narrowed := true }
def MeasureFormatUptoSaid : Prop := measureFormatUptoRow.holds Tryz.pinned (OpenSpec.upto measureFormatSpec)

end Rows
end Go.Proofs.YtbilobjddflpeaaGreatDoor
