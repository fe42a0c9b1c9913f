/-
  NARROWER THAN 'FOR EVERY INPUT', by the rows' own cells (each row's printed sentence says how): NomenclatureParse: laid · ClassifyCode: laid · ClassifyErrors: laid · ClassifyBasis: laid · ClassifyLikeness: laid · ClassifyExcluded: laid · ClassifyOtherDays: laid · NomenclatureFormat: laid · ClassifyPath: laid.
  DERIVED. THE GIVEN ROWS OF THIS SEAT. 9 by the template 'for every input the law returns true; each argument reads behind the call as it read before'; 0 by the template 'total and deterministic' (their statements: YtfkefolbabniaaaGreatDoorTotals.lean).
  GIVEN WITH THE SEED: the statements are not yours to turn. If you find one false, say at which input.
  Laid BY PROGRAM, IN A SANDBOX (cutbox-rows.mjs): the forced cells as the released guide's own fill.sh prints them over the translation 6b8f8f618c297341… (all of the seat's roots in one cut). By AI agents, Wed Nov 11 2026. No macro, syntax, notation, axiom, sorry.
-/
import Derived.Test.YtfkefolbabniaaaGreatDoorChecked
import GoSem.PinnedTables
import GoSem.Claim
import GoSem.ClaimJoined
import GoSem.ClaimMapViews
import Derived.JoinedTies
import Derived.KernelRfl
namespace Go.Proofs.YtfkefolbabniaaaGreatDoor
/- THE CELL 'sum', in the pinned program and in every row, IS THE sha256 OF THE DUMP (.gsa) THAT YtfkefolbabniaaaGreatDoorProg.lean LOADS. Nothing in Lean hashes anything: it is a label: what it is worth is what the hold of that sum in a sandbox is worth. -/
noncomputable def Tryz.pinned : Pinned := { name := "ytfkefolbabniaaagreatdoor", sum := "6b8f8f618c297341fcbe336cb3bfd61d5c261d6b9bce20b5ee0c82be29634c64", checked := Tryz.checked }
namespace Rows
def none {H : Type} : Left H := { results := [], args := [] }

/- WHAT THE LISTED PACKAGE-LEVEL VARIABLES READ AS WHEN THE CALL BEGINS. Each datum BY PROGRAM (the guide's laid-datum.mjs) off the statement by which the dump's own 'gosem.cut.vars' lays the variable. In a bare row this is a premise. The card (YtfkefolbabniaaaGreatDoorCards.lean) ties it to the program's text. -/
def laid_math_bits_deBruijn32tab {H : Type} : DataW H := .agg [.lit (.int .u8 0), .lit (.int .u8 1), .lit (.int .u8 28), .lit (.int .u8 2), .lit (.int .u8 29), .lit (.int .u8 14), .lit (.int .u8 24), .lit (.int .u8 3), .lit (.int .u8 30), .lit (.int .u8 22), .lit (.int .u8 20), .lit (.int .u8 15), .lit (.int .u8 25), .lit (.int .u8 17), .lit (.int .u8 4), .lit (.int .u8 8), .lit (.int .u8 31), .lit (.int .u8 27), .lit (.int .u8 13), .lit (.int .u8 23), .lit (.int .u8 21), .lit (.int .u8 19), .lit (.int .u8 16), .lit (.int .u8 7), .lit (.int .u8 26), .lit (.int .u8 12), .lit (.int .u8 18), .lit (.int .u8 6), .lit (.int .u8 11), .lit (.int .u8 5), .lit (.int .u8 10), .lit (.int .u8 9)]
def laid_math_bits_deBruijn64tab {H : Type} : DataW H := .agg [.lit (.int .u8 0), .lit (.int .u8 1), .lit (.int .u8 56), .lit (.int .u8 2), .lit (.int .u8 57), .lit (.int .u8 49), .lit (.int .u8 28), .lit (.int .u8 3), .lit (.int .u8 61), .lit (.int .u8 58), .lit (.int .u8 42), .lit (.int .u8 50), .lit (.int .u8 38), .lit (.int .u8 29), .lit (.int .u8 17), .lit (.int .u8 4), .lit (.int .u8 62), .lit (.int .u8 47), .lit (.int .u8 59), .lit (.int .u8 36), .lit (.int .u8 45), .lit (.int .u8 43), .lit (.int .u8 51), .lit (.int .u8 22), .lit (.int .u8 53), .lit (.int .u8 39), .lit (.int .u8 33), .lit (.int .u8 30), .lit (.int .u8 24), .lit (.int .u8 18), .lit (.int .u8 12), .lit (.int .u8 5), .lit (.int .u8 63), .lit (.int .u8 55), .lit (.int .u8 48), .lit (.int .u8 27), .lit (.int .u8 60), .lit (.int .u8 41), .lit (.int .u8 37), .lit (.int .u8 16), .lit (.int .u8 46), .lit (.int .u8 35), .lit (.int .u8 44), .lit (.int .u8 21), .lit (.int .u8 52), .lit (.int .u8 32), .lit (.int .u8 23), .lit (.int .u8 11), .lit (.int .u8 54), .lit (.int .u8 26), .lit (.int .u8 40), .lit (.int .u8 15), .lit (.int .u8 34), .lit (.int .u8 20), .lit (.int .u8 31), .lit (.int .u8 10), .lit (.int .u8 25), .lit (.int .u8 14), .lit (.int .u8 19), .lit (.int .u8 9), .lit (.int .u8 13), .lit (.int .u8 8), .lit (.int .u8 7), .lit (.int .u8 6)]
def laid_internal_strconv_uint64pow10 {H : Type} : DataW H := .agg [.lit (.int .u64 1), .lit (.int .u64 10), .lit (.int .u64 100), .lit (.int .u64 1000), .lit (.int .u64 10000), .lit (.int .u64 100000), .lit (.int .u64 1000000), .lit (.int .u64 10000000), .lit (.int .u64 100000000), .lit (.int .u64 1000000000), .lit (.int .u64 10000000000), .lit (.int .u64 100000000000), .lit (.int .u64 1000000000000), .lit (.int .u64 10000000000000), .lit (.int .u64 100000000000000), .lit (.int .u64 1000000000000000), .lit (.int .u64 10000000000000000), .lit (.int .u64 100000000000000000), .lit (.int .u64 1000000000000000000), .lit (.int .u64 10000000000000000000)]
def laid_unicode_utf8_acceptRanges {H : Type} : DataW H := .agg [.agg [.lit (.int .u8 128), .lit (.int .u8 191)], .agg [.lit (.int .u8 160), .lit (.int .u8 191)], .agg [.lit (.int .u8 128), .lit (.int .u8 159)], .agg [.lit (.int .u8 144), .lit (.int .u8 191)], .agg [.lit (.int .u8 128), .lit (.int .u8 143)], .agg [.lit (.int .u8 0), .lit (.int .u8 0)], .agg [.lit (.int .u8 0), .lit (.int .u8 0)], .agg [.lit (.int .u8 0), .lit (.int .u8 0)], .agg [.lit (.int .u8 0), .lit (.int .u8 0)], .agg [.lit (.int .u8 0), .lit (.int .u8 0)], .agg [.lit (.int .u8 0), .lit (.int .u8 0)], .agg [.lit (.int .u8 0), .lit (.int .u8 0)], .agg [.lit (.int .u8 0), .lit (.int .u8 0)], .agg [.lit (.int .u8 0), .lit (.int .u8 0)], .agg [.lit (.int .u8 0), .lit (.int .u8 0)], .agg [.lit (.int .u8 0), .lit (.int .u8 0)]]
def laid_strconv_ErrRange {H : Type} : DataW H := .iface "*errors.errorString" (.ptr (.agg [.lit (.string [118, 97, 108, 117, 101, 32, 111, 117, 116, 32, 111, 102, 32, 114, 97, 110, 103, 101])]))
def laid_strconv_ErrSyntax {H : Type} : DataW H := .iface "*errors.errorString" (.ptr (.agg [.lit (.string [105, 110, 118, 97, 108, 105, 100, 32, 115, 121, 110, 116, 97, 120])]))
def laid_customs_nomenclature_lengths {H : Type} : DataW H := .agg [.lit (.int .i64 2), .lit (.int .i64 4), .lit (.int .i64 6), .lit (.int .i64 8)]
/-- One of Go's own tables, pinned by name: the form's constant. -/
def laid_unicode_utf8_first : DataW Unit := Go.Pinned.utf8First

/-- 'customslaw09.NomenclatureParse': WHATEVER THE INPUT: true; the input reads as it did. -/
def nomenclatureParseSpec : ChangeSpec := { name := "nomenclatureParse", fn := fun _ => fun
  | [d1, d2, d3, d4, d5, d6] => { results := [.lit (.bool true)], args := [d1, d2, d3, d4, d5, d6] }
  | _ => none }
def nomenclatureParseRow : OpenClaim := { program := "ytfkefolbabniaaagreatdoor", sum := "6b8f8f618c297341fcbe336cb3bfd61d5c261d6b9bce20b5ee0c82be29634c64", func := "customs/customslaw09.NomenclatureParse", spec := "nomenclatureParse", inPlace := ["internal/bytealg.IndexByteString", "internal/bytealg.IndexString", "internal/bytealg.CountString", "internal/abi.NoEscape", "internal/bytealg.MakeNoZero"], unfollowed := true, recurses := true, named := ["internal/bytealg.MaxLen", "unicode/utf8.first", "unicode/utf8.acceptRanges", "customs/nomenclature.lengths", "strconv.ErrSyntax", "strconv.ErrRange", "internal/strconv.uint64pow10", "math/bits.deBruijn32tab", "math/bits.deBruijn64tab"], apart := false, laid := [("math/bits.deBruijn32tab", laid_math_bits_deBruijn32tab), ("math/bits.deBruijn64tab", laid_math_bits_deBruijn64tab), ("internal/strconv.uint64pow10", laid_internal_strconv_uint64pow10), ("unicode/utf8.acceptRanges", laid_unicode_utf8_acceptRanges), ("strconv.ErrRange", laid_strconv_ErrRange), ("strconv.ErrSyntax", laid_strconv_ErrSyntax), ("customs/nomenclature.lengths", laid_customs_nomenclature_lengths), ("unicode/utf8.first", laid_unicode_utf8_first)] }
def NomenclatureParseSaid : Prop := nomenclatureParseRow.holds Tryz.pinned (OpenSpec.ofChange nomenclatureParseSpec)

/-- ITS FALSE NEIGHBOUR: 'it returns false'. Refute it at one input. -/
def nomenclatureParseWrong : ChangeSpec := { name := "nomenclatureParse", fn := fun _ => fun
  | [d1, d2, d3, d4, d5, d6] => { results := [.lit (.bool false)], args := [d1, d2, d3, d4, d5, d6] }
  | _ => none }
def NomenclatureParseWrongFalsely : Prop := nomenclatureParseRow.holds Tryz.pinned (OpenSpec.ofChange nomenclatureParseWrong)

/-- 'customslaw10.ClassifyCode': WHATEVER THE INPUT: true; the input reads as it did. -/
def classifyCodeSpec : ChangeSpec := { name := "classifyCode", fn := fun _ => fun
  | [d1, d2, d3] => { results := [.lit (.bool true)], args := [d1, d2, d3] }
  | _ => none }
def classifyCodeRow : OpenClaim := { program := "ytfkefolbabniaaagreatdoor", sum := "6b8f8f618c297341fcbe336cb3bfd61d5c261d6b9bce20b5ee0c82be29634c64", func := "customs/customslaw10.ClassifyCode", spec := "classifyCode", inPlace := ["internal/bytealg.IndexByteString", "internal/bytealg.IndexString"], unfollowed := true, recurses := true, named := ["customs/nomenclature.lengths", "unicode/utf8.first", "unicode/utf8.acceptRanges", "internal/bytealg.MaxLen"], apart := false, laid := [("unicode/utf8.acceptRanges", laid_unicode_utf8_acceptRanges), ("customs/nomenclature.lengths", laid_customs_nomenclature_lengths), ("unicode/utf8.first", laid_unicode_utf8_first)] }
def ClassifyCodeSaid : Prop := classifyCodeRow.holds Tryz.pinned (OpenSpec.ofChange classifyCodeSpec)

/-- ITS FALSE NEIGHBOUR: 'it returns false'. Refute it at one input. -/
def classifyCodeWrong : ChangeSpec := { name := "classifyCode", fn := fun _ => fun
  | [d1, d2, d3] => { results := [.lit (.bool false)], args := [d1, d2, d3] }
  | _ => none }
def ClassifyCodeWrongFalsely : Prop := classifyCodeRow.holds Tryz.pinned (OpenSpec.ofChange classifyCodeWrong)

/-- 'customslaw10.ClassifyErrors': WHATEVER THE INPUT: true; the input reads as it did. -/
def classifyErrorsSpec : ChangeSpec := { name := "classifyErrors", fn := fun _ => fun
  | [d1, d2, d3, d4, d5, d6] => { results := [.lit (.bool true)], args := [d1, d2, d3, d4, d5, d6] }
  | _ => none }
def classifyErrorsRow : OpenClaim := { program := "ytfkefolbabniaaagreatdoor", sum := "6b8f8f618c297341fcbe336cb3bfd61d5c261d6b9bce20b5ee0c82be29634c64", func := "customs/customslaw10.ClassifyErrors", spec := "classifyErrors", inPlace := ["internal/bytealg.IndexByteString", "internal/bytealg.IndexString"], unfollowed := true, recurses := true, named := ["customs/nomenclature.lengths", "unicode/utf8.first", "unicode/utf8.acceptRanges", "internal/bytealg.MaxLen"], apart := false, laid := [("unicode/utf8.acceptRanges", laid_unicode_utf8_acceptRanges), ("customs/nomenclature.lengths", laid_customs_nomenclature_lengths), ("unicode/utf8.first", laid_unicode_utf8_first)] }
def ClassifyErrorsSaid : Prop := classifyErrorsRow.holds Tryz.pinned (OpenSpec.ofChange classifyErrorsSpec)

/-- ITS FALSE NEIGHBOUR: 'it returns false'. Refute it at one input. -/
def classifyErrorsWrong : ChangeSpec := { name := "classifyErrors", fn := fun _ => fun
  | [d1, d2, d3, d4, d5, d6] => { results := [.lit (.bool false)], args := [d1, d2, d3, d4, d5, d6] }
  | _ => none }
def ClassifyErrorsWrongFalsely : Prop := classifyErrorsRow.holds Tryz.pinned (OpenSpec.ofChange classifyErrorsWrong)

/-- 'customslaw10.ClassifyBasis': WHATEVER THE INPUT: true; the input reads as it did. -/
def classifyBasisSpec : ChangeSpec := { name := "classifyBasis", fn := fun _ => fun
  | [d1, d2, d3, d4, d5] => { results := [.lit (.bool true)], args := [d1, d2, d3, d4, d5] }
  | _ => none }
def classifyBasisRow : OpenClaim := { program := "ytfkefolbabniaaagreatdoor", sum := "6b8f8f618c297341fcbe336cb3bfd61d5c261d6b9bce20b5ee0c82be29634c64", func := "customs/customslaw10.ClassifyBasis", spec := "classifyBasis", inPlace := ["internal/bytealg.IndexByteString", "internal/bytealg.IndexString"], unfollowed := true, recurses := true, named := ["customs/nomenclature.lengths", "unicode/utf8.first", "unicode/utf8.acceptRanges", "internal/bytealg.MaxLen"], apart := false, laid := [("unicode/utf8.acceptRanges", laid_unicode_utf8_acceptRanges), ("customs/nomenclature.lengths", laid_customs_nomenclature_lengths), ("unicode/utf8.first", laid_unicode_utf8_first)] }
def ClassifyBasisSaid : Prop := classifyBasisRow.holds Tryz.pinned (OpenSpec.ofChange classifyBasisSpec)

/-- ITS FALSE NEIGHBOUR: 'it returns false'. Refute it at one input. -/
def classifyBasisWrong : ChangeSpec := { name := "classifyBasis", fn := fun _ => fun
  | [d1, d2, d3, d4, d5] => { results := [.lit (.bool false)], args := [d1, d2, d3, d4, d5] }
  | _ => none }
def ClassifyBasisWrongFalsely : Prop := classifyBasisRow.holds Tryz.pinned (OpenSpec.ofChange classifyBasisWrong)

/-- 'customslaw10.ClassifyLikeness': WHATEVER THE INPUT: true; the input reads as it did. -/
def classifyLikenessSpec : ChangeSpec := { name := "classifyLikeness", fn := fun _ => fun
  | [d1, d2, d3] => { results := [.lit (.bool true)], args := [d1, d2, d3] }
  | _ => none }
def classifyLikenessRow : OpenClaim := { program := "ytfkefolbabniaaagreatdoor", sum := "6b8f8f618c297341fcbe336cb3bfd61d5c261d6b9bce20b5ee0c82be29634c64", func := "customs/customslaw10.ClassifyLikeness", spec := "classifyLikeness", inPlace := ["internal/bytealg.IndexByteString", "internal/bytealg.IndexString"], unfollowed := true, recurses := true, named := ["customs/nomenclature.lengths", "unicode/utf8.first", "unicode/utf8.acceptRanges", "internal/bytealg.MaxLen"], apart := false, laid := [("unicode/utf8.acceptRanges", laid_unicode_utf8_acceptRanges), ("customs/nomenclature.lengths", laid_customs_nomenclature_lengths), ("unicode/utf8.first", laid_unicode_utf8_first)] }
def ClassifyLikenessSaid : Prop := classifyLikenessRow.holds Tryz.pinned (OpenSpec.ofChange classifyLikenessSpec)

/-- ITS FALSE NEIGHBOUR: 'it returns false'. Refute it at one input. -/
def classifyLikenessWrong : ChangeSpec := { name := "classifyLikeness", fn := fun _ => fun
  | [d1, d2, d3] => { results := [.lit (.bool false)], args := [d1, d2, d3] }
  | _ => none }
def ClassifyLikenessWrongFalsely : Prop := classifyLikenessRow.holds Tryz.pinned (OpenSpec.ofChange classifyLikenessWrong)

/-- 'customslaw10.ClassifyExcluded': WHATEVER THE INPUT: true; the input reads as it did. -/
def classifyExcludedSpec : ChangeSpec := { name := "classifyExcluded", fn := fun _ => fun
  | [d1, d2, d3] => { results := [.lit (.bool true)], args := [d1, d2, d3] }
  | _ => none }
def classifyExcludedRow : OpenClaim := { program := "ytfkefolbabniaaagreatdoor", sum := "6b8f8f618c297341fcbe336cb3bfd61d5c261d6b9bce20b5ee0c82be29634c64", func := "customs/customslaw10.ClassifyExcluded", spec := "classifyExcluded", inPlace := ["internal/bytealg.IndexByteString", "internal/bytealg.IndexString"], unfollowed := true, recurses := true, named := ["customs/nomenclature.lengths", "unicode/utf8.first", "unicode/utf8.acceptRanges", "internal/bytealg.MaxLen"], apart := false, laid := [("unicode/utf8.acceptRanges", laid_unicode_utf8_acceptRanges), ("customs/nomenclature.lengths", laid_customs_nomenclature_lengths), ("unicode/utf8.first", laid_unicode_utf8_first)] }
def ClassifyExcludedSaid : Prop := classifyExcludedRow.holds Tryz.pinned (OpenSpec.ofChange classifyExcludedSpec)

/-- ITS FALSE NEIGHBOUR: 'it returns false'. Refute it at one input. -/
def classifyExcludedWrong : ChangeSpec := { name := "classifyExcluded", fn := fun _ => fun
  | [d1, d2, d3] => { results := [.lit (.bool false)], args := [d1, d2, d3] }
  | _ => none }
def ClassifyExcludedWrongFalsely : Prop := classifyExcludedRow.holds Tryz.pinned (OpenSpec.ofChange classifyExcludedWrong)

/-- 'customslaw10.ClassifyOtherDays': WHATEVER THE INPUT: true; the input reads as it did. -/
def classifyOtherDaysSpec : ChangeSpec := { name := "classifyOtherDays", fn := fun _ => fun
  | [d1, d2, d3, d4] => { results := [.lit (.bool true)], args := [d1, d2, d3, d4] }
  | _ => none }
def classifyOtherDaysRow : OpenClaim := { program := "ytfkefolbabniaaagreatdoor", sum := "6b8f8f618c297341fcbe336cb3bfd61d5c261d6b9bce20b5ee0c82be29634c64", func := "customs/customslaw10.ClassifyOtherDays", spec := "classifyOtherDays", inPlace := ["internal/bytealg.IndexByteString", "internal/bytealg.IndexString"], unfollowed := true, recurses := true, named := ["customs/nomenclature.lengths", "unicode/utf8.first", "unicode/utf8.acceptRanges", "internal/bytealg.MaxLen"], apart := false, laid := [("unicode/utf8.acceptRanges", laid_unicode_utf8_acceptRanges), ("customs/nomenclature.lengths", laid_customs_nomenclature_lengths), ("unicode/utf8.first", laid_unicode_utf8_first)] }
def ClassifyOtherDaysSaid : Prop := classifyOtherDaysRow.holds Tryz.pinned (OpenSpec.ofChange classifyOtherDaysSpec)

/-- ITS FALSE NEIGHBOUR: 'it returns false'. Refute it at one input. -/
def classifyOtherDaysWrong : ChangeSpec := { name := "classifyOtherDays", fn := fun _ => fun
  | [d1, d2, d3, d4] => { results := [.lit (.bool false)], args := [d1, d2, d3, d4] }
  | _ => none }
def ClassifyOtherDaysWrongFalsely : Prop := classifyOtherDaysRow.holds Tryz.pinned (OpenSpec.ofChange classifyOtherDaysWrong)

/-- 'customslaw09.NomenclatureFormat': WHATEVER THE INPUT: true; the input reads as it did. -/
def nomenclatureFormatSpec : ChangeSpec := { name := "nomenclatureFormat", fn := fun _ => fun
  | [d1, d2] => { results := [.lit (.bool true)], args := [d1, d2] }
  | _ => none }
def nomenclatureFormatRow : OpenClaim := { program := "ytfkefolbabniaaagreatdoor", sum := "6b8f8f618c297341fcbe336cb3bfd61d5c261d6b9bce20b5ee0c82be29634c64", func := "customs/customslaw09.NomenclatureFormat", spec := "nomenclatureFormat", inPlace := ["internal/bytealg.IndexByteString", "internal/bytealg.IndexString", "internal/abi.NoEscape", "internal/bytealg.MakeNoZero", "internal/bytealg.CountString"], unfollowed := true, recurses := true, named := ["customs/nomenclature.lengths", "unicode/utf8.first", "unicode/utf8.acceptRanges", "internal/strconv.uint64pow10", "math/bits.deBruijn32tab", "math/bits.deBruijn64tab", "internal/bytealg.MaxLen", "strconv.ErrSyntax", "strconv.ErrRange"], apart := false, laid := [("math/bits.deBruijn32tab", laid_math_bits_deBruijn32tab), ("math/bits.deBruijn64tab", laid_math_bits_deBruijn64tab), ("internal/strconv.uint64pow10", laid_internal_strconv_uint64pow10), ("unicode/utf8.acceptRanges", laid_unicode_utf8_acceptRanges), ("strconv.ErrRange", laid_strconv_ErrRange), ("strconv.ErrSyntax", laid_strconv_ErrSyntax), ("customs/nomenclature.lengths", laid_customs_nomenclature_lengths), ("unicode/utf8.first", laid_unicode_utf8_first)] }
def NomenclatureFormatSaid : Prop := nomenclatureFormatRow.holds Tryz.pinned (OpenSpec.ofChange nomenclatureFormatSpec)

/-- ITS FALSE NEIGHBOUR: 'it returns false'. Refute it at one input. -/
def nomenclatureFormatWrong : ChangeSpec := { name := "nomenclatureFormat", fn := fun _ => fun
  | [d1, d2] => { results := [.lit (.bool false)], args := [d1, d2] }
  | _ => none }
def NomenclatureFormatWrongFalsely : Prop := nomenclatureFormatRow.holds Tryz.pinned (OpenSpec.ofChange nomenclatureFormatWrong)

/-- 'customslaw10.ClassifyPath': WHATEVER THE INPUT: true; the input reads as it did. -/
def classifyPathSpec : ChangeSpec := { name := "classifyPath", fn := fun _ => fun
  | [d1, d2, d3] => { results := [.lit (.bool true)], args := [d1, d2, d3] }
  | _ => none }
def classifyPathRow : OpenClaim := { program := "ytfkefolbabniaaagreatdoor", sum := "6b8f8f618c297341fcbe336cb3bfd61d5c261d6b9bce20b5ee0c82be29634c64", func := "customs/customslaw10.ClassifyPath", spec := "classifyPath", inPlace := ["internal/bytealg.IndexByteString", "internal/bytealg.IndexString"], unfollowed := true, recurses := true, named := ["customs/nomenclature.lengths", "unicode/utf8.first", "unicode/utf8.acceptRanges", "internal/bytealg.MaxLen"], apart := false, laid := [("unicode/utf8.acceptRanges", laid_unicode_utf8_acceptRanges), ("customs/nomenclature.lengths", laid_customs_nomenclature_lengths), ("unicode/utf8.first", laid_unicode_utf8_first)] }
def ClassifyPathSaid : Prop := classifyPathRow.holds Tryz.pinned (OpenSpec.ofChange classifyPathSpec)

/-- ITS FALSE NEIGHBOUR: 'it returns false'. Refute it at one input. -/
def classifyPathWrong : ChangeSpec := { name := "classifyPath", fn := fun _ => fun
  | [d1, d2, d3] => { results := [.lit (.bool false)], args := [d1, d2, d3] }
  | _ => none }
def ClassifyPathWrongFalsely : Prop := classifyPathRow.holds Tryz.pinned (OpenSpec.ofChange classifyPathWrong)

/- THE SECOND FORM. 'bulk': how many values and letters a reading holds, each counted each time it is reached (what is shared counts as often as it is met; a slice's spare places count too). A statement '..UptoSaid' is the law's where the arguments, and the package variables that the reading takes, are together of bulk at most 1048576: NARROWER than '..Said'. Prove '..Said' where nothing that the law and all that it calls make is longer than what came in: it says more and counts as full. Else prove '..UptoSaid'. A law counts once. -/
mutual
def uptoBulk {H : Type} : DataW H → Nat
  | .lit (.string bytes) => bytes.length + 1
  | .lit _ => 1
  | .nil => 1
  | .ptr d => uptoBulk d + 1
  | .slice elems spare => uptoBulkAll elems + uptoBulkAll spare + 1
  | .agg parts => uptoBulkAll parts + 1
  | .iface _ d => uptoBulk d + 1
  | .map entries => uptoBulkEntries entries + 1
  | .held _ => 1
def uptoBulkAll {H : Type} : List (DataW H) → Nat
  | [] => 0
  | d :: r => uptoBulk d + uptoBulkAll r
def uptoBulkEntries {H : Type} : List (Lit × DataW H) → Nat
  | [] => 0
  | x :: r => uptoBulkEntry x + uptoBulkEntries r
def uptoBulkEntry {H : Type} : Lit × DataW H → Nat
  | (.string bytes, d) => bytes.length + uptoBulk d + 1
  | (_, d) => uptoBulk d + 1
 end
def uptoSmall : (H : Type) → List (DataW H) → Bool := fun _ ds => decide (uptoBulkAll ds ≤ 1048576)
def OpenSpec.upto (s : _root_.Go.ChangeSpec) : _root_.Go.OpenSpec := { _root_.Go.OpenSpec.ofChange s with cond := some uptoSmall }

/-- 'customslaw09.NomenclatureParse', WHERE WHAT IT READS IS OF BULK AT MOST 1048576: true; the input reads as it did. -/
def nomenclatureParseUptoRow : OpenClaim := { program := "ytfkefolbabniaaagreatdoor", sum := "6b8f8f618c297341fcbe336cb3bfd61d5c261d6b9bce20b5ee0c82be29634c64", func := "customs/customslaw09.NomenclatureParse", spec := "nomenclatureParse", inPlace := ["internal/bytealg.IndexByteString", "internal/bytealg.IndexString", "internal/bytealg.CountString", "internal/abi.NoEscape", "internal/bytealg.MakeNoZero"], unfollowed := true, recurses := true, named := ["internal/bytealg.MaxLen", "unicode/utf8.first", "unicode/utf8.acceptRanges", "customs/nomenclature.lengths", "strconv.ErrSyntax", "strconv.ErrRange", "internal/strconv.uint64pow10", "math/bits.deBruijn32tab", "math/bits.deBruijn64tab"], apart := false, laid := [("math/bits.deBruijn32tab", laid_math_bits_deBruijn32tab), ("math/bits.deBruijn64tab", laid_math_bits_deBruijn64tab), ("internal/strconv.uint64pow10", laid_internal_strconv_uint64pow10), ("unicode/utf8.acceptRanges", laid_unicode_utf8_acceptRanges), ("strconv.ErrRange", laid_strconv_ErrRange), ("strconv.ErrSyntax", laid_strconv_ErrSyntax), ("customs/nomenclature.lengths", laid_customs_nomenclature_lengths), ("unicode/utf8.first", laid_unicode_utf8_first)], narrowed := true }
def NomenclatureParseUptoSaid : Prop := nomenclatureParseUptoRow.holds Tryz.pinned (OpenSpec.upto nomenclatureParseSpec)

/-- 'customslaw10.ClassifyCode', WHERE WHAT IT READS IS OF BULK AT MOST 1048576: true; the input reads as it did. -/
def classifyCodeUptoRow : OpenClaim := { program := "ytfkefolbabniaaagreatdoor", sum := "6b8f8f618c297341fcbe336cb3bfd61d5c261d6b9bce20b5ee0c82be29634c64", func := "customs/customslaw10.ClassifyCode", spec := "classifyCode", inPlace := ["internal/bytealg.IndexByteString", "internal/bytealg.IndexString"], unfollowed := true, recurses := true, named := ["customs/nomenclature.lengths", "unicode/utf8.first", "unicode/utf8.acceptRanges", "internal/bytealg.MaxLen"], apart := false, laid := [("unicode/utf8.acceptRanges", laid_unicode_utf8_acceptRanges), ("customs/nomenclature.lengths", laid_customs_nomenclature_lengths), ("unicode/utf8.first", laid_unicode_utf8_first)], narrowed := true }
def ClassifyCodeUptoSaid : Prop := classifyCodeUptoRow.holds Tryz.pinned (OpenSpec.upto classifyCodeSpec)

/-- 'customslaw10.ClassifyErrors', WHERE WHAT IT READS IS OF BULK AT MOST 1048576: true; the input reads as it did. -/
def classifyErrorsUptoRow : OpenClaim := { program := "ytfkefolbabniaaagreatdoor", sum := "6b8f8f618c297341fcbe336cb3bfd61d5c261d6b9bce20b5ee0c82be29634c64", func := "customs/customslaw10.ClassifyErrors", spec := "classifyErrors", inPlace := ["internal/bytealg.IndexByteString", "internal/bytealg.IndexString"], unfollowed := true, recurses := true, named := ["customs/nomenclature.lengths", "unicode/utf8.first", "unicode/utf8.acceptRanges", "internal/bytealg.MaxLen"], apart := false, laid := [("unicode/utf8.acceptRanges", laid_unicode_utf8_acceptRanges), ("customs/nomenclature.lengths", laid_customs_nomenclature_lengths), ("unicode/utf8.first", laid_unicode_utf8_first)], narrowed := true }
def ClassifyErrorsUptoSaid : Prop := classifyErrorsUptoRow.holds Tryz.pinned (OpenSpec.upto classifyErrorsSpec)

/-- 'customslaw10.ClassifyBasis', WHERE WHAT IT READS IS OF BULK AT MOST 1048576: true; the input reads as it did. -/
def classifyBasisUptoRow : OpenClaim := { program := "ytfkefolbabniaaagreatdoor", sum := "6b8f8f618c297341fcbe336cb3bfd61d5c261d6b9bce20b5ee0c82be29634c64", func := "customs/customslaw10.ClassifyBasis", spec := "classifyBasis", inPlace := ["internal/bytealg.IndexByteString", "internal/bytealg.IndexString"], unfollowed := true, recurses := true, named := ["customs/nomenclature.lengths", "unicode/utf8.first", "unicode/utf8.acceptRanges", "internal/bytealg.MaxLen"], apart := false, laid := [("unicode/utf8.acceptRanges", laid_unicode_utf8_acceptRanges), ("customs/nomenclature.lengths", laid_customs_nomenclature_lengths), ("unicode/utf8.first", laid_unicode_utf8_first)], narrowed := true }
def ClassifyBasisUptoSaid : Prop := classifyBasisUptoRow.holds Tryz.pinned (OpenSpec.upto classifyBasisSpec)

/-- 'customslaw10.ClassifyLikeness', WHERE WHAT IT READS IS OF BULK AT MOST 1048576: true; the input reads as it did. -/
def classifyLikenessUptoRow : OpenClaim := { program := "ytfkefolbabniaaagreatdoor", sum := "6b8f8f618c297341fcbe336cb3bfd61d5c261d6b9bce20b5ee0c82be29634c64", func := "customs/customslaw10.ClassifyLikeness", spec := "classifyLikeness", inPlace := ["internal/bytealg.IndexByteString", "internal/bytealg.IndexString"], unfollowed := true, recurses := true, named := ["customs/nomenclature.lengths", "unicode/utf8.first", "unicode/utf8.acceptRanges", "internal/bytealg.MaxLen"], apart := false, laid := [("unicode/utf8.acceptRanges", laid_unicode_utf8_acceptRanges), ("customs/nomenclature.lengths", laid_customs_nomenclature_lengths), ("unicode/utf8.first", laid_unicode_utf8_first)], narrowed := true }
def ClassifyLikenessUptoSaid : Prop := classifyLikenessUptoRow.holds Tryz.pinned (OpenSpec.upto classifyLikenessSpec)

/-- 'customslaw10.ClassifyExcluded', WHERE WHAT IT READS IS OF BULK AT MOST 1048576: true; the input reads as it did. -/
def classifyExcludedUptoRow : OpenClaim := { program := "ytfkefolbabniaaagreatdoor", sum := "6b8f8f618c297341fcbe336cb3bfd61d5c261d6b9bce20b5ee0c82be29634c64", func := "customs/customslaw10.ClassifyExcluded", spec := "classifyExcluded", inPlace := ["internal/bytealg.IndexByteString", "internal/bytealg.IndexString"], unfollowed := true, recurses := true, named := ["customs/nomenclature.lengths", "unicode/utf8.first", "unicode/utf8.acceptRanges", "internal/bytealg.MaxLen"], apart := false, laid := [("unicode/utf8.acceptRanges", laid_unicode_utf8_acceptRanges), ("customs/nomenclature.lengths", laid_customs_nomenclature_lengths), ("unicode/utf8.first", laid_unicode_utf8_first)], narrowed := true }
def ClassifyExcludedUptoSaid : Prop := classifyExcludedUptoRow.holds Tryz.pinned (OpenSpec.upto classifyExcludedSpec)

/-- 'customslaw10.ClassifyOtherDays', WHERE WHAT IT READS IS OF BULK AT MOST 1048576: true; the input reads as it did. -/
def classifyOtherDaysUptoRow : OpenClaim := { program := "ytfkefolbabniaaagreatdoor", sum := "6b8f8f618c297341fcbe336cb3bfd61d5c261d6b9bce20b5ee0c82be29634c64", func := "customs/customslaw10.ClassifyOtherDays", spec := "classifyOtherDays", inPlace := ["internal/bytealg.IndexByteString", "internal/bytealg.IndexString"], unfollowed := true, recurses := true, named := ["customs/nomenclature.lengths", "unicode/utf8.first", "unicode/utf8.acceptRanges", "internal/bytealg.MaxLen"], apart := false, laid := [("unicode/utf8.acceptRanges", laid_unicode_utf8_acceptRanges), ("customs/nomenclature.lengths", laid_customs_nomenclature_lengths), ("unicode/utf8.first", laid_unicode_utf8_first)], narrowed := true }
def ClassifyOtherDaysUptoSaid : Prop := classifyOtherDaysUptoRow.holds Tryz.pinned (OpenSpec.upto classifyOtherDaysSpec)

/-- 'customslaw09.NomenclatureFormat', WHERE WHAT IT READS IS OF BULK AT MOST 1048576: true; the input reads as it did. -/
def nomenclatureFormatUptoRow : OpenClaim := { program := "ytfkefolbabniaaagreatdoor", sum := "6b8f8f618c297341fcbe336cb3bfd61d5c261d6b9bce20b5ee0c82be29634c64", func := "customs/customslaw09.NomenclatureFormat", spec := "nomenclatureFormat", inPlace := ["internal/bytealg.IndexByteString", "internal/bytealg.IndexString", "internal/abi.NoEscape", "internal/bytealg.MakeNoZero", "internal/bytealg.CountString"], unfollowed := true, recurses := true, named := ["customs/nomenclature.lengths", "unicode/utf8.first", "unicode/utf8.acceptRanges", "internal/strconv.uint64pow10", "math/bits.deBruijn32tab", "math/bits.deBruijn64tab", "internal/bytealg.MaxLen", "strconv.ErrSyntax", "strconv.ErrRange"], apart := false, laid := [("math/bits.deBruijn32tab", laid_math_bits_deBruijn32tab), ("math/bits.deBruijn64tab", laid_math_bits_deBruijn64tab), ("internal/strconv.uint64pow10", laid_internal_strconv_uint64pow10), ("unicode/utf8.acceptRanges", laid_unicode_utf8_acceptRanges), ("strconv.ErrRange", laid_strconv_ErrRange), ("strconv.ErrSyntax", laid_strconv_ErrSyntax), ("customs/nomenclature.lengths", laid_customs_nomenclature_lengths), ("unicode/utf8.first", laid_unicode_utf8_first)], narrowed := true }
def NomenclatureFormatUptoSaid : Prop := nomenclatureFormatUptoRow.holds Tryz.pinned (OpenSpec.upto nomenclatureFormatSpec)

/-- 'customslaw10.ClassifyPath', WHERE WHAT IT READS IS OF BULK AT MOST 1048576: true; the input reads as it did. -/
def classifyPathUptoRow : OpenClaim := { program := "ytfkefolbabniaaagreatdoor", sum := "6b8f8f618c297341fcbe336cb3bfd61d5c261d6b9bce20b5ee0c82be29634c64", func := "customs/customslaw10.ClassifyPath", spec := "classifyPath", inPlace := ["internal/bytealg.IndexByteString", "internal/bytealg.IndexString"], unfollowed := true, recurses := true, named := ["customs/nomenclature.lengths", "unicode/utf8.first", "unicode/utf8.acceptRanges", "internal/bytealg.MaxLen"], apart := false, laid := [("unicode/utf8.acceptRanges", laid_unicode_utf8_acceptRanges), ("customs/nomenclature.lengths", laid_customs_nomenclature_lengths), ("unicode/utf8.first", laid_unicode_utf8_first)], narrowed := true }
def ClassifyPathUptoSaid : Prop := classifyPathUptoRow.holds Tryz.pinned (OpenSpec.upto classifyPathSpec)

end Rows
end Go.Proofs.YtfkefolbabniaaaGreatDoor
