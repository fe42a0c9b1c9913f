/-
  DERIVED. GIVEN WITH THE SEED: THE CARDS: each row of YtfkefolbabniaaaGreatDoorRows.lean that lists a variable, with what it lists TIED to the program's text (the seventh form; the later family's looks); each row that meets fmt, with fmt's text TOLD by the authors' own Lean function (tested against real Go, not proved from fmt's source: count such statements apart). THE CARD IS WHAT COUNTS. Prove the row's statement (the work); the ties are given (YtfkefolbabniaaaGreatDoorTie.lean); close each card by the builder's one call (the guide's Derived/Test/ToyasCard.lean, 'card_holds'). Laid BY PROGRAM, IN A SANDBOX (cutbox-door.mjs). By AI agents, Wed Nov 11 2026. No macro, syntax, notation, axiom, sorry.
-/
import Derived.Test.YtfkefolbabniaaaGreatDoorRows
import GoSem.ClaimSeven
namespace Go.Proofs.YtfkefolbabniaaaGreatDoor
namespace Rows

/-- THE TIED CARD OF 'customslaw09.NomenclatureParse'. -/
def nomenclatureParseCard : Claim7 := { stood := { row := nomenclatureParseRow, standIns := [], harness := (true, "c726904cdd8c3d42e259d24abeaff7c4ecf2a88f2ab4c82868d25d3ead46bb88"), looks := true }, kinds := [], alts := [], laidByText := true, laidKinds := [.data, .data, .data, .data, .sentinel, .sentinel, .data, .pinned], laidTests := true, laidLooks := .later }
def NomenclatureParseCardSaid : Prop := Claim7.holds Tryz.pinned (.plain (OpenSpec.ofChange nomenclatureParseSpec)) nomenclatureParseCard

/-- THE TIED CARD OF 'customslaw10.ClassifyCode'. -/
def classifyCodeCard : Claim7 := { stood := { row := classifyCodeRow, standIns := [], harness := (true, "c726904cdd8c3d42e259d24abeaff7c4ecf2a88f2ab4c82868d25d3ead46bb88"), looks := true }, kinds := [], alts := [], laidByText := true, laidKinds := [.data, .data, .pinned], laidTests := true, laidLooks := .later }
def ClassifyCodeCardSaid : Prop := Claim7.holds Tryz.pinned (.plain (OpenSpec.ofChange classifyCodeSpec)) classifyCodeCard

/-- THE TIED CARD OF 'customslaw10.ClassifyErrors'. -/
def classifyErrorsCard : Claim7 := { stood := { row := classifyErrorsRow, standIns := [], harness := (true, "c726904cdd8c3d42e259d24abeaff7c4ecf2a88f2ab4c82868d25d3ead46bb88"), looks := true }, kinds := [], alts := [], laidByText := true, laidKinds := [.data, .data, .pinned], laidTests := true, laidLooks := .later }
def ClassifyErrorsCardSaid : Prop := Claim7.holds Tryz.pinned (.plain (OpenSpec.ofChange classifyErrorsSpec)) classifyErrorsCard

/-- THE TIED CARD OF 'customslaw10.ClassifyBasis'. -/
def classifyBasisCard : Claim7 := { stood := { row := classifyBasisRow, standIns := [], harness := (true, "c726904cdd8c3d42e259d24abeaff7c4ecf2a88f2ab4c82868d25d3ead46bb88"), looks := true }, kinds := [], alts := [], laidByText := true, laidKinds := [.data, .data, .pinned], laidTests := true, laidLooks := .later }
def ClassifyBasisCardSaid : Prop := Claim7.holds Tryz.pinned (.plain (OpenSpec.ofChange classifyBasisSpec)) classifyBasisCard

/-- THE TIED CARD OF 'customslaw10.ClassifyLikeness'. -/
def classifyLikenessCard : Claim7 := { stood := { row := classifyLikenessRow, standIns := [], harness := (true, "c726904cdd8c3d42e259d24abeaff7c4ecf2a88f2ab4c82868d25d3ead46bb88"), looks := true }, kinds := [], alts := [], laidByText := true, laidKinds := [.data, .data, .pinned], laidTests := true, laidLooks := .later }
def ClassifyLikenessCardSaid : Prop := Claim7.holds Tryz.pinned (.plain (OpenSpec.ofChange classifyLikenessSpec)) classifyLikenessCard

/-- THE TIED CARD OF 'customslaw10.ClassifyExcluded'. -/
def classifyExcludedCard : Claim7 := { stood := { row := classifyExcludedRow, standIns := [], harness := (true, "c726904cdd8c3d42e259d24abeaff7c4ecf2a88f2ab4c82868d25d3ead46bb88"), looks := true }, kinds := [], alts := [], laidByText := true, laidKinds := [.data, .data, .pinned], laidTests := true, laidLooks := .later }
def ClassifyExcludedCardSaid : Prop := Claim7.holds Tryz.pinned (.plain (OpenSpec.ofChange classifyExcludedSpec)) classifyExcludedCard

/-- THE TIED CARD OF 'customslaw10.ClassifyOtherDays'. -/
def classifyOtherDaysCard : Claim7 := { stood := { row := classifyOtherDaysRow, standIns := [], harness := (true, "c726904cdd8c3d42e259d24abeaff7c4ecf2a88f2ab4c82868d25d3ead46bb88"), looks := true }, kinds := [], alts := [], laidByText := true, laidKinds := [.data, .data, .pinned], laidTests := true, laidLooks := .later }
def ClassifyOtherDaysCardSaid : Prop := Claim7.holds Tryz.pinned (.plain (OpenSpec.ofChange classifyOtherDaysSpec)) classifyOtherDaysCard

/-- THE TIED CARD OF 'customslaw09.NomenclatureFormat'. -/
def nomenclatureFormatCard : Claim7 := { stood := { row := nomenclatureFormatRow, standIns := [], harness := (true, "c726904cdd8c3d42e259d24abeaff7c4ecf2a88f2ab4c82868d25d3ead46bb88"), looks := true }, kinds := [], alts := [], laidByText := true, laidKinds := [.data, .data, .data, .data, .sentinel, .sentinel, .data, .pinned], laidTests := true, laidLooks := .later }
def NomenclatureFormatCardSaid : Prop := Claim7.holds Tryz.pinned (.plain (OpenSpec.ofChange nomenclatureFormatSpec)) nomenclatureFormatCard

/-- THE TIED CARD OF 'customslaw10.ClassifyPath'. -/
def classifyPathCard : Claim7 := { stood := { row := classifyPathRow, standIns := [], harness := (true, "c726904cdd8c3d42e259d24abeaff7c4ecf2a88f2ab4c82868d25d3ead46bb88"), looks := true }, kinds := [], alts := [], laidByText := true, laidKinds := [.data, .data, .pinned], laidTests := true, laidLooks := .later }
def ClassifyPathCardSaid : Prop := Claim7.holds Tryz.pinned (.plain (OpenSpec.ofChange classifyPathSpec)) classifyPathCard

/-- THE SECOND FORM's CARD OF 'customslaw09.NomenclatureParse'. -/
def nomenclatureParseUptoCard : Claim7 := { stood := { row := nomenclatureParseUptoRow, standIns := [], harness := (true, "c726904cdd8c3d42e259d24abeaff7c4ecf2a88f2ab4c82868d25d3ead46bb88"), looks := true }, kinds := [], alts := [], laidByText := true, laidKinds := [.data, .data, .data, .data, .sentinel, .sentinel, .data, .pinned], laidTests := true, laidLooks := .later }
def NomenclatureParseUptoCardSaid : Prop := Claim7.holds Tryz.pinned (.plain (OpenSpec.upto nomenclatureParseSpec)) nomenclatureParseUptoCard

/-- THE SECOND FORM's CARD OF 'customslaw10.ClassifyCode'. -/
def classifyCodeUptoCard : Claim7 := { stood := { row := classifyCodeUptoRow, standIns := [], harness := (true, "c726904cdd8c3d42e259d24abeaff7c4ecf2a88f2ab4c82868d25d3ead46bb88"), looks := true }, kinds := [], alts := [], laidByText := true, laidKinds := [.data, .data, .pinned], laidTests := true, laidLooks := .later }
def ClassifyCodeUptoCardSaid : Prop := Claim7.holds Tryz.pinned (.plain (OpenSpec.upto classifyCodeSpec)) classifyCodeUptoCard

/-- THE SECOND FORM's CARD OF 'customslaw10.ClassifyErrors'. -/
def classifyErrorsUptoCard : Claim7 := { stood := { row := classifyErrorsUptoRow, standIns := [], harness := (true, "c726904cdd8c3d42e259d24abeaff7c4ecf2a88f2ab4c82868d25d3ead46bb88"), looks := true }, kinds := [], alts := [], laidByText := true, laidKinds := [.data, .data, .pinned], laidTests := true, laidLooks := .later }
def ClassifyErrorsUptoCardSaid : Prop := Claim7.holds Tryz.pinned (.plain (OpenSpec.upto classifyErrorsSpec)) classifyErrorsUptoCard

/-- THE SECOND FORM's CARD OF 'customslaw10.ClassifyBasis'. -/
def classifyBasisUptoCard : Claim7 := { stood := { row := classifyBasisUptoRow, standIns := [], harness := (true, "c726904cdd8c3d42e259d24abeaff7c4ecf2a88f2ab4c82868d25d3ead46bb88"), looks := true }, kinds := [], alts := [], laidByText := true, laidKinds := [.data, .data, .pinned], laidTests := true, laidLooks := .later }
def ClassifyBasisUptoCardSaid : Prop := Claim7.holds Tryz.pinned (.plain (OpenSpec.upto classifyBasisSpec)) classifyBasisUptoCard

/-- THE SECOND FORM's CARD OF 'customslaw10.ClassifyLikeness'. -/
def classifyLikenessUptoCard : Claim7 := { stood := { row := classifyLikenessUptoRow, standIns := [], harness := (true, "c726904cdd8c3d42e259d24abeaff7c4ecf2a88f2ab4c82868d25d3ead46bb88"), looks := true }, kinds := [], alts := [], laidByText := true, laidKinds := [.data, .data, .pinned], laidTests := true, laidLooks := .later }
def ClassifyLikenessUptoCardSaid : Prop := Claim7.holds Tryz.pinned (.plain (OpenSpec.upto classifyLikenessSpec)) classifyLikenessUptoCard

/-- THE SECOND FORM's CARD OF 'customslaw10.ClassifyExcluded'. -/
def classifyExcludedUptoCard : Claim7 := { stood := { row := classifyExcludedUptoRow, standIns := [], harness := (true, "c726904cdd8c3d42e259d24abeaff7c4ecf2a88f2ab4c82868d25d3ead46bb88"), looks := true }, kinds := [], alts := [], laidByText := true, laidKinds := [.data, .data, .pinned], laidTests := true, laidLooks := .later }
def ClassifyExcludedUptoCardSaid : Prop := Claim7.holds Tryz.pinned (.plain (OpenSpec.upto classifyExcludedSpec)) classifyExcludedUptoCard

/-- THE SECOND FORM's CARD OF 'customslaw10.ClassifyOtherDays'. -/
def classifyOtherDaysUptoCard : Claim7 := { stood := { row := classifyOtherDaysUptoRow, standIns := [], harness := (true, "c726904cdd8c3d42e259d24abeaff7c4ecf2a88f2ab4c82868d25d3ead46bb88"), looks := true }, kinds := [], alts := [], laidByText := true, laidKinds := [.data, .data, .pinned], laidTests := true, laidLooks := .later }
def ClassifyOtherDaysUptoCardSaid : Prop := Claim7.holds Tryz.pinned (.plain (OpenSpec.upto classifyOtherDaysSpec)) classifyOtherDaysUptoCard

/-- THE SECOND FORM's CARD OF 'customslaw09.NomenclatureFormat'. -/
def nomenclatureFormatUptoCard : Claim7 := { stood := { row := nomenclatureFormatUptoRow, standIns := [], harness := (true, "c726904cdd8c3d42e259d24abeaff7c4ecf2a88f2ab4c82868d25d3ead46bb88"), looks := true }, kinds := [], alts := [], laidByText := true, laidKinds := [.data, .data, .data, .data, .sentinel, .sentinel, .data, .pinned], laidTests := true, laidLooks := .later }
def NomenclatureFormatUptoCardSaid : Prop := Claim7.holds Tryz.pinned (.plain (OpenSpec.upto nomenclatureFormatSpec)) nomenclatureFormatUptoCard

/-- THE SECOND FORM's CARD OF 'customslaw10.ClassifyPath'. -/
def classifyPathUptoCard : Claim7 := { stood := { row := classifyPathUptoRow, standIns := [], harness := (true, "c726904cdd8c3d42e259d24abeaff7c4ecf2a88f2ab4c82868d25d3ead46bb88"), looks := true }, kinds := [], alts := [], laidByText := true, laidKinds := [.data, .data, .pinned], laidTests := true, laidLooks := .later }
def ClassifyPathUptoCardSaid : Prop := Claim7.holds Tryz.pinned (.plain (OpenSpec.upto classifyPathSpec)) classifyPathUptoCard
end Rows
end Go.Proofs.YtfkefolbabniaaaGreatDoor
