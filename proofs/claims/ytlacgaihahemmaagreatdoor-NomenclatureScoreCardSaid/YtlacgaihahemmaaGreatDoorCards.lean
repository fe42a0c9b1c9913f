/-
  DERIVED. GIVEN WITH THE SEED: THE CARDS: each row of YtlacgaihahemmaaGreatDoorRows.lean that lists a variable, with what it lists TIED to the program's text (the seventh form; the later family's looks); each row that meets fmt, with fmt's text TOLD by the authors' own Lean function (tested against real Go, not proved from fmt's source: count such statements apart). THE CARD IS WHAT COUNTS. Prove the row's statement (the work); the ties are given (YtlacgaihahemmaaGreatDoorTie.lean); close each card by the builder's one call (the guide's Derived/Test/ToyasCard.lean, 'card_holds'). Laid BY PROGRAM, IN A SANDBOX (cutbox-door.mjs). By AI agents, Wed Nov 11 2026. No macro, syntax, notation, axiom, sorry.
-/
import Derived.Test.YtlacgaihahemmaaGreatDoorRows
import GoSem.ClaimSeven
namespace Go.Proofs.YtlacgaihahemmaaGreatDoor
namespace Rows

/-- THE TIED CARD OF 'customslaw09.CodeLevel'. -/
def codeLevelCard : Claim7 := { stood := { row := codeLevelRow, standIns := [], harness := (true, "be20352856ffe52963e0a0d026a79261ea5692484388062ecf4caf991b6482c5"), looks := true }, kinds := [], alts := [], laidByText := true, laidKinds := [.data, .data, .data, .data, .sentinel, .sentinel, .data, .pinned], laidTests := true, laidLooks := .later }
def CodeLevelCardSaid : Prop := Claim7.holds Tryz.pinned (.plain (OpenSpec.ofChange codeLevelSpec)) codeLevelCard

/-- THE TIED CARD OF 'customslaw09.NomenclatureValidate'. -/
def nomenclatureValidateCard : Claim7 := { stood := { row := nomenclatureValidateRow, standIns := [], harness := (true, "be20352856ffe52963e0a0d026a79261ea5692484388062ecf4caf991b6482c5"), looks := true }, kinds := [], alts := [], laidByText := true, laidKinds := [.data, .data, .data, .data, .sentinel, .sentinel, .data, .pinned], laidTests := true, laidLooks := .later }
def NomenclatureValidateCardSaid : Prop := Claim7.holds Tryz.pinned (.plain (OpenSpec.ofChange nomenclatureValidateSpec)) nomenclatureValidateCard

/-- THE TIED CARD OF 'customslaw09.NomenclatureChanged'. -/
def nomenclatureChangedCard : Claim7 := { stood := { row := nomenclatureChangedRow, standIns := [], harness := (true, "be20352856ffe52963e0a0d026a79261ea5692484388062ecf4caf991b6482c5"), looks := true }, kinds := [], alts := [], laidByText := true, laidKinds := [.data, .data, .data, .data, .sentinel, .sentinel, .data, .pinned], laidTests := true, laidLooks := .later }
def NomenclatureChangedCardSaid : Prop := Claim7.holds Tryz.pinned (.plain (OpenSpec.ofChange nomenclatureChangedSpec)) nomenclatureChangedCard

/-- THE TIED CARD OF 'customslaw09.NomenclatureParse'. -/
def nomenclatureParseCard : Claim7 := { stood := { row := nomenclatureParseRow, standIns := [], harness := (true, "be20352856ffe52963e0a0d026a79261ea5692484388062ecf4caf991b6482c5"), looks := true }, kinds := [], alts := [], laidByText := true, laidKinds := [.data, .data, .data, .data, .sentinel, .sentinel, .data, .pinned], laidTests := true, laidLooks := .later }
def NomenclatureParseCardSaid : Prop := Claim7.holds Tryz.pinned (.plain (OpenSpec.ofChange nomenclatureParseSpec)) nomenclatureParseCard

/-- THE TIED CARD OF 'customslaw09.NomenclatureScore'. -/
def nomenclatureScoreCard : Claim7 := { stood := { row := nomenclatureScoreRow, standIns := [], harness := (true, "be20352856ffe52963e0a0d026a79261ea5692484388062ecf4caf991b6482c5"), looks := true }, kinds := [], alts := [], laidByText := true, laidKinds := [.data, .data, .data, .data, .sentinel, .sentinel, .data, .pinned], laidTests := true, laidLooks := .later }
def NomenclatureScoreCardSaid : Prop := Claim7.holds Tryz.pinned (.plain (OpenSpec.ofChange nomenclatureScoreSpec)) nomenclatureScoreCard

/-- THE TIED CARD OF 'customslaw09.NomenclatureDays'. -/
def nomenclatureDaysCard : Claim7 := { stood := { row := nomenclatureDaysRow, standIns := [], harness := (true, "be20352856ffe52963e0a0d026a79261ea5692484388062ecf4caf991b6482c5"), looks := true }, kinds := [], alts := [], laidByText := true, laidKinds := [.data, .data, .data, .data, .sentinel, .sentinel, .data, .pinned], laidTests := true, laidLooks := .later }
def NomenclatureDaysCardSaid : Prop := Claim7.holds Tryz.pinned (.plain (OpenSpec.ofChange nomenclatureDaysSpec)) nomenclatureDaysCard

/-- THE TIED CARD OF 'customslaw09.NomenclatureTree'. -/
def nomenclatureTreeCard : Claim7 := { stood := { row := nomenclatureTreeRow, standIns := [], harness := (true, "be20352856ffe52963e0a0d026a79261ea5692484388062ecf4caf991b6482c5"), looks := true }, kinds := [], alts := [], laidByText := true, laidKinds := [.data, .data, .data, .data, .sentinel, .sentinel, .data, .pinned], laidTests := true, laidLooks := .later }
def NomenclatureTreeCardSaid : Prop := Claim7.holds Tryz.pinned (.plain (OpenSpec.ofChange nomenclatureTreeSpec)) nomenclatureTreeCard

/-- THE TIED CARD OF 'customslaw09.NomenclatureFormat'. -/
def nomenclatureFormatCard : Claim7 := { stood := { row := nomenclatureFormatRow, standIns := [], harness := (true, "be20352856ffe52963e0a0d026a79261ea5692484388062ecf4caf991b6482c5"), looks := true }, kinds := [], alts := [], laidByText := true, laidKinds := [.data, .data, .data, .data, .sentinel, .sentinel, .data, .pinned], laidTests := true, laidLooks := .later }
def NomenclatureFormatCardSaid : Prop := Claim7.holds Tryz.pinned (.plain (OpenSpec.ofChange nomenclatureFormatSpec)) nomenclatureFormatCard

/-- THE SECOND FORM's CARD OF 'customslaw09.CodeLevel'. -/
def codeLevelUptoCard : Claim7 := { stood := { row := codeLevelUptoRow, standIns := [], harness := (true, "be20352856ffe52963e0a0d026a79261ea5692484388062ecf4caf991b6482c5"), looks := true }, kinds := [], alts := [], laidByText := true, laidKinds := [.data, .data, .data, .data, .sentinel, .sentinel, .data, .pinned], laidTests := true, laidLooks := .later }
def CodeLevelUptoCardSaid : Prop := Claim7.holds Tryz.pinned (.plain (OpenSpec.upto codeLevelSpec)) codeLevelUptoCard

/-- THE SECOND FORM's CARD OF 'customslaw09.NomenclatureValidate'. -/
def nomenclatureValidateUptoCard : Claim7 := { stood := { row := nomenclatureValidateUptoRow, standIns := [], harness := (true, "be20352856ffe52963e0a0d026a79261ea5692484388062ecf4caf991b6482c5"), looks := true }, kinds := [], alts := [], laidByText := true, laidKinds := [.data, .data, .data, .data, .sentinel, .sentinel, .data, .pinned], laidTests := true, laidLooks := .later }
def NomenclatureValidateUptoCardSaid : Prop := Claim7.holds Tryz.pinned (.plain (OpenSpec.upto nomenclatureValidateSpec)) nomenclatureValidateUptoCard

/-- THE SECOND FORM's CARD OF 'customslaw09.NomenclatureChanged'. -/
def nomenclatureChangedUptoCard : Claim7 := { stood := { row := nomenclatureChangedUptoRow, standIns := [], harness := (true, "be20352856ffe52963e0a0d026a79261ea5692484388062ecf4caf991b6482c5"), looks := true }, kinds := [], alts := [], laidByText := true, laidKinds := [.data, .data, .data, .data, .sentinel, .sentinel, .data, .pinned], laidTests := true, laidLooks := .later }
def NomenclatureChangedUptoCardSaid : Prop := Claim7.holds Tryz.pinned (.plain (OpenSpec.upto nomenclatureChangedSpec)) nomenclatureChangedUptoCard

/-- THE SECOND FORM's CARD OF 'customslaw09.NomenclatureParse'. -/
def nomenclatureParseUptoCard : Claim7 := { stood := { row := nomenclatureParseUptoRow, standIns := [], harness := (true, "be20352856ffe52963e0a0d026a79261ea5692484388062ecf4caf991b6482c5"), looks := true }, kinds := [], alts := [], laidByText := true, laidKinds := [.data, .data, .data, .data, .sentinel, .sentinel, .data, .pinned], laidTests := true, laidLooks := .later }
def NomenclatureParseUptoCardSaid : Prop := Claim7.holds Tryz.pinned (.plain (OpenSpec.upto nomenclatureParseSpec)) nomenclatureParseUptoCard

/-- THE SECOND FORM's CARD OF 'customslaw09.NomenclatureScore'. -/
def nomenclatureScoreUptoCard : Claim7 := { stood := { row := nomenclatureScoreUptoRow, standIns := [], harness := (true, "be20352856ffe52963e0a0d026a79261ea5692484388062ecf4caf991b6482c5"), looks := true }, kinds := [], alts := [], laidByText := true, laidKinds := [.data, .data, .data, .data, .sentinel, .sentinel, .data, .pinned], laidTests := true, laidLooks := .later }
def NomenclatureScoreUptoCardSaid : Prop := Claim7.holds Tryz.pinned (.plain (OpenSpec.upto nomenclatureScoreSpec)) nomenclatureScoreUptoCard

/-- THE SECOND FORM's CARD OF 'customslaw09.NomenclatureDays'. -/
def nomenclatureDaysUptoCard : Claim7 := { stood := { row := nomenclatureDaysUptoRow, standIns := [], harness := (true, "be20352856ffe52963e0a0d026a79261ea5692484388062ecf4caf991b6482c5"), looks := true }, kinds := [], alts := [], laidByText := true, laidKinds := [.data, .data, .data, .data, .sentinel, .sentinel, .data, .pinned], laidTests := true, laidLooks := .later }
def NomenclatureDaysUptoCardSaid : Prop := Claim7.holds Tryz.pinned (.plain (OpenSpec.upto nomenclatureDaysSpec)) nomenclatureDaysUptoCard

/-- THE SECOND FORM's CARD OF 'customslaw09.NomenclatureTree'. -/
def nomenclatureTreeUptoCard : Claim7 := { stood := { row := nomenclatureTreeUptoRow, standIns := [], harness := (true, "be20352856ffe52963e0a0d026a79261ea5692484388062ecf4caf991b6482c5"), looks := true }, kinds := [], alts := [], laidByText := true, laidKinds := [.data, .data, .data, .data, .sentinel, .sentinel, .data, .pinned], laidTests := true, laidLooks := .later }
def NomenclatureTreeUptoCardSaid : Prop := Claim7.holds Tryz.pinned (.plain (OpenSpec.upto nomenclatureTreeSpec)) nomenclatureTreeUptoCard

/-- THE SECOND FORM's CARD OF 'customslaw09.NomenclatureFormat'. -/
def nomenclatureFormatUptoCard : Claim7 := { stood := { row := nomenclatureFormatUptoRow, standIns := [], harness := (true, "be20352856ffe52963e0a0d026a79261ea5692484388062ecf4caf991b6482c5"), looks := true }, kinds := [], alts := [], laidByText := true, laidKinds := [.data, .data, .data, .data, .sentinel, .sentinel, .data, .pinned], laidTests := true, laidLooks := .later }
def NomenclatureFormatUptoCardSaid : Prop := Claim7.holds Tryz.pinned (.plain (OpenSpec.upto nomenclatureFormatSpec)) nomenclatureFormatUptoCard
end Rows
end Go.Proofs.YtlacgaihahemmaaGreatDoor
