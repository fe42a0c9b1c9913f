/-
  DERIVED. GIVEN WITH THE SEED: THE CARDS: each row of YtbilobjddflpeaaGreatDoorRows.lean that lists a variable, with what it lists TIED to the program's text (the seventh form; the later family's looks); each row that meets fmt, with fmt's text TOLD by the authors' own Lean function (tested against real Go, not proved from fmt's source: count such statements apart). THE CARD IS WHAT COUNTS. Prove the row's statement (the work); the ties are given (YtbilobjddflpeaaGreatDoorTie.lean); close each card by the builder's one call (the guide's Derived/Test/ToyasCard.lean, 'card_holds'). Laid BY PROGRAM, IN A SANDBOX (cutbox-door.mjs). By AI agents, Wed Nov 11 2026. No macro, syntax, notation, axiom, sorry.
-/
import Derived.Test.YtbilobjddflpeaaGreatDoorRows
import GoSem.ClaimSeven
namespace Go.Proofs.YtbilobjddflpeaaGreatDoor
namespace Rows

/-- THE TIED CARD OF 'customslaw19.MeasureValidate'. -/
def measureValidateCard : Claim7 := { stood := { row := measureValidateRow, standIns := [], harness := (true, "0423d5292e2c6cb4665b316dc20297dd8c3bfcb90544386f56c6a1bf6cb71834"), looks := true }, kinds := [], alts := [], laidByText := true, laidKinds := [.data, .data, .data, .data, .sentinel, .sentinel, .data, .pinned], laidTests := true, laidLooks := .later }
def MeasureValidateCardSaid : Prop := Claim7.holds Tryz.pinned (.plain (OpenSpec.ofChange measureValidateSpec)) measureValidateCard

/-- THE TIED CARD OF 'customslaw19.MeasureChanged'. -/
def measureChangedCard : Claim7 := { stood := { row := measureChangedRow, standIns := [], harness := (true, "0423d5292e2c6cb4665b316dc20297dd8c3bfcb90544386f56c6a1bf6cb71834"), looks := true }, kinds := [], alts := [], laidByText := true, laidKinds := [.data, .data, .data, .data, .sentinel, .sentinel, .data, .pinned], laidTests := true, laidLooks := .later }
def MeasureChangedCardSaid : Prop := Claim7.holds Tryz.pinned (.plain (OpenSpec.ofChange measureChangedSpec)) measureChangedCard

/-- THE TIED CARD OF 'customslaw19.MeasureParse'. -/
def measureParseCard : Claim7 := { stood := { row := measureParseRow, standIns := [], harness := (true, "0423d5292e2c6cb4665b316dc20297dd8c3bfcb90544386f56c6a1bf6cb71834"), looks := true }, kinds := [], alts := [], laidByText := true, laidKinds := [.data, .data, .data, .data, .sentinel, .sentinel, .data, .pinned], laidTests := true, laidLooks := .later }
def MeasureParseCardSaid : Prop := Claim7.holds Tryz.pinned (.plain (OpenSpec.ofChange measureParseSpec)) measureParseCard

/-- THE TIED CARD OF 'customslaw19.MeasureCovers'. -/
def measureCoversCard : Claim7 := { stood := { row := measureCoversRow, standIns := [], harness := (true, "0423d5292e2c6cb4665b316dc20297dd8c3bfcb90544386f56c6a1bf6cb71834"), looks := true }, kinds := [], alts := [], laidByText := true, laidKinds := [.data, .data, .data, .data, .sentinel, .sentinel, .data, .pinned], laidTests := true, laidLooks := .later }
def MeasureCoversCardSaid : Prop := Claim7.holds Tryz.pinned (.plain (OpenSpec.ofChange measureCoversSpec)) measureCoversCard

/-- THE TIED CARD OF 'customslaw19.MeasureApplicable'. -/
def measureApplicableCard : Claim7 := { stood := { row := measureApplicableRow, standIns := [], harness := (true, "0423d5292e2c6cb4665b316dc20297dd8c3bfcb90544386f56c6a1bf6cb71834"), looks := true }, kinds := [], alts := [], laidByText := true, laidKinds := [.data, .data, .data, .data, .sentinel, .sentinel, .data, .pinned], laidTests := true, laidLooks := .later }
def MeasureApplicableCardSaid : Prop := Claim7.holds Tryz.pinned (.plain (OpenSpec.ofChange measureApplicableSpec)) measureApplicableCard

/-- THE TIED CARD OF 'customslaw19.MeasureOtherDays'. -/
def measureOtherDaysCard : Claim7 := { stood := { row := measureOtherDaysRow, standIns := [], harness := (true, "0423d5292e2c6cb4665b316dc20297dd8c3bfcb90544386f56c6a1bf6cb71834"), looks := true }, kinds := [], alts := [], laidByText := true, laidKinds := [.data, .data, .data, .data, .sentinel, .sentinel, .data, .pinned], laidTests := true, laidLooks := .later }
def MeasureOtherDaysCardSaid : Prop := Claim7.holds Tryz.pinned (.plain (OpenSpec.ofChange measureOtherDaysSpec)) measureOtherDaysCard

/-- THE TIED CARD OF 'customslaw19.MeasureAdded'. -/
def measureAddedCard : Claim7 := { stood := { row := measureAddedRow, standIns := [], harness := (true, "0423d5292e2c6cb4665b316dc20297dd8c3bfcb90544386f56c6a1bf6cb71834"), looks := true }, kinds := [], alts := [], laidByText := true, laidKinds := [.data, .data, .data, .data, .sentinel, .sentinel, .data, .pinned], laidTests := true, laidLooks := .later }
def MeasureAddedCardSaid : Prop := Claim7.holds Tryz.pinned (.plain (OpenSpec.ofChange measureAddedSpec)) measureAddedCard

/-- THE TIED CARD OF 'customslaw19.MeasureFormat'. -/
def measureFormatCard : Claim7 := { stood := { row := measureFormatRow, standIns := [], harness := (true, "0423d5292e2c6cb4665b316dc20297dd8c3bfcb90544386f56c6a1bf6cb71834"), looks := true }, kinds := [], alts := [], laidByText := true, laidKinds := [.data, .data, .data, .data, .sentinel, .sentinel, .data, .pinned], laidTests := true, laidLooks := .later }
def MeasureFormatCardSaid : Prop := Claim7.holds Tryz.pinned (.plain (OpenSpec.ofChange measureFormatSpec)) measureFormatCard

/-- THE SECOND FORM's CARD OF 'customslaw19.MeasureValidate'. -/
def measureValidateUptoCard : Claim7 := { stood := { row := measureValidateUptoRow, standIns := [], harness := (true, "0423d5292e2c6cb4665b316dc20297dd8c3bfcb90544386f56c6a1bf6cb71834"), looks := true }, kinds := [], alts := [], laidByText := true, laidKinds := [.data, .data, .data, .data, .sentinel, .sentinel, .data, .pinned], laidTests := true, laidLooks := .later }
def MeasureValidateUptoCardSaid : Prop := Claim7.holds Tryz.pinned (.plain (OpenSpec.upto measureValidateSpec)) measureValidateUptoCard

/-- THE SECOND FORM's CARD OF 'customslaw19.MeasureChanged'. -/
def measureChangedUptoCard : Claim7 := { stood := { row := measureChangedUptoRow, standIns := [], harness := (true, "0423d5292e2c6cb4665b316dc20297dd8c3bfcb90544386f56c6a1bf6cb71834"), looks := true }, kinds := [], alts := [], laidByText := true, laidKinds := [.data, .data, .data, .data, .sentinel, .sentinel, .data, .pinned], laidTests := true, laidLooks := .later }
def MeasureChangedUptoCardSaid : Prop := Claim7.holds Tryz.pinned (.plain (OpenSpec.upto measureChangedSpec)) measureChangedUptoCard

/-- THE SECOND FORM's CARD OF 'customslaw19.MeasureParse'. -/
def measureParseUptoCard : Claim7 := { stood := { row := measureParseUptoRow, standIns := [], harness := (true, "0423d5292e2c6cb4665b316dc20297dd8c3bfcb90544386f56c6a1bf6cb71834"), looks := true }, kinds := [], alts := [], laidByText := true, laidKinds := [.data, .data, .data, .data, .sentinel, .sentinel, .data, .pinned], laidTests := true, laidLooks := .later }
def MeasureParseUptoCardSaid : Prop := Claim7.holds Tryz.pinned (.plain (OpenSpec.upto measureParseSpec)) measureParseUptoCard

/-- THE SECOND FORM's CARD OF 'customslaw19.MeasureCovers'. -/
def measureCoversUptoCard : Claim7 := { stood := { row := measureCoversUptoRow, standIns := [], harness := (true, "0423d5292e2c6cb4665b316dc20297dd8c3bfcb90544386f56c6a1bf6cb71834"), looks := true }, kinds := [], alts := [], laidByText := true, laidKinds := [.data, .data, .data, .data, .sentinel, .sentinel, .data, .pinned], laidTests := true, laidLooks := .later }
def MeasureCoversUptoCardSaid : Prop := Claim7.holds Tryz.pinned (.plain (OpenSpec.upto measureCoversSpec)) measureCoversUptoCard

/-- THE SECOND FORM's CARD OF 'customslaw19.MeasureApplicable'. -/
def measureApplicableUptoCard : Claim7 := { stood := { row := measureApplicableUptoRow, standIns := [], harness := (true, "0423d5292e2c6cb4665b316dc20297dd8c3bfcb90544386f56c6a1bf6cb71834"), looks := true }, kinds := [], alts := [], laidByText := true, laidKinds := [.data, .data, .data, .data, .sentinel, .sentinel, .data, .pinned], laidTests := true, laidLooks := .later }
def MeasureApplicableUptoCardSaid : Prop := Claim7.holds Tryz.pinned (.plain (OpenSpec.upto measureApplicableSpec)) measureApplicableUptoCard

/-- THE SECOND FORM's CARD OF 'customslaw19.MeasureOtherDays'. -/
def measureOtherDaysUptoCard : Claim7 := { stood := { row := measureOtherDaysUptoRow, standIns := [], harness := (true, "0423d5292e2c6cb4665b316dc20297dd8c3bfcb90544386f56c6a1bf6cb71834"), looks := true }, kinds := [], alts := [], laidByText := true, laidKinds := [.data, .data, .data, .data, .sentinel, .sentinel, .data, .pinned], laidTests := true, laidLooks := .later }
def MeasureOtherDaysUptoCardSaid : Prop := Claim7.holds Tryz.pinned (.plain (OpenSpec.upto measureOtherDaysSpec)) measureOtherDaysUptoCard

/-- THE SECOND FORM's CARD OF 'customslaw19.MeasureAdded'. -/
def measureAddedUptoCard : Claim7 := { stood := { row := measureAddedUptoRow, standIns := [], harness := (true, "0423d5292e2c6cb4665b316dc20297dd8c3bfcb90544386f56c6a1bf6cb71834"), looks := true }, kinds := [], alts := [], laidByText := true, laidKinds := [.data, .data, .data, .data, .sentinel, .sentinel, .data, .pinned], laidTests := true, laidLooks := .later }
def MeasureAddedUptoCardSaid : Prop := Claim7.holds Tryz.pinned (.plain (OpenSpec.upto measureAddedSpec)) measureAddedUptoCard

/-- THE SECOND FORM's CARD OF 'customslaw19.MeasureFormat'. -/
def measureFormatUptoCard : Claim7 := { stood := { row := measureFormatUptoRow, standIns := [], harness := (true, "0423d5292e2c6cb4665b316dc20297dd8c3bfcb90544386f56c6a1bf6cb71834"), looks := true }, kinds := [], alts := [], laidByText := true, laidKinds := [.data, .data, .data, .data, .sentinel, .sentinel, .data, .pinned], laidTests := true, laidLooks := .later }
def MeasureFormatUptoCardSaid : Prop := Claim7.holds Tryz.pinned (.plain (OpenSpec.upto measureFormatSpec)) measureFormatUptoCard
end Rows
end Go.Proofs.YtbilobjddflpeaaGreatDoor
