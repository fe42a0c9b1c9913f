/-
  DERIVED. GIVEN WITH THE SEED: THE CARDS: each row of YtinickkcieecdaaGreatDoorRows.lean that lists a variable, with what it lists TIED to the program's text (the seventh form; the later family's looks); each row that meets fmt, with fmt's text TOLD by the authors' own Lean function (tested against real Go, not proved from fmt's source: count such statements apart). THE CARD IS WHAT COUNTS. Prove the row's statement (the work); the ties are given (YtinickkcieecdaaGreatDoorTie.lean); close each card by the builder's one call (the guide's Derived/Test/ToyasCard.lean, 'card_holds'). Laid BY PROGRAM, IN A SANDBOX (cutbox-door.mjs). By AI agents, Wed Nov 11 2026. No macro, syntax, notation, axiom, sorry.
-/
import Derived.Test.YtinickkcieecdaaGreatDoorRows
import GoSem.ClaimSeven
namespace Go.Proofs.YtinickkcieecdaaGreatDoor
namespace Rows

/-- THE TIED CARD OF 'customslaw18.DutyValidate'. -/
def dutyValidateCard : Claim7 := { stood := { row := dutyValidateRow, standIns := [], harness := (true, "11723fd0f97495c00104b85d59c30e947989fe4ff3e2c3fc87bd9baf63acdf09"), looks := true }, kinds := [], alts := [], laidByText := true, laidKinds := [.data, .data, .data, .data, .sentinel, .sentinel, .pinned], laidTests := true, laidLooks := .later }
def DutyValidateCardSaid : Prop := Claim7.holds Tryz.pinned (.plain (OpenSpec.ofChange dutyValidateSpec)) dutyValidateCard

/-- THE TIED CARD OF 'customslaw18.DutyFormat'. -/
def dutyFormatCard : Claim7 := { stood := { row := dutyFormatRow, standIns := [], harness := (true, "11723fd0f97495c00104b85d59c30e947989fe4ff3e2c3fc87bd9baf63acdf09"), looks := true }, kinds := [], alts := [], laidByText := true, laidKinds := [.data, .data, .data, .data, .sentinel, .sentinel, .pinned], laidTests := true, laidLooks := .later }
def DutyFormatCardSaid : Prop := Claim7.holds Tryz.pinned (.plain (OpenSpec.ofChange dutyFormatSpec)) dutyFormatCard

/-- THE TIED CARD OF 'customslaw18.DutyParse'. -/
def dutyParseCard : Claim7 := { stood := { row := dutyParseRow, standIns := [], harness := (true, "11723fd0f97495c00104b85d59c30e947989fe4ff3e2c3fc87bd9baf63acdf09"), looks := true }, kinds := [], alts := [], laidByText := true, laidKinds := [.data, .data, .data, .data, .sentinel, .sentinel, .pinned], laidTests := true, laidLooks := .later }
def DutyParseCardSaid : Prop := Claim7.holds Tryz.pinned (.plain (OpenSpec.ofChange dutyParseSpec)) dutyParseCard

/-- THE TIED CARD OF 'customslaw18.DutyEvaluate'. -/
def dutyEvaluateCard : Claim7 := { stood := { row := dutyEvaluateRow, standIns := [], harness := (true, "11723fd0f97495c00104b85d59c30e947989fe4ff3e2c3fc87bd9baf63acdf09"), looks := true }, kinds := [], alts := [], laidByText := true, laidKinds := [.data, .data, .data, .data, .sentinel, .sentinel, .pinned], laidTests := true, laidLooks := .later }
def DutyEvaluateCardSaid : Prop := Claim7.holds Tryz.pinned (.plain (OpenSpec.ofChange dutyEvaluateSpec)) dutyEvaluateCard

/-- THE TIED CARD OF 'customslaw18.DutyMonotone'. -/
def dutyMonotoneCard : Claim7 := { stood := { row := dutyMonotoneRow, standIns := [], harness := (true, "11723fd0f97495c00104b85d59c30e947989fe4ff3e2c3fc87bd9baf63acdf09"), looks := true }, kinds := [], alts := [], laidByText := true, laidKinds := [.data, .data, .data, .data, .sentinel, .sentinel, .pinned], laidTests := true, laidLooks := .later }
def DutyMonotoneCardSaid : Prop := Claim7.holds Tryz.pinned (.plain (OpenSpec.ofChange dutyMonotoneSpec)) dutyMonotoneCard

/-- THE TIED CARD OF 'customslaw18.DutyBounds'. -/
def dutyBoundsCard : Claim7 := { stood := { row := dutyBoundsRow, standIns := [], harness := (true, "11723fd0f97495c00104b85d59c30e947989fe4ff3e2c3fc87bd9baf63acdf09"), looks := true }, kinds := [], alts := [], laidByText := true, laidKinds := [.data, .data, .data, .data, .sentinel, .sentinel, .pinned], laidTests := true, laidLooks := .later }
def DutyBoundsCardSaid : Prop := Claim7.holds Tryz.pinned (.plain (OpenSpec.ofChange dutyBoundsSpec)) dutyBoundsCard

/-- THE TIED CARD OF 'customslaw18.DutySplit'. -/
def dutySplitCard : Claim7 := { stood := { row := dutySplitRow, standIns := [], harness := (true, "11723fd0f97495c00104b85d59c30e947989fe4ff3e2c3fc87bd9baf63acdf09"), looks := true }, kinds := [], alts := [], laidByText := true, laidKinds := [.data, .data, .data, .data, .sentinel, .sentinel, .pinned], laidTests := true, laidLooks := .later }
def DutySplitCardSaid : Prop := Claim7.holds Tryz.pinned (.plain (OpenSpec.ofChange dutySplitSpec)) dutySplitCard

/-- THE SECOND FORM's CARD OF 'customslaw18.DutyValidate'. -/
def dutyValidateUptoCard : Claim7 := { stood := { row := dutyValidateUptoRow, standIns := [], harness := (true, "11723fd0f97495c00104b85d59c30e947989fe4ff3e2c3fc87bd9baf63acdf09"), looks := true }, kinds := [], alts := [], laidByText := true, laidKinds := [.data, .data, .data, .data, .sentinel, .sentinel, .pinned], laidTests := true, laidLooks := .later }
def DutyValidateUptoCardSaid : Prop := Claim7.holds Tryz.pinned (.plain (OpenSpec.upto dutyValidateSpec)) dutyValidateUptoCard

/-- THE SECOND FORM's CARD OF 'customslaw18.DutyFormat'. -/
def dutyFormatUptoCard : Claim7 := { stood := { row := dutyFormatUptoRow, standIns := [], harness := (true, "11723fd0f97495c00104b85d59c30e947989fe4ff3e2c3fc87bd9baf63acdf09"), looks := true }, kinds := [], alts := [], laidByText := true, laidKinds := [.data, .data, .data, .data, .sentinel, .sentinel, .pinned], laidTests := true, laidLooks := .later }
def DutyFormatUptoCardSaid : Prop := Claim7.holds Tryz.pinned (.plain (OpenSpec.upto dutyFormatSpec)) dutyFormatUptoCard

/-- THE SECOND FORM's CARD OF 'customslaw18.DutyParse'. -/
def dutyParseUptoCard : Claim7 := { stood := { row := dutyParseUptoRow, standIns := [], harness := (true, "11723fd0f97495c00104b85d59c30e947989fe4ff3e2c3fc87bd9baf63acdf09"), looks := true }, kinds := [], alts := [], laidByText := true, laidKinds := [.data, .data, .data, .data, .sentinel, .sentinel, .pinned], laidTests := true, laidLooks := .later }
def DutyParseUptoCardSaid : Prop := Claim7.holds Tryz.pinned (.plain (OpenSpec.upto dutyParseSpec)) dutyParseUptoCard

/-- THE SECOND FORM's CARD OF 'customslaw18.DutyEvaluate'. -/
def dutyEvaluateUptoCard : Claim7 := { stood := { row := dutyEvaluateUptoRow, standIns := [], harness := (true, "11723fd0f97495c00104b85d59c30e947989fe4ff3e2c3fc87bd9baf63acdf09"), looks := true }, kinds := [], alts := [], laidByText := true, laidKinds := [.data, .data, .data, .data, .sentinel, .sentinel, .pinned], laidTests := true, laidLooks := .later }
def DutyEvaluateUptoCardSaid : Prop := Claim7.holds Tryz.pinned (.plain (OpenSpec.upto dutyEvaluateSpec)) dutyEvaluateUptoCard

/-- THE SECOND FORM's CARD OF 'customslaw18.DutyMonotone'. -/
def dutyMonotoneUptoCard : Claim7 := { stood := { row := dutyMonotoneUptoRow, standIns := [], harness := (true, "11723fd0f97495c00104b85d59c30e947989fe4ff3e2c3fc87bd9baf63acdf09"), looks := true }, kinds := [], alts := [], laidByText := true, laidKinds := [.data, .data, .data, .data, .sentinel, .sentinel, .pinned], laidTests := true, laidLooks := .later }
def DutyMonotoneUptoCardSaid : Prop := Claim7.holds Tryz.pinned (.plain (OpenSpec.upto dutyMonotoneSpec)) dutyMonotoneUptoCard

/-- THE SECOND FORM's CARD OF 'customslaw18.DutyBounds'. -/
def dutyBoundsUptoCard : Claim7 := { stood := { row := dutyBoundsUptoRow, standIns := [], harness := (true, "11723fd0f97495c00104b85d59c30e947989fe4ff3e2c3fc87bd9baf63acdf09"), looks := true }, kinds := [], alts := [], laidByText := true, laidKinds := [.data, .data, .data, .data, .sentinel, .sentinel, .pinned], laidTests := true, laidLooks := .later }
def DutyBoundsUptoCardSaid : Prop := Claim7.holds Tryz.pinned (.plain (OpenSpec.upto dutyBoundsSpec)) dutyBoundsUptoCard

/-- THE SECOND FORM's CARD OF 'customslaw18.DutySplit'. -/
def dutySplitUptoCard : Claim7 := { stood := { row := dutySplitUptoRow, standIns := [], harness := (true, "11723fd0f97495c00104b85d59c30e947989fe4ff3e2c3fc87bd9baf63acdf09"), looks := true }, kinds := [], alts := [], laidByText := true, laidKinds := [.data, .data, .data, .data, .sentinel, .sentinel, .pinned], laidTests := true, laidLooks := .later }
def DutySplitUptoCardSaid : Prop := Claim7.holds Tryz.pinned (.plain (OpenSpec.upto dutySplitSpec)) dutySplitUptoCard
end Rows
end Go.Proofs.YtinickkcieecdaaGreatDoor
