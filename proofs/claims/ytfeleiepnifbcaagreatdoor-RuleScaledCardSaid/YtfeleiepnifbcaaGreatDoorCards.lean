/-
  DERIVED. GIVEN WITH THE SEED: THE CARDS: each row of YtfeleiepnifbcaaGreatDoorRows.lean that lists a variable, with what it lists TIED to the program's text (the seventh form; the later family's looks); each row that meets fmt, with fmt's text TOLD by the authors' own Lean function (tested against real Go, not proved from fmt's source: count such statements apart). THE CARD IS WHAT COUNTS. Prove the row's statement (the work); the ties are given (YtfeleiepnifbcaaGreatDoorTie.lean); close each card by the builder's one call (the guide's Derived/Test/ToyasCard.lean, 'card_holds'). Laid BY PROGRAM, IN A SANDBOX (cutbox-door.mjs). By AI agents, Wed Nov 11 2026. No macro, syntax, notation, axiom, sorry.
-/
import Derived.Test.YtfeleiepnifbcaaGreatDoorRows
import GoSem.ClaimSeven
namespace Go.Proofs.YtfeleiepnifbcaaGreatDoor
namespace Rows

/-- THE TIED CARD OF 'customslaw12.RuleCase'. -/
def ruleCaseCard : Claim7 := { stood := { row := ruleCaseRow, standIns := [], harness := (true, "8ae276956ee370b47ef34148910dbb444c76091e3a3bca03f256598e57767cb4"), looks := true }, kinds := [], alts := [], laidByText := true, laidKinds := [.data, .data, .data, .data, .sentinel, .sentinel, .listed, .data, .data, .pinned], laidTests := true, laidLooks := .later }
def RuleCaseCardSaid : Prop := Claim7.holds Tryz.pinned (.plain (OpenSpec.ofChange ruleCaseSpec)) ruleCaseCard

/-- THE TIED CARD OF 'customslaw12.RuleHolds'. -/
def ruleHoldsCard : Claim7 := { stood := { row := ruleHoldsRow, standIns := [], harness := (true, "8ae276956ee370b47ef34148910dbb444c76091e3a3bca03f256598e57767cb4"), looks := true }, kinds := [], alts := [], laidByText := true, laidKinds := [.data, .data, .data, .data, .sentinel, .sentinel, .listed, .data, .data, .pinned], laidTests := true, laidLooks := .later }
def RuleHoldsCardSaid : Prop := Claim7.holds Tryz.pinned (.plain (OpenSpec.ofChange ruleHoldsSpec)) ruleHoldsCard

/-- THE TIED CARD OF 'customslaw12.RuleVerify'. -/
def ruleVerifyCard : Claim7 := { stood := { row := ruleVerifyRow, standIns := [], harness := (true, "8ae276956ee370b47ef34148910dbb444c76091e3a3bca03f256598e57767cb4"), looks := true }, kinds := [], alts := [], laidByText := true, laidKinds := [.data, .data, .data, .data, .sentinel, .sentinel, .listed, .data, .data, .pinned], laidTests := true, laidLooks := .later }
def RuleVerifyCardSaid : Prop := Claim7.holds Tryz.pinned (.plain (OpenSpec.ofChange ruleVerifySpec)) ruleVerifyCard

/-- THE TIED CARD OF 'customslaw12.RuleMonotone'. -/
def ruleMonotoneCard : Claim7 := { stood := { row := ruleMonotoneRow, standIns := [], harness := (true, "8ae276956ee370b47ef34148910dbb444c76091e3a3bca03f256598e57767cb4"), looks := true }, kinds := [], alts := [], laidByText := true, laidKinds := [.data, .data, .data, .data, .sentinel, .sentinel, .listed, .data, .data, .pinned], laidTests := true, laidLooks := .later }
def RuleMonotoneCardSaid : Prop := Claim7.holds Tryz.pinned (.plain (OpenSpec.ofChange ruleMonotoneSpec)) ruleMonotoneCard

/-- THE TIED CARD OF 'customslaw12.RuleConnectives'. -/
def ruleConnectivesCard : Claim7 := { stood := { row := ruleConnectivesRow, standIns := [], harness := (true, "8ae276956ee370b47ef34148910dbb444c76091e3a3bca03f256598e57767cb4"), looks := true }, kinds := [], alts := [], laidByText := true, laidKinds := [.data, .data, .data, .data, .sentinel, .sentinel, .listed, .data, .data, .pinned], laidTests := true, laidLooks := .later }
def RuleConnectivesCardSaid : Prop := Claim7.holds Tryz.pinned (.plain (OpenSpec.ofChange ruleConnectivesSpec)) ruleConnectivesCard

/-- THE TIED CARD OF 'customslaw12.RuleScaled'. -/
def ruleScaledCard : Claim7 := { stood := { row := ruleScaledRow, standIns := [], harness := (true, "8ae276956ee370b47ef34148910dbb444c76091e3a3bca03f256598e57767cb4"), looks := true }, kinds := [], alts := [], laidByText := true, laidKinds := [.data, .data, .data, .data, .sentinel, .sentinel, .listed, .data, .data, .pinned], laidTests := true, laidLooks := .later }
def RuleScaledCardSaid : Prop := Claim7.holds Tryz.pinned (.plain (OpenSpec.ofChange ruleScaledSpec)) ruleScaledCard

/-- THE SECOND FORM's CARD OF 'customslaw12.RuleCase'. -/
def ruleCaseUptoCard : Claim7 := { stood := { row := ruleCaseUptoRow, standIns := [], harness := (true, "8ae276956ee370b47ef34148910dbb444c76091e3a3bca03f256598e57767cb4"), looks := true }, kinds := [], alts := [], laidByText := true, laidKinds := [.data, .data, .data, .data, .sentinel, .sentinel, .listed, .data, .data, .pinned], laidTests := true, laidLooks := .later }
def RuleCaseUptoCardSaid : Prop := Claim7.holds Tryz.pinned (.plain (OpenSpec.upto ruleCaseSpec)) ruleCaseUptoCard

/-- THE SECOND FORM's CARD OF 'customslaw12.RuleHolds'. -/
def ruleHoldsUptoCard : Claim7 := { stood := { row := ruleHoldsUptoRow, standIns := [], harness := (true, "8ae276956ee370b47ef34148910dbb444c76091e3a3bca03f256598e57767cb4"), looks := true }, kinds := [], alts := [], laidByText := true, laidKinds := [.data, .data, .data, .data, .sentinel, .sentinel, .listed, .data, .data, .pinned], laidTests := true, laidLooks := .later }
def RuleHoldsUptoCardSaid : Prop := Claim7.holds Tryz.pinned (.plain (OpenSpec.upto ruleHoldsSpec)) ruleHoldsUptoCard

/-- THE SECOND FORM's CARD OF 'customslaw12.RuleVerify'. -/
def ruleVerifyUptoCard : Claim7 := { stood := { row := ruleVerifyUptoRow, standIns := [], harness := (true, "8ae276956ee370b47ef34148910dbb444c76091e3a3bca03f256598e57767cb4"), looks := true }, kinds := [], alts := [], laidByText := true, laidKinds := [.data, .data, .data, .data, .sentinel, .sentinel, .listed, .data, .data, .pinned], laidTests := true, laidLooks := .later }
def RuleVerifyUptoCardSaid : Prop := Claim7.holds Tryz.pinned (.plain (OpenSpec.upto ruleVerifySpec)) ruleVerifyUptoCard

/-- THE SECOND FORM's CARD OF 'customslaw12.RuleMonotone'. -/
def ruleMonotoneUptoCard : Claim7 := { stood := { row := ruleMonotoneUptoRow, standIns := [], harness := (true, "8ae276956ee370b47ef34148910dbb444c76091e3a3bca03f256598e57767cb4"), looks := true }, kinds := [], alts := [], laidByText := true, laidKinds := [.data, .data, .data, .data, .sentinel, .sentinel, .listed, .data, .data, .pinned], laidTests := true, laidLooks := .later }
def RuleMonotoneUptoCardSaid : Prop := Claim7.holds Tryz.pinned (.plain (OpenSpec.upto ruleMonotoneSpec)) ruleMonotoneUptoCard

/-- THE SECOND FORM's CARD OF 'customslaw12.RuleConnectives'. -/
def ruleConnectivesUptoCard : Claim7 := { stood := { row := ruleConnectivesUptoRow, standIns := [], harness := (true, "8ae276956ee370b47ef34148910dbb444c76091e3a3bca03f256598e57767cb4"), looks := true }, kinds := [], alts := [], laidByText := true, laidKinds := [.data, .data, .data, .data, .sentinel, .sentinel, .listed, .data, .data, .pinned], laidTests := true, laidLooks := .later }
def RuleConnectivesUptoCardSaid : Prop := Claim7.holds Tryz.pinned (.plain (OpenSpec.upto ruleConnectivesSpec)) ruleConnectivesUptoCard

/-- THE SECOND FORM's CARD OF 'customslaw12.RuleScaled'. -/
def ruleScaledUptoCard : Claim7 := { stood := { row := ruleScaledUptoRow, standIns := [], harness := (true, "8ae276956ee370b47ef34148910dbb444c76091e3a3bca03f256598e57767cb4"), looks := true }, kinds := [], alts := [], laidByText := true, laidKinds := [.data, .data, .data, .data, .sentinel, .sentinel, .listed, .data, .data, .pinned], laidTests := true, laidLooks := .later }
def RuleScaledUptoCardSaid : Prop := Claim7.holds Tryz.pinned (.plain (OpenSpec.upto ruleScaledSpec)) ruleScaledUptoCard
end Rows
end Go.Proofs.YtfeleiepnifbcaaGreatDoor
