/-
  DERIVED. GIVEN WITH THE SEED: THE CARDS: each row of YtaeplfiaahkgpaaGreatDoorRows.lean that lists a variable, with what it lists TIED to the program's text (the seventh form; the later family's looks); each row that meets fmt, with fmt's text TOLD by the authors' own Lean function (tested against real Go, not proved from fmt's source: count such statements apart). THE CARD IS WHAT COUNTS. Prove the row's statement (the work); the ties are given (YtaeplfiaahkgpaaGreatDoorTie.lean); close each card by the builder's one call (the guide's Derived/Test/ToyasCard.lean, 'card_holds'). Laid BY PROGRAM, IN A SANDBOX (cutbox-door.mjs). By AI agents, Wed Nov 11 2026. No macro, syntax, notation, axiom, sorry.
-/
import Derived.Test.YtaeplfiaahkgpaaGreatDoorRows
import GoSem.ClaimSeven
namespace Go.Proofs.YtaeplfiaahkgpaaGreatDoor
namespace Rows

/-- THE TIED CARD OF 'customslaw11.CheckAccepts'. -/
def checkAcceptsCard : Claim7 := { stood := { row := checkAcceptsRow, standIns := [], harness := (true, "9ab45a8c9b8f7231181da957c6929962f338a34a6fc4012fa09258be73f902ca"), looks := false }, kinds := [], alts := [], laidByText := true, laidKinds := [.data, .data, .data, .data, .data, .pinned], laidTests := true, laidLooks := .later }
def CheckAcceptsCardSaid : Prop := Claim7.holds Tryz.pinned (.plain (OpenSpec.ofChange checkAcceptsSpec)) checkAcceptsCard

/-- THE TIED CARD OF 'customslaw11.CheckChanged'. -/
def checkChangedCard : Claim7 := { stood := { row := checkChangedRow, standIns := [], harness := (true, "9ab45a8c9b8f7231181da957c6929962f338a34a6fc4012fa09258be73f902ca"), looks := false }, kinds := [], alts := [], laidByText := true, laidKinds := [.data, .data, .data, .data, .data, .pinned], laidTests := true, laidLooks := .later }
def CheckChangedCardSaid : Prop := Claim7.holds Tryz.pinned (.plain (OpenSpec.ofChange checkChangedSpec)) checkChangedCard

/-- THE TIED CARD OF 'customslaw11.CheckRaw'. -/
def checkRawCard : Claim7 := { stood := { row := checkRawRow, standIns := [], harness := (true, "9ab45a8c9b8f7231181da957c6929962f338a34a6fc4012fa09258be73f902ca"), looks := false }, kinds := [], alts := [], laidByText := true, laidKinds := [.data, .data, .data, .data, .data, .pinned], laidTests := true, laidLooks := .later }
def CheckRawCardSaid : Prop := Claim7.holds Tryz.pinned (.plain (OpenSpec.ofChange checkRawSpec)) checkRawCard

/-- THE TIED CARD OF 'customslaw11.CheckUnique'. -/
def checkUniqueCard : Claim7 := { stood := { row := checkUniqueRow, standIns := [], harness := (true, "9ab45a8c9b8f7231181da957c6929962f338a34a6fc4012fa09258be73f902ca"), looks := false }, kinds := [], alts := [], laidByText := true, laidKinds := [.data, .data, .data, .data, .data, .pinned], laidTests := true, laidLooks := .later }
def CheckUniqueCardSaid : Prop := Claim7.holds Tryz.pinned (.plain (OpenSpec.ofChange checkUniqueSpec)) checkUniqueCard

/-- THE TIED CARD OF 'customslaw11.WhyReason'. -/
def whyReasonCard : Claim7 := { stood := { row := whyReasonRow, standIns := [], harness := (true, "9ab45a8c9b8f7231181da957c6929962f338a34a6fc4012fa09258be73f902ca"), looks := false }, kinds := [], alts := [], laidByText := true, laidKinds := [.data, .data, .data, .data, .data, .pinned], laidTests := true, laidLooks := .later }
def WhyReasonCardSaid : Prop := Claim7.holds Tryz.pinned (.plain (OpenSpec.ofChange whyReasonSpec)) whyReasonCard

/-- THE TIED CARD OF 'customslaw11.WhyChosen'. -/
def whyChosenCard : Claim7 := { stood := { row := whyChosenRow, standIns := [], harness := (true, "9ab45a8c9b8f7231181da957c6929962f338a34a6fc4012fa09258be73f902ca"), looks := false }, kinds := [], alts := [], laidByText := true, laidKinds := [.data, .data, .data, .data, .data, .pinned], laidTests := true, laidLooks := .later }
def WhyChosenCardSaid : Prop := Claim7.holds Tryz.pinned (.plain (OpenSpec.ofChange whyChosenSpec)) whyChosenCard

/-- THE TIED CARD OF 'customslaw11.ExplanationText'. -/
def explanationTextCard : Claim7 := { stood := { row := explanationTextRow, standIns := [], harness := (true, "9ab45a8c9b8f7231181da957c6929962f338a34a6fc4012fa09258be73f902ca"), looks := false }, kinds := [], alts := [], laidByText := true, laidKinds := [.data, .data, .data, .data, .data, .pinned], laidTests := true, laidLooks := .later }
def ExplanationTextCardSaid : Prop := Claim7.holds Tryz.pinned (.plain (OpenSpec.ofChange explanationTextSpec)) explanationTextCard

/-- THE SECOND FORM's CARD OF 'customslaw11.CheckAccepts'. -/
def checkAcceptsUptoCard : Claim7 := { stood := { row := checkAcceptsUptoRow, standIns := [], harness := (true, "9ab45a8c9b8f7231181da957c6929962f338a34a6fc4012fa09258be73f902ca"), looks := false }, kinds := [], alts := [], laidByText := true, laidKinds := [.data, .data, .data, .data, .data, .pinned], laidTests := true, laidLooks := .later }
def CheckAcceptsUptoCardSaid : Prop := Claim7.holds Tryz.pinned (.plain (OpenSpec.upto checkAcceptsSpec)) checkAcceptsUptoCard

/-- THE SECOND FORM's CARD OF 'customslaw11.CheckChanged'. -/
def checkChangedUptoCard : Claim7 := { stood := { row := checkChangedUptoRow, standIns := [], harness := (true, "9ab45a8c9b8f7231181da957c6929962f338a34a6fc4012fa09258be73f902ca"), looks := false }, kinds := [], alts := [], laidByText := true, laidKinds := [.data, .data, .data, .data, .data, .pinned], laidTests := true, laidLooks := .later }
def CheckChangedUptoCardSaid : Prop := Claim7.holds Tryz.pinned (.plain (OpenSpec.upto checkChangedSpec)) checkChangedUptoCard

/-- THE SECOND FORM's CARD OF 'customslaw11.CheckRaw'. -/
def checkRawUptoCard : Claim7 := { stood := { row := checkRawUptoRow, standIns := [], harness := (true, "9ab45a8c9b8f7231181da957c6929962f338a34a6fc4012fa09258be73f902ca"), looks := false }, kinds := [], alts := [], laidByText := true, laidKinds := [.data, .data, .data, .data, .data, .pinned], laidTests := true, laidLooks := .later }
def CheckRawUptoCardSaid : Prop := Claim7.holds Tryz.pinned (.plain (OpenSpec.upto checkRawSpec)) checkRawUptoCard

/-- THE SECOND FORM's CARD OF 'customslaw11.CheckUnique'. -/
def checkUniqueUptoCard : Claim7 := { stood := { row := checkUniqueUptoRow, standIns := [], harness := (true, "9ab45a8c9b8f7231181da957c6929962f338a34a6fc4012fa09258be73f902ca"), looks := false }, kinds := [], alts := [], laidByText := true, laidKinds := [.data, .data, .data, .data, .data, .pinned], laidTests := true, laidLooks := .later }
def CheckUniqueUptoCardSaid : Prop := Claim7.holds Tryz.pinned (.plain (OpenSpec.upto checkUniqueSpec)) checkUniqueUptoCard

/-- THE SECOND FORM's CARD OF 'customslaw11.WhyReason'. -/
def whyReasonUptoCard : Claim7 := { stood := { row := whyReasonUptoRow, standIns := [], harness := (true, "9ab45a8c9b8f7231181da957c6929962f338a34a6fc4012fa09258be73f902ca"), looks := false }, kinds := [], alts := [], laidByText := true, laidKinds := [.data, .data, .data, .data, .data, .pinned], laidTests := true, laidLooks := .later }
def WhyReasonUptoCardSaid : Prop := Claim7.holds Tryz.pinned (.plain (OpenSpec.upto whyReasonSpec)) whyReasonUptoCard

/-- THE SECOND FORM's CARD OF 'customslaw11.WhyChosen'. -/
def whyChosenUptoCard : Claim7 := { stood := { row := whyChosenUptoRow, standIns := [], harness := (true, "9ab45a8c9b8f7231181da957c6929962f338a34a6fc4012fa09258be73f902ca"), looks := false }, kinds := [], alts := [], laidByText := true, laidKinds := [.data, .data, .data, .data, .data, .pinned], laidTests := true, laidLooks := .later }
def WhyChosenUptoCardSaid : Prop := Claim7.holds Tryz.pinned (.plain (OpenSpec.upto whyChosenSpec)) whyChosenUptoCard

/-- THE SECOND FORM's CARD OF 'customslaw11.ExplanationText'. -/
def explanationTextUptoCard : Claim7 := { stood := { row := explanationTextUptoRow, standIns := [], harness := (true, "9ab45a8c9b8f7231181da957c6929962f338a34a6fc4012fa09258be73f902ca"), looks := false }, kinds := [], alts := [], laidByText := true, laidKinds := [.data, .data, .data, .data, .data, .pinned], laidTests := true, laidLooks := .later }
def ExplanationTextUptoCardSaid : Prop := Claim7.holds Tryz.pinned (.plain (OpenSpec.upto explanationTextSpec)) explanationTextUptoCard
end Rows
end Go.Proofs.YtaeplfiaahkgpaaGreatDoor
