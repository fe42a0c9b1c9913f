/-
  DERIVED. GIVEN WITH THE SEED: THE CARDS: each row of YtcfkiahbipjbmaaGreatDoorRows.lean that lists a variable, with what it lists TIED to the program's text (the seventh form; the later family's looks); each row that meets fmt, with fmt's text TOLD by the authors' own Lean function (tested against real Go, not proved from fmt's source: count such statements apart). THE CARD IS WHAT COUNTS. Prove the row's statement (the work); the ties are given (YtcfkiahbipjbmaaGreatDoorTie.lean); close each card by the builder's one call (the guide's Derived/Test/ToyasCard.lean, 'card_holds'). Laid BY PROGRAM, IN A SANDBOX (cutbox-door.mjs). By AI agents, Wed Nov 11 2026. No macro, syntax, notation, axiom, sorry.
-/
import Derived.Test.YtcfkiahbipjbmaaGreatDoorRows
import GoSem.ClaimSeven
namespace Go.Proofs.YtcfkiahbipjbmaaGreatDoor
namespace Rows

/-- THE TIED CARD OF 'customslaw08.GoodsSets'. -/
def goodsSetsCard : Claim7 := { stood := { row := goodsSetsRow, standIns := [], harness := (true, "1453c58f49b49c375707203a5342e4cacc02b90df7eee86b3f6285b4c0935793"), looks := true }, kinds := [], alts := [], laidByText := true, laidKinds := [.data, .data, .data, .data, .sentinel, .sentinel, .pinned], laidTests := true, laidLooks := .later }
def GoodsSetsCardSaid : Prop := Claim7.holds Tryz.pinned (.plain (OpenSpec.ofChange goodsSetsSpec)) goodsSetsCard

/-- THE SECOND FORM's CARD OF 'customslaw08.GoodsSets'. -/
def goodsSetsUptoCard : Claim7 := { stood := { row := goodsSetsUptoRow, standIns := [], harness := (true, "1453c58f49b49c375707203a5342e4cacc02b90df7eee86b3f6285b4c0935793"), looks := true }, kinds := [], alts := [], laidByText := true, laidKinds := [.data, .data, .data, .data, .sentinel, .sentinel, .pinned], laidTests := true, laidLooks := .later }
def GoodsSetsUptoCardSaid : Prop := Claim7.holds Tryz.pinned (.plain (OpenSpec.upto goodsSetsSpec)) goodsSetsUptoCard
end Rows
end Go.Proofs.YtcfkiahbipjbmaaGreatDoor
