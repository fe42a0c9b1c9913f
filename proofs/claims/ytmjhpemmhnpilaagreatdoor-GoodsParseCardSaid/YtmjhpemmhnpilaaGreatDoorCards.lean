/-
  DERIVED. GIVEN WITH THE SEED: THE CARDS: each row of YtmjhpemmhnpilaaGreatDoorRows.lean that lists a variable, with what it lists TIED to the program's text (the seventh form; the later family's looks); each row that meets fmt, with fmt's text TOLD by the authors' own Lean function (tested against real Go, not proved from fmt's source: count such statements apart). THE CARD IS WHAT COUNTS. Prove the row's statement (the work); the ties are given (YtmjhpemmhnpilaaGreatDoorTie.lean); close each card by the builder's one call (the guide's Derived/Test/ToyasCard.lean, 'card_holds'). Laid BY PROGRAM, IN A SANDBOX (cutbox-door.mjs). By AI agents, Wed Nov 11 2026. No macro, syntax, notation, axiom, sorry.
-/
import Derived.Test.YtmjhpemmhnpilaaGreatDoorRows
import GoSem.ClaimSeven
namespace Go.Proofs.YtmjhpemmhnpilaaGreatDoor
namespace Rows

/-- THE TIED CARD OF 'customslaw08.GoodsFormat'. -/
def goodsFormatCard : Claim7 := { stood := { row := goodsFormatRow, standIns := [], harness := (true, "6259bf82efa57e285430f4deca2b484d198598d94e96eafe34dfd82539c32dea"), looks := true }, kinds := [], alts := [], laidByText := true, laidKinds := [.data, .data, .data, .data, .sentinel, .sentinel, .pinned], laidTests := true, laidLooks := .later }
def GoodsFormatCardSaid : Prop := Claim7.holds Tryz.pinned (.plain (OpenSpec.ofChange goodsFormatSpec)) goodsFormatCard

/-- THE TIED CARD OF 'customslaw08.GoodsParse'. -/
def goodsParseCard : Claim7 := { stood := { row := goodsParseRow, standIns := [], harness := (true, "6259bf82efa57e285430f4deca2b484d198598d94e96eafe34dfd82539c32dea"), looks := true }, kinds := [], alts := [], laidByText := true, laidKinds := [.data, .data, .data, .data, .sentinel, .sentinel, .pinned], laidTests := true, laidLooks := .later }
def GoodsParseCardSaid : Prop := Claim7.holds Tryz.pinned (.plain (OpenSpec.ofChange goodsParseSpec)) goodsParseCard

/-- THE TIED CARD OF 'customslaw08.GoodsSets'. -/
def goodsSetsCard : Claim7 := { stood := { row := goodsSetsRow, standIns := [], harness := (true, "6259bf82efa57e285430f4deca2b484d198598d94e96eafe34dfd82539c32dea"), looks := true }, kinds := [], alts := [], laidByText := true, laidKinds := [.data, .data, .data, .data, .sentinel, .sentinel, .pinned], laidTests := true, laidLooks := .later }
def GoodsSetsCardSaid : Prop := Claim7.holds Tryz.pinned (.plain (OpenSpec.ofChange goodsSetsSpec)) goodsSetsCard

/-- THE SECOND FORM's CARD OF 'customslaw08.GoodsFormat'. -/
def goodsFormatUptoCard : Claim7 := { stood := { row := goodsFormatUptoRow, standIns := [], harness := (true, "6259bf82efa57e285430f4deca2b484d198598d94e96eafe34dfd82539c32dea"), looks := true }, kinds := [], alts := [], laidByText := true, laidKinds := [.data, .data, .data, .data, .sentinel, .sentinel, .pinned], laidTests := true, laidLooks := .later }
def GoodsFormatUptoCardSaid : Prop := Claim7.holds Tryz.pinned (.plain (OpenSpec.upto goodsFormatSpec)) goodsFormatUptoCard

/-- THE SECOND FORM's CARD OF 'customslaw08.GoodsParse'. -/
def goodsParseUptoCard : Claim7 := { stood := { row := goodsParseUptoRow, standIns := [], harness := (true, "6259bf82efa57e285430f4deca2b484d198598d94e96eafe34dfd82539c32dea"), looks := true }, kinds := [], alts := [], laidByText := true, laidKinds := [.data, .data, .data, .data, .sentinel, .sentinel, .pinned], laidTests := true, laidLooks := .later }
def GoodsParseUptoCardSaid : Prop := Claim7.holds Tryz.pinned (.plain (OpenSpec.upto goodsParseSpec)) goodsParseUptoCard

/-- THE SECOND FORM's CARD OF 'customslaw08.GoodsSets'. -/
def goodsSetsUptoCard : Claim7 := { stood := { row := goodsSetsUptoRow, standIns := [], harness := (true, "6259bf82efa57e285430f4deca2b484d198598d94e96eafe34dfd82539c32dea"), looks := true }, kinds := [], alts := [], laidByText := true, laidKinds := [.data, .data, .data, .data, .sentinel, .sentinel, .pinned], laidTests := true, laidLooks := .later }
def GoodsSetsUptoCardSaid : Prop := Claim7.holds Tryz.pinned (.plain (OpenSpec.upto goodsSetsSpec)) goodsSetsUptoCard
end Rows
end Go.Proofs.YtmjhpemmhnpilaaGreatDoor
