/-
  DERIVED. GIVEN WITH THE SEED: THE CARDS: each row of YtmjhpemmhnpilaaDoorRows.lean that lists a variable, with what it lists TIED to the program's text (the seventh form; the later family's looks); each row that meets fmt, with fmt's text TOLD by the authors' own Lean function (tested against real Go, not proved from fmt's source: count such statements apart). THE CARD IS WHAT COUNTS. Prove the row's statement (the work); the ties are given (YtmjhpemmhnpilaaDoorTie.lean); close each card by the builder's one call (the guide's Derived/Test/ToyasCard.lean, 'card_holds'). Laid BY PROGRAM, IN A SANDBOX (cutbox-door.mjs). By AI agents, Wed Nov 11 2026. No macro, syntax, notation, axiom, sorry.
-/
import Derived.Test.YtmjhpemmhnpilaaDoorRows
import GoSem.ClaimSeven
namespace Go.Proofs.YtmjhpemmhnpilaaDoor
namespace Rows

/-- THE TIED CARD OF 'customslaw08.GoodsValidate'. -/
def goodsValidateCard : Claim7 := { stood := { row := goodsValidateRow, standIns := [], harness := (true, "ac566afc822a1e55ea2eaeeaded93e6a22869196c90a475f3202d0f76053ac8f"), looks := true }, kinds := [], alts := [], laidByText := true, laidKinds := [.data, .data, .data, .data, .sentinel, .sentinel, .pinned], laidTests := true, laidLooks := .later }
def GoodsValidateCardSaid : Prop := Claim7.holds Tryd.pinned (.plain (OpenSpec.ofChange goodsValidateSpec)) goodsValidateCard

/-- THE TIED CARD OF 'customslaw08.GoodsShares'. -/
def goodsSharesCard : Claim7 := { stood := { row := goodsSharesRow, standIns := [], harness := (true, "ac566afc822a1e55ea2eaeeaded93e6a22869196c90a475f3202d0f76053ac8f"), looks := true }, kinds := [], alts := [], laidByText := true, laidKinds := [.data, .data, .data, .data, .sentinel, .sentinel, .pinned], laidTests := true, laidLooks := .later }
def GoodsSharesCardSaid : Prop := Claim7.holds Tryd.pinned (.plain (OpenSpec.ofChange goodsSharesSpec)) goodsSharesCard

/-- THE TIED CARD OF 'customslaw08.GoodsCharacters'. -/
def goodsCharactersCard : Claim7 := { stood := { row := goodsCharactersRow, standIns := [], harness := (true, "ac566afc822a1e55ea2eaeeaded93e6a22869196c90a475f3202d0f76053ac8f"), looks := true }, kinds := [], alts := [], laidByText := true, laidKinds := [.data, .data, .data, .data, .sentinel, .sentinel, .pinned], laidTests := true, laidLooks := .later }
def GoodsCharactersCardSaid : Prop := Claim7.holds Tryd.pinned (.plain (OpenSpec.ofChange goodsCharactersSpec)) goodsCharactersCard

/-- THE SECOND FORM's CARD OF 'customslaw08.GoodsValidate'. -/
def goodsValidateUptoCard : Claim7 := { stood := { row := goodsValidateUptoRow, standIns := [], harness := (true, "ac566afc822a1e55ea2eaeeaded93e6a22869196c90a475f3202d0f76053ac8f"), looks := true }, kinds := [], alts := [], laidByText := true, laidKinds := [.data, .data, .data, .data, .sentinel, .sentinel, .pinned], laidTests := true, laidLooks := .later }
def GoodsValidateUptoCardSaid : Prop := Claim7.holds Tryd.pinned (.plain (OpenSpec.upto goodsValidateSpec)) goodsValidateUptoCard

/-- THE SECOND FORM's CARD OF 'customslaw08.GoodsShares'. -/
def goodsSharesUptoCard : Claim7 := { stood := { row := goodsSharesUptoRow, standIns := [], harness := (true, "ac566afc822a1e55ea2eaeeaded93e6a22869196c90a475f3202d0f76053ac8f"), looks := true }, kinds := [], alts := [], laidByText := true, laidKinds := [.data, .data, .data, .data, .sentinel, .sentinel, .pinned], laidTests := true, laidLooks := .later }
def GoodsSharesUptoCardSaid : Prop := Claim7.holds Tryd.pinned (.plain (OpenSpec.upto goodsSharesSpec)) goodsSharesUptoCard

/-- THE SECOND FORM's CARD OF 'customslaw08.GoodsCharacters'. -/
def goodsCharactersUptoCard : Claim7 := { stood := { row := goodsCharactersUptoRow, standIns := [], harness := (true, "ac566afc822a1e55ea2eaeeaded93e6a22869196c90a475f3202d0f76053ac8f"), looks := true }, kinds := [], alts := [], laidByText := true, laidKinds := [.data, .data, .data, .data, .sentinel, .sentinel, .pinned], laidTests := true, laidLooks := .later }
def GoodsCharactersUptoCardSaid : Prop := Claim7.holds Tryd.pinned (.plain (OpenSpec.upto goodsCharactersSpec)) goodsCharactersUptoCard
end Rows
end Go.Proofs.YtmjhpemmhnpilaaDoor
