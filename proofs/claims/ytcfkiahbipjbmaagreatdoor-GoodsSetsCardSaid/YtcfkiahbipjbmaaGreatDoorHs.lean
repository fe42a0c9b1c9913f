/- Plain: goods.Common and goods.Subset, short or long. -/
import Derived.Test.YtcfkiahbipjbmaaGreatDoorPo
set_option linter.unusedVariables false
namespace Go.C

noncomputable def commonP (a b : List Str) : Option Int := if b.length ≤ 50 then commonS a b else commonB a b
noncomputable def subsetP (a b : List Str) : Option Bool := if b.length ≤ 50 then subset a b else subsetB a b

end Go.C
