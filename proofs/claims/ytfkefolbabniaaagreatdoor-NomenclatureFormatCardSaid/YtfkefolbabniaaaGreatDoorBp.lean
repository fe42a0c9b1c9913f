/- Plain functions of strings.Builder. No program in sight. -/
import Derived.Test.YtfkefolbabniaaaGreatDoorPl
set_option linter.unusedVariables false
namespace Go.C
open Go.V

def bCheck (b : StringsBuilder) : Option Unit := some ()
def bString (b : StringsBuilder) : Option Str := if b.buf = intsB (bytesI b.buf) then some (bytesI b.buf) else none

end Go.C
