/- Plain: sorting texts; dropping repeated ones. -/
import Derived.Test.YtcfkiahbipjbmaaGreatDoorPl
import Derived.Lib.SlicesCompact
set_option linter.unusedVariables false
namespace Go.C

def sortS (l : List Str) : Option (List Str) := if l.length < 4611686018427387904 then some (l.mergeSort fun x y => decide (x ≤ y)) else none
def compactS (l : List Str) : Option (List Str) := if l.length ≤ 9223372036854775807 then some (Lib.compact l) else none

end Go.C
