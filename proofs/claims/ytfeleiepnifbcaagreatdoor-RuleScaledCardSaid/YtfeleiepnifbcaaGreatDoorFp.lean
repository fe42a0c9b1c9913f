/- Plain functions of Go's library: strings.Fields, strings.ReplaceAll. No program in sight. -/
import Derived.Test.YtfeleiepnifbcaaGreatDoorPl
import Derived.Lib.Fields
import Derived.Lib.Replace
set_option linter.unusedVariables false
namespace Go.C
open Go.V

def fieldsS (s : Str) : Option (List Str) := if s.length < 4294967281 ∧ (s.all fun b => decide (b.toNat < 128)) = true then some (Lib.fields s) else none
def replaceAllS (s old new : Str) : Option Str := if s.length < 4294967281 ∧ 1 ≤ old.length ∧ s.length + Lib.countB ⟨⟨s⟩⟩ ⟨⟨old⟩⟩ * new.length ≤ 140737488355328 then some (Lib.replaceAll s old new) else none

end Go.C
