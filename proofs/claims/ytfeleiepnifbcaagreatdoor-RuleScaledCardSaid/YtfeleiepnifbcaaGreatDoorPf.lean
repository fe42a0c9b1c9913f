/- Plain functions, read off the program by program (gen.py): no program in sight. -/
import Derived.Test.YtfeleiepnifbcaaGreatDoorPl
import Derived.Test.YtfeleiepnifbcaaGreatDoorMe
import Derived.Test.YtfeleiepnifbcaaGreatDoorPa
import Derived.Test.YtfeleiepnifbcaaGreatDoorPb
import Derived.Test.YtfeleiepnifbcaaGreatDoorPc
import Derived.Test.YtfeleiepnifbcaaGreatDoorPe
set_option linter.unusedVariables false
namespace Go.C
open Go.V

noncomputable def witness (r1 : ApiRule) (c : ApiCase) : Option ((List Int) × Bool) :=
  (applicable r1 c).bind fun v =>
    if (!v) = true then
      some ([], false)
    else
      (testOf r1).bind fun v2 =>
        (witI 8 v2 c).bind fun v3 =>
          some (v3.1, v3.2)

noncomputable def ruleHolds (r1 : ApiRule) (c : ApiCase) : Option (Bool) :=
  (witness r1 c).bind fun v =>
    some v.2

noncomputable def verify (r1 : ApiRule) (c : ApiCase) (path : (List Int)) : Option (Bool) :=
  (applicable r1 c).bind fun v =>
    if (!v) = true then
      some false
    else
      (testOf r1).bind fun v2 =>
        (folI 8 v2 c path).bind fun v3 =>
          some (bif v3.2 then ((v3.1.length : Int) == (0 : Int)) else false)

end Go.C
