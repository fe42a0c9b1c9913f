/- Plain functions, read off the program by program (gen.py): no program in sight. -/
import Derived.Test.YtfkefolbabniaaaGreatDoorPl
import Derived.Test.YtfkefolbabniaaaGreatDoorPa
import Derived.Test.YtfkefolbabniaaaGreatDoorPb
import Derived.Test.YtfkefolbabniaaaGreatDoorPc
import Derived.Test.YtfkefolbabniaaaGreatDoorPd
set_option linter.unusedVariables false
namespace Go.C
open Go.V

noncomputable def awake09  : Option (Bool) :=
  (nomParse ([57, 52, 32, 48, 32, 51, 54, 53, 50, 53, 10, 57, 52, 48, 49, 32, 48, 32, 51, 54, 53, 50, 53, 32, 115, 101, 97, 116, 32, 99, 104, 97, 105, 114, 43, 111, 102, 102, 105, 99, 101, 10, 110, 111, 116, 101, 32, 57, 53, 32, 108, 97, 109, 112, 32, 57, 52, 48, 49, 10] : Str)).bind fun v =>
    (nomBelow v.1 (7 : Int) ([] : Str)).bind fun v2 =>
      if ((bif (bif (v.2.2 == (0 : Int)) then (v.2.1 == (3 : Int)) else false) then ((v2.length : Int) == (1 : Int)) else false) = true → (0 ≤ (0 : Int) ∧ (0 : Int) < (v2.length : Int))) then
        (if (bif (bif (v.2.2 == (0 : Int)) then (v.2.1 == (3 : Int)) else false) then ((v2.length : Int) == (1 : Int)) else false) = true then nomScore v.1 (v2.getD 0 default) [([99, 104, 97, 105, 114] : Str), ([111, 102, 102, 105, 99, 101] : Str)] else some default).bind fun v3 =>
          if ((bif (bif (bif (v.2.2 == (0 : Int)) then (v.2.1 == (3 : Int)) else false) then ((v2.length : Int) == (1 : Int)) else false) then (v3 == (2 : Int)) else false) = true → (0 ≤ (0 : Int) ∧ (0 : Int) < (v2.length : Int))) then
            (if (bif (bif (bif (v.2.2 == (0 : Int)) then (v.2.1 == (3 : Int)) else false) then ((v2.length : Int) == (1 : Int)) else false) then (v3 == (2 : Int)) else false) = true then nomScore v.1 (v2.getD 0 default) [([108, 97, 109, 112] : Str)] else some default).bind fun v4 =>
              (if (bif (bif (bif (bif (v.2.2 == (0 : Int)) then (v.2.1 == (3 : Int)) else false) then ((v2.length : Int) == (1 : Int)) else false) then (v3 == (2 : Int)) else false) then (v4 == (1 : Int)) else false) = true then nomExcluded v.1 ([57, 53, 48, 49] : Str) [([108, 97, 109, 112] : Str)] else some default).bind fun v5 =>
                (if (bif (bif (bif (bif (bif (v.2.2 == (0 : Int)) then (v.2.1 == (3 : Int)) else false) then ((v2.length : Int) == (1 : Int)) else false) then (v3 == (2 : Int)) else false) then (v4 == (1 : Int)) else false) then v5 else false) = true then nomLevel ([57, 52, 48, 49] : Str) else some default).bind fun v6 =>
                  some (bif (bif (bif (bif (bif (bif (v.2.2 == (0 : Int)) then (v.2.1 == (3 : Int)) else false) then ((v2.length : Int) == (1 : Int)) else false) then (v3 == (2 : Int)) else false) then (v4 == (1 : Int)) else false) then v5 else false) then (v6 == (4 : Int)) else false)
          else none
      else none

end Go.C
