/- Plain functions, read off the program by program (gen.py): no program in sight. -/
import Derived.Test.YtcfkiahbipjbmaaGreatDoorPl
import Derived.Test.YtcfkiahbipjbmaaGreatDoorPa
import Derived.Test.YtcfkiahbipjbmaaGreatDoorPb
import Derived.Test.YtcfkiahbipjbmaaGreatDoorPc
import Derived.Test.YtcfkiahbipjbmaaGreatDoorPd
set_option linter.unusedVariables false
namespace Go.C
open Go.V

noncomputable def awake08  : Option (Bool) :=
  (goodsParse ([99, 104, 97, 105, 114, 43, 111, 102, 102, 105, 99, 101, 32, 109, 58, 115, 116, 101, 101, 108, 58, 52, 48, 48, 48, 48, 48, 44, 119, 111, 111, 100, 58, 54, 48, 48, 48, 48, 48] : Str)).bind fun v =>
    (goodsCharacters v.1).bind fun v2 =>
      if ((bif (v.2 == (0 : Int)) then ((v2.length : Int) == (2 : Int)) else false) = true → (0 ≤ (0 : Int) ∧ (0 : Int) < (v2.length : Int))) then
        if ((bif (bif (v.2 == (0 : Int)) then ((v2.length : Int) == (2 : Int)) else false) then ((((v2.getD 0 default).Words).length : Int) == (1 : Int)) else false) = true → (0 ≤ (0 : Int) ∧ (0 : Int) < (v2.length : Int))) then
          if ((bif (bif (v.2 == (0 : Int)) then ((v2.length : Int) == (2 : Int)) else false) then ((((v2.getD 0 default).Words).length : Int) == (1 : Int)) else false) = true → (0 ≤ (0 : Int) ∧ (0 : Int) < (((v2.getD 0 default).Words).length : Int))) then
            (if (bif (bif (bif (v.2 == (0 : Int)) then ((v2.length : Int) == (2 : Int)) else false) then ((((v2.getD 0 default).Words).length : Int) == (1 : Int)) else false) then ((((v2.getD 0 default).Words).getD 0 default) == ([119, 111, 111, 100] : Str)) else false) = true then goodsValidate v.1 else some default).bind fun v3 =>
              (if (bif (bif (bif (bif (v.2 == (0 : Int)) then ((v2.length : Int) == (2 : Int)) else false) then ((((v2.getD 0 default).Words).length : Int) == (1 : Int)) else false) then ((((v2.getD 0 default).Words).getD 0 default) == ([119, 111, 111, 100] : Str)) else false) then (v3 == (0 : Int)) else false) = true then goodsFormat v.1 else some default).bind fun v4 =>
                some (bif (bif (bif (bif (bif (v.2 == (0 : Int)) then ((v2.length : Int) == (2 : Int)) else false) then ((((v2.getD 0 default).Words).length : Int) == (1 : Int)) else false) then ((((v2.getD 0 default).Words).getD 0 default) == ([119, 111, 111, 100] : Str)) else false) then (v3 == (0 : Int)) else false) then (v4 == ([99, 104, 97, 105, 114, 43, 111, 102, 102, 105, 99, 101, 32, 109, 58, 115, 116, 101, 101, 108, 58, 52, 48, 48, 48, 48, 48, 44, 119, 111, 111, 100, 58, 54, 48, 48, 48, 48, 48] : Str)) else false)
          else none
        else none
      else none

end Go.C
