/- Plain functions, read off the program by program (gen.py): no program in sight. -/
import Derived.Test.YtmjhpemmhnpilaaGreatDoorPl
import Derived.Test.YtmjhpemmhnpilaaGreatDoorPa
import Derived.Test.YtmjhpemmhnpilaaGreatDoorPb
import Derived.Test.YtmjhpemmhnpilaaGreatDoorPc
import Derived.Test.YtmjhpemmhnpilaaGreatDoorPd
import Derived.Test.YtmjhpemmhnpilaaGreatDoorPe
import Derived.Test.YtmjhpemmhnpilaaGreatDoorPf
set_option linter.unusedVariables false
namespace Go.C
open Go.V

noncomputable def lawParse_j2 (t0 : Str) (t9 : (List Int)) : Option (Bool) :=
  (goodsParse (bytesI t9)).bind fun v3 =>
    (refParseGood (bytesI t9)).bind fun v4 =>
      (goodsParse t0).bind fun v5 =>
        (refParseGood t0).bind fun v6 =>
          (if (v3.2 == v4.2) = true then sameGood v3.1 v4.1 else some default).bind fun v7 =>
            (if (bif (bif (v3.2 == v4.2) then v7 else false) then (v5.2 == v6.2) else false) = true then sameGood v5.1 v6.1 else some default).bind fun v8 =>
              (if ((bif (bif (bif (v3.2 == v4.2) then v7 else false) then (v5.2 == v6.2) else false) then v8 else false) && (!(v3.2 != (0 : Int)))) = true then goodsFormat v3.1 else some default).bind fun v9 =>
                (if (bif (bif (bif (bif (v3.2 == v4.2) then v7 else false) then (v5.2 == v6.2) else false) then v8 else false) then (bif (v3.2 != (0 : Int)) then true else (v9 == (bytesI t9))) else false) = true then awake08  else some default).bind fun v10 =>
                  some (bif (bif (bif (bif (bif (v3.2 == v4.2) then v7 else false) then (v5.2 == v6.2) else false) then v8 else false) then (bif (v3.2 != (0 : Int)) then true else (v9 == (bytesI t9))) else false) then v10 else false)
noncomputable def lawParse_b1 (a2 : (List Int)) (a3 : (List Int)) (t0 : Str) : (Int × (List Int)) → Option ((Int × (List Int)) ⊕ ((List Int)))
  | (t10, t92) =>
    if (bif (bif (decide (t10 < (a2.length : Int))) then (decide (t10 < (a3.length : Int))) else false) then (decide (t10 < (2 : Int))) else false) = true then
      if (0 ≤ t10) then
        (a2[t10.toNat]?).bind fun x3 =>
          (within x3 (t92.length : Int)).bind fun v12 =>
            if (0 ≤ t10) then
              (a3[t10.toNat]?).bind fun x4 =>
                if (0 ≤ v12 ∧ v12 < (t92.length : Int)) then
                  some (.inl ((IntKind.i64.wrap (t10 + (1 : Int))), (t92.set v12.toNat x4)))
                else none
            else none
      else none
    else
      some (.inr t92)
noncomputable def lawParse_j1 (a1 : (List Int)) (a2 : (List Int)) (a3 : (List Int)) (t0 : Str) : Option (Bool) :=
  (madeGood a1).bind fun v =>
    (refFormatGood v).bind fun v2 =>
      if (v2.length ≤ 9223372036854775807) then
        (loopO (lawParse_b1 a2 a3 t0) ((0 : Int), (intsB v2))).bind fun e => match e with
          | t94 =>
            lawParse_j2 t0 t94
      else none
noncomputable def lawParse (a0 : Str) (a1 : (List Int)) (a2 : (List Int)) (a3 : (List Int)) : Option (Bool) :=
  if (decide ((200 : Int) < (a0.length : Int))) = true then
    if (0 ≤ (0 : Int) ∧ (0 : Int) ≤ (200 : Int) ∧ (200 : Int) ≤ (a0.length : Int)) then
      lawParse_j1 a1 a2 a3 ((a0.take (200 : Int).toNat).drop (0 : Int).toNat)
    else none
  else
    lawParse_j1 a1 a2 a3 a0

end Go.C
