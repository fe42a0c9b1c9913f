/- Plain functions, read off the program by program (gen.py): no program in sight. -/
import Derived.Test.YtbilobjddflpeaaGreatDoorPl
import Derived.Test.YtbilobjddflpeaaGreatDoorBp
import Derived.Test.YtbilobjddflpeaaGreatDoorPa
import Derived.Test.YtbilobjddflpeaaGreatDoorPb
import Derived.Test.YtbilobjddflpeaaGreatDoorPc
import Derived.Test.YtbilobjddflpeaaGreatDoorPd
import Derived.Test.YtbilobjddflpeaaGreatDoorPe
import Derived.Test.YtbilobjddflpeaaGreatDoorPf
import Derived.Test.YtbilobjddflpeaaGreatDoorPg
import Derived.Test.YtbilobjddflpeaaGreatDoorPj
set_option linter.unusedVariables false
namespace Go.C
open Go.V

noncomputable def bWriteString (b : StringsBuilder) (s : Str) : Option (Int × Bool × StringsBuilder) :=
  (bCheck b).bind fun v =>
    if (b.buf.length + s.length ≤ 137438953472) then
      some ((s.length : Int), true, (⟨(), (b.buf ++ (intsB s))⟩ : StringsBuilder))
    else none

noncomputable def bWriteByte (b : StringsBuilder) (c : Int) : Option (Bool × StringsBuilder) :=
  (bCheck b).bind fun v =>
    if (b.buf.length + [c].length ≤ 137438953472) then
      some (true, (⟨(), (b.buf ++ [c])⟩ : StringsBuilder))
    else none

noncomputable def meFormat_j1 (c3_1 : (List Int)) : Option (Str) :=
  (bString (⟨(), c3_1⟩ : StringsBuilder)).bind fun v2 =>
    some v2
noncomputable def meFormat_b1 (l : (List ApiMeasure)) : (Int × (List Int)) → Option ((Int × (List Int)) ⊕ ((List Int)))
  | (t11, c3_12) =>
    if (decide (t11 < (l.length : Int))) = true then
      if (0 ≤ t11) then
        (l[t11.toNat]?).bind fun x2 =>
          (formatMeasure x2).bind fun v6 =>
            (bWriteString (⟨(), c3_12⟩ : StringsBuilder) v6).bind fun v7 =>
              (bWriteByte v7.2.2 (10 : Int)).bind fun v8 =>
                some (.inl ((IntKind.i64.wrap (t11 + (1 : Int))), v8.2.buf))
      else none
    else
      some (.inr c3_12)
noncomputable def meFormat (l : (List ApiMeasure)) : Option (Str) :=
  (meValidate l).bind fun v =>
    if (v != (0 : Int)) = true then
      some ([] : Str)
    else
      (loopO (meFormat_b1 l) ((0 : Int), [])).bind fun e => match e with
        | c3_14 =>
          meFormat_j1 c3_14

noncomputable def lawFormat (l : (List Int)) (raw : (List ApiMeasure)) : Option (Bool) :=
  (madeMeasures l).bind fun v =>
    (meFormat v).bind fun v2 =>
      (refFormat v).bind fun v3 =>
        (if (!(!(v2 == v3))) = true then few19 raw else some default).bind fun v4 =>
          (if (!(!(v2 == v3))) = true then meFormat v4 else some default).bind fun v5 =>
            (if (!(!(v2 == v3))) = true then few19 raw else some default).bind fun v6 =>
              (if (!(!(v2 == v3))) = true then refFormat v6 else some default).bind fun v7 =>
                if (bif (!(v2 == v3)) then true else (!(v5 == v7))) = true then
                  some false
                else
                  (meParse v2).bind fun v8 =>
                    (if (bif (v8.2.2 == (0 : Int)) then (v8.2.1 == (v.length : Int)) else false) = true then sameMeasures v8.1 v else some default).bind fun v9 =>
                      (if (bif (bif (v8.2.2 == (0 : Int)) then (v8.2.1 == (v.length : Int)) else false) then v9 else false) = true then awake19  else some default).bind fun v10 =>
                        some (bif (bif (bif (v8.2.2 == (0 : Int)) then (v8.2.1 == (v.length : Int)) else false) then v9 else false) then v10 else false)

end Go.C
