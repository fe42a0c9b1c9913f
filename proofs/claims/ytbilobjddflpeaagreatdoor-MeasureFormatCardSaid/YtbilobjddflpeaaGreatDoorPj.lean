/- Plain functions, read off the program by program (gen.py): no program in sight. -/
import Derived.Test.YtbilobjddflpeaaGreatDoorPl
import Derived.Test.YtbilobjddflpeaaGreatDoorPa
import Derived.Test.YtbilobjddflpeaaGreatDoorPb
import Derived.Test.YtbilobjddflpeaaGreatDoorPc
import Derived.Test.YtbilobjddflpeaaGreatDoorPd
import Derived.Test.YtbilobjddflpeaaGreatDoorPe
import Derived.Test.YtbilobjddflpeaaGreatDoorPf
import Derived.Test.YtbilobjddflpeaaGreatDoorPg
set_option linter.unusedVariables false
namespace Go.C
open Go.V

noncomputable def refLine_j2 (m1 : ApiMeasure) (s2 : Str) : Option (Str) :=
  if (s2.length + ([32] : Str).length ≤ 9223372036854775807) then
    (refFormatDuty m1.Duty).bind fun v7 =>
      if ((s2 ++ ([32] : Str)).length + v7.length ≤ 9223372036854775807) then
        some ((s2 ++ ([32] : Str)) ++ v7)
      else none
  else none
noncomputable def refLine_j1 (m1 : ApiMeasure) (s : Str) : Option (Str) :=
  (refJoined m1.Origins ([44] : Str)).bind fun v3 =>
    if (s.length + v3.length ≤ 9223372036854775807) then
      if ((s ++ v3).length + ([32] : Str).length ≤ 9223372036854775807) then
        (r02Digits m1.Company).bind fun v4 =>
          if (((s ++ v3) ++ ([32] : Str)).length + v4.length ≤ 9223372036854775807) then
            if ((((s ++ v3) ++ ([32] : Str)) ++ v4).length + ([32] : Str).length ≤ 9223372036854775807) then
              (r02Digits m1.From).bind fun v5 =>
                if (((((s ++ v3) ++ ([32] : Str)) ++ v4) ++ ([32] : Str)).length + v5.length ≤ 9223372036854775807) then
                  if ((((((s ++ v3) ++ ([32] : Str)) ++ v4) ++ ([32] : Str)) ++ v5).length + ([32] : Str).length ≤ 9223372036854775807) then
                    (r02Digits m1.To).bind fun v6 =>
                      if (((((((s ++ v3) ++ ([32] : Str)) ++ v4) ++ ([32] : Str)) ++ v5) ++ ([32] : Str)).length + v6.length ≤ 9223372036854775807) then
                        if ((((((((s ++ v3) ++ ([32] : Str)) ++ v4) ++ ([32] : Str)) ++ v5) ++ ([32] : Str)) ++ v6).length + ([32] : Str).length ≤ 9223372036854775807) then
                          if (decide (m1.Registered < (0 : Int))) = true then
                            if (((((((((s ++ v3) ++ ([32] : Str)) ++ v4) ++ ([32] : Str)) ++ v5) ++ ([32] : Str)) ++ v6) ++ ([32] : Str)).length + ([45] : Str).length ≤ 9223372036854775807) then
                              refLine_j2 m1 (((((((((s ++ v3) ++ ([32] : Str)) ++ v4) ++ ([32] : Str)) ++ v5) ++ ([32] : Str)) ++ v6) ++ ([32] : Str)) ++ ([45] : Str))
                            else none
                          else
                            (r02Digits m1.Registered).bind fun v8 =>
                              if (((((((((s ++ v3) ++ ([32] : Str)) ++ v4) ++ ([32] : Str)) ++ v5) ++ ([32] : Str)) ++ v6) ++ ([32] : Str)).length + v8.length ≤ 9223372036854775807) then
                                refLine_j2 m1 (((((((((s ++ v3) ++ ([32] : Str)) ++ v4) ++ ([32] : Str)) ++ v5) ++ ([32] : Str)) ++ v6) ++ ([32] : Str)) ++ v8)
                              else none
                        else none
                      else none
                  else none
                else none
            else none
          else none
      else none
    else none
noncomputable def refLine (m1 : ApiMeasure) : Option (Str) :=
  (r02Digits m1.ID).bind fun v =>
    if (v.length + ([32] : Str).length ≤ 9223372036854775807) then
      (r02Digits m1.Kind).bind fun v2 =>
        if ((v ++ ([32] : Str)).length + v2.length ≤ 9223372036854775807) then
          if (((v ++ ([32] : Str)) ++ v2).length + ([32] : Str).length ≤ 9223372036854775807) then
            if ((((v ++ ([32] : Str)) ++ v2) ++ ([32] : Str)).length + m1.Prefix.length ≤ 9223372036854775807) then
              if (((((v ++ ([32] : Str)) ++ v2) ++ ([32] : Str)) ++ m1.Prefix).length + ([32] : Str).length ≤ 9223372036854775807) then
                if ((m1.Origins.length : Int) == (0 : Int)) = true then
                  if ((((((v ++ ([32] : Str)) ++ v2) ++ ([32] : Str)) ++ m1.Prefix) ++ ([32] : Str)).length + ([42] : Str).length ≤ 9223372036854775807) then
                    refLine_j1 m1 ((((((v ++ ([32] : Str)) ++ v2) ++ ([32] : Str)) ++ m1.Prefix) ++ ([32] : Str)) ++ ([42] : Str))
                  else none
                else
                  refLine_j1 m1 (((((v ++ ([32] : Str)) ++ v2) ++ ([32] : Str)) ++ m1.Prefix) ++ ([32] : Str))
              else none
            else none
          else none
        else none
    else none

noncomputable def refFormat_j1 (s : Str) : Option (Str) :=
  some s
noncomputable def refFormat_b1 (l : (List ApiMeasure)) : (Int × Str) → Option ((Int × Str) ⊕ (Str))
  | (i, s2) =>
    if (decide (i < (l.length : Int))) = true then
      if (0 ≤ i) then
        (l[i.toNat]?).bind fun x2 =>
          (refLine x2).bind fun v3 =>
            if (s2.length + v3.length ≤ 9223372036854775807) then
              if ((s2 ++ v3).length + ([10] : Str).length ≤ 9223372036854775807) then
                some (.inl ((IntKind.i64.wrap (i + (1 : Int))), ((s2 ++ v3) ++ ([10] : Str))))
              else none
            else none
      else none
    else
      some (.inr s2)
noncomputable def refFormat (l : (List ApiMeasure)) : Option (Str) :=
  (refMeasures l).bind fun v =>
    if (v != (0 : Int)) = true then
      some ([] : Str)
    else
      (loopO (refFormat_b1 l) ((0 : Int), ([] : Str))).bind fun e => match e with
        | s4 =>
          refFormat_j1 s4

end Go.C
