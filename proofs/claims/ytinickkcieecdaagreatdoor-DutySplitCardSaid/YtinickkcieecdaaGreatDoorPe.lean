/- Plain functions, read off the program by program (gen.py): no program in sight. -/
import Derived.Test.YtinickkcieecdaaGreatDoorPl
import Derived.Test.YtinickkcieecdaaGreatDoorPa
import Derived.Test.YtinickkcieecdaaGreatDoorPb
import Derived.Test.YtinickkcieecdaaGreatDoorPc
import Derived.Test.YtinickkcieecdaaGreatDoorPd
set_option linter.unusedVariables false
namespace Go.C
open Go.V

noncomputable def dutyPart (rate : Int) (a1 : Int) (a2 : Int) : Option (ExactWide) :=
  (exactMul (IntKind.u64.wrap ((IntKind.u64.wrap rate) * (IntKind.u64.wrap a1))) a2).bind fun v =>
    some v

noncomputable def dutyEvaluate (a0 : ApiDuty) (a1 : Int) (a2 : Int) : Option (Int × Int) :=
  (dutyValidate a0).bind fun v =>
    if (v != (0 : Int)) = true then
      some ((0 : Int), v)
    else
      if (bif (bif (bif (decide (a1 < (0 : Int))) then true else (decide ((1000000000000 : Int) < a1))) then true else (decide (a2 < (0 : Int)))) then true else (decide ((1000000000 : Int) < a2))) = true then
        some ((0 : Int), (2 : Int))
      else
        (dutyPart a0.Rate a1 (IntKind.u64.wrap (if (1 : Int) > a0.Per then (1 : Int) else a0.Per))).bind fun v2 =>
          (exactMul (IntKind.u64.wrap ((IntKind.u64.wrap a0.Amount) * (IntKind.u64.wrap a2))) (1000000 : Int)).bind fun v3 =>
            (exactAdd v2 v3).bind fun v4 =>
              if (v4.2 != (0 : Int)) = true then
                some ((0 : Int), (3 : Int))
              else
                (if a0.HasMost = true then dutyPart a0.Most a1 (IntKind.u64.wrap (if (1 : Int) > a0.Per then (1 : Int) else a0.Per)) else some default).bind fun v5 =>
                  (if a0.HasMost = true then exactCmp v4.1 v5 else some default).bind fun v6 =>
                    if (bif a0.HasMost then (decide ((0 : Int) < v6)) else false) = true then
                      (dutyPart a0.Most a1 (IntKind.u64.wrap (if (1 : Int) > a0.Per then (1 : Int) else a0.Per))).bind fun v7 =>
                        (if a0.HasLeast = true then dutyPart a0.Least a1 (IntKind.u64.wrap (if (1 : Int) > a0.Per then (1 : Int) else a0.Per)) else some default).bind fun v8 =>
                          (if a0.HasLeast = true then exactCmp v7 v8 else some default).bind fun v9 =>
                            if (bif a0.HasLeast then (decide (v9 < (0 : Int))) else false) = true then
                              (dutyPart a0.Least a1 (IntKind.u64.wrap (if (1 : Int) > a0.Per then (1 : Int) else a0.Per))).bind fun v10 =>
                                (exactDiv v10 (IntKind.u64.wrap ((1000000 : Int) * (IntKind.u64.wrap (if (1 : Int) > a0.Per then (1 : Int) else a0.Per)))) (2 : Int)).bind fun v11 =>
                                  if (bif (v11.2 != (0 : Int)) then true else (decide ((1000000000000 : Int) < v11.1))) = true then
                                    some ((0 : Int), (3 : Int))
                                  else
                                    some ((IntKind.i64.wrap v11.1), (0 : Int))
                            else
                              (exactDiv v7 (IntKind.u64.wrap ((1000000 : Int) * (IntKind.u64.wrap (if (1 : Int) > a0.Per then (1 : Int) else a0.Per)))) (2 : Int)).bind fun v12 =>
                                if (bif (v12.2 != (0 : Int)) then true else (decide ((1000000000000 : Int) < v12.1))) = true then
                                  some ((0 : Int), (3 : Int))
                                else
                                  some ((IntKind.i64.wrap v12.1), (0 : Int))
                    else
                      (if a0.HasLeast = true then dutyPart a0.Least a1 (IntKind.u64.wrap (if (1 : Int) > a0.Per then (1 : Int) else a0.Per)) else some default).bind fun v13 =>
                        (if a0.HasLeast = true then exactCmp v4.1 v13 else some default).bind fun v14 =>
                          if (bif a0.HasLeast then (decide (v14 < (0 : Int))) else false) = true then
                            (dutyPart a0.Least a1 (IntKind.u64.wrap (if (1 : Int) > a0.Per then (1 : Int) else a0.Per))).bind fun v15 =>
                              (exactDiv v15 (IntKind.u64.wrap ((1000000 : Int) * (IntKind.u64.wrap (if (1 : Int) > a0.Per then (1 : Int) else a0.Per)))) (2 : Int)).bind fun v16 =>
                                if (bif (v16.2 != (0 : Int)) then true else (decide ((1000000000000 : Int) < v16.1))) = true then
                                  some ((0 : Int), (3 : Int))
                                else
                                  some ((IntKind.i64.wrap v16.1), (0 : Int))
                          else
                            (exactDiv v4.1 (IntKind.u64.wrap ((1000000 : Int) * (IntKind.u64.wrap (if (1 : Int) > a0.Per then (1 : Int) else a0.Per)))) (2 : Int)).bind fun v17 =>
                              if (bif (v17.2 != (0 : Int)) then true else (decide ((1000000000000 : Int) < v17.1))) = true then
                                some ((0 : Int), (3 : Int))
                              else
                                some ((IntKind.i64.wrap v17.1), (0 : Int))

noncomputable def refEvaluate (a0 : ApiDuty) (a1 : Int) (a2 : Int) : Option (Int × Int) :=
  (refDuty a0).bind fun v =>
    if (v != (0 : Int)) = true then
      some ((0 : Int), v)
    else
      (refIn a1 (1000000000000 : Int)).bind fun v2 =>
        (if (!(!v2)) = true then refIn a2 (1000000000 : Int) else some default).bind fun v3 =>
          if (bif (!v2) then true else (!v3)) = true then
            some ((0 : Int), (2 : Int))
          else
            (refScaled a0.Rate a1 (if (1 : Int) > a0.Per then (1 : Int) else a0.Per)).bind fun v4 =>
              (r01Mul (IntKind.u64.wrap ((IntKind.u64.wrap a0.Amount) * (IntKind.u64.wrap a2))) (1000000 : Int)).bind fun v5 =>
                (r01Add v4 v5).bind fun v6 =>
                  (if a0.HasMost = true then refScaled a0.Most a1 (if (1 : Int) > a0.Per then (1 : Int) else a0.Per) else some default).bind fun v7 =>
                    (if a0.HasMost = true then r01Less v7 v6.1 else some default).bind fun v8 =>
                      if (bif a0.HasMost then v8 else false) = true then
                        (refScaled a0.Most a1 (if (1 : Int) > a0.Per then (1 : Int) else a0.Per)).bind fun v9 =>
                          (if a0.HasLeast = true then refScaled a0.Least a1 (if (1 : Int) > a0.Per then (1 : Int) else a0.Per) else some default).bind fun v10 =>
                            (if a0.HasLeast = true then r01Less v9 v10 else some default).bind fun v11 =>
                              if (bif a0.HasLeast then v11 else false) = true then
                                (refScaled a0.Least a1 (if (1 : Int) > a0.Per then (1 : Int) else a0.Per)).bind fun v12 =>
                                  (r01Div v12 (IntKind.u64.wrap ((IntKind.u64.wrap (if (1 : Int) > a0.Per then (1 : Int) else a0.Per)) * (1000000 : Int))) (2 : Int)).bind fun v13 =>
                                    if (bif (v13.2 != (0 : Int)) then true else (decide ((1000000000000 : Int) < v13.1))) = true then
                                      some ((0 : Int), (3 : Int))
                                    else
                                      some ((IntKind.i64.wrap v13.1), (0 : Int))
                              else
                                (r01Div v9 (IntKind.u64.wrap ((IntKind.u64.wrap (if (1 : Int) > a0.Per then (1 : Int) else a0.Per)) * (1000000 : Int))) (2 : Int)).bind fun v14 =>
                                  if (bif (v14.2 != (0 : Int)) then true else (decide ((1000000000000 : Int) < v14.1))) = true then
                                    some ((0 : Int), (3 : Int))
                                  else
                                    some ((IntKind.i64.wrap v14.1), (0 : Int))
                      else
                        (if a0.HasLeast = true then refScaled a0.Least a1 (if (1 : Int) > a0.Per then (1 : Int) else a0.Per) else some default).bind fun v15 =>
                          (if a0.HasLeast = true then r01Less v6.1 v15 else some default).bind fun v16 =>
                            if (bif a0.HasLeast then v16 else false) = true then
                              (refScaled a0.Least a1 (if (1 : Int) > a0.Per then (1 : Int) else a0.Per)).bind fun v17 =>
                                (r01Div v17 (IntKind.u64.wrap ((IntKind.u64.wrap (if (1 : Int) > a0.Per then (1 : Int) else a0.Per)) * (1000000 : Int))) (2 : Int)).bind fun v18 =>
                                  if (bif (v18.2 != (0 : Int)) then true else (decide ((1000000000000 : Int) < v18.1))) = true then
                                    some ((0 : Int), (3 : Int))
                                  else
                                    some ((IntKind.i64.wrap v18.1), (0 : Int))
                            else
                              (r01Div v6.1 (IntKind.u64.wrap ((IntKind.u64.wrap (if (1 : Int) > a0.Per then (1 : Int) else a0.Per)) * (1000000 : Int))) (2 : Int)).bind fun v19 =>
                                if (bif (v19.2 != (0 : Int)) then true else (decide ((1000000000000 : Int) < v19.1))) = true then
                                  some ((0 : Int), (3 : Int))
                                else
                                  some ((IntKind.i64.wrap v19.1), (0 : Int))

end Go.C
