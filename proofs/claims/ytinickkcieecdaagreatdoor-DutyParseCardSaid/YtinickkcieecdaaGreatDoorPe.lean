/- Plain functions, read off the program by program (gen.py): no program in sight. -/
import Derived.Test.YtinickkcieecdaaGreatDoorPl
import Derived.Test.YtinickkcieecdaaGreatDoorPa
import Derived.Test.YtinickkcieecdaaGreatDoorPb
import Derived.Test.YtinickkcieecdaaGreatDoorPc
import Derived.Test.YtinickkcieecdaaGreatDoorPd
set_option linter.unusedVariables false
namespace Go.C
open Go.V

noncomputable def dutyPart (rate : Int) (a1 : Int) (a2 : Int) : Option (ExactWide) :=
  (exactMul (IntKind.u64.wrap ((IntKind.u64.wrap rate) * (IntKind.u64.wrap a1))) a2).bind fun v =>
    some v

noncomputable def dutyEvaluate_j2 (d : ApiDuty) (c11_02 : Int) (c11_12 : Int) : Option (Int × Int) :=
  (exactDiv (⟨c11_02, c11_12⟩ : ExactWide) (IntKind.u64.wrap ((1000000 : Int) * (IntKind.u64.wrap (if (1 : Int) > d.Per then (1 : Int) else d.Per)))) (2 : Int)).bind fun v9 =>
    if (bif (v9.2 != (0 : Int)) then true else (decide ((1000000000000 : Int) < v9.1))) = true then
      some ((0 : Int), (3 : Int))
    else
      some ((IntKind.i64.wrap v9.1), (0 : Int))
noncomputable def dutyEvaluate_j1 (d : ApiDuty) (value : Int) (c11_0 : Int) (c11_1 : Int) : Option (Int × Int) :=
  (if d.HasLeast = true then dutyPart d.Least value (IntKind.u64.wrap (if (1 : Int) > d.Per then (1 : Int) else d.Per)) else some default).bind fun v7 =>
    (if d.HasLeast = true then exactCmp (⟨c11_0, c11_1⟩ : ExactWide) v7 else some default).bind fun v8 =>
      if (bif d.HasLeast then (decide (v8 < (0 : Int))) else false) = true then
        (dutyPart d.Least value (IntKind.u64.wrap (if (1 : Int) > d.Per then (1 : Int) else d.Per))).bind fun v10 =>
          dutyEvaluate_j2 d v10.Hi v10.Lo
      else
        dutyEvaluate_j2 d c11_0 c11_1
noncomputable def dutyEvaluate (d : ApiDuty) (value : Int) (quantity : Int) : Option (Int × Int) :=
  (dutyValidate d).bind fun v =>
    if (v != (0 : Int)) = true then
      some ((0 : Int), v)
    else
      if (bif (bif (bif (decide (value < (0 : Int))) then true else (decide ((1000000000000 : Int) < value))) then true else (decide (quantity < (0 : Int)))) then true else (decide ((1000000000 : Int) < quantity))) = true then
        some ((0 : Int), (2 : Int))
      else
        (dutyPart d.Rate value (IntKind.u64.wrap (if (1 : Int) > d.Per then (1 : Int) else d.Per))).bind fun v2 =>
          (exactMul (IntKind.u64.wrap ((IntKind.u64.wrap d.Amount) * (IntKind.u64.wrap quantity))) (1000000 : Int)).bind fun v3 =>
            (exactAdd v2 v3).bind fun v4 =>
              if (v4.2 != (0 : Int)) = true then
                some ((0 : Int), (3 : Int))
              else
                (if d.HasMost = true then dutyPart d.Most value (IntKind.u64.wrap (if (1 : Int) > d.Per then (1 : Int) else d.Per)) else some default).bind fun v5 =>
                  (if d.HasMost = true then exactCmp v4.1 v5 else some default).bind fun v6 =>
                    if (bif d.HasMost then (decide ((0 : Int) < v6)) else false) = true then
                      (dutyPart d.Most value (IntKind.u64.wrap (if (1 : Int) > d.Per then (1 : Int) else d.Per))).bind fun v11 =>
                        dutyEvaluate_j1 d value v11.Hi v11.Lo
                    else
                      dutyEvaluate_j1 d value v4.1.Hi v4.1.Lo

noncomputable def refEvaluate_j2 (d : ApiDuty) (c10_02 : Int) (c10_12 : Int) : Option (Int × Int) :=
  (r01Div (⟨c10_02, c10_12⟩ : Customsref01Wide) (IntKind.u64.wrap ((IntKind.u64.wrap (if (1 : Int) > d.Per then (1 : Int) else d.Per)) * (1000000 : Int))) (2 : Int)).bind fun v11 =>
    if (bif (v11.2 != (0 : Int)) then true else (decide ((1000000000000 : Int) < v11.1))) = true then
      some ((0 : Int), (3 : Int))
    else
      some ((IntKind.i64.wrap v11.1), (0 : Int))
noncomputable def refEvaluate_j1 (d : ApiDuty) (value : Int) (c10_0 : Int) (c10_1 : Int) : Option (Int × Int) :=
  (if d.HasLeast = true then refScaled d.Least value (if (1 : Int) > d.Per then (1 : Int) else d.Per) else some default).bind fun v9 =>
    (if d.HasLeast = true then r01Less (⟨c10_0, c10_1⟩ : Customsref01Wide) v9 else some default).bind fun v10 =>
      if (bif d.HasLeast then v10 else false) = true then
        (refScaled d.Least value (if (1 : Int) > d.Per then (1 : Int) else d.Per)).bind fun v12 =>
          refEvaluate_j2 d v12.Hi v12.Lo
      else
        refEvaluate_j2 d c10_0 c10_1
noncomputable def refEvaluate (d : ApiDuty) (value : Int) (quantity : Int) : Option (Int × Int) :=
  (refDuty d).bind fun v =>
    if (v != (0 : Int)) = true then
      some ((0 : Int), v)
    else
      (refIn value (1000000000000 : Int)).bind fun v2 =>
        (if (!(!v2)) = true then refIn quantity (1000000000 : Int) else some default).bind fun v3 =>
          if (bif (!v2) then true else (!v3)) = true then
            some ((0 : Int), (2 : Int))
          else
            (refScaled d.Rate value (if (1 : Int) > d.Per then (1 : Int) else d.Per)).bind fun v4 =>
              (r01Mul (IntKind.u64.wrap ((IntKind.u64.wrap d.Amount) * (IntKind.u64.wrap quantity))) (1000000 : Int)).bind fun v5 =>
                (r01Add v4 v5).bind fun v6 =>
                  (if d.HasMost = true then refScaled d.Most value (if (1 : Int) > d.Per then (1 : Int) else d.Per) else some default).bind fun v7 =>
                    (if d.HasMost = true then r01Less v7 v6.1 else some default).bind fun v8 =>
                      if (bif d.HasMost then v8 else false) = true then
                        (refScaled d.Most value (if (1 : Int) > d.Per then (1 : Int) else d.Per)).bind fun v13 =>
                          refEvaluate_j1 d value v13.Hi v13.Lo
                      else
                        refEvaluate_j1 d value v6.1.Hi v6.1.Lo

end Go.C
