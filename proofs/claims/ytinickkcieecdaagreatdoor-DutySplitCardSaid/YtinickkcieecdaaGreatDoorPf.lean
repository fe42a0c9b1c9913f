/- Plain functions, read off the program by program (gen.py): no program in sight. -/
import Derived.Test.YtinickkcieecdaaGreatDoorPl
import Derived.Test.YtinickkcieecdaaGreatDoorPa
import Derived.Test.YtinickkcieecdaaGreatDoorPb
import Derived.Test.YtinickkcieecdaaGreatDoorPc
import Derived.Test.YtinickkcieecdaaGreatDoorPd
import Derived.Test.YtinickkcieecdaaGreatDoorPe
set_option linter.unusedVariables false
namespace Go.C
open Go.V

noncomputable def awake18  : Option (Bool) :=
  (dutyParse ([53, 37, 32, 43, 32, 51, 46, 50, 48, 47, 49, 48, 48, 32, 109, 97, 120, 32, 49, 48, 37, 32, 109, 105, 110, 32, 50, 37] : Str)).bind fun v =>
    (dutyEvaluate v.1 (10000 : Int) (100 : Int)).bind fun v2 =>
      (if (bif (bif (bif (v.2 == (0 : Int)) then ((v.1.Rate == (50000 : Int)) && ((v.1.Amount == (320 : Int)) && ((v.1.Per == (100 : Int)) && ((v.1.HasMost == true) && ((v.1.Most == (100000 : Int)) && ((v.1.HasLeast == true) && (v.1.Least == (20000 : Int)))))))) else false) then (v2.1 == (820 : Int)) else false) then (v2.2 == (0 : Int)) else false) = true then dutyFormat (⟨0, 0, 0, false, 0, false, 0⟩ : ApiDuty) else some default).bind fun v3 =>
        some (bif (bif (bif (bif (v.2 == (0 : Int)) then ((v.1.Rate == (50000 : Int)) && ((v.1.Amount == (320 : Int)) && ((v.1.Per == (100 : Int)) && ((v.1.HasMost == true) && ((v.1.Most == (100000 : Int)) && ((v.1.HasLeast == true) && (v.1.Least == (20000 : Int)))))))) else false) then (v2.1 == (820 : Int)) else false) then (v2.2 == (0 : Int)) else false) then (v3 == ([48, 37] : Str)) else false)

noncomputable def lawValidate (a0 : ApiDuty) (a1 : (List Int)) (a2 : Int) (a3 : Int) : Option (Bool) :=
  (madeDuty a1).bind fun v =>
    (dutyValidate a0).bind fun v2 =>
      (refDuty a0).bind fun v3 =>
        (if (!(v2 != v3)) = true then dutyValidate v else some default).bind fun v4 =>
          if (bif (v2 != v3) then true else (v4 != (0 : Int))) = true then
            some false
          else
            (within a2 (8 : Int)).bind fun v5 =>
              if (v5 == (0 : Int)) = true then
                (dutyValidate (⟨a3, v.Amount, v.Per, v.HasMost, v.Most, v.HasLeast, v.Least⟩ : ApiDuty)).bind fun v6 =>
                  (refDuty (⟨a3, v.Amount, v.Per, v.HasMost, v.Most, v.HasLeast, v.Least⟩ : ApiDuty)).bind fun v7 =>
                    (if (v6 == v7) = true then awake18  else some default).bind fun v8 =>
                      some (bif (v6 == v7) then v8 else false)
              else
                if (v5 == (1 : Int)) = true then
                  (dutyValidate (⟨v.Rate, a3, v.Per, v.HasMost, v.Most, v.HasLeast, v.Least⟩ : ApiDuty)).bind fun v9 =>
                    (refDuty (⟨v.Rate, a3, v.Per, v.HasMost, v.Most, v.HasLeast, v.Least⟩ : ApiDuty)).bind fun v10 =>
                      (if (v9 == v10) = true then awake18  else some default).bind fun v11 =>
                        some (bif (v9 == v10) then v11 else false)
                else
                  if (v5 == (2 : Int)) = true then
                    (dutyValidate (⟨v.Rate, v.Amount, a3, v.HasMost, v.Most, v.HasLeast, v.Least⟩ : ApiDuty)).bind fun v12 =>
                      (refDuty (⟨v.Rate, v.Amount, a3, v.HasMost, v.Most, v.HasLeast, v.Least⟩ : ApiDuty)).bind fun v13 =>
                        (if (v12 == v13) = true then awake18  else some default).bind fun v14 =>
                          some (bif (v12 == v13) then v14 else false)
                  else
                    if (v5 == (3 : Int)) = true then
                      (within a3 (300000 : Int)).bind fun v15 =>
                        (dutyValidate (⟨v.Rate, v.Amount, v.Per, v.HasMost, v15, v.HasLeast, v.Least⟩ : ApiDuty)).bind fun v16 =>
                          (refDuty (⟨v.Rate, v.Amount, v.Per, v.HasMost, v15, v.HasLeast, v.Least⟩ : ApiDuty)).bind fun v17 =>
                            (if (v16 == v17) = true then awake18  else some default).bind fun v18 =>
                              some (bif (v16 == v17) then v18 else false)
                    else
                      if (v5 == (4 : Int)) = true then
                        (within a3 (300000 : Int)).bind fun v19 =>
                          (dutyValidate (⟨v.Rate, v.Amount, v.Per, v.HasMost, v.Most, v.HasLeast, v19⟩ : ApiDuty)).bind fun v20 =>
                            (refDuty (⟨v.Rate, v.Amount, v.Per, v.HasMost, v.Most, v.HasLeast, v19⟩ : ApiDuty)).bind fun v21 =>
                              (if (v20 == v21) = true then awake18  else some default).bind fun v22 =>
                                some (bif (v20 == v21) then v22 else false)
                      else
                        if (v5 == (5 : Int)) = true then
                          (dutyValidate (⟨v.Rate, v.Amount, v.Per, (!v.HasMost), v.Most, v.HasLeast, v.Least⟩ : ApiDuty)).bind fun v23 =>
                            (refDuty (⟨v.Rate, v.Amount, v.Per, (!v.HasMost), v.Most, v.HasLeast, v.Least⟩ : ApiDuty)).bind fun v24 =>
                              (if (v23 == v24) = true then awake18  else some default).bind fun v25 =>
                                some (bif (v23 == v24) then v25 else false)
                        else
                          if (v5 == (6 : Int)) = true then
                            (dutyValidate (⟨v.Rate, v.Amount, v.Per, v.HasMost, v.Most, (!v.HasLeast), v.Least⟩ : ApiDuty)).bind fun v26 =>
                              (refDuty (⟨v.Rate, v.Amount, v.Per, v.HasMost, v.Most, (!v.HasLeast), v.Least⟩ : ApiDuty)).bind fun v27 =>
                                (if (v26 == v27) = true then awake18  else some default).bind fun v28 =>
                                  some (bif (v26 == v27) then v28 else false)
                          else
                            (within a3 (2 : Int)).bind fun v29 =>
                              (within (a3.fdiv (2 ^ (min (1 : Int).toNat (IntKind.i64).bits))) (2 : Int)).bind fun v30 =>
                                (dutyValidate (⟨v.Rate, v29, v30, v.HasMost, v.Most, v.HasLeast, v.Least⟩ : ApiDuty)).bind fun v31 =>
                                  (refDuty (⟨v.Rate, v29, v30, v.HasMost, v.Most, v.HasLeast, v.Least⟩ : ApiDuty)).bind fun v32 =>
                                    (if (v31 == v32) = true then awake18  else some default).bind fun v33 =>
                                      some (bif (v31 == v32) then v33 else false)

noncomputable def lawFormat (l : (List Int)) (raw : ApiDuty) : Option (Bool) :=
  (madeDuty l).bind fun v =>
    (dutyFormat v).bind fun v2 =>
      (refFormatDuty v).bind fun v3 =>
        (if (!(!(v2 == v3))) = true then dutyFormat raw else some default).bind fun v4 =>
          (if (!(!(v2 == v3))) = true then refFormatDuty raw else some default).bind fun v5 =>
            if (bif (!(v2 == v3)) then true else (!(v4 == v5))) = true then
              some false
            else
              (dutyParse v2).bind fun v6 =>
                (if (bif ((v6.1.Rate == v.Rate) && ((v6.1.Amount == v.Amount) && ((v6.1.Per == v.Per) && ((v6.1.HasMost == v.HasMost) && ((v6.1.Most == v.Most) && ((v6.1.HasLeast == v.HasLeast) && (v6.1.Least == v.Least))))))) then (v6.2 == (0 : Int)) else false) = true then awake18  else some default).bind fun v7 =>
                  some (bif (bif ((v6.1.Rate == v.Rate) && ((v6.1.Amount == v.Amount) && ((v6.1.Per == v.Per) && ((v6.1.HasMost == v.HasMost) && ((v6.1.Most == v.Most) && ((v6.1.HasLeast == v.HasLeast) && (v6.1.Least == v.Least))))))) then (v6.2 == (0 : Int)) else false) then v7 else false)

noncomputable def lawEvaluate (l : (List Int)) (raw : ApiDuty) (value : Int) (quantity : Int) (small : Bool) (rough : Bool) (which : Int) : Option (Bool) :=
  (madeDuty l).bind fun v =>
    if ((IntKind.i64.wrap ((BitVec.ofInt (IntKind.i64).bits which &&& BitVec.ofInt (IntKind.i64).bits (3 : Int)).toNat : Int)) == (1 : Int)) = true then
      if (!rough) = true then
        (amount18 value small).bind fun v2 =>
          (within quantity (1000000001 : Int)).bind fun v3 =>
            (dutyEvaluate raw v2 v3).bind fun v4 =>
              (refEvaluate raw v2 v3).bind fun v5 =>
                (if (bif (v4.1 == v5.1) then (v4.2 == v5.2) else false) = true then awake18  else some default).bind fun v6 =>
                  some (bif (bif (v4.1 == v5.1) then (v4.2 == v5.2) else false) then v6 else false)
      else
        (dutyEvaluate raw value quantity).bind fun v7 =>
          (refEvaluate raw value quantity).bind fun v8 =>
            (if (bif (v7.1 == v8.1) then (v7.2 == v8.2) else false) = true then awake18  else some default).bind fun v9 =>
              some (bif (bif (v7.1 == v8.1) then (v7.2 == v8.2) else false) then v9 else false)
    else
      if (!rough) = true then
        (amount18 value small).bind fun v10 =>
          (within quantity (1000000001 : Int)).bind fun v11 =>
            (dutyEvaluate v v10 v11).bind fun v12 =>
              (refEvaluate v v10 v11).bind fun v13 =>
                (if (bif (v12.1 == v13.1) then (v12.2 == v13.2) else false) = true then awake18  else some default).bind fun v14 =>
                  some (bif (bif (v12.1 == v13.1) then (v12.2 == v13.2) else false) then v14 else false)
      else
        (dutyEvaluate v value quantity).bind fun v15 =>
          (refEvaluate v value quantity).bind fun v16 =>
            (if (bif (v15.1 == v16.1) then (v15.2 == v16.2) else false) = true then awake18  else some default).bind fun v17 =>
              some (bif (bif (v15.1 == v16.1) then (v15.2 == v16.2) else false) then v17 else false)

noncomputable def lawMonotone (a0 : (List Int)) (a1 : Int) (a2 : Int) (a3 : Int) (a4 : Int) : Option (Bool) :=
  (madeDuty a0).bind fun v =>
    (amount18 a1 true).bind fun v2 =>
      (within a2 (100000 : Int)).bind fun v3 =>
        (dutyEvaluate v v2 v3).bind fun v4 =>
          (within a3 (1000 : Int)).bind fun v5 =>
            (dutyEvaluate v (IntKind.i64.wrap (v2 + v5)) v3).bind fun v6 =>
              (within a4 (1000 : Int)).bind fun v7 =>
                (dutyEvaluate v v2 (IntKind.i64.wrap (v3 + v7))).bind fun v8 =>
                  (if (bif (bif (bif (bif (v4.2 == (0 : Int)) then (v6.2 == (0 : Int)) else false) then (v8.2 == (0 : Int)) else false) then (decide (v4.1 ≤ v6.1)) else false) then (decide (v4.1 ≤ v8.1)) else false) = true then awake18  else some default).bind fun v9 =>
                    some (bif (bif (bif (bif (bif (v4.2 == (0 : Int)) then (v6.2 == (0 : Int)) else false) then (v8.2 == (0 : Int)) else false) then (decide (v4.1 ≤ v6.1)) else false) then (decide (v4.1 ≤ v8.1)) else false) then v9 else false)

noncomputable def lawBounds (a0 : (List Int)) (a1 : Int) (a2 : Int) (a3 : Int) : Option (Bool) :=
  (madeDuty a0).bind fun v =>
    (amount18 a1 true).bind fun v2 =>
      (within a2 (100000 : Int)).bind fun v3 =>
        (dutyEvaluate v v2 v3).bind fun v4 =>
          if (bif (bif (v4.2 != (0 : Int)) then true else (bif v.HasMost then (decide ((IntKind.i64.wrap ((IntKind.i64.wrap ((IntKind.i64.wrap ((2 : Int) * v.Most)) * v2)) + (1000000 : Int))) < (IntKind.i64.wrap ((IntKind.i64.wrap ((2 : Int) * v4.1)) * (1000000 : Int))))) else false)) then true else (bif v.HasLeast then (decide ((IntKind.i64.wrap ((IntKind.i64.wrap ((2 : Int) * v4.1)) * (1000000 : Int))) < (IntKind.i64.wrap ((IntKind.i64.wrap ((IntKind.i64.wrap ((2 : Int) * v.Least)) * v2)) - (1000000 : Int))))) else false)) = true then
            some false
          else
            (within a3 (100000 : Int)).bind fun v5 =>
              (dutyEvaluate v v2 v5).bind fun v6 =>
                (if (bif (decide ((0 : Int) < v.Amount)) then true else (bif (v4.1 == v6.1) then (v6.2 == (0 : Int)) else false)) = true then awake18  else some default).bind fun v7 =>
                  some (bif (bif (decide ((0 : Int) < v.Amount)) then true else (bif (v4.1 == v6.1) then (v6.2 == (0 : Int)) else false)) then v7 else false)

noncomputable def lawSplit (a0 : (List Int)) (a1 : Int) (a2 : Int) (a3 : Int) (a4 : Int) : Option (Bool) :=
  (madeDuty a0).bind fun v =>
    (amount18 a1 true).bind fun v2 =>
      (amount18 a2 true).bind fun v3 =>
        (within a3 (1000 : Int)).bind fun v4 =>
          (within a4 (1000 : Int)).bind fun v5 =>
            (dutyEvaluate (⟨v.Rate, v.Amount, v.Per, false, (0 : Int), false, (0 : Int)⟩ : ApiDuty) v2 v4).bind fun v6 =>
              (dutyEvaluate (⟨v.Rate, v.Amount, v.Per, false, (0 : Int), false, (0 : Int)⟩ : ApiDuty) v3 v5).bind fun v7 =>
                (dutyEvaluate (⟨v.Rate, v.Amount, v.Per, false, (0 : Int), false, (0 : Int)⟩ : ApiDuty) (IntKind.i64.wrap (v2 + v3)) (IntKind.i64.wrap (v4 + v5))).bind fun v8 =>
                  (if (bif (bif (bif (bif (v6.2 == (0 : Int)) then (v7.2 == (0 : Int)) else false) then (v8.2 == (0 : Int)) else false) then (decide ((IntKind.i64.wrap ((IntKind.i64.wrap (v6.1 + v7.1)) - v8.1)) ≤ (1 : Int))) else false) then (decide ((IntKind.i64.wrap ((IntKind.i64.wrap (v8.1 - v6.1)) - v7.1)) ≤ (1 : Int))) else false) = true then awake18  else some default).bind fun v9 =>
                    some (bif (bif (bif (bif (bif (v6.2 == (0 : Int)) then (v7.2 == (0 : Int)) else false) then (v8.2 == (0 : Int)) else false) then (decide ((IntKind.i64.wrap ((IntKind.i64.wrap (v6.1 + v7.1)) - v8.1)) ≤ (1 : Int))) else false) then (decide ((IntKind.i64.wrap ((IntKind.i64.wrap (v8.1 - v6.1)) - v7.1)) ≤ (1 : Int))) else false) then v9 else false)

end Go.C
