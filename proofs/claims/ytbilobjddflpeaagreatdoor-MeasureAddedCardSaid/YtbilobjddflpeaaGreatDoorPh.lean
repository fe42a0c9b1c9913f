/- Plain functions, read off the program by program (gen.py): no program in sight. -/
import Derived.Test.YtbilobjddflpeaaGreatDoorPl
import Derived.Test.YtbilobjddflpeaaGreatDoorPa
import Derived.Test.YtbilobjddflpeaaGreatDoorPb
import Derived.Test.YtbilobjddflpeaaGreatDoorPc
import Derived.Test.YtbilobjddflpeaaGreatDoorPd
import Derived.Test.YtbilobjddflpeaaGreatDoorPe
import Derived.Test.YtbilobjddflpeaaGreatDoorPf
set_option linter.unusedVariables false
namespace Go.C
open Go.V

noncomputable def lawValidate (raw : (List ApiMeasure)) (l : (List Int)) : Option (Bool) :=
  (few19 raw).bind fun v =>
    (meValidate v).bind fun v2 =>
      (refMeasures v).bind fun v3 =>
        (if (v2 == v3) = true then madeMeasures l else some default).bind fun v4 =>
          (if (v2 == v3) = true then meValidate v4 else some default).bind fun v5 =>
            (if (bif (v2 == v3) then (v5 == (0 : Int)) else false) = true then awake19  else some default).bind fun v6 =>
              some (bif (bif (v2 == v3) then (v5 == (0 : Int)) else false) then v6 else false)

noncomputable def lawChanged_j1 (m12 : (List ApiMeasure)) : Option (Bool) :=
  (meValidate m12).bind fun v4 =>
    (refMeasures m12).bind fun v5 =>
      (if (v4 == v5) = true then awake19  else some default).bind fun v6 =>
        some (bif (v4 == v5) then v6 else false)
noncomputable def lawChanged (l : (List Int)) (raw : ApiMeasure) (at_ : Int) (which : Int) (n1 : Int) : Option (Bool) :=
  (madeMeasuresR l).bind fun v =>
    if (v.length + [(⟨(100 : Int), (1 : Int), ([57, 52] : Str), [], 0, 0, (5 : Int), (-1 : Int), (⟨0, 0, 0, false, 0, false, 0⟩ : ApiDuty)⟩ : ApiMeasure)].length ≤ 137438953472) then
      (some (v ++ [(⟨(100 : Int), (1 : Int), ([57, 52] : Str), [], 0, 0, (5 : Int), (-1 : Int), (⟨0, 0, 0, false, 0, false, 0⟩ : ApiDuty)⟩ : ApiMeasure)])).bind fun m1 =>
        (within at_ (m1.length : Int)).bind fun v2 =>
          (within which (10 : Int)).bind fun v3 =>
            if (v3 == (0 : Int)) = true then
              (within n1 (120 : Int)).bind fun v7 =>
                if (0 ≤ v2 ∧ v2 < (m1.length : Int)) then
                  (some (m1.set v2.toNat (⟨(IntKind.i64.wrap (v7 - (1 : Int))), (m1.getD v2.toNat default).Kind, (m1.getD v2.toNat default).Prefix, (m1.getD v2.toNat default).Origins, (m1.getD v2.toNat default).Company, (m1.getD v2.toNat default).From, (m1.getD v2.toNat default).To, (m1.getD v2.toNat default).Registered, ((m1.getD v2.toNat default).Duty)⟩ : ApiMeasure))).bind fun m13 =>
                    lawChanged_j1 m13
                else none
            else
              if (v3 == (1 : Int)) = true then
                (within n1 (9 : Int)).bind fun v8 =>
                  if (0 ≤ v2 ∧ v2 < (m1.length : Int)) then
                    (some (m1.set v2.toNat (⟨(m1.getD v2.toNat default).ID, (IntKind.i64.wrap (v8 - (1 : Int))), (m1.getD v2.toNat default).Prefix, (m1.getD v2.toNat default).Origins, (m1.getD v2.toNat default).Company, (m1.getD v2.toNat default).From, (m1.getD v2.toNat default).To, (m1.getD v2.toNat default).Registered, ((m1.getD v2.toNat default).Duty)⟩ : ApiMeasure))).bind fun m14 =>
                      lawChanged_j1 m14
                  else none
              else
                if (v3 == (2 : Int)) = true then
                  if (0 ≤ v2 ∧ v2 < (m1.length : Int)) then
                    (some (m1.set v2.toNat (⟨(m1.getD v2.toNat default).ID, (m1.getD v2.toNat default).Kind, raw.Prefix, (m1.getD v2.toNat default).Origins, (m1.getD v2.toNat default).Company, (m1.getD v2.toNat default).From, (m1.getD v2.toNat default).To, (m1.getD v2.toNat default).Registered, ((m1.getD v2.toNat default).Duty)⟩ : ApiMeasure))).bind fun m15 =>
                      lawChanged_j1 m15
                  else none
                else
                  if (v3 == (3 : Int)) = true then
                    if (0 ≤ (0 : Int) ∧ (0 : Int) ≤ (if (22 : Int) < (raw.Origins.length : Int) then (22 : Int) else (raw.Origins.length : Int)) ∧ (if (22 : Int) < (raw.Origins.length : Int) then (22 : Int) else (raw.Origins.length : Int)) ≤ (raw.Origins.length : Int)) then
                      if (0 ≤ v2 ∧ v2 < (m1.length : Int)) then
                        (some (m1.set v2.toNat (⟨(m1.getD v2.toNat default).ID, (m1.getD v2.toNat default).Kind, (m1.getD v2.toNat default).Prefix, ((raw.Origins.take (if (22 : Int) < (raw.Origins.length : Int) then (22 : Int) else (raw.Origins.length : Int)).toNat).drop (0 : Int).toNat), (m1.getD v2.toNat default).Company, (m1.getD v2.toNat default).From, (m1.getD v2.toNat default).To, (m1.getD v2.toNat default).Registered, ((m1.getD v2.toNat default).Duty)⟩ : ApiMeasure))).bind fun m16 =>
                          lawChanged_j1 m16
                      else none
                    else none
                  else
                    if (v3 == (4 : Int)) = true then
                      if (0 ≤ v2 ∧ v2 < (m1.length : Int)) then
                        (some (m1.set v2.toNat (⟨(m1.getD v2.toNat default).ID, (m1.getD v2.toNat default).Kind, (m1.getD v2.toNat default).Prefix, (m1.getD v2.toNat default).Origins, n1, (m1.getD v2.toNat default).From, (m1.getD v2.toNat default).To, (m1.getD v2.toNat default).Registered, ((m1.getD v2.toNat default).Duty)⟩ : ApiMeasure))).bind fun m17 =>
                          lawChanged_j1 m17
                      else none
                    else
                      if (v3 == (5 : Int)) = true then
                        (within n1 (60 : Int)).bind fun v9 =>
                          if (0 ≤ v2 ∧ v2 < (m1.length : Int)) then
                            (some (m1.set v2.toNat (⟨(m1.getD v2.toNat default).ID, (m1.getD v2.toNat default).Kind, (m1.getD v2.toNat default).Prefix, (m1.getD v2.toNat default).Origins, (m1.getD v2.toNat default).Company, (IntKind.i64.wrap (v9 - (1 : Int))), (m1.getD v2.toNat default).To, (m1.getD v2.toNat default).Registered, ((m1.getD v2.toNat default).Duty)⟩ : ApiMeasure))).bind fun m18 =>
                              lawChanged_j1 m18
                          else none
                      else
                        if (v3 == (6 : Int)) = true then
                          if (0 ≤ v2 ∧ v2 < (m1.length : Int)) then
                            (some (m1.set v2.toNat (⟨(m1.getD v2.toNat default).ID, (m1.getD v2.toNat default).Kind, (m1.getD v2.toNat default).Prefix, (m1.getD v2.toNat default).Origins, (m1.getD v2.toNat default).Company, (m1.getD v2.toNat default).From, n1, (m1.getD v2.toNat default).Registered, ((m1.getD v2.toNat default).Duty)⟩ : ApiMeasure))).bind fun m19 =>
                              lawChanged_j1 m19
                          else none
                        else
                          if (v3 == (7 : Int)) = true then
                            (within n1 (60 : Int)).bind fun v10 =>
                              if (0 ≤ v2 ∧ v2 < (m1.length : Int)) then
                                (some (m1.set v2.toNat (⟨(m1.getD v2.toNat default).ID, (m1.getD v2.toNat default).Kind, (m1.getD v2.toNat default).Prefix, (m1.getD v2.toNat default).Origins, (m1.getD v2.toNat default).Company, (m1.getD v2.toNat default).From, (m1.getD v2.toNat default).To, (IntKind.i64.wrap (v10 - (3 : Int))), ((m1.getD v2.toNat default).Duty)⟩ : ApiMeasure))).bind fun m110 =>
                                  lawChanged_j1 m110
                              else none
                          else
                            if (v3 == (8 : Int)) = true then
                              if (0 ≤ v2 ∧ v2 < (m1.length : Int)) then
                                (some (m1.set v2.toNat (⟨(m1.getD v2.toNat default).ID, (m1.getD v2.toNat default).Kind, (m1.getD v2.toNat default).Prefix, (m1.getD v2.toNat default).Origins, (m1.getD v2.toNat default).Company, (m1.getD v2.toNat default).From, (m1.getD v2.toNat default).To, (m1.getD v2.toNat default).Registered, raw.Duty⟩ : ApiMeasure))).bind fun m111 =>
                                  lawChanged_j1 m111
                              else none
                            else
                              if (0 ≤ (0 : Int) ∧ (0 : Int) ≤ v2 ∧ v2 ≤ (m1.length : Int)) then
                                if (0 + ((m1.take v2.toNat).drop (0 : Int).toNat).length ≤ 137438953472) then
                                  (some ((m1.take v2.toNat).drop (0 : Int).toNat)).bind fun m112 =>
                                    if (0 ≤ v2) then
                                      (m1[v2.toNat]?).bind fun x =>
                                        if (m112.length + [x].length ≤ 137438953472) then
                                          if (0 ≤ v2 ∧ v2 ≤ (m1.length : Int)) then
                                            if ((m112 ++ [x]).length + (m1.drop v2.toNat).length ≤ 137438953472) then
                                              lawChanged_j1 ((m112 ++ [x]) ++ (m1.drop v2.toNat))
                                            else none
                                          else none
                                        else none
                                    else none
                                else none
                              else none
    else none

end Go.C
