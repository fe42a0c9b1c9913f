/- Plain functions, read off the program by program (gen.py): no program in sight. -/
import Derived.Test.YtbilobjddflpeaaGreatDoorPl
import Derived.Test.YtbilobjddflpeaaGreatDoorPa
import Derived.Test.YtbilobjddflpeaaGreatDoorPb
import Derived.Test.YtbilobjddflpeaaGreatDoorPc
import Derived.Test.YtbilobjddflpeaaGreatDoorPd
set_option linter.unusedVariables false
namespace Go.C
open Go.V

noncomputable def parseNumID (apiMeasure : ApiMeasure) (s : Str) : Option (Bool × ApiMeasure) :=
  (atoiS s).bind fun v =>
    some (v.2, (⟨v.1, apiMeasure.Kind, apiMeasure.Prefix, apiMeasure.Origins, apiMeasure.Company, apiMeasure.From, apiMeasure.To, apiMeasure.Registered, apiMeasure.Duty⟩ : ApiMeasure))

noncomputable def parseNumKind (apiMeasure : ApiMeasure) (s : Str) : Option (Bool × ApiMeasure) :=
  (atoiS s).bind fun v =>
    some (v.2, (⟨apiMeasure.ID, v.1, apiMeasure.Prefix, apiMeasure.Origins, apiMeasure.Company, apiMeasure.From, apiMeasure.To, apiMeasure.Registered, apiMeasure.Duty⟩ : ApiMeasure))

noncomputable def parseNumCompany (apiMeasure : ApiMeasure) (s : Str) : Option (Bool × ApiMeasure) :=
  (atoiS s).bind fun v =>
    some (v.2, (⟨apiMeasure.ID, apiMeasure.Kind, apiMeasure.Prefix, apiMeasure.Origins, v.1, apiMeasure.From, apiMeasure.To, apiMeasure.Registered, apiMeasure.Duty⟩ : ApiMeasure))

noncomputable def parseNumFrom (apiMeasure : ApiMeasure) (s : Str) : Option (Bool × ApiMeasure) :=
  (atoiS s).bind fun v =>
    some (v.2, (⟨apiMeasure.ID, apiMeasure.Kind, apiMeasure.Prefix, apiMeasure.Origins, apiMeasure.Company, v.1, apiMeasure.To, apiMeasure.Registered, apiMeasure.Duty⟩ : ApiMeasure))

noncomputable def parseNumTo (apiMeasure : ApiMeasure) (s : Str) : Option (Bool × ApiMeasure) :=
  (atoiS s).bind fun v =>
    some (v.2, (⟨apiMeasure.ID, apiMeasure.Kind, apiMeasure.Prefix, apiMeasure.Origins, apiMeasure.Company, apiMeasure.From, v.1, apiMeasure.Registered, apiMeasure.Duty⟩ : ApiMeasure))

noncomputable def parseNumRegistered (apiMeasure : ApiMeasure) (s : Str) : Option (Bool × ApiMeasure) :=
  (atoiS s).bind fun v =>
    some (v.2, (⟨apiMeasure.ID, apiMeasure.Kind, apiMeasure.Prefix, apiMeasure.Origins, apiMeasure.Company, apiMeasure.From, apiMeasure.To, v.1, apiMeasure.Duty⟩ : ApiMeasure))

noncomputable def formatMeasure_j2 (m1 : ApiMeasure) (origins : Str) (registered : Str) : Option (Str) :=
  (itoa m1.ID).bind fun v =>
    (itoa m1.Kind).bind fun v2 =>
      (itoa m1.Company).bind fun v3 =>
        (itoa m1.From).bind fun v4 =>
          (itoa m1.To).bind fun v5 =>
            (dutyFormat m1.Duty).bind fun v6 =>
              (joinS [v, v2, m1.Prefix, origins, v3, v4, v5, registered, v6] ([32] : Str)).bind fun v7 =>
                some v7
noncomputable def formatMeasure_j1 (m1 : ApiMeasure) (origins : Str) : Option (Str) :=
  if (m1.Registered != (-1 : Int)) = true then
    (itoa m1.Registered).bind fun v8 =>
      formatMeasure_j2 m1 origins v8
  else
    formatMeasure_j2 m1 origins ([45] : Str)
noncomputable def formatMeasure (m1 : ApiMeasure) : Option (Str) :=
  if (decide ((0 : Int) < (m1.Origins.length : Int))) = true then
    (joinS m1.Origins ([44] : Str)).bind fun v9 =>
      formatMeasure_j1 m1 v9
  else
    formatMeasure_j1 m1 ([42] : Str)

noncomputable def parseMeasure_j2 (line : Str) (v : (List Str)) (ok : Bool) (c5_0 : Int) (c5_1 : Int) (c5_2 : Str) (c5_32 : (List Str)) (c5_4 : Int) (c5_5 : Int) (c5_6 : Int) (c5_7 : Int) (c5_8 : Int) (c5_9 : Int) (c5_10 : Int) (c5_11 : Bool) (c5_12 : Int) (c5_13 : Bool) (c5_14 : Int) : Option (ApiMeasure × Bool) :=
  (v[8]?).bind fun x9 =>
    (dutyParse x9).bind fun v7 =>
      (if (!(bif (!ok) then true else (v7.2 != (0 : Int)))) = true then meValidate [(⟨c5_0, c5_1, c5_2, c5_32, c5_4, c5_5, c5_6, c5_7, v7.1⟩ : ApiMeasure)] else some default).bind fun v8 =>
        (if (!(bif (bif (!ok) then true else (v7.2 != (0 : Int))) then true else (v8 != (0 : Int)))) = true then formatMeasure (⟨c5_0, c5_1, c5_2, c5_32, c5_4, c5_5, c5_6, c5_7, v7.1⟩ : ApiMeasure) else some default).bind fun v9 =>
          if (bif (bif (bif (!ok) then true else (v7.2 != (0 : Int))) then true else (v8 != (0 : Int))) then true else (!(v9 == line))) = true then
            some ((⟨0, 0, [], [], 0, 0, 0, 0, (⟨0, 0, 0, false, 0, false, 0⟩ : ApiDuty)⟩ : ApiMeasure), false)
          else
            some ((⟨c5_0, c5_1, c5_2, c5_32, c5_4, c5_5, c5_6, c5_7, v7.1⟩ : ApiMeasure), true)
noncomputable def parseMeasure_j1 (line : Str) (v : (List Str)) (x : Str) (c5_3 : (List Str)) : Option (ApiMeasure × Bool) :=
  (v[0]?).bind fun x3 =>
    (parseNumID (⟨0, 0, x, c5_3, 0, 0, 0, (-1 : Int), (⟨0, 0, 0, false, 0, false, 0⟩ : ApiDuty)⟩ : ApiMeasure) x3).bind fun v2 =>
      (v[1]?).bind fun x4 =>
        (parseNumKind v2.2 x4).bind fun v3 =>
          (v[4]?).bind fun x5 =>
            (parseNumCompany v3.2 x5).bind fun v4 =>
              (v[5]?).bind fun x6 =>
                (parseNumFrom v4.2 x6).bind fun v5 =>
                  (v[6]?).bind fun x7 =>
                    (parseNumTo v5.2 x7).bind fun v6 =>
                      (v[7]?).bind fun x8 =>
                        if (!(x8 == ([45] : Str))) = true then
                          (v[7]?).bind fun x10 =>
                            (parseNumRegistered v6.2 x10).bind fun v10 =>
                              parseMeasure_j2 line v (bif v10.1 then (bif v6.1 then (bif v5.1 then (bif v4.1 then (bif v3.1 then v2.1 else false) else false) else false) else false) else false) v10.2.ID v10.2.Kind v10.2.Prefix v10.2.Origins v10.2.Company v10.2.From v10.2.To v10.2.Registered v10.2.Duty.Rate v10.2.Duty.Amount v10.2.Duty.Per v10.2.Duty.HasMost v10.2.Duty.Most v10.2.Duty.HasLeast v10.2.Duty.Least
                        else
                          parseMeasure_j2 line v (bif v6.1 then (bif v5.1 then (bif v4.1 then (bif v3.1 then v2.1 else false) else false) else false) else false) v6.2.ID v6.2.Kind v6.2.Prefix v6.2.Origins v6.2.Company v6.2.From v6.2.To v6.2.Registered v6.2.Duty.Rate v6.2.Duty.Amount v6.2.Duty.Per v6.2.Duty.HasMost v6.2.Duty.Most v6.2.Duty.HasLeast v6.2.Duty.Least
noncomputable def parseMeasure (line : Str) : Option (ApiMeasure × Bool) :=
  (splitNS line ([32] : Str) (9 : Int)).bind fun v =>
    if ((v.length : Int) != (9 : Int)) = true then
      some ((⟨0, 0, [], [], 0, 0, 0, 0, (⟨0, 0, 0, false, 0, false, 0⟩ : ApiDuty)⟩ : ApiMeasure), false)
    else
      (v[2]?).bind fun x =>
        (v[3]?).bind fun x2 =>
          if (!(x2 == ([42] : Str))) = true then
            (v[3]?).bind fun x11 =>
              (splitS x11 ([44] : Str)).bind fun v11 =>
                parseMeasure_j1 line v x v11
          else
            parseMeasure_j1 line v x []

noncomputable def meParse_j1 (v : (List Str)) (l : (List ApiMeasure)) : Option ((List ApiMeasure) × Int × Int) :=
  if (0 ≤ (IntKind.i64.wrap ((v.length : Int) - (1 : Int)))) then
    (v[(IntKind.i64.wrap ((v.length : Int) - (1 : Int))).toNat]?).bind fun x =>
      if (!(x == ([] : Str))) = true then
        some ([], (IntKind.i64.wrap ((v.length : Int) - (1 : Int))), (4 : Int))
      else
        (meValidate l).bind fun v2 =>
          if (v2 != (0 : Int)) = true then
            some ([], (0 : Int), v2)
          else
            some (l, (IntKind.i64.wrap ((v.length : Int) - (1 : Int))), (0 : Int))
  else none
noncomputable def meParse_b1 (v : (List Str)) : (Int × (List ApiMeasure)) → Option ((Int × (List ApiMeasure)) ⊕ (((List ApiMeasure) × Int × Int) ⊕ ((List ApiMeasure))))
  | (t232, l2) =>
    if (decide (t232 < (((v.take (IntKind.i64.wrap ((v.length : Int) - (1 : Int))).toNat).drop (0 : Int).toNat).length : Int))) = true then
      if (0 ≤ t232) then
        (((v.take (IntKind.i64.wrap ((v.length : Int) - (1 : Int))).toNat).drop (0 : Int).toNat)[t232.toNat]?).bind fun x4 =>
          (parseMeasure x4).bind fun v5 =>
            if (!v5.2) = true then
              some (.inr (.inl ([], t232, (4 : Int))))
            else
              if (l2.length + [v5.1].length ≤ 137438953472) then
                some (.inl ((IntKind.i64.wrap (t232 + (1 : Int))), (l2 ++ [v5.1])))
              else none
      else none
    else
      some (.inr (.inr l2))
noncomputable def meParse (s : Str) : Option ((List ApiMeasure) × Int × Int) :=
  (splitS s ([10] : Str)).bind fun v =>
    if (0 ≤ (0 : Int) ∧ (0 : Int) ≤ (IntKind.i64.wrap ((v.length : Int) - (1 : Int))) ∧ (IntKind.i64.wrap ((v.length : Int) - (1 : Int))) ≤ (IntKind.i64.wrap ((v.length : Int) - (1 : Int))) ∧ (IntKind.i64.wrap ((v.length : Int) - (1 : Int))) ≤ (v.length : Int)) then
      (loopO (meParse_b1 v) ((0 : Int), [])).bind fun e => match e with
        | (.inl rv) =>
          some rv
        | (.inr l3) =>
          meParse_j1 v l3
    else none

end Go.C
