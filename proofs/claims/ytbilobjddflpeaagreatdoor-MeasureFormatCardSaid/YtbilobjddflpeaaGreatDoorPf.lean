/- Plain functions, read off the program by program (gen.py): no program in sight. -/
import Derived.Test.YtbilobjddflpeaaGreatDoorPl
import Derived.Test.YtbilobjddflpeaaGreatDoorPa
import Derived.Test.YtbilobjddflpeaaGreatDoorPb
import Derived.Test.YtbilobjddflpeaaGreatDoorPc
import Derived.Test.YtbilobjddflpeaaGreatDoorPd
import Derived.Test.YtbilobjddflpeaaGreatDoorPe
set_option linter.unusedVariables false
namespace Go.C
open Go.V

noncomputable def sIndex_j1  : Option (Int) :=
  some (-1 : Int)
noncomputable def sIndex_b1 (s : (List Str)) (v : Str) : (Int) → Option ((Int) ⊕ ((Int) ⊕ (Unit)))
  | t8 =>
    if (decide (t8 < (s.length : Int))) = true then
      if (0 ≤ t8) then
        (s[t8.toNat]?).bind fun x2 =>
          if (v == x2) = true then
            some (.inr (.inl t8))
          else
            some (.inl (IntKind.i64.wrap (t8 + (1 : Int))))
      else none
    else
      some (.inr (.inr ()))
noncomputable def sIndex (s : (List Str)) (v : Str) : Option (Int) :=
  (loopO (sIndex_b1 s v) (0 : Int)).bind fun e => match e with
    | (.inl rv) =>
      some rv
    | (.inr ()) =>
      sIndex_j1

noncomputable def sContains (s : (List Str)) (v : Str) : Option (Bool) :=
  (sIndex s v).bind fun v2 =>
    some (decide ((0 : Int) ≤ v2))

noncomputable def meInForce (m1 : ApiMeasure) (day : Int) : Option (Bool) :=
  some (bif (bif (decide (m1.From ≤ day)) then (decide (day < m1.To)) else false) then true else (bif (bif (m1.Registered != (-1 : Int)) then (decide (m1.Registered ≤ day)) else false) then (decide (day < m1.From)) else false))

noncomputable def meCovers (m1 : ApiMeasure) (code : Str) (origin : Str) (company : Int) (day : Int) : Option (Bool) :=
  (meInForce m1 day).bind fun v =>
    (if v = true then hasPrefixS code m1.Prefix else some default).bind fun v2 =>
      (if ((bif v then v2 else false) && (!((m1.Origins.length : Int) == (0 : Int)))) = true then sContains m1.Origins origin else some default).bind fun v3 =>
        some (bif (bif (bif v then v2 else false) then (bif ((m1.Origins.length : Int) == (0 : Int)) then true else v3) else false) then (bif (m1.Company == (0 : Int)) then true else (m1.Company == company)) else false)

noncomputable def mePrecedes (x : ApiMeasure) (y : ApiMeasure) : Option (Bool) :=
  if ((x.Prefix.length : Int) != (y.Prefix.length : Int)) = true then
    some (decide ((y.Prefix.length : Int) < (x.Prefix.length : Int)))
  else
    if (!((x.Company != (0 : Int)) == (y.Company != (0 : Int)))) = true then
      some (x.Company != (0 : Int))
    else
      if ((x.Origins.length : Int) != (y.Origins.length : Int)) = true then
        some (bif ((y.Origins.length : Int) == (0 : Int)) then true else (bif ((x.Origins.length : Int) != (0 : Int)) then (decide ((x.Origins.length : Int) < (y.Origins.length : Int))) else false))
      else
        some (decide (y.ID < x.ID))

noncomputable def meApplicable_j1 (result : (List ApiMeasure)) : Option ((List ApiMeasure)) :=
  some result
noncomputable def meApplicable_j2 (l : (List ApiMeasure)) (code : Str) (origin : Str) (company : Int) (day : Int) (kind2 : Int) (result12 : (List ApiMeasure)) : Option ((Int × (List ApiMeasure)) ⊕ ((List ApiMeasure))) :=
  some (.inl ((IntKind.i64.wrap (kind2 + (1 : Int))), result12))
noncomputable def meApplicable_j3 (l : (List ApiMeasure)) (code : Str) (origin : Str) (company : Int) (day : Int) (kind2 : Int) (best13 : Int) (result13 : (List ApiMeasure)) : Option ((Int × (List ApiMeasure)) ⊕ ((List ApiMeasure))) :=
  if (decide ((0 : Int) ≤ best13)) = true then
    if (0 ≤ best13) then
      (l[best13.toNat]?).bind fun x7 =>
        (cloneS x7.Origins).bind fun v11 =>
          if (result13.length + [(⟨x7.ID, x7.Kind, x7.Prefix, v11, x7.Company, x7.From, x7.To, x7.Registered, x7.Duty⟩ : ApiMeasure)].length ≤ 137438953472) then
            meApplicable_j2 l code origin company day kind2 (result13 ++ [(⟨x7.ID, x7.Kind, x7.Prefix, v11, x7.Company, x7.From, x7.To, x7.Registered, x7.Duty⟩ : ApiMeasure)])
          else none
    else none
  else
    meApplicable_j2 l code origin company day kind2 result13
noncomputable def meApplicable_j4 (l : (List ApiMeasure)) (code : Str) (origin : Str) (company : Int) (day : Int) (kind2 : Int) (t235 : Int) (best18 : Int) (result18 : (List ApiMeasure)) : Option ((Int × Int × (List ApiMeasure)) ⊕ (Int × (List ApiMeasure))) :=
  some (.inl ((IntKind.i64.wrap (t235 + (1 : Int))), best18, result18))
noncomputable def meApplicable_b2 (l : (List ApiMeasure)) (code : Str) (origin : Str) (company : Int) (day : Int) (kind2 : Int) : (Int × Int × (List ApiMeasure)) → Option ((Int × Int × (List ApiMeasure)) ⊕ (Int × (List ApiMeasure)))
  | (t235, best14, result14) =>
    if (decide (t235 < (l.length : Int))) = true then
      if (0 ≤ t235) then
        (l[t235.toNat]?).bind fun x9 =>
          (if (x9.Kind == kind2) = true then meCovers x9 code origin company day else some default).bind fun v14 =>
            if (((bif (x9.Kind == kind2) then v14 else false) && (!(decide (best14 < (0 : Int))))) = true → (0 ≤ best14 ∧ best14 < (l.length : Int))) then
              (if ((bif (x9.Kind == kind2) then v14 else false) && (!(decide (best14 < (0 : Int))))) = true then mePrecedes x9 (⟨(l.getD best14.toNat default).ID, (l.getD best14.toNat default).Kind, (l.getD best14.toNat default).Prefix, (l.getD best14.toNat default).Origins, (l.getD best14.toNat default).Company, (l.getD best14.toNat default).From, (l.getD best14.toNat default).To, (l.getD best14.toNat default).Registered, ((l.getD best14.toNat default).Duty)⟩ : ApiMeasure) else some default).bind fun v15 =>
                if (bif (bif (x9.Kind == kind2) then v14 else false) then (bif (decide (best14 < (0 : Int))) then true else v15) else false) = true then
                  meApplicable_j4 l code origin company day kind2 t235 t235 result14
                else
                  meApplicable_j4 l code origin company day kind2 t235 best14 result14
            else none
      else none
    else
      some (.inr (best14, result14))
noncomputable def meApplicable_b1 (l : (List ApiMeasure)) (code : Str) (origin : Str) (company : Int) (day : Int) : (Int × (List ApiMeasure)) → Option ((Int × (List ApiMeasure)) ⊕ ((List ApiMeasure)))
  | (kind2, result3) =>
    if (decide (kind2 ≤ (6 : Int))) = true then
      (loopO (meApplicable_b2 l code origin company day kind2) ((0 : Int), (-1 : Int), result3)).bind fun e => match e with
        | (best17, result17) =>
          meApplicable_j3 l code origin company day kind2 best17 result17
    else
      some (.inr result3)
noncomputable def meApplicable (l : (List ApiMeasure)) (code : Str) (origin : Str) (company : Int) (day : Int) : Option ((List ApiMeasure)) :=
  (loopO (meApplicable_b1 l code origin company day) ((1 : Int), [])).bind fun e => match e with
    | result11 =>
      meApplicable_j1 result11

noncomputable def awake19  : Option (Bool) :=
  (meParse ([49, 32, 49, 32, 57, 52, 32, 42, 32, 48, 32, 48, 32, 49, 48, 48, 32, 45, 32, 53, 37, 10, 50, 32, 49, 32, 57, 52, 48, 49, 32, 65, 65, 32, 48, 32, 49, 48, 32, 49, 48, 48, 32, 52, 32, 51, 37, 10] : Str)).bind fun v =>
    (meApplicable v.1 ([57, 52, 48, 49, 51, 48, 48, 48] : Str) ([65, 65] : Str) (0 : Int) (12 : Int)).bind fun v2 =>
      (meApplicable v.1 ([57, 52, 48, 49, 51, 48, 48, 48] : Str) ([65, 65] : Str) (0 : Int) (3 : Int)).bind fun v3 =>
        (meApplicable v.1 ([57, 52, 48, 49, 51, 48, 48, 48] : Str) ([65, 65] : Str) (0 : Int) (4 : Int)).bind fun v4 =>
          if ((bif (bif (v.2.2 == (0 : Int)) then (v.2.1 == (2 : Int)) else false) then ((v2.length : Int) == (1 : Int)) else false) = true → (0 ≤ (0 : Int) ∧ (0 : Int) < (v2.length : Int))) then
            if ((bif (bif (bif (bif (v.2.2 == (0 : Int)) then (v.2.1 == (2 : Int)) else false) then ((v2.length : Int) == (1 : Int)) else false) then (((v2.getD 0 default).ID) == (2 : Int)) else false) then ((v3.length : Int) == (1 : Int)) else false) = true → (0 ≤ (0 : Int) ∧ (0 : Int) < (v3.length : Int))) then
              if ((bif (bif (bif (bif (bif (bif (v.2.2 == (0 : Int)) then (v.2.1 == (2 : Int)) else false) then ((v2.length : Int) == (1 : Int)) else false) then (((v2.getD 0 default).ID) == (2 : Int)) else false) then ((v3.length : Int) == (1 : Int)) else false) then (((v3.getD 0 default).ID) == (1 : Int)) else false) then ((v4.length : Int) == (1 : Int)) else false) = true → (0 ≤ (0 : Int) ∧ (0 : Int) < (v4.length : Int))) then
                some (bif (bif (bif (bif (bif (bif (bif (v.2.2 == (0 : Int)) then (v.2.1 == (2 : Int)) else false) then ((v2.length : Int) == (1 : Int)) else false) then (((v2.getD 0 default).ID) == (2 : Int)) else false) then ((v3.length : Int) == (1 : Int)) else false) then (((v3.getD 0 default).ID) == (1 : Int)) else false) then ((v4.length : Int) == (1 : Int)) else false) then (((v4.getD 0 default).ID) == (2 : Int)) else false)
              else none
            else none
          else none

end Go.C
