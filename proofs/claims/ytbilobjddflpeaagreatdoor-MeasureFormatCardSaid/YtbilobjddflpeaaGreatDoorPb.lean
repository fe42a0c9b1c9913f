/- Plain functions, read off the program by program (gen.py): no program in sight. -/
import Derived.Test.YtbilobjddflpeaaGreatDoorPl
import Derived.Test.YtbilobjddflpeaaGreatDoorPa
set_option linter.unusedVariables false
namespace Go.C
open Go.V

noncomputable def dutyValidate (d : ApiDuty) : Option (Int) :=
  if (bif (bif (bif (decide (d.Rate < (0 : Int))) then true else (decide ((10000000 : Int) < d.Rate))) then true else (decide (d.Amount < (0 : Int)))) then true else (decide ((100000000 : Int) < d.Amount))) = true then
    some (2 : Int)
  else
    if (bif (bif (decide ((0 : Int) < d.Amount)) then (bif (decide (d.Per < (1 : Int))) then true else (decide ((1000000 : Int) < d.Per))) else false) then true else (bif (d.Amount == (0 : Int)) then (d.Per != (0 : Int)) else false)) = true then
      some (2 : Int)
    else
      if (bif (bif (bif (decide (d.Most < (0 : Int))) then true else (decide ((10000000 : Int) < d.Most))) then true else (decide (d.Least < (0 : Int)))) then true else (decide ((10000000 : Int) < d.Least))) = true then
        some (2 : Int)
      else
        if (bif (bif (d.Most != (0 : Int)) then (!d.HasMost) else false) then true else (bif (d.Least != (0 : Int)) then (!d.HasLeast) else false)) = true then
          some (1 : Int)
        else
          if (bif (bif d.HasMost then d.HasLeast else false) then (decide (d.Most < d.Least)) else false) = true then
            some (1 : Int)
          else
            some (0 : Int)

noncomputable def refIn (x : Int) (n1 : Int) : Option (Bool) :=
  some (bif (decide ((0 : Int) ≤ x)) then (decide (x ≤ n1)) else false)

noncomputable def refDuty (d : ApiDuty) : Option (Int) :=
  (refIn d.Rate (10000000 : Int)).bind fun v =>
    (if (!(!v)) = true then refIn d.Amount (100000000 : Int) else some default).bind fun v2 =>
      (if (!(bif (bif (bif (!v) then true else (!v2)) then true else (bif (decide ((0 : Int) < d.Amount)) then (bif (decide (d.Per < (1 : Int))) then true else (decide ((1000000 : Int) < d.Per))) else false)) then true else (bif (d.Amount == (0 : Int)) then (d.Per != (0 : Int)) else false))) = true then refIn d.Most (10000000 : Int) else some default).bind fun v3 =>
        (if (!(bif (bif (bif (bif (!v) then true else (!v2)) then true else (bif (decide ((0 : Int) < d.Amount)) then (bif (decide (d.Per < (1 : Int))) then true else (decide ((1000000 : Int) < d.Per))) else false)) then true else (bif (d.Amount == (0 : Int)) then (d.Per != (0 : Int)) else false)) then true else (!v3))) = true then refIn d.Least (10000000 : Int) else some default).bind fun v4 =>
          if (bif (bif (bif (bif (bif (!v) then true else (!v2)) then true else (bif (decide ((0 : Int) < d.Amount)) then (bif (decide (d.Per < (1 : Int))) then true else (decide ((1000000 : Int) < d.Per))) else false)) then true else (bif (d.Amount == (0 : Int)) then (d.Per != (0 : Int)) else false)) then true else (!v3)) then true else (!v4)) = true then
            some (2 : Int)
          else
            if (bif (bif (bif (d.Most != (0 : Int)) then (!d.HasMost) else false) then true else (bif (d.Least != (0 : Int)) then (!d.HasLeast) else false)) then true else (bif (bif d.HasMost then d.HasLeast else false) then (decide (d.Most < d.Least)) else false)) = true then
              some (1 : Int)
            else
              some (0 : Int)

noncomputable def nomLevel_j1  : Option (Int) :=
  some (0 : Int)
noncomputable def nomLevel (code : Str) : Option (Int) :=
  (if ((code.length : Int) == (2 : Int)) = true then trimS code ([48, 49, 50, 51, 52, 53, 54, 55, 56, 57] : Str) else some default).bind fun v =>
    if (bif ((code.length : Int) == (2 : Int)) then (v == ([] : Str)) else false) = true then
      some (2 : Int)
    else
      (if ((code.length : Int) == (4 : Int)) = true then trimS code ([48, 49, 50, 51, 52, 53, 54, 55, 56, 57] : Str) else some default).bind fun v2 =>
        if (bif ((code.length : Int) == (4 : Int)) then (v2 == ([] : Str)) else false) = true then
          some (4 : Int)
        else
          (if ((code.length : Int) == (6 : Int)) = true then trimS code ([48, 49, 50, 51, 52, 53, 54, 55, 56, 57] : Str) else some default).bind fun v3 =>
            if (bif ((code.length : Int) == (6 : Int)) then (v3 == ([] : Str)) else false) = true then
              some (6 : Int)
            else
              (if ((code.length : Int) == (8 : Int)) = true then trimS code ([48, 49, 50, 51, 52, 53, 54, 55, 56, 57] : Str) else some default).bind fun v4 =>
                if (bif ((code.length : Int) == (8 : Int)) then (v4 == ([] : Str)) else false) = true then
                  some (8 : Int)
                else
                  nomLevel_j1

noncomputable def refLevel_j1 (s : Str) : Option (Int) :=
  if (bif (decide ((8 : Int) < (s.length : Int))) then true else (((s.length : Int).tmod (2 : Int)) == (1 : Int))) = true then
    some (0 : Int)
  else
    some (s.length : Int)
noncomputable def refLevel_b1 (s : Str) : (Int) → Option ((Int) ⊕ ((Int) ⊕ (Unit)))
  | i =>
    if (decide (i < (s.length : Int))) = true then
      if (0 ≤ i ∧ i < (s.length : Int)) then
        if (!(decide (((s.getD i.toNat 0).toNat : Int) < (48 : Int)))) = true → (0 ≤ i ∧ i < (s.length : Int)) then
          if (bif (decide (((s.getD i.toNat 0).toNat : Int) < (48 : Int))) then true else (decide ((57 : Int) < ((s.getD i.toNat 0).toNat : Int)))) = true then
            some (.inr (.inl (0 : Int)))
          else
            some (.inl (IntKind.i64.wrap (i + (1 : Int))))
        else none
      else none
    else
      some (.inr (.inr ()))
noncomputable def refLevel (s : Str) : Option (Int) :=
  (loopO (refLevel_b1 s) (0 : Int)).bind fun e => match e with
    | (.inl rv) =>
      some rv
    | (.inr ()) =>
      refLevel_j1 s

noncomputable def isCapital (c : Int) : Option (Bool) :=
  some (bif (decide ((65 : Int) ≤ c)) then (decide (c ≤ (90 : Int))) else false)

noncomputable def validCountry (s : Str) : Option (Bool) :=
  if ((s.length : Int) == (2 : Int)) = true → (0 ≤ (0 : Int) ∧ (0 : Int) < (s.length : Int)) then
    (if ((s.length : Int) == (2 : Int)) = true then isCapital ((s.getD (0 : Int).toNat 0).toNat : Int) else some default).bind fun v =>
      if (bif ((s.length : Int) == (2 : Int)) then v else false) = true → (0 ≤ (1 : Int) ∧ (1 : Int) < (s.length : Int)) then
        (if (bif ((s.length : Int) == (2 : Int)) then v else false) = true then isCapital ((s.getD (1 : Int).toNat 0).toNat : Int) else some default).bind fun v2 =>
          some (bif (bif ((s.length : Int) == (2 : Int)) then v else false) then v2 else false)
      else none
  else none

noncomputable def refCountry (s : Str) : Option (Bool) :=
  if ((s.length : Int) == (2 : Int)) = true → (0 ≤ (0 : Int) ∧ (0 : Int) < (s.length : Int)) then
    if (bif ((s.length : Int) == (2 : Int)) then (decide ((65 : Int) ≤ ((s.getD (0 : Int).toNat 0).toNat : Int))) else false) = true → (0 ≤ (0 : Int) ∧ (0 : Int) < (s.length : Int)) then
      if (bif (bif ((s.length : Int) == (2 : Int)) then (decide ((65 : Int) ≤ ((s.getD (0 : Int).toNat 0).toNat : Int))) else false) then (decide (((s.getD (0 : Int).toNat 0).toNat : Int) ≤ (90 : Int))) else false) = true → (0 ≤ (1 : Int) ∧ (1 : Int) < (s.length : Int)) then
        if (bif (bif (bif ((s.length : Int) == (2 : Int)) then (decide ((65 : Int) ≤ ((s.getD (0 : Int).toNat 0).toNat : Int))) else false) then (decide (((s.getD (0 : Int).toNat 0).toNat : Int) ≤ (90 : Int))) else false) then (decide ((65 : Int) ≤ ((s.getD (1 : Int).toNat 0).toNat : Int))) else false) = true → (0 ≤ (1 : Int) ∧ (1 : Int) < (s.length : Int)) then
          some (bif (bif (bif (bif ((s.length : Int) == (2 : Int)) then (decide ((65 : Int) ≤ ((s.getD (0 : Int).toNat 0).toNat : Int))) else false) then (decide (((s.getD (0 : Int).toNat 0).toNat : Int) ≤ (90 : Int))) else false) then (decide ((65 : Int) ≤ ((s.getD (1 : Int).toNat 0).toNat : Int))) else false) then (decide (((s.getD (1 : Int).toNat 0).toNat : Int) ≤ (90 : Int))) else false)
        else none
      else none
    else none
  else none

noncomputable def validOrigins_j1  : Option (Bool) :=
  some true
noncomputable def validOrigins_b1 (l : (List Str)) : (Int) → Option ((Int) ⊕ ((Bool) ⊕ (Unit)))
  | t7 =>
    if (decide (t7 < (l.length : Int))) = true then
      if (0 ≤ t7) then
        (l[t7.toNat]?).bind fun x2 =>
          (validCountry x2).bind fun v2 =>
            if (((!(!v2)) && (decide ((0 : Int) < t7))) = true → (0 ≤ (IntKind.i64.wrap (t7 - (1 : Int))) ∧ (IntKind.i64.wrap (t7 - (1 : Int))) < (l.length : Int))) then
              if (bif (!v2) then true else (bif (decide ((0 : Int) < t7)) then (Op.bytesLess x2 (l.getD (IntKind.i64.wrap (t7 - (1 : Int))).toNat default) || x2 == (l.getD (IntKind.i64.wrap (t7 - (1 : Int))).toNat default)) else false)) = true then
                some (.inr (.inl false))
              else
                some (.inl (IntKind.i64.wrap (t7 + (1 : Int))))
            else none
      else none
    else
      some (.inr (.inr ()))
noncomputable def validOrigins (l : (List Str)) : Option (Bool) :=
  (loopO (validOrigins_b1 l) (0 : Int)).bind fun e => match e with
    | (.inl rv) =>
      some rv
    | (.inr ()) =>
      validOrigins_j1

noncomputable def meValidate_j1  : Option (Int) :=
  some (0 : Int)
noncomputable def meValidate_b1 (l : (List ApiMeasure)) : (Int) → Option ((Int) ⊕ ((Int) ⊕ (Unit)))
  | t11 =>
    if (decide (t11 < (l.length : Int))) = true then
      if (0 ≤ t11) then
        (l[t11.toNat]?).bind fun x2 =>
          if (bif (bif (bif (bif (bif (decide (x2.ID < (1 : Int))) then true else (decide ((1000000 : Int) < x2.ID))) then true else (decide (x2.Kind < (1 : Int)))) then true else (decide ((6 : Int) < x2.Kind))) then true else (decide (x2.Company < (0 : Int)))) then true else (decide ((999 : Int) < x2.Company))) = true then
            some (.inr (.inl (2 : Int)))
          else
            if ((decide ((0 : Int) < t11)) = true → (0 ≤ (IntKind.i64.wrap (t11 - (1 : Int))) ∧ (IntKind.i64.wrap (t11 - (1 : Int))) < (l.length : Int))) then
              if (bif (decide ((0 : Int) < t11)) then (decide (x2.ID ≤ ((l.getD (IntKind.i64.wrap (t11 - (1 : Int))).toNat default).ID))) else false) = true then
                some (.inr (.inl (9 : Int)))
              else
                (nomLevel x2.Prefix).bind fun v4 =>
                  if (v4 == (0 : Int)) = true then
                    some (.inr (.inl (1 : Int)))
                  else
                    if (decide ((20 : Int) < (x2.Origins.length : Int))) = true then
                      some (.inr (.inl (8 : Int)))
                    else
                      (validOrigins x2.Origins).bind fun v5 =>
                        if (!v5) = true then
                          some (.inr (.inl (1 : Int)))
                        else
                          if (bif (bif (bif (bif (decide (x2.From < (0 : Int))) then true else (decide (x2.To ≤ x2.From))) then true else (decide ((36525 : Int) < x2.To))) then true else (decide (x2.Registered < (-1 : Int)))) then true else (decide (x2.From < x2.Registered))) = true then
                            some (.inr (.inl (2 : Int)))
                          else
                            (dutyValidate x2.Duty).bind fun v6 =>
                              if (v6 != (0 : Int)) = true then
                                some (.inr (.inl v6))
                              else
                                some (.inl (IntKind.i64.wrap (t11 + (1 : Int))))
            else none
      else none
    else
      some (.inr (.inr ()))
noncomputable def meValidate (l : (List ApiMeasure)) : Option (Int) :=
  if (decide ((300 : Int) < (l.length : Int))) = true then
    some (8 : Int)
  else
    (loopO (meValidate_b1 l) (0 : Int)).bind fun e => match e with
      | (.inl rv) =>
        some rv
      | (.inr ()) =>
        meValidate_j1

noncomputable def refOne_j1 (m1 : ApiMeasure) : Option (Int × Bool) :=
  if (bif (bif (bif (bif (decide (m1.From < (0 : Int))) then true else (decide (m1.To ≤ m1.From))) then true else (decide ((36525 : Int) < m1.To))) then true else (decide (m1.Registered < (-1 : Int)))) then true else (decide (m1.From < m1.Registered))) = true then
    some ((2 : Int), false)
  else
    (refDuty m1.Duty).bind fun v2 =>
      some (v2, (v2 == (0 : Int)))
noncomputable def refOne_b1 (m1 : ApiMeasure) : (Int) → Option ((Int) ⊕ ((Int × Bool) ⊕ (Unit)))
  | i =>
    if (decide (i < (m1.Origins.length : Int))) = true then
      if (0 ≤ i) then
        (m1.Origins[i.toNat]?).bind fun x2 =>
          (refCountry x2).bind fun v4 =>
            if (((!(!v4)) && (decide ((0 : Int) < i))) = true → (0 ≤ (IntKind.i64.wrap (i - (1 : Int))) ∧ (IntKind.i64.wrap (i - (1 : Int))) < (m1.Origins.length : Int))) then
              if (((!(!v4)) && (decide ((0 : Int) < i))) = true → (0 ≤ i ∧ i < (m1.Origins.length : Int))) then
                if (bif (!v4) then true else (bif (decide ((0 : Int) < i)) then (!Op.bytesLess (m1.Origins.getD (IntKind.i64.wrap (i - (1 : Int))).toNat default) (m1.Origins.getD i.toNat default)) else false)) = true then
                  some (.inr (.inl ((1 : Int), false)))
                else
                  some (.inl (IntKind.i64.wrap (i + (1 : Int))))
              else none
            else none
      else none
    else
      some (.inr (.inr ()))
noncomputable def refOne (m1 : ApiMeasure) : Option (Int × Bool) :=
  if (bif (bif (bif (bif (bif (decide (m1.ID < (1 : Int))) then true else (decide ((1000000 : Int) < m1.ID))) then true else (decide (m1.Kind < (1 : Int)))) then true else (decide ((6 : Int) < m1.Kind))) then true else (decide (m1.Company < (0 : Int)))) then true else (decide ((999 : Int) < m1.Company))) = true then
    some ((2 : Int), false)
  else
    (refLevel m1.Prefix).bind fun v =>
      if (v == (0 : Int)) = true then
        some ((1 : Int), false)
      else
        if (decide ((20 : Int) < (m1.Origins.length : Int))) = true then
          some ((8 : Int), false)
        else
          (loopO (refOne_b1 m1) (0 : Int)).bind fun e => match e with
            | (.inl rv) =>
              some rv
            | (.inr ()) =>
              refOne_j1 m1

noncomputable def refMeasures_j1  : Option (Int) :=
  some (0 : Int)
noncomputable def refMeasures_b1 (l : (List ApiMeasure)) : (Int) → Option ((Int) ⊕ ((Int) ⊕ (Unit)))
  | i =>
    if (decide (i < (l.length : Int))) = true then
      if (0 ≤ i) then
        (l[i.toNat]?).bind fun x2 =>
          if (bif (bif (bif (bif (bif (decide (x2.ID < (1 : Int))) then true else (decide ((1000000 : Int) < x2.ID))) then true else (decide (x2.Kind < (1 : Int)))) then true else (decide ((6 : Int) < x2.Kind))) then true else (decide (x2.Company < (0 : Int)))) then true else (decide ((999 : Int) < x2.Company))) = true then
            some (.inr (.inl (2 : Int)))
          else
            if ((decide ((0 : Int) < i)) = true → (0 ≤ (IntKind.i64.wrap (i - (1 : Int))) ∧ (IntKind.i64.wrap (i - (1 : Int))) < (l.length : Int))) then
              if (bif (decide ((0 : Int) < i)) then (decide (x2.ID ≤ ((l.getD (IntKind.i64.wrap (i - (1 : Int))).toNat default).ID))) else false) = true then
                some (.inr (.inl (9 : Int)))
              else
                (refOne x2).bind fun v2 =>
                  if (v2.1 != (0 : Int)) = true then
                    some (.inr (.inl v2.1))
                  else
                    some (.inl (IntKind.i64.wrap (i + (1 : Int))))
            else none
      else none
    else
      some (.inr (.inr ()))
noncomputable def refMeasures (l : (List ApiMeasure)) : Option (Int) :=
  if (decide ((300 : Int) < (l.length : Int))) = true then
    some (8 : Int)
  else
    (loopO (refMeasures_b1 l) (0 : Int)).bind fun e => match e with
      | (.inl rv) =>
        some rv
      | (.inr ()) =>
        refMeasures_j1

end Go.C
