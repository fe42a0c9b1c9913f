/- Plain functions, read off the program by program (gen.py): no program in sight. -/
import Derived.Test.YtbilobjddflpeaaGreatDoorPl
set_option linter.unusedVariables false
namespace Go.C
open Go.V

noncomputable def refPrefix (code : Str) (p : Str) : Option (Bool) :=
  if (decide ((p.length : Int) ≤ (code.length : Int))) = true → (0 ≤ (0 : Int) ∧ (0 : Int) ≤ (p.length : Int) ∧ (p.length : Int) ≤ (code.length : Int)) then
    some (bif (decide ((p.length : Int) ≤ (code.length : Int))) then (((code.take (p.length : Int).toNat).drop (0 : Int).toNat) == p) else false)
  else none

noncomputable def refHas_j1  : Option (Bool) :=
  some false
noncomputable def refHas_b1 (l : (List Str)) (s : Str) : (Int) → Option ((Int) ⊕ ((Bool) ⊕ (Unit)))
  | i =>
    if (decide (i < (l.length : Int))) = true then
      if (0 ≤ i) then
        (l[i.toNat]?).bind fun x2 =>
          if (x2 == s) = true then
            some (.inr (.inl true))
          else
            some (.inl (IntKind.i64.wrap (i + (1 : Int))))
      else none
    else
      some (.inr (.inr ()))
noncomputable def refHas (l : (List Str)) (s : Str) : Option (Bool) :=
  (loopO (refHas_b1 l s) (0 : Int)).bind fun e => match e with
    | (.inl rv) =>
      some rv
    | (.inr ()) =>
      refHas_j1

noncomputable def sameStrings_j1  : Option (Bool) :=
  some true
noncomputable def sameStrings_b1 (a : (List Str)) (b : (List Str)) : (Int) → Option ((Int) ⊕ ((Bool) ⊕ (Unit)))
  | i =>
    if (decide (i < (a.length : Int))) = true then
      if (0 ≤ i) then
        (a[i.toNat]?).bind fun x3 =>
          if (0 ≤ i) then
            (b[i.toNat]?).bind fun x4 =>
              if (!(x3 == x4)) = true then
                some (.inr (.inl false))
              else
                some (.inl (IntKind.i64.wrap (i + (1 : Int))))
          else none
      else none
    else
      some (.inr (.inr ()))
noncomputable def sameStrings (a : (List Str)) (b : (List Str)) : Option (Bool) :=
  if ((a.length : Int) != (b.length : Int)) = true then
    some false
  else
    (loopO (sameStrings_b1 a b) (0 : Int)).bind fun e => match e with
      | (.inl rv) =>
        some rv
      | (.inr ()) =>
        sameStrings_j1

noncomputable def refInForce (m1 : ApiMeasure) (day : Int) : Option (Bool) :=
  some (bif (bif (decide (m1.From ≤ day)) then (decide (day < m1.To)) else false) then true else (bif (bif (decide ((0 : Int) ≤ m1.Registered)) then (decide (m1.Registered ≤ day)) else false) then (decide (day < m1.From)) else false))

noncomputable def refCovers (m1 : ApiMeasure) (code : Str) (origin : Str) (company : Int) (day : Int) : Option (Bool) :=
  (refInForce m1 day).bind fun v =>
    (if v = true then refPrefix code m1.Prefix else some default).bind fun v2 =>
      (if ((bif v then v2 else false) && (!((m1.Origins.length : Int) == (0 : Int)))) = true then refHas m1.Origins origin else some default).bind fun v3 =>
        some (bif (bif (bif v then v2 else false) then (bif ((m1.Origins.length : Int) == (0 : Int)) then true else v3) else false) then (bif (m1.Company == (0 : Int)) then true else (m1.Company == company)) else false)

noncomputable def refRank_j2 (m1 : ApiMeasure) (n1 : Int) (some1 : Int) : Option (Int) :=
  some (IntKind.i64.wrap ((IntKind.i64.wrap ((IntKind.i64.wrap ((IntKind.i64.wrap ((IntKind.i64.wrap ((IntKind.i64.wrap ((IntKind.i64.wrap ((m1.Prefix.length : Int) * (2 : Int))) + some1)) * (100 : Int))) + (50 : Int))) - n1)) * (10000000 : Int))) + m1.ID))
noncomputable def refRank_j1 (m1 : ApiMeasure) (n1 : Int) : Option (Int) :=
  if (m1.Company != (0 : Int)) = true then
    refRank_j2 m1 n1 (1 : Int)
  else
    refRank_j2 m1 n1 (0 : Int)
noncomputable def refRank (m1 : ApiMeasure) : Option (Int) :=
  if (decide ((0 : Int) < (m1.Origins.length : Int))) = true then
    refRank_j1 m1 (m1.Origins.length : Int)
  else
    refRank_j1 m1 (21 : Int)

noncomputable def refOf_j1 (l : (List ApiMeasure)) (best : Int) : Option (ApiMeasure × Bool) :=
  if (decide (best < (0 : Int))) = true then
    some ((⟨0, 0, [], [], 0, 0, 0, 0, (⟨0, 0, 0, false, 0, false, 0⟩ : ApiDuty)⟩ : ApiMeasure), false)
  else
    if (0 ≤ best) then
      (l[best.toNat]?).bind fun x =>
        some (x, true)
    else none
noncomputable def refOf_j2 (l : (List ApiMeasure)) (kind : Int) (code : Str) (origin : Str) (company : Int) (day : Int) (i : Int) (best6 : Int) : Option ((Int × Int) ⊕ (Int)) :=
  some (.inl ((IntKind.i64.wrap (i + (1 : Int))), best6))
noncomputable def refOf_b1 (l : (List ApiMeasure)) (kind : Int) (code : Str) (origin : Str) (company : Int) (day : Int) : (Int × Int) → Option ((Int × Int) ⊕ (Int))
  | (i, best2) =>
    if (decide (i < (l.length : Int))) = true then
      if (0 ≤ i) then
        (l[i.toNat]?).bind fun x3 =>
          if ((x3.Kind == kind) = true → (0 ≤ i ∧ i < (l.length : Int))) then
            (if (x3.Kind == kind) = true then refCovers (⟨(l.getD i.toNat default).ID, (l.getD i.toNat default).Kind, (l.getD i.toNat default).Prefix, (l.getD i.toNat default).Origins, (l.getD i.toNat default).Company, (l.getD i.toNat default).From, (l.getD i.toNat default).To, (l.getD i.toNat default).Registered, ((l.getD i.toNat default).Duty)⟩ : ApiMeasure) code origin company day else some default).bind fun v4 =>
              if (((bif (x3.Kind == kind) then v4 else false) && (!(decide (best2 < (0 : Int))))) = true → (0 ≤ i ∧ i < (l.length : Int))) then
                (if ((bif (x3.Kind == kind) then v4 else false) && (!(decide (best2 < (0 : Int))))) = true then refRank (⟨(l.getD i.toNat default).ID, (l.getD i.toNat default).Kind, (l.getD i.toNat default).Prefix, (l.getD i.toNat default).Origins, (l.getD i.toNat default).Company, (l.getD i.toNat default).From, (l.getD i.toNat default).To, (l.getD i.toNat default).Registered, ((l.getD i.toNat default).Duty)⟩ : ApiMeasure) else some default).bind fun v5 =>
                  if (((bif (x3.Kind == kind) then v4 else false) && (!(decide (best2 < (0 : Int))))) = true → (0 ≤ best2 ∧ best2 < (l.length : Int))) then
                    (if ((bif (x3.Kind == kind) then v4 else false) && (!(decide (best2 < (0 : Int))))) = true then refRank (⟨(l.getD best2.toNat default).ID, (l.getD best2.toNat default).Kind, (l.getD best2.toNat default).Prefix, (l.getD best2.toNat default).Origins, (l.getD best2.toNat default).Company, (l.getD best2.toNat default).From, (l.getD best2.toNat default).To, (l.getD best2.toNat default).Registered, ((l.getD best2.toNat default).Duty)⟩ : ApiMeasure) else some default).bind fun v6 =>
                      if (bif (bif (x3.Kind == kind) then v4 else false) then (bif (decide (best2 < (0 : Int))) then true else (decide (v6 < v5))) else false) = true then
                        refOf_j2 l kind code origin company day i i
                      else
                        refOf_j2 l kind code origin company day i best2
                  else none
              else none
          else none
      else none
    else
      some (.inr best2)
noncomputable def refOf (l : (List ApiMeasure)) (kind : Int) (code : Str) (origin : Str) (company : Int) (day : Int) : Option (ApiMeasure × Bool) :=
  (loopO (refOf_b1 l kind code origin company day) ((0 : Int), (-1 : Int))).bind fun e => match e with
    | best5 =>
      refOf_j1 l best5

noncomputable def refApplicable_j1 (out : (List ApiMeasure)) : Option ((List ApiMeasure)) :=
  some out
noncomputable def refApplicable_j2 (l : (List ApiMeasure)) (code : Str) (origin : Str) (company : Int) (day : Int) (k2 : Int) (out6 : (List ApiMeasure)) : Option ((Int × (List ApiMeasure)) ⊕ ((List ApiMeasure))) :=
  some (.inl ((IntKind.i64.wrap (k2 + (1 : Int))), out6))
noncomputable def refApplicable_b1 (l : (List ApiMeasure)) (code : Str) (origin : Str) (company : Int) (day : Int) : (Int × (List ApiMeasure)) → Option ((Int × (List ApiMeasure)) ⊕ ((List ApiMeasure)))
  | (k2, out3) =>
    if (decide (k2 ≤ (6 : Int))) = true then
      (refOf l k2 code origin company day).bind fun v3 =>
        if v3.2 = true then
          if (out3.length + [v3.1].length ≤ 137438953472) then
            refApplicable_j2 l code origin company day k2 (out3 ++ [v3.1])
          else none
        else
          refApplicable_j2 l code origin company day k2 out3
    else
      some (.inr out3)
noncomputable def refApplicable (l : (List ApiMeasure)) (code : Str) (origin : Str) (company : Int) (day : Int) : Option ((List ApiMeasure)) :=
  (loopO (refApplicable_b1 l code origin company day) ((1 : Int), [])).bind fun e => match e with
    | out5 =>
      refApplicable_j1 out5

noncomputable def sameMeasures_j1  : Option (Bool) :=
  some true
noncomputable def sameMeasures_b1 (a : (List ApiMeasure)) (b : (List ApiMeasure)) : (Int) → Option ((Int) ⊕ ((Bool) ⊕ (Unit)))
  | i =>
    if (decide (i < (a.length : Int))) = true then
      if (0 ≤ i) then
        (a[i.toNat]?).bind fun x3 =>
          if (0 ≤ i) then
            (b[i.toNat]?).bind fun x4 =>
              (if (!(bif (bif (bif (bif (bif (bif (bif (x3.ID != x4.ID) then true else (x3.Kind != x4.Kind)) then true else (!(x3.Prefix == x4.Prefix))) then true else (x3.Company != x4.Company)) then true else (x3.From != x4.From)) then true else (x3.To != x4.To)) then true else (x3.Registered != x4.Registered)) then true else (!((x3.Duty.Rate == x4.Duty.Rate) && ((x3.Duty.Amount == x4.Duty.Amount) && ((x3.Duty.Per == x4.Duty.Per) && ((x3.Duty.HasMost == x4.Duty.HasMost) && ((x3.Duty.Most == x4.Duty.Most) && ((x3.Duty.HasLeast == x4.Duty.HasLeast) && (x3.Duty.Least == x4.Duty.Least)))))))))) = true then sameStrings x3.Origins x4.Origins else some default).bind fun v2 =>
                if (bif (bif (bif (bif (bif (bif (bif (bif (x3.ID != x4.ID) then true else (x3.Kind != x4.Kind)) then true else (!(x3.Prefix == x4.Prefix))) then true else (x3.Company != x4.Company)) then true else (x3.From != x4.From)) then true else (x3.To != x4.To)) then true else (x3.Registered != x4.Registered)) then true else (!((x3.Duty.Rate == x4.Duty.Rate) && ((x3.Duty.Amount == x4.Duty.Amount) && ((x3.Duty.Per == x4.Duty.Per) && ((x3.Duty.HasMost == x4.Duty.HasMost) && ((x3.Duty.Most == x4.Duty.Most) && ((x3.Duty.HasLeast == x4.Duty.HasLeast) && (x3.Duty.Least == x4.Duty.Least))))))))) then true else (!v2)) = true then
                  some (.inr (.inl false))
                else
                  some (.inl (IntKind.i64.wrap (i + (1 : Int))))
          else none
      else none
    else
      some (.inr (.inr ()))
noncomputable def sameMeasures (a : (List ApiMeasure)) (b : (List ApiMeasure)) : Option (Bool) :=
  if ((a.length : Int) != (b.length : Int)) = true then
    some false
  else
    (loopO (sameMeasures_b1 a b) (0 : Int)).bind fun e => match e with
      | (.inl rv) =>
        some rv
      | (.inr ()) =>
        sameMeasures_j1

end Go.C
