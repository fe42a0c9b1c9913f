/- Plain functions, read off the program by program (gen.py): no program in sight. -/
import Derived.Test.YtinickkcieecdaaGreatDoorPl
set_option linter.unusedVariables false
namespace Go.C
open Go.V

noncomputable def dutyValidate (d : ApiDuty) : Option (Int) :=
  if (bif (bif (bif (decide (d.Rate < (0 : Int))) then true else (decide ((10000000 : Int) < d.Rate))) then true else (decide (d.Amount < (0 : Int)))) then true else (decide ((100000000 : Int) < d.Amount))) = true then
    some (2 : Int)
  else
    if (bif (bif (decide ((0 : Int) < d.Amount)) then (bif (decide (d.Per < (1 : Int))) then true else (decide ((1000000 : Int) < d.Per))) else false) then true else (bif (d.Amount == (0 : Int)) then (d.Per != (0 : Int)) else false)) = true then
      some (2 : Int)
    else
      if (bif (bif (bif (decide (d.Most < (0 : Int))) then true else (decide ((10000000 : Int) < d.Most))) then true else (decide (d.Least < (0 : Int)))) then true else (decide ((10000000 : Int) < d.Least))) = true then
        some (2 : Int)
      else
        if (bif (bif (d.Most != (0 : Int)) then (!d.HasMost) else false) then true else (bif (d.Least != (0 : Int)) then (!d.HasLeast) else false)) = true then
          some (1 : Int)
        else
          if (bif (bif d.HasMost then d.HasLeast else false) then (decide (d.Most < d.Least)) else false) = true then
            some (1 : Int)
          else
            some (0 : Int)

noncomputable def refIn (x : Int) (n1 : Int) : Option (Bool) :=
  some (bif (decide ((0 : Int) ≤ x)) then (decide (x ≤ n1)) else false)

noncomputable def refDuty (d : ApiDuty) : Option (Int) :=
  (refIn d.Rate (10000000 : Int)).bind fun v =>
    (if (!(!v)) = true then refIn d.Amount (100000000 : Int) else some default).bind fun v2 =>
      (if (!(bif (bif (bif (!v) then true else (!v2)) then true else (bif (decide ((0 : Int) < d.Amount)) then (bif (decide (d.Per < (1 : Int))) then true else (decide ((1000000 : Int) < d.Per))) else false)) then true else (bif (d.Amount == (0 : Int)) then (d.Per != (0 : Int)) else false))) = true then refIn d.Most (10000000 : Int) else some default).bind fun v3 =>
        (if (!(bif (bif (bif (bif (!v) then true else (!v2)) then true else (bif (decide ((0 : Int) < d.Amount)) then (bif (decide (d.Per < (1 : Int))) then true else (decide ((1000000 : Int) < d.Per))) else false)) then true else (bif (d.Amount == (0 : Int)) then (d.Per != (0 : Int)) else false)) then true else (!v3))) = true then refIn d.Least (10000000 : Int) else some default).bind fun v4 =>
          if (bif (bif (bif (bif (bif (!v) then true else (!v2)) then true else (bif (decide ((0 : Int) < d.Amount)) then (bif (decide (d.Per < (1 : Int))) then true else (decide ((1000000 : Int) < d.Per))) else false)) then true else (bif (d.Amount == (0 : Int)) then (d.Per != (0 : Int)) else false)) then true else (!v3)) then true else (!v4)) = true then
            some (2 : Int)
          else
            if (bif (bif (bif (d.Most != (0 : Int)) then (!d.HasMost) else false) then true else (bif (d.Least != (0 : Int)) then (!d.HasLeast) else false)) then true else (bif (bif d.HasMost then d.HasLeast else false) then (decide (d.Most < d.Least)) else false)) = true then
              some (1 : Int)
            else
              some (0 : Int)

noncomputable def within (x : Int) (n1 : Int) : Option (Int) :=
  if (n1 ≠ 0) then
    if (n1 ≠ 0) then
      some ((IntKind.i64.wrap ((x.tmod n1) + n1)).tmod n1)
    else none
  else none

noncomputable def amount18 (n1 : Int) (small : Bool) : Option (Int) :=
  if small = true then
    (within n1 (100000 : Int)).bind fun v =>
      some v
  else
    (within n1 (1000000000001 : Int)).bind fun v2 =>
      some v2

noncomputable def srcNext (s : CustomsmadeSource) (n1 : Int) : Option (Int × CustomsmadeSource) :=
  if (decide ((s.L.length : Int) ≤ s.I)) = true then
    some ((0 : Int), s)
  else
    if (0 ≤ (IntKind.i64.wrap ((IntKind.i64.wrap (s.I + (1 : Int))) - (1 : Int)))) then
      (s.L[(IntKind.i64.wrap ((IntKind.i64.wrap (s.I + (1 : Int))) - (1 : Int))).toNat]?).bind fun x =>
        (within x n1).bind fun v =>
          some (v, (⟨s.L, (IntKind.i64.wrap (s.I + (1 : Int)))⟩ : CustomsmadeSource))
    else none

noncomputable def srcRate (s : CustomsmadeSource) : Option (Int × CustomsmadeSource) :=
  (srcNext s (4 : Int)).bind fun v =>
    if (decide ((0 : Int) < v.1)) = true then
      (srcNext v.2 (101 : Int)).bind fun v2 =>
        some ((IntKind.i64.wrap ((10000 : Int) * v2.1)), v2.2)
    else
      (srcNext v.2 (1000001 : Int)).bind fun v3 =>
        some (v3.1, v3.2)

noncomputable def srcDuty_j4 (c3_0 : Int) (c3_1 : Int) (c3_2 : Int) (c3_3 : Bool) (c3_4 : Int) (c0_04 : (List Int)) (c0_14 : Int) (c3_5 : Bool) (c3_6 : Int) : Option (ApiDuty × CustomsmadeSource) :=
  some ((⟨c3_0, c3_1, c3_2, c3_3, c3_4, c3_5, c3_6⟩ : ApiDuty), (⟨c0_04, c0_14⟩ : CustomsmadeSource))
noncomputable def srcDuty_j3 (c3_0 : Int) (c3_1 : Int) (c3_2 : Int) (c0_03 : (List Int)) (c0_13 : Int) (c3_3 : Bool) (c3_4 : Int) : Option (ApiDuty × CustomsmadeSource) :=
  (srcNext (⟨c0_03, c0_13⟩ : CustomsmadeSource) (4 : Int)).bind fun v4 =>
    if (v4.1 == (1 : Int)) = true then
      (srcRate v4.2).bind fun v5 =>
        if c3_3 = true then
          srcDuty_j4 c3_0 c3_1 c3_2 c3_3 c3_4 v5.2.L v5.2.I true (if c3_4 < (IntKind.i64.wrap (v5.1.tdiv (8 : Int))) then c3_4 else (IntKind.i64.wrap (v5.1.tdiv (8 : Int))))
        else
          srcDuty_j4 c3_0 c3_1 c3_2 c3_3 c3_4 v5.2.L v5.2.I true (IntKind.i64.wrap (v5.1.tdiv (8 : Int)))
    else
      srcDuty_j4 c3_0 c3_1 c3_2 c3_3 c3_4 v4.2.L v4.2.I false 0
noncomputable def srcDuty_j2 (c3_0 : Int) (c0_02 : (List Int)) (c0_12 : Int) (c3_1 : Int) (c3_2 : Int) : Option (ApiDuty × CustomsmadeSource) :=
  (srcNext (⟨c0_02, c0_12⟩ : CustomsmadeSource) (4 : Int)).bind fun v3 =>
    if (v3.1 == (1 : Int)) = true then
      (srcRate v3.2).bind fun v6 =>
        srcDuty_j3 c3_0 c3_1 c3_2 v6.2.L v6.2.I true v6.1
    else
      srcDuty_j3 c3_0 c3_1 c3_2 v3.2.L v3.2.I false 0
noncomputable def srcDuty_j1 (c0_0 : (List Int)) (c0_1 : Int) (c3_0 : Int) : Option (ApiDuty × CustomsmadeSource) :=
  (srcNext (⟨c0_0, c0_1⟩ : CustomsmadeSource) (3 : Int)).bind fun v2 =>
    if (v2.1 == (1 : Int)) = true then
      (srcNext v2.2 (500 : Int)).bind fun v7 =>
        (srcNext v7.2 (5 : Int)).bind fun v8 =>
          if (0 ≤ v8.1) then
            ([(1 : Int), (100 : Int), (1000 : Int), (1000000 : Int), (7 : Int)][v8.1.toNat]?).bind fun x =>
              srcDuty_j2 c3_0 v8.2.L v8.2.I (IntKind.i64.wrap ((1 : Int) + v7.1)) x
          else none
    else
      srcDuty_j2 c3_0 v2.2.L v2.2.I 0 0
noncomputable def srcDuty (s : CustomsmadeSource) : Option (ApiDuty × CustomsmadeSource) :=
  (srcNext s (3 : Int)).bind fun v =>
    if (decide ((0 : Int) < v.1)) = true then
      (srcRate v.2).bind fun v9 =>
        srcDuty_j1 v9.2.L v9.2.I (IntKind.i64.wrap (v9.1.tdiv (4 : Int)))
    else
      srcDuty_j1 v.2.L v.2.I 0

noncomputable def madeCut (l : (List Int)) (n1 : Int) : Option ((List Int)) :=
  if (decide (n1 < (l.length : Int))) = true then
    if (0 ≤ (0 : Int) ∧ (0 : Int) ≤ n1 ∧ n1 ≤ (l.length : Int)) then
      some ((l.take n1.toNat).drop (0 : Int).toNat)
    else none
  else
    some l

noncomputable def madeDuty (l : (List Int)) : Option (ApiDuty) :=
  (madeCut l (12 : Int)).bind fun v =>
    (srcDuty (⟨v, 0⟩ : CustomsmadeSource)).bind fun v2 =>
      some v2.1

end Go.C
