/- Plain functions, read off the program by program (gen.py): no program in sight. -/
import Derived.Test.YtinickkcieecdaaGreatDoorPl
set_option linter.unusedVariables false
namespace Go.C
open Go.V

noncomputable def dutyValidate (a0 : ApiDuty) : Option (Int) :=
  if (bif (bif (bif (decide (a0.Rate < (0 : Int))) then true else (decide ((10000000 : Int) < a0.Rate))) then true else (decide (a0.Amount < (0 : Int)))) then true else (decide ((100000000 : Int) < a0.Amount))) = true then
    some (2 : Int)
  else
    if (bif (bif (decide ((0 : Int) < a0.Amount)) then (bif (decide (a0.Per < (1 : Int))) then true else (decide ((1000000 : Int) < a0.Per))) else false) then true else (bif (a0.Amount == (0 : Int)) then (a0.Per != (0 : Int)) else false)) = true then
      some (2 : Int)
    else
      if (bif (bif (bif (decide (a0.Most < (0 : Int))) then true else (decide ((10000000 : Int) < a0.Most))) then true else (decide (a0.Least < (0 : Int)))) then true else (decide ((10000000 : Int) < a0.Least))) = true then
        some (2 : Int)
      else
        if (bif (bif (a0.Most != (0 : Int)) then (!a0.HasMost) else false) then true else (bif (a0.Least != (0 : Int)) then (!a0.HasLeast) else false)) = true then
          some (1 : Int)
        else
          if (bif (bif a0.HasMost then a0.HasLeast else false) then (decide (a0.Most < a0.Least)) else false) = true then
            some (1 : Int)
          else
            some (0 : Int)

noncomputable def refIn (x : Int) (n1 : Int) : Option (Bool) :=
  some (bif (decide ((0 : Int) ≤ x)) then (decide (x ≤ n1)) else false)

noncomputable def refDuty (a0 : ApiDuty) : Option (Int) :=
  (refIn a0.Rate (10000000 : Int)).bind fun v =>
    (if (!(!v)) = true then refIn a0.Amount (100000000 : Int) else some default).bind fun v2 =>
      (if (!(bif (bif (bif (!v) then true else (!v2)) then true else (bif (decide ((0 : Int) < a0.Amount)) then (bif (decide (a0.Per < (1 : Int))) then true else (decide ((1000000 : Int) < a0.Per))) else false)) then true else (bif (a0.Amount == (0 : Int)) then (a0.Per != (0 : Int)) else false))) = true then refIn a0.Most (10000000 : Int) else some default).bind fun v3 =>
        (if (!(bif (bif (bif (bif (!v) then true else (!v2)) then true else (bif (decide ((0 : Int) < a0.Amount)) then (bif (decide (a0.Per < (1 : Int))) then true else (decide ((1000000 : Int) < a0.Per))) else false)) then true else (bif (a0.Amount == (0 : Int)) then (a0.Per != (0 : Int)) else false)) then true else (!v3))) = true then refIn a0.Least (10000000 : Int) else some default).bind fun v4 =>
          if (bif (bif (bif (bif (bif (!v) then true else (!v2)) then true else (bif (decide ((0 : Int) < a0.Amount)) then (bif (decide (a0.Per < (1 : Int))) then true else (decide ((1000000 : Int) < a0.Per))) else false)) then true else (bif (a0.Amount == (0 : Int)) then (a0.Per != (0 : Int)) else false)) then true else (!v3)) then true else (!v4)) = true then
            some (2 : Int)
          else
            if (bif (bif (bif (a0.Most != (0 : Int)) then (!a0.HasMost) else false) then true else (bif (a0.Least != (0 : Int)) then (!a0.HasLeast) else false)) then true else (bif (bif a0.HasMost then a0.HasLeast else false) then (decide (a0.Most < a0.Least)) else false)) = true then
              some (1 : Int)
            else
              some (0 : Int)

noncomputable def within (x : Int) (n1 : Int) : Option (Int) :=
  if (n1 ≠ 0) then
    if (n1 ≠ 0) then
      some ((IntKind.i64.wrap ((x.tmod n1) + n1)).tmod n1)
    else none
  else none

noncomputable def amount18 (n1 : Int) (small : Bool) : Option (Int) :=
  if small = true then
    (within n1 (100000 : Int)).bind fun v =>
      some v
  else
    (within n1 (1000000000001 : Int)).bind fun v2 =>
      some v2

noncomputable def srcNext (s : CustomsmadeSource) (n1 : Int) : Option (Int × CustomsmadeSource) :=
  if (decide ((s.L.length : Int) ≤ s.I)) = true then
    some ((0 : Int), s)
  else
    if (0 ≤ (IntKind.i64.wrap ((IntKind.i64.wrap (s.I + (1 : Int))) - (1 : Int)))) then
      (s.L[(IntKind.i64.wrap ((IntKind.i64.wrap (s.I + (1 : Int))) - (1 : Int))).toNat]?).bind fun x =>
        (within x n1).bind fun v =>
          some (v, (⟨s.L, (IntKind.i64.wrap (s.I + (1 : Int)))⟩ : CustomsmadeSource))
    else none

noncomputable def srcRate (s : CustomsmadeSource) : Option (Int × CustomsmadeSource) :=
  (srcNext s (4 : Int)).bind fun v =>
    if (decide ((0 : Int) < v.1)) = true then
      (srcNext v.2 (101 : Int)).bind fun v2 =>
        some ((IntKind.i64.wrap ((10000 : Int) * v2.1)), v2.2)
    else
      (srcNext v.2 (1000001 : Int)).bind fun v3 =>
        some (v3.1, v3.2)

noncomputable def srcDuty (s : CustomsmadeSource) : Option (ApiDuty × CustomsmadeSource) :=
  (srcNext s (3 : Int)).bind fun v =>
    if (decide ((0 : Int) < v.1)) = true then
      (srcRate v.2).bind fun v2 =>
        (srcNext v2.2 (3 : Int)).bind fun v3 =>
          if (v3.1 == (1 : Int)) = true then
            (srcNext v3.2 (500 : Int)).bind fun v4 =>
              (srcNext v4.2 (5 : Int)).bind fun v5 =>
                if (0 ≤ v5.1) then
                  ([(1 : Int), (100 : Int), (1000 : Int), (1000000 : Int), (7 : Int)][v5.1.toNat]?).bind fun x =>
                    (srcNext v5.2 (4 : Int)).bind fun v6 =>
                      if (v6.1 == (1 : Int)) = true then
                        (srcRate v6.2).bind fun v7 =>
                          (srcNext v7.2 (4 : Int)).bind fun v8 =>
                            if (v8.1 == (1 : Int)) = true then
                              (srcRate v8.2).bind fun v9 =>
                                if true = true then
                                  some ((⟨(IntKind.i64.wrap (v2.1.tdiv (4 : Int))), (IntKind.i64.wrap ((1 : Int) + v4.1)), x, true, v7.1, true, (if v7.1 < (IntKind.i64.wrap (v9.1.tdiv (8 : Int))) then v7.1 else (IntKind.i64.wrap (v9.1.tdiv (8 : Int))))⟩ : ApiDuty), v9.2)
                                else
                                  some ((⟨(IntKind.i64.wrap (v2.1.tdiv (4 : Int))), (IntKind.i64.wrap ((1 : Int) + v4.1)), x, true, v7.1, true, (IntKind.i64.wrap (v9.1.tdiv (8 : Int)))⟩ : ApiDuty), v9.2)
                            else
                              some ((⟨(IntKind.i64.wrap (v2.1.tdiv (4 : Int))), (IntKind.i64.wrap ((1 : Int) + v4.1)), x, true, v7.1, false, 0⟩ : ApiDuty), v8.2)
                      else
                        (srcNext v6.2 (4 : Int)).bind fun v10 =>
                          if (v10.1 == (1 : Int)) = true then
                            (srcRate v10.2).bind fun v11 =>
                              if false = true then
                                some ((⟨(IntKind.i64.wrap (v2.1.tdiv (4 : Int))), (IntKind.i64.wrap ((1 : Int) + v4.1)), x, false, 0, true, (if 0 < (IntKind.i64.wrap (v11.1.tdiv (8 : Int))) then 0 else (IntKind.i64.wrap (v11.1.tdiv (8 : Int))))⟩ : ApiDuty), v11.2)
                              else
                                some ((⟨(IntKind.i64.wrap (v2.1.tdiv (4 : Int))), (IntKind.i64.wrap ((1 : Int) + v4.1)), x, false, 0, true, (IntKind.i64.wrap (v11.1.tdiv (8 : Int)))⟩ : ApiDuty), v11.2)
                          else
                            some ((⟨(IntKind.i64.wrap (v2.1.tdiv (4 : Int))), (IntKind.i64.wrap ((1 : Int) + v4.1)), x, false, 0, false, 0⟩ : ApiDuty), v10.2)
                else none
          else
            (srcNext v3.2 (4 : Int)).bind fun v12 =>
              if (v12.1 == (1 : Int)) = true then
                (srcRate v12.2).bind fun v13 =>
                  (srcNext v13.2 (4 : Int)).bind fun v14 =>
                    if (v14.1 == (1 : Int)) = true then
                      (srcRate v14.2).bind fun v15 =>
                        if true = true then
                          some ((⟨(IntKind.i64.wrap (v2.1.tdiv (4 : Int))), 0, 0, true, v13.1, true, (if v13.1 < (IntKind.i64.wrap (v15.1.tdiv (8 : Int))) then v13.1 else (IntKind.i64.wrap (v15.1.tdiv (8 : Int))))⟩ : ApiDuty), v15.2)
                        else
                          some ((⟨(IntKind.i64.wrap (v2.1.tdiv (4 : Int))), 0, 0, true, v13.1, true, (IntKind.i64.wrap (v15.1.tdiv (8 : Int)))⟩ : ApiDuty), v15.2)
                    else
                      some ((⟨(IntKind.i64.wrap (v2.1.tdiv (4 : Int))), 0, 0, true, v13.1, false, 0⟩ : ApiDuty), v14.2)
              else
                (srcNext v12.2 (4 : Int)).bind fun v16 =>
                  if (v16.1 == (1 : Int)) = true then
                    (srcRate v16.2).bind fun v17 =>
                      if false = true then
                        some ((⟨(IntKind.i64.wrap (v2.1.tdiv (4 : Int))), 0, 0, false, 0, true, (if 0 < (IntKind.i64.wrap (v17.1.tdiv (8 : Int))) then 0 else (IntKind.i64.wrap (v17.1.tdiv (8 : Int))))⟩ : ApiDuty), v17.2)
                      else
                        some ((⟨(IntKind.i64.wrap (v2.1.tdiv (4 : Int))), 0, 0, false, 0, true, (IntKind.i64.wrap (v17.1.tdiv (8 : Int)))⟩ : ApiDuty), v17.2)
                  else
                    some ((⟨(IntKind.i64.wrap (v2.1.tdiv (4 : Int))), 0, 0, false, 0, false, 0⟩ : ApiDuty), v16.2)
    else
      (srcNext v.2 (3 : Int)).bind fun v18 =>
        if (v18.1 == (1 : Int)) = true then
          (srcNext v18.2 (500 : Int)).bind fun v19 =>
            (srcNext v19.2 (5 : Int)).bind fun v20 =>
              if (0 ≤ v20.1) then
                ([(1 : Int), (100 : Int), (1000 : Int), (1000000 : Int), (7 : Int)][v20.1.toNat]?).bind fun x2 =>
                  (srcNext v20.2 (4 : Int)).bind fun v21 =>
                    if (v21.1 == (1 : Int)) = true then
                      (srcRate v21.2).bind fun v22 =>
                        (srcNext v22.2 (4 : Int)).bind fun v23 =>
                          if (v23.1 == (1 : Int)) = true then
                            (srcRate v23.2).bind fun v24 =>
                              if true = true then
                                some ((⟨0, (IntKind.i64.wrap ((1 : Int) + v19.1)), x2, true, v22.1, true, (if v22.1 < (IntKind.i64.wrap (v24.1.tdiv (8 : Int))) then v22.1 else (IntKind.i64.wrap (v24.1.tdiv (8 : Int))))⟩ : ApiDuty), v24.2)
                              else
                                some ((⟨0, (IntKind.i64.wrap ((1 : Int) + v19.1)), x2, true, v22.1, true, (IntKind.i64.wrap (v24.1.tdiv (8 : Int)))⟩ : ApiDuty), v24.2)
                          else
                            some ((⟨0, (IntKind.i64.wrap ((1 : Int) + v19.1)), x2, true, v22.1, false, 0⟩ : ApiDuty), v23.2)
                    else
                      (srcNext v21.2 (4 : Int)).bind fun v25 =>
                        if (v25.1 == (1 : Int)) = true then
                          (srcRate v25.2).bind fun v26 =>
                            if false = true then
                              some ((⟨0, (IntKind.i64.wrap ((1 : Int) + v19.1)), x2, false, 0, true, (if 0 < (IntKind.i64.wrap (v26.1.tdiv (8 : Int))) then 0 else (IntKind.i64.wrap (v26.1.tdiv (8 : Int))))⟩ : ApiDuty), v26.2)
                            else
                              some ((⟨0, (IntKind.i64.wrap ((1 : Int) + v19.1)), x2, false, 0, true, (IntKind.i64.wrap (v26.1.tdiv (8 : Int)))⟩ : ApiDuty), v26.2)
                        else
                          some ((⟨0, (IntKind.i64.wrap ((1 : Int) + v19.1)), x2, false, 0, false, 0⟩ : ApiDuty), v25.2)
              else none
        else
          (srcNext v18.2 (4 : Int)).bind fun v27 =>
            if (v27.1 == (1 : Int)) = true then
              (srcRate v27.2).bind fun v28 =>
                (srcNext v28.2 (4 : Int)).bind fun v29 =>
                  if (v29.1 == (1 : Int)) = true then
                    (srcRate v29.2).bind fun v30 =>
                      if true = true then
                        some ((⟨0, 0, 0, true, v28.1, true, (if v28.1 < (IntKind.i64.wrap (v30.1.tdiv (8 : Int))) then v28.1 else (IntKind.i64.wrap (v30.1.tdiv (8 : Int))))⟩ : ApiDuty), v30.2)
                      else
                        some ((⟨0, 0, 0, true, v28.1, true, (IntKind.i64.wrap (v30.1.tdiv (8 : Int)))⟩ : ApiDuty), v30.2)
                  else
                    some ((⟨0, 0, 0, true, v28.1, false, 0⟩ : ApiDuty), v29.2)
            else
              (srcNext v27.2 (4 : Int)).bind fun v31 =>
                if (v31.1 == (1 : Int)) = true then
                  (srcRate v31.2).bind fun v32 =>
                    if false = true then
                      some ((⟨0, 0, 0, false, 0, true, (if 0 < (IntKind.i64.wrap (v32.1.tdiv (8 : Int))) then 0 else (IntKind.i64.wrap (v32.1.tdiv (8 : Int))))⟩ : ApiDuty), v32.2)
                    else
                      some ((⟨0, 0, 0, false, 0, true, (IntKind.i64.wrap (v32.1.tdiv (8 : Int)))⟩ : ApiDuty), v32.2)
                else
                  some ((⟨0, 0, 0, false, 0, false, 0⟩ : ApiDuty), v31.2)

noncomputable def madeCut (l : (List Int)) (n1 : Int) : Option ((List Int)) :=
  if (decide (n1 < (l.length : Int))) = true then
    if (0 ≤ (0 : Int) ∧ (0 : Int) ≤ n1 ∧ n1 ≤ (l.length : Int)) then
      some ((l.take n1.toNat).drop (0 : Int).toNat)
    else none
  else
    some l

noncomputable def madeDuty (l : (List Int)) : Option (ApiDuty) :=
  (madeCut l (12 : Int)).bind fun v =>
    (srcDuty (⟨v, 0⟩ : CustomsmadeSource)).bind fun v2 =>
      some v2.1

end Go.C
