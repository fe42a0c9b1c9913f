/- Plain functions, read off the program by program (gen.py): no program in sight. -/
import Derived.Test.YtinickkcieecdaaGreatDoorPl
import Derived.Test.YtinickkcieecdaaGreatDoorPa
import Derived.Test.YtinickkcieecdaaGreatDoorPb
import Derived.Test.YtinickkcieecdaaGreatDoorPc
set_option linter.unusedVariables false
namespace Go.C
open Go.V

noncomputable def dutyPercentage (rate : Int) : Option (Str) :=
  (itoa (IntKind.i64.wrap (rate.tdiv (10000 : Int)))).bind fun v =>
    if ((rate.tmod (10000 : Int)) != (0 : Int)) = true then
      (itoa (IntKind.i64.wrap ((10000 : Int) + (rate.tmod (10000 : Int))))).bind fun v2 =>
        if (0 ≤ (1 : Int) ∧ (1 : Int) ≤ (v2.length : Int)) then
          (trimRightS (v2.drop (1 : Int).toNat) ([48] : Str)).bind fun v3 =>
            if (([46] : Str).length + v3.length ≤ 9223372036854775807) then
              if (v.length + (([46] : Str) ++ v3).length ≤ 9223372036854775807) then
                if ((v ++ (([46] : Str) ++ v3)).length + ([37] : Str).length ≤ 9223372036854775807) then
                  some ((v ++ (([46] : Str) ++ v3)) ++ ([37] : Str))
                else none
              else none
            else none
        else none
    else
      if (v.length + ([37] : Str).length ≤ 9223372036854775807) then
        some (v ++ ([37] : Str))
      else none

noncomputable def dutyParsePercentage (s : Str) : Option (Int × Bool) :=
  (cutSuffixS s ([37] : Str)).bind fun v =>
    (cutS v.1 ([46] : Str)).bind fun v2 =>
      if (bif (bif (!v.2) then true else (decide ((4 : Int) < (v2.1.length : Int)))) then true else (decide ((4 : Int) < (v2.2.1.length : Int)))) = true then
        some ((0 : Int), false)
      else
        if (v2.1.length + v2.2.1.length ≤ 9223372036854775807) then
          if (0 ≤ (v2.2.1.length : Int) ∧ (v2.2.1.length : Int) ≤ (([48, 48, 48, 48] : Str).length : Int)) then
            if ((v2.1 ++ v2.2.1).length + (([48, 48, 48, 48] : Str).drop (v2.2.1.length : Int).toNat).length ≤ 9223372036854775807) then
              (atoiS ((v2.1 ++ v2.2.1) ++ (([48, 48, 48, 48] : Str).drop (v2.2.1.length : Int).toNat))).bind fun v3 =>
                some (v3.1, v3.2)
            else none
          else none
        else none

noncomputable def dutyFormat (d : ApiDuty) : Option (Str) :=
  (dutyValidate d).bind fun v =>
    if (v != (0 : Int)) = true then
      some ([] : Str)
    else
      if (bif (d.Rate != (0 : Int)) then true else (d.Amount == (0 : Int))) = true then
        (dutyPercentage d.Rate).bind fun v2 =>
          if (0 + [v2].length ≤ 137438953472) then
            if (d.Amount != (0 : Int)) = true then
              (moneyFormat d.Amount).bind fun v3 =>
                if (v3.length + ([47] : Str).length ≤ 9223372036854775807) then
                  (itoa d.Per).bind fun v4 =>
                    if ((v3 ++ ([47] : Str)).length + v4.length ≤ 9223372036854775807) then
                      if ([v2].length + [((v3 ++ ([47] : Str)) ++ v4)].length ≤ 137438953472) then
                        (joinS ([v2] ++ [((v3 ++ ([47] : Str)) ++ v4)]) ([32, 43, 32] : Str)).bind fun v5 =>
                          if d.HasMost = true then
                            (dutyPercentage d.Most).bind fun v6 =>
                              if (([32, 109, 97, 120, 32] : Str).length + v6.length ≤ 9223372036854775807) then
                                if (v5.length + (([32, 109, 97, 120, 32] : Str) ++ v6).length ≤ 9223372036854775807) then
                                  if d.HasLeast = true then
                                    (dutyPercentage d.Least).bind fun v7 =>
                                      if (([32, 109, 105, 110, 32] : Str).length + v7.length ≤ 9223372036854775807) then
                                        if ((v5 ++ (([32, 109, 97, 120, 32] : Str) ++ v6)).length + (([32, 109, 105, 110, 32] : Str) ++ v7).length ≤ 9223372036854775807) then
                                          some ((v5 ++ (([32, 109, 97, 120, 32] : Str) ++ v6)) ++ (([32, 109, 105, 110, 32] : Str) ++ v7))
                                        else none
                                      else none
                                  else
                                    some (v5 ++ (([32, 109, 97, 120, 32] : Str) ++ v6))
                                else none
                              else none
                          else
                            if d.HasLeast = true then
                              (dutyPercentage d.Least).bind fun v8 =>
                                if (([32, 109, 105, 110, 32] : Str).length + v8.length ≤ 9223372036854775807) then
                                  if (v5.length + (([32, 109, 105, 110, 32] : Str) ++ v8).length ≤ 9223372036854775807) then
                                    some (v5 ++ (([32, 109, 105, 110, 32] : Str) ++ v8))
                                  else none
                                else none
                            else
                              some v5
                      else none
                    else none
                else none
            else
              (joinS [v2] ([32, 43, 32] : Str)).bind fun v9 =>
                if d.HasMost = true then
                  (dutyPercentage d.Most).bind fun v10 =>
                    if (([32, 109, 97, 120, 32] : Str).length + v10.length ≤ 9223372036854775807) then
                      if (v9.length + (([32, 109, 97, 120, 32] : Str) ++ v10).length ≤ 9223372036854775807) then
                        if d.HasLeast = true then
                          (dutyPercentage d.Least).bind fun v11 =>
                            if (([32, 109, 105, 110, 32] : Str).length + v11.length ≤ 9223372036854775807) then
                              if ((v9 ++ (([32, 109, 97, 120, 32] : Str) ++ v10)).length + (([32, 109, 105, 110, 32] : Str) ++ v11).length ≤ 9223372036854775807) then
                                some ((v9 ++ (([32, 109, 97, 120, 32] : Str) ++ v10)) ++ (([32, 109, 105, 110, 32] : Str) ++ v11))
                              else none
                            else none
                        else
                          some (v9 ++ (([32, 109, 97, 120, 32] : Str) ++ v10))
                      else none
                    else none
                else
                  if d.HasLeast = true then
                    (dutyPercentage d.Least).bind fun v12 =>
                      if (([32, 109, 105, 110, 32] : Str).length + v12.length ≤ 9223372036854775807) then
                        if (v9.length + (([32, 109, 105, 110, 32] : Str) ++ v12).length ≤ 9223372036854775807) then
                          some (v9 ++ (([32, 109, 105, 110, 32] : Str) ++ v12))
                        else none
                      else none
                  else
                    some v9
          else none
      else
        if (d.Amount != (0 : Int)) = true then
          (moneyFormat d.Amount).bind fun v13 =>
            if (v13.length + ([47] : Str).length ≤ 9223372036854775807) then
              (itoa d.Per).bind fun v14 =>
                if ((v13 ++ ([47] : Str)).length + v14.length ≤ 9223372036854775807) then
                  if (0 + [((v13 ++ ([47] : Str)) ++ v14)].length ≤ 137438953472) then
                    (joinS [((v13 ++ ([47] : Str)) ++ v14)] ([32, 43, 32] : Str)).bind fun v15 =>
                      if d.HasMost = true then
                        (dutyPercentage d.Most).bind fun v16 =>
                          if (([32, 109, 97, 120, 32] : Str).length + v16.length ≤ 9223372036854775807) then
                            if (v15.length + (([32, 109, 97, 120, 32] : Str) ++ v16).length ≤ 9223372036854775807) then
                              if d.HasLeast = true then
                                (dutyPercentage d.Least).bind fun v17 =>
                                  if (([32, 109, 105, 110, 32] : Str).length + v17.length ≤ 9223372036854775807) then
                                    if ((v15 ++ (([32, 109, 97, 120, 32] : Str) ++ v16)).length + (([32, 109, 105, 110, 32] : Str) ++ v17).length ≤ 9223372036854775807) then
                                      some ((v15 ++ (([32, 109, 97, 120, 32] : Str) ++ v16)) ++ (([32, 109, 105, 110, 32] : Str) ++ v17))
                                    else none
                                  else none
                              else
                                some (v15 ++ (([32, 109, 97, 120, 32] : Str) ++ v16))
                            else none
                          else none
                      else
                        if d.HasLeast = true then
                          (dutyPercentage d.Least).bind fun v18 =>
                            if (([32, 109, 105, 110, 32] : Str).length + v18.length ≤ 9223372036854775807) then
                              if (v15.length + (([32, 109, 105, 110, 32] : Str) ++ v18).length ≤ 9223372036854775807) then
                                some (v15 ++ (([32, 109, 105, 110, 32] : Str) ++ v18))
                              else none
                            else none
                        else
                          some v15
                  else none
                else none
            else none
        else
          (joinS [] ([32, 43, 32] : Str)).bind fun v19 =>
            if d.HasMost = true then
              (dutyPercentage d.Most).bind fun v20 =>
                if (([32, 109, 97, 120, 32] : Str).length + v20.length ≤ 9223372036854775807) then
                  if (v19.length + (([32, 109, 97, 120, 32] : Str) ++ v20).length ≤ 9223372036854775807) then
                    if d.HasLeast = true then
                      (dutyPercentage d.Least).bind fun v21 =>
                        if (([32, 109, 105, 110, 32] : Str).length + v21.length ≤ 9223372036854775807) then
                          if ((v19 ++ (([32, 109, 97, 120, 32] : Str) ++ v20)).length + (([32, 109, 105, 110, 32] : Str) ++ v21).length ≤ 9223372036854775807) then
                            some ((v19 ++ (([32, 109, 97, 120, 32] : Str) ++ v20)) ++ (([32, 109, 105, 110, 32] : Str) ++ v21))
                          else none
                        else none
                    else
                      some (v19 ++ (([32, 109, 97, 120, 32] : Str) ++ v20))
                  else none
                else none
            else
              if d.HasLeast = true then
                (dutyPercentage d.Least).bind fun v22 =>
                  if (([32, 109, 105, 110, 32] : Str).length + v22.length ≤ 9223372036854775807) then
                    if (v19.length + (([32, 109, 105, 110, 32] : Str) ++ v22).length ≤ 9223372036854775807) then
                      some (v19 ++ (([32, 109, 105, 110, 32] : Str) ++ v22))
                    else none
                  else none
              else
                some v19

noncomputable def dutyParseTerms (a0 : ApiDuty) (a1 : (List Str)) : Option ((List Str) × Bool × ApiDuty) :=
  (a1[0]?).bind fun x =>
    (dutyParsePercentage x).bind fun v =>
      if v.2 = true then
        if ((!(decide ((a1.length : Int) < (3 : Int)))) = true → (0 ≤ (1 : Int) ∧ (1 : Int) < (a1.length : Int))) then
          if (bif (decide ((a1.length : Int) < (3 : Int))) then true else (!((a1.getD 1 default) == ([43] : Str)))) = true then
            if (0 ≤ (1 : Int) ∧ (1 : Int) ≤ (a1.length : Int)) then
              some ((a1.drop (1 : Int).toNat), true, (⟨v.1, a0.Amount, a0.Per, a0.HasMost, a0.Most, a0.HasLeast, a0.Least⟩ : ApiDuty))
            else none
          else
            if (0 ≤ (2 : Int) ∧ (2 : Int) ≤ (a1.length : Int)) then
              ((a1.drop (2 : Int).toNat)[0]?).bind fun x2 =>
                (cutS x2 ([47] : Str)).bind fun v2 =>
                  (moneyParse v2.1).bind fun v3 =>
                    (atoiS v2.2.1).bind fun v4 =>
                      if (0 ≤ (1 : Int) ∧ (1 : Int) ≤ ((a1.drop (2 : Int).toNat).length : Int)) then
                        some (((a1.drop (2 : Int).toNat).drop (1 : Int).toNat), (bif (v3.2 == (0 : Int)) then v4.2 else false), (⟨v.1, v3.1, v4.1, a0.HasMost, a0.Most, a0.HasLeast, a0.Least⟩ : ApiDuty))
                      else none
            else none
        else none
      else
        (a1[0]?).bind fun x3 =>
          (cutS x3 ([47] : Str)).bind fun v5 =>
            (moneyParse v5.1).bind fun v6 =>
              (atoiS v5.2.1).bind fun v7 =>
                if (0 ≤ (1 : Int) ∧ (1 : Int) ≤ (a1.length : Int)) then
                  some ((a1.drop (1 : Int).toNat), (bif (v6.2 == (0 : Int)) then v7.2 else false), (⟨a0.Rate, v6.1, v7.1, a0.HasMost, a0.Most, a0.HasLeast, a0.Least⟩ : ApiDuty))
                else none

noncomputable def dutyParseBound (d : ApiDuty) (name : Str) (text : Str) : Option (Bool × ApiDuty) :=
  (dutyParsePercentage text).bind fun v =>
    if (name == ([109, 97, 120] : Str)) = true then
      some (v.2, (⟨d.Rate, d.Amount, d.Per, true, v.1, d.HasLeast, d.Least⟩ : ApiDuty))
    else
      if (name == ([109, 105, 110] : Str)) = true then
        some (v.2, (⟨d.Rate, d.Amount, d.Per, d.HasMost, d.Most, true, v.1⟩ : ApiDuty))
      else
        some (false, d)

noncomputable def dutyParseWords_j1 (words2 : (List Str)) (ok : Bool) (c4_0 : Int) (c4_1 : Int) (c4_2 : Int) (c4_3 : Bool) (c4_4 : Int) (c4_5 : Bool) (c4_6 : Int) : Option (ApiDuty × Bool) :=
  (words2[0]?).bind fun x =>
    (words2[1]?).bind fun x2 =>
      (dutyParseBound (⟨c4_0, c4_1, c4_2, c4_3, c4_4, c4_5, c4_6⟩ : ApiDuty) x x2).bind fun v2 =>
        some (v2.2, (bif v2.1 then ok else false))
noncomputable def dutyParseWords (words : (List Str)) : Option (ApiDuty × Bool) :=
  (dutyParseTerms (⟨0, 0, 0, false, 0, false, 0⟩ : ApiDuty) words).bind fun v =>
    if ((v.1.length : Int) == (4 : Int)) = true then
      (v.1[0]?).bind fun x3 =>
        (v.1[1]?).bind fun x4 =>
          (dutyParseBound v.2.2 x3 x4).bind fun v3 =>
            if (0 ≤ (2 : Int) ∧ (2 : Int) ≤ (v.1.length : Int)) then
              dutyParseWords_j1 (v.1.drop (2 : Int).toNat) (bif v3.1 then v.2.1 else false) v3.2.Rate v3.2.Amount v3.2.Per v3.2.HasMost v3.2.Most v3.2.HasLeast v3.2.Least
            else none
    else
      if ((v.1.length : Int) == (2 : Int)) = true then
        dutyParseWords_j1 v.1 v.2.1 v.2.2.Rate v.2.2.Amount v.2.2.Per v.2.2.HasMost v.2.2.Most v.2.2.HasLeast v.2.2.Least
      else
        if ((v.1.length : Int) == (0 : Int)) = true then
          some (v.2.2, v.2.1)
        else
          some (v.2.2, false)

noncomputable def dutyParse (s : Str) : Option (ApiDuty × Int) :=
  (splitS s ([32] : Str)).bind fun v =>
    (dutyParseWords v).bind fun v2 =>
      (if (!(!v2.2)) = true then dutyValidate v2.1 else some default).bind fun v3 =>
        (if (!(bif (!v2.2) then true else (v3 != (0 : Int)))) = true then dutyFormat v2.1 else some default).bind fun v4 =>
          if (bif (bif (!v2.2) then true else (v3 != (0 : Int))) then true else (!(v4 == s))) = true then
            some ((⟨0, 0, 0, false, 0, false, 0⟩ : ApiDuty), (4 : Int))
          else
            some (v2.1, (0 : Int))

noncomputable def refFormatDuty (d : ApiDuty) : Option (Str) :=
  (refDuty d).bind fun v =>
    if (v != (0 : Int)) = true then
      some ([] : Str)
    else
      (r12Percent d.Rate).bind fun v2 =>
        if (decide ((0 : Int) < d.Amount)) = true then
          (r02Format d.Amount).bind fun v3 =>
            if (v3.length + ([47] : Str).length ≤ 9223372036854775807) then
              (r02Digits d.Per).bind fun v4 =>
                if ((v3 ++ ([47] : Str)).length + v4.length ≤ 9223372036854775807) then
                  if (d.Rate == (0 : Int)) = true then
                    if d.HasMost = true then
                      if (((v3 ++ ([47] : Str)) ++ v4).length + ([32, 109, 97, 120, 32] : Str).length ≤ 9223372036854775807) then
                        (r12Percent d.Most).bind fun v5 =>
                          if ((((v3 ++ ([47] : Str)) ++ v4) ++ ([32, 109, 97, 120, 32] : Str)).length + v5.length ≤ 9223372036854775807) then
                            if d.HasLeast = true then
                              if (((((v3 ++ ([47] : Str)) ++ v4) ++ ([32, 109, 97, 120, 32] : Str)) ++ v5).length + ([32, 109, 105, 110, 32] : Str).length ≤ 9223372036854775807) then
                                (r12Percent d.Least).bind fun v6 =>
                                  if ((((((v3 ++ ([47] : Str)) ++ v4) ++ ([32, 109, 97, 120, 32] : Str)) ++ v5) ++ ([32, 109, 105, 110, 32] : Str)).length + v6.length ≤ 9223372036854775807) then
                                    some ((((((v3 ++ ([47] : Str)) ++ v4) ++ ([32, 109, 97, 120, 32] : Str)) ++ v5) ++ ([32, 109, 105, 110, 32] : Str)) ++ v6)
                                  else none
                              else none
                            else
                              some ((((v3 ++ ([47] : Str)) ++ v4) ++ ([32, 109, 97, 120, 32] : Str)) ++ v5)
                          else none
                      else none
                    else
                      if d.HasLeast = true then
                        if (((v3 ++ ([47] : Str)) ++ v4).length + ([32, 109, 105, 110, 32] : Str).length ≤ 9223372036854775807) then
                          (r12Percent d.Least).bind fun v7 =>
                            if ((((v3 ++ ([47] : Str)) ++ v4) ++ ([32, 109, 105, 110, 32] : Str)).length + v7.length ≤ 9223372036854775807) then
                              some ((((v3 ++ ([47] : Str)) ++ v4) ++ ([32, 109, 105, 110, 32] : Str)) ++ v7)
                            else none
                        else none
                      else
                        some ((v3 ++ ([47] : Str)) ++ v4)
                  else
                    if (v2.length + ([32, 43, 32] : Str).length ≤ 9223372036854775807) then
                      if ((v2 ++ ([32, 43, 32] : Str)).length + ((v3 ++ ([47] : Str)) ++ v4).length ≤ 9223372036854775807) then
                        if d.HasMost = true then
                          if (((v2 ++ ([32, 43, 32] : Str)) ++ ((v3 ++ ([47] : Str)) ++ v4)).length + ([32, 109, 97, 120, 32] : Str).length ≤ 9223372036854775807) then
                            (r12Percent d.Most).bind fun v8 =>
                              if ((((v2 ++ ([32, 43, 32] : Str)) ++ ((v3 ++ ([47] : Str)) ++ v4)) ++ ([32, 109, 97, 120, 32] : Str)).length + v8.length ≤ 9223372036854775807) then
                                if d.HasLeast = true then
                                  if (((((v2 ++ ([32, 43, 32] : Str)) ++ ((v3 ++ ([47] : Str)) ++ v4)) ++ ([32, 109, 97, 120, 32] : Str)) ++ v8).length + ([32, 109, 105, 110, 32] : Str).length ≤ 9223372036854775807) then
                                    (r12Percent d.Least).bind fun v9 =>
                                      if ((((((v2 ++ ([32, 43, 32] : Str)) ++ ((v3 ++ ([47] : Str)) ++ v4)) ++ ([32, 109, 97, 120, 32] : Str)) ++ v8) ++ ([32, 109, 105, 110, 32] : Str)).length + v9.length ≤ 9223372036854775807) then
                                        some ((((((v2 ++ ([32, 43, 32] : Str)) ++ ((v3 ++ ([47] : Str)) ++ v4)) ++ ([32, 109, 97, 120, 32] : Str)) ++ v8) ++ ([32, 109, 105, 110, 32] : Str)) ++ v9)
                                      else none
                                  else none
                                else
                                  some ((((v2 ++ ([32, 43, 32] : Str)) ++ ((v3 ++ ([47] : Str)) ++ v4)) ++ ([32, 109, 97, 120, 32] : Str)) ++ v8)
                              else none
                          else none
                        else
                          if d.HasLeast = true then
                            if (((v2 ++ ([32, 43, 32] : Str)) ++ ((v3 ++ ([47] : Str)) ++ v4)).length + ([32, 109, 105, 110, 32] : Str).length ≤ 9223372036854775807) then
                              (r12Percent d.Least).bind fun v10 =>
                                if ((((v2 ++ ([32, 43, 32] : Str)) ++ ((v3 ++ ([47] : Str)) ++ v4)) ++ ([32, 109, 105, 110, 32] : Str)).length + v10.length ≤ 9223372036854775807) then
                                  some ((((v2 ++ ([32, 43, 32] : Str)) ++ ((v3 ++ ([47] : Str)) ++ v4)) ++ ([32, 109, 105, 110, 32] : Str)) ++ v10)
                                else none
                            else none
                          else
                            some ((v2 ++ ([32, 43, 32] : Str)) ++ ((v3 ++ ([47] : Str)) ++ v4))
                      else none
                    else none
                else none
            else none
        else
          if d.HasMost = true then
            if (v2.length + ([32, 109, 97, 120, 32] : Str).length ≤ 9223372036854775807) then
              (r12Percent d.Most).bind fun v11 =>
                if ((v2 ++ ([32, 109, 97, 120, 32] : Str)).length + v11.length ≤ 9223372036854775807) then
                  if d.HasLeast = true then
                    if (((v2 ++ ([32, 109, 97, 120, 32] : Str)) ++ v11).length + ([32, 109, 105, 110, 32] : Str).length ≤ 9223372036854775807) then
                      (r12Percent d.Least).bind fun v12 =>
                        if ((((v2 ++ ([32, 109, 97, 120, 32] : Str)) ++ v11) ++ ([32, 109, 105, 110, 32] : Str)).length + v12.length ≤ 9223372036854775807) then
                          some ((((v2 ++ ([32, 109, 97, 120, 32] : Str)) ++ v11) ++ ([32, 109, 105, 110, 32] : Str)) ++ v12)
                        else none
                    else none
                  else
                    some ((v2 ++ ([32, 109, 97, 120, 32] : Str)) ++ v11)
                else none
            else none
          else
            if d.HasLeast = true then
              if (v2.length + ([32, 109, 105, 110, 32] : Str).length ≤ 9223372036854775807) then
                (r12Percent d.Least).bind fun v13 =>
                  if ((v2 ++ ([32, 109, 105, 110, 32] : Str)).length + v13.length ≤ 9223372036854775807) then
                    some ((v2 ++ ([32, 109, 105, 110, 32] : Str)) ++ v13)
                  else none
              else none
            else
              some v2

noncomputable def refParseDuty_j1 (a0 : Str) (v : (List Str)) (t64 : Int) (c4_05 : Int) (c4_15 : Int) (c4_25 : Int) (c4_35 : Bool) (c4_45 : Int) (c4_55 : Bool) (c4_65 : Int) : Option ((Int × Int × Int × Int × Bool × Int × Bool × Int) ⊕ (Int × Int × Int × Bool × Int × Bool × Int)) :=
  some (.inl ((IntKind.i64.wrap (t64 + (1 : Int))), c4_05, c4_15, c4_25, c4_35, c4_45, c4_55, c4_65))
noncomputable def refParseDuty_b1 (a0 : Str) (v : (List Str)) : (Int × Int × Int × Int × Bool × Int × Bool × Int) → Option ((Int × Int × Int × Int × Bool × Int × Bool × Int) ⊕ (Int × Int × Int × Bool × Int × Bool × Int))
  | (t6, c4_0, c4_1, c4_2, c4_3, c4_4, c4_5, c4_6) =>
    if (decide (t6 < (v.length : Int))) = true then
      if (0 ≤ t6) then
        (v[t6.toNat]?).bind fun x9 =>
          (r08Split x9 (47 : Int)).bind fun v9 =>
            if ((v9.length : Int) == (2 : Int)) = true then
              (v9[0]?).bind fun x10 =>
                (r02Parse x10).bind fun v10 =>
                  (v9[1]?).bind fun x11 =>
                    (r08Num x11).bind fun v11 =>
                      refParseDuty_j1 a0 v t6 c4_0 v10.1 v11 c4_3 c4_4 c4_5 c4_6
            else
              if (0 ≤ t6) then
                (v[t6.toNat]?).bind fun x12 =>
                  if (bif (x12 == ([109, 97, 120] : Str)) then (decide ((IntKind.i64.wrap (t6 + (1 : Int))) < (v.length : Int))) else false) = true then
                    if (0 ≤ (IntKind.i64.wrap (t6 + (1 : Int)))) then
                      (v[(IntKind.i64.wrap (t6 + (1 : Int))).toNat]?).bind fun x13 =>
                        (refShare x13).bind fun v12 =>
                          refParseDuty_j1 a0 v (IntKind.i64.wrap (t6 + (1 : Int))) c4_0 c4_1 c4_2 true v12 c4_5 c4_6
                    else none
                  else
                    if (0 ≤ t6) then
                      (v[t6.toNat]?).bind fun x14 =>
                        if (bif (x14 == ([109, 105, 110] : Str)) then (decide ((IntKind.i64.wrap (t6 + (1 : Int))) < (v.length : Int))) else false) = true then
                          if (0 ≤ (IntKind.i64.wrap (t6 + (1 : Int)))) then
                            (v[(IntKind.i64.wrap (t6 + (1 : Int))).toNat]?).bind fun x15 =>
                              (refShare x15).bind fun v13 =>
                                refParseDuty_j1 a0 v (IntKind.i64.wrap (t6 + (1 : Int))) c4_0 c4_1 c4_2 c4_3 c4_4 true v13
                          else none
                        else
                          if (t6 == (0 : Int)) = true then
                            if (0 ≤ t6) then
                              (v[t6.toNat]?).bind fun x16 =>
                                (refShare x16).bind fun v14 =>
                                  refParseDuty_j1 a0 v t6 v14 c4_1 c4_2 c4_3 c4_4 c4_5 c4_6
                            else none
                          else
                            refParseDuty_j1 a0 v t6 c4_0 c4_1 c4_2 c4_3 c4_4 c4_5 c4_6
                    else none
              else none
      else none
    else
      some (.inr (c4_0, c4_1, c4_2, c4_3, c4_4, c4_5, c4_6))
noncomputable def refParseDuty (a0 : Str) : Option (ApiDuty × Int) :=
  (r08Split a0 (32 : Int)).bind fun v =>
    (loopO (refParseDuty_b1 a0 v) ((0 : Int), 0, 0, 0, false, 0, false, 0)).bind fun e => match e with
      | (c4_04, c4_14, c4_24, c4_34, c4_44, c4_54, c4_64) =>
        (if (!(a0 == ([] : Str))) = true then refFormatDuty (⟨c4_04, c4_14, c4_24, c4_34, c4_44, c4_54, c4_64⟩ : ApiDuty) else some default).bind fun v8 =>
          if (bif (a0 == ([] : Str)) then true else (!(v8 == a0))) = true then
            some ((⟨0, 0, 0, false, 0, false, 0⟩ : ApiDuty), (4 : Int))
          else
            some ((⟨c4_04, c4_14, c4_24, c4_34, c4_44, c4_54, c4_64⟩ : ApiDuty), (0 : Int))

end Go.C
