/- Plain functions, read off the program by program (gen.py): no program in sight. -/
import Derived.Test.YtinickkcieecdaaGreatDoorPl
import Derived.Test.YtinickkcieecdaaGreatDoorPa
import Derived.Test.YtinickkcieecdaaGreatDoorPb
import Derived.Test.YtinickkcieecdaaGreatDoorPc
set_option linter.unusedVariables false
namespace Go.C
open Go.V

noncomputable def dutyPercentage_j1 (s : Str) : Option (Str) :=
  if (s.length + ([37] : Str).length ≤ 9223372036854775807) then
    some (s ++ ([37] : Str))
  else none
noncomputable def dutyPercentage (rate : Int) : Option (Str) :=
  (itoa (IntKind.i64.wrap (rate.tdiv (10000 : Int)))).bind fun v =>
    if ((rate.tmod (10000 : Int)) != (0 : Int)) = true then
      (itoa (IntKind.i64.wrap ((10000 : Int) + (rate.tmod (10000 : Int))))).bind fun v2 =>
        if (0 ≤ (1 : Int) ∧ (1 : Int) ≤ (v2.length : Int)) then
          (trimRightS (v2.drop (1 : Int).toNat) ([48] : Str)).bind fun v3 =>
            if (([46] : Str).length + v3.length ≤ 9223372036854775807) then
              if (v.length + (([46] : Str) ++ v3).length ≤ 9223372036854775807) then
                dutyPercentage_j1 (v ++ (([46] : Str) ++ v3))
              else none
            else none
        else none
    else
      dutyPercentage_j1 v

noncomputable def dutyParsePercentage (s : Str) : Option (Int × Bool) :=
  (cutSuffixS s ([37] : Str)).bind fun v =>
    (cutS v.1 ([46] : Str)).bind fun v2 =>
      if (bif (bif (!v.2) then true else (decide ((4 : Int) < (v2.1.length : Int)))) then true else (decide ((4 : Int) < (v2.2.1.length : Int)))) = true then
        some ((0 : Int), false)
      else
        if (v2.1.length + v2.2.1.length ≤ 9223372036854775807) then
          if (0 ≤ (v2.2.1.length : Int) ∧ (v2.2.1.length : Int) ≤ (([48, 48, 48, 48] : Str).length : Int)) then
            if ((v2.1 ++ v2.2.1).length + (([48, 48, 48, 48] : Str).drop (v2.2.1.length : Int).toNat).length ≤ 9223372036854775807) then
              (atoiS ((v2.1 ++ v2.2.1) ++ (([48, 48, 48, 48] : Str).drop (v2.2.1.length : Int).toNat))).bind fun v3 =>
                some (v3.1, v3.2)
            else none
          else none
        else none

noncomputable def dutyFormat_j4 (s2 : Str) : Option (Str) :=
  some s2
noncomputable def dutyFormat_j3 (d : ApiDuty) (s : Str) : Option (Str) :=
  if d.HasLeast = true then
    (dutyPercentage d.Least).bind fun v3 =>
      if (([32, 109, 105, 110, 32] : Str).length + v3.length ≤ 9223372036854775807) then
        if (s.length + (([32, 109, 105, 110, 32] : Str) ++ v3).length ≤ 9223372036854775807) then
          dutyFormat_j4 (s ++ (([32, 109, 105, 110, 32] : Str) ++ v3))
        else none
      else none
  else
    dutyFormat_j4 s
noncomputable def dutyFormat_j2 (d : ApiDuty) (terms2 : (List Str)) : Option (Str) :=
  (joinS terms2 ([32, 43, 32] : Str)).bind fun v2 =>
    if d.HasMost = true then
      (dutyPercentage d.Most).bind fun v4 =>
        if (([32, 109, 97, 120, 32] : Str).length + v4.length ≤ 9223372036854775807) then
          if (v2.length + (([32, 109, 97, 120, 32] : Str) ++ v4).length ≤ 9223372036854775807) then
            dutyFormat_j3 d (v2 ++ (([32, 109, 97, 120, 32] : Str) ++ v4))
          else none
        else none
    else
      dutyFormat_j3 d v2
noncomputable def dutyFormat_j1 (d : ApiDuty) (terms : (List Str)) : Option (Str) :=
  if (d.Amount != (0 : Int)) = true then
    (moneyFormat d.Amount).bind fun v5 =>
      if (v5.length + ([47] : Str).length ≤ 9223372036854775807) then
        (itoa d.Per).bind fun v6 =>
          if ((v5 ++ ([47] : Str)).length + v6.length ≤ 9223372036854775807) then
            if (terms.length + [((v5 ++ ([47] : Str)) ++ v6)].length ≤ 137438953472) then
              dutyFormat_j2 d (terms ++ [((v5 ++ ([47] : Str)) ++ v6)])
            else none
          else none
      else none
  else
    dutyFormat_j2 d terms
noncomputable def dutyFormat (d : ApiDuty) : Option (Str) :=
  (dutyValidate d).bind fun v =>
    if (v != (0 : Int)) = true then
      some ([] : Str)
    else
      if (bif (d.Rate != (0 : Int)) then true else (d.Amount == (0 : Int))) = true then
        (dutyPercentage d.Rate).bind fun v7 =>
          if (0 + [v7].length ≤ 137438953472) then
            dutyFormat_j1 d [v7]
          else none
      else
        dutyFormat_j1 d []

noncomputable def dutyParseTerms_j1 (d : ApiDuty) (words2 : (List Str)) (c0_0 : Int) : Option ((List Str) × Bool × ApiDuty) :=
  (words2[0]?).bind fun x2 =>
    (cutS x2 ([47] : Str)).bind fun v2 =>
      (moneyParse v2.1).bind fun v3 =>
        (atoiS v2.2.1).bind fun v4 =>
          if (0 ≤ (1 : Int) ∧ (1 : Int) ≤ (words2.length : Int)) then
            some ((words2.drop (1 : Int).toNat), (bif (v3.2 == (0 : Int)) then v4.2 else false), (⟨c0_0, v3.1, v4.1, d.HasMost, d.Most, d.HasLeast, d.Least⟩ : ApiDuty))
          else none
noncomputable def dutyParseTerms (d : ApiDuty) (words : (List Str)) : Option ((List Str) × Bool × ApiDuty) :=
  (words[0]?).bind fun x =>
    (dutyParsePercentage x).bind fun v =>
      if v.2 = true then
        if ((!(decide ((words.length : Int) < (3 : Int)))) = true → (0 ≤ (1 : Int) ∧ (1 : Int) < (words.length : Int))) then
          if (bif (decide ((words.length : Int) < (3 : Int))) then true else (!((words.getD 1 default) == ([43] : Str)))) = true then
            if (0 ≤ (1 : Int) ∧ (1 : Int) ≤ (words.length : Int)) then
              some ((words.drop (1 : Int).toNat), true, (⟨v.1, d.Amount, d.Per, d.HasMost, d.Most, d.HasLeast, d.Least⟩ : ApiDuty))
            else none
          else
            if (0 ≤ (2 : Int) ∧ (2 : Int) ≤ (words.length : Int)) then
              dutyParseTerms_j1 d (words.drop (2 : Int).toNat) v.1
            else none
        else none
      else
        dutyParseTerms_j1 d words d.Rate

noncomputable def dutyParseBound_j1 (d : ApiDuty) (v : Int × Bool) (c0_3 : Bool) (c0_4 : Int) (c0_5 : Bool) (c0_6 : Int) : Option (Bool × ApiDuty) :=
  some (v.2, (⟨d.Rate, d.Amount, d.Per, c0_3, c0_4, c0_5, c0_6⟩ : ApiDuty))
noncomputable def dutyParseBound (d : ApiDuty) (name : Str) (text : Str) : Option (Bool × ApiDuty) :=
  (dutyParsePercentage text).bind fun v =>
    if (name == ([109, 97, 120] : Str)) = true then
      dutyParseBound_j1 d v true v.1 d.HasLeast d.Least
    else
      if (name == ([109, 105, 110] : Str)) = true then
        dutyParseBound_j1 d v d.HasMost d.Most true v.1
      else
        some (false, d)

noncomputable def dutyParseWords_j1 (ok : Bool) (c4_0 : Int) (c4_1 : Int) (c4_2 : Int) (c4_3 : Bool) (c4_4 : Int) (c4_5 : Bool) (c4_6 : Int) : Option (ApiDuty × Bool) :=
  some ((⟨c4_0, c4_1, c4_2, c4_3, c4_4, c4_5, c4_6⟩ : ApiDuty), ok)
noncomputable def dutyParseWords_j2 (words2 : (List Str)) (ok2 : Bool) (c4_02 : Int) (c4_12 : Int) (c4_22 : Int) (c4_32 : Bool) (c4_42 : Int) (c4_52 : Bool) (c4_62 : Int) : Option (ApiDuty × Bool) :=
  (words2[0]?).bind fun x =>
    (words2[1]?).bind fun x2 =>
      (dutyParseBound (⟨c4_02, c4_12, c4_22, c4_32, c4_42, c4_52, c4_62⟩ : ApiDuty) x x2).bind fun v2 =>
        dutyParseWords_j1 (bif v2.1 then ok2 else false) v2.2.Rate v2.2.Amount v2.2.Per v2.2.HasMost v2.2.Most v2.2.HasLeast v2.2.Least
noncomputable def dutyParseWords (words : (List Str)) : Option (ApiDuty × Bool) :=
  (dutyParseTerms (⟨0, 0, 0, false, 0, false, 0⟩ : ApiDuty) words).bind fun v =>
    if ((v.1.length : Int) == (4 : Int)) = true then
      (v.1[0]?).bind fun x3 =>
        (v.1[1]?).bind fun x4 =>
          (dutyParseBound v.2.2 x3 x4).bind fun v3 =>
            if (0 ≤ (2 : Int) ∧ (2 : Int) ≤ (v.1.length : Int)) then
              dutyParseWords_j2 (v.1.drop (2 : Int).toNat) (bif v3.1 then v.2.1 else false) v3.2.Rate v3.2.Amount v3.2.Per v3.2.HasMost v3.2.Most v3.2.HasLeast v3.2.Least
            else none
    else
      if ((v.1.length : Int) == (2 : Int)) = true then
        dutyParseWords_j2 v.1 v.2.1 v.2.2.Rate v.2.2.Amount v.2.2.Per v.2.2.HasMost v.2.2.Most v.2.2.HasLeast v.2.2.Least
      else
        if ((v.1.length : Int) == (0 : Int)) = true then
          dutyParseWords_j1 v.2.1 v.2.2.Rate v.2.2.Amount v.2.2.Per v.2.2.HasMost v.2.2.Most v.2.2.HasLeast v.2.2.Least
        else
          dutyParseWords_j1 false v.2.2.Rate v.2.2.Amount v.2.2.Per v.2.2.HasMost v.2.2.Most v.2.2.HasLeast v.2.2.Least

noncomputable def dutyParse (s : Str) : Option (ApiDuty × Int) :=
  (splitS s ([32] : Str)).bind fun v =>
    (dutyParseWords v).bind fun v2 =>
      (if (!(!v2.2)) = true then dutyValidate v2.1 else some default).bind fun v3 =>
        (if (!(bif (!v2.2) then true else (v3 != (0 : Int)))) = true then dutyFormat v2.1 else some default).bind fun v4 =>
          if (bif (bif (!v2.2) then true else (v3 != (0 : Int))) then true else (!(v4 == s))) = true then
            some ((⟨0, 0, 0, false, 0, false, 0⟩ : ApiDuty), (4 : Int))
          else
            some (v2.1, (0 : Int))

noncomputable def refFormatDuty_j3 (s3 : Str) : Option (Str) :=
  some s3
noncomputable def refFormatDuty_j2 (d : ApiDuty) (s2 : Str) : Option (Str) :=
  if d.HasLeast = true then
    if (s2.length + ([32, 109, 105, 110, 32] : Str).length ≤ 9223372036854775807) then
      (r12Percent d.Least).bind fun v3 =>
        if ((s2 ++ ([32, 109, 105, 110, 32] : Str)).length + v3.length ≤ 9223372036854775807) then
          refFormatDuty_j3 ((s2 ++ ([32, 109, 105, 110, 32] : Str)) ++ v3)
        else none
    else none
  else
    refFormatDuty_j3 s2
noncomputable def refFormatDuty_j1 (d : ApiDuty) (s : Str) : Option (Str) :=
  if d.HasMost = true then
    if (s.length + ([32, 109, 97, 120, 32] : Str).length ≤ 9223372036854775807) then
      (r12Percent d.Most).bind fun v4 =>
        if ((s ++ ([32, 109, 97, 120, 32] : Str)).length + v4.length ≤ 9223372036854775807) then
          refFormatDuty_j2 d ((s ++ ([32, 109, 97, 120, 32] : Str)) ++ v4)
        else none
    else none
  else
    refFormatDuty_j2 d s
noncomputable def refFormatDuty (d : ApiDuty) : Option (Str) :=
  (refDuty d).bind fun v =>
    if (v != (0 : Int)) = true then
      some ([] : Str)
    else
      (r12Percent d.Rate).bind fun v2 =>
        if (decide ((0 : Int) < d.Amount)) = true then
          (r02Format d.Amount).bind fun v5 =>
            if (v5.length + ([47] : Str).length ≤ 9223372036854775807) then
              (r02Digits d.Per).bind fun v6 =>
                if ((v5 ++ ([47] : Str)).length + v6.length ≤ 9223372036854775807) then
                  if (d.Rate == (0 : Int)) = true then
                    refFormatDuty_j1 d ((v5 ++ ([47] : Str)) ++ v6)
                  else
                    if (v2.length + ([32, 43, 32] : Str).length ≤ 9223372036854775807) then
                      if ((v2 ++ ([32, 43, 32] : Str)).length + ((v5 ++ ([47] : Str)) ++ v6).length ≤ 9223372036854775807) then
                        refFormatDuty_j1 d ((v2 ++ ([32, 43, 32] : Str)) ++ ((v5 ++ ([47] : Str)) ++ v6))
                      else none
                    else none
                else none
            else none
        else
          refFormatDuty_j1 d v2

noncomputable def refParseDuty_j1 (s : Str) (c4_0 : Int) (c4_1 : Int) (c4_2 : Int) (c4_3 : Bool) (c4_4 : Int) (c4_5 : Bool) (c4_6 : Int) : Option (ApiDuty × Int) :=
  (if (!(s == ([] : Str))) = true then refFormatDuty (⟨c4_0, c4_1, c4_2, c4_3, c4_4, c4_5, c4_6⟩ : ApiDuty) else some default).bind fun v2 =>
    if (bif (s == ([] : Str)) then true else (!(v2 == s))) = true then
      some ((⟨0, 0, 0, false, 0, false, 0⟩ : ApiDuty), (4 : Int))
    else
      some ((⟨c4_0, c4_1, c4_2, c4_3, c4_4, c4_5, c4_6⟩ : ApiDuty), (0 : Int))
noncomputable def refParseDuty_j2 (s : Str) (v : (List Str)) (i4 : Int) (c4_06 : Int) (c4_16 : Int) (c4_26 : Int) (c4_36 : Bool) (c4_46 : Int) (c4_56 : Bool) (c4_66 : Int) : Option ((Int × Int × Int × Int × Bool × Int × Bool × Int) ⊕ (Int × Int × Int × Bool × Int × Bool × Int)) :=
  some (.inl ((IntKind.i64.wrap (i4 + (1 : Int))), c4_06, c4_16, c4_26, c4_36, c4_46, c4_56, c4_66))
noncomputable def refParseDuty_b1 (s : Str) (v : (List Str)) : (Int × Int × Int × Int × Bool × Int × Bool × Int) → Option ((Int × Int × Int × Int × Bool × Int × Bool × Int) ⊕ (Int × Int × Int × Bool × Int × Bool × Int))
  | (i, c4_02, c4_12, c4_22, c4_32, c4_42, c4_52, c4_62) =>
    if (decide (i < (v.length : Int))) = true then
      if (0 ≤ i) then
        (v[i.toNat]?).bind fun x9 =>
          (r08Split x9 (47 : Int)).bind fun v9 =>
            if ((v9.length : Int) == (2 : Int)) = true then
              (v9[0]?).bind fun x10 =>
                (r02Parse x10).bind fun v10 =>
                  (v9[1]?).bind fun x11 =>
                    (r08Num x11).bind fun v11 =>
                      refParseDuty_j2 s v i c4_02 v10.1 v11 c4_32 c4_42 c4_52 c4_62
            else
              if (0 ≤ i) then
                (v[i.toNat]?).bind fun x12 =>
                  if (bif (x12 == ([109, 97, 120] : Str)) then (decide ((IntKind.i64.wrap (i + (1 : Int))) < (v.length : Int))) else false) = true then
                    if (0 ≤ (IntKind.i64.wrap (i + (1 : Int)))) then
                      (v[(IntKind.i64.wrap (i + (1 : Int))).toNat]?).bind fun x13 =>
                        (refShare x13).bind fun v12 =>
                          refParseDuty_j2 s v (IntKind.i64.wrap (i + (1 : Int))) c4_02 c4_12 c4_22 true v12 c4_52 c4_62
                    else none
                  else
                    if (0 ≤ i) then
                      (v[i.toNat]?).bind fun x14 =>
                        if (bif (x14 == ([109, 105, 110] : Str)) then (decide ((IntKind.i64.wrap (i + (1 : Int))) < (v.length : Int))) else false) = true then
                          if (0 ≤ (IntKind.i64.wrap (i + (1 : Int)))) then
                            (v[(IntKind.i64.wrap (i + (1 : Int))).toNat]?).bind fun x15 =>
                              (refShare x15).bind fun v13 =>
                                refParseDuty_j2 s v (IntKind.i64.wrap (i + (1 : Int))) c4_02 c4_12 c4_22 c4_32 c4_42 true v13
                          else none
                        else
                          if (i == (0 : Int)) = true then
                            if (0 ≤ i) then
                              (v[i.toNat]?).bind fun x16 =>
                                (refShare x16).bind fun v14 =>
                                  refParseDuty_j2 s v i v14 c4_12 c4_22 c4_32 c4_42 c4_52 c4_62
                            else none
                          else
                            refParseDuty_j2 s v i c4_02 c4_12 c4_22 c4_32 c4_42 c4_52 c4_62
                    else none
              else none
      else none
    else
      some (.inr (c4_02, c4_12, c4_22, c4_32, c4_42, c4_52, c4_62))
noncomputable def refParseDuty (s : Str) : Option (ApiDuty × Int) :=
  (r08Split s (32 : Int)).bind fun v =>
    (loopO (refParseDuty_b1 s v) ((0 : Int), 0, 0, 0, false, 0, false, 0)).bind fun e => match e with
      | (c4_05, c4_15, c4_25, c4_35, c4_45, c4_55, c4_65) =>
        refParseDuty_j1 s c4_05 c4_15 c4_25 c4_35 c4_45 c4_55 c4_65

end Go.C
