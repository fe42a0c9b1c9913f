/- Plain functions, read off the program by program (gen.py): no program in sight. -/
import Derived.Test.YtfeleiepnifbcaaGreatDoorPl
import Derived.Test.YtfeleiepnifbcaaGreatDoorPa
import Derived.Test.YtfeleiepnifbcaaGreatDoorPb
import Derived.Test.YtfeleiepnifbcaaGreatDoorPc
import Derived.Test.YtfeleiepnifbcaaGreatDoorPd
import Derived.Test.YtfeleiepnifbcaaGreatDoorPe
import Derived.Test.YtfeleiepnifbcaaGreatDoorPf
import Derived.Test.YtfeleiepnifbcaaGreatDoorPh
set_option linter.unusedVariables false
namespace Go.C
open Go.V

noncomputable def awake12  : Option (Bool) :=
  (ruleParse ([99, 104, 97, 110, 103, 101, 32, 52, 32, 101, 120, 99, 101, 112, 116, 32, 53, 50, 48, 52, 44, 53, 50, 48, 53, 32, 116, 111, 108, 101, 114, 97, 110, 99, 101, 32, 49, 48, 37, 32, 111, 114, 32, 102, 111, 114, 101, 105, 103, 110, 32, 52, 48, 37, 32, 97, 110, 100, 32, 112, 114, 111, 99, 101, 115, 115, 32, 97, 110, 100] : Str)).bind fun v =>
    (witness v.1 (⟨([57, 52, 48, 49, 51, 48] : Str), (100 : Int), false, [([97, 110, 100] : Str)], [(⟨([57, 52, 48, 49, 57, 48] : Str), (40 : Int), false⟩ : ApiInput)]⟩ : ApiCase)).bind fun v2 =>
      (if (v.2 == (0 : Int)) = true then ruleFormat v.1 else some default).bind fun v3 =>
        (if (bif (v.2 == (0 : Int)) then (v3 == ([99, 104, 97, 110, 103, 101, 32, 52, 32, 101, 120, 99, 101, 112, 116, 32, 53, 50, 48, 52, 44, 53, 50, 48, 53, 32, 116, 111, 108, 101, 114, 97, 110, 99, 101, 32, 49, 48, 37, 32, 111, 114, 32, 102, 111, 114, 101, 105, 103, 110, 32, 52, 48, 37, 32, 97, 110, 100, 32, 112, 114, 111, 99, 101, 115, 115, 32, 97, 110, 100] : Str)) else false) = true then ruleHolds v.1 (⟨([57, 52, 48, 49, 51, 48] : Str), (100 : Int), false, [([97, 110, 100] : Str)], [(⟨([57, 52, 48, 49, 57, 48] : Str), (40 : Int), false⟩ : ApiInput)]⟩ : ApiCase) else some default).bind fun v4 =>
          (if (bif (bif (bif (v.2 == (0 : Int)) then (v3 == ([99, 104, 97, 110, 103, 101, 32, 52, 32, 101, 120, 99, 101, 112, 116, 32, 53, 50, 48, 52, 44, 53, 50, 48, 53, 32, 116, 111, 108, 101, 114, 97, 110, 99, 101, 32, 49, 48, 37, 32, 111, 114, 32, 102, 111, 114, 101, 105, 103, 110, 32, 52, 48, 37, 32, 97, 110, 100, 32, 112, 114, 111, 99, 101, 115, 115, 32, 97, 110, 100] : Str)) else false) then v4 else false) then v2.2 else false) = true then r02Same v2.1 [(1 : Int)] else some default).bind fun v5 =>
            (if (bif (bif (bif (bif (v.2 == (0 : Int)) then (v3 == ([99, 104, 97, 110, 103, 101, 32, 52, 32, 101, 120, 99, 101, 112, 116, 32, 53, 50, 48, 52, 44, 53, 50, 48, 53, 32, 116, 111, 108, 101, 114, 97, 110, 99, 101, 32, 49, 48, 37, 32, 111, 114, 32, 102, 111, 114, 101, 105, 103, 110, 32, 52, 48, 37, 32, 97, 110, 100, 32, 112, 114, 111, 99, 101, 115, 115, 32, 97, 110, 100] : Str)) else false) then v4 else false) then v2.2 else false) then v5 else false) = true then verify v.1 (⟨([57, 52, 48, 49, 51, 48] : Str), (100 : Int), false, [([97, 110, 100] : Str)], [(⟨([57, 52, 48, 49, 57, 48] : Str), (40 : Int), false⟩ : ApiInput)]⟩ : ApiCase) [(1 : Int)] else some default).bind fun v6 =>
              (if (bif (bif (bif (bif (bif (v.2 == (0 : Int)) then (v3 == ([99, 104, 97, 110, 103, 101, 32, 52, 32, 101, 120, 99, 101, 112, 116, 32, 53, 50, 48, 52, 44, 53, 50, 48, 53, 32, 116, 111, 108, 101, 114, 97, 110, 99, 101, 32, 49, 48, 37, 32, 111, 114, 32, 102, 111, 114, 101, 105, 103, 110, 32, 52, 48, 37, 32, 97, 110, 100, 32, 112, 114, 111, 99, 101, 115, 115, 32, 97, 110, 100] : Str)) else false) then v4 else false) then v2.2 else false) then v5 else false) then v6 else false) = true then verify v.1 (⟨([57, 52, 48, 49, 51, 48] : Str), (100 : Int), false, [([97, 110, 100] : Str)], [(⟨([57, 52, 48, 49, 57, 48] : Str), (40 : Int), false⟩ : ApiInput)]⟩ : ApiCase) [(0 : Int)] else some default).bind fun v7 =>
                some (bif (bif (bif (bif (bif (bif (v.2 == (0 : Int)) then (v3 == ([99, 104, 97, 110, 103, 101, 32, 52, 32, 101, 120, 99, 101, 112, 116, 32, 53, 50, 48, 52, 44, 53, 50, 48, 53, 32, 116, 111, 108, 101, 114, 97, 110, 99, 101, 32, 49, 48, 37, 32, 111, 114, 32, 102, 111, 114, 101, 105, 103, 110, 32, 52, 48, 37, 32, 97, 110, 100, 32, 112, 114, 111, 99, 101, 115, 115, 32, 97, 110, 100] : Str)) else false) then v4 else false) then v2.2 else false) then v5 else false) then v6 else false) then (!v7) else false)

noncomputable def lawRuleCase_j2 (v : ApiCase) (c11_0 : Str) (c11_1 : Int) (c11_3 : (List Str)) (c11_4 : (List ApiInput)) : Option (Bool) :=
  (validateCase (⟨c11_0, c11_1, v.Obtained, c11_3, c11_4⟩ : ApiCase)).bind fun v6 =>
    (rCase (⟨c11_0, c11_1, v.Obtained, c11_3, c11_4⟩ : ApiCase)).bind fun v7 =>
      (if (v6 == v7) = true then awake12  else some default).bind fun v8 =>
        some (bif (v6 == v7) then v8 else false)
noncomputable def lawRuleCase_j1 (raw : ApiCase) (l : (List Int)) (which : Int) (by_ : ApiInput) (at_ : Int) (c5_4 : (List ApiInput)) : Option (Bool) :=
  (madeCase l).bind fun v =>
    (validateCase (⟨raw.Code, raw.Price, raw.Obtained, raw.Processes, c5_4⟩ : ApiCase)).bind fun v2 =>
      (rCase (⟨raw.Code, raw.Price, raw.Obtained, raw.Processes, c5_4⟩ : ApiCase)).bind fun v3 =>
        (if (!(v2 != v3)) = true then validateCase v else some default).bind fun v4 =>
          if (bif (v2 != v3) then true else (v4 != (0 : Int))) = true then
            some false
          else
            (within which (4 : Int)).bind fun v5 =>
              if (v5 == (0 : Int)) = true then
                lawRuleCase_j2 v raw.Code v.Price v.Processes v.Inputs
              else
                if (v5 == (1 : Int)) = true then
                  lawRuleCase_j2 v v.Code raw.Price v.Processes v.Inputs
                else
                  if (v5 == (2 : Int)) = true then
                    lawRuleCase_j2 v v.Code v.Price raw.Processes v.Inputs
                  else
                    if (0 + v.Inputs.length ≤ 137438953472) then
                      if (decide ((0 : Int) < (v.Inputs.length : Int))) = true then
                        (within at_ (v.Inputs.length : Int)).bind fun v9 =>
                          if (0 ≤ v9 ∧ v9 < (v.Inputs.length : Int)) then
                            lawRuleCase_j2 v v.Code v.Price v.Processes (v.Inputs.set v9.toNat by_)
                          else none
                      else
                        lawRuleCase_j2 v v.Code v.Price v.Processes v.Inputs
                    else none
noncomputable def lawRuleCase (raw : ApiCase) (l : (List Int)) (which : Int) (by_ : ApiInput) (at_ : Int) : Option (Bool) :=
  if (decide ((110 : Int) < (raw.Inputs.length : Int))) = true then
    if (0 ≤ (0 : Int) ∧ (0 : Int) ≤ (110 : Int) ∧ (110 : Int) ≤ (raw.Inputs.length : Int)) then
      lawRuleCase_j1 raw l which by_ at_ ((raw.Inputs.take (110 : Int).toNat).drop (0 : Int).toNat)
    else none
  else
    lawRuleCase_j1 raw l which by_ at_ raw.Inputs

noncomputable def lawRuleHolds (l : (List Int)) (m1 : (List Int)) : Option (Bool) :=
  (madeRule l).bind fun v =>
    (madeCase m1).bind fun v2 =>
      (witness v v2).bind fun v3 =>
        (rWitness v v2).bind fun v4 =>
          (ruleHolds v v2).bind fun v5 =>
            (rHolds v v2).bind fun v6 =>
              (if (bif (v5 == v6) then (v3.2 == v4.2) else false) = true then ruleHolds v v2 else some default).bind fun v7 =>
                (if (bif (bif (v5 == v6) then (v3.2 == v4.2) else false) then (v3.2 == v7) else false) = true then r02Same v3.1 v4.1 else some default).bind fun v8 =>
                  (if (bif (bif (bif (v5 == v6) then (v3.2 == v4.2) else false) then (v3.2 == v7) else false) then v8 else false) = true then awake12  else some default).bind fun v9 =>
                    some (bif (bif (bif (bif (v5 == v6) then (v3.2 == v4.2) else false) then (v3.2 == v7) else false) then v8 else false) then v9 else false)

noncomputable def lawRuleVerify_j1 (v : ApiRule) (v2 : ApiCase) (path2 : (List Int)) : Option (Bool) :=
  (verify v v2 path2).bind fun v6 =>
    (rVerify v v2 path2).bind fun v7 =>
      (if (v6 == v7) = true then verify v v2 path2 else some default).bind fun v8 =>
        (if ((v6 == v7) && (!(!v8))) = true then ruleHolds v v2 else some default).bind fun v9 =>
          (if (bif (v6 == v7) then (bif (!v8) then true else v9) else false) = true then awake12  else some default).bind fun v10 =>
            some (bif (bif (v6 == v7) then (bif (!v8) then true else v9) else false) then v10 else false)
noncomputable def lawRuleVerify_b1 (raw : Bool) (v : ApiRule) (v2 : ApiCase) : (Int × (List Int)) → Option ((Int × (List Int)) ⊕ ((List Int)))
  | (i, path3) =>
    if (bif (decide (i < (path3.length : Int))) then (!raw) else false) = true then
      if (0 ≤ i ∧ i < (path3.length : Int)) then
        (within (path3.getD i.toNat default) (4 : Int)).bind fun v12 =>
          if (0 ≤ i ∧ i < (path3.length : Int)) then
            some (.inl ((IntKind.i64.wrap (i + (1 : Int))), (path3.set i.toNat v12)))
          else none
      else none
    else
      some (.inr path3)
noncomputable def lawRuleVerify (l : (List Int)) (m1 : (List Int)) (path : (List Int)) (raw : Bool) : Option (Bool) :=
  (madeRule l).bind fun v =>
    (madeCase m1).bind fun v2 =>
      (witness v v2).bind fun v3 =>
        (if v3.2 = true then verify v v2 v3.1 else some default).bind fun v4 =>
          if (bif v3.2 then (!v4) else false) = true then
            some false
          else
            (madeCut path (10 : Int)).bind fun v5 =>
              if (0 + v5.length ≤ 137438953472) then
                (loopO (lawRuleVerify_b1 raw v v2) ((0 : Int), v5)).bind fun e => match e with
                  | path5 =>
                    lawRuleVerify_j1 v v2 path5
              else none

noncomputable def lawRuleMonotone_j2 (v : ApiRule) (v2 : ApiCase) (c11_42 : (List ApiInput)) : Option (Bool) :=
  (ruleHolds v v2).bind fun v3 =>
    (if (!(!v3)) = true then ruleHolds v (⟨v2.Code, v2.Price, v2.Obtained, [([97, 110, 100] : Str), ([99, 117, 116] : Str), ([111, 114] : Str), ([115, 101, 119] : Str), ([115, 112, 105, 110] : Str)], c11_42⟩ : ApiCase) else some default).bind fun v4 =>
      (if (bif (!v3) then true else v4) = true then awake12  else some default).bind fun v5 =>
        some (bif (bif (!v3) then true else v4) then v5 else false)
noncomputable def lawRuleMonotone_b1 (value : (List Int)) (v : ApiRule) (v2 : ApiCase) : (Int × (List ApiInput)) → Option ((Int × (List ApiInput)) ⊕ ((List ApiInput)))
  | (i, c11_43) =>
    if (bif (decide (i < (value.length : Int))) then (decide (i < (c11_43.length : Int))) else false) = true then
      if (0 ≤ i ∧ i < (c11_43.length : Int)) then
        if (0 ≤ i) then
          (value[i.toNat]?).bind fun x2 =>
            (within x2 (500 : Int)).bind fun v7 =>
              if (0 ≤ i ∧ i < (c11_43.length : Int)) then
                some (.inl ((IntKind.i64.wrap (i + (1 : Int))), (c11_43.set i.toNat (⟨(c11_43.getD i.toNat default).Code, (if v7 < (c11_43.getD i.toNat default).Value then v7 else (c11_43.getD i.toNat default).Value), (c11_43.getD i.toNat default).Originating⟩ : ApiInput))))
              else none
        else none
      else none
    else
      some (.inr c11_43)
noncomputable def lawRuleMonotone_j1 (value : (List Int)) (v : ApiRule) (v2 : ApiCase) (c11_4 : (List ApiInput)) : Option (Bool) :=
  (loopO (lawRuleMonotone_b1 value v v2) ((0 : Int), c11_4)).bind fun e => match e with
    | c11_45 =>
      lawRuleMonotone_j2 v v2 c11_45
noncomputable def lawRuleMonotone_j3 (origin : (List Int)) (value : (List Int)) (v : ApiRule) (v2 : ApiCase) (i3 : Int) (c11_410 : (List ApiInput)) : Option ((Int × (List ApiInput)) ⊕ ((List ApiInput))) :=
  some (.inl ((IntKind.i64.wrap (i3 + (1 : Int))), c11_410))
noncomputable def lawRuleMonotone_b2 (origin : (List Int)) (value : (List Int)) (v : ApiRule) (v2 : ApiCase) : (Int × (List ApiInput)) → Option ((Int × (List ApiInput)) ⊕ ((List ApiInput)))
  | (i3, c11_46) =>
    if (decide (i3 < (origin.length : Int))) = true then
      if (decide ((0 : Int) < (c11_46.length : Int))) = true then
        if (0 ≤ i3) then
          (origin[i3.toNat]?).bind fun x4 =>
            (within x4 (c11_46.length : Int)).bind fun v9 =>
              if (0 ≤ v9 ∧ v9 < (c11_46.length : Int)) then
                lawRuleMonotone_j3 origin value v v2 i3 (c11_46.set v9.toNat (⟨(c11_46.getD v9.toNat default).Code, (c11_46.getD v9.toNat default).Value, true⟩ : ApiInput))
              else none
        else none
      else
        lawRuleMonotone_j3 origin value v v2 i3 c11_46
    else
      some (.inr c11_46)
noncomputable def lawRuleMonotone (l : (List Int)) (m1 : (List Int)) (origin : (List Int)) (value : (List Int)) : Option (Bool) :=
  (madeRule l).bind fun v =>
    (madeCase m1).bind fun v2 =>
      if (0 + v2.Inputs.length ≤ 137438953472) then
        (loopO (lawRuleMonotone_b2 origin value v v2) ((0 : Int), v2.Inputs)).bind fun e => match e with
          | c11_49 =>
            lawRuleMonotone_j1 value v v2 c11_49
      else none

noncomputable def lawRuleConnectives (l : (List Int)) (k : (List Int)) (m1 : (List Int)) : Option (Bool) :=
  (madeRule l).bind fun v =>
    (madeRule k).bind fun v2 =>
      (madeCase m1).bind fun v3 =>
        (ruleHolds v v3).bind fun v4 =>
          (ruleHolds v2 v3).bind fun v5 =>
            (ruleValidate (⟨(5 : Int), 0, [], 0, 0, [], [v, v2]⟩ : ApiRule)).bind fun v6 =>
              (if (v6 == (0 : Int)) = true then ruleHolds (⟨(5 : Int), 0, [], 0, 0, [], [v, v2]⟩ : ApiRule) v3 else some default).bind fun v7 =>
                if (bif (v6 == (0 : Int)) then (!(v7 == (bif v4 then v5 else false))) else false) = true then
                  some false
                else
                  (ruleValidate (⟨(6 : Int), 0, [], 0, 0, [], [v, v2]⟩ : ApiRule)).bind fun v8 =>
                    (if (!(v8 != (0 : Int))) = true then ruleHolds (⟨(6 : Int), 0, [], 0, 0, [], [v, v2]⟩ : ApiRule) v3 else some default).bind fun v9 =>
                      (if (bif (v8 != (0 : Int)) then true else (v9 == (bif v4 then true else v5))) = true then awake12  else some default).bind fun v10 =>
                        some (bif (bif (v8 != (0 : Int)) then true else (v9 == (bif v4 then true else v5))) then v10 else false)

noncomputable def lawRuleScaled_j1 (v : ApiRule) (v2 : ApiCase) (v3 : Int) (big : Bool) (c10_4 : (List ApiInput)) : Option (Bool) :=
  (if (!big) = true then ruleHolds v v2 else some default).bind fun v4 =>
    (if (!big) = true then ruleHolds v (⟨v2.Code, (IntKind.i64.wrap (v2.Price * (IntKind.i64.wrap ((1 : Int) + v3)))), v2.Obtained, v2.Processes, c10_4⟩ : ApiCase) else some default).bind fun v5 =>
      (if (bif big then true else (v4 == v5)) = true then awake12  else some default).bind fun v6 =>
        some (bif (bif big then true else (v4 == v5)) then v6 else false)
noncomputable def lawRuleScaled_b1 (v : ApiRule) (v2 : ApiCase) (v3 : Int) : (Int × Bool × (List ApiInput)) → Option ((Int × Bool × (List ApiInput)) ⊕ (Bool × (List ApiInput)))
  | (i, big2, c10_42) =>
    if (decide (i < (c10_42.length : Int))) = true then
      if ((!big2) = true → (0 ≤ i ∧ i < (c10_42.length : Int))) then
        if (0 ≤ i ∧ i < (c10_42.length : Int)) then
          if (0 ≤ i ∧ i < (c10_42.length : Int)) then
            some (.inl ((IntKind.i64.wrap (i + (1 : Int))), (bif big2 then true else (decide ((1000000 : Int) < ((c10_42.getD i.toNat default).Value)))), (c10_42.set i.toNat (⟨(c10_42.getD i.toNat default).Code, (IntKind.i64.wrap (((c10_42.getD i.toNat default).Value) * (IntKind.i64.wrap ((1 : Int) + v3)))), (c10_42.getD i.toNat default).Originating⟩ : ApiInput))))
          else none
        else none
      else none
    else
      some (.inr (big2, c10_42))
noncomputable def lawRuleScaled (l : (List Int)) (m1 : (List Int)) (factor : Int) : Option (Bool) :=
  (madeRule l).bind fun v =>
    (madeCase m1).bind fun v2 =>
      (within factor (1000 : Int)).bind fun v3 =>
        if (0 + v2.Inputs.length ≤ 137438953472) then
          (loopO (lawRuleScaled_b1 v v2 v3) ((0 : Int), (decide ((1000000 : Int) < v2.Price)), v2.Inputs)).bind fun e => match e with
            | (big4, c10_44) =>
              lawRuleScaled_j1 v v2 v3 big4 c10_44
        else none

end Go.C
