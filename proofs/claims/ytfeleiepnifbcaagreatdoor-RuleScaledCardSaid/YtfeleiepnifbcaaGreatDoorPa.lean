/- Plain functions, read off the program by program (gen.py): no program in sight. -/
import Derived.Test.YtfeleiepnifbcaaGreatDoorPl
set_option linter.unusedVariables false
namespace Go.C
open Go.V

noncomputable def within (x : Int) (n1 : Int) : Option (Int) :=
  if (n1 ≠ 0) then
    if (n1 ≠ 0) then
      some ((IntKind.i64.wrap ((x.tmod n1) + n1)).tmod n1)
    else none
  else none

noncomputable def srcNext (s : CustomsmadeSource) (n1 : Int) : Option (Int × CustomsmadeSource) :=
  if (decide ((s.L.length : Int) ≤ s.I)) = true then
    some ((0 : Int), s)
  else
    if (0 ≤ (IntKind.i64.wrap ((IntKind.i64.wrap (s.I + (1 : Int))) - (1 : Int)))) then
      (s.L[(IntKind.i64.wrap ((IntKind.i64.wrap (s.I + (1 : Int))) - (1 : Int))).toNat]?).bind fun x =>
        (within x n1).bind fun v =>
          some (v, (⟨s.L, (IntKind.i64.wrap (s.I + (1 : Int)))⟩ : CustomsmadeSource))
    else none

noncomputable def madeCut (l : (List Int)) (n1 : Int) : Option ((List Int)) :=
  if (decide (n1 < (l.length : Int))) = true then
    if (0 ≤ (0 : Int) ∧ (0 : Int) ≤ n1 ∧ n1 ≤ (l.length : Int)) then
      some ((l.take n1.toNat).drop (0 : Int).toNat)
    else none
  else
    some l

noncomputable def srcRate (s : CustomsmadeSource) : Option (Int × CustomsmadeSource) :=
  (srcNext s (4 : Int)).bind fun v =>
    if (decide ((0 : Int) < v.1)) = true then
      (srcNext v.2 (101 : Int)).bind fun v2 =>
        some ((IntKind.i64.wrap ((10000 : Int) * v2.1)), v2.2)
    else
      (srcNext v.2 (1000001 : Int)).bind fun v3 =>
        some (v3.1, v3.2)

noncomputable def srcCode_j1 (b : (List Int)) (c0_0 : (List Int)) (c0_1 : Int) : Option (Str × CustomsmadeSource) :=
  some ((bytesI b), (⟨c0_0, c0_1⟩ : CustomsmadeSource))
noncomputable def srcCode_b1 (n1 : Int) : ((List Int) × (List Int) × Int) → Option (((List Int) × (List Int) × Int) ⊕ ((List Int) × (List Int) × Int))
  | (b2, c0_02, c0_12) =>
    if (decide ((b2.length : Int) < n1)) = true then
      (srcNext (⟨c0_02, c0_12⟩ : CustomsmadeSource) (3 : Int)).bind fun v3 =>
        if (b2.length + [(48 : Int), (IntKind.u8.wrap (IntKind.i64.wrap ((49 : Int) + v3.1)))].length ≤ 137438953472) then
          some (.inl ((b2 ++ [(48 : Int), (IntKind.u8.wrap (IntKind.i64.wrap ((49 : Int) + v3.1)))]), v3.2.L, v3.2.I))
        else none
    else
      some (.inr (b2, c0_02, c0_12))
noncomputable def srcCode (s : CustomsmadeSource) (n1 : Int) : Option (Str × CustomsmadeSource) :=
  (srcNext s (2 : Int)).bind fun v =>
    (loopO (srcCode_b1 n1) ([(57 : Int), (IntKind.u8.wrap (IntKind.i64.wrap ((52 : Int) + v.1)))], v.2.L, v.2.I)).bind fun e => match e with
      | (b4, c0_04, c0_14) =>
        srcCode_j1 b4 c0_04 c0_14

noncomputable def srcProcesses_j1 (v : Int × CustomsmadeSource) (out : (List Str)) : Option ((List Str) × CustomsmadeSource) :=
  some (out, v.2)
noncomputable def srcProcesses_j2 (v : Int × CustomsmadeSource) (i2 : Int) (out6 : (List Str)) : Option ((Int × (List Str)) ⊕ ((List Str))) :=
  some (.inl ((IntKind.i64.wrap (i2 + (1 : Int))), out6))
noncomputable def srcProcesses_b1 (v : Int × CustomsmadeSource) : (Int × (List Str)) → Option ((Int × (List Str)) ⊕ ((List Str)))
  | (i2, out3) =>
    if (decide (i2 < (5 : Int))) = true then
      if (0 ≤ i2) then
        if ((IntKind.i64.wrap ((BitVec.ofInt (IntKind.i64).bits (v.1.fdiv (2 ^ (min i2.toNat (IntKind.i64).bits))) &&& BitVec.ofInt (IntKind.i64).bits (1 : Int)).toNat : Int)) == (1 : Int)) = true then
          if (0 ≤ i2) then
            ([([97, 110, 100] : Str), ([99, 117, 116] : Str), ([111, 114] : Str), ([115, 101, 119] : Str), ([115, 112, 105, 110] : Str)][i2.toNat]?).bind fun x3 =>
              if (out3.length + [x3].length ≤ 137438953472) then
                srcProcesses_j2 v i2 (out3 ++ [x3])
              else none
          else none
        else
          srcProcesses_j2 v i2 out3
      else none
    else
      some (.inr out3)
noncomputable def srcProcesses (s : CustomsmadeSource) : Option ((List Str) × CustomsmadeSource) :=
  (srcNext s (32 : Int)).bind fun v =>
    (loopO (srcProcesses_b1 v) ((0 : Int), [])).bind fun e => match e with
      | out5 =>
        srcProcesses_j1 v out5

noncomputable def srcRule_j4 (F : CustomsmadeSource → Int → Int → Option (ApiRule × CustomsmadeSource)) (v2 : Int × CustomsmadeSource) (c10_2 : (List Str)) (c0_03 : (List Int)) (c0_13 : Int) (c10_3 : Int) : Option (ApiRule × CustomsmadeSource) :=
  some ((⟨(2 : Int), (IntKind.i64.wrap ((2 : Int) + (IntKind.i64.wrap ((2 : Int) * v2.1)))), c10_2, c10_3, 0, [], []⟩ : ApiRule), (⟨c0_03, c0_13⟩ : CustomsmadeSource))
noncomputable def srcRule_j3 (F : CustomsmadeSource → Int → Int → Option (ApiRule × CustomsmadeSource)) (v2 : Int × CustomsmadeSource) (c0_02 : (List Int)) (c0_12 : Int) (c10_2 : (List Str)) : Option (ApiRule × CustomsmadeSource) :=
  (srcNext (⟨c0_02, c0_12⟩ : CustomsmadeSource) (3 : Int)).bind fun v4 =>
    if (v4.1 == (1 : Int)) = true then
      (srcRate v4.2).bind fun v5 =>
        srcRule_j4 F v2 c10_2 v5.2.L v5.2.I v5.1
    else
      srcRule_j4 F v2 c10_2 v4.2.L v4.2.I 0
noncomputable def srcRule_j2 (F : CustomsmadeSource → Int → Int → Option (ApiRule × CustomsmadeSource)) (c0_0 : (List Int)) (c0_1 : Int) : Option (ApiRule × CustomsmadeSource) :=
  (srcNext (⟨c0_0, c0_1⟩ : CustomsmadeSource) (3 : Int)).bind fun v2 =>
    (srcNext v2.2 (3 : Int)).bind fun v3 =>
      if (v3.1 == (1 : Int)) = true then
        (srcNext v3.2 (2 : Int)).bind fun v6 =>
          if (0 ≤ v6.1 ∧ v6.1 ≤ ([([57, 52, 48, 49] : Str), ([57, 53, 48, 50] : Str)].length : Int)) then
            srcRule_j3 F v2 v6.2.L v6.2.I ([([57, 52, 48, 49] : Str), ([57, 53, 48, 50] : Str)].drop v6.1.toNat)
          else none
      else
        srcRule_j3 F v2 v3.2.L v3.2.I []
noncomputable def srcRule_j1 (F : CustomsmadeSource → Int → Int → Option (ApiRule × CustomsmadeSource)) (v : Int × CustomsmadeSource) : Option (ApiRule × CustomsmadeSource) :=
  if ((v.1.tmod (4 : Int)) == (1 : Int)) = true then
    (srcRate v.2).bind fun v7 =>
      some ((⟨(3 : Int), 0, [], 0, v7.1, [], []⟩ : ApiRule), v7.2)
  else
    if ((v.1.tmod (4 : Int)) == (2 : Int)) = true then
      (srcNext v.2 (5 : Int)).bind fun v8 =>
        if (0 ≤ v8.1) then
          ([([97, 110, 100] : Str), ([99, 117, 116] : Str), ([111, 114] : Str), ([115, 101, 119] : Str), ([115, 112, 105, 110] : Str)][v8.1.toNat]?).bind fun x =>
            some ((⟨(4 : Int), 0, [], 0, 0, x, []⟩ : ApiRule), v8.2)
        else none
    else
      if ((v.1.tmod (4 : Int)) == (3 : Int)) = true then
        (srcNext v.2 (3 : Int)).bind fun v9 =>
          if (v9.1 == (1 : Int)) = true then
            some ((⟨(1 : Int), 0, [], 0, 0, [], []⟩ : ApiRule), v9.2)
          else
            srcRule_j2 F v9.2.L v9.2.I
      else
        srcRule_j2 F v.2.L v.2.I
noncomputable def srcRule_j6 (F : CustomsmadeSource → Int → Int → Option (ApiRule × CustomsmadeSource)) (v : Int × CustomsmadeSource) (c8_0 : Int) (c0_04 : (List Int)) (c0_14 : Int) (c8_6 : (List ApiRule)) : Option (ApiRule × CustomsmadeSource) :=
  some ((⟨c8_0, 0, [], 0, 0, [], c8_6⟩ : ApiRule), (⟨c0_04, c0_14⟩ : CustomsmadeSource))
noncomputable def srcRule_b1 (F : CustomsmadeSource → Int → Int → Option (ApiRule × CustomsmadeSource)) (deep : Int) (v : Int × CustomsmadeSource) (c8_0 : Int) : (Int × (List Int) × Int × (List ApiRule)) → Option ((Int × (List Int) × Int × (List ApiRule)) ⊕ ((List Int) × Int × (List ApiRule)))
  | (n12, c0_06, c0_16, c8_62) =>
    if (decide ((0 : Int) < n12)) = true then
      (F (⟨c0_06, c0_16⟩ : CustomsmadeSource) c8_0 (IntKind.i64.wrap (deep - (1 : Int)))).bind fun v13 =>
        if (c8_62.length + [v13.1].length ≤ 137438953472) then
          some (.inl ((IntKind.i64.wrap (n12 - (1 : Int))), v13.2.L, v13.2.I, (c8_62 ++ [v13.1])))
        else none
    else
      some (.inr (c0_06, c0_16, c8_62))
noncomputable def srcRule_j5 (F : CustomsmadeSource → Int → Int → Option (ApiRule × CustomsmadeSource)) (deep : Int) (v : Int × CustomsmadeSource) (c8_0 : Int) : Option (ApiRule × CustomsmadeSource) :=
  (srcNext v.2 (2 : Int)).bind fun v10 =>
    (loopO (srcRule_b1 F deep v c8_0) ((IntKind.i64.wrap ((2 : Int) + v10.1)), v10.2.L, v10.2.I, [])).bind fun e => match e with
      | (c0_07, c0_17, c8_63) =>
        srcRule_j6 F v c8_0 c0_07 c0_17 c8_63
noncomputable def srcRule_F (F : CustomsmadeSource → Int → Int → Option (ApiRule × CustomsmadeSource)) (s : CustomsmadeSource) (but : Int) (deep : Int) : Option (ApiRule × CustomsmadeSource) :=
  (srcNext s (8 : Int)).bind fun v =>
    if (bif (decide ((5 : Int) ≤ v.1)) then (decide ((0 : Int) < deep)) else false) = true then
      if ((IntKind.i64.wrap ((5 : Int) + (v.1.tmod (2 : Int)))) == but) = true then
        srcRule_j5 F deep v (IntKind.i64.wrap ((11 : Int) - but))
      else
        srcRule_j5 F deep v (IntKind.i64.wrap ((5 : Int) + (v.1.tmod (2 : Int))))
    else
      srcRule_j1 F v
noncomputable def srcRule_n : Nat → CustomsmadeSource → Int → Int → Option (ApiRule × CustomsmadeSource)
  | 0 => fun _ _ _ => none
  | n + 1 => srcRule_F (srcRule_n n)
noncomputable def srcRule (s : CustomsmadeSource) (but : Int) (deep : Int) : Option (ApiRule × CustomsmadeSource) := srcRule_n 5 s but deep

noncomputable def madeRule (l : (List Int)) : Option (ApiRule) :=
  (madeCut l (100 : Int)).bind fun v =>
    (srcRule (⟨v, 0⟩ : CustomsmadeSource) (0 : Int) (2 : Int)).bind fun v2 =>
      some v2.1

noncomputable def madeCase_j2 (v3 : Str × CustomsmadeSource) (v5 : Int × CustomsmadeSource) (v6 : (List Str) × CustomsmadeSource) (c4_1 : Int) (c4_42 : (List ApiInput)) : Option (ApiCase) :=
  some (⟨v3.1, c4_1, (v5.1 == (1 : Int)), v6.1, c4_42⟩ : ApiCase)
noncomputable def madeCase_b1 (v3 : Str × CustomsmadeSource) (v5 : Int × CustomsmadeSource) (v6 : (List Str) × CustomsmadeSource) (v9 : Int × CustomsmadeSource) : (Int × (List Int) × Int × (List ApiInput)) → Option ((Int × (List Int) × Int × (List ApiInput)) ⊕ ((List ApiInput)))
  | (i, c10_02, c10_12, c4_43) =>
    if (decide (i < (c4_43.length : Int))) = true then
      (srcNext (⟨c10_02, c10_12⟩ : CustomsmadeSource) (1000000000001 : Int)).bind fun v11 =>
        if (0 ≤ i ∧ i < (c4_43.length : Int)) then
          some (.inl ((IntKind.i64.wrap (i + (1 : Int))), v11.2.L, v11.2.I, (c4_43.set i.toNat (⟨(c4_43.getD i.toNat default).Code, v11.1, (c4_43.getD i.toNat default).Originating⟩ : ApiInput))))
        else none
    else
      some (.inr c4_43)
noncomputable def madeCase_j1 (v3 : Str × CustomsmadeSource) (v4 : Int × CustomsmadeSource) (v5 : Int × CustomsmadeSource) (v6 : (List Str) × CustomsmadeSource) (c10_0 : (List Int)) (c10_1 : Int) (c4_4 : (List ApiInput)) : Option (ApiCase) :=
  (srcNext (⟨c10_0, c10_1⟩ : CustomsmadeSource) (8 : Int)).bind fun v8 =>
    if (v8.1 == (1 : Int)) = true then
      (srcNext v8.2 (1000000000000 : Int)).bind fun v9 =>
        (loopO (madeCase_b1 v3 v5 v6 v9) ((0 : Int), v9.2.L, v9.2.I, c4_4)).bind fun e => match e with
          | c4_45 =>
            madeCase_j2 v3 v5 v6 (IntKind.i64.wrap ((1 : Int) + v9.1)) c4_45
    else
      madeCase_j2 v3 v5 v6 (IntKind.i64.wrap ((1 : Int) + v4.1)) c4_4
noncomputable def madeCase_b2 (v3 : Str × CustomsmadeSource) (v4 : Int × CustomsmadeSource) (v5 : Int × CustomsmadeSource) (v6 : (List Str) × CustomsmadeSource) : (Int × (List Int) × Int × (List ApiInput)) → Option ((Int × (List Int) × Int × (List ApiInput)) ⊕ ((List Int) × Int × (List ApiInput)))
  | (n12, c10_05, c10_15, c4_46) =>
    if (decide ((0 : Int) < n12)) = true then
      (srcNext (⟨c10_05, c10_15⟩ : CustomsmadeSource) (2 : Int)).bind fun v20 =>
        (srcCode v20.2 (IntKind.i64.wrap ((6 : Int) + (IntKind.i64.wrap ((2 : Int) * v20.1))))).bind fun v21 =>
          (srcNext v21.2 (500 : Int)).bind fun v22 =>
            (srcNext v22.2 (3 : Int)).bind fun v23 =>
              if (c4_46.length + [(⟨v21.1, v22.1, (v23.1 == (1 : Int))⟩ : ApiInput)].length ≤ 137438953472) then
                some (.inl ((IntKind.i64.wrap (n12 - (1 : Int))), v23.2.L, v23.2.I, (c4_46 ++ [(⟨v21.1, v22.1, (v23.1 == (1 : Int))⟩ : ApiInput)])))
              else none
    else
      some (.inr (c10_05, c10_15, c4_46))
noncomputable def madeCase (l : (List Int)) : Option (ApiCase) :=
  (madeCut l (100 : Int)).bind fun v =>
    (srcNext (⟨v, 0⟩ : CustomsmadeSource) (2 : Int)).bind fun v2 =>
      (srcCode v2.2 (IntKind.i64.wrap ((6 : Int) + (IntKind.i64.wrap ((2 : Int) * v2.1))))).bind fun v3 =>
        (srcNext v3.2 (1000 : Int)).bind fun v4 =>
          (srcNext v4.2 (3 : Int)).bind fun v5 =>
            (srcProcesses v5.2).bind fun v6 =>
              (srcNext v6.2 (6 : Int)).bind fun v7 =>
                (loopO (madeCase_b2 v3 v4 v5 v6) (v7.1, v7.2.L, v7.2.I, [])).bind fun e => match e with
                  | (c10_06, c10_16, c4_47) =>
                    madeCase_j1 v3 v4 v5 v6 c10_06 c10_16 c4_47

end Go.C
