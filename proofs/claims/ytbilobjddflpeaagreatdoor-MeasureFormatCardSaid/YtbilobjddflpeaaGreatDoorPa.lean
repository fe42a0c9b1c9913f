/- Plain functions, read off the program by program (gen.py): no program in sight. -/
import Derived.Test.YtbilobjddflpeaaGreatDoorPl
set_option linter.unusedVariables false
namespace Go.C
open Go.V

noncomputable def within (x : Int) (n1 : Int) : Option (Int) :=
  if (n1 ≠ 0) then
    if (n1 ≠ 0) then
      some ((IntKind.i64.wrap ((x.tmod n1) + n1)).tmod n1)
    else none
  else none

noncomputable def srcNext (s : CustomsmadeSource) (n1 : Int) : Option (Int × CustomsmadeSource) :=
  if (decide ((s.L.length : Int) ≤ s.I)) = true then
    some ((0 : Int), s)
  else
    if (0 ≤ (IntKind.i64.wrap ((IntKind.i64.wrap (s.I + (1 : Int))) - (1 : Int)))) then
      (s.L[(IntKind.i64.wrap ((IntKind.i64.wrap (s.I + (1 : Int))) - (1 : Int))).toNat]?).bind fun x =>
        (within x n1).bind fun v =>
          some (v, (⟨s.L, (IntKind.i64.wrap (s.I + (1 : Int)))⟩ : CustomsmadeSource))
    else none

noncomputable def madeCut (l : (List Int)) (n1 : Int) : Option ((List Int)) :=
  if (decide (n1 < (l.length : Int))) = true then
    if (0 ≤ (0 : Int) ∧ (0 : Int) ≤ n1 ∧ n1 ≤ (l.length : Int)) then
      some ((l.take n1.toNat).drop (0 : Int).toNat)
    else none
  else
    some l

noncomputable def srcRate (s : CustomsmadeSource) : Option (Int × CustomsmadeSource) :=
  (srcNext s (4 : Int)).bind fun v =>
    if (decide ((0 : Int) < v.1)) = true then
      (srcNext v.2 (101 : Int)).bind fun v2 =>
        some ((IntKind.i64.wrap ((10000 : Int) * v2.1)), v2.2)
    else
      (srcNext v.2 (1000001 : Int)).bind fun v3 =>
        some (v3.1, v3.2)

noncomputable def srcDuty_j4 (c3_0 : Int) (c3_1 : Int) (c3_2 : Int) (c3_3 : Bool) (c3_4 : Int) (c0_04 : (List Int)) (c0_14 : Int) (c3_5 : Bool) (c3_6 : Int) : Option (ApiDuty × CustomsmadeSource) :=
  some ((⟨c3_0, c3_1, c3_2, c3_3, c3_4, c3_5, c3_6⟩ : ApiDuty), (⟨c0_04, c0_14⟩ : CustomsmadeSource))
noncomputable def srcDuty_j3 (c3_0 : Int) (c3_1 : Int) (c3_2 : Int) (c0_03 : (List Int)) (c0_13 : Int) (c3_3 : Bool) (c3_4 : Int) : Option (ApiDuty × CustomsmadeSource) :=
  (srcNext (⟨c0_03, c0_13⟩ : CustomsmadeSource) (4 : Int)).bind fun v4 =>
    if (v4.1 == (1 : Int)) = true then
      (srcRate v4.2).bind fun v5 =>
        if c3_3 = true then
          srcDuty_j4 c3_0 c3_1 c3_2 c3_3 c3_4 v5.2.L v5.2.I true (if c3_4 < (IntKind.i64.wrap (v5.1.tdiv (8 : Int))) then c3_4 else (IntKind.i64.wrap (v5.1.tdiv (8 : Int))))
        else
          srcDuty_j4 c3_0 c3_1 c3_2 c3_3 c3_4 v5.2.L v5.2.I true (IntKind.i64.wrap (v5.1.tdiv (8 : Int)))
    else
      srcDuty_j4 c3_0 c3_1 c3_2 c3_3 c3_4 v4.2.L v4.2.I false 0
noncomputable def srcDuty_j2 (c3_0 : Int) (c0_02 : (List Int)) (c0_12 : Int) (c3_1 : Int) (c3_2 : Int) : Option (ApiDuty × CustomsmadeSource) :=
  (srcNext (⟨c0_02, c0_12⟩ : CustomsmadeSource) (4 : Int)).bind fun v3 =>
    if (v3.1 == (1 : Int)) = true then
      (srcRate v3.2).bind fun v6 =>
        srcDuty_j3 c3_0 c3_1 c3_2 v6.2.L v6.2.I true v6.1
    else
      srcDuty_j3 c3_0 c3_1 c3_2 v3.2.L v3.2.I false 0
noncomputable def srcDuty_j1 (c0_0 : (List Int)) (c0_1 : Int) (c3_0 : Int) : Option (ApiDuty × CustomsmadeSource) :=
  (srcNext (⟨c0_0, c0_1⟩ : CustomsmadeSource) (3 : Int)).bind fun v2 =>
    if (v2.1 == (1 : Int)) = true then
      (srcNext v2.2 (500 : Int)).bind fun v7 =>
        (srcNext v7.2 (5 : Int)).bind fun v8 =>
          if (0 ≤ v8.1) then
            ([(1 : Int), (100 : Int), (1000 : Int), (1000000 : Int), (7 : Int)][v8.1.toNat]?).bind fun x =>
              srcDuty_j2 c3_0 v8.2.L v8.2.I (IntKind.i64.wrap ((1 : Int) + v7.1)) x
          else none
    else
      srcDuty_j2 c3_0 v2.2.L v2.2.I 0 0
noncomputable def srcDuty (s : CustomsmadeSource) : Option (ApiDuty × CustomsmadeSource) :=
  (srcNext s (3 : Int)).bind fun v =>
    if (decide ((0 : Int) < v.1)) = true then
      (srcRate v.2).bind fun v9 =>
        srcDuty_j1 v9.2.L v9.2.I (IntKind.i64.wrap (v9.1.tdiv (4 : Int)))
    else
      srcDuty_j1 v.2.L v.2.I 0

noncomputable def srcCode_j1 (b : (List Int)) (c0_0 : (List Int)) (c0_1 : Int) : Option (Str × CustomsmadeSource) :=
  some ((bytesI b), (⟨c0_0, c0_1⟩ : CustomsmadeSource))
noncomputable def srcCode_b1 (n1 : Int) : ((List Int) × (List Int) × Int) → Option (((List Int) × (List Int) × Int) ⊕ ((List Int) × (List Int) × Int))
  | (b2, c0_02, c0_12) =>
    if (decide ((b2.length : Int) < n1)) = true then
      (srcNext (⟨c0_02, c0_12⟩ : CustomsmadeSource) (3 : Int)).bind fun v3 =>
        if (b2.length + [(48 : Int), (IntKind.u8.wrap (IntKind.i64.wrap ((49 : Int) + v3.1)))].length ≤ 137438953472) then
          some (.inl ((b2 ++ [(48 : Int), (IntKind.u8.wrap (IntKind.i64.wrap ((49 : Int) + v3.1)))]), v3.2.L, v3.2.I))
        else none
    else
      some (.inr (b2, c0_02, c0_12))
noncomputable def srcCode (s : CustomsmadeSource) (n1 : Int) : Option (Str × CustomsmadeSource) :=
  (srcNext s (2 : Int)).bind fun v =>
    (loopO (srcCode_b1 n1) ([(57 : Int), (IntKind.u8.wrap (IntKind.i64.wrap ((52 : Int) + v.1)))], v.2.L, v.2.I)).bind fun e => match e with
      | (b4, c0_04, c0_14) =>
        srcCode_j1 b4 c0_04 c0_14

noncomputable def countries  : Option ((List Str)) :=
  some [([65, 65] : Str), ([66, 66] : Str), ([67, 67] : Str), ([68, 68] : Str), ([69, 69] : Str), ([70, 70] : Str)]

noncomputable def madeMeasures_j2 (out2 : (List ApiMeasure)) : Option ((List ApiMeasure)) :=
  some out2
noncomputable def madeMeasures_j3 (v3 : Int × CustomsmadeSource) (i : Int) (out16 : (List ApiMeasure)) (c13_07 : (List Int)) (c13_17 : Int) : Option ((Int × (List ApiMeasure) × (List Int) × Int) ⊕ ((List ApiMeasure))) :=
  some (.inl ((IntKind.i64.wrap (i + (1 : Int))), out16, c13_07, c13_17))
noncomputable def madeMeasures_j6 (v3 : Int × CustomsmadeSource) (i : Int) (v18 : Int × CustomsmadeSource) (v20 : Str × CustomsmadeSource) (v21 : Int × CustomsmadeSource) (v22 : ApiDuty × CustomsmadeSource) (v23 : Int × CustomsmadeSource) (c7_72 : Int) (c7_42 : Int) (v26 : Int × CustomsmadeSource) (out19 : (List ApiMeasure)) (c7_37 : (List Str)) : Option ((Int × (List ApiMeasure) × (List Int) × Int) ⊕ ((List ApiMeasure))) :=
  if (out19.length + [(⟨(IntKind.i64.wrap ((3 : Int) + (IntKind.i64.wrap ((2 : Int) * i)))), (IntKind.i64.wrap ((1 : Int) + v18.1)), v20.1, c7_37, c7_42, v21.1, (IntKind.i64.wrap ((IntKind.i64.wrap (v21.1 + (1 : Int))) + v23.1)), c7_72, v22.1⟩ : ApiMeasure)].length ≤ 137438953472) then
    madeMeasures_j3 v3 i (out19 ++ [(⟨(IntKind.i64.wrap ((3 : Int) + (IntKind.i64.wrap ((2 : Int) * i)))), (IntKind.i64.wrap ((1 : Int) + v18.1)), v20.1, c7_37, c7_42, v21.1, (IntKind.i64.wrap ((IntKind.i64.wrap (v21.1 + (1 : Int))) + v23.1)), c7_72, v22.1⟩ : ApiMeasure)]) v26.2.L v26.2.I
  else none
noncomputable def madeMeasures_j7 (v3 : Int × CustomsmadeSource) (i : Int) (v18 : Int × CustomsmadeSource) (v20 : Str × CustomsmadeSource) (v21 : Int × CustomsmadeSource) (v22 : ApiDuty × CustomsmadeSource) (v23 : Int × CustomsmadeSource) (c7_72 : Int) (c7_42 : Int) (v26 : Int × CustomsmadeSource) (k4 : Int) (out25 : (List ApiMeasure)) (c7_312 : (List Str)) : Option ((Int × (List ApiMeasure) × (List Str)) ⊕ ((List ApiMeasure) × (List Str))) :=
  some (.inl ((IntKind.i64.wrap (k4 + (1 : Int))), out25, c7_312))
noncomputable def madeMeasures_b2 (v3 : Int × CustomsmadeSource) (i : Int) (v18 : Int × CustomsmadeSource) (v20 : Str × CustomsmadeSource) (v21 : Int × CustomsmadeSource) (v22 : ApiDuty × CustomsmadeSource) (v23 : Int × CustomsmadeSource) (c7_72 : Int) (c7_42 : Int) (v26 : Int × CustomsmadeSource) : (Int × (List ApiMeasure) × (List Str)) → Option ((Int × (List ApiMeasure) × (List Str)) ⊕ ((List ApiMeasure) × (List Str)))
  | (k4, out22, c7_39) =>
    if (bif (decide (k4 < (3 : Int))) then (decide ((7 : Int) < v26.1)) else false) = true then
      if (0 ≤ k4) then
        if ((IntKind.i64.wrap ((BitVec.ofInt (IntKind.i64).bits (v26.1.fdiv (2 ^ (min k4.toNat (IntKind.i64).bits))) &&& BitVec.ofInt (IntKind.i64).bits (1 : Int)).toNat : Int)) == (1 : Int)) = true then
          (countries ).bind fun v29 =>
            if (0 ≤ k4) then
              (v29[k4.toNat]?).bind fun x6 =>
                if (c7_39.length + [x6].length ≤ 137438953472) then
                  madeMeasures_j7 v3 i v18 v20 v21 v22 v23 c7_72 c7_42 v26 k4 out22 (c7_39 ++ [x6])
                else none
            else none
        else
          madeMeasures_j7 v3 i v18 v20 v21 v22 v23 c7_72 c7_42 v26 k4 out22 c7_39
      else none
    else
      some (.inr (out22, c7_39))
noncomputable def madeMeasures_j5 (v3 : Int × CustomsmadeSource) (i : Int) (v18 : Int × CustomsmadeSource) (v20 : Str × CustomsmadeSource) (v21 : Int × CustomsmadeSource) (v22 : ApiDuty × CustomsmadeSource) (v23 : Int × CustomsmadeSource) (c7_72 : Int) (out18 : (List ApiMeasure)) (c13_09 : (List Int)) (c13_19 : Int) (c7_42 : Int) : Option ((Int × (List ApiMeasure) × (List Int) × Int) ⊕ ((List ApiMeasure))) :=
  (srcNext (⟨c13_09, c13_19⟩ : CustomsmadeSource) (16 : Int)).bind fun v26 =>
    (loopO (madeMeasures_b2 v3 i v18 v20 v21 v22 v23 c7_72 c7_42 v26) ((0 : Int), out18, [])).bind fun e => match e with
      | (out24, c7_311) =>
        madeMeasures_j6 v3 i v18 v20 v21 v22 v23 c7_72 c7_42 v26 out24 c7_311
noncomputable def madeMeasures_j4 (v3 : Int × CustomsmadeSource) (i : Int) (v18 : Int × CustomsmadeSource) (v20 : Str × CustomsmadeSource) (v21 : Int × CustomsmadeSource) (v22 : ApiDuty × CustomsmadeSource) (v23 : Int × CustomsmadeSource) (out17 : (List ApiMeasure)) (c13_08 : (List Int)) (c13_18 : Int) (c7_72 : Int) : Option ((Int × (List ApiMeasure) × (List Int) × Int) ⊕ ((List ApiMeasure))) :=
  (srcNext (⟨c13_08, c13_18⟩ : CustomsmadeSource) (3 : Int)).bind fun v25 =>
    if (v25.1 == (1 : Int)) = true then
      (srcNext v25.2 (2 : Int)).bind fun v30 =>
        madeMeasures_j5 v3 i v18 v20 v21 v22 v23 c7_72 out17 v30.2.L v30.2.I (IntKind.i64.wrap ((1 : Int) + v30.1))
    else
      madeMeasures_j5 v3 i v18 v20 v21 v22 v23 c7_72 out17 v25.2.L v25.2.I 0
noncomputable def madeMeasures_b1 (v3 : Int × CustomsmadeSource) : (Int × (List ApiMeasure) × (List Int) × Int) → Option ((Int × (List ApiMeasure) × (List Int) × Int) ⊕ ((List ApiMeasure)))
  | (i, out3, c13_02, c13_12) =>
    if (decide (i < v3.1)) = true then
      (srcNext (⟨c13_02, c13_12⟩ : CustomsmadeSource) (6 : Int)).bind fun v18 =>
        (srcNext v18.2 (4 : Int)).bind fun v19 =>
          (srcCode v19.2 (IntKind.i64.wrap ((2 : Int) + (IntKind.i64.wrap ((2 : Int) * v19.1))))).bind fun v20 =>
            (srcNext v20.2 (20 : Int)).bind fun v21 =>
              (srcDuty v21.2).bind fun v22 =>
                (srcNext v22.2 (30 : Int)).bind fun v23 =>
                  (srcNext v23.2 (3 : Int)).bind fun v24 =>
                    if (v24.1 == (1 : Int)) = true then
                      (srcNext v24.2 (IntKind.i64.wrap (v21.1 + (1 : Int)))).bind fun v31 =>
                        madeMeasures_j4 v3 i v18 v20 v21 v22 v23 out3 v31.2.L v31.2.I v31.1
                    else
                      madeMeasures_j4 v3 i v18 v20 v21 v22 v23 out3 v24.2.L v24.2.I (-1 : Int)
    else
      some (.inr out3)
noncomputable def madeMeasures_j1 (out : (List ApiMeasure)) (c13_0 : (List Int)) (c13_1 : Int) : Option ((List ApiMeasure)) :=
  (srcNext (⟨c13_0, c13_1⟩ : CustomsmadeSource) (13 : Int)).bind fun v3 =>
    (loopO (madeMeasures_b1 v3) ((0 : Int), out, v3.2.L, v3.2.I)).bind fun e => match e with
      | out15 =>
        madeMeasures_j2 out15
noncomputable def madeMeasures (l : (List Int)) : Option ((List ApiMeasure)) :=
  (madeCut l (300 : Int)).bind fun v =>
    (srcNext (⟨v, 0⟩ : CustomsmadeSource) (8 : Int)).bind fun v2 =>
      if (decide ((0 : Int) < v2.1)) = true then
        (srcDuty v2.2).bind fun v32 =>
          (srcDuty v32.2).bind fun v33 =>
            if (0 + [(⟨(1 : Int), (1 : Int), ([57, 52] : Str), [], 0, 0, (36525 : Int), (-1 : Int), v32.1⟩ : ApiMeasure), (⟨(2 : Int), (1 : Int), ([57, 53] : Str), [], 0, 0, (25 : Int), (-1 : Int), v33.1⟩ : ApiMeasure)].length ≤ 137438953472) then
              madeMeasures_j1 [(⟨(1 : Int), (1 : Int), ([57, 52] : Str), [], 0, 0, (36525 : Int), (-1 : Int), v32.1⟩ : ApiMeasure), (⟨(2 : Int), (1 : Int), ([57, 53] : Str), [], 0, 0, (25 : Int), (-1 : Int), v33.1⟩ : ApiMeasure)] v33.2.L v33.2.I
            else none
      else
        madeMeasures_j1 [] v2.2.L v2.2.I

noncomputable def madeMeasuresR_j2 (out2 : (List ApiMeasure)) : Option ((List ApiMeasure)) :=
  some out2
noncomputable def madeMeasuresR_j3 (v3 : Int × CustomsmadeSource) (i : Int) (out16 : (List ApiMeasure)) (c13_07 : (List Int)) (c13_17 : Int) : Option ((Int × (List ApiMeasure) × (List Int) × Int) ⊕ ((List ApiMeasure))) :=
  some (.inl ((IntKind.i64.wrap (i + (1 : Int))), out16, c13_07, c13_17))
noncomputable def madeMeasuresR_j6 (v3 : Int × CustomsmadeSource) (i : Int) (v18 : Int × CustomsmadeSource) (v20 : Str × CustomsmadeSource) (v21 : Int × CustomsmadeSource) (v22 : ApiDuty × CustomsmadeSource) (v23 : Int × CustomsmadeSource) (c7_72 : Int) (c7_42 : Int) (v26 : Int × CustomsmadeSource) (out19 : (List ApiMeasure)) (c7_37 : (List Str)) : Option ((Int × (List ApiMeasure) × (List Int) × Int) ⊕ ((List ApiMeasure))) :=
  if (out19.length + [(⟨(IntKind.i64.wrap ((3 : Int) + (IntKind.i64.wrap ((2 : Int) * i)))), (IntKind.i64.wrap ((1 : Int) + v18.1)), v20.1, c7_37, c7_42, v21.1, (IntKind.i64.wrap ((IntKind.i64.wrap (v21.1 + (1 : Int))) + v23.1)), c7_72, v22.1⟩ : ApiMeasure)].length ≤ 137438953472) then
    madeMeasuresR_j3 v3 i (out19 ++ [(⟨(IntKind.i64.wrap ((3 : Int) + (IntKind.i64.wrap ((2 : Int) * i)))), (IntKind.i64.wrap ((1 : Int) + v18.1)), v20.1, c7_37, c7_42, v21.1, (IntKind.i64.wrap ((IntKind.i64.wrap (v21.1 + (1 : Int))) + v23.1)), c7_72, v22.1⟩ : ApiMeasure)]) v26.2.L v26.2.I
  else none
noncomputable def madeMeasuresR_j7 (v3 : Int × CustomsmadeSource) (i : Int) (v18 : Int × CustomsmadeSource) (v20 : Str × CustomsmadeSource) (v21 : Int × CustomsmadeSource) (v22 : ApiDuty × CustomsmadeSource) (v23 : Int × CustomsmadeSource) (c7_72 : Int) (c7_42 : Int) (v26 : Int × CustomsmadeSource) (k4 : Int) (out25 : (List ApiMeasure)) (c7_312 : (List Str)) : Option ((Int × (List ApiMeasure) × (List Str)) ⊕ ((List ApiMeasure) × (List Str))) :=
  some (.inl ((IntKind.i64.wrap (k4 + (1 : Int))), out25, c7_312))
noncomputable def madeMeasuresR_b2 (v3 : Int × CustomsmadeSource) (i : Int) (v18 : Int × CustomsmadeSource) (v20 : Str × CustomsmadeSource) (v21 : Int × CustomsmadeSource) (v22 : ApiDuty × CustomsmadeSource) (v23 : Int × CustomsmadeSource) (c7_72 : Int) (c7_42 : Int) (v26 : Int × CustomsmadeSource) : (Int × (List ApiMeasure) × (List Str)) → Option ((Int × (List ApiMeasure) × (List Str)) ⊕ ((List ApiMeasure) × (List Str)))
  | (k4, out22, c7_39) =>
    if (bif (decide (k4 < (3 : Int))) then (decide ((7 : Int) < v26.1)) else false) = true then
      if (0 ≤ k4) then
        if ((IntKind.i64.wrap ((BitVec.ofInt (IntKind.i64).bits (v26.1.fdiv (2 ^ (min k4.toNat (IntKind.i64).bits))) &&& BitVec.ofInt (IntKind.i64).bits (1 : Int)).toNat : Int)) == (1 : Int)) = true then
          (countries ).bind fun v29 =>
            if (0 ≤ k4) then
              (v29[k4.toNat]?).bind fun x6 =>
                if (c7_39.length + [x6].length ≤ 137438953472) then
                  madeMeasuresR_j7 v3 i v18 v20 v21 v22 v23 c7_72 c7_42 v26 k4 out22 (c7_39 ++ [x6])
                else none
            else none
        else
          madeMeasuresR_j7 v3 i v18 v20 v21 v22 v23 c7_72 c7_42 v26 k4 out22 c7_39
      else none
    else
      some (.inr (out22, c7_39))
noncomputable def madeMeasuresR_j5 (v3 : Int × CustomsmadeSource) (i : Int) (v18 : Int × CustomsmadeSource) (v20 : Str × CustomsmadeSource) (v21 : Int × CustomsmadeSource) (v22 : ApiDuty × CustomsmadeSource) (v23 : Int × CustomsmadeSource) (c7_72 : Int) (out18 : (List ApiMeasure)) (c13_09 : (List Int)) (c13_19 : Int) (c7_42 : Int) : Option ((Int × (List ApiMeasure) × (List Int) × Int) ⊕ ((List ApiMeasure))) :=
  (srcNext (⟨c13_09, c13_19⟩ : CustomsmadeSource) (16 : Int)).bind fun v26 =>
    (loopO (madeMeasuresR_b2 v3 i v18 v20 v21 v22 v23 c7_72 c7_42 v26) ((0 : Int), out18, [])).bind fun e => match e with
      | (out24, c7_311) =>
        madeMeasuresR_j6 v3 i v18 v20 v21 v22 v23 c7_72 c7_42 v26 out24 c7_311
noncomputable def madeMeasuresR_j4 (v3 : Int × CustomsmadeSource) (i : Int) (v18 : Int × CustomsmadeSource) (v20 : Str × CustomsmadeSource) (v21 : Int × CustomsmadeSource) (v22 : ApiDuty × CustomsmadeSource) (v23 : Int × CustomsmadeSource) (out17 : (List ApiMeasure)) (c13_08 : (List Int)) (c13_18 : Int) (c7_72 : Int) : Option ((Int × (List ApiMeasure) × (List Int) × Int) ⊕ ((List ApiMeasure))) :=
  (srcNext (⟨c13_08, c13_18⟩ : CustomsmadeSource) (3 : Int)).bind fun v25 =>
    if (v25.1 == (1 : Int)) = true then
      (srcNext v25.2 (2 : Int)).bind fun v30 =>
        madeMeasuresR_j5 v3 i v18 v20 v21 v22 v23 c7_72 out17 v30.2.L v30.2.I (IntKind.i64.wrap ((1 : Int) + v30.1))
    else
      madeMeasuresR_j5 v3 i v18 v20 v21 v22 v23 c7_72 out17 v25.2.L v25.2.I 0
noncomputable def madeMeasuresR_b1 (v3 : Int × CustomsmadeSource) : (Int × (List ApiMeasure) × (List Int) × Int) → Option ((Int × (List ApiMeasure) × (List Int) × Int) ⊕ ((List ApiMeasure)))
  | (i, out3, c13_02, c13_12) =>
    if (decide (i < v3.1)) = true then
      (srcNext (⟨c13_02, c13_12⟩ : CustomsmadeSource) (6 : Int)).bind fun v18 =>
        (srcNext v18.2 (4 : Int)).bind fun v19 =>
          (srcCode v19.2 (IntKind.i64.wrap ((2 : Int) + (IntKind.i64.wrap ((2 : Int) * v19.1))))).bind fun v20 =>
            (srcNext v20.2 (20 : Int)).bind fun v21 =>
              (srcDuty v21.2).bind fun v22 =>
                (srcNext v22.2 (30 : Int)).bind fun v23 =>
                  (srcNext v23.2 (3 : Int)).bind fun v24 =>
                    if (v24.1 == (1 : Int)) = true then
                      (srcNext v24.2 (IntKind.i64.wrap (v21.1 + (1 : Int)))).bind fun v31 =>
                        madeMeasuresR_j4 v3 i v18 v20 v21 v22 v23 out3 v31.2.L v31.2.I v31.1
                    else
                      madeMeasuresR_j4 v3 i v18 v20 v21 v22 v23 out3 v24.2.L v24.2.I (-1 : Int)
    else
      some (.inr out3)
noncomputable def madeMeasuresR_j1 (out : (List ApiMeasure)) (c13_0 : (List Int)) (c13_1 : Int) : Option ((List ApiMeasure)) :=
  (srcNext (⟨c13_0, c13_1⟩ : CustomsmadeSource) (13 : Int)).bind fun v3 =>
    (loopO (madeMeasuresR_b1 v3) ((0 : Int), out, v3.2.L, v3.2.I)).bind fun e => match e with
      | out15 =>
        madeMeasuresR_j2 out15
noncomputable def madeMeasuresR (l : (List Int)) : Option ((List ApiMeasure)) :=
  (madeCut l (300 : Int)).bind fun v =>
    (srcNext (⟨v, 0⟩ : CustomsmadeSource) (8 : Int)).bind fun v2 =>
      if (decide ((0 : Int) < v2.1)) = true then
        (srcDuty v2.2).bind fun v32 =>
          (srcDuty v32.2).bind fun v33 =>
            if (0 + [(⟨(1 : Int), (1 : Int), ([57, 52] : Str), [], 0, 0, (36525 : Int), (-1 : Int), v32.1⟩ : ApiMeasure), (⟨(2 : Int), (1 : Int), ([57, 53] : Str), [], 0, 0, (25 : Int), (-1 : Int), v33.1⟩ : ApiMeasure)].length ≤ 137438953472) then
              madeMeasuresR_j1 [(⟨(1 : Int), (1 : Int), ([57, 52] : Str), [], 0, 0, (36525 : Int), (-1 : Int), v32.1⟩ : ApiMeasure), (⟨(2 : Int), (1 : Int), ([57, 53] : Str), [], 0, 0, (25 : Int), (-1 : Int), v33.1⟩ : ApiMeasure)] v33.2.L v33.2.I
            else none
      else
        madeMeasuresR_j1 [] v2.2.L v2.2.I

noncomputable def madeItem_j3 (v2 : Str × CustomsmadeSource) (x : Str) (v5 : Int × CustomsmadeSource) (v6 : Int × CustomsmadeSource) (v7 : Int × CustomsmadeSource) (c4_6 : Int) (c4_52 : Int) (c4_7 : Int) : Option (ApiItem) :=
  some (⟨v2.1, x, (v5.1 == (1 : Int)), v6.1, v7.1, c4_52, c4_6, c4_7⟩ : ApiItem)
noncomputable def madeItem_j2 (v2 : Str × CustomsmadeSource) (x : Str) (v5 : Int × CustomsmadeSource) (v6 : Int × CustomsmadeSource) (v7 : Int × CustomsmadeSource) (c4_6 : Int) (v11 : Int × CustomsmadeSource) (c4_52 : Int) : Option (ApiItem) :=
  (srcNext v11.2 (2 : Int)).bind fun v12 =>
    if (v12.1 == (1 : Int)) = true then
      (srcNext v12.2 (IntKind.i64.wrap (c4_52 + (1 : Int)))).bind fun v13 =>
        madeItem_j3 v2 x v5 v6 v7 c4_6 c4_52 v13.1
    else
      madeItem_j3 v2 x v5 v6 v7 c4_6 c4_52 0
noncomputable def madeItem_j1 (v2 : Str × CustomsmadeSource) (x : Str) (v5 : Int × CustomsmadeSource) (v6 : Int × CustomsmadeSource) (v7 : Int × CustomsmadeSource) (c8_0 : (List Int)) (c8_1 : Int) (c4_5 : Int) (c4_6 : Int) : Option (ApiItem) :=
  (srcNext (⟨c8_0, c8_1⟩ : CustomsmadeSource) (6 : Int)).bind fun v11 =>
    if (v11.1 == (1 : Int)) = true then
      madeItem_j2 v2 x v5 v6 v7 c4_6 v11 (0 : Int)
    else
      madeItem_j2 v2 x v5 v6 v7 c4_6 v11 c4_5
noncomputable def madeItem (l : (List Int)) : Option (ApiItem) :=
  (madeCut l (20 : Int)).bind fun v =>
    (srcCode (⟨v, 0⟩ : CustomsmadeSource) (8 : Int)).bind fun v2 =>
      (countries ).bind fun v3 =>
        (srcNext v2.2 (4 : Int)).bind fun v4 =>
          if (0 ≤ v4.1) then
            (v3[v4.1.toNat]?).bind fun x =>
              (srcNext v4.2 (2 : Int)).bind fun v5 =>
                (srcNext v5.2 (3 : Int)).bind fun v6 =>
                  (srcNext v6.2 (41 : Int)).bind fun v7 =>
                    (srcNext v7.2 (1000 : Int)).bind fun v8 =>
                      (srcNext v8.2 (1000000 : Int)).bind fun v9 =>
                        (srcNext v9.2 (6 : Int)).bind fun v10 =>
                          if (v10.1 == (1 : Int)) = true then
                            (srcNext v10.2 (1000000001 : Int)).bind fun v14 =>
                              (srcNext v14.2 (1000000000001 : Int)).bind fun v15 =>
                                madeItem_j1 v2 x v5 v6 v7 v15.2.L v15.2.I v14.1 v15.1
                          else
                            madeItem_j1 v2 x v5 v6 v7 v10.2.L v10.2.I v8.1 v9.1
          else none

noncomputable def few19_j1 (l2 : (List ApiMeasure)) : Option ((List ApiMeasure)) :=
  some l2
noncomputable def few19_b1  : (Int × (List ApiMeasure)) → Option ((Int × (List ApiMeasure)) ⊕ ((List ApiMeasure)))
  | (i, l3) =>
    if (decide (i < (l3.length : Int))) = true then
      if (0 ≤ i ∧ i < (l3.length : Int)) then
        if (0 ≤ i ∧ i < (l3.length : Int)) then
          if (0 ≤ (0 : Int) ∧ (0 : Int) ≤ (if (22 : Int) < (((l3.getD i.toNat default).Origins).length : Int) then (22 : Int) else (((l3.getD i.toNat default).Origins).length : Int)) ∧ (if (22 : Int) < (((l3.getD i.toNat default).Origins).length : Int) then (22 : Int) else (((l3.getD i.toNat default).Origins).length : Int)) ≤ (((l3.getD i.toNat default).Origins).length : Int)) then
            if (0 ≤ i ∧ i < (l3.length : Int)) then
              some (.inl ((IntKind.i64.wrap (i + (1 : Int))), (l3.set i.toNat (⟨(l3.getD i.toNat default).ID, (l3.getD i.toNat default).Kind, (l3.getD i.toNat default).Prefix, ((((l3.getD i.toNat default).Origins).take (if (22 : Int) < (((l3.getD i.toNat default).Origins).length : Int) then (22 : Int) else (((l3.getD i.toNat default).Origins).length : Int)).toNat).drop (0 : Int).toNat), (l3.getD i.toNat default).Company, (l3.getD i.toNat default).From, (l3.getD i.toNat default).To, (l3.getD i.toNat default).Registered, ((l3.getD i.toNat default).Duty)⟩ : ApiMeasure))))
            else none
          else none
        else none
      else none
    else
      some (.inr l3)
noncomputable def few19 (l : (List ApiMeasure)) : Option ((List ApiMeasure)) :=
  if (0 ≤ (0 : Int) ∧ (0 : Int) ≤ (if (310 : Int) < (l.length : Int) then (310 : Int) else (l.length : Int)) ∧ (if (310 : Int) < (l.length : Int) then (310 : Int) else (l.length : Int)) ≤ (l.length : Int)) then
    if (0 + ((l.take (if (310 : Int) < (l.length : Int) then (310 : Int) else (l.length : Int)).toNat).drop (0 : Int).toNat).length ≤ 137438953472) then
      (loopO (few19_b1) ((0 : Int), ((l.take (if (310 : Int) < (l.length : Int) then (310 : Int) else (l.length : Int)).toNat).drop (0 : Int).toNat))).bind fun e => match e with
        | l5 =>
          few19_j1 l5
    else none
  else none

end Go.C
