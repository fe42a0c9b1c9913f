/- Plain functions, read off the program by program (gen.py): no program in sight. -/
import Derived.Test.YtfkefolbabniaaaGreatDoorPl
set_option linter.unusedVariables false
namespace Go.C
open Go.V

noncomputable def within (x : Int) (n1 : Int) : Option (Int) :=
  if (n1 ≠ 0) then
    if (n1 ≠ 0) then
      some ((IntKind.i64.wrap ((x.tmod n1) + n1)).tmod n1)
    else none
  else none

noncomputable def srcNext (s : CustomsmadeSource) (n1 : Int) : Option (Int × CustomsmadeSource) :=
  if (decide ((s.L.length : Int) ≤ s.I)) = true then
    some ((0 : Int), s)
  else
    if (0 ≤ (IntKind.i64.wrap ((IntKind.i64.wrap (s.I + (1 : Int))) - (1 : Int)))) then
      (s.L[(IntKind.i64.wrap ((IntKind.i64.wrap (s.I + (1 : Int))) - (1 : Int))).toNat]?).bind fun x =>
        (within x n1).bind fun v =>
          some (v, (⟨s.L, (IntKind.i64.wrap (s.I + (1 : Int)))⟩ : CustomsmadeSource))
    else none

noncomputable def madeCut (l : (List Int)) (n1 : Int) : Option ((List Int)) :=
  if (decide (n1 < (l.length : Int))) = true then
    if (0 ≤ (0 : Int) ∧ (0 : Int) ≤ n1 ∧ n1 ≤ (l.length : Int)) then
      some ((l.take n1.toNat).drop (0 : Int).toNat)
    else none
  else
    some l

noncomputable def vocabulary  : Option ((List Str)) :=
  some [([99, 104, 97, 105, 114] : Str), ([100, 101, 115, 107] : Str), ([103, 108, 97, 115, 115] : Str), ([108, 97, 109, 112] : Str), ([111, 102, 102, 105, 99, 101] : Str), ([112, 97, 114, 116, 115] : Str), ([115, 101, 97, 116] : Str), ([115, 116, 101, 101, 108] : Str), ([119, 111, 111, 100] : Str)]

noncomputable def srcWords_j2 (v2 : Int × CustomsmadeSource) (out2 : (List Str)) : Option ((List Str) × CustomsmadeSource) :=
  some (out2, v2.2)
noncomputable def srcWords_j1 (v : (List Str)) (v2 : Int × CustomsmadeSource) (out : (List Str)) : Option ((List Str) × CustomsmadeSource) :=
  if ((out.length : Int) == (0 : Int)) = true then
    if ((v.length : Int) ≠ 0) then
      if (0 ≤ (v2.1.tmod (v.length : Int))) then
        (v[(v2.1.tmod (v.length : Int)).toNat]?).bind fun x =>
          srcWords_j2 v2 [x]
      else none
    else none
  else
    srcWords_j2 v2 out
noncomputable def srcWords_j3 (most : Int) (v : (List Str)) (v2 : Int × CustomsmadeSource) (i2 : Int) (out7 : (List Str)) : Option ((Int × (List Str)) ⊕ ((List Str))) :=
  some (.inl ((IntKind.i64.wrap (i2 + (1 : Int))), out7))
noncomputable def srcWords_b1 (most : Int) (v : (List Str)) (v2 : Int × CustomsmadeSource) : (Int × (List Str)) → Option ((Int × (List Str)) ⊕ ((List Str)))
  | (i2, out4) =>
    if (bif (decide (i2 < (v.length : Int))) then (decide ((out4.length : Int) < most)) else false) = true then
      if (0 ≤ i2) then
        if ((IntKind.i64.wrap ((BitVec.ofInt (IntKind.i64).bits (v2.1.fdiv (2 ^ (min i2.toNat (IntKind.i64).bits))) &&& BitVec.ofInt (IntKind.i64).bits (1 : Int)).toNat : Int)) == (1 : Int)) = true then
          if (0 ≤ i2) then
            (v[i2.toNat]?).bind fun x4 =>
              if (out4.length + [x4].length ≤ 137438953472) then
                srcWords_j3 most v v2 i2 (out4 ++ [x4])
              else none
          else none
        else
          srcWords_j3 most v v2 i2 out4
      else none
    else
      some (.inr out4)
noncomputable def srcWords (s : CustomsmadeSource) (most : Int) : Option ((List Str) × CustomsmadeSource) :=
  (vocabulary ).bind fun v =>
    (srcNext s (512 : Int)).bind fun v2 =>
      (loopO (srcWords_b1 most v v2) ((0 : Int), [])).bind fun e => match e with
        | out6 =>
          srcWords_j1 v v2 out6

noncomputable def srcShares_j1 (left : Int) (out : (List Int)) (c0_0 : (List Int)) (c0_1 : Int) : Option ((List Int) × CustomsmadeSource) :=
  if (out.length + [left].length ≤ 137438953472) then
    some ((out ++ [left]), (⟨c0_0, c0_1⟩ : CustomsmadeSource))
  else none
noncomputable def srcShares_j2 (n1 : Int) (i2 : Int) (left3 : Int) (x3 : Int) (out5 : (List Int)) (c0_07 : (List Int)) (c0_17 : Int) : Option ((Int × Int × (List Int) × (List Int) × Int) ⊕ (Int × (List Int) × (List Int) × Int)) :=
  if (out5.length + [(if (IntKind.i64.wrap (left3 - (IntKind.i64.wrap (n1 - i2)))) < x3 then (IntKind.i64.wrap (left3 - (IntKind.i64.wrap (n1 - i2)))) else x3)].length ≤ 137438953472) then
    some (.inl ((IntKind.i64.wrap (i2 + (1 : Int))), (IntKind.i64.wrap (left3 - (if (IntKind.i64.wrap (left3 - (IntKind.i64.wrap (n1 - i2)))) < x3 then (IntKind.i64.wrap (left3 - (IntKind.i64.wrap (n1 - i2)))) else x3))), (out5 ++ [(if (IntKind.i64.wrap (left3 - (IntKind.i64.wrap (n1 - i2)))) < x3 then (IntKind.i64.wrap (left3 - (IntKind.i64.wrap (n1 - i2)))) else x3)]), c0_07, c0_17))
  else none
noncomputable def srcShares_b1 (n1 : Int) : (Int × Int × (List Int) × (List Int) × Int) → Option ((Int × Int × (List Int) × (List Int) × Int) ⊕ (Int × (List Int) × (List Int) × Int))
  | (i2, left3, out2, c0_04, c0_14) =>
    if (decide (i2 < n1)) = true then
      (srcNext (⟨c0_04, c0_14⟩ : CustomsmadeSource) (4 : Int)).bind fun v7 =>
        (srcNext v7.2 (2 : Int)).bind fun v8 =>
          if (v8.1 == (1 : Int)) = true then
            if (n1 ≠ 0) then
              (srcNext v8.2 (IntKind.i64.wrap ((1000000 : Int).tdiv n1))).bind fun v9 =>
                srcShares_j2 n1 i2 left3 (IntKind.i64.wrap ((1 : Int) + v9.1)) out2 v9.2.L v9.2.I
            else none
          else
            srcShares_j2 n1 i2 left3 (IntKind.i64.wrap ((1 : Int) + (IntKind.i64.wrap (v7.1 * (100000 : Int))))) out2 v8.2.L v8.2.I
    else
      some (.inr (left3, out2, c0_04, c0_14))
noncomputable def srcShares (s : CustomsmadeSource) (n1 : Int) : Option ((List Int) × CustomsmadeSource) :=
  (loopO (srcShares_b1 n1) ((1 : Int), (1000000 : Int), [], s.L, s.I)).bind fun e => match e with
    | (left4, out4, c0_06, c0_16) =>
      srcShares_j1 left4 out4 c0_06 c0_16

noncomputable def madeGood_j2 (v2 : (List Str) × CustomsmadeSource) (v3 : Int × CustomsmadeSource) (c4_12 : (List ApiMaterial)) (c4_2 : (List ApiComponent)) : Option (ApiGood) :=
  some (⟨v2.1, c4_12, c4_2, (v3.1 == (1 : Int))⟩ : ApiGood)
noncomputable def madeGood_b1 (v2 : (List Str) × CustomsmadeSource) (v3 : Int × CustomsmadeSource) (v7 : (List Int) × CustomsmadeSource) : (Int × (List ApiMaterial) × (List ApiComponent) × (List Int) × Int) → Option ((Int × (List ApiMaterial) × (List ApiComponent) × (List Int) × Int) ⊕ ((List ApiMaterial) × (List ApiComponent)))
  | (i2, c4_14, c4_22, c14_03, c14_13) =>
    if (decide (i2 < (v7.1.length : Int))) = true then
      (srcWords (⟨c14_03, c14_13⟩ : CustomsmadeSource) (3 : Int)).bind fun v10 =>
        if (0 ≤ i2) then
          (v7.1[i2.toNat]?).bind fun x3 =>
            if (c4_22.length + [(⟨v10.1, x3⟩ : ApiComponent)].length ≤ 137438953472) then
              some (.inl ((IntKind.i64.wrap (i2 + (1 : Int))), c4_14, (c4_22 ++ [(⟨v10.1, x3⟩ : ApiComponent)]), v10.2.L, v10.2.I))
            else none
        else none
    else
      some (.inr (c4_14, c4_22))
noncomputable def madeGood_j1 (v2 : (List Str) × CustomsmadeSource) (v3 : Int × CustomsmadeSource) (c4_1 : (List ApiMaterial)) (c14_0 : (List Int)) (c14_1 : Int) : Option (ApiGood) :=
  (srcNext (⟨c14_0, c14_1⟩ : CustomsmadeSource) (3 : Int)).bind fun v5 =>
    if (v5.1 == (1 : Int)) = true then
      (srcNext v5.2 (3 : Int)).bind fun v6 =>
        (srcShares v6.2 (IntKind.i64.wrap ((1 : Int) + v6.1))).bind fun v7 =>
          (loopO (madeGood_b1 v2 v3 v7) ((0 : Int), c4_1, [], v7.2.L, v7.2.I)).bind fun e => match e with
            | (c4_15, c4_23) =>
              madeGood_j2 v2 v3 c4_15 c4_23
    else
      madeGood_j2 v2 v3 c4_1 []
noncomputable def madeGood_b2 (v2 : (List Str) × CustomsmadeSource) (v3 : Int × CustomsmadeSource) (v11 : Int × CustomsmadeSource) (v12 : (List Int) × CustomsmadeSource) : (Int × (List ApiMaterial)) → Option ((Int × (List ApiMaterial)) ⊕ ((List ApiMaterial)))
  | (i4, c4_16) =>
    if (decide (i4 < (v12.1.length : Int))) = true then
      if (0 ≤ i4) then
        (([([103, 108, 97, 115, 115] : Str), ([108, 97, 109, 112] : Str), ([115, 116, 101, 101, 108] : Str), ([119, 111, 111, 100] : Str)].drop v11.1.toNat)[i4.toNat]?).bind fun x8 =>
          if (0 ≤ i4) then
            (v12.1[i4.toNat]?).bind fun x9 =>
              if (c4_16.length + [(⟨x8, x9⟩ : ApiMaterial)].length ≤ 137438953472) then
                some (.inl ((IntKind.i64.wrap (i4 + (1 : Int))), (c4_16 ++ [(⟨x8, x9⟩ : ApiMaterial)])))
              else none
          else none
      else none
    else
      some (.inr c4_16)
noncomputable def madeGood (l : (List Int)) : Option (ApiGood) :=
  (madeCut l (60 : Int)).bind fun v =>
    (srcWords (⟨v, 0⟩ : CustomsmadeSource) (4 : Int)).bind fun v2 =>
      (srcNext v2.2 (4 : Int)).bind fun v3 =>
        (srcNext v3.2 (4 : Int)).bind fun v4 =>
          if (decide ((0 : Int) < v4.1)) = true then
            (srcNext v4.2 (2 : Int)).bind fun v11 =>
              if (0 ≤ v11.1 ∧ v11.1 ≤ ([([103, 108, 97, 115, 115] : Str), ([108, 97, 109, 112] : Str), ([115, 116, 101, 101, 108] : Str), ([119, 111, 111, 100] : Str)].length : Int)) then
                (srcShares v11.2 (if (([([103, 108, 97, 115, 115] : Str), ([108, 97, 109, 112] : Str), ([115, 116, 101, 101, 108] : Str), ([119, 111, 111, 100] : Str)].drop v11.1.toNat).length : Int) < v4.1 then (([([103, 108, 97, 115, 115] : Str), ([108, 97, 109, 112] : Str), ([115, 116, 101, 101, 108] : Str), ([119, 111, 111, 100] : Str)].drop v11.1.toNat).length : Int) else v4.1)).bind fun v12 =>
                  (loopO (madeGood_b2 v2 v3 v11 v12) ((0 : Int), [])).bind fun e => match e with
                    | c4_17 =>
                      madeGood_j1 v2 v3 c4_17 v12.2.L v12.2.I
              else none
          else
            madeGood_j1 v2 v3 [] v4.2.L v4.2.I

noncomputable def srcTerms_j1 (out : (List (List Str))) (c0_0 : (List Int)) (c0_1 : Int) : Option ((List (List Str)) × CustomsmadeSource) :=
  some (out, (⟨c0_0, c0_1⟩ : CustomsmadeSource))
noncomputable def srcTerms (s : CustomsmadeSource) : Option ((List (List Str)) × CustomsmadeSource) :=
  (srcWords s (2 : Int)).bind fun v =>
    (srcNext v.2 (3 : Int)).bind fun v2 =>
      if (v2.1 == (1 : Int)) = true then
        (srcWords v2.2 (3 : Int)).bind fun v3 =>
          if ([v.1].length + [v3.1].length ≤ 137438953472) then
            srcTerms_j1 ([v.1] ++ [v3.1]) v3.2.L v3.2.I
          else none
      else
        srcTerms_j1 [v.1] v2.2.L v2.2.I

noncomputable def srcEntry_j4 (F : CustomsmadeSource → Str → Int → Option ((List ApiCodeEntry) × CustomsmadeSource)) (out2 : (List ApiCodeEntry)) (c0_03 : (List Int)) (c0_13 : Int) : Option ((List ApiCodeEntry) × CustomsmadeSource) :=
  some (out2, (⟨c0_03, c0_13⟩ : CustomsmadeSource))
noncomputable def srcEntry_b1 (F : CustomsmadeSource → Str → Int → Option ((List ApiCodeEntry) × CustomsmadeSource)) (code : Str) (c7_32 : (List (List Str))) (c7_4 : Bool) (c7_1 : Int) (c7_2 : Int) (v2 : Int × CustomsmadeSource) : (Int × (List ApiCodeEntry) × (List Int) × Int) → Option ((Int × (List ApiCodeEntry) × (List Int) × Int) ⊕ ((List ApiCodeEntry) × (List Int) × Int))
  | (i, out3, c0_04, c0_14) =>
    if (decide (i ≤ v2.1)) = true then
      if (code.length + ([48] : Str).length ≤ 9223372036854775807) then
        if ((code ++ ([48] : Str)).length + (bytesI [(IntKind.u8.wrap (IntKind.i64.wrap ((48 : Int) + i)))]).length ≤ 9223372036854775807) then
          (F (⟨c0_04, c0_14⟩ : CustomsmadeSource) ((code ++ ([48] : Str)) ++ (bytesI [(IntKind.u8.wrap (IntKind.i64.wrap ((48 : Int) + i)))])) c7_2).bind fun v4 =>
            if (out3.length + v4.1.length ≤ 137438953472) then
              some (.inl ((IntKind.i64.wrap (i + (1 : Int))), (out3 ++ v4.1), v4.2.L, v4.2.I))
            else none
        else none
      else none
    else
      some (.inr (out3, c0_04, c0_14))
noncomputable def srcEntry_j3 (F : CustomsmadeSource → Str → Int → Option ((List ApiCodeEntry) × CustomsmadeSource)) (code : Str) (c7_32 : (List (List Str))) (c7_4 : Bool) (out : (List ApiCodeEntry)) (c0_02 : (List Int)) (c0_12 : Int) (c7_1 : Int) (c7_2 : Int) : Option ((List ApiCodeEntry) × CustomsmadeSource) :=
  if (out.length + [(⟨code, c7_1, c7_2, c7_32, c7_4⟩ : ApiCodeEntry)].length ≤ 137438953472) then
    if ((code.length : Int) == (8 : Int)) = true then
      some ((out ++ [(⟨code, c7_1, c7_2, c7_32, c7_4⟩ : ApiCodeEntry)]), (⟨c0_02, c0_12⟩ : CustomsmadeSource))
    else
      (srcNext (⟨c0_02, c0_12⟩ : CustomsmadeSource) (4 : Int)).bind fun v2 =>
        (loopO (srcEntry_b1 F code c7_32 c7_4 c7_1 c7_2 v2) ((1 : Int), (out ++ [(⟨code, c7_1, c7_2, c7_32, c7_4⟩ : ApiCodeEntry)]), v2.2.L, v2.2.I)).bind fun e => match e with
          | (out5, c0_06, c0_16) =>
            srcEntry_j4 F out5 c0_06 c0_16
  else none
noncomputable def srcEntry_j2 (F : CustomsmadeSource → Str → Int → Option ((List ApiCodeEntry) × CustomsmadeSource)) (code : Str) (end_ : Int) (v : Int × CustomsmadeSource) (c7_32 : (List (List Str))) (c7_4 : Bool) : Option ((List ApiCodeEntry) × CustomsmadeSource) :=
  if (bif (decide ((2 : Int) < (code.length : Int))) then (decide ((12 : Int) < end_)) else false) = true then
    (srcNext v.2 (6 : Int)).bind fun v5 =>
      if (v5.1 == (1 : Int)) = true then
        (srcTerms v5.2).bind fun v6 =>
          if (0 + [(⟨code, (0 : Int), (10 : Int), v6.1, false⟩ : ApiCodeEntry)].length ≤ 137438953472) then
            srcEntry_j3 F code c7_32 c7_4 [(⟨code, (0 : Int), (10 : Int), v6.1, false⟩ : ApiCodeEntry)] v6.2.L v6.2.I (10 : Int) end_
          else none
      else
        if (v5.1 == (2 : Int)) = true then
          srcEntry_j3 F code c7_32 c7_4 [] v5.2.L v5.2.I (0 : Int) (12 : Int)
        else
          srcEntry_j3 F code c7_32 c7_4 [] v5.2.L v5.2.I (0 : Int) end_
  else
    srcEntry_j3 F code c7_32 c7_4 [] v.2.L v.2.I (0 : Int) end_
noncomputable def srcEntry_j7 (F : CustomsmadeSource → Str → Int → Option ((List ApiCodeEntry) × CustomsmadeSource)) (out7 : (List ApiCodeEntry)) (c0_08 : (List Int)) (c0_18 : Int) : Option ((List ApiCodeEntry) × CustomsmadeSource) :=
  some (out7, (⟨c0_08, c0_18⟩ : CustomsmadeSource))
noncomputable def srcEntry_b2 (F : CustomsmadeSource → Str → Int → Option ((List ApiCodeEntry) × CustomsmadeSource)) (code : Str) (c7_33 : (List (List Str))) (c7_42 : Bool) (c7_12 : Int) (c7_22 : Int) (v7 : Int × CustomsmadeSource) : (Int × (List ApiCodeEntry) × (List Int) × Int) → Option ((Int × (List ApiCodeEntry) × (List Int) × Int) ⊕ ((List ApiCodeEntry) × (List Int) × Int))
  | (i3, out8, c0_09, c0_19) =>
    if (decide (i3 ≤ v7.1)) = true then
      if (code.length + ([48] : Str).length ≤ 9223372036854775807) then
        if ((code ++ ([48] : Str)).length + (bytesI [(IntKind.u8.wrap (IntKind.i64.wrap ((48 : Int) + i3)))]).length ≤ 9223372036854775807) then
          (F (⟨c0_09, c0_19⟩ : CustomsmadeSource) ((code ++ ([48] : Str)) ++ (bytesI [(IntKind.u8.wrap (IntKind.i64.wrap ((48 : Int) + i3)))])) c7_22).bind fun v9 =>
            if (out8.length + v9.1.length ≤ 137438953472) then
              some (.inl ((IntKind.i64.wrap (i3 + (1 : Int))), (out8 ++ v9.1), v9.2.L, v9.2.I))
            else none
        else none
      else none
    else
      some (.inr (out8, c0_09, c0_19))
noncomputable def srcEntry_j6 (F : CustomsmadeSource → Str → Int → Option ((List ApiCodeEntry) × CustomsmadeSource)) (code : Str) (c7_33 : (List (List Str))) (c7_42 : Bool) (out6 : (List ApiCodeEntry)) (c0_07 : (List Int)) (c0_17 : Int) (c7_12 : Int) (c7_22 : Int) : Option ((List ApiCodeEntry) × CustomsmadeSource) :=
  if (out6.length + [(⟨code, c7_12, c7_22, c7_33, c7_42⟩ : ApiCodeEntry)].length ≤ 137438953472) then
    if ((code.length : Int) == (8 : Int)) = true then
      some ((out6 ++ [(⟨code, c7_12, c7_22, c7_33, c7_42⟩ : ApiCodeEntry)]), (⟨c0_07, c0_17⟩ : CustomsmadeSource))
    else
      (srcNext (⟨c0_07, c0_17⟩ : CustomsmadeSource) (4 : Int)).bind fun v7 =>
        (loopO (srcEntry_b2 F code c7_33 c7_42 c7_12 c7_22 v7) ((1 : Int), (out6 ++ [(⟨code, c7_12, c7_22, c7_33, c7_42⟩ : ApiCodeEntry)]), v7.2.L, v7.2.I)).bind fun e => match e with
          | (out10, c0_011, c0_111) =>
            srcEntry_j7 F out10 c0_011 c0_111
  else none
noncomputable def srcEntry_j5 (F : CustomsmadeSource → Str → Int → Option ((List ApiCodeEntry) × CustomsmadeSource)) (code : Str) (end_ : Int) (c0_0 : (List Int)) (c0_1 : Int) (c7_33 : (List (List Str))) (c7_42 : Bool) : Option ((List ApiCodeEntry) × CustomsmadeSource) :=
  if (bif (decide ((2 : Int) < (code.length : Int))) then (decide ((12 : Int) < end_)) else false) = true then
    (srcNext (⟨c0_0, c0_1⟩ : CustomsmadeSource) (6 : Int)).bind fun v10 =>
      if (v10.1 == (1 : Int)) = true then
        (srcTerms v10.2).bind fun v11 =>
          if (0 + [(⟨code, (0 : Int), (10 : Int), v11.1, false⟩ : ApiCodeEntry)].length ≤ 137438953472) then
            srcEntry_j6 F code c7_33 c7_42 [(⟨code, (0 : Int), (10 : Int), v11.1, false⟩ : ApiCodeEntry)] v11.2.L v11.2.I (10 : Int) end_
          else none
      else
        if (v10.1 == (2 : Int)) = true then
          srcEntry_j6 F code c7_33 c7_42 [] v10.2.L v10.2.I (0 : Int) (12 : Int)
        else
          srcEntry_j6 F code c7_33 c7_42 [] v10.2.L v10.2.I (0 : Int) end_
  else
    srcEntry_j6 F code c7_33 c7_42 [] c0_0 c0_1 (0 : Int) end_
noncomputable def srcEntry_j1 (F : CustomsmadeSource → Str → Int → Option ((List ApiCodeEntry) × CustomsmadeSource)) (code : Str) (end_ : Int) (c0_0 : (List Int)) (c0_1 : Int) (c7_3 : (List (List Str))) : Option ((List ApiCodeEntry) × CustomsmadeSource) :=
  if (decide ((4 : Int) < (code.length : Int))) = true then
    (srcNext (⟨c0_0, c0_1⟩ : CustomsmadeSource) (3 : Int)).bind fun v =>
      if (bif (decide ((4 : Int) < (code.length : Int))) then (v.1 == (1 : Int)) else false) = true then
        srcEntry_j2 F code end_ v [] true
      else
        srcEntry_j2 F code end_ v c7_3 false
  else
    if (bif (decide ((4 : Int) < (code.length : Int))) then false else false) = true then
      srcEntry_j5 F code end_ c0_0 c0_1 [] true
    else
      srcEntry_j5 F code end_ c0_0 c0_1 c7_3 false
noncomputable def srcEntry_F (F : CustomsmadeSource → Str → Int → Option ((List ApiCodeEntry) × CustomsmadeSource)) (s : CustomsmadeSource) (code : Str) (end_ : Int) : Option ((List ApiCodeEntry) × CustomsmadeSource) :=
  if (decide ((2 : Int) < (code.length : Int))) = true then
    (srcTerms s).bind fun v12 =>
      srcEntry_j1 F code end_ v12.2.L v12.2.I v12.1
  else
    srcEntry_j1 F code end_ s.L s.I []
noncomputable def srcEntry_n : Nat → CustomsmadeSource → Str → Int → Option ((List ApiCodeEntry) × CustomsmadeSource)
  | 0 => fun _ _ _ => none
  | n + 1 => srcEntry_F (srcEntry_n n)
noncomputable def srcEntry (s : CustomsmadeSource) (code : Str) (end_ : Int) : Option ((List ApiCodeEntry) × CustomsmadeSource) := srcEntry_n 5 s code end_

noncomputable def srcEntryR_j4 (out2 : (List ApiCodeEntry)) (c0_03 : (List Int)) (c0_13 : Int) : Option ((List ApiCodeEntry) × CustomsmadeSource) :=
  some (out2, (⟨c0_03, c0_13⟩ : CustomsmadeSource))
noncomputable def srcEntryR_b1 (code : Str) (c7_32 : (List (List Str))) (c7_4 : Bool) (c7_1 : Int) (c7_2 : Int) (v2 : Int × CustomsmadeSource) : (Int × (List ApiCodeEntry) × (List Int) × Int) → Option ((Int × (List ApiCodeEntry) × (List Int) × Int) ⊕ ((List ApiCodeEntry) × (List Int) × Int))
  | (i, out3, c0_04, c0_14) =>
    if (decide (i ≤ v2.1)) = true then
      if (code.length + ([48] : Str).length ≤ 9223372036854775807) then
        if ((code ++ ([48] : Str)).length + (bytesI [(IntKind.u8.wrap (IntKind.i64.wrap ((48 : Int) + i)))]).length ≤ 9223372036854775807) then
          (srcEntry (⟨c0_04, c0_14⟩ : CustomsmadeSource) ((code ++ ([48] : Str)) ++ (bytesI [(IntKind.u8.wrap (IntKind.i64.wrap ((48 : Int) + i)))])) c7_2).bind fun v4 =>
            if (out3.length + v4.1.length ≤ 137438953472) then
              some (.inl ((IntKind.i64.wrap (i + (1 : Int))), (out3 ++ v4.1), v4.2.L, v4.2.I))
            else none
        else none
      else none
    else
      some (.inr (out3, c0_04, c0_14))
noncomputable def srcEntryR_j3 (code : Str) (c7_32 : (List (List Str))) (c7_4 : Bool) (out : (List ApiCodeEntry)) (c0_02 : (List Int)) (c0_12 : Int) (c7_1 : Int) (c7_2 : Int) : Option ((List ApiCodeEntry) × CustomsmadeSource) :=
  if (out.length + [(⟨code, c7_1, c7_2, c7_32, c7_4⟩ : ApiCodeEntry)].length ≤ 137438953472) then
    if ((code.length : Int) == (8 : Int)) = true then
      some ((out ++ [(⟨code, c7_1, c7_2, c7_32, c7_4⟩ : ApiCodeEntry)]), (⟨c0_02, c0_12⟩ : CustomsmadeSource))
    else
      (srcNext (⟨c0_02, c0_12⟩ : CustomsmadeSource) (4 : Int)).bind fun v2 =>
        (loopO (srcEntryR_b1 code c7_32 c7_4 c7_1 c7_2 v2) ((1 : Int), (out ++ [(⟨code, c7_1, c7_2, c7_32, c7_4⟩ : ApiCodeEntry)]), v2.2.L, v2.2.I)).bind fun e => match e with
          | (out5, c0_06, c0_16) =>
            srcEntryR_j4 out5 c0_06 c0_16
  else none
noncomputable def srcEntryR_j2 (code : Str) (end_ : Int) (v : Int × CustomsmadeSource) (c7_32 : (List (List Str))) (c7_4 : Bool) : Option ((List ApiCodeEntry) × CustomsmadeSource) :=
  if (bif (decide ((2 : Int) < (code.length : Int))) then (decide ((12 : Int) < end_)) else false) = true then
    (srcNext v.2 (6 : Int)).bind fun v5 =>
      if (v5.1 == (1 : Int)) = true then
        (srcTerms v5.2).bind fun v6 =>
          if (0 + [(⟨code, (0 : Int), (10 : Int), v6.1, false⟩ : ApiCodeEntry)].length ≤ 137438953472) then
            srcEntryR_j3 code c7_32 c7_4 [(⟨code, (0 : Int), (10 : Int), v6.1, false⟩ : ApiCodeEntry)] v6.2.L v6.2.I (10 : Int) end_
          else none
      else
        if (v5.1 == (2 : Int)) = true then
          srcEntryR_j3 code c7_32 c7_4 [] v5.2.L v5.2.I (0 : Int) (12 : Int)
        else
          srcEntryR_j3 code c7_32 c7_4 [] v5.2.L v5.2.I (0 : Int) end_
  else
    srcEntryR_j3 code c7_32 c7_4 [] v.2.L v.2.I (0 : Int) end_
noncomputable def srcEntryR_j7 (out7 : (List ApiCodeEntry)) (c0_08 : (List Int)) (c0_18 : Int) : Option ((List ApiCodeEntry) × CustomsmadeSource) :=
  some (out7, (⟨c0_08, c0_18⟩ : CustomsmadeSource))
noncomputable def srcEntryR_b2 (code : Str) (c7_33 : (List (List Str))) (c7_42 : Bool) (c7_12 : Int) (c7_22 : Int) (v7 : Int × CustomsmadeSource) : (Int × (List ApiCodeEntry) × (List Int) × Int) → Option ((Int × (List ApiCodeEntry) × (List Int) × Int) ⊕ ((List ApiCodeEntry) × (List Int) × Int))
  | (i3, out8, c0_09, c0_19) =>
    if (decide (i3 ≤ v7.1)) = true then
      if (code.length + ([48] : Str).length ≤ 9223372036854775807) then
        if ((code ++ ([48] : Str)).length + (bytesI [(IntKind.u8.wrap (IntKind.i64.wrap ((48 : Int) + i3)))]).length ≤ 9223372036854775807) then
          (srcEntry (⟨c0_09, c0_19⟩ : CustomsmadeSource) ((code ++ ([48] : Str)) ++ (bytesI [(IntKind.u8.wrap (IntKind.i64.wrap ((48 : Int) + i3)))])) c7_22).bind fun v9 =>
            if (out8.length + v9.1.length ≤ 137438953472) then
              some (.inl ((IntKind.i64.wrap (i3 + (1 : Int))), (out8 ++ v9.1), v9.2.L, v9.2.I))
            else none
        else none
      else none
    else
      some (.inr (out8, c0_09, c0_19))
noncomputable def srcEntryR_j6 (code : Str) (c7_33 : (List (List Str))) (c7_42 : Bool) (out6 : (List ApiCodeEntry)) (c0_07 : (List Int)) (c0_17 : Int) (c7_12 : Int) (c7_22 : Int) : Option ((List ApiCodeEntry) × CustomsmadeSource) :=
  if (out6.length + [(⟨code, c7_12, c7_22, c7_33, c7_42⟩ : ApiCodeEntry)].length ≤ 137438953472) then
    if ((code.length : Int) == (8 : Int)) = true then
      some ((out6 ++ [(⟨code, c7_12, c7_22, c7_33, c7_42⟩ : ApiCodeEntry)]), (⟨c0_07, c0_17⟩ : CustomsmadeSource))
    else
      (srcNext (⟨c0_07, c0_17⟩ : CustomsmadeSource) (4 : Int)).bind fun v7 =>
        (loopO (srcEntryR_b2 code c7_33 c7_42 c7_12 c7_22 v7) ((1 : Int), (out6 ++ [(⟨code, c7_12, c7_22, c7_33, c7_42⟩ : ApiCodeEntry)]), v7.2.L, v7.2.I)).bind fun e => match e with
          | (out10, c0_011, c0_111) =>
            srcEntryR_j7 out10 c0_011 c0_111
  else none
noncomputable def srcEntryR_j5 (code : Str) (end_ : Int) (c0_0 : (List Int)) (c0_1 : Int) (c7_33 : (List (List Str))) (c7_42 : Bool) : Option ((List ApiCodeEntry) × CustomsmadeSource) :=
  if (bif (decide ((2 : Int) < (code.length : Int))) then (decide ((12 : Int) < end_)) else false) = true then
    (srcNext (⟨c0_0, c0_1⟩ : CustomsmadeSource) (6 : Int)).bind fun v10 =>
      if (v10.1 == (1 : Int)) = true then
        (srcTerms v10.2).bind fun v11 =>
          if (0 + [(⟨code, (0 : Int), (10 : Int), v11.1, false⟩ : ApiCodeEntry)].length ≤ 137438953472) then
            srcEntryR_j6 code c7_33 c7_42 [(⟨code, (0 : Int), (10 : Int), v11.1, false⟩ : ApiCodeEntry)] v11.2.L v11.2.I (10 : Int) end_
          else none
      else
        if (v10.1 == (2 : Int)) = true then
          srcEntryR_j6 code c7_33 c7_42 [] v10.2.L v10.2.I (0 : Int) (12 : Int)
        else
          srcEntryR_j6 code c7_33 c7_42 [] v10.2.L v10.2.I (0 : Int) end_
  else
    srcEntryR_j6 code c7_33 c7_42 [] c0_0 c0_1 (0 : Int) end_
noncomputable def srcEntryR_j1 (code : Str) (end_ : Int) (c0_0 : (List Int)) (c0_1 : Int) (c7_3 : (List (List Str))) : Option ((List ApiCodeEntry) × CustomsmadeSource) :=
  if (decide ((4 : Int) < (code.length : Int))) = true then
    (srcNext (⟨c0_0, c0_1⟩ : CustomsmadeSource) (3 : Int)).bind fun v =>
      if (bif (decide ((4 : Int) < (code.length : Int))) then (v.1 == (1 : Int)) else false) = true then
        srcEntryR_j2 code end_ v [] true
      else
        srcEntryR_j2 code end_ v c7_3 false
  else
    if (bif (decide ((4 : Int) < (code.length : Int))) then false else false) = true then
      srcEntryR_j5 code end_ c0_0 c0_1 [] true
    else
      srcEntryR_j5 code end_ c0_0 c0_1 c7_3 false
noncomputable def srcEntryR (s : CustomsmadeSource) (code : Str) (end_ : Int) : Option ((List ApiCodeEntry) × CustomsmadeSource) :=
  if (decide ((2 : Int) < (code.length : Int))) = true then
    (srcTerms s).bind fun v12 =>
      srcEntryR_j1 code end_ v12.2.L v12.2.I v12.1
  else
    srcEntryR_j1 code end_ s.L s.I []

noncomputable def madeNom_j1 (c10_0 : (List Int)) (c10_1 : Int) (c4_1 : (List ApiCodeNote)) : Option (ApiNomenclature) :=
  (srcEntryR (⟨c10_0, c10_1⟩ : CustomsmadeSource) ([57, 52] : Str) (36525 : Int)).bind fun v3 =>
    (srcEntry v3.2 ([57, 53] : Str) (36525 : Int)).bind fun v4 =>
      if (v3.1.length + v4.1.length ≤ 137438953472) then
        some (⟨(v3.1 ++ v4.1), c4_1⟩ : ApiNomenclature)
      else none
noncomputable def madeNom_j2 (n12 : Int) (x5 : Str) (v14 : (List Str) × CustomsmadeSource) (c10_07 : (List Int)) (c10_17 : Int) (c4_15 : (List ApiCodeNote)) (c6_23 : Str) : Option ((Int × (List Int) × Int × (List ApiCodeNote)) ⊕ ((List Int) × Int × (List ApiCodeNote))) :=
  if (c4_15.length + [(⟨x5, v14.1, c6_23⟩ : ApiCodeNote)].length ≤ 137438953472) then
    some (.inl ((IntKind.i64.wrap (n12 - (1 : Int))), c10_07, c10_17, (c4_15 ++ [(⟨x5, v14.1, c6_23⟩ : ApiCodeNote)])))
  else none
noncomputable def madeNom_b1  : (Int × (List Int) × Int × (List ApiCodeNote)) → Option ((Int × (List Int) × Int × (List ApiCodeNote)) ⊕ ((List Int) × Int × (List ApiCodeNote)))
  | (n12, c10_04, c10_14, c4_12) =>
    if (decide ((0 : Int) < n12)) = true then
      (srcNext (⟨c10_04, c10_14⟩ : CustomsmadeSource) (5 : Int)).bind fun v13 =>
        if (0 ≤ v13.1) then
          ([([57, 52] : Str), ([57, 53] : Str), ([57, 52, 48, 49] : Str), ([57, 52, 48, 50] : Str), ([57, 52, 48, 49, 48, 49] : Str)][v13.1.toNat]?).bind fun x5 =>
            (srcWords v13.2 (2 : Int)).bind fun v14 =>
              (srcNext v14.2 (2 : Int)).bind fun v15 =>
                if (v15.1 == (1 : Int)) = true then
                  (srcNext v15.2 (3 : Int)).bind fun v16 =>
                    if (0 ≤ v16.1) then
                      ([([57, 52, 48, 49] : Str), ([57, 52, 48, 50] : Str), ([57, 53, 48, 49] : Str)][v16.1.toNat]?).bind fun x6 =>
                        madeNom_j2 n12 x5 v14 v16.2.L v16.2.I c4_12 x6
                    else none
                else
                  madeNom_j2 n12 x5 v14 v15.2.L v15.2.I c4_12 []
        else none
    else
      some (.inr (c10_04, c10_14, c4_12))
noncomputable def madeNom (l : (List Int)) : Option (ApiNomenclature) :=
  (madeCut l (300 : Int)).bind fun v =>
    (srcNext (⟨v, 0⟩ : CustomsmadeSource) (4 : Int)).bind fun v2 =>
      (loopO (madeNom_b1) (v2.1, v2.2.L, v2.2.I, [])).bind fun e => match e with
        | (c10_06, c10_16, c4_14) =>
          madeNom_j1 c10_06 c10_16 c4_14

noncomputable def few09_j2 (c1_0 : (List ApiCodeEntry)) (c1_1 : (List ApiCodeNote)) : Option (ApiNomenclature) :=
  some (⟨c1_0, c1_1⟩ : ApiNomenclature)
noncomputable def few09_j1 (b : ApiNomenclature) (c1_0 : (List ApiCodeEntry)) : Option (ApiNomenclature) :=
  if (decide ((110 : Int) < (b.Notes.length : Int))) = true then
    if (0 ≤ (0 : Int) ∧ (0 : Int) ≤ (110 : Int) ∧ (110 : Int) ≤ (b.Notes.length : Int)) then
      few09_j2 c1_0 ((b.Notes.take (110 : Int).toNat).drop (0 : Int).toNat)
    else none
  else
    few09_j2 c1_0 b.Notes
noncomputable def few09 (b : ApiNomenclature) : Option (ApiNomenclature) :=
  if (decide ((310 : Int) < (b.Entries.length : Int))) = true then
    if (0 ≤ (0 : Int) ∧ (0 : Int) ≤ (310 : Int) ∧ (310 : Int) ≤ (b.Entries.length : Int)) then
      few09_j1 b ((b.Entries.take (310 : Int).toNat).drop (0 : Int).toNat)
    else none
  else
    few09_j1 b b.Entries

end Go.C
