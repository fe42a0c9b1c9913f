/- Plain functions, read off the program by program (gen.py): no program in sight. -/
import Derived.Test.YtcfkiahbipjbmaaGreatDoorPl
set_option linter.unusedVariables false
namespace Go.C
open Go.V

noncomputable def within (x : Int) (n1 : Int) : Option (Int) :=
  if (n1 ≠ 0) then
    if (n1 ≠ 0) then
      some ((IntKind.i64.wrap ((x.tmod n1) + n1)).tmod n1)
    else none
  else none

noncomputable def srcNext (s : CustomsmadeSource) (n1 : Int) : Option (Int × CustomsmadeSource) :=
  if (decide ((s.L.length : Int) ≤ s.I)) = true then
    some ((0 : Int), s)
  else
    if (0 ≤ (IntKind.i64.wrap ((IntKind.i64.wrap (s.I + (1 : Int))) - (1 : Int)))) then
      (s.L[(IntKind.i64.wrap ((IntKind.i64.wrap (s.I + (1 : Int))) - (1 : Int))).toNat]?).bind fun x =>
        (within x n1).bind fun v =>
          some (v, (⟨s.L, (IntKind.i64.wrap (s.I + (1 : Int)))⟩ : CustomsmadeSource))
    else none

noncomputable def madeCut (l : (List Int)) (n1 : Int) : Option ((List Int)) :=
  if (decide (n1 < (l.length : Int))) = true then
    if (0 ≤ (0 : Int) ∧ (0 : Int) ≤ n1 ∧ n1 ≤ (l.length : Int)) then
      some ((l.take n1.toNat).drop (0 : Int).toNat)
    else none
  else
    some l

noncomputable def vocabulary  : Option ((List Str)) :=
  some [([99, 104, 97, 105, 114] : Str), ([100, 101, 115, 107] : Str), ([103, 108, 97, 115, 115] : Str), ([108, 97, 109, 112] : Str), ([111, 102, 102, 105, 99, 101] : Str), ([112, 97, 114, 116, 115] : Str), ([115, 101, 97, 116] : Str), ([115, 116, 101, 101, 108] : Str), ([119, 111, 111, 100] : Str)]

noncomputable def srcWords_j2 (v2 : Int × CustomsmadeSource) (out2 : (List Str)) : Option ((List Str) × CustomsmadeSource) :=
  some (out2, v2.2)
noncomputable def srcWords_j1 (v : (List Str)) (v2 : Int × CustomsmadeSource) (out : (List Str)) : Option ((List Str) × CustomsmadeSource) :=
  if ((out.length : Int) == (0 : Int)) = true then
    if ((v.length : Int) ≠ 0) then
      if (0 ≤ (v2.1.tmod (v.length : Int))) then
        (v[(v2.1.tmod (v.length : Int)).toNat]?).bind fun x =>
          srcWords_j2 v2 [x]
      else none
    else none
  else
    srcWords_j2 v2 out
noncomputable def srcWords_j3 (most : Int) (v : (List Str)) (v2 : Int × CustomsmadeSource) (i2 : Int) (out7 : (List Str)) : Option ((Int × (List Str)) ⊕ ((List Str))) :=
  some (.inl ((IntKind.i64.wrap (i2 + (1 : Int))), out7))
noncomputable def srcWords_b1 (most : Int) (v : (List Str)) (v2 : Int × CustomsmadeSource) : (Int × (List Str)) → Option ((Int × (List Str)) ⊕ ((List Str)))
  | (i2, out4) =>
    if (bif (decide (i2 < (v.length : Int))) then (decide ((out4.length : Int) < most)) else false) = true then
      if (0 ≤ i2) then
        if ((IntKind.i64.wrap ((BitVec.ofInt (IntKind.i64).bits (v2.1.fdiv (2 ^ (min i2.toNat (IntKind.i64).bits))) &&& BitVec.ofInt (IntKind.i64).bits (1 : Int)).toNat : Int)) == (1 : Int)) = true then
          if (0 ≤ i2) then
            (v[i2.toNat]?).bind fun x4 =>
              if (out4.length + [x4].length ≤ 137438953472) then
                srcWords_j3 most v v2 i2 (out4 ++ [x4])
              else none
          else none
        else
          srcWords_j3 most v v2 i2 out4
      else none
    else
      some (.inr out4)
noncomputable def srcWords (s : CustomsmadeSource) (most : Int) : Option ((List Str) × CustomsmadeSource) :=
  (vocabulary ).bind fun v =>
    (srcNext s (512 : Int)).bind fun v2 =>
      (loopO (srcWords_b1 most v v2) ((0 : Int), [])).bind fun e => match e with
        | out6 =>
          srcWords_j1 v v2 out6

noncomputable def srcShares_j1 (left : Int) (out : (List Int)) (c0_0 : (List Int)) (c0_1 : Int) : Option ((List Int) × CustomsmadeSource) :=
  if (out.length + [left].length ≤ 137438953472) then
    some ((out ++ [left]), (⟨c0_0, c0_1⟩ : CustomsmadeSource))
  else none
noncomputable def srcShares_j2 (n1 : Int) (i2 : Int) (left3 : Int) (x3 : Int) (out5 : (List Int)) (c0_07 : (List Int)) (c0_17 : Int) : Option ((Int × Int × (List Int) × (List Int) × Int) ⊕ (Int × (List Int) × (List Int) × Int)) :=
  if (out5.length + [(if (IntKind.i64.wrap (left3 - (IntKind.i64.wrap (n1 - i2)))) < x3 then (IntKind.i64.wrap (left3 - (IntKind.i64.wrap (n1 - i2)))) else x3)].length ≤ 137438953472) then
    some (.inl ((IntKind.i64.wrap (i2 + (1 : Int))), (IntKind.i64.wrap (left3 - (if (IntKind.i64.wrap (left3 - (IntKind.i64.wrap (n1 - i2)))) < x3 then (IntKind.i64.wrap (left3 - (IntKind.i64.wrap (n1 - i2)))) else x3))), (out5 ++ [(if (IntKind.i64.wrap (left3 - (IntKind.i64.wrap (n1 - i2)))) < x3 then (IntKind.i64.wrap (left3 - (IntKind.i64.wrap (n1 - i2)))) else x3)]), c0_07, c0_17))
  else none
noncomputable def srcShares_b1 (n1 : Int) : (Int × Int × (List Int) × (List Int) × Int) → Option ((Int × Int × (List Int) × (List Int) × Int) ⊕ (Int × (List Int) × (List Int) × Int))
  | (i2, left3, out2, c0_04, c0_14) =>
    if (decide (i2 < n1)) = true then
      (srcNext (⟨c0_04, c0_14⟩ : CustomsmadeSource) (4 : Int)).bind fun v7 =>
        (srcNext v7.2 (2 : Int)).bind fun v8 =>
          if (v8.1 == (1 : Int)) = true then
            if (n1 ≠ 0) then
              (srcNext v8.2 (IntKind.i64.wrap ((1000000 : Int).tdiv n1))).bind fun v9 =>
                srcShares_j2 n1 i2 left3 (IntKind.i64.wrap ((1 : Int) + v9.1)) out2 v9.2.L v9.2.I
            else none
          else
            srcShares_j2 n1 i2 left3 (IntKind.i64.wrap ((1 : Int) + (IntKind.i64.wrap (v7.1 * (100000 : Int))))) out2 v8.2.L v8.2.I
    else
      some (.inr (left3, out2, c0_04, c0_14))
noncomputable def srcShares (s : CustomsmadeSource) (n1 : Int) : Option ((List Int) × CustomsmadeSource) :=
  (loopO (srcShares_b1 n1) ((1 : Int), (1000000 : Int), [], s.L, s.I)).bind fun e => match e with
    | (left4, out4, c0_06, c0_16) =>
      srcShares_j1 left4 out4 c0_06 c0_16

noncomputable def madeGood_j2 (v2 : (List Str) × CustomsmadeSource) (v3 : Int × CustomsmadeSource) (c4_12 : (List ApiMaterial)) (c4_2 : (List ApiComponent)) : Option (ApiGood) :=
  some (⟨v2.1, c4_12, c4_2, (v3.1 == (1 : Int))⟩ : ApiGood)
noncomputable def madeGood_b1 (v2 : (List Str) × CustomsmadeSource) (v3 : Int × CustomsmadeSource) (v7 : (List Int) × CustomsmadeSource) : (Int × (List ApiMaterial) × (List ApiComponent) × (List Int) × Int) → Option ((Int × (List ApiMaterial) × (List ApiComponent) × (List Int) × Int) ⊕ ((List ApiMaterial) × (List ApiComponent)))
  | (i2, c4_14, c4_22, c14_03, c14_13) =>
    if (decide (i2 < (v7.1.length : Int))) = true then
      (srcWords (⟨c14_03, c14_13⟩ : CustomsmadeSource) (3 : Int)).bind fun v10 =>
        if (0 ≤ i2) then
          (v7.1[i2.toNat]?).bind fun x3 =>
            if (c4_22.length + [(⟨v10.1, x3⟩ : ApiComponent)].length ≤ 137438953472) then
              some (.inl ((IntKind.i64.wrap (i2 + (1 : Int))), c4_14, (c4_22 ++ [(⟨v10.1, x3⟩ : ApiComponent)]), v10.2.L, v10.2.I))
            else none
        else none
    else
      some (.inr (c4_14, c4_22))
noncomputable def madeGood_j1 (v2 : (List Str) × CustomsmadeSource) (v3 : Int × CustomsmadeSource) (c4_1 : (List ApiMaterial)) (c14_0 : (List Int)) (c14_1 : Int) : Option (ApiGood) :=
  (srcNext (⟨c14_0, c14_1⟩ : CustomsmadeSource) (3 : Int)).bind fun v5 =>
    if (v5.1 == (1 : Int)) = true then
      (srcNext v5.2 (3 : Int)).bind fun v6 =>
        (srcShares v6.2 (IntKind.i64.wrap ((1 : Int) + v6.1))).bind fun v7 =>
          (loopO (madeGood_b1 v2 v3 v7) ((0 : Int), c4_1, [], v7.2.L, v7.2.I)).bind fun e => match e with
            | (c4_15, c4_23) =>
              madeGood_j2 v2 v3 c4_15 c4_23
    else
      madeGood_j2 v2 v3 c4_1 []
noncomputable def madeGood_b2 (v2 : (List Str) × CustomsmadeSource) (v3 : Int × CustomsmadeSource) (v11 : Int × CustomsmadeSource) (v12 : (List Int) × CustomsmadeSource) : (Int × (List ApiMaterial)) → Option ((Int × (List ApiMaterial)) ⊕ ((List ApiMaterial)))
  | (i4, c4_16) =>
    if (decide (i4 < (v12.1.length : Int))) = true then
      if (0 ≤ i4) then
        (([([103, 108, 97, 115, 115] : Str), ([108, 97, 109, 112] : Str), ([115, 116, 101, 101, 108] : Str), ([119, 111, 111, 100] : Str)].drop v11.1.toNat)[i4.toNat]?).bind fun x8 =>
          if (0 ≤ i4) then
            (v12.1[i4.toNat]?).bind fun x9 =>
              if (c4_16.length + [(⟨x8, x9⟩ : ApiMaterial)].length ≤ 137438953472) then
                some (.inl ((IntKind.i64.wrap (i4 + (1 : Int))), (c4_16 ++ [(⟨x8, x9⟩ : ApiMaterial)])))
              else none
          else none
      else none
    else
      some (.inr c4_16)
noncomputable def madeGood (l : (List Int)) : Option (ApiGood) :=
  (madeCut l (60 : Int)).bind fun v =>
    (srcWords (⟨v, 0⟩ : CustomsmadeSource) (4 : Int)).bind fun v2 =>
      (srcNext v2.2 (4 : Int)).bind fun v3 =>
        (srcNext v3.2 (4 : Int)).bind fun v4 =>
          if (decide ((0 : Int) < v4.1)) = true then
            (srcNext v4.2 (2 : Int)).bind fun v11 =>
              if (0 ≤ v11.1 ∧ v11.1 ≤ ([([103, 108, 97, 115, 115] : Str), ([108, 97, 109, 112] : Str), ([115, 116, 101, 101, 108] : Str), ([119, 111, 111, 100] : Str)].length : Int)) then
                (srcShares v11.2 (if (([([103, 108, 97, 115, 115] : Str), ([108, 97, 109, 112] : Str), ([115, 116, 101, 101, 108] : Str), ([119, 111, 111, 100] : Str)].drop v11.1.toNat).length : Int) < v4.1 then (([([103, 108, 97, 115, 115] : Str), ([108, 97, 109, 112] : Str), ([115, 116, 101, 101, 108] : Str), ([119, 111, 111, 100] : Str)].drop v11.1.toNat).length : Int) else v4.1)).bind fun v12 =>
                  (loopO (madeGood_b2 v2 v3 v11 v12) ((0 : Int), [])).bind fun e => match e with
                    | c4_17 =>
                      madeGood_j1 v2 v3 c4_17 v12.2.L v12.2.I
              else none
          else
            madeGood_j1 v2 v3 [] v4.2.L v4.2.I

noncomputable def few_j1 (l2 : (List Str)) : Option ((List Str)) :=
  some l2
noncomputable def few (l : (List Str)) : Option ((List Str)) :=
  if (decide ((30 : Int) < (l.length : Int))) = true then
    if (0 ≤ (0 : Int) ∧ (0 : Int) ≤ (30 : Int) ∧ (30 : Int) ≤ (l.length : Int)) then
      few_j1 ((l.take (30 : Int).toNat).drop (0 : Int).toNat)
    else none
  else
    few_j1 l

end Go.C
