/- Plain functions, read off the program by program (gen.py): no program in sight. -/
import Derived.Test.YtcfkiahbipjbmaaGreatDoorPl
import Derived.Test.YtcfkiahbipjbmaaGreatDoorPa
import Derived.Test.YtcfkiahbipjbmaaGreatDoorPb
set_option linter.unusedVariables false
namespace Go.C
open Go.V

noncomputable def goodsFormat_j5 (text3 : Str) : Option (Str) :=
  some text3
noncomputable def goodsFormat_j4 (g : ApiGood) (text2 : Str) : Option (Str) :=
  if g.Incomplete = true then
    if (text2.length + ([32, 105, 110, 99, 111, 109, 112, 108, 101, 116, 101] : Str).length ≤ 9223372036854775807) then
      goodsFormat_j5 (text2 ++ ([32, 105, 110, 99, 111, 109, 112, 108, 101, 116, 101] : Str))
    else none
  else
    goodsFormat_j5 text2
noncomputable def goodsFormat_j3 (g : ApiGood) (text : Str) (parts2 : (List Str)) : Option (Str) :=
  if (decide ((0 : Int) < (parts2.length : Int))) = true then
    (joinS parts2 ([44] : Str)).bind fun v3 =>
      if (([32, 112, 58] : Str).length + v3.length ≤ 9223372036854775807) then
        if (text.length + (([32, 112, 58] : Str) ++ v3).length ≤ 9223372036854775807) then
          goodsFormat_j4 g (text ++ (([32, 112, 58] : Str) ++ v3))
        else none
      else none
  else
    goodsFormat_j4 g text
noncomputable def goodsFormat_j2 (g : ApiGood) (v2 : Str) (parts : (List Str)) (materials2 : (List Str)) : Option (Str) :=
  if (decide ((0 : Int) < (materials2.length : Int))) = true then
    (joinS materials2 ([44] : Str)).bind fun v4 =>
      if (([32, 109, 58] : Str).length + v4.length ≤ 9223372036854775807) then
        if (v2.length + (([32, 109, 58] : Str) ++ v4).length ≤ 9223372036854775807) then
          goodsFormat_j3 g (v2 ++ (([32, 109, 58] : Str) ++ v4)) parts
        else none
      else none
  else
    goodsFormat_j3 g v2 parts
noncomputable def goodsFormat_b1 (g : ApiGood) (v2 : Str) : (Int × (List Str) × (List Str)) → Option ((Int × (List Str) × (List Str)) ⊕ ((List Str) × (List Str)))
  | (t372, parts3, materials4) =>
    if (decide (t372 < (g.Parts.length : Int))) = true then
      if (0 ≤ t372) then
        (g.Parts[t372.toNat]?).bind fun x3 =>
          (joinS x3.Words ([43] : Str)).bind fun v9 =>
            if (v9.length + ([58] : Str).length ≤ 9223372036854775807) then
              (itoa x3.Share).bind fun v10 =>
                if ((v9 ++ ([58] : Str)).length + v10.length ≤ 9223372036854775807) then
                  if (parts3.length + [((v9 ++ ([58] : Str)) ++ v10)].length ≤ 137438953472) then
                    some (.inl ((IntKind.i64.wrap (t372 + (1 : Int))), (parts3 ++ [((v9 ++ ([58] : Str)) ++ v10)]), materials4))
                  else none
                else none
            else none
      else none
    else
      some (.inr (parts3, materials4))
noncomputable def goodsFormat_j1 (g : ApiGood) (v2 : Str) (materials : (List Str)) : Option (Str) :=
  (loopO (goodsFormat_b1 g v2) ((0 : Int), [], materials)).bind fun e => match e with
    | (parts4, materials5) =>
      goodsFormat_j2 g v2 parts4 materials5
noncomputable def goodsFormat_b2 (g : ApiGood) (v2 : Str) : (Int × (List Str)) → Option ((Int × (List Str)) ⊕ ((List Str)))
  | (t192, materials6) =>
    if (decide (t192 < (g.Materials.length : Int))) = true then
      if (0 ≤ t192) then
        (g.Materials[t192.toNat]?).bind fun x6 =>
          if (x6.Name.length + ([58] : Str).length ≤ 9223372036854775807) then
            (itoa x6.Share).bind fun v13 =>
              if ((x6.Name ++ ([58] : Str)).length + v13.length ≤ 9223372036854775807) then
                if (materials6.length + [((x6.Name ++ ([58] : Str)) ++ v13)].length ≤ 137438953472) then
                  some (.inl ((IntKind.i64.wrap (t192 + (1 : Int))), (materials6 ++ [((x6.Name ++ ([58] : Str)) ++ v13)])))
                else none
              else none
          else none
      else none
    else
      some (.inr materials6)
noncomputable def goodsFormat (g : ApiGood) : Option (Str) :=
  (goodsValidate g).bind fun v =>
    if (v != (0 : Int)) = true then
      some ([] : Str)
    else
      (joinS g.Words ([43] : Str)).bind fun v2 =>
        (loopO (goodsFormat_b2 g v2) ((0 : Int), [])).bind fun e => match e with
          | materials7 =>
            goodsFormat_j1 g v2 materials7

noncomputable def goodsShare_j1 (v : Str × Str × Bool) (n1 : Int) : Option (Str × Int) :=
  some (v.1, n1)
noncomputable def goodsShare (s : Str) : Option (Str × Int) :=
  (cutS s ([58] : Str)).bind fun v =>
    (atoiS v.2.1).bind fun v2 =>
      if (!v2.2) = true then
        goodsShare_j1 v (0 : Int)
      else
        goodsShare_j1 v v2.1

noncomputable def goodsParse_j1 (s : Str) (v2 : (List Str)) (c5_1 : (List ApiMaterial)) (c5_2 : (List ApiComponent)) (c5_3 : Bool) : Option (ApiGood × Int) :=
  (goodsValidate (⟨v2, c5_1, c5_2, c5_3⟩ : ApiGood)).bind fun v3 =>
    (if (!(v3 != (0 : Int))) = true then goodsFormat (⟨v2, c5_1, c5_2, c5_3⟩ : ApiGood) else some default).bind fun v4 =>
      if (bif (v3 != (0 : Int)) then true else (!(v4 == s))) = true then
        some ((⟨[], [], [], false⟩ : ApiGood), (4 : Int))
      else
        some ((⟨v2, c5_1, c5_2, c5_3⟩ : ApiGood), (0 : Int))
noncomputable def goodsParse_j2 (s : Str) (v : (List Str)) (v2 : (List Str)) (t302 : Int) (c5_114 : (List ApiMaterial)) (c5_214 : (List ApiComponent)) (c5_37 : Bool) : Option ((Int × (List ApiMaterial) × (List ApiComponent) × Bool) ⊕ ((List ApiMaterial) × (List ApiComponent) × Bool)) :=
  some (.inl ((IntKind.i64.wrap (t302 + (1 : Int))), c5_114, c5_214, c5_37))
noncomputable def goodsParse_b2 (s : Str) (v : (List Str)) (v2 : (List Str)) (t302 : Int) (c5_34 : Bool) (v29 : (List Str)) : (Int × (List ApiMaterial) × (List ApiComponent)) → Option ((Int × (List ApiMaterial) × (List ApiComponent)) ⊕ ((List ApiMaterial) × (List ApiComponent)))
  | (t435, c5_115, c5_215) =>
    if (decide (t435 < (v29.length : Int))) = true then
      if (0 ≤ t435) then
        (v29[t435.toNat]?).bind fun x16 =>
          (goodsShare x16).bind fun v31 =>
            if (c5_115.length + [(⟨v31.1, v31.2⟩ : ApiMaterial)].length ≤ 137438953472) then
              some (.inl ((IntKind.i64.wrap (t435 + (1 : Int))), (c5_115 ++ [(⟨v31.1, v31.2⟩ : ApiMaterial)]), c5_215))
            else none
      else none
    else
      some (.inr (c5_115, c5_215))
noncomputable def goodsParse_b3 (s : Str) (v : (List Str)) (v2 : (List Str)) (t302 : Int) (c5_34 : Bool) (v33 : (List Str)) : (Int × (List ApiMaterial) × (List ApiComponent)) → Option ((Int × (List ApiMaterial) × (List ApiComponent)) ⊕ ((List ApiMaterial) × (List ApiComponent)))
  | (t705, c5_118, c5_218) =>
    if (decide (t705 < (v33.length : Int))) = true then
      if (0 ≤ t705) then
        (v33[t705.toNat]?).bind fun x18 =>
          (goodsShare x18).bind fun v36 =>
            (splitS v36.1 ([43] : Str)).bind fun v37 =>
              if (c5_218.length + [(⟨v37, v36.2⟩ : ApiComponent)].length ≤ 137438953472) then
                some (.inl ((IntKind.i64.wrap (t705 + (1 : Int))), c5_118, (c5_218 ++ [(⟨v37, v36.2⟩ : ApiComponent)])))
              else none
      else none
    else
      some (.inr (c5_118, c5_218))
noncomputable def goodsParse_b1 (s : Str) (v : (List Str)) (v2 : (List Str)) : (Int × (List ApiMaterial) × (List ApiComponent) × Bool) → Option ((Int × (List ApiMaterial) × (List ApiComponent) × Bool) ⊕ ((List ApiMaterial) × (List ApiComponent) × Bool))
  | (t302, c5_15, c5_25, c5_34) =>
    if (decide (t302 < ((v.drop (1 : Int).toNat).length : Int))) = true then
      if (0 ≤ t302) then
        ((v.drop (1 : Int).toNat)[t302.toNat]?).bind fun x14 =>
          (cutPrefixS x14 ([109, 58] : Str)).bind fun v28 =>
            if v28.2 = true then
              (splitS v28.1 ([44] : Str)).bind fun v29 =>
                (loopO (goodsParse_b2 s v v2 t302 c5_34 v29) ((0 : Int), c5_15, c5_25)).bind fun e => match e with
                  | (c5_117, c5_217) =>
                    goodsParse_j2 s v v2 t302 c5_117 c5_217 c5_34
            else
              (cutPrefixS x14 ([112, 58] : Str)).bind fun v32 =>
                if v32.2 = true then
                  (splitS v32.1 ([44] : Str)).bind fun v33 =>
                    (loopO (goodsParse_b3 s v v2 t302 c5_34 v33) ((0 : Int), c5_15, c5_25)).bind fun e => match e with
                      | (c5_120, c5_220) =>
                        goodsParse_j2 s v v2 t302 c5_120 c5_220 c5_34
                else
                  goodsParse_j2 s v v2 t302 c5_15 c5_25 true
      else none
    else
      some (.inr (c5_15, c5_25, c5_34))
noncomputable def goodsParse (s : Str) : Option (ApiGood × Int) :=
  (splitS s ([32] : Str)).bind fun v =>
    (v[0]?).bind fun x =>
      (splitS x ([43] : Str)).bind fun v2 =>
        if (0 ≤ (1 : Int) ∧ (1 : Int) ≤ (v.length : Int)) then
          (loopO (goodsParse_b1 s v v2) ((0 : Int), [], [], false)).bind fun e => match e with
            | (c5_113, c5_213, c5_36) =>
              goodsParse_j1 s v2 c5_113 c5_213 c5_36
        else none

end Go.C
