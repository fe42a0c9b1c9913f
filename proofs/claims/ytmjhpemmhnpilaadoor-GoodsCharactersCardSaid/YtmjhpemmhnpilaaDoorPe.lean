/- Plain functions, read off the program by program (gen.py): no program in sight. -/
import Derived.Test.YtmjhpemmhnpilaaDoorPl
import Derived.Test.YtmjhpemmhnpilaaDoorPa
import Derived.Test.YtmjhpemmhnpilaaDoorPb
import Derived.Test.YtmjhpemmhnpilaaDoorPc
import Derived.Test.YtmjhpemmhnpilaaDoorPd
set_option linter.unusedVariables false
namespace Go.C
open Go.V

noncomputable def awake08  : Option (Bool) :=
  (goodsParse ([99, 104, 97, 105, 114, 43, 111, 102, 102, 105, 99, 101, 32, 109, 58, 115, 116, 101, 101, 108, 58, 52, 48, 48, 48, 48, 48, 44, 119, 111, 111, 100, 58, 54, 48, 48, 48, 48, 48] : Str)).bind fun v =>
    (goodsCharacters v.1).bind fun v2 =>
      if ((bif (v.2 == (0 : Int)) then ((v2.length : Int) == (2 : Int)) else false) = true → (0 ≤ (0 : Int) ∧ (0 : Int) < (v2.length : Int))) then
        if ((bif (bif (v.2 == (0 : Int)) then ((v2.length : Int) == (2 : Int)) else false) then ((((v2.getD 0 default).Words).length : Int) == (1 : Int)) else false) = true → (0 ≤ (0 : Int) ∧ (0 : Int) < (v2.length : Int))) then
          if ((bif (bif (v.2 == (0 : Int)) then ((v2.length : Int) == (2 : Int)) else false) then ((((v2.getD 0 default).Words).length : Int) == (1 : Int)) else false) = true → (0 ≤ (0 : Int) ∧ (0 : Int) < (((v2.getD 0 default).Words).length : Int))) then
            (if (bif (bif (bif (v.2 == (0 : Int)) then ((v2.length : Int) == (2 : Int)) else false) then ((((v2.getD 0 default).Words).length : Int) == (1 : Int)) else false) then ((((v2.getD 0 default).Words).getD 0 default) == ([119, 111, 111, 100] : Str)) else false) = true then goodsValidate v.1 else some default).bind fun v3 =>
              (if (bif (bif (bif (bif (v.2 == (0 : Int)) then ((v2.length : Int) == (2 : Int)) else false) then ((((v2.getD 0 default).Words).length : Int) == (1 : Int)) else false) then ((((v2.getD 0 default).Words).getD 0 default) == ([119, 111, 111, 100] : Str)) else false) then (v3 == (0 : Int)) else false) = true then goodsFormat v.1 else some default).bind fun v4 =>
                some (bif (bif (bif (bif (bif (v.2 == (0 : Int)) then ((v2.length : Int) == (2 : Int)) else false) then ((((v2.getD 0 default).Words).length : Int) == (1 : Int)) else false) then ((((v2.getD 0 default).Words).getD 0 default) == ([119, 111, 111, 100] : Str)) else false) then (v3 == (0 : Int)) else false) then (v4 == ([99, 104, 97, 105, 114, 43, 111, 102, 102, 105, 99, 101, 32, 109, 58, 115, 116, 101, 101, 108, 58, 52, 48, 48, 48, 48, 48, 44, 119, 111, 111, 100, 58, 54, 48, 48, 48, 48, 48] : Str)) else false)
          else none
        else none
      else none

noncomputable def lawValidate_j1 (v2 : ApiGood) (c7_0 : (List Str)) (c7_1 : (List ApiMaterial)) (c7_2 : (List ApiComponent)) : Option (Bool) :=
  (goodsValidate (⟨c7_0, c7_1, c7_2, v2.Incomplete⟩ : ApiGood)).bind fun v7 =>
    (refGood (⟨c7_0, c7_1, c7_2, v2.Incomplete⟩ : ApiGood)).bind fun v8 =>
      (if (v7 == v8) = true then awake08  else some default).bind fun v9 =>
        some (bif (v7 == v8) then v9 else false)
noncomputable def lawValidate (raw : ApiGood) (l : (List Int)) (which : Int) : Option (Bool) :=
  (small raw).bind fun v =>
    (madeGood l).bind fun v2 =>
      (goodsValidate v).bind fun v3 =>
        (refGood v).bind fun v4 =>
          (if (!(v3 != v4)) = true then goodsValidate v2 else some default).bind fun v5 =>
            if (bif (v3 != v4) then true else (v5 != (0 : Int))) = true then
              some false
            else
              (within which (3 : Int)).bind fun v6 =>
                if (v6 == (0 : Int)) = true then
                  lawValidate_j1 v2 v.Words v2.Materials v2.Parts
                else
                  if (v6 == (1 : Int)) = true then
                    lawValidate_j1 v2 v2.Words v.Materials v2.Parts
                  else
                    lawValidate_j1 v2 v2.Words v2.Materials v.Parts

noncomputable def lawShares_j2 (v : ApiGood) (t92 : (List ApiComponent)) (t82 : (List ApiMaterial)) : Option (Bool) :=
  (goodsValidate (⟨v.Words, t82, t92, v.Incomplete⟩ : ApiGood)).bind fun v2 =>
    (refGood (⟨v.Words, t82, t92, v.Incomplete⟩ : ApiGood)).bind fun v3 =>
      (if (v2 == v3) = true then awake08  else some default).bind fun v4 =>
        some (bif (v2 == v3) then v4 else false)
noncomputable def lawShares_j1 (a1 : Int) (a2 : Int) (v : ApiGood) (t9 : (List ApiComponent)) (t8 : (List ApiMaterial)) : Option (Bool) :=
  if (decide ((0 : Int) < (t9.length : Int))) = true then
    (within (a1.fdiv (2 ^ (min (3 : Int).toNat (IntKind.i64).bits))) (t9.length : Int)).bind fun v5 =>
      if (0 ≤ v5 ∧ v5 < (t9.length : Int)) then
        (within (a2.fdiv (2 ^ (min (3 : Int).toNat (IntKind.i64).bits))) (5 : Int)).bind fun v6 =>
          if (0 ≤ v5 ∧ v5 < (t9.length : Int)) then
            lawShares_j2 v (t9.set v5.toNat (⟨(t9.getD v5.toNat default).Words, (IntKind.i64.wrap (((t9.getD v5.toNat default).Share) + (IntKind.i64.wrap (v6 - (2 : Int)))))⟩ : ApiComponent)) t8
          else none
      else none
  else
    lawShares_j2 v t9 t8
noncomputable def lawShares (a0 : (List Int)) (a1 : Int) (a2 : Int) : Option (Bool) :=
  (madeGood a0).bind fun v =>
    if (0 + v.Materials.length ≤ 137438953472) then
      if (0 + v.Parts.length ≤ 137438953472) then
        if (decide ((0 : Int) < (v.Materials.length : Int))) = true then
          (within a1 (v.Materials.length : Int)).bind fun v7 =>
            if (0 ≤ v7 ∧ v7 < (v.Materials.length : Int)) then
              (within a2 (5 : Int)).bind fun v8 =>
                if (0 ≤ v7 ∧ v7 < (v.Materials.length : Int)) then
                  lawShares_j1 a1 a2 v v.Parts (v.Materials.set v7.toNat (⟨(v.Materials.getD v7.toNat default).Name, (IntKind.i64.wrap (((v.Materials.getD v7.toNat default).Share) + (IntKind.i64.wrap (v8 - (2 : Int)))))⟩ : ApiMaterial))
                else none
            else none
        else
          lawShares_j1 a1 a2 v v.Parts v.Materials
      else none
    else none

noncomputable def lawCharacters_j1 (v : ApiGood) (v2 : (List ApiComponent)) (t5 : Int) : Option (Bool) :=
  (if (bif (t5 == (1000000 : Int)) then true else (bif ((v2.length : Int) == (0 : Int)) then ((IntKind.i64.wrap ((v.Materials.length : Int) + (v.Parts.length : Int))) == (0 : Int)) else false)) = true then awake08  else some default).bind fun v5 =>
    some (bif (bif (t5 == (1000000 : Int)) then true else (bif ((v2.length : Int) == (0 : Int)) then ((IntKind.i64.wrap ((v.Materials.length : Int) + (v.Parts.length : Int))) == (0 : Int)) else false)) then v5 else false)
noncomputable def lawCharacters_b1 (v : ApiGood) (v2 : (List ApiComponent)) : (Int × Int) → Option ((Int × Int) ⊕ ((Bool) ⊕ (Int)))
  | (t6, t52) =>
    if (decide (t6 < (v2.length : Int))) = true then
      if (0 ≤ t6) then
        (v2[t6.toNat]?).bind fun x2 =>
          if ((decide ((0 : Int) < t6)) = true → (0 ≤ (IntKind.i64.wrap (t6 - (1 : Int))) ∧ (IntKind.i64.wrap (t6 - (1 : Int))) < (v2.length : Int))) then
            if ((decide ((0 : Int) < t6)) = true → (0 ≤ t6 ∧ t6 < (v2.length : Int))) then
              if (bif (decide ((0 : Int) < t6)) then (decide (((v2.getD (IntKind.i64.wrap (t6 - (1 : Int))).toNat default).Share) < ((v2.getD t6.toNat default).Share))) else false) = true then
                some (.inr (.inl false))
              else
                some (.inl ((IntKind.i64.wrap (t6 + (1 : Int))), (IntKind.i64.wrap (t52 + x2.Share))))
            else none
          else none
      else none
    else
      some (.inr (.inr t52))
noncomputable def lawCharacters (a0 : (List Int)) : Option (Bool) :=
  (madeGood a0).bind fun v =>
    (goodsCharacters v).bind fun v2 =>
      (refCharacters v).bind fun v3 =>
        (sameParts v2 v3).bind fun v4 =>
          if (!v4) = true then
            some false
          else
            (loopO (lawCharacters_b1 v v2) ((0 : Int), (0 : Int))).bind fun e => match e with
              | (.inl rv) =>
                some rv
              | (.inr t54) =>
                lawCharacters_j1 v v2 t54

end Go.C
