/- Plain functions, read off the program by program (gen.py): no program in sight. -/
import Derived.Test.YtmjhpemmhnpilaaGreatDoorPl
import Derived.Test.YtmjhpemmhnpilaaGreatDoorPa
import Derived.Test.YtmjhpemmhnpilaaGreatDoorPb
import Derived.Test.YtmjhpemmhnpilaaGreatDoorPc
import Derived.Test.YtmjhpemmhnpilaaGreatDoorPd
import Derived.Test.YtmjhpemmhnpilaaGreatDoorPe
set_option linter.unusedVariables false
namespace Go.C
open Go.V

noncomputable def r02Digits_b1  : (Str × Int) → Option ((Str × Int) ⊕ (Str))
  | (s, n12) =>
    if ((bytesI [(IntKind.u8.wrap (IntKind.i64.wrap ((48 : Int) + (n12.tmod (10 : Int)))))]).length + s.length ≤ 9223372036854775807) then
      if ((IntKind.i64.wrap (n12.tdiv (10 : Int))) == (0 : Int)) = true then
        some (.inr ((bytesI [(IntKind.u8.wrap (IntKind.i64.wrap ((48 : Int) + (n12.tmod (10 : Int)))))]) ++ s))
      else
        some (.inl (((bytesI [(IntKind.u8.wrap (IntKind.i64.wrap ((48 : Int) + (n12.tmod (10 : Int)))))]) ++ s), (IntKind.i64.wrap (n12.tdiv (10 : Int)))))
    else none
noncomputable def r02Digits (n1 : Int) : Option (Str) :=
  (loopO (r02Digits_b1) (([] : Str), n1)).bind fun e => match e with
    | rv =>
      some rv

noncomputable def refJoined_j1 (s : Str) : Option (Str) :=
  some s
noncomputable def refJoined_j2 (l : (List Str)) (by_ : Str) (i : Int) (s6 : Str) : Option ((Int × Str) ⊕ (Str)) :=
  if (0 ≤ i) then
    (l[i.toNat]?).bind fun x2 =>
      if (s6.length + x2.length ≤ 9223372036854775807) then
        some (.inl ((IntKind.i64.wrap (i + (1 : Int))), (s6 ++ x2)))
      else none
  else none
noncomputable def refJoined_b1 (l : (List Str)) (by_ : Str) : (Int × Str) → Option ((Int × Str) ⊕ (Str))
  | (i, s2) =>
    if (decide (i < (l.length : Int))) = true then
      if (decide ((0 : Int) < i)) = true then
        if (s2.length + by_.length ≤ 9223372036854775807) then
          refJoined_j2 l by_ i (s2 ++ by_)
        else none
      else
        refJoined_j2 l by_ i s2
    else
      some (.inr s2)
noncomputable def refJoined (l : (List Str)) (by_ : Str) : Option (Str) :=
  (loopO (refJoined_b1 l by_) ((0 : Int), ([] : Str))).bind fun e => match e with
    | s5 =>
      refJoined_j1 s5

noncomputable def refFormatGood_j3 (t33 : Str) : Option (Str) :=
  some t33
noncomputable def refFormatGood_j2 (a0 : ApiGood) (t32 : Str) : Option (Str) :=
  if a0.Incomplete = true then
    if (t32.length + ([32, 105, 110, 99, 111, 109, 112, 108, 101, 116, 101] : Str).length ≤ 9223372036854775807) then
      refFormatGood_j3 (t32 ++ ([32, 105, 110, 99, 111, 109, 112, 108, 101, 116, 101] : Str))
    else none
  else
    refFormatGood_j3 t32
noncomputable def refFormatGood_j4 (a0 : ApiGood) (t6 : Int) (t38 : Str) : Option ((Int × Str) ⊕ (Str)) :=
  some (.inl ((IntKind.i64.wrap (t6 + (1 : Int))), t38))
noncomputable def refFormatGood_b1 (a0 : ApiGood) : (Int × Str) → Option ((Int × Str) ⊕ (Str))
  | (t6, t34) =>
    if (decide (t6 < (a0.Parts.length : Int))) = true then
      if (0 ≤ t6) then
        (a0.Parts[t6.toNat]?).bind fun x3 =>
          (refJoined x3.Words ([43] : Str)).bind fun v5 =>
            if (v5.length + ([58] : Str).length ≤ 9223372036854775807) then
              if (0 ≤ t6) then
                (a0.Parts[t6.toNat]?).bind fun x4 =>
                  (r02Digits x4.Share).bind fun v6 =>
                    if ((v5 ++ ([58] : Str)).length + v6.length ≤ 9223372036854775807) then
                      if (t6 == (0 : Int)) = true then
                        if (t34.length + ([32, 112, 58] : Str).length ≤ 9223372036854775807) then
                          if ((t34 ++ ([32, 112, 58] : Str)).length + ((v5 ++ ([58] : Str)) ++ v6).length ≤ 9223372036854775807) then
                            refFormatGood_j4 a0 t6 ((t34 ++ ([32, 112, 58] : Str)) ++ ((v5 ++ ([58] : Str)) ++ v6))
                          else none
                        else none
                      else
                        if (t34.length + ([44] : Str).length ≤ 9223372036854775807) then
                          if ((t34 ++ ([44] : Str)).length + ((v5 ++ ([58] : Str)) ++ v6).length ≤ 9223372036854775807) then
                            refFormatGood_j4 a0 t6 ((t34 ++ ([44] : Str)) ++ ((v5 ++ ([58] : Str)) ++ v6))
                          else none
                        else none
                    else none
              else none
            else none
      else none
    else
      some (.inr t34)
noncomputable def refFormatGood_j1 (a0 : ApiGood) (t3 : Str) : Option (Str) :=
  (loopO (refFormatGood_b1 a0) ((0 : Int), t3)).bind fun e => match e with
    | t37 =>
      refFormatGood_j2 a0 t37
noncomputable def refFormatGood_j5 (a0 : ApiGood) (t4 : Int) (t313 : Str) : Option ((Int × Str) ⊕ (Str)) :=
  some (.inl ((IntKind.i64.wrap (t4 + (1 : Int))), t313))
noncomputable def refFormatGood_b2 (a0 : ApiGood) : (Int × Str) → Option ((Int × Str) ⊕ (Str))
  | (t4, t39) =>
    if (decide (t4 < (a0.Materials.length : Int))) = true then
      if (0 ≤ t4) then
        (a0.Materials[t4.toNat]?).bind fun x7 =>
          if (x7.Name.length + ([58] : Str).length ≤ 9223372036854775807) then
            if (0 ≤ t4) then
              (a0.Materials[t4.toNat]?).bind fun x8 =>
                (r02Digits x8.Share).bind fun v8 =>
                  if ((x7.Name ++ ([58] : Str)).length + v8.length ≤ 9223372036854775807) then
                    if (t4 == (0 : Int)) = true then
                      if (t39.length + ([32, 109, 58] : Str).length ≤ 9223372036854775807) then
                        if ((t39 ++ ([32, 109, 58] : Str)).length + ((x7.Name ++ ([58] : Str)) ++ v8).length ≤ 9223372036854775807) then
                          refFormatGood_j5 a0 t4 ((t39 ++ ([32, 109, 58] : Str)) ++ ((x7.Name ++ ([58] : Str)) ++ v8))
                        else none
                      else none
                    else
                      if (t39.length + ([44] : Str).length ≤ 9223372036854775807) then
                        if ((t39 ++ ([44] : Str)).length + ((x7.Name ++ ([58] : Str)) ++ v8).length ≤ 9223372036854775807) then
                          refFormatGood_j5 a0 t4 ((t39 ++ ([44] : Str)) ++ ((x7.Name ++ ([58] : Str)) ++ v8))
                        else none
                      else none
                  else none
            else none
          else none
      else none
    else
      some (.inr t39)
noncomputable def refFormatGood (a0 : ApiGood) : Option (Str) :=
  (refGood a0).bind fun v =>
    if (v != (0 : Int)) = true then
      some ([] : Str)
    else
      (refJoined a0.Words ([43] : Str)).bind fun v2 =>
        (loopO (refFormatGood_b2 a0) ((0 : Int), v2)).bind fun e => match e with
          | t312 =>
            refFormatGood_j1 a0 t312

noncomputable def sameGood_j1 (a : ApiGood) (b : ApiGood) : Option (Bool) :=
  (sameParts a.Parts b.Parts).bind fun v2 =>
    some v2
noncomputable def sameGood_b1 (a : ApiGood) (b : ApiGood) : (Int) → Option ((Int) ⊕ ((Bool) ⊕ (Unit)))
  | i =>
    if (decide (i < (a.Materials.length : Int))) = true then
      if (0 ≤ i) then
        (a.Materials[i.toNat]?).bind fun x3 =>
          if (0 ≤ i) then
            (b.Materials[i.toNat]?).bind fun x4 =>
              if (!((x3.Name == x4.Name) && (x3.Share == x4.Share))) = true then
                some (.inr (.inl false))
              else
                some (.inl (IntKind.i64.wrap (i + (1 : Int))))
          else none
      else none
    else
      some (.inr (.inr ()))
noncomputable def sameGood (a : ApiGood) (b : ApiGood) : Option (Bool) :=
  (sameStrings a.Words b.Words).bind fun v =>
    if (bif (bif (!v) then true else (!(a.Incomplete == b.Incomplete))) then true else ((a.Materials.length : Int) != (b.Materials.length : Int))) = true then
      some false
    else
      (loopO (sameGood_b1 a b) (0 : Int)).bind fun e => match e with
        | (.inl rv) =>
          some rv
        | (.inr ()) =>
          sameGood_j1 a b

noncomputable def r08Split_j1 (out : (List Str)) : Option ((List Str)) :=
  some out
noncomputable def r08Split_j2 (s : Str) (by_ : Int) (i2 : Int) (from_5 : Int) (out6 : (List Str)) : Option ((Int × Int × (List Str)) ⊕ ((List Str))) :=
  some (.inl ((IntKind.i64.wrap (i2 + (1 : Int))), from_5, out6))
noncomputable def r08Split_b1 (s : Str) (by_ : Int) : (Int × Int × (List Str)) → Option ((Int × Int × (List Str)) ⊕ ((List Str)))
  | (i2, from_3, out3) =>
    if (decide (i2 ≤ (s.length : Int))) = true then
      if (!(i2 == (s.length : Int))) = true → (0 ≤ i2 ∧ i2 < (s.length : Int)) then
        if (bif (i2 == (s.length : Int)) then true else (((s.getD i2.toNat 0).toNat : Int) == by_)) = true then
          if (0 ≤ from_3 ∧ from_3 ≤ i2 ∧ i2 ≤ (s.length : Int)) then
            if (out3.length + [((s.take i2.toNat).drop from_3.toNat)].length ≤ 137438953472) then
              r08Split_j2 s by_ i2 (IntKind.i64.wrap (i2 + (1 : Int))) (out3 ++ [((s.take i2.toNat).drop from_3.toNat)])
            else none
          else none
        else
          r08Split_j2 s by_ i2 from_3 out3
      else none
    else
      some (.inr out3)
noncomputable def r08Split (s : Str) (by_ : Int) : Option ((List Str)) :=
  (loopO (r08Split_b1 s by_) ((0 : Int), (0 : Int), [])).bind fun e => match e with
    | out5 =>
      r08Split_j1 out5

noncomputable def r08Num_j1 (n1 : Int) : Option (Int) :=
  some n1
noncomputable def r08Num_b1 (s : Str) : (Int × Int) → Option ((Int × Int) ⊕ ((Int) ⊕ (Int)))
  | (i, n12) =>
    if (decide (i < (s.length : Int))) = true then
      if (0 ≤ i ∧ i < (s.length : Int)) then
        if (!(decide (((s.getD i.toNat 0).toNat : Int) < (48 : Int)))) = true → (0 ≤ i ∧ i < (s.length : Int)) then
          if (bif (bif (decide (((s.getD i.toNat 0).toNat : Int) < (48 : Int))) then true else (decide ((57 : Int) < ((s.getD i.toNat 0).toNat : Int)))) then true else (decide ((1000000000000 : Int) < n12))) = true then
            some (.inr (.inl (-1 : Int)))
          else
            if (0 ≤ i ∧ i < (s.length : Int)) then
              some (.inl ((IntKind.i64.wrap (i + (1 : Int))), (IntKind.i64.wrap ((IntKind.i64.wrap ((10 : Int) * n12)) + (IntKind.i64.wrap (IntKind.u8.wrap (((s.getD i.toNat 0).toNat : Int) - (48 : Int))))))))
            else none
        else none
      else none
    else
      some (.inr (.inr n12))
noncomputable def r08Num (s : Str) : Option (Int) :=
  (loopO (r08Num_b1 s) ((0 : Int), (0 : Int))).bind fun e => match e with
    | (.inl rv) =>
      some rv
    | (.inr n14) =>
      r08Num_j1 n14

noncomputable def refParseGood_j1 (a0 : Str) (v2 : (List Str)) (c4_1 : (List ApiMaterial)) (c4_2 : (List ApiComponent)) (c4_3 : Bool) : Option (ApiGood × Int) :=
  (if (!(a0 == ([] : Str))) = true then refFormatGood (⟨v2, c4_1, c4_2, c4_3⟩ : ApiGood) else some default).bind fun v3 =>
    if (bif (a0 == ([] : Str)) then true else (!(v3 == a0))) = true then
      some ((⟨[], [], [], false⟩ : ApiGood), (4 : Int))
    else
      some ((⟨v2, c4_1, c4_2, c4_3⟩ : ApiGood), (0 : Int))
noncomputable def refParseGood_j2 (a0 : Str) (v : (List Str)) (v2 : (List Str)) (t62 : Int) (c4_116 : (List ApiMaterial)) (c4_216 : (List ApiComponent)) (c4_37 : Bool) : Option ((Int × (List ApiMaterial) × (List ApiComponent) × Bool) ⊕ ((ApiGood × Int) ⊕ ((List ApiMaterial) × (List ApiComponent) × Bool))) :=
  some (.inl ((IntKind.i64.wrap (t62 + (1 : Int))), c4_116, c4_216, c4_37))
noncomputable def refParseGood_j3 (a0 : Str) (v : (List Str)) (v2 : (List Str)) (t62 : Int) (c4_34 : Bool) (v26 : (List Str)) (t85 : Int) (c4_121 : (List ApiMaterial)) (c4_221 : (List ApiComponent)) : Option ((Int × (List ApiMaterial) × (List ApiComponent)) ⊕ ((ApiGood × Int) ⊕ ((List ApiMaterial) × (List ApiComponent)))) :=
  some (.inl ((IntKind.i64.wrap (t85 + (1 : Int))), c4_121, c4_221))
noncomputable def refParseGood_b2 (a0 : Str) (v : (List Str)) (v2 : (List Str)) (t62 : Int) (c4_34 : Bool) (v26 : (List Str)) : (Int × (List ApiMaterial) × (List ApiComponent)) → Option ((Int × (List ApiMaterial) × (List ApiComponent)) ⊕ ((ApiGood × Int) ⊕ ((List ApiMaterial) × (List ApiComponent))))
  | (t85, c4_117, c4_217) =>
    if (decide (t85 < (v26.length : Int))) = true then
      if (0 ≤ t85) then
        (v26[t85.toNat]?).bind fun x47 =>
          (r08Split x47 (58 : Int)).bind fun v31 =>
            if ((v31.length : Int) != (2 : Int)) = true then
              some (.inr (.inl ((⟨[], [], [], false⟩ : ApiGood), (4 : Int))))
            else
              if (0 ≤ t62) then
                (v[t62.toNat]?).bind fun x48 =>
                  if (0 ≤ (0 : Int) ∧ (0 : Int) < (x48.length : Int)) then
                    if (((x48.getD (0 : Int).toNat 0).toNat : Int) == (109 : Int)) = true then
                      (v31[0]?).bind fun x49 =>
                        (v31[1]?).bind fun x50 =>
                          (r08Num x50).bind fun v32 =>
                            if (c4_117.length + [(⟨x49, v32⟩ : ApiMaterial)].length ≤ 137438953472) then
                              refParseGood_j3 a0 v v2 t62 c4_34 v26 t85 (c4_117 ++ [(⟨x49, v32⟩ : ApiMaterial)]) c4_217
                            else none
                    else
                      (v31[0]?).bind fun x51 =>
                        (r08Split x51 (43 : Int)).bind fun v33 =>
                          (v31[1]?).bind fun x52 =>
                            (r08Num x52).bind fun v34 =>
                              if (c4_217.length + [(⟨v33, v34⟩ : ApiComponent)].length ≤ 137438953472) then
                                refParseGood_j3 a0 v v2 t62 c4_34 v26 t85 c4_117 (c4_217 ++ [(⟨v33, v34⟩ : ApiComponent)])
                              else none
                  else none
              else none
      else none
    else
      some (.inr (.inr (c4_117, c4_217)))
noncomputable def refParseGood_b1 (a0 : Str) (v : (List Str)) (v2 : (List Str)) : (Int × (List ApiMaterial) × (List ApiComponent) × Bool) → Option ((Int × (List ApiMaterial) × (List ApiComponent) × Bool) ⊕ ((ApiGood × Int) ⊕ ((List ApiMaterial) × (List ApiComponent) × Bool)))
  | (t62, c4_18, c4_28, c4_34) =>
    if (decide (t62 < (v.length : Int))) = true then
      if (0 ≤ t62) then
        (v[t62.toNat]?).bind fun x38 =>
          if (x38 == ([105, 110, 99, 111, 109, 112, 108, 101, 116, 101] : Str)) = true then
            refParseGood_j2 a0 v v2 t62 c4_18 c4_28 true
          else
            if (0 ≤ t62) then
              (v[t62.toNat]?).bind fun x39 =>
                if (decide ((x39.length : Int) < (2 : Int))) = true then
                  some (.inr (.inl ((⟨[], [], [], false⟩ : ApiGood), (4 : Int))))
                else
                  if (0 ≤ t62) then
                    (v[t62.toNat]?).bind fun x40 =>
                      if (0 ≤ (2 : Int) ∧ (2 : Int) ≤ (x40.length : Int)) then
                        (r08Split (x40.drop (2 : Int).toNat) (44 : Int)).bind fun v26 =>
                          (loopO (refParseGood_b2 a0 v v2 t62 c4_34 v26) ((0 : Int), c4_18, c4_28)).bind fun e => match e with
                            | (.inl rv) =>
                              some (.inr (.inl rv))
                            | (.inr (c4_120, c4_220)) =>
                              refParseGood_j2 a0 v v2 t62 c4_120 c4_220 c4_34
                      else none
                  else none
            else none
      else none
    else
      some (.inr (.inr (c4_18, c4_28, c4_34)))
noncomputable def refParseGood (a0 : Str) : Option (ApiGood × Int) :=
  (r08Split a0 (32 : Int)).bind fun v =>
    (v[0]?).bind fun x =>
      (r08Split x (43 : Int)).bind fun v2 =>
        (loopO (refParseGood_b1 a0 v v2) ((1 : Int), [], [], false)).bind fun e => match e with
          | (.inl rv) =>
            some rv
          | (.inr (c4_115, c4_215, c4_36)) =>
            refParseGood_j1 a0 v2 c4_115 c4_215 c4_36

noncomputable def lawFormat (l : (List Int)) (raw : ApiGood) : Option (Bool) :=
  (madeGood l).bind fun v =>
    (goodsFormat v).bind fun v2 =>
      (refFormatGood v).bind fun v3 =>
        (if (!(!(v2 == v3))) = true then small raw else some default).bind fun v4 =>
          (if (!(!(v2 == v3))) = true then goodsFormat v4 else some default).bind fun v5 =>
            (if (!(!(v2 == v3))) = true then small raw else some default).bind fun v6 =>
              (if (!(!(v2 == v3))) = true then refFormatGood v6 else some default).bind fun v7 =>
                if (bif (!(v2 == v3)) then true else (!(v5 == v7))) = true then
                  some false
                else
                  (goodsParse v2).bind fun v8 =>
                    (if (v8.2 == (0 : Int)) = true then sameGood v8.1 v else some default).bind fun v9 =>
                      (if (bif (v8.2 == (0 : Int)) then v9 else false) = true then awake08  else some default).bind fun v10 =>
                        some (bif (bif (v8.2 == (0 : Int)) then v9 else false) then v10 else false)

end Go.C
