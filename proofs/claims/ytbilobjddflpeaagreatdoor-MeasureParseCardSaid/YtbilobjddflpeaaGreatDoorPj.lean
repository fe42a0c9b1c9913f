/- Plain functions, read off the program by program (gen.py): no program in sight. -/
import Derived.Test.YtbilobjddflpeaaGreatDoorPl
import Derived.Test.YtbilobjddflpeaaGreatDoorPa
import Derived.Test.YtbilobjddflpeaaGreatDoorPb
import Derived.Test.YtbilobjddflpeaaGreatDoorPc
import Derived.Test.YtbilobjddflpeaaGreatDoorPd
import Derived.Test.YtbilobjddflpeaaGreatDoorPe
import Derived.Test.YtbilobjddflpeaaGreatDoorPf
import Derived.Test.YtbilobjddflpeaaGreatDoorPg
set_option linter.unusedVariables false
namespace Go.C
open Go.V

noncomputable def refLine_j2 (m1 : ApiMeasure) (s2 : Str) : Option (Str) :=
  if (s2.length + ([32] : Str).length ≤ 9223372036854775807) then
    (refFormatDuty m1.Duty).bind fun v7 =>
      if ((s2 ++ ([32] : Str)).length + v7.length ≤ 9223372036854775807) then
        some ((s2 ++ ([32] : Str)) ++ v7)
      else none
  else none
noncomputable def refLine_j1 (m1 : ApiMeasure) (s : Str) : Option (Str) :=
  (refJoined m1.Origins ([44] : Str)).bind fun v3 =>
    if (s.length + v3.length ≤ 9223372036854775807) then
      if ((s ++ v3).length + ([32] : Str).length ≤ 9223372036854775807) then
        (r02Digits m1.Company).bind fun v4 =>
          if (((s ++ v3) ++ ([32] : Str)).length + v4.length ≤ 9223372036854775807) then
            if ((((s ++ v3) ++ ([32] : Str)) ++ v4).length + ([32] : Str).length ≤ 9223372036854775807) then
              (r02Digits m1.From).bind fun v5 =>
                if (((((s ++ v3) ++ ([32] : Str)) ++ v4) ++ ([32] : Str)).length + v5.length ≤ 9223372036854775807) then
                  if ((((((s ++ v3) ++ ([32] : Str)) ++ v4) ++ ([32] : Str)) ++ v5).length + ([32] : Str).length ≤ 9223372036854775807) then
                    (r02Digits m1.To).bind fun v6 =>
                      if (((((((s ++ v3) ++ ([32] : Str)) ++ v4) ++ ([32] : Str)) ++ v5) ++ ([32] : Str)).length + v6.length ≤ 9223372036854775807) then
                        if ((((((((s ++ v3) ++ ([32] : Str)) ++ v4) ++ ([32] : Str)) ++ v5) ++ ([32] : Str)) ++ v6).length + ([32] : Str).length ≤ 9223372036854775807) then
                          if (decide (m1.Registered < (0 : Int))) = true then
                            if (((((((((s ++ v3) ++ ([32] : Str)) ++ v4) ++ ([32] : Str)) ++ v5) ++ ([32] : Str)) ++ v6) ++ ([32] : Str)).length + ([45] : Str).length ≤ 9223372036854775807) then
                              refLine_j2 m1 (((((((((s ++ v3) ++ ([32] : Str)) ++ v4) ++ ([32] : Str)) ++ v5) ++ ([32] : Str)) ++ v6) ++ ([32] : Str)) ++ ([45] : Str))
                            else none
                          else
                            (r02Digits m1.Registered).bind fun v8 =>
                              if (((((((((s ++ v3) ++ ([32] : Str)) ++ v4) ++ ([32] : Str)) ++ v5) ++ ([32] : Str)) ++ v6) ++ ([32] : Str)).length + v8.length ≤ 9223372036854775807) then
                                refLine_j2 m1 (((((((((s ++ v3) ++ ([32] : Str)) ++ v4) ++ ([32] : Str)) ++ v5) ++ ([32] : Str)) ++ v6) ++ ([32] : Str)) ++ v8)
                              else none
                        else none
                      else none
                  else none
                else none
            else none
          else none
      else none
    else none
noncomputable def refLine (m1 : ApiMeasure) : Option (Str) :=
  (r02Digits m1.ID).bind fun v =>
    if (v.length + ([32] : Str).length ≤ 9223372036854775807) then
      (r02Digits m1.Kind).bind fun v2 =>
        if ((v ++ ([32] : Str)).length + v2.length ≤ 9223372036854775807) then
          if (((v ++ ([32] : Str)) ++ v2).length + ([32] : Str).length ≤ 9223372036854775807) then
            if ((((v ++ ([32] : Str)) ++ v2) ++ ([32] : Str)).length + m1.Prefix.length ≤ 9223372036854775807) then
              if (((((v ++ ([32] : Str)) ++ v2) ++ ([32] : Str)) ++ m1.Prefix).length + ([32] : Str).length ≤ 9223372036854775807) then
                if ((m1.Origins.length : Int) == (0 : Int)) = true then
                  if ((((((v ++ ([32] : Str)) ++ v2) ++ ([32] : Str)) ++ m1.Prefix) ++ ([32] : Str)).length + ([42] : Str).length ≤ 9223372036854775807) then
                    refLine_j1 m1 ((((((v ++ ([32] : Str)) ++ v2) ++ ([32] : Str)) ++ m1.Prefix) ++ ([32] : Str)) ++ ([42] : Str))
                  else none
                else
                  refLine_j1 m1 (((((v ++ ([32] : Str)) ++ v2) ++ ([32] : Str)) ++ m1.Prefix) ++ ([32] : Str))
              else none
            else none
          else none
        else none
    else none

noncomputable def refFormat_j1 (s : Str) : Option (Str) :=
  some s
noncomputable def refFormat_b1 (l : (List ApiMeasure)) : (Int × Str) → Option ((Int × Str) ⊕ (Str))
  | (i, s2) =>
    if (decide (i < (l.length : Int))) = true then
      if (0 ≤ i) then
        (l[i.toNat]?).bind fun x2 =>
          (refLine x2).bind fun v3 =>
            if (s2.length + v3.length ≤ 9223372036854775807) then
              if ((s2 ++ v3).length + ([10] : Str).length ≤ 9223372036854775807) then
                some (.inl ((IntKind.i64.wrap (i + (1 : Int))), ((s2 ++ v3) ++ ([10] : Str))))
              else none
            else none
      else none
    else
      some (.inr s2)
noncomputable def refFormat (l : (List ApiMeasure)) : Option (Str) :=
  (refMeasures l).bind fun v =>
    if (v != (0 : Int)) = true then
      some ([] : Str)
    else
      (loopO (refFormat_b1 l) ((0 : Int), ([] : Str))).bind fun e => match e with
        | s4 =>
          refFormat_j1 s4

noncomputable def refParse_j1 (out : (List ApiMeasure)) : Option ((List ApiMeasure) × Int × Int) :=
  (refMeasures out).bind fun v2 =>
    if (v2 != (0 : Int)) = true then
      some ([], (0 : Int), v2)
    else
      some (out, (out.length : Int), (0 : Int))
noncomputable def refParse_j2 (v : (List Str)) (i2 : Int) (v27 : (List Str)) (v28 : Int) (v29 : Int) (x24 : Str) (v31 : Int) (v32 : Int) (v33 : Int) (v34 : Int) (out5 : (List ApiMeasure)) (c9_33 : (List Str)) : Option ((Int × (List ApiMeasure)) ⊕ (((List ApiMeasure)) ⊕ ((List ApiMeasure) × Int × Int))) :=
  if (0 ≤ (8 : Int) ∧ (8 : Int) ≤ (v27.length : Int)) then
    (refJoined (v27.drop (8 : Int).toNat) ([32] : Str)).bind fun v35 =>
      (refParseDuty v35).bind fun v36 =>
        (refOne (⟨v28, v29, x24, c9_33, v31, v32, v33, v34, v36.1⟩ : ApiMeasure)).bind fun v37 =>
          (if (!(!v37.2)) = true then refLine (⟨v28, v29, x24, c9_33, v31, v32, v33, v34, v36.1⟩ : ApiMeasure) else some default).bind fun v38 =>
            if ((!(!v37.2)) = true → (0 ≤ i2 ∧ i2 < (v.length : Int))) then
              if (bif (!v37.2) then true else (!(v38 == (v.getD i2.toNat default)))) = true then
                some (.inr (.inr ([], i2, (4 : Int))))
              else
                if (out5.length + [(⟨v28, v29, x24, c9_33, v31, v32, v33, v34, v36.1⟩ : ApiMeasure)].length ≤ 137438953472) then
                  some (.inl ((IntKind.i64.wrap (i2 + (1 : Int))), (out5 ++ [(⟨v28, v29, x24, c9_33, v31, v32, v33, v34, v36.1⟩ : ApiMeasure)])))
                else none
            else none
  else none
noncomputable def refParse_b1 (v : (List Str)) : (Int × (List ApiMeasure)) → Option ((Int × (List ApiMeasure)) ⊕ (((List ApiMeasure)) ⊕ ((List ApiMeasure) × Int × Int)))
  | (i2, out2) =>
    if (decide (i2 < (v.length : Int))) = true then
      if ((i2 == (IntKind.i64.wrap ((v.length : Int) - (1 : Int)))) = true → (0 ≤ i2 ∧ i2 < (v.length : Int))) then
        if (bif (i2 == (IntKind.i64.wrap ((v.length : Int) - (1 : Int)))) then ((v.getD i2.toNat default) == ([] : Str)) else false) = true then
          some (.inr (.inl out2))
        else
          if (0 ≤ i2) then
            (v[i2.toNat]?).bind fun x21 =>
              (r08Split x21 (32 : Int)).bind fun v27 =>
                if (bif (decide ((v27.length : Int) < (9 : Int))) then true else (i2 == (IntKind.i64.wrap ((v.length : Int) - (1 : Int))))) = true then
                  some (.inr (.inr ([], i2, (4 : Int))))
                else
                  (v27[0]?).bind fun x22 =>
                    (r08Num x22).bind fun v28 =>
                      (v27[1]?).bind fun x23 =>
                        (r08Num x23).bind fun v29 =>
                          (v27[2]?).bind fun x24 =>
                            (v27[3]?).bind fun x25 =>
                              (r08Split x25 (44 : Int)).bind fun v30 =>
                                (v27[4]?).bind fun x26 =>
                                  (r08Num x26).bind fun v31 =>
                                    (v27[5]?).bind fun x27 =>
                                      (r08Num x27).bind fun v32 =>
                                        (v27[6]?).bind fun x28 =>
                                          (r08Num x28).bind fun v33 =>
                                            (v27[7]?).bind fun x29 =>
                                              (r08Num x29).bind fun v34 =>
                                                (v27[3]?).bind fun x30 =>
                                                  if (x30 == ([42] : Str)) = true then
                                                    refParse_j2 v i2 v27 v28 v29 x24 v31 v32 v33 v34 out2 []
                                                  else
                                                    refParse_j2 v i2 v27 v28 v29 x24 v31 v32 v33 v34 out2 v30
          else none
      else none
    else
      some (.inr (.inl out2))
noncomputable def refParse (s : Str) : Option ((List ApiMeasure) × Int × Int) :=
  (r08Split s (10 : Int)).bind fun v =>
    (loopO (refParse_b1 v) ((0 : Int), [])).bind fun e => match e with
      | (.inl out4) =>
        refParse_j1 out4
      | (.inr rv) =>
        some rv

noncomputable def lawParse_j3 (s2 : Str) (lines : (List Str)) : Option (Bool) :=
  (refJoined lines ([10] : Str)).bind fun v6 =>
    (meParse v6).bind fun v7 =>
      (refParse v6).bind fun v8 =>
        (meParse s2).bind fun v9 =>
          (refParse s2).bind fun v10 =>
            (if (bif (v7.2.2 == v8.2.2) then (v7.2.1 == v8.2.1) else false) = true then sameMeasures v7.1 v8.1 else some default).bind fun v11 =>
              (if (bif (bif (bif (bif (v7.2.2 == v8.2.2) then (v7.2.1 == v8.2.1) else false) then v11 else false) then (v9.2.2 == v10.2.2) else false) then (v9.2.1 == v10.2.1) else false) = true then sameMeasures v9.1 v10.1 else some default).bind fun v12 =>
                (if (bif (bif (bif (bif (bif (v7.2.2 == v8.2.2) then (v7.2.1 == v8.2.1) else false) then v11 else false) then (v9.2.2 == v10.2.2) else false) then (v9.2.1 == v10.2.1) else false) then v12 else false) = true then awake19  else some default).bind fun v13 =>
                  some (bif (bif (bif (bif (bif (bif (v7.2.2 == v8.2.2) then (v7.2.1 == v8.2.1) else false) then v11 else false) then (v9.2.2 == v10.2.2) else false) then (v9.2.1 == v10.2.1) else false) then v12 else false) then v13 else false)
noncomputable def lawParse_j2 (from_ : Int) (to_ : Int) (s2 : Str) (b : (List Int)) : Option (Bool) :=
  (r08SplitR (bytesI b) (10 : Int)).bind fun v3 =>
    (within from_ (v3.length : Int)).bind fun v4 =>
      (within to_ (v3.length : Int)).bind fun v5 =>
        if ((IntKind.i64.wrap ((BitVec.ofInt (IntKind.i64).bits from_ &&& BitVec.ofInt (IntKind.i64).bits (64 : Int)).toNat : Int)) == (64 : Int)) = true then
          if (0 ≤ v5 ∧ v5 < (v3.length : Int)) then
            if (0 ≤ v4 ∧ v4 < (v3.length : Int)) then
              if (0 ≤ v4 ∧ v4 < (v3.length : Int)) then
                if (0 ≤ v5 ∧ v5 < ((v3.set v4.toNat (v3.getD v5.toNat default)).length : Int)) then
                  lawParse_j3 s2 ((v3.set v4.toNat (v3.getD v5.toNat default)).set v5.toNat (v3.getD v4.toNat default))
                else none
              else none
            else none
          else none
        else
          lawParse_j3 s2 v3
noncomputable def lawParse_b1 (at_ : (List Int)) (by_ : (List Int)) (from_ : Int) (to_ : Int) (s2 : Str) : (Int × (List Int)) → Option ((Int × (List Int)) ⊕ ((List Int)))
  | (i, b2) =>
    if (bif (bif (bif (decide (i < (at_.length : Int))) then (decide (i < (by_.length : Int))) else false) then (decide (i < (2 : Int))) else false) then (decide ((0 : Int) < (b2.length : Int))) else false) = true then
      if (0 ≤ i) then
        (at_[i.toNat]?).bind fun x3 =>
          (within x3 (b2.length : Int)).bind fun v15 =>
            if (0 ≤ i) then
              (by_[i.toNat]?).bind fun x4 =>
                if (0 ≤ v15 ∧ v15 < (b2.length : Int)) then
                  some (.inl ((IntKind.i64.wrap (i + (1 : Int))), (b2.set v15.toNat x4)))
                else none
            else none
      else none
    else
      some (.inr b2)
noncomputable def lawParse_j1 (l : (List Int)) (at_ : (List Int)) (by_ : (List Int)) (from_ : Int) (to_ : Int) (s2 : Str) : Option (Bool) :=
  (madeMeasures l).bind fun v =>
    (refFormat v).bind fun v2 =>
      if (v2.length ≤ 9223372036854775807) then
        (loopO (lawParse_b1 at_ by_ from_ to_ s2) ((0 : Int), (intsB v2))).bind fun e => match e with
          | b4 =>
            lawParse_j2 from_ to_ s2 b4
      else none
noncomputable def lawParse (s : Str) (l : (List Int)) (at_ : (List Int)) (by_ : (List Int)) (from_ : Int) (to_ : Int) : Option (Bool) :=
  if (decide ((300 : Int) < (s.length : Int))) = true then
    if (0 ≤ (0 : Int) ∧ (0 : Int) ≤ (300 : Int) ∧ (300 : Int) ≤ (s.length : Int)) then
      lawParse_j1 l at_ by_ from_ to_ ((s.take (300 : Int).toNat).drop (0 : Int).toNat)
    else none
  else
    lawParse_j1 l at_ by_ from_ to_ s

end Go.C
