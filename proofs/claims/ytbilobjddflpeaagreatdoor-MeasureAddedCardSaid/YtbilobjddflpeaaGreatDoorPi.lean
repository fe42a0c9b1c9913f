/- Plain functions, read off the program by program (gen.py): no program in sight. -/
import Derived.Test.YtbilobjddflpeaaGreatDoorPl
import Derived.Test.YtbilobjddflpeaaGreatDoorPa
import Derived.Test.YtbilobjddflpeaaGreatDoorPb
import Derived.Test.YtbilobjddflpeaaGreatDoorPc
import Derived.Test.YtbilobjddflpeaaGreatDoorPd
import Derived.Test.YtbilobjddflpeaaGreatDoorPe
import Derived.Test.YtbilobjddflpeaaGreatDoorPf
import Derived.Test.YtbilobjddflpeaaGreatDoorPg
set_option linter.unusedVariables false
namespace Go.C
open Go.V

noncomputable def lawCovers_j1 (at_ : Int) (v : (List ApiMeasure)) (v2 : ApiItem) (day2 : Int) : Option (Bool) :=
  if ((v.length : Int) == (0 : Int)) = true then
    (awake19 ).bind fun v3 =>
      some v3
  else
    (within at_ (v.length : Int)).bind fun v4 =>
      if (0 ≤ v4) then
        (v[v4.toNat]?).bind fun x =>
          (meInForce x day2).bind fun v5 =>
            (refInForce x day2).bind fun v6 =>
              (if (v5 == v6) = true then meCovers x v2.Code v2.Origin v2.Company day2 else some default).bind fun v7 =>
                (if (v5 == v6) = true then refCovers x v2.Code v2.Origin v2.Company day2 else some default).bind fun v8 =>
                  (if (bif (v5 == v6) then (v7 == v8) else false) = true then awake19  else some default).bind fun v9 =>
                    some (bif (bif (v5 == v6) then (v7 == v8) else false) then v9 else false)
      else none
noncomputable def lawCovers (l : (List Int)) (k : (List Int)) (at_ : Int) (day : Int) (raw : Bool) : Option (Bool) :=
  (madeMeasures l).bind fun v =>
    (madeItem k).bind fun v2 =>
      if (!raw) = true then
        (within day (60 : Int)).bind fun v10 =>
          lawCovers_j1 at_ v v2 v10
      else
        lawCovers_j1 at_ v v2 day

noncomputable def lawApplicable (l : (List Int)) (k : (List Int)) : Option (Bool) :=
  (madeMeasures l).bind fun v =>
    (madeItem k).bind fun v2 =>
      (meApplicable v v2.Code v2.Origin v2.Company v2.Day).bind fun v3 =>
        (refApplicable v v2.Code v2.Origin v2.Company v2.Day).bind fun v4 =>
          (sameMeasures v3 v4).bind fun v5 =>
            (if v5 = true then awake19  else some default).bind fun v6 =>
              some (bif v5 then v6 else false)

noncomputable def lawOtherDays_j1 (v : (List ApiMeasure)) (v2 : ApiItem) (some1 : (List ApiMeasure)) : Option (Bool) :=
  (meApplicable v v2.Code v2.Origin v2.Company v2.Day).bind fun v3 =>
    (meApplicable some1 v2.Code v2.Origin v2.Company v2.Day).bind fun v4 =>
      (sameMeasures v3 v4).bind fun v5 =>
        (if v5 = true then awake19  else some default).bind fun v6 =>
          some (bif v5 then v6 else false)
noncomputable def lawOtherDays_j2 (v : (List ApiMeasure)) (v2 : ApiItem) (i2 : Int) (some16 : (List ApiMeasure)) : Option ((Int × (List ApiMeasure)) ⊕ ((List ApiMeasure))) :=
  some (.inl ((IntKind.i64.wrap (i2 + (1 : Int))), some16))
noncomputable def lawOtherDays_b1 (v : (List ApiMeasure)) (v2 : ApiItem) : (Int × (List ApiMeasure)) → Option ((Int × (List ApiMeasure)) ⊕ ((List ApiMeasure)))
  | (i2, some13) =>
    if (decide (i2 < (v.length : Int))) = true then
      if (0 ≤ i2) then
        (v[i2.toNat]?).bind fun x5 =>
          (meInForce x5 v2.Day).bind fun v9 =>
            if v9 = true then
              if (0 ≤ i2) then
                (v[i2.toNat]?).bind fun x6 =>
                  if (some13.length + [x6].length ≤ 137438953472) then
                    lawOtherDays_j2 v v2 i2 (some13 ++ [x6])
                  else none
              else none
            else
              lawOtherDays_j2 v v2 i2 some13
      else none
    else
      some (.inr some13)
noncomputable def lawOtherDays (l : (List Int)) (k : (List Int)) : Option (Bool) :=
  (madeMeasures l).bind fun v =>
    (madeItem k).bind fun v2 =>
      (loopO (lawOtherDays_b1 v v2) ((0 : Int), [])).bind fun e => match e with
        | some15 =>
          lawOtherDays_j1 v v2 some15

noncomputable def lawAdded_j1 (v2 : ApiItem) (x : ApiMeasure) (v5 : Int) (v7 : (List ApiMeasure)) (put : Bool) (c : (List ApiMeasure)) : Option (Bool) :=
  (sameMeasures v7 c).bind fun v8 =>
    (if (v8 && (!(!put))) = true then meCovers (⟨(IntKind.i64.wrap ((1000 : Int) + v5)), x.Kind, x.Prefix, x.Origins, x.Company, x.From, x.To, x.Registered, x.Duty⟩ : ApiMeasure) v2.Code v2.Origin v2.Company v2.Day else some default).bind fun v9 =>
      (if (bif v8 then (bif (!put) then true else v9) else false) = true then awake19  else some default).bind fun v10 =>
        some (bif (bif v8 then (bif (!put) then true else v9) else false) then v10 else false)
noncomputable def lawAdded_j2 (v2 : ApiItem) (x : ApiMeasure) (v5 : Int) (v6 : (List ApiMeasure)) (v7 : (List ApiMeasure)) (kind2 : Int) (c19 : (List ApiMeasure)) (put19 : Bool) : Option ((Int × Bool × (List ApiMeasure)) ⊕ (Bool × (List ApiMeasure))) :=
  some (.inl ((IntKind.i64.wrap (kind2 + (1 : Int))), put19, c19))
noncomputable def lawAdded_j4 (v2 : ApiItem) (x : ApiMeasure) (v5 : Int) (v6 : (List ApiMeasure)) (v7 : (List ApiMeasure)) (kind2 : Int) (is28 : Bool) (put20 : Bool) (c21 : (List ApiMeasure)) (c18_028 : Int) (c18_162 : Int) (c18_228 : Str) (c18_326 : (List Str)) (c18_428 : Int) (c18_528 : Int) (c18_628 : Int) (c18_728 : Int) (c18_828 : Int) (c18_928 : Int) (c18_1028 : Int) (c18_1129 : Bool) (c18_1228 : Int) (c18_1328 : Bool) (c18_1428 : Int) : Option ((Int × Bool × (List ApiMeasure)) ⊕ (Bool × (List ApiMeasure))) :=
  if is28 = true then
    if (c21.length + [(⟨c18_028, c18_162, c18_228, c18_326, c18_428, c18_528, c18_628, c18_728, (⟨c18_828, c18_928, c18_1028, c18_1129, c18_1228, c18_1328, c18_1428⟩ : ApiDuty)⟩ : ApiMeasure)].length ≤ 137438953472) then
      lawAdded_j2 v2 x v5 v6 v7 kind2 (c21 ++ [(⟨c18_028, c18_162, c18_228, c18_326, c18_428, c18_528, c18_628, c18_728, (⟨c18_828, c18_928, c18_1028, c18_1129, c18_1228, c18_1328, c18_1428⟩ : ApiDuty)⟩ : ApiMeasure)]) put20
    else none
  else
    lawAdded_j2 v2 x v5 v6 v7 kind2 c21 put20
noncomputable def lawAdded_j5 (v2 : ApiItem) (x : ApiMeasure) (v5 : Int) (v6 : (List ApiMeasure)) (v7 : (List ApiMeasure)) (kind2 : Int) (i9 : Int) (put25 : Bool) (is33 : Bool) (c26 : (List ApiMeasure)) (c18_033 : Int) (c18_167 : Int) (c18_233 : Str) (c18_331 : (List Str)) (c18_433 : Int) (c18_533 : Int) (c18_633 : Int) (c18_733 : Int) (c18_833 : Int) (c18_933 : Int) (c18_1033 : Int) (c18_1134 : Bool) (c18_1233 : Int) (c18_1333 : Bool) (c18_1433 : Int) : Option ((Int × Bool × Bool × (List ApiMeasure) × Int × Int × Str × (List Str) × Int × Int × Int × Int × Int × Int × Int × Bool × Int × Bool × Int) ⊕ (Bool × Bool × (List ApiMeasure) × Int × Int × Str × (List Str) × Int × Int × Int × Int × Int × Int × Int × Bool × Int × Bool × Int)) :=
  some (.inl ((IntKind.i64.wrap (i9 + (1 : Int))), is33, put25, c26, c18_033, c18_167, c18_233, c18_331, c18_433, c18_533, c18_633, c18_733, c18_833, c18_933, c18_1033, c18_1134, c18_1233, c18_1333, c18_1433))
noncomputable def lawAdded_b2 (v2 : ApiItem) (x : ApiMeasure) (v5 : Int) (v6 : (List ApiMeasure)) (v7 : (List ApiMeasure)) (kind2 : Int) : (Int × Bool × Bool × (List ApiMeasure) × Int × Int × Str × (List Str) × Int × Int × Int × Int × Int × Int × Int × Bool × Int × Bool × Int) → Option ((Int × Bool × Bool × (List ApiMeasure) × Int × Int × Str × (List Str) × Int × Int × Int × Int × Int × Int × Int × Bool × Int × Bool × Int) ⊕ (Bool × Bool × (List ApiMeasure) × Int × Int × Str × (List Str) × Int × Int × Int × Int × Int × Int × Int × Bool × Int × Bool × Int))
  | (i9, is29, put21, c22, c18_029, c18_163, c18_229, c18_327, c18_429, c18_529, c18_629, c18_729, c18_829, c18_929, c18_1029, c18_1130, c18_1229, c18_1329, c18_1429) =>
    if (decide (i9 < (v7.length : Int))) = true then
      if ((kind2 == x.Kind) = true → (0 ≤ i9 ∧ i9 < (v7.length : Int))) then
        if ((bif (kind2 == x.Kind) then (((v7.getD i9.toNat default).Kind) == kind2) else false) = true → (0 ≤ i9 ∧ i9 < (v7.length : Int))) then
          if (bif (bif (kind2 == x.Kind) then (((v7.getD i9.toNat default).Kind) == kind2) else false) then (((v7.getD i9.toNat default).ID) == (IntKind.i64.wrap ((1000 : Int) + v5))) else false) = true then
            lawAdded_j5 v2 x v5 v6 v7 kind2 i9 true true c22 (IntKind.i64.wrap ((1000 : Int) + v5)) x.Kind x.Prefix x.Origins x.Company x.From x.To x.Registered x.Duty.Rate x.Duty.Amount x.Duty.Per x.Duty.HasMost x.Duty.Most x.Duty.HasLeast x.Duty.Least
          else
            lawAdded_j5 v2 x v5 v6 v7 kind2 i9 put21 is29 c22 c18_029 c18_163 c18_229 c18_327 c18_429 c18_529 c18_629 c18_729 c18_829 c18_929 c18_1029 c18_1130 c18_1229 c18_1329 c18_1429
        else none
      else none
    else
      some (.inr (is29, put21, c22, c18_029, c18_163, c18_229, c18_327, c18_429, c18_529, c18_629, c18_729, c18_829, c18_929, c18_1029, c18_1130, c18_1229, c18_1329, c18_1429))
noncomputable def lawAdded_j3 (v2 : ApiItem) (x : ApiMeasure) (v5 : Int) (v6 : (List ApiMeasure)) (v7 : (List ApiMeasure)) (kind2 : Int) (put10 : Bool) (is27 : Bool) (c20 : (List ApiMeasure)) (c18_027 : Int) (c18_161 : Int) (c18_227 : Str) (c18_325 : (List Str)) (c18_427 : Int) (c18_527 : Int) (c18_627 : Int) (c18_727 : Int) (c18_827 : Int) (c18_927 : Int) (c18_1027 : Int) (c18_1128 : Bool) (c18_1227 : Int) (c18_1327 : Bool) (c18_1427 : Int) : Option ((Int × Bool × (List ApiMeasure)) ⊕ (Bool × (List ApiMeasure))) :=
  (loopO (lawAdded_b2 v2 x v5 v6 v7 kind2) ((0 : Int), is27, put10, c20, c18_027, c18_161, c18_227, c18_325, c18_427, c18_527, c18_627, c18_727, c18_827, c18_927, c18_1027, c18_1128, c18_1227, c18_1327, c18_1427)).bind fun e => match e with
    | (is32, put24, c25, c18_032, c18_166, c18_232, c18_330, c18_432, c18_532, c18_632, c18_732, c18_832, c18_932, c18_1032, c18_1133, c18_1232, c18_1332, c18_1432) =>
      lawAdded_j4 v2 x v5 v6 v7 kind2 is32 put24 c25 c18_032 c18_166 c18_232 c18_330 c18_432 c18_532 c18_632 c18_732 c18_832 c18_932 c18_1032 c18_1133 c18_1232 c18_1332 c18_1432
noncomputable def lawAdded_j6 (v2 : ApiItem) (x : ApiMeasure) (v5 : Int) (v6 : (List ApiMeasure)) (v7 : (List ApiMeasure)) (kind2 : Int) (put10 : Bool) (i12 : Int) (is39 : Bool) (c32 : (List ApiMeasure)) (c18_039 : Int) (c18_173 : Int) (c18_239 : Str) (c18_336 : (List Str)) (c18_439 : Int) (c18_539 : Int) (c18_639 : Int) (c18_739 : Int) (c18_839 : Int) (c18_939 : Int) (c18_1039 : Int) (c18_1140 : Bool) (c18_1239 : Int) (c18_1339 : Bool) (c18_1439 : Int) : Option ((Int × Bool × (List ApiMeasure) × Int × Int × Str × (List Str) × Int × Int × Int × Int × Int × Int × Int × Bool × Int × Bool × Int) ⊕ (Bool × (List ApiMeasure) × Int × Int × Str × (List Str) × Int × Int × Int × Int × Int × Int × Int × Bool × Int × Bool × Int)) :=
  some (.inl ((IntKind.i64.wrap (i12 + (1 : Int))), is39, c32, c18_039, c18_173, c18_239, c18_336, c18_439, c18_539, c18_639, c18_739, c18_839, c18_939, c18_1039, c18_1140, c18_1239, c18_1339, c18_1439))
noncomputable def lawAdded_b3 (v2 : ApiItem) (x : ApiMeasure) (v5 : Int) (v6 : (List ApiMeasure)) (v7 : (List ApiMeasure)) (kind2 : Int) (put10 : Bool) : (Int × Bool × (List ApiMeasure) × Int × Int × Str × (List Str) × Int × Int × Int × Int × Int × Int × Int × Bool × Int × Bool × Int) → Option ((Int × Bool × (List ApiMeasure) × Int × Int × Str × (List Str) × Int × Int × Int × Int × Int × Int × Int × Bool × Int × Bool × Int) ⊕ (Bool × (List ApiMeasure) × Int × Int × Str × (List Str) × Int × Int × Int × Int × Int × Int × Int × Bool × Int × Bool × Int))
  | (i12, is36, c29, c18_036, c18_170, c18_236, c18_333, c18_436, c18_536, c18_636, c18_736, c18_836, c18_936, c18_1036, c18_1137, c18_1236, c18_1336, c18_1436) =>
    if (decide (i12 < (v6.length : Int))) = true then
      if (0 ≤ i12) then
        (v6[i12.toNat]?).bind fun x18 =>
          if (x18.Kind == kind2) = true then
            if (0 ≤ i12) then
              (v6[i12.toNat]?).bind fun x19 =>
                lawAdded_j6 v2 x v5 v6 v7 kind2 put10 i12 true c29 x19.ID x19.Kind x19.Prefix x19.Origins x19.Company x19.From x19.To x19.Registered x19.Duty.Rate x19.Duty.Amount x19.Duty.Per x19.Duty.HasMost x19.Duty.Most x19.Duty.HasLeast x19.Duty.Least
            else none
          else
            lawAdded_j6 v2 x v5 v6 v7 kind2 put10 i12 is36 c29 c18_036 c18_170 c18_236 c18_333 c18_436 c18_536 c18_636 c18_736 c18_836 c18_936 c18_1036 c18_1137 c18_1236 c18_1336 c18_1436
      else none
    else
      some (.inr (is36, c29, c18_036, c18_170, c18_236, c18_333, c18_436, c18_536, c18_636, c18_736, c18_836, c18_936, c18_1036, c18_1137, c18_1236, c18_1336, c18_1436))
noncomputable def lawAdded_b1 (v2 : ApiItem) (x : ApiMeasure) (v5 : Int) (v6 : (List ApiMeasure)) (v7 : (List ApiMeasure)) : (Int × Bool × (List ApiMeasure)) → Option ((Int × Bool × (List ApiMeasure)) ⊕ (Bool × (List ApiMeasure)))
  | (kind2, put10, c3) =>
    if (decide (kind2 ≤ (6 : Int))) = true then
      (loopO (lawAdded_b3 v2 x v5 v6 v7 kind2 put10) ((0 : Int), false, c3, 0, 0, [], [], 0, 0, 0, 0, 0, 0, 0, false, 0, false, 0)).bind fun e => match e with
        | (is38, c31, c18_038, c18_172, c18_238, c18_335, c18_438, c18_538, c18_638, c18_738, c18_838, c18_938, c18_1038, c18_1139, c18_1238, c18_1338, c18_1438) =>
          lawAdded_j3 v2 x v5 v6 v7 kind2 put10 is38 c31 c18_038 c18_172 c18_238 c18_335 c18_438 c18_538 c18_638 c18_738 c18_838 c18_938 c18_1038 c18_1139 c18_1238 c18_1338 c18_1438
    else
      some (.inr (put10, c3))
noncomputable def lawAdded (l : (List Int)) (k : (List Int)) (more : (List Int)) (id : Int) : Option (Bool) :=
  (madeMeasures l).bind fun v =>
    (madeItem k).bind fun v2 =>
      (madeMeasures more).bind fun v3 =>
        if ((v3.length : Int) == (0 : Int)) = true then
          (awake19 ).bind fun v4 =>
            some v4
        else
          if (0 ≤ (IntKind.i64.wrap ((v3.length : Int) - (1 : Int)))) then
            (v3[(IntKind.i64.wrap ((v3.length : Int) - (1 : Int))).toNat]?).bind fun x =>
              (within id (10 : Int)).bind fun v5 =>
                (meApplicable v v2.Code v2.Origin v2.Company v2.Day).bind fun v6 =>
                  if (0 + v.length ≤ 137438953472) then
                    if (v.length + [(⟨(IntKind.i64.wrap ((1000 : Int) + v5)), x.Kind, x.Prefix, x.Origins, x.Company, x.From, x.To, x.Registered, x.Duty⟩ : ApiMeasure)].length ≤ 137438953472) then
                      (meApplicable (v ++ [(⟨(IntKind.i64.wrap ((1000 : Int) + v5)), x.Kind, x.Prefix, x.Origins, x.Company, x.From, x.To, x.Registered, x.Duty⟩ : ApiMeasure)]) v2.Code v2.Origin v2.Company v2.Day).bind fun v7 =>
                        (loopO (lawAdded_b1 v2 x v5 v6 v7) ((1 : Int), false, [])).bind fun e => match e with
                          | (put18, c18) =>
                            lawAdded_j1 v2 x v5 v7 put18 c18
                    else none
                  else none
          else none

end Go.C
