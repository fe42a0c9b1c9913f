/- Packed by pack.py. -/
import Derived.Test.YtfkefolbabniaaaGreatDoorQr2
import Derived.Test.YtfkefolbabniaaaGreatDoorQr3
section
set_option linter.unusedVariables false
namespace Go.C
open Go.V
noncomputable def refCommon_j1 (n1 : Int) : Option (Int) :=
 some n1
noncomputable def refCommon_j2 (b : (List Str)) (v : (List Str)) (i : Int) (n16 : Int) : Option ((Int × Int) ⊕ (Int)) :=
 some (.inl ((IntKind.i64.wrap (i + (1 : Int))), n16))
noncomputable def refCommon_b1 (b : (List Str)) (v : (List Str)) : (Int × Int) → Option ((Int × Int) ⊕ (Int))
 | (i, n12) =>
  if (decide (i < (v.length : Int))) = true then
   if (0 ≤ i) then
    (v[i.toNat]?).bind fun x2 =>
     (refHas b x2).bind fun v3 =>
      if v3 = true then
       refCommon_j2 b v i (IntKind.i64.wrap (n12 + (1 : Int)))
      else
       refCommon_j2 b v i n12
   else none
  else
   some (.inr n12)
noncomputable def refCommon (a : (List Str)) (b : (List Str)) : Option (Int) :=
 (refUnion a []).bind fun v =>
  (loopO (refCommon_b1 b v) ((0 : Int), (0 : Int))).bind fun e => match e with
   | n15 =>
    refCommon_j1 n15
noncomputable def rIncomplete (g : ApiGood) : Option ((List Str)) :=
 (refUnion g.Words [([112, 97, 114, 116, 115] : Str)]).bind fun v =>
  some v
noncomputable def rLikeness_j3 (n1 : Int) : Option (Int) :=
 some n1
noncomputable def rLikeness_b1 (w12 : (List Str)) (v2 : (List (List Str))) : (Int × Int) → Option ((Int × Int) ⊕ (Int))
 | (i, n12) =>
  if (decide (i < (v2.length : Int))) = true then
   if (0 ≤ i) then
    (v2[i.toNat]?).bind fun x3 =>
     (refCommon x3 w12).bind fun v4 =>
      some (.inl ((IntKind.i64.wrap (i + (1 : Int))), (if v4 > n12 then v4 else n12)))
   else none
  else
   some (.inr n12)
noncomputable def rLikeness_j2 (b : ApiNomenclature) (x : ApiCodeEntry) (w12 : (List Str)) : Option (Int) :=
 (refAlts b x).bind fun v2 =>
  (loopO (rLikeness_b1 w12 v2) ((0 : Int), (0 : Int))).bind fun e => match e with
   | n14 =>
    rLikeness_j3 n14
noncomputable def rLikeness_b2 (b : ApiNomenclature) (x : ApiCodeEntry) (g : ApiGood) : (Int × (List Str)) → Option ((Int × (List Str)) ⊕ ((List Str)))
 | (i3, w13) =>
  if (decide (i3 < (g.Parts.length : Int))) = true then
   if (0 ≤ i3) then
    (g.Parts[i3.toNat]?).bind fun x5 =>
     (refUnion w13 x5.Words).bind fun v6 =>
      some (.inl ((IntKind.i64.wrap (i3 + (1 : Int))), v6))
   else none
  else
   some (.inr w13)
noncomputable def rLikeness_j1 (b : ApiNomenclature) (x : ApiCodeEntry) (g : ApiGood) (w1 : (List Str)) : Option (Int) :=
 (loopO (rLikeness_b2 b x g) ((0 : Int), w1)).bind fun e => match e with
  | w15 =>
   rLikeness_j2 b x w15
noncomputable def rLikeness_b3 (b : ApiNomenclature) (x : ApiCodeEntry) (g : ApiGood) : (Int × (List Str)) → Option ((Int × (List Str)) ⊕ ((List Str)))
 | (i5, w16) =>
  if (decide (i5 < (g.Materials.length : Int))) = true then
   if (0 ≤ i5) then
    (g.Materials[i5.toNat]?).bind fun x7 =>
     (refWith w16 x7.Name).bind fun v8 =>
      some (.inl ((IntKind.i64.wrap (i5 + (1 : Int))), v8))
   else none
  else
   some (.inr w16)
noncomputable def rLikeness (b : ApiNomenclature) (x : ApiCodeEntry) (g : ApiGood) : Option (Int) :=
 (refExcluded b x.Code g.Words).bind fun v =>
  if v = true then
   some (0 : Int)
  else
   (loopO (rLikeness_b3 b x g) ((0 : Int), g.Words)).bind fun e => match e with
    | w18 =>
     rLikeness_j1 b x g w18
noncomputable def rAsParts_j1  : Option (Bool) :=
 some false
noncomputable def rAsParts_b1 (b : ApiNomenclature) (x : ApiCodeEntry) (v : (List Str)) (v2 : (List (List Str))) : (Int) → Option ((Int) ⊕ ((Bool) ⊕ (Unit)))
 | i =>
  if (decide (i < (v2.length : Int))) = true then
   if (0 ≤ i) then
    (v2[i.toNat]?).bind fun x3 =>
     (refHas x3 ([112, 97, 114, 116, 115] : Str)).bind fun v6 =>
      if (v6 = true → (0 ≤ i ∧ i < (v2.length : Int))) then
       (if v6 = true then refSubset (v2.getD i.toNat default) v else some default).bind fun v7 =>
        if (bif v6 then v7 else false) = true then
         (refExcluded b x.Code v).bind fun v8 =>
          some (.inr (.inl (!v8)))
        else
         some (.inl (IntKind.i64.wrap (i + (1 : Int))))
      else none
   else none
  else
   some (.inr (.inr ()))
noncomputable def rAsParts (b : ApiNomenclature) (x : ApiCodeEntry) (g : ApiGood) : Option (Bool) :=
 (rIncomplete g).bind fun v =>
  (refAlts b x).bind fun v2 =>
   (loopO (rAsParts_b1 b x v v2) (0 : Int)).bind fun e => match e with
    | (.inl rv) =>
     some rv
    | (.inr ()) =>
     rAsParts_j1
noncomputable def rByCharacter_j1  : Option (Bool) :=
 some false
noncomputable def rByCharacter_b1 (b : ApiNomenclature) (x : ApiCodeEntry) (v : (List ApiComponent)) : (Int) → Option ((Int) ⊕ ((Bool) ⊕ (Unit)))
 | i =>
  if (decide (i < (v.length : Int))) = true then
   if (0 ≤ i) then
    (v[i.toNat]?).bind fun x3 =>
     (refScore b x x3.Words).bind fun v3 =>
      if (decide ((0 : Int) < v3)) = true then
       some (.inr (.inl true))
      else
       some (.inl (IntKind.i64.wrap (i + (1 : Int))))
   else none
  else
   some (.inr (.inr ()))
noncomputable def rByCharacter (b : ApiNomenclature) (x : ApiCodeEntry) (g : ApiGood) : Option (Bool) :=
 (refCharacters g).bind fun v =>
  (loopO (rByCharacter_b1 b x v) (0 : Int)).bind fun e => match e with
   | (.inl rv) =>
    some rv
   | (.inr ()) =>
    rByCharacter_j1
noncomputable def rFits (b : ApiNomenclature) (x : ApiCodeEntry) (g : ApiGood) (way : Int) (top : Bool) (best : Int) : Option (Bool) :=
 if (way == (1 : Int)) = true then
  if g.Incomplete = true then
   (rAsParts b x g).bind fun v =>
    some v
  else
   (refScore b x g.Words).bind fun v2 =>
    some (decide ((0 : Int) < v2))
 else
  if (way == (2 : Int)) = true then
   (if g.Incomplete = true then refScore b x g.Words else some default).bind fun v3 =>
    some (bif g.Incomplete then (decide ((0 : Int) < v3)) else false)
  else
   if (way == (3 : Int)) = true then
    (rByCharacter b x g).bind fun v4 =>
     some v4
   else
    if (way == (4 : Int)) = true then
     some (bif (!top) then x.Other else false)
    else
     if (way == (5 : Int)) = true then
      (if (decide ((0 : Int) < best)) = true then rLikeness b x g else some default).bind fun v5 =>
       some (bif (decide ((0 : Int) < best)) then (v5 == best) else false)
     else
      some (!top)
noncomputable def rBasis_j2  : Option (Int × (List ApiCodeEntry)) :=
 some ((0 : Int), [])
noncomputable def rBasis_j3 (b : ApiNomenclature) (g : ApiGood) (parent : Str) (v : (List ApiCodeEntry)) (best : Int) (way : Int) : Option ((Int) ⊕ ((Int × (List ApiCodeEntry)) ⊕ (Unit))) :=
 some (.inl (IntKind.i64.wrap (way + (1 : Int))))
noncomputable def rBasis_j4 (b : ApiNomenclature) (g : ApiGood) (parent : Str) (v : (List ApiCodeEntry)) (best : Int) (way : Int) (c7 : (List ApiCodeEntry)) : Option ((Int) ⊕ ((Int × (List ApiCodeEntry)) ⊕ (Unit))) :=
 if (decide ((0 : Int) < (c7.length : Int))) = true then
  if (0 ≤ way) then
   ([(0 : Int), (1 : Int), (2 : Int), (3 : Int), (8 : Int), (7 : Int), (7 : Int)][way.toNat]?).bind fun x8 =>
    some (.inr (.inl (x8, c7)))
  else none
 else
  rBasis_j3 b g parent v best way
noncomputable def rBasis_j5 (b : ApiNomenclature) (g : ApiGood) (parent : Str) (v : (List ApiCodeEntry)) (best : Int) (way : Int) (i4 : Int) (c12 : (List ApiCodeEntry)) : Option ((Int × (List ApiCodeEntry)) ⊕ ((List ApiCodeEntry))) :=
 some (.inl ((IntKind.i64.wrap (i4 + (1 : Int))), c12))
noncomputable def rBasis_b2 (b : ApiNomenclature) (g : ApiGood) (parent : Str) (v : (List ApiCodeEntry)) (best : Int) (way : Int) : (Int × (List ApiCodeEntry)) → Option ((Int × (List ApiCodeEntry)) ⊕ ((List ApiCodeEntry)))
 | (i4, c9) =>
  if (decide (i4 < (v.length : Int))) = true then
   if (0 ≤ i4) then
    (v[i4.toNat]?).bind fun x13 =>
     (rFits b x13 g way (parent == ([] : Str)) best).bind fun v7 =>
      if v7 = true then
       if (0 ≤ i4) then
        (v[i4.toNat]?).bind fun x14 =>
         if (c9.length + [x14].length ≤ 137438953472) then
          rBasis_j5 b g parent v best way i4 (c9 ++ [x14])
         else none
       else none
      else
       rBasis_j5 b g parent v best way i4 c9
   else none
  else
   some (.inr c9)
noncomputable def rBasis_b1 (b : ApiNomenclature) (g : ApiGood) (parent : Str) (v : (List ApiCodeEntry)) (best : Int) : (Int) → Option ((Int) ⊕ ((Int × (List ApiCodeEntry)) ⊕ (Unit)))
 | way =>
  if (decide (way ≤ (6 : Int))) = true then
   (loopO (rBasis_b2 b g parent v best way) ((0 : Int), [])).bind fun e => match e with
    | c11 =>
     rBasis_j4 b g parent v best way c11
  else
   some (.inr (.inr ()))
noncomputable def rBasis_j1 (b : ApiNomenclature) (g : ApiGood) (parent : Str) (v : (List ApiCodeEntry)) (best : Int) : Option (Int × (List ApiCodeEntry)) :=
 (loopO (rBasis_b1 b g parent v best) (1 : Int)).bind fun e => match e with
  | (.inl rv) =>
   some rv
  | (.inr ()) =>
   rBasis_j2
noncomputable def rBasis_b3 (b : ApiNomenclature) (g : ApiGood) (parent : Str) (v : (List ApiCodeEntry)) : (Int × Int) → Option ((Int × Int) ⊕ (Int))
 | (i5, best2) =>
  if (decide (i5 < (v.length : Int))) = true then
   if (0 ≤ i5) then
    (v[i5.toNat]?).bind fun x16 =>
     (rLikeness b x16 g).bind fun v9 =>
      some (.inl ((IntKind.i64.wrap (i5 + (1 : Int))), (if v9 > best2 then v9 else best2)))
   else none
  else
   some (.inr best2)
noncomputable def rBasis (b : ApiNomenclature) (day : Int) (g : ApiGood) (parent : Str) : Option (Int × (List ApiCodeEntry)) :=
 (refBelow b day parent).bind fun v =>
  (loopO (rBasis_b3 b g parent v) ((0 : Int), (0 : Int))).bind fun e => match e with
   | best4 =>
    rBasis_j1 b g parent v best4
noncomputable def rSpecific_j3 (out : (List ApiCodeEntry)) : Option ((List ApiCodeEntry)) :=
 some out
noncomputable def rSpecific_j4 (b : ApiNomenclature) (c : (List ApiCodeEntry)) (w1 : (List Str)) (best : Int) (i2 : Int) (out6 : (List ApiCodeEntry)) : Option ((Int × (List ApiCodeEntry)) ⊕ ((List ApiCodeEntry))) :=
 some (.inl ((IntKind.i64.wrap (i2 + (1 : Int))), out6))
noncomputable def rSpecific_b1 (b : ApiNomenclature) (c : (List ApiCodeEntry)) (w1 : (List Str)) (best : Int) : (Int × (List ApiCodeEntry)) → Option ((Int × (List ApiCodeEntry)) ⊕ ((List ApiCodeEntry)))
 | (i2, out3) =>
  if (decide (i2 < (c.length : Int))) = true then
   if (0 ≤ i2) then
    (c[i2.toNat]?).bind fun x5 =>
     (refScore b x5 w1).bind fun v3 =>
      if (v3 == best) = true then
       if (0 ≤ i2) then
        (c[i2.toNat]?).bind fun x6 =>
         if (out3.length + [x6].length ≤ 137438953472) then
          rSpecific_j4 b c w1 best i2 (out3 ++ [x6])
         else none
       else none
      else
       rSpecific_j4 b c w1 best i2 out3
   else none
  else
   some (.inr out3)
noncomputable def rSpecific_j2 (b : ApiNomenclature) (c : (List ApiCodeEntry)) (w1 : (List Str)) (best : Int) : Option ((List ApiCodeEntry)) :=
 (loopO (rSpecific_b1 b c w1 best) ((0 : Int), [])).bind fun e => match e with
  | out5 =>
   rSpecific_j3 out5
noncomputable def rSpecific_b2 (b : ApiNomenclature) (c : (List ApiCodeEntry)) (w1 : (List Str)) : (Int × Int) → Option ((Int × Int) ⊕ (Int))
 | (i3, best2) =>
  if (decide (i3 < (c.length : Int))) = true then
   if (0 ≤ i3) then
    (c[i3.toNat]?).bind fun x8 =>
     (refScore b x8 w1).bind fun v5 =>
      some (.inl ((IntKind.i64.wrap (i3 + (1 : Int))), (if v5 > best2 then v5 else best2)))
   else none
  else
   some (.inr best2)
noncomputable def rSpecific_j1 (b : ApiNomenclature) (c : (List ApiCodeEntry)) (w1 : (List Str)) : Option ((List ApiCodeEntry)) :=
 (loopO (rSpecific_b2 b c w1) ((0 : Int), (0 : Int))).bind fun e => match e with
  | best4 =>
   rSpecific_j2 b c w1 best4
noncomputable def rSpecific (b : ApiNomenclature) (g : ApiGood) (basis : Int) (c : (List ApiCodeEntry)) : Option ((List ApiCodeEntry)) :=
 if (bif (basis != (1 : Int)) then (basis != (2 : Int)) else false) = true then
  some c
 else
  if (bif g.Incomplete then (basis == (1 : Int)) else false) = true then
   (rIncomplete g).bind fun v6 =>
    rSpecific_j1 b c v6
  else
   rSpecific_j1 b c g.Words
noncomputable def rEssential_j1 (c : (List ApiCodeEntry)) : Option ((List ApiCodeEntry) × Bool) :=
 some (c, false)
noncomputable def rEssential_j2 (b : ApiNomenclature) (c : (List ApiCodeEntry)) (v : (List ApiComponent)) (i : Int) : Option ((Int) ⊕ (((List ApiCodeEntry) × Bool) ⊕ (Unit))) :=
 some (.inl (IntKind.i64.wrap (i + (1 : Int))))
noncomputable def rEssential_j3 (b : ApiNomenclature) (c : (List ApiCodeEntry)) (v : (List ApiComponent)) (i : Int) (out7 : (List ApiCodeEntry)) : Option ((Int) ⊕ (((List ApiCodeEntry) × Bool) ⊕ (Unit))) :=
 if (decide ((0 : Int) < (out7.length : Int))) = true then
  some (.inr (.inl (out7, true)))
 else
  rEssential_j2 b c v i
noncomputable def rEssential_j4 (b : ApiNomenclature) (c : (List ApiCodeEntry)) (v : (List ApiComponent)) (i : Int) (k4 : Int) (out12 : (List ApiCodeEntry)) : Option ((Int × (List ApiCodeEntry)) ⊕ ((List ApiCodeEntry))) :=
 some (.inl ((IntKind.i64.wrap (k4 + (1 : Int))), out12))
noncomputable def rEssential_b2 (b : ApiNomenclature) (c : (List ApiCodeEntry)) (v : (List ApiComponent)) (i : Int) : (Int × (List ApiCodeEntry)) → Option ((Int × (List ApiCodeEntry)) ⊕ ((List ApiCodeEntry)))
 | (k4, out9) =>
  if (decide (k4 < (c.length : Int))) = true then
   if (0 ≤ k4) then
    (c[k4.toNat]?).bind fun x16 =>
     if (0 ≤ i) then
      (v[i.toNat]?).bind fun x17 =>
       (refScore b x16 x17.Words).bind fun v7 =>
        if (decide ((0 : Int) < v7)) = true then
         if (0 ≤ k4) then
          (c[k4.toNat]?).bind fun x18 =>
           if (out9.length + [x18].length ≤ 137438953472) then
            rEssential_j4 b c v i k4 (out9 ++ [x18])
           else none
         else none
        else
         rEssential_j4 b c v i k4 out9
     else none
   else none
  else
   some (.inr out9)
noncomputable def rEssential_b1 (b : ApiNomenclature) (c : (List ApiCodeEntry)) (v : (List ApiComponent)) : (Int) → Option ((Int) ⊕ (((List ApiCodeEntry) × Bool) ⊕ (Unit)))
 | i =>
  if (decide (i < (v.length : Int))) = true then
   (loopO (rEssential_b2 b c v i) ((0 : Int), [])).bind fun e => match e with
    | out11 =>
     rEssential_j3 b c v i out11
  else
   some (.inr (.inr ()))
noncomputable def rEssential (b : ApiNomenclature) (g : ApiGood) (c : (List ApiCodeEntry)) : Option ((List ApiCodeEntry) × Bool) :=
 (refCharacters g).bind fun v =>
  (loopO (rEssential_b1 b c v) (0 : Int)).bind fun e => match e with
   | (.inl rv) =>
    some rv
   | (.inr ()) =>
    rEssential_j1 c
noncomputable def rReduce (b : ApiNomenclature) (g : ApiGood) (basis : Int) (c : (List ApiCodeEntry)) : Option (Int × ApiCodeEntry) :=
 if (bif (bif ((c.length : Int) == (1 : Int)) then true else (basis == (7 : Int))) then true else (basis == (8 : Int))) = true then
  if (0 ≤ (IntKind.i64.wrap ((c.length : Int) - (1 : Int)))) then
   (c[(IntKind.i64.wrap ((c.length : Int) - (1 : Int))).toNat]?).bind fun x =>
    some (basis, x)
  else none
 else
  (rSpecific b g basis c).bind fun v =>
   if (bif ((v.length : Int) == (1 : Int)) then (bif (basis == (1 : Int)) then true else (basis == (2 : Int))) else false) = true then
    (v[0]?).bind fun x2 =>
     some ((4 : Int), x2)
   else
    (rEssential b g v).bind fun v2 =>
     if (bif v2.2 then ((v2.1.length : Int) == (1 : Int)) else false) = true then
      (v2.1[0]?).bind fun x3 =>
       some ((5 : Int), x3)
     else
      if (0 ≤ (IntKind.i64.wrap ((v2.1.length : Int) - (1 : Int)))) then
       (v2.1[(IntKind.i64.wrap ((v2.1.length : Int) - (1 : Int))).toNat]?).bind fun x4 =>
        some ((6 : Int), x4)
      else none
noncomputable def rCodes_j1 (out : (List Str)) : Option ((List Str)) :=
 some out
noncomputable def rCodes_b1 (l : (List ApiCodeEntry)) : (Int × (List Str)) → Option ((Int × (List Str)) ⊕ ((List Str)))
 | (i2, out2) =>
  if (decide (i2 < (l.length : Int))) = true then
   if (0 ≤ i2) then
    (l[i2.toNat]?).bind fun x3 =>
     if (out2.length + [x3.Code].length ≤ 137438953472) then
      some (.inl ((IntKind.i64.wrap (i2 + (1 : Int))), (out2 ++ [x3.Code])))
     else none
   else none
  else
   some (.inr out2)
noncomputable def rCodes (l : (List ApiCodeEntry)) : Option ((List Str)) :=
 (loopO (rCodes_b1 l) ((0 : Int), [])).bind fun e => match e with
  | out3 =>
   rCodes_j1 out3
noncomputable def rClassify_j1 (steps : (List ApiClassStep)) (code : Str) : Option (Str × (List ApiClassStep) × Int) :=
 if (code == ([] : Str)) = true then
  some (([] : Str), [], (7 : Int))
 else
  some (code, steps, (0 : Int))
noncomputable def rClassify_b1 (b : ApiNomenclature) (day : Int) (g : ApiGood) : ((List ApiClassStep) × Str) → Option (((List ApiClassStep) × Str) ⊕ ((List ApiClassStep) × Str))
 | (steps2, code3) =>
  (rBasis b day g code3).bind fun v9 =>
   if ((v9.2.length : Int) == (0 : Int)) = true then
    some (.inr (steps2, code3))
   else
    (rReduce b g v9.1 v9.2).bind fun v10 =>
     (rCodes v9.2).bind fun v11 =>
      if (steps2.length + [(⟨code3, v9.1, v11, v10.1, v10.2.Code⟩ : ApiClassStep)].length ≤ 137438953472) then
       some (.inl ((steps2 ++ [(⟨code3, v9.1, v11, v10.1, v10.2.Code⟩ : ApiClassStep)]), v10.2.Code))
      else none
noncomputable def rClassify (b : ApiNomenclature) (day : Int) (g : ApiGood) : Option (Str × (List ApiClassStep) × Int) :=
 (refBook b).bind fun v =>
  if (v != (0 : Int)) = true then
   some (([] : Str), [], v)
  else
   (refGood g).bind fun v2 =>
    if (v2 != (0 : Int)) = true then
     some (([] : Str), [], v2)
    else
     if (bif (decide (day < (0 : Int))) then true else (decide ((36524 : Int) < day))) = true then
      some (([] : Str), [], (2 : Int))
     else
      (loopO (rClassify_b1 b day g) ([], ([] : Str))).bind fun e => match e with
       | (steps3, code4) =>
        rClassify_j1 steps3 code4
noncomputable def sameStep (a : ApiClassStep) (b : ApiClassStep) : Option (Bool) :=
 (if (bif (bif (bif (a.Parent == b.Parent) then (a.Basis == b.Basis) else false) then (a.Rule == b.Rule) else false) then (a.Chosen == b.Chosen) else false) = true then sameStrings a.Candidates b.Candidates else some default).bind fun v =>
  some (bif (bif (bif (bif (a.Parent == b.Parent) then (a.Basis == b.Basis) else false) then (a.Rule == b.Rule) else false) then (a.Chosen == b.Chosen) else false) then v else false)
noncomputable def sameSteps_j1  : Option (Bool) :=
 some true
noncomputable def sameSteps_b1 (a : (List ApiClassStep)) (b : (List ApiClassStep)) : (Int) → Option ((Int) ⊕ ((Bool) ⊕ (Unit)))
 | i =>
  if (decide (i < (a.length : Int))) = true then
   if (0 ≤ i) then
    (a[i.toNat]?).bind fun x3 =>
     if (0 ≤ i) then
      (b[i.toNat]?).bind fun x4 =>
       (sameStep x3 x4).bind fun v2 =>
        if (!v2) = true then
         some (.inr (.inl false))
        else
         some (.inl (IntKind.i64.wrap (i + (1 : Int))))
     else none
   else none
  else
   some (.inr (.inr ()))
noncomputable def sameSteps (a : (List ApiClassStep)) (b : (List ApiClassStep)) : Option (Bool) :=
 if ((a.length : Int) != (b.length : Int)) = true then
  some false
 else
  (loopO (sameSteps_b1 a b) (0 : Int)).bind fun e => match e with
   | (.inl rv) =>
    some rv
   | (.inr ()) =>
    sameSteps_j1
end Go.C
end

section
set_option linter.unusedVariables false
namespace Go.C
noncomputable def commonP (a b : List Str) : Option Int := if b.length ≤ 50 then commonS a b else commonB a b
def cloneR (l : List Str) : Option (List Str) := if l.length * 16 ≤ 140737488355328 then some l else none
end Go.C
end

section
set_option linter.unusedVariables false
namespace Go.C
open Go.V
noncomputable def incompleteWords (g : ApiGood) : Option ((List Str)) :=
 (union g.Words [([112, 97, 114, 116, 115] : Str)]).bind fun v =>
  some v
noncomputable def likeness_j3 (most : Int) : Option (Int) :=
 some most
noncomputable def likeness_b1 (v3 : (List (List Str))) : (Int × Int × (List Str)) → Option ((Int × Int × (List Str)) ⊕ (Int))
 | (t532, most3, words4) =>
  if (decide (t532 < (v3.length : Int))) = true then
   if (0 ≤ t532) then
    (v3[t532.toNat]?).bind fun x3 =>
     (commonP x3 words4).bind fun v6 =>
      some (.inl ((IntKind.i64.wrap (t532 + (1 : Int))), (if v6 > most3 then v6 else most3), words4))
   else none
  else
   some (.inr most3)
noncomputable def likeness_j2 (b : ApiNomenclature) (e1 : ApiCodeEntry) (words2 : (List Str)) : Option (Int) :=
 (nomAlts b e1).bind fun v3 =>
  (loopO (likeness_b1 v3) ((0 : Int), (0 : Int), words2)).bind fun e => match e with
   | most4 =>
    likeness_j3 most4
noncomputable def likeness_b2 (b : ApiNomenclature) (e1 : ApiCodeEntry) (g : ApiGood) : (Int × (List Str)) → Option ((Int × (List Str)) ⊕ ((List Str)))
 | (t40, words5) =>
  if (decide (t40 < (g.Parts.length : Int))) = true then
   if (0 ≤ t40) then
    (g.Parts[t40.toNat]?).bind fun x5 =>
     if (words5.length + x5.Words.length ≤ 137438953472) then
      some (.inl ((IntKind.i64.wrap (t40 + (1 : Int))), (words5 ++ x5.Words)))
     else none
   else none
  else
   some (.inr words5)
noncomputable def likeness_j1 (b : ApiNomenclature) (e1 : ApiCodeEntry) (g : ApiGood) (words : (List Str)) : Option (Int) :=
 (loopO (likeness_b2 b e1 g) ((0 : Int), words)).bind fun e => match e with
  | words7 =>
   likeness_j2 b e1 words7
noncomputable def likeness_b3 (b : ApiNomenclature) (e1 : ApiCodeEntry) (g : ApiGood) : (Int × (List Str)) → Option ((Int × (List Str)) ⊕ ((List Str)))
 | (t27, words8) =>
  if (decide (t27 < (g.Materials.length : Int))) = true then
   if (0 ≤ t27) then
    (g.Materials[t27.toNat]?).bind fun x7 =>
     if (words8.length + [x7.Name].length ≤ 137438953472) then
      some (.inl ((IntKind.i64.wrap (t27 + (1 : Int))), (words8 ++ [x7.Name])))
     else none
   else none
  else
   some (.inr words8)
noncomputable def likeness (b : ApiNomenclature) (e1 : ApiCodeEntry) (g : ApiGood) : Option (Int) :=
 (nomExcluded b e1.Code g.Words).bind fun v =>
  if v = true then
   some (0 : Int)
  else
   (cloneR g.Words).bind fun v2 =>
    (loopO (likeness_b3 b e1 g) ((0 : Int), v2)).bind fun e => match e with
     | words10 =>
      likeness_j1 b e1 g words10
noncomputable def scoredIn (e1 : ApiCodeEntry) (a1 : ApiNomenclature) (a2 : (List Str)) : Option (Bool) :=
 (nomScore a1 e1 a2).bind fun v =>
  some (decide ((0 : Int) < v))
noncomputable def keepScored_j1 (test0 : ApiNomenclature) (test1 : (List Str)) (kept : (List ApiCodeEntry)) : Option ((List ApiCodeEntry)) :=
 some kept
noncomputable def keepScored_j2 (l : (List ApiCodeEntry)) (test0 : ApiNomenclature) (test1 : (List Str)) (t102 : Int) (kept6 : (List ApiCodeEntry)) : Option ((Int × (List ApiCodeEntry)) ⊕ ((List ApiCodeEntry))) :=
 some (.inl ((IntKind.i64.wrap (t102 + (1 : Int))), kept6))
noncomputable def keepScored_b1 (l : (List ApiCodeEntry)) (test0 : ApiNomenclature) (test1 : (List Str)) : (Int × (List ApiCodeEntry)) → Option ((Int × (List ApiCodeEntry)) ⊕ ((List ApiCodeEntry)))
 | (t102, kept3) =>
  if (decide (t102 < (l.length : Int))) = true then
   if (0 ≤ t102) then
    (l[t102.toNat]?).bind fun x3 =>
     (scoredIn x3 test0 test1).bind fun v3 =>
      if v3 = true then
       if (kept3.length + [x3].length ≤ 137438953472) then
        keepScored_j2 l test0 test1 t102 (kept3 ++ [x3])
       else none
      else
       keepScored_j2 l test0 test1 t102 kept3
   else none
  else
   some (.inr kept3)
noncomputable def keepScored (l : (List ApiCodeEntry)) (test0 : ApiNomenclature) (test1 : (List Str)) : Option ((List ApiCodeEntry)) :=
 (loopO (keepScored_b1 l test0 test1) ((0 : Int), [])).bind fun e => match e with
  | kept5 =>
   keepScored_j1 test0 test1 kept5
noncomputable def scored (b : ApiNomenclature) (l : (List ApiCodeEntry)) (words : (List Str)) : Option ((List ApiCodeEntry)) :=
 (keepScored l b words).bind fun v =>
  some v
noncomputable def byTermsIn_j1 (a1 : ClassifyLevel) (a2 : (List Str)) : Option (Bool) :=
 some false
noncomputable def byTermsIn_b1 (a1 : ClassifyLevel) (a2 : (List Str)) (v2 : (List (List Str))) : (Int) → Option ((Int) ⊕ ((Bool) ⊕ (Unit)))
 | t18 =>
  if (decide (t18 < (v2.length : Int))) = true then
   if (0 ≤ t18) then
    (v2[t18.toNat]?).bind fun x2 =>
     (sContains x2 ([112, 97, 114, 116, 115] : Str)).bind fun v5 =>
      (if v5 = true then subset x2 a2 else some default).bind fun v6 =>
       if (bif v5 then v6 else false) = true then
        some (.inr (.inl true))
       else
        some (.inl (IntKind.i64.wrap (t18 + (1 : Int))))
   else none
  else
   some (.inr (.inr ()))
noncomputable def byTermsIn (e1 : ApiCodeEntry) (a1 : ClassifyLevel) (a2 : (List Str)) : Option (Bool) :=
 (nomExcluded a1.book e1.Code a2).bind fun v =>
  if v = true then
   some false
  else
   (nomAlts a1.book e1).bind fun v2 =>
    (loopO (byTermsIn_b1 a1 a2 v2) (0 : Int)).bind fun e => match e with
     | (.inl rv) =>
      some rv
     | (.inr ()) =>
      byTermsIn_j1 a1 a2
noncomputable def keepTerms_j1 (test0 : ClassifyLevel) (test1 : (List Str)) (kept : (List ApiCodeEntry)) : Option ((List ApiCodeEntry)) :=
 some kept
noncomputable def keepTerms_j2 (l : (List ApiCodeEntry)) (test0 : ClassifyLevel) (test1 : (List Str)) (t102 : Int) (kept6 : (List ApiCodeEntry)) : Option ((Int × (List ApiCodeEntry)) ⊕ ((List ApiCodeEntry))) :=
 some (.inl ((IntKind.i64.wrap (t102 + (1 : Int))), kept6))
noncomputable def keepTerms_b1 (l : (List ApiCodeEntry)) (test0 : ClassifyLevel) (test1 : (List Str)) : (Int × (List ApiCodeEntry)) → Option ((Int × (List ApiCodeEntry)) ⊕ ((List ApiCodeEntry)))
 | (t102, kept3) =>
  if (decide (t102 < (l.length : Int))) = true then
   if (0 ≤ t102) then
    (l[t102.toNat]?).bind fun x3 =>
     (byTermsIn x3 test0 test1).bind fun v3 =>
      if v3 = true then
       if (kept3.length + [x3].length ≤ 137438953472) then
        keepTerms_j2 l test0 test1 t102 (kept3 ++ [x3])
       else none
      else
       keepTerms_j2 l test0 test1 t102 kept3
   else none
  else
   some (.inr kept3)
noncomputable def keepTerms (l : (List ApiCodeEntry)) (test0 : ClassifyLevel) (test1 : (List Str)) : Option ((List ApiCodeEntry)) :=
 (loopO (keepTerms_b1 l test0 test1) ((0 : Int), [])).bind fun e => match e with
  | kept5 =>
   keepTerms_j1 test0 test1 kept5
noncomputable def byTerms (v : ClassifyLevel) : Option ((List ApiCodeEntry)) :=
 if (!v.good.Incomplete) = true then
  (scored v.book v.entries v.good.Words).bind fun v2 =>
   some v2
 else
  (incompleteWords v.good).bind fun v3 =>
   (keepTerms v.entries v v3).bind fun v4 =>
    some v4
noncomputable def asComplete (v : ClassifyLevel) : Option ((List ApiCodeEntry)) :=
 if (!v.good.Incomplete) = true then
  some []
 else
  (scored v.book v.entries v.good.Words).bind fun v2 =>
   some v2
noncomputable def byCharIn2 (x : ApiComponent) (a1 : ClassifyLevel) (a2 : ApiCodeEntry) : Option (Bool) :=
 (nomScore a1.book a2 x.Words).bind fun v =>
  some (decide ((0 : Int) < v))
noncomputable def charIndex_j1 (f0 : ClassifyLevel) (f1 : ApiCodeEntry) : Option (Int) :=
 some (-1 : Int)
noncomputable def charIndex_b1 (s : (List ApiComponent)) (f0 : ClassifyLevel) (f1 : ApiCodeEntry) : (Int) → Option ((Int) ⊕ ((Int) ⊕ (Unit)))
 | t8 =>
  if (decide (t8 < (s.length : Int))) = true then
   if (0 ≤ t8) then
    (s[t8.toNat]?).bind fun x2 =>
     (byCharIn2 x2 f0 f1).bind fun v2 =>
      if v2 = true then
       some (.inr (.inl t8))
      else
       some (.inl (IntKind.i64.wrap (t8 + (1 : Int))))
   else none
  else
   some (.inr (.inr ()))
noncomputable def charIndex (s : (List ApiComponent)) (f0 : ClassifyLevel) (f1 : ApiCodeEntry) : Option (Int) :=
 (loopO (charIndex_b1 s f0 f1) (0 : Int)).bind fun e => match e with
  | (.inl rv) =>
   some rv
  | (.inr ()) =>
   charIndex_j1 f0 f1
noncomputable def charContains (s : (List ApiComponent)) (f0 : ClassifyLevel) (f1 : ApiCodeEntry) : Option (Bool) :=
 (charIndex s f0 f1).bind fun v =>
  some (decide ((0 : Int) ≤ v))
noncomputable def byCharIn (e1 : ApiCodeEntry) (a1 : (List ApiComponent)) (a2 : ClassifyLevel) : Option (Bool) :=
 (charContains a1 a2 e1).bind fun v =>
  some v
noncomputable def keepChar_j1 (test0 : (List ApiComponent)) (test1 : ClassifyLevel) (kept : (List ApiCodeEntry)) : Option ((List ApiCodeEntry)) :=
 some kept
noncomputable def keepChar_j2 (l : (List ApiCodeEntry)) (test0 : (List ApiComponent)) (test1 : ClassifyLevel) (t102 : Int) (kept6 : (List ApiCodeEntry)) : Option ((Int × (List ApiCodeEntry)) ⊕ ((List ApiCodeEntry))) :=
 some (.inl ((IntKind.i64.wrap (t102 + (1 : Int))), kept6))
noncomputable def keepChar_b1 (l : (List ApiCodeEntry)) (test0 : (List ApiComponent)) (test1 : ClassifyLevel) : (Int × (List ApiCodeEntry)) → Option ((Int × (List ApiCodeEntry)) ⊕ ((List ApiCodeEntry)))
 | (t102, kept3) =>
  if (decide (t102 < (l.length : Int))) = true then
   if (0 ≤ t102) then
    (l[t102.toNat]?).bind fun x3 =>
     (byCharIn x3 test0 test1).bind fun v3 =>
      if v3 = true then
       if (kept3.length + [x3].length ≤ 137438953472) then
        keepChar_j2 l test0 test1 t102 (kept3 ++ [x3])
       else none
      else
       keepChar_j2 l test0 test1 t102 kept3
   else none
  else
   some (.inr kept3)
noncomputable def keepChar (l : (List ApiCodeEntry)) (test0 : (List ApiComponent)) (test1 : ClassifyLevel) : Option ((List ApiCodeEntry)) :=
 (loopO (keepChar_b1 l test0 test1) ((0 : Int), [])).bind fun e => match e with
  | kept5 =>
   keepChar_j1 test0 test1 kept5
noncomputable def byCharacter (v : ClassifyLevel) : Option ((List ApiCodeEntry)) :=
 (goodsCharacters v.good).bind fun v2 =>
  (keepChar v.entries v2 v).bind fun v3 =>
   some v3
noncomputable def residualIn (e1 : ApiCodeEntry) : Option (Bool) :=
 some e1.Other
noncomputable def keepResidual_j1 (kept : (List ApiCodeEntry)) : Option ((List ApiCodeEntry)) :=
 some kept
noncomputable def keepResidual_j2 (l : (List ApiCodeEntry)) (t102 : Int) (kept6 : (List ApiCodeEntry)) : Option ((Int × (List ApiCodeEntry)) ⊕ ((List ApiCodeEntry))) :=
 some (.inl ((IntKind.i64.wrap (t102 + (1 : Int))), kept6))
noncomputable def keepResidual_b1 (l : (List ApiCodeEntry)) : (Int × (List ApiCodeEntry)) → Option ((Int × (List ApiCodeEntry)) ⊕ ((List ApiCodeEntry)))
 | (t102, kept3) =>
  if (decide (t102 < (l.length : Int))) = true then
   if (0 ≤ t102) then
    (l[t102.toNat]?).bind fun x3 =>
     (residualIn x3).bind fun v3 =>
      if v3 = true then
       if (kept3.length + [x3].length ≤ 137438953472) then
        keepResidual_j2 l t102 (kept3 ++ [x3])
       else none
      else
       keepResidual_j2 l t102 kept3
   else none
  else
   some (.inr kept3)
noncomputable def keepResidual (l : (List ApiCodeEntry)) : Option ((List ApiCodeEntry)) :=
 (loopO (keepResidual_b1 l) ((0 : Int), [])).bind fun e => match e with
  | kept5 =>
   keepResidual_j1 kept5
noncomputable def residual (v : ClassifyLevel) : Option ((List ApiCodeEntry)) :=
 if (v.parent == ([] : Str)) = true then
  some []
 else
  (keepResidual v.entries).bind fun v2 =>
   some v2
noncomputable def akinIn (e1 : ApiCodeEntry) (a1 : ClassifyLevel) (a2 : Int) : Option (Bool) :=
 (likeness a1.book e1 a1.good).bind fun v =>
  some (v == a2)
noncomputable def keepAkin_j1 (test0 : ClassifyLevel) (test1 : Int) (kept : (List ApiCodeEntry)) : Option ((List ApiCodeEntry)) :=
 some kept
noncomputable def keepAkin_j2 (l : (List ApiCodeEntry)) (test0 : ClassifyLevel) (test1 : Int) (t102 : Int) (kept6 : (List ApiCodeEntry)) : Option ((Int × (List ApiCodeEntry)) ⊕ ((List ApiCodeEntry))) :=
 some (.inl ((IntKind.i64.wrap (t102 + (1 : Int))), kept6))
noncomputable def keepAkin_b1 (l : (List ApiCodeEntry)) (test0 : ClassifyLevel) (test1 : Int) : (Int × (List ApiCodeEntry)) → Option ((Int × (List ApiCodeEntry)) ⊕ ((List ApiCodeEntry)))
 | (t102, kept3) =>
  if (decide (t102 < (l.length : Int))) = true then
   if (0 ≤ t102) then
    (l[t102.toNat]?).bind fun x3 =>
     (akinIn x3 test0 test1).bind fun v3 =>
      if v3 = true then
       if (kept3.length + [x3].length ≤ 137438953472) then
        keepAkin_j2 l test0 test1 t102 (kept3 ++ [x3])
       else none
      else
       keepAkin_j2 l test0 test1 t102 kept3
   else none
  else
   some (.inr kept3)
noncomputable def keepAkin (l : (List ApiCodeEntry)) (test0 : ClassifyLevel) (test1 : Int) : Option ((List ApiCodeEntry)) :=
 (loopO (keepAkin_b1 l test0 test1) ((0 : Int), [])).bind fun e => match e with
  | kept5 =>
   keepAkin_j1 test0 test1 kept5
noncomputable def akin_j1 (v : ClassifyLevel) (c3_0 : Int) : Option ((List ApiCodeEntry)) :=
 if (c3_0 == (0 : Int)) = true then
  some []
 else
  (keepAkin v.entries v c3_0).bind fun v2 =>
   some v2
noncomputable def akin_b1 (v : ClassifyLevel) : (Int × Int) → Option ((Int × Int) ⊕ (Int))
 | (t9, c3_02) =>
  if (decide (t9 < (v.entries.length : Int))) = true then
   if (0 ≤ t9) then
    (v.entries[t9.toNat]?).bind fun x2 =>
     (likeness v.book x2 v.good).bind fun v4 =>
      some (.inl ((IntKind.i64.wrap (t9 + (1 : Int))), (if v4 > c3_02 then v4 else c3_02)))
   else none
  else
   some (.inr c3_02)
noncomputable def akin (v : ClassifyLevel) : Option ((List ApiCodeEntry)) :=
 (loopO (akin_b1 v) ((0 : Int), (0 : Int))).bind fun e => match e with
  | c3_04 =>
   akin_j1 v c3_04
noncomputable def allBelow (v : ClassifyLevel) : Option ((List ApiCodeEntry)) :=
 if (v.parent == ([] : Str)) = true then
  some []
 else
  some v.entries
noncomputable def basis_j1  : Option (Int × (List ApiCodeEntry)) :=
 some ((0 : Int), [])
noncomputable def basis (b : ApiNomenclature) (day : Int) (g : ApiGood) (parent : Str) : Option (Int × (List ApiCodeEntry)) :=
 (nomBelow b day parent).bind fun v =>
  (byTerms (⟨b, g, parent, v⟩ : ClassifyLevel)).bind fun v2 =>
   if (decide ((0 : Int) < (v2.length : Int))) = true then
    some ((1 : Int), v2)
   else
    (asComplete (⟨b, g, parent, v⟩ : ClassifyLevel)).bind fun v3 =>
     if (decide ((0 : Int) < (v3.length : Int))) = true then
      some ((2 : Int), v3)
     else
      (byCharacter (⟨b, g, parent, v⟩ : ClassifyLevel)).bind fun v4 =>
       if (decide ((0 : Int) < (v4.length : Int))) = true then
        some ((3 : Int), v4)
       else
        (residual (⟨b, g, parent, v⟩ : ClassifyLevel)).bind fun v5 =>
         if (decide ((0 : Int) < (v5.length : Int))) = true then
          some ((8 : Int), v5)
         else
          (akin (⟨b, g, parent, v⟩ : ClassifyLevel)).bind fun v6 =>
           if (decide ((0 : Int) < (v6.length : Int))) = true then
            some ((7 : Int), v6)
           else
            (allBelow (⟨b, g, parent, v⟩ : ClassifyLevel)).bind fun v7 =>
             if (decide ((0 : Int) < (v7.length : Int))) = true then
              some ((7 : Int), v7)
             else
              basis_j1
noncomputable def specificIn (e1 : ApiCodeEntry) (a1 : ApiNomenclature) (a2 : (List Str)) (a3 : Int) : Option (Bool) :=
 (nomScore a1 e1 a2).bind fun v =>
  some (v == a3)
noncomputable def keepSpecific_j1 (test0 : ApiNomenclature) (test1 : (List Str)) (test2 : Int) (kept : (List ApiCodeEntry)) : Option ((List ApiCodeEntry)) :=
 some kept
noncomputable def keepSpecific_j2 (l : (List ApiCodeEntry)) (test0 : ApiNomenclature) (test1 : (List Str)) (test2 : Int) (t102 : Int) (kept6 : (List ApiCodeEntry)) : Option ((Int × (List ApiCodeEntry)) ⊕ ((List ApiCodeEntry))) :=
 some (.inl ((IntKind.i64.wrap (t102 + (1 : Int))), kept6))
noncomputable def keepSpecific_b1 (l : (List ApiCodeEntry)) (test0 : ApiNomenclature) (test1 : (List Str)) (test2 : Int) : (Int × (List ApiCodeEntry)) → Option ((Int × (List ApiCodeEntry)) ⊕ ((List ApiCodeEntry)))
 | (t102, kept3) =>
  if (decide (t102 < (l.length : Int))) = true then
   if (0 ≤ t102) then
    (l[t102.toNat]?).bind fun x3 =>
     (specificIn x3 test0 test1 test2).bind fun v3 =>
      if v3 = true then
       if (kept3.length + [x3].length ≤ 137438953472) then
        keepSpecific_j2 l test0 test1 test2 t102 (kept3 ++ [x3])
       else none
      else
       keepSpecific_j2 l test0 test1 test2 t102 kept3
   else none
  else
   some (.inr kept3)
noncomputable def keepSpecific (l : (List ApiCodeEntry)) (test0 : ApiNomenclature) (test1 : (List Str)) (test2 : Int) : Option ((List ApiCodeEntry)) :=
 (loopO (keepSpecific_b1 l test0 test1 test2) ((0 : Int), [])).bind fun e => match e with
  | kept5 =>
   keepSpecific_j1 test0 test1 test2 kept5
noncomputable def mostSpecific_j1 (b : ApiNomenclature) (l : (List ApiCodeEntry)) (words : (List Str)) (c7_0 : Int) : Option ((List ApiCodeEntry)) :=
 (keepSpecific l b words c7_0).bind fun v =>
  some v
noncomputable def mostSpecific_b1 (b : ApiNomenclature) (l : (List ApiCodeEntry)) (words : (List Str)) : (Int × Int) → Option ((Int × Int) ⊕ (Int))
 | (t12, c7_02) =>
  if (decide (t12 < (l.length : Int))) = true then
   if (0 ≤ t12) then
    (l[t12.toNat]?).bind fun x2 =>
     (nomScore b x2 words).bind fun v3 =>
      some (.inl ((IntKind.i64.wrap (t12 + (1 : Int))), (if v3 > c7_02 then v3 else c7_02)))
   else none
  else
   some (.inr c7_02)
noncomputable def mostSpecific (b : ApiNomenclature) (l : (List ApiCodeEntry)) (words : (List Str)) : Option ((List ApiCodeEntry)) :=
 (loopO (mostSpecific_b1 b l words) ((0 : Int), (0 : Int))).bind fun e => match e with
  | c7_04 =>
   mostSpecific_j1 b l words c7_04
noncomputable def cloneEntry_j1 (e1 : ApiCodeEntry) (c1_3 : (List (List Str))) : Option (ApiCodeEntry) :=
 some (⟨e1.Code, e1.From, e1.To, c1_3, e1.Other⟩ : ApiCodeEntry)
noncomputable def cloneEntry_b1 (e1 : ApiCodeEntry) : (Int × (List (List Str))) → Option ((Int × (List (List Str))) ⊕ ((List (List Str))))
 | (t112, c1_32) =>
  if (decide (t112 < (e1.Terms.length : Int))) = true then
   if (0 ≤ t112) then
    (e1.Terms[t112.toNat]?).bind fun x3 =>
     (cloneS x3).bind fun v3 =>
      if (c1_32.length + [v3].length ≤ 137438953472) then
       some (.inl ((IntKind.i64.wrap (t112 + (1 : Int))), (c1_32 ++ [v3])))
      else none
   else none
  else
   some (.inr c1_32)
noncomputable def cloneEntry (e1 : ApiCodeEntry) : Option (ApiCodeEntry) :=
 (loopO (cloneEntry_b1 e1) ((0 : Int), [])).bind fun e => match e with
  | c1_33 =>
   cloneEntry_j1 e1 c1_33
noncomputable def reduce_j2 (c3 : (List ApiCodeEntry)) : Option (Int × ApiCodeEntry) :=
 if (0 ≤ (IntKind.i64.wrap ((c3.length : Int) - (1 : Int)))) then
  (c3[(IntKind.i64.wrap ((c3.length : Int) - (1 : Int))).toNat]?).bind fun x2 =>
   (cloneEntry x2).bind fun v3 =>
    some ((6 : Int), v3)
 else none
noncomputable def reduce_b1 (b : ApiNomenclature) (v2 : (List ApiComponent)) : (Int × (List ApiCodeEntry)) → Option ((Int × (List ApiCodeEntry)) ⊕ ((Int × ApiCodeEntry) ⊕ ((List ApiCodeEntry))))
 | (t67, c4) =>
  if (decide (t67 < (v2.length : Int))) = true then
   if (0 ≤ t67) then
    (v2[t67.toNat]?).bind fun x5 =>
     (scored b c4 x5.Words).bind fun v6 =>
      if ((v6.length : Int) == (1 : Int)) = true then
       (v6[0]?).bind fun x6 =>
        (cloneEntry x6).bind fun v7 =>
         some (.inr (.inl ((5 : Int), v7)))
      else
       if (decide ((1 : Int) < (v6.length : Int))) = true then
        some (.inr (.inr v6))
       else
        some (.inl ((IntKind.i64.wrap (t67 + (1 : Int))), c4))
   else none
  else
   some (.inr (.inr c4))
noncomputable def reduce_j1 (b : ApiNomenclature) (g : ApiGood) (c2 : (List ApiCodeEntry)) : Option (Int × ApiCodeEntry) :=
 (goodsCharacters g).bind fun v2 =>
  (loopO (reduce_b1 b v2) ((0 : Int), c2)).bind fun e => match e with
   | (.inl rv) =>
    some rv
   | (.inr c6) =>
    reduce_j2 c6
noncomputable def reduce_j3 (b : ApiNomenclature) (g : ApiGood) (c : (List ApiCodeEntry)) (words : (List Str)) : Option (Int × ApiCodeEntry) :=
 (mostSpecific b c words).bind fun v8 =>
  if ((v8.length : Int) == (1 : Int)) = true then
   (v8[0]?).bind fun x7 =>
    (cloneEntry x7).bind fun v9 =>
     some ((4 : Int), v9)
  else
   reduce_j1 b g v8
noncomputable def reduce (b : ApiNomenclature) (g : ApiGood) (basis : Int) (c : (List ApiCodeEntry)) : Option (Int × ApiCodeEntry) :=
 if ((c.length : Int) == (0 : Int)) = true then
  some ((0 : Int), (⟨[], 0, 0, [], false⟩ : ApiCodeEntry))
 else
  if (bif (bif ((c.length : Int) == (1 : Int)) then true else (basis == (7 : Int))) then true else (basis == (8 : Int))) = true then
   if (0 ≤ (IntKind.i64.wrap ((c.length : Int) - (1 : Int)))) then
    (c[(IntKind.i64.wrap ((c.length : Int) - (1 : Int))).toNat]?).bind fun x =>
     (cloneEntry x).bind fun v =>
      some (basis, v)
   else none
  else
   if (bif (basis == (1 : Int)) then true else (basis == (2 : Int))) = true then
    if (bif g.Incomplete then (basis == (1 : Int)) else false) = true then
     (incompleteWords g).bind fun v10 =>
      reduce_j3 b g c v10
    else
     reduce_j3 b g c g.Words
   else
    reduce_j1 b g c
noncomputable def classify_j1 (code : Str) (steps : (List ApiClassStep)) : Option (Str × (List ApiClassStep) × Int) :=
 if ((steps.length : Int) == (0 : Int)) = true then
  some (([] : Str), [], (7 : Int))
 else
  some (code, steps, (0 : Int))
noncomputable def classify_j2 (b : ApiNomenclature) (day : Int) (g : ApiGood) (code3 : Str) (v7 : Int × (List ApiCodeEntry)) (v8 : Int × ApiCodeEntry) (steps8 : (List ApiClassStep)) (c17_27 : (List Str)) : Option ((Str × (List ApiClassStep)) ⊕ (Str × (List ApiClassStep))) :=
 if (steps8.length + [(⟨code3, v7.1, c17_27, v8.1, v8.2.Code⟩ : ApiClassStep)].length ≤ 137438953472) then
  some (.inl (v8.2.Code, (steps8 ++ [(⟨code3, v7.1, c17_27, v8.1, v8.2.Code⟩ : ApiClassStep)])))
 else none
noncomputable def classify_b2 (b : ApiNomenclature) (day : Int) (g : ApiGood) (code3 : Str) (v7 : Int × (List ApiCodeEntry)) (v8 : Int × ApiCodeEntry) : (Int × (List ApiClassStep) × (List Str)) → Option ((Int × (List ApiClassStep) × (List Str)) ⊕ ((List ApiClassStep) × (List Str)))
 | (t636, steps10, c17_28) =>
  if (decide (t636 < (v7.2.length : Int))) = true then
   if (0 ≤ t636) then
    (v7.2[t636.toNat]?).bind fun x9 =>
     if (c17_28.length + [x9.Code].length ≤ 137438953472) then
      some (.inl ((IntKind.i64.wrap (t636 + (1 : Int))), steps10, (c17_28 ++ [x9.Code])))
     else none
   else none
  else
   some (.inr (steps10, c17_28))
noncomputable def classify_b1 (b : ApiNomenclature) (day : Int) (g : ApiGood) : (Str × (List ApiClassStep)) → Option ((Str × (List ApiClassStep)) ⊕ (Str × (List ApiClassStep)))
 | (code3, steps2) =>
  (basis b day g code3).bind fun v7 =>
   if ((v7.2.length : Int) == (0 : Int)) = true then
    some (.inr (code3, steps2))
   else
    (reduce b g v7.1 v7.2).bind fun v8 =>
     (loopO (classify_b2 b day g code3 v7 v8) ((0 : Int), steps2, [])).bind fun e => match e with
      | (steps11, c17_29) =>
       classify_j2 b day g code3 v7 v8 steps11 c17_29
noncomputable def classify (b : ApiNomenclature) (day : Int) (g : ApiGood) : Option (Str × (List ApiClassStep) × Int) :=
 (nomValidate b).bind fun v =>
  if (v != (0 : Int)) = true then
   some (([] : Str), [], v)
  else
   (goodsValidate g).bind fun v2 =>
    if (v2 != (0 : Int)) = true then
     some (([] : Str), [], v2)
    else
     if (bif (decide (day < (0 : Int))) then true else (decide ((36524 : Int) < day))) = true then
      some (([] : Str), [], (2 : Int))
     else
      (loopO (classify_b1 b day g) (([] : Str), [])).bind fun e => match e with
       | (code4, steps7) =>
        classify_j1 code4 steps7
end Go.C
end

section
set_option linter.unusedVariables false
namespace Go.C
open Go.V
noncomputable def book10  : Option (ApiNomenclature) :=
 some (⟨[(⟨([57, 52] : Str), 0, (100 : Int), [], false⟩ : ApiCodeEntry), (⟨([57, 52, 48, 49] : Str), 0, (100 : Int), [[([99, 104, 97, 105, 114] : Str)], [([115, 101, 97, 116] : Str)]], false⟩ : ApiCodeEntry), (⟨([57, 52, 48, 51] : Str), 0, (100 : Int), [[([102, 117, 114, 110, 105, 116, 117, 114, 101] : Str)]], false⟩ : ApiCodeEntry)], []⟩ : ApiNomenclature)
noncomputable def awake10  : Option (Bool) :=
 (book10 ).bind fun v =>
  (classify v (5 : Int) (⟨[([99, 104, 97, 105, 114] : Str), ([102, 117, 114, 110, 105, 116, 117, 114, 101] : Str)], [], [], false⟩ : ApiGood)).bind fun v2 =>
   (book10 ).bind fun v3 =>
    (classify v3 (5 : Int) (⟨[([99, 104, 97, 105, 114] : Str), ([108, 97, 109, 112] : Str)], [], [], false⟩ : ApiGood)).bind fun v4 =>
     (book10 ).bind fun v5 =>
      (classify v5 (5 : Int) (⟨[([108, 97, 109, 112] : Str)], [], [], false⟩ : ApiGood)).bind fun v6 =>
       if ((bif (v2.1 == ([57, 52, 48, 51] : Str)) then ((v2.2.1.length : Int) == (1 : Int)) else false) = true → (0 ≤ (0 : Int) ∧ (0 : Int) < (v2.2.1.length : Int))) then
        some (bif (bif (bif (bif (bif (bif (v2.1 == ([57, 52, 48, 51] : Str)) then ((v2.2.1.length : Int) == (1 : Int)) else false) then (((v2.2.1.getD 0 default).Rule) == (6 : Int)) else false) then (v2.2.2 == (0 : Int)) else false) then (v4.1 == ([57, 52, 48, 49] : Str)) else false) then (v4.2.2 == (0 : Int)) else false) then (v6.2.2 == (7 : Int)) else false)
       else none
noncomputable def day10 (n1 : Int) : Option (Int) :=
 (within n1 (16 : Int)).bind fun v =>
  some v
noncomputable def lawErrors_j3 (c6_0 : (List ApiCodeEntry)) (c6_1 : (List ApiCodeNote)) (c7_0 : (List Str)) (c7_1 : (List ApiMaterial)) (c7_2 : (List ApiComponent)) (c7_3 : Bool) (d2 : Int) : Option (Bool) :=
 (classify (⟨c6_0, c6_1⟩ : ApiNomenclature) d2 (⟨c7_0, c7_1, c7_2, c7_3⟩ : ApiGood)).bind fun v2 =>
  (rClassify (⟨c6_0, c6_1⟩ : ApiNomenclature) d2 (⟨c7_0, c7_1, c7_2, c7_3⟩ : ApiGood)).bind fun v3 =>
   (if (bif (v2.1 == v3.1) then (v2.2.2 == v3.2.2) else false) = true then sameSteps v2.2.1 v3.2.1 else some default).bind fun v4 =>
    (if (bif (bif (v2.1 == v3.1) then (v2.2.2 == v3.2.2) else false) then v4 else false) = true then awake10  else some default).bind fun v5 =>
     some (bif (bif (bif (v2.1 == v3.1) then (v2.2.2 == v3.2.2) else false) then v4 else false) then v5 else false)
noncomputable def lawErrors_j2 (d : Int) (which : Int) (c6_0 : (List ApiCodeEntry)) (c6_1 : (List ApiCodeNote)) (c7_0 : (List Str)) (c7_1 : (List ApiMaterial)) (c7_2 : (List ApiComponent)) (c7_3 : Bool) : Option (Bool) :=
 if ((IntKind.i64.wrap ((BitVec.ofInt (IntKind.i64).bits which &&& BitVec.ofInt (IntKind.i64).bits (4 : Int)).toNat : Int)) == (4 : Int)) = true then
  (day10 d).bind fun v6 =>
   lawErrors_j3 c6_0 c6_1 c7_0 c7_1 c7_2 c7_3 v6
 else
  lawErrors_j3 c6_0 c6_1 c7_0 c7_1 c7_2 c7_3 d
noncomputable def lawErrors_j1 (g : ApiGood) (m1 : (List Int)) (d : Int) (which : Int) (c6_0 : (List ApiCodeEntry)) (c6_1 : (List ApiCodeNote)) : Option (Bool) :=
 if ((IntKind.i64.wrap ((BitVec.ofInt (IntKind.i64).bits which &&& BitVec.ofInt (IntKind.i64).bits (2 : Int)).toNat : Int)) == (2 : Int)) = true then
  (madeGood m1).bind fun v7 =>
   lawErrors_j2 d which c6_0 c6_1 v7.Words v7.Materials v7.Parts v7.Incomplete
 else
  lawErrors_j2 d which c6_0 c6_1 g.Words g.Materials g.Parts g.Incomplete
noncomputable def lawErrors (b : ApiNomenclature) (g : ApiGood) (l : (List Int)) (m1 : (List Int)) (d : Int) (which : Int) : Option (Bool) :=
 if (bif (bif (bif (bif (decide ((310 : Int) < (b.Entries.length : Int))) then true else (decide ((110 : Int) < (b.Notes.length : Int)))) then true else (decide ((20 : Int) < (g.Words.length : Int)))) then true else (decide ((20 : Int) < (g.Materials.length : Int)))) then true else (decide ((20 : Int) < (g.Parts.length : Int)))) = true then
  (awake10 ).bind fun v =>
   some v
 else
  if ((IntKind.i64.wrap ((BitVec.ofInt (IntKind.i64).bits which &&& BitVec.ofInt (IntKind.i64).bits (1 : Int)).toNat : Int)) == (1 : Int)) = true then
   (madeNom l).bind fun v8 =>
    lawErrors_j1 g m1 d which v8.Entries v8.Notes
  else
   lawErrors_j1 g m1 d which b.Entries b.Notes
end Go.C
end

section
set_option linter.unusedVariables false
set_option linter.unusedSimpArgs false
set_option maxHeartbeats 4000000
set_option maxRecDepth 20000
namespace Go.Proofs.YtfkefolbabniaaaGreatDoor
open Go.V Go.C
theorem within_con {wg : World} (hw : WG wg) {x : Int} {n1 : Int} {r : Int} (h : within x n1 = some r) : Con Tryz.prog wg gl 14 [.v (.int .i64 x), .v (.int .i64 n1)] [] (.v (.int .i64 r)) [] := by
 unfold within at h
 refine con_of_WC (S := slotsOf 0 _) Tryz.func14 rfl Tryz.ntmps14 rfl (fun t x hx => (slotsOf_get hx).2) ?_
 intro F L w ρ0 R hR
 try dsimp only [slotsOf]
 refine sr (lr1 rfl (ns ?_))
 obtain ⟨g1, h⟩ := grd h
 obtain ⟨g2, h⟩ := grd h
 refine lr 8 rfl (by repeat' (first | exact trivial | assumption | intro _ | exact g1 (by assumption) | exact g2 (by assumption) | apply And.intro | exact sideT | (refine and_i ?_ ?_))) ?_
 refine nr ?_
 cases h
 exact rt tbOk hR
theorem srcNext_con {wg : World} (hw : WG wg) {s : CustomsmadeSource} {n1 : Int} {r : Int × CustomsmadeSource} (h : srcNext s n1 = some r) : Con Tryz.prog wg gl 46 [.p 0 0, .v (.int .i64 n1)] [(0, .blk 81 [.v (.sl 1 (s.L.map eInt_i64)), .v (.int .i64 s.I)])] (.v (.int .i64 r.1)) [(0, .blk 81 [.v (.sl 1 (r.2.L.map eInt_i64)), .v (.int .i64 r.2.I)])] := by
 unfold srcNext at h
 refine con_of_WC (S := slotsOf 0 _) Tryz.func46 rfl Tryz.ntmps46 rfl (fun t x hx => (slotsOf_get hx).2) ?_
 intro F L w ρ0 R hR
 try dsimp only [slotsOf]
 refine sr (lr1 rfl (nn (WC.seq (WC.seq (WC.order mixed ?_)))))
 refine wr 8 rfl trivial ?_
 refine WR.q [] rfl rfl rfl (q_ev tbOk (.v (.int .i64 (s.L.length : Int))) rfl (by exact trivial) (by exact lenT)) ?_
 refine wr 1 rfl trivial ?_
 refine WR.nil (by kernel_rfl) (WQ.thenNormal ?_)
 refine WC.cond rfl (fun hc1 => ?_) (fun hc1 => ?_)
 ·replace h := ite_t hc1 h
  refine sr (lr1 rfl (nr (WQ.thenRet ?_)))
  cases h
  exact rt tbOk hR
 ·replace h := ite_f hc1 h
  refine kn (sr (lr 8 rfl trivial (nn (WC.seq (WC.order mixed ?_)))))
  refine wr 9 rfl trivial ?_
  obtain ⟨g1, h⟩ := grd h
  replace h := bnd h; obtain ⟨x, hxx, h⟩ := h
  refine WR.q [] rfl rfl rfl (q_idx tbOk rfl (by exact trivial) g1 (map_get (f := eInt_i64) hxx)) ?_
  refine wr 2 rfl trivial ?_
  replace h := bnd h; obtain ⟨v, hvv, h⟩ := h
  refine WR.call0 fn14 rfl rfl rfl rfl (by exact trivial) rfl (within_con hw hvv) ?_
  refine wr 1 rfl trivial ?_
  refine WR.nil (by kernel_rfl) (WQ.thenNormal (WC.ret ?_))
  cases h
  exact rt tbOk hR
theorem madeCut_con {wg : World} (hw : WG wg) {l : (List Int)} {n1 : Int} {r : (List Int)} (h : madeCut l n1 = some r) : Con Tryz.prog wg gl 45 [.v (.sl 1 (l.map eInt_i64)), .v (.int .i64 n1)] [] (.v (.sl 1 (r.map eInt_i64))) [] := by
 unfold madeCut at h
 refine con_of_WC (S := slotsOf 0 _) Tryz.func45 rfl Tryz.ntmps45 rfl (fun t x hx => (slotsOf_get hx).2) ?_
 intro F L w ρ0 R hR
 try dsimp only [slotsOf]
 refine sr (lr1 rfl (nn (WC.seq (sr (lr1 rfl ?_)))))
 refine WL.q [] rfl rfl rfl (q_ev tbOk (.v (.int .i64 (l.length : Int))) rfl (by exact trivial) (by exact lenT)) ?_
 refine lr2 rfl (nn ?_)
 refine WC.cond rfl (fun hc1 => ?_) (fun hc1 => ?_)
 ·replace h := ite_t hc1 h
  refine sr (lr2 rfl ?_)
  obtain ⟨g1, h⟩ := grd h
  refine WL.q [] rfl rfl rfl (q_ev tbOk (.v (.sl 1 (((l.take n1.toNat).drop (0 : Int).toNat).map eInt_i64))) rfl (by exact sideR) (by exact tdT)) ?_
  refine lr1 rfl (nr (WQ.thenRet ?_))
  cases h
  exact rt tbOk hR
 ·replace h := ite_f hc1 h
  refine kn (sr (lr2 rfl (nr ?_)))
  cases h
  exact rt tbOk hR
theorem vocabulary_con {wg : World} (hw : WG wg)  {r : (List Str)} (h : vocabulary  = some r) : Con Tryz.prog wg gl 98 [] [] (.v (.sl 1 (r.map eStr))) [] := by
 unfold vocabulary at h
 refine con_of_WC (S := slotsOf 0 _) Tryz.func98 rfl Tryz.ntmps98 rfl (fun t x hx => (slotsOf_get hx).2) ?_
 intro F L w ρ0 R hR
 try dsimp only [slotsOf]
 refine sr (lr1 rfl (ns (lr2 rfl (nr ?_))))
 cases h
 exact rt tbOk hR
theorem srcWords_con {wg : World} (hw : WG wg) {s : CustomsmadeSource} {most : Int} {r : (List Str) × CustomsmadeSource} (h : srcWords s most = some r) : Con Tryz.prog wg gl 47 [.p 0 0, .v (.int .i64 most)] [(0, .blk 81 [.v (.sl 1 (s.L.map eInt_i64)), .v (.int .i64 s.I)])] (.v (.sl 1 (r.1.map eStr))) [(0, .blk 81 [.v (.sl 1 (r.2.L.map eInt_i64)), .v (.int .i64 r.2.I)])] := by
 unfold srcWords at h
 refine con_of_WC (S := slotsOf 0 _) Tryz.func47 rfl Tryz.ntmps47 rfl (fun t x hx => (slotsOf_get hx).2) ?_
 intro F L w ρ0 R hR
 try dsimp only [slotsOf]
 refine sr (lr1 rfl (ns ?_))
 replace h := bnd h; obtain ⟨v, hvv, h⟩ := h
 refine WL.call0 fn98 rfl rfl rfl rfl (by exact trivial) rfl (vocabulary_con hw hvv) ?_
 refine lr1 rfl (ns (lr1 rfl (ns (lr1 rfl ?_))))
 replace h := bnd h; obtain ⟨v2, hvv2, h⟩ := h
 refine WL.callO [(0, 0)] [(0, 0)] [0] fn46 rfl rfl rfl rfl (by exact trivial) (srcNext_con hw hvv2) rfl rfl (by exact eqs) rfl rfl rfl rfl rfl rfl ?_
 refine lr1 rfl (nn (WC.seq (sr (lr1 rfl (nn ?_)))))
 refine WC.thenCut (X := (List Str)) (fun gG => ⟨[(7, .v (.int .i64 v2.1)), (6, .r 1006), (5, .v (.sl 1 (v.map eStr))), (0, .p 0 0)], [(1006, .row 9 1 (gG.map eStr)), (0, .blk 81 [.v (.sl 1 (v2.2.L.map eInt_i64)), .v (.int .i64 v2.2.I)])]⟩) (fun gG => srcWords_j1 v v2 gG = some r) ?_ ?_
 ·refine WC.block ?_
  obtain ⟨eQ1, hl1, hk1⟩ := bnd h
  clear h
  refine WC.rowNil 6 1006 9 1 rfl rfl ?_
  refine WC.loop (σ := Int × (List Str)) (τ := ((List Str))) (fun sS => ⟨[(8, .v (.int .i64 sS.1)), (7, .v (.int .i64 v2.1)), (6, .r 1006), (5, .v (.sl 1 (v.map eStr))), (0, .p 0 0), (1, .v (.int .i64 most))], [(1006, .row 9 1 (sS.2.map eStr)), (0, .blk 81 [.v (.sl 1 (v2.2.L.map eInt_i64)), .v (.int .i64 v2.2.I)])]⟩) (srcWords_b1 most v v2) [] ((0 : Int), []) hl1 sub ?_
  rintro ⟨i2, out4⟩ m hn1 he1 hx1
  obtain ⟨o1, hf1⟩ := some_of hx1
  have h := hf1
  unfold srcWords_b1 at h
  try dsimp only [slotsOf]
  refine WC.seq (sr (lr2 rfl ?_))
  refine WL.q [] rfl rfl rfl (q_ev tbOk (.v (.int .i64 (v.length : Int))) rfl (by exact trivial) (by exact lenT)) ?_
  refine lr 3 rfl (by exact sideR) ?_
  refine WL.gq [1006] rfl rfl rfl rfl (fun hg => q_ev tbOk (.v (.int .i64 (out4.length : Int))) rfl (by exact sideR) (by exact lenT)) ?_
  refine lr 3 rfl (by exact sideR) ?_
  refine nn ?_
  refine WC.cond rfl (fun hc2 => ?_) (fun hc2 => ?_)
  ·replace h := ite_t hc2 h
   refine kn (WC.seq ?_)
   refine WC.thenCut (X := (List Str)) (fun gG => ⟨[(6, .r 1006), (8, .v (.int .i64 i2)), (7, .v (.int .i64 v2.1)), (5, .v (.sl 1 (v.map eStr))), (0, .p 0 0), (1, .v (.int .i64 most))], [(1006, .row 9 1 (gG.map eStr)), (0, .blk 81 [.v (.sl 1 (v2.2.L.map eInt_i64)), .v (.int .i64 v2.2.I)])]⟩) (fun gG => srcWords_j3 most v v2 i2 gG = some o1) ?_ ?_
   ·refine WC.block (sr ?_)
    obtain ⟨g3, h⟩ := grd h
    refine lr 5 rfl (by repeat' (first | exact trivial | assumption | intro _ | exact g3 (by assumption) | apply And.intro | exact sideT | (refine and_i ?_ ?_))) ?_
    refine nn ?_
    refine WC.cond rfl (fun hc3 => ?_) (fun hc3 => ?_)
    ·replace h := ite_t hc3 h
     refine WC.region (lr3 rfl ?_)
     obtain ⟨g4, h⟩ := grd h
     replace h := bnd h; obtain ⟨x4, hxx4, h⟩ := h
     refine WL.q [] rfl rfl rfl (q_idx tbOk rfl (by exact trivial) g4 (map_get (f := eStr) hxx4)) ?_
     refine lr2 rfl ?_
     obtain ⟨g5, h⟩ := grd h
     refine WL.append tbOk ((out4 ++ [x4]).map eStr) [35, 1006] ap31 rfl rfl rfl rfl (fun _ e => by cases e; rfl) (by exact trivial) (map_cells (f := eStr) (xs := [x4]) fun _ => rfl) (by have := g5; simp only [List.length_map, List.length_nil, List.length_cons] at this ⊢; omega) rfl rfl (by simp only [List.map_append]; try rfl) rfl ?_
     refine lr1 rfl (WL.nil (WQ.blockNormal ?_))
     exact WQ.cut [(1006, 35)] (out4 ++ [x4]) sub h
    ·replace h := ite_f hc3 h
     refine WC.skip (WQ.blockNormal ?_)
     exact WQ.cut [] out4 sub h
   ·intro out7 h
    replace h : srcWords_j3 most v v2 i2 out7 = some _ := h
    unfold srcWords_j3 at h
    try dsimp only [slotsOf]
    refine WC.region (lr3 rfl (WL.nil ?_))
    cases h
    exact WQ.next [] ((IntKind.i64.wrap (i2 + (1 : Int))), out7) sub (hn1 _ hf1)
  ·replace h := ite_f hc2 h
   refine WC.exit (WQ.thenExit ?_)
   cases h
   have he := he1 _ hf1
   subst he
   replace h := hk1
   try dsimp only at h
   refine eb ?_
   exact WQ.cut [] out4 sub h
 ·intro out h
  replace h : srcWords_j1 v v2 out = some _ := h
  unfold srcWords_j1 at h
  try dsimp only [slotsOf]
  refine WC.seq (sr (lr1 rfl ?_))
  refine WL.q [1006] rfl rfl rfl (q_ev tbOk (.v (.int .i64 (out.length : Int))) rfl (by exact trivial) (by exact lenT)) ?_
  refine lr1 rfl (nn ?_)
  refine WC.thenCut (X := (List Str)) (fun gG => ⟨[(6, .v (.sl 1 (gG.map eStr))), (0, .p 0 0)], [(0, .blk 81 [.v (.sl 1 (v2.2.L.map eInt_i64)), .v (.int .i64 v2.2.I)])]⟩) (fun gG => srcWords_j2 v2 gG = some r) ?_ ?_
  ·refine WC.cond rfl (fun hc1 => ?_) (fun hc1 => ?_)
   ·replace h := ite_t hc1 h
    refine WC.region (lr3 rfl ?_)
    refine WL.q [] rfl rfl rfl (q_ev tbOk (.v (.int .i64 (v.length : Int))) rfl (by exact trivial) (by exact lenT)) ?_
    obtain ⟨g1, h⟩ := grd h
    refine lr 1 rfl (by repeat' (first | exact trivial | assumption | intro _ | exact g1 (by assumption) | apply And.intro | exact sideT | (refine and_i ?_ ?_))) ?_
    obtain ⟨g2, h⟩ := grd h
    replace h := bnd h; obtain ⟨x, hxx, h⟩ := h
    refine WL.q [] rfl rfl rfl (q_idx tbOk rfl (by exact trivial) g2 (map_get (f := eStr) hxx)) ?_
    refine lr3 rfl (WL.nil ?_)
    exact WQ.cut [] [x] sub h
   ·replace h := ite_f hc1 h
    refine WC.skip ?_
    refine WQ.publish 1006 rfl rfl ?_
    exact WQ.cut [] out sub h
  ·intro out2 h
   replace h : srcWords_j2 v2 out2 = some _ := h
   unfold srcWords_j2 at h
   try dsimp only [slotsOf]
   refine sr (lr2 rfl (nr ?_))
   cases h
   exact rt tbOk hR
theorem srcShares_con {wg : World} (hw : WG wg) {s : CustomsmadeSource} {n1 : Int} {r : (List Int) × CustomsmadeSource} (h : srcShares s n1 = some r) : Con Tryz.prog wg gl 56 [.p 0 0, .v (.int .i64 n1)] [(0, .blk 81 [.v (.sl 1 (s.L.map eInt_i64)), .v (.int .i64 s.I)])] (.v (.sl 1 (r.1.map eInt_i64))) [(0, .blk 81 [.v (.sl 1 (r.2.L.map eInt_i64)), .v (.int .i64 r.2.I)])] := by
 unfold srcShares at h
 refine con_of_WC (S := slotsOf 0 _) Tryz.func56 rfl Tryz.ntmps56 rfl (fun t x hx => (slotsOf_get hx).2) ?_
 intro F L w ρ0 R hR
 try dsimp only [slotsOf]
 refine sr (lr1 rfl (ns (lr1 rfl (ns (lr1 rfl (nn (WC.seq (sr (lr1 rfl (nn ?_))))))))))
 refine WC.thenCut (X := Int × (List Int) × (List Int) × Int) (fun gG => ⟨[(6, .v (.int .i64 gG.1)), (5, .r 1005), (0, .p 0 0)], [(1005, .row 3 1 (gG.2.1.map eInt_i64)), (0, .blk 81 [.v (.sl 1 (gG.2.2.1.map eInt_i64)), .v (.int .i64 gG.2.2.2)])]⟩) (fun gG => srcShares_j1 gG.1 gG.2.1 gG.2.2.1 gG.2.2.2 = some r) ?_ ?_
 ·refine WC.block ?_
  obtain ⟨eQ1, hl1, hk1⟩ := bnd h
  clear h
  refine WC.rowNil 5 1005 3 1 rfl rfl ?_
  refine WC.loop (σ := Int × Int × (List Int) × (List Int) × Int) (τ := (Int × (List Int) × (List Int) × Int)) (fun sS => ⟨[(7, .v (.int .i64 sS.1)), (6, .v (.int .i64 sS.2.1)), (5, .r 1005), (0, .p 0 0), (1, .v (.int .i64 n1))], [(1005, .row 3 1 (sS.2.2.1.map eInt_i64)), (0, .blk 81 [.v (.sl 1 (sS.2.2.2.1.map eInt_i64)), .v (.int .i64 sS.2.2.2.2)])]⟩) (srcShares_b1 n1) [] ((1 : Int), (1000000 : Int), [], s.L, s.I) hl1 sub ?_
  rintro ⟨i2, left3, out2, c0_04, c0_14⟩ m hn1 he1 hx1
  obtain ⟨o1, hf1⟩ := some_of hx1
  have h := hf1
  unfold srcShares_b1 at h
  try dsimp only [slotsOf]
  refine WC.seq (sr (lr3 rfl (nn ?_)))
  refine WC.cond rfl (fun hc1 => ?_) (fun hc1 => ?_)
  ·replace h := ite_t hc1 h
   refine kn (sb (sr (lr1 rfl ?_)))
   replace h := bnd h; obtain ⟨v7, hvv7, h⟩ := h
   refine WL.callO [(0, 0)] [(0, 0)] [0] fn46 rfl rfl rfl rfl (by exact trivial) (srcNext_con hw hvv7) rfl rfl (by exact eqs) rfl rfl rfl rfl rfl rfl ?_
   refine lr3 rfl (nn (WC.seq (sr (lr1 rfl ?_))))
   replace h := bnd h; obtain ⟨v8, hvv8, h⟩ := h
   refine WL.callO [(0, 0)] [(0, 0)] [0] fn46 rfl rfl rfl rfl (by exact trivial) (srcNext_con hw hvv8) rfl rfl (by exact eqs) rfl rfl rfl rfl rfl rfl ?_
   refine lr1 rfl (nn ?_)
   refine WC.thenCut (X := Int × (List Int) × (List Int) × Int) (fun gG => ⟨[(8, .v (.int .i64 gG.1)), (7, .v (.int .i64 i2)), (6, .v (.int .i64 left3)), (5, .r 1005), (0, .p 0 0), (1, .v (.int .i64 n1))], [(1005, .row 3 1 (gG.2.1.map eInt_i64)), (0, .blk 81 [.v (.sl 1 (gG.2.2.1.map eInt_i64)), .v (.int .i64 gG.2.2.2)])]⟩) (fun gG => srcShares_j2 n1 i2 left3 gG.1 gG.2.1 gG.2.2.1 gG.2.2.2 = some o1) ?_ ?_
   ·refine WC.cond rfl (fun hc2 => ?_) (fun hc2 => ?_)
    ·replace h := ite_t hc2 h
     refine WC.region ?_
     obtain ⟨g3, h⟩ := grd h
     refine lr 3 rfl (by repeat' (first | exact trivial | assumption | intro _ | exact g3 (by assumption) | apply And.intro | exact sideT | (refine and_i ?_ ?_))) ?_
     replace h := bnd h; obtain ⟨v9, hvv9, h⟩ := h
     refine WL.callO [(0, 0)] [(0, 0)] [0] fn46 rfl rfl rfl rfl (by exact trivial) (srcNext_con hw hvv9) rfl rfl (by exact eqs) rfl rfl rfl rfl rfl rfl ?_
     refine lr2 rfl (WL.nil ?_)
     exact WQ.cut [] ((IntKind.i64.wrap ((1 : Int) + v9.1)), out2, v9.2.L, v9.2.I) sub h
    ·replace h := ite_f hc2 h
     refine WC.skip ?_
     exact WQ.cut [] ((IntKind.i64.wrap ((1 : Int) + (IntKind.i64.wrap (v7.1 * (100000 : Int))))), out2, v8.2.L, v8.2.I) sub h
   ·rintro ⟨x3, out5, c0_07, c0_17⟩ h
    replace h : srcShares_j2 n1 i2 left3 x3 out5 c0_07 c0_17 = some _ := h
    unfold srcShares_j2 at h
    try dsimp only [slotsOf]
    refine sr (lr 8 rfl trivial (ns (lr3 rfl ?_)))
    obtain ⟨g2, h⟩ := grd h
    refine WL.append tbOk ((out5 ++ [(if (IntKind.i64.wrap (left3 - (IntKind.i64.wrap (n1 - i2)))) < x3 then (IntKind.i64.wrap (left3 - (IntKind.i64.wrap (n1 - i2)))) else x3)]).map eInt_i64) [36, 1005] ap22 rfl rfl rfl rfl (fun _ e => by cases e; rfl) (by exact trivial) (map_cells (f := eInt_i64) (xs := [(if (IntKind.i64.wrap (left3 - (IntKind.i64.wrap (n1 - i2)))) < x3 then (IntKind.i64.wrap (left3 - (IntKind.i64.wrap (n1 - i2)))) else x3)]) fun _ => rfl) (by have := g2; simp only [List.length_map, List.length_nil, List.length_cons] at this ⊢; omega) rfl rfl (by simp only [List.map_append]; try rfl) rfl ?_
    refine lr1 rfl (nn (WC.region (lr4 rfl (WL.nil (bn (WC.region (lr3 rfl (WL.nil ?_))))))))
    cases h
    exact WQ.next [(1005, 36)] ((IntKind.i64.wrap (i2 + (1 : Int))), (IntKind.i64.wrap (left3 - (if (IntKind.i64.wrap (left3 - (IntKind.i64.wrap (n1 - i2)))) < x3 then (IntKind.i64.wrap (left3 - (IntKind.i64.wrap (n1 - i2)))) else x3))), (out5 ++ [(if (IntKind.i64.wrap (left3 - (IntKind.i64.wrap (n1 - i2)))) < x3 then (IntKind.i64.wrap (left3 - (IntKind.i64.wrap (n1 - i2)))) else x3)]), c0_07, c0_17) sub (hn1 _ hf1)
  ·replace h := ite_f hc1 h
   refine WC.exit (WQ.thenExit ?_)
   cases h
   have he := he1 _ hf1
   subst he
   replace h := hk1
   try dsimp only at h
   refine eb ?_
   exact WQ.cut [] (left3, out2, c0_04, c0_14) sub h
 ·rintro ⟨left, out, c0_0, c0_1⟩ h
  replace h : srcShares_j1 left out c0_0 c0_1 = some _ := h
  unfold srcShares_j1 at h
  try dsimp only [slotsOf]
  refine sr (lr3 rfl ?_)
  obtain ⟨g1, h⟩ := grd h
  refine WL.append tbOk ((out ++ [left]).map eInt_i64) [43, 1005] ap22 rfl rfl rfl rfl (fun _ e => by cases e; rfl) (by exact trivial) (map_cells (f := eInt_i64) (xs := [left]) fun _ => rfl) (by have := g1; simp only [List.length_map, List.length_nil, List.length_cons] at this ⊢; omega) rfl rfl (by simp only [List.map_append]; try rfl) rfl ?_
  refine lr1 rfl (nr ?_)
  refine WQ.publish 43 rfl rfl ?_
  cases h
  exact rt tbOk hR
theorem madeGood_con {wg : World} (hw : WG wg) {l : (List Int)} {r : ApiGood} (h : madeGood l = some r) : Con Tryz.prog wg gl 21 [.v (.sl 1 (l.map eInt_i64))] [] (.v (.agg [.sl 1 (r.Words.map eStr), .sl 2 (r.Materials.map eApiMaterial), .sl 2 (r.Parts.map eApiComponent), .bool r.Incomplete])) [] := by
 unfold madeGood at h
 refine con_of_WC (S := slotsOf 0 _) Tryz.func21 rfl Tryz.ntmps21 rfl (fun t x hx => (slotsOf_get hx).2) ?_
 intro F L w ρ0 R hR
 try dsimp only [slotsOf]
 refine sr (lr1 rfl (ns (lr1 rfl ?_)))
 replace h := bnd h; obtain ⟨v, hvv, h⟩ := h
 refine WL.call0 fn45 rfl rfl rfl rfl (by exact trivial) rfl (madeCut_con hw hvv) ?_
 refine lr3 rfl (ns (lr1 rfl ?_))
 replace h := bnd h; obtain ⟨v2, hvv2, h⟩ := h
 refine WL.callO [(0, 14)] [(0, 14)] [14] fn47 rfl rfl rfl rfl (by exact trivial) (srcWords_con hw hvv2) rfl rfl (by exact eqs) rfl rfl rfl rfl rfl rfl ?_
 refine lr1 rfl ?_
 replace h := bnd h; obtain ⟨v3, hvv3, h⟩ := h
 refine WL.callO [(0, 14)] [(0, 14)] [14] fn46 rfl rfl rfl rfl (by exact trivial) (srcNext_con hw hvv3) rfl rfl (by exact eqs) rfl rfl rfl rfl rfl rfl ?_
 refine lr4 rfl (nn (WC.seq (sr (lr1 rfl ?_))))
 replace h := bnd h; obtain ⟨v4, hvv4, h⟩ := h
 refine WL.callO [(0, 14)] [(0, 14)] [14] fn46 rfl rfl rfl rfl (by exact trivial) (srcNext_con hw hvv4) rfl rfl (by exact eqs) rfl rfl rfl rfl rfl rfl ?_
 refine lr1 rfl (ns (lr2 rfl (nn ?_)))
 refine WC.thenCut (X := (List ApiMaterial) × (List Int) × Int) (fun gG => ⟨[(4, .p 4 0), (3, .p 14 0), (2, .p 2 0)], [(2, .blk 43 [.v (.raw (.slice none 0 0)), .v (.raw (.slice none 0 0)), .v (.raw (.slice none 0 0)), .v (.bool false)]), (2201, .row 94 2 (gG.1.map eApiMaterial)), (4, .blk 43 [.v (.sl 1 (v2.1.map eStr)), .r 2201, .v (.raw (.slice none 0 0)), .v (.bool (v3.1 == (1 : Int)))]), (14, .blk 81 [.v (.sl 1 (gG.2.1.map eInt_i64)), .v (.int .i64 gG.2.2)])]⟩) (fun gG => madeGood_j1 v2 v3 gG.1 gG.2.1 gG.2.2 = some r) ?_ ?_
 ·refine WC.cond rfl (fun hc3 => ?_) (fun hc3 => ?_)
  ·replace h := ite_t hc3 h
   refine sr (lr2 rfl ?_)
   replace h := bnd h; obtain ⟨v11, hvv11, h⟩ := h
   refine WL.callO [(0, 14)] [(0, 14)] [14] fn46 rfl rfl rfl rfl (by exact trivial) (srcNext_con hw hvv11) rfl rfl (by exact eqs) rfl rfl rfl rfl rfl rfl ?_
   obtain ⟨g3, h⟩ := grd h
   refine WL.q [] rfl rfl rfl (q_ev tbOk (.v (.sl 1 (([([103, 108, 97, 115, 115] : Str), ([108, 97, 109, 112] : Str), ([115, 116, 101, 101, 108] : Str), ([119, 111, 111, 100] : Str)].drop v11.1.toNat).map eStr))) rfl (by exact sideR) (by exact tdT)) ?_
   refine lr1 rfl (ns (lr3 rfl ?_))
   refine WL.q [] rfl rfl rfl (q_ev tbOk (.v (.int .i64 (([([103, 108, 97, 115, 115] : Str), ([108, 97, 109, 112] : Str), ([115, 116, 101, 101, 108] : Str), ([119, 111, 111, 100] : Str)].drop v11.1.toNat).length : Int))) rfl (by exact trivial) (by exact lenT)) ?_
   refine lr1 rfl ?_
   replace h := bnd h; obtain ⟨v12, hvv12, h⟩ := h
   refine WL.callO [(0, 14)] [(0, 14)] [14] fn56 rfl rfl rfl rfl (by exact trivial) (srcShares_con hw hvv12) rfl rfl (by exact eqs) rfl rfl rfl rfl rfl rfl ?_
   refine lr1 rfl (ns (lr1 rfl (nn (WC.block ?_))))
   obtain ⟨eQ2, hl2, hk2⟩ := bnd h
   clear h
   refine WC.rowNilB 4 1 2201 94 2 rfl rfl rfl (cs2 := [.v (.sl 1 (v2.1.map eStr)), .r 2201, .v (.raw (.slice none 0 0)), .v (.bool (v3.1 == (1 : Int)))]) rfl ?_
   refine WC.loop (σ := Int × (List ApiMaterial)) (τ := ((List ApiMaterial))) (fun sS => ⟨[(8, .v (.int .i64 sS.1)), (7, .v (.sl 1 (v12.1.map eInt_i64))), (6, .v (.sl 1 (([([103, 108, 97, 115, 115] : Str), ([108, 97, 109, 112] : Str), ([115, 116, 101, 101, 108] : Str), ([119, 111, 111, 100] : Str)].drop v11.1.toNat).map eStr))), (4, .p 4 0), (3, .p 14 0), (2, .p 2 0)], [(2, .blk 43 [.v (.raw (.slice none 0 0)), .v (.raw (.slice none 0 0)), .v (.raw (.slice none 0 0)), .v (.bool false)]), (2201, .row 94 2 (sS.2.map eApiMaterial)), (4, .blk 43 [.v (.sl 1 (v2.1.map eStr)), .r 2201, .v (.raw (.slice none 0 0)), .v (.bool (v3.1 == (1 : Int)))]), (14, .blk 81 [.v (.sl 1 (v12.2.L.map eInt_i64)), .v (.int .i64 v12.2.I)])]⟩) (madeGood_b2 v2 v3 v11 v12) [] ((0 : Int), []) hl2 sub ?_
   rintro ⟨i4, c4_16⟩ m hn2 he2 hx2
   obtain ⟨o2, hf2⟩ := some_of hx2
   have h := hf2
   unfold madeGood_b2 at h
   try dsimp only [slotsOf]
   refine WC.seq (sr (lr2 rfl ?_))
   refine WL.q [] rfl rfl rfl (q_ev tbOk (.v (.int .i64 (v12.1.length : Int))) rfl (by exact trivial) (by exact lenT)) ?_
   refine lr1 rfl (nn ?_)
   refine WC.cond rfl (fun hc4 => ?_) (fun hc4 => ?_)
   ·replace h := ite_t hc4 h
    refine kn (sb (WC.order mixed ?_))
    refine wr 4 rfl trivial ?_
    obtain ⟨g4, h⟩ := grd h
    replace h := bnd h; obtain ⟨x8, hxx8, h⟩ := h
    refine WR.q [] rfl rfl rfl (q_idx tbOk rfl (by exact trivial) g4 (map_get (f := eStr) hxx8)) ?_
    refine wr 3 rfl trivial ?_
    obtain ⟨g5, h⟩ := grd h
    replace h := bnd h; obtain ⟨x9, hxx9, h⟩ := h
    refine WR.q [] rfl rfl rfl (q_idx tbOk rfl (by exact trivial) g5 (map_get (f := eInt_i64) hxx9)) ?_
    refine wr 3 rfl trivial ?_
    obtain ⟨g6, h⟩ := grd h
    refine WR.append tbOk ((c4_16 ++ [(⟨x8, x9⟩ : ApiMaterial)]).map eApiMaterial) [53, 2201] ap40 rfl rfl rfl rfl (fun _ e => by cases e; rfl) (by exact trivial) (map_cells (f := eApiMaterial) (xs := [(⟨x8, x9⟩ : ApiMaterial)]) fun _ => rfl) (by have := g6; simp only [List.length_map, List.length_nil, List.length_cons] at this ⊢; omega) rfl rfl (by simp only [List.map_append]; try rfl) rfl rfl ?_
    refine wr 2 rfl trivial ?_
    refine WR.nil (by kernel_rfl) (bn (WC.region (lr3 rfl (WL.nil ?_))))
    cases h
    exact WQ.next [(2201, 53)] ((IntKind.i64.wrap (i4 + (1 : Int))), (c4_16 ++ [(⟨x8, x9⟩ : ApiMaterial)])) sub (hn2 _ hf2)
   ·replace h := ite_f hc4 h
    refine WC.exit (WQ.thenExit ?_)
    cases h
    have he := he2 _ hf2
    subst he
    replace h := hk2
    try dsimp only at h
    refine eb ?_
    exact WQ.cut [] (c4_16, v12.2.L, v12.2.I) sub h
  ·replace h := ite_f hc3 h
   refine WC.skip ?_
   refine WQ.rowNilB 4 1 2201 94 2 rfl rfl rfl (cs2 := [.v (.sl 1 (v2.1.map eStr)), .r 2201, .v (.raw (.slice none 0 0)), .v (.bool (v3.1 == (1 : Int)))]) rfl ?_
   exact WQ.cut [] ([], v4.2.L, v4.2.I) sub h
 ·rintro ⟨c4_1, c14_0, c14_1⟩ h
  replace h : madeGood_j1 v2 v3 c4_1 c14_0 c14_1 = some _ := h
  unfold madeGood_j1 at h
  try dsimp only [slotsOf]
  refine WC.seq (sr (lr1 rfl ?_))
  replace h := bnd h; obtain ⟨v5, hvv5, h⟩ := h
  refine WL.callO [(0, 14)] [(0, 14)] [14] fn46 rfl rfl rfl rfl (by exact trivial) (srcNext_con hw hvv5) rfl rfl (by exact eqs) rfl rfl rfl rfl rfl rfl ?_
  refine lr1 rfl (nn ?_)
  refine WC.thenCut (X := (List ApiMaterial) × (List ApiComponent)) (fun gG => ⟨[(4, .p 4 0), (2, .p 2 0)], [(2, .blk 43 [.v (.raw (.slice none 0 0)), .v (.raw (.slice none 0 0)), .v (.raw (.slice none 0 0)), .v (.bool false)]), (2201, .row 94 2 (gG.1.map eApiMaterial)), (2202, .row 96 2 (gG.2.map eApiComponent)), (4, .blk 43 [.v (.sl 1 (v2.1.map eStr)), .r 2201, .r 2202, .v (.bool (v3.1 == (1 : Int)))])]⟩) (fun gG => madeGood_j2 v2 v3 gG.1 gG.2 = some r) ?_ ?_
  ·refine WC.cond rfl (fun hc1 => ?_) (fun hc1 => ?_)
   ·replace h := ite_t hc1 h
    refine sr (lr2 rfl ?_)
    replace h := bnd h; obtain ⟨v6, hvv6, h⟩ := h
    refine WL.callO [(0, 14)] [(0, 14)] [14] fn46 rfl rfl rfl rfl (by exact trivial) (srcNext_con hw hvv6) rfl rfl (by exact eqs) rfl rfl rfl rfl rfl rfl ?_
    refine lr1 rfl ?_
    replace h := bnd h; obtain ⟨v7, hvv7, h⟩ := h
    refine WL.callO [(0, 14)] [(0, 14)] [14] fn56 rfl rfl rfl rfl (by exact trivial) (srcShares_con hw hvv7) rfl rfl (by exact eqs) rfl rfl rfl rfl rfl rfl ?_
    refine lr1 rfl (ns (lr1 rfl (nn (WC.block ?_))))
    obtain ⟨eQ1, hl1, hk1⟩ := bnd h
    clear h
    refine WC.rowNilB 4 2 2202 96 2 rfl rfl rfl (cs2 := [.v (.sl 1 (v2.1.map eStr)), .r 2201, .r 2202, .v (.bool (v3.1 == (1 : Int)))]) rfl ?_
    refine WC.loop (σ := Int × (List ApiMaterial) × (List ApiComponent) × (List Int) × Int) (τ := ((List ApiMaterial) × (List ApiComponent))) (fun sS => ⟨[(10, .v (.int .i64 sS.1)), (9, .v (.sl 1 (v7.1.map eInt_i64))), (4, .p 4 0), (3, .p 14 0), (2, .p 2 0)], [(2, .blk 43 [.v (.raw (.slice none 0 0)), .v (.raw (.slice none 0 0)), .v (.raw (.slice none 0 0)), .v (.bool false)]), (2201, .row 94 2 (sS.2.1.map eApiMaterial)), (2202, .row 96 2 (sS.2.2.1.map eApiComponent)), (4, .blk 43 [.v (.sl 1 (v2.1.map eStr)), .r 2201, .r 2202, .v (.bool (v3.1 == (1 : Int)))]), (14, .blk 81 [.v (.sl 1 (sS.2.2.2.1.map eInt_i64)), .v (.int .i64 sS.2.2.2.2)])]⟩) (madeGood_b1 v2 v3 v7) [] ((0 : Int), c4_1, [], v7.2.L, v7.2.I) hl1 sub ?_
    rintro ⟨i2, c4_14, c4_22, c14_03, c14_13⟩ m hn1 he1 hx1
    obtain ⟨o1, hf1⟩ := some_of hx1
    have h := hf1
    unfold madeGood_b1 at h
    try dsimp only [slotsOf]
    refine WC.seq (sr (lr2 rfl ?_))
    refine WL.q [] rfl rfl rfl (q_ev tbOk (.v (.int .i64 (v7.1.length : Int))) rfl (by exact trivial) (by exact lenT)) ?_
    refine lr1 rfl (nn ?_)
    refine WC.cond rfl (fun hc2 => ?_) (fun hc2 => ?_)
    ·replace h := ite_t hc2 h
     refine kn (sb (WC.order mixed ?_))
     refine wr 3 rfl trivial ?_
     replace h := bnd h; obtain ⟨v10, hvv10, h⟩ := h
     refine WR.callO [(0, 14)] [(0, 14)] [14] fn47 rfl rfl rfl rfl (by exact trivial) (srcWords_con hw hvv10) rfl rfl (by exact eqs) rfl rfl rfl rfl rfl rfl ?_
     refine wr 2 rfl trivial ?_
     obtain ⟨g1, h⟩ := grd h
     replace h := bnd h; obtain ⟨x3, hxx3, h⟩ := h
     refine WR.q [] rfl rfl rfl (q_idx tbOk rfl (by exact trivial) g1 (map_get (f := eInt_i64) hxx3)) ?_
     refine wr 3 rfl trivial ?_
     obtain ⟨g2, h⟩ := grd h
     refine WR.append tbOk ((c4_22 ++ [(⟨v10.1, x3⟩ : ApiComponent)]).map eApiComponent) [79, 2202] ap41 rfl rfl rfl rfl (fun _ e => by cases e; rfl) (by exact trivial) (map_cells (f := eApiComponent) (xs := [(⟨v10.1, x3⟩ : ApiComponent)]) fun _ => rfl) (by have := g2; simp only [List.length_map, List.length_nil, List.length_cons] at this ⊢; omega) rfl rfl (by simp only [List.map_append]; try rfl) rfl rfl ?_
     refine wr 2 rfl trivial ?_
     refine WR.nil (by kernel_rfl) (bn (WC.region (lr3 rfl (WL.nil ?_))))
     cases h
     exact WQ.next [(2202, 79)] ((IntKind.i64.wrap (i2 + (1 : Int))), c4_14, (c4_22 ++ [(⟨v10.1, x3⟩ : ApiComponent)]), v10.2.L, v10.2.I) sub (hn1 _ hf1)
    ·replace h := ite_f hc2 h
     refine WC.exit (WQ.thenExit ?_)
     cases h
     have he := he1 _ hf1
     subst he
     replace h := hk1
     try dsimp only at h
     refine eb ?_
     exact WQ.cut [] (c4_14, c4_22) sub h
   ·replace h := ite_f hc1 h
    refine WC.skip ?_
    refine WQ.rowNilB 4 2 2202 96 2 rfl rfl rfl (cs2 := [.v (.sl 1 (v2.1.map eStr)), .r 2201, .r 2202, .v (.bool (v3.1 == (1 : Int)))]) rfl ?_
    exact WQ.cut [] (c4_1, []) sub h
  ·rintro ⟨c4_12, c4_2⟩ h
   replace h : madeGood_j2 v2 v3 c4_12 c4_2 = some _ := h
   unfold madeGood_j2 at h
   try dsimp only [slotsOf]
   refine WC.seq ?_
   refine WC.publish 2201 rfl rfl ?_
   refine WC.publish 2202 rfl rfl ?_
   refine WC.region (lr2 rfl (nr ?_))
   cases h
   exact rt tbOk hR
theorem srcTerms_con {wg : World} (hw : WG wg) {s : CustomsmadeSource} {r : (List (List Str)) × CustomsmadeSource} (h : srcTerms s = some r) : Con Tryz.prog wg gl 99 [.p 0 0] [(0, .blk 81 [.v (.sl 1 (s.L.map eInt_i64)), .v (.int .i64 s.I)])] (.v (.sl 1 (r.1.map eLStr))) [(0, .blk 81 [.v (.sl 1 (r.2.L.map eInt_i64)), .v (.int .i64 r.2.I)])] := by
 unfold srcTerms at h
 refine con_of_WC (S := slotsOf 0 _) Tryz.func99 rfl Tryz.ntmps99 rfl (fun t x hx => (slotsOf_get hx).2) ?_
 intro F L w ρ0 R hR
 try dsimp only [slotsOf]
 refine sr (lr1 rfl (ns (lr1 rfl ?_)))
 replace h := bnd h; obtain ⟨v, hvv, h⟩ := h
 refine WL.callO [(0, 0)] [(0, 0)] [0] fn47 rfl rfl rfl rfl (by exact trivial) (srcWords_con hw hvv) rfl rfl (by exact eqs) rfl rfl rfl rfl rfl rfl ?_
 refine WL.buildRow tbOk ([v.1].map eLStr) rfl rfl rfl rfl (by exact trivial) rfl rfl ?_
 refine lr1 rfl (nn (WC.seq (sr (lr1 rfl ?_))))
 replace h := bnd h; obtain ⟨v2, hvv2, h⟩ := h
 refine WL.callO [(0, 0)] [(0, 0)] [0] fn46 rfl rfl rfl rfl (by exact trivial) (srcNext_con hw hvv2) rfl rfl (by exact eqs) rfl rfl rfl rfl rfl rfl ?_
 refine lr1 rfl (nn ?_)
 refine WC.thenCut (X := (List (List Str)) × (List Int) × Int) (fun gG => ⟨[(3, .r 1003), (0, .p 0 0)], [(1003, .row 31 1 (gG.1.map eLStr)), (0, .blk 81 [.v (.sl 1 (gG.2.1.map eInt_i64)), .v (.int .i64 gG.2.2)])]⟩) (fun gG => srcTerms_j1 gG.1 gG.2.1 gG.2.2 = some r) ?_ ?_
 ·refine WC.cond rfl (fun hc1 => ?_) (fun hc1 => ?_)
  ·replace h := ite_t hc1 h
   refine WC.region (lr2 rfl ?_)
   replace h := bnd h; obtain ⟨v3, hvv3, h⟩ := h
   refine WL.callO [(0, 0)] [(0, 0)] [0] fn47 rfl rfl rfl rfl (by exact trivial) (srcWords_con hw hvv3) rfl rfl (by exact eqs) rfl rfl rfl rfl rfl rfl ?_
   refine lr1 rfl ?_
   obtain ⟨g1, h⟩ := grd h
   refine WL.append tbOk (([v.1] ++ [v3.1]).map eLStr) [14, 6] ap52 rfl rfl rfl rfl (fun _ e => by cases e; rfl) (by exact trivial) (map_cells (f := eLStr) (xs := [v3.1]) fun _ => rfl) (by have := g1; simp only [List.length_map, List.length_nil, List.length_cons] at this ⊢; omega) rfl rfl (by simp only [List.map_append]; try rfl) rfl ?_
   refine lr1 rfl (WL.nil ?_)
   exact WQ.cut [(1003, 14)] (([v.1] ++ [v3.1]), v3.2.L, v3.2.I) sub h
  ·replace h := ite_f hc1 h
   refine WC.skip ?_
   exact WQ.cut [(1003, 6)] ([v.1], v2.2.L, v2.2.I) sub h
 ·rintro ⟨out, c0_0, c0_1⟩ h
  replace h : srcTerms_j1 out c0_0 c0_1 = some _ := h
  unfold srcTerms_j1 at h
  try dsimp only [slotsOf]
  refine sr (lr2 rfl (nr ?_))
  refine WQ.publish 1003 rfl rfl ?_
  cases h
  exact rt tbOk hR
theorem srcEntry_n_con {wg : World} (hw : WG wg) (n : Nat) : ∀ {s : CustomsmadeSource} {code : Str} {end_ : Int} {r : (List ApiCodeEntry) × CustomsmadeSource} (h : srcEntry_n n s code end_ = some r), Con Tryz.prog wg gl 48 [.p 0 0, .v (.str code), .v (.int .i64 end_)] [(0, .blk 81 [.v (.sl 1 (s.L.map eInt_i64)), .v (.int .i64 s.I)])] (.v (.sl 5 (r.1.map eApiCodeEntry))) [(0, .blk 81 [.v (.sl 1 (r.2.L.map eInt_i64)), .v (.int .i64 r.2.I)])] := by
 induction n with
 | zero => intros; rename_i h; cases h
 | succ n ih =>
 intro s code end_ r h
 replace h : srcEntry_F (srcEntry_n n) s code end_ = some r := h
 unfold srcEntry_F at h
 refine con_of_WC (S := slotsOf 0 _) Tryz.func48 rfl Tryz.ntmps48 rfl (fun t x hx => (slotsOf_get hx).2) ?_
 intro F L w ρ0 R hR
 try dsimp only [slotsOf]
 refine sr (lr1 rfl (ns (lr5 rfl (ns (lr1 rfl (nn (WC.seq (sr (lr3 rfl (nn ?_))))))))))
 refine WC.thenCut (X := (List Int) × Int × (List (List Str))) (fun gG => ⟨[(8, .v (.raw (.slice none 0 0))), (7, .p 7 0), (0, .p 0 0), (1, .v (.str code)), (2, .v (.int .i64 end_))], [(0, .blk 81 [.v (.sl 1 (gG.1.map eInt_i64)), .v (.int .i64 gG.2.1)]), (7, .blk 54 [.v (.str code), .v (.int .i64 (0 : Int)), .v (.int .i64 end_), .v (.sl 1 (gG.2.2.map eLStr)), .v (.bool false)])]⟩) (fun gG => srcEntry_j1 (srcEntry_n n) code end_ gG.1 gG.2.1 gG.2.2 = some r) ?_ ?_
 ·refine WC.cond rfl (fun hc13 => ?_) (fun hc13 => ?_)
  ·replace h := ite_t hc13 h
   refine WC.region (lr1 rfl ?_)
   replace h := bnd h; obtain ⟨v12, hvv12, h⟩ := h
   refine WL.callO [(0, 0)] [(0, 0)] [0] fn99 rfl rfl rfl rfl (by exact trivial) (srcTerms_con hw hvv12) rfl rfl (by exact eqs) rfl rfl rfl rfl rfl rfl ?_
   refine lr2 rfl (WL.nil ?_)
   exact WQ.cut [] (v12.2.L, v12.2.I, v12.1) sub h
  ·replace h := ite_f hc13 h
   refine WC.skip ?_
   refine WQ.weakenO 7 (.blk 54 [.v (.str code), .v (.int .i64 (0 : Int)), .v (.int .i64 end_), .v (.sl 1 ([].map eLStr)), .v (.bool false)]) rfl (LeO.blk (.cons (Le.refl _) (.cons (Le.refl _) (.cons (Le.refl _) (.cons (Le.nil 1) (.cons (Le.refl _) .nil)))))) rfl ?_
   exact WQ.cut [] (s.L, s.I, []) sub h
 ·rintro ⟨c0_0, c0_1, c7_3⟩ h
  replace h : srcEntry_j1 (srcEntry_n n) code end_ c0_0 c0_1 c7_3 = some _ := h
  unfold srcEntry_j1 at h
  try dsimp only [slotsOf]
  refine WC.seq (WC.seq ?_)
  by_cases hk1 : (decide ((4 : Int) < (code.length : Int))) = true
  ·replace h := ifp hk1 h
   refine WC.region (lr4 rfl ?_)
   refine WL.ungd rfl rfl hk1 ?_
   refine lr1 rfl ?_
   refine WL.ungd rfl rfl hk1 ?_
   replace h := bnd h; obtain ⟨v, hvv, h⟩ := h
   refine WL.callO [(0, 0)] [(0, 0)] [0] fn46 rfl rfl rfl rfl (by exact trivial) (srcNext_con hw hvv) rfl rfl (by exact eqs) rfl rfl rfl rfl rfl rfl ?_
   refine WL.ungd rfl rfl hk1 ?_
   refine lr 2 rfl (by exact sideR) ?_
   refine nn ?_
   refine WC.thenCut (X := (List (List Str)) × Bool) (fun gG => ⟨[(8, .v (.raw (.slice none 0 0))), (7, .p 7 0), (0, .p 0 0), (1, .v (.str code)), (2, .v (.int .i64 end_))], [(0, .blk 81 [.v (.sl 1 (v.2.L.map eInt_i64)), .v (.int .i64 v.2.I)]), (7, .blk 54 [.v (.str code), .v (.int .i64 (0 : Int)), .v (.int .i64 end_), .v (.sl 1 (gG.1.map eLStr)), .v (.bool gG.2)])]⟩) (fun gG => srcEntry_j2 (srcEntry_n n) code end_ v gG.1 gG.2 = some r) ?_ ?_
   ·refine WC.cond rfl (fun hc6 => ?_) (fun hc6 => ?_)
    ·replace h := ite_t hc6 h
     refine WC.region (lr4 rfl (WL.nil ?_))
     refine WQ.weakenO 7 (.blk 54 [.v (.str code), .v (.int .i64 (0 : Int)), .v (.int .i64 end_), .v (.sl 1 ([].map eLStr)), .v (.bool true)]) rfl (LeO.blk (.cons (Le.refl _) (.cons (Le.refl _) (.cons (Le.refl _) (.cons (Le.nil 1) (.cons (Le.refl _) .nil)))))) rfl ?_
     exact WQ.cut [] ([], true) sub h
    ·replace h := ite_f hc6 h
     refine WC.skip ?_
     exact WQ.cut [] (c7_3, false) sub h
   ·rintro ⟨c7_32, c7_4⟩ h
    replace h : srcEntry_j2 (srcEntry_n n) code end_ v c7_32 c7_4 = some _ := h
    unfold srcEntry_j2 at h
    try dsimp only [slotsOf]
    refine WC.seq (sr ?_)
    refine lr 7 rfl (by exact sideR) ?_
    refine nn ?_
    refine WC.thenCut (X := (List ApiCodeEntry) × (List Int) × Int × Int × Int) (fun gG => ⟨[(8, .r 1008), (7, .p 7 0), (0, .p 0 0), (1, .v (.str code))], [(1008, .row 54 5 (gG.1.map eApiCodeEntry)), (0, .blk 81 [.v (.sl 1 (gG.2.1.map eInt_i64)), .v (.int .i64 gG.2.2.1)]), (7, .blk 54 [.v (.str code), .v (.int .i64 gG.2.2.2.1), .v (.int .i64 gG.2.2.2.2), .v (.sl 1 (c7_32.map eLStr)), .v (.bool c7_4)])]⟩) (fun gG => srcEntry_j3 (srcEntry_n n) code c7_32 c7_4 gG.1 gG.2.1 gG.2.2.1 gG.2.2.2.1 gG.2.2.2.2 = some r) ?_ ?_
    ·refine WC.cond rfl (fun hc3 => ?_) (fun hc3 => ?_)
     ·replace h := ite_t hc3 h
      refine sr (lr1 rfl ?_)
      replace h := bnd h; obtain ⟨v5, hvv5, h⟩ := h
      refine WL.callO [(0, 0)] [(0, 0)] [0] fn46 rfl rfl rfl rfl (by exact trivial) (srcNext_con hw hvv5) rfl rfl (by exact eqs) rfl rfl rfl rfl rfl rfl ?_
      refine nn (WC.block (sr (lr2 rfl (nn ?_))))
      refine WC.cond rfl (fun hc4 => ?_) (fun hc4 => ?_)
      ·replace h := ite_t hc4 h
       refine sr (lr3 rfl (ns (lr4 rfl (ns (lr1 rfl ?_)))))
       replace h := bnd h; obtain ⟨v6, hvv6, h⟩ := h
       refine WL.callO [(0, 0)] [(0, 0)] [0] fn99 rfl rfl rfl rfl (by exact trivial) (srcTerms_con hw hvv6) rfl rfl (by exact eqs) rfl rfl rfl rfl rfl rfl ?_
       refine lr2 rfl (ns (lr2 rfl (nn (WC.region (lr3 rfl ?_)))))
       obtain ⟨g5, h⟩ := grd h
       refine WL.append tbOk ([(⟨code, (0 : Int), (10 : Int), v6.1, false⟩ : ApiCodeEntry)].map eApiCodeEntry) [52] ap25 rfl rfl rfl rfl (fun _ e => by cases e) (by exact trivial) (map_cells (f := eApiCodeEntry) (xs := [(⟨code, (0 : Int), (10 : Int), v6.1, false⟩ : ApiCodeEntry)]) fun _ => rfl) (by have := g5; simp only [List.length_map, List.length_nil, List.length_cons] at this ⊢; omega) rfl rfl rfl rfl ?_
       refine lr1 rfl (WL.nil (WQ.blockNormal ?_))
       exact WQ.cut [(1008, 52)] ([(⟨code, (0 : Int), (10 : Int), v6.1, false⟩ : ApiCodeEntry)], v6.2.L, v6.2.I, (10 : Int), end_) sub h
      ·replace h := ite_f hc4 h
       refine sr (lr2 rfl (nn ?_))
       refine WC.cond rfl (fun hc5 => ?_) (fun hc5 => ?_)
       ·replace h := ite_t hc5 h
        refine WC.region (lr2 rfl (WL.nil (WQ.blockNormal ?_)))
        refine WQ.rowNil 8 1008 54 5 rfl rfl ?_
        exact WQ.cut [] ([], v5.2.L, v5.2.I, (0 : Int), (12 : Int)) sub h
       ·replace h := ite_f hc5 h
        refine WC.skip (WQ.blockNormal ?_)
        refine WQ.rowNil 8 1008 54 5 rfl rfl ?_
        exact WQ.cut [] ([], v5.2.L, v5.2.I, (0 : Int), end_) sub h
     ·replace h := ite_f hc3 h
      refine WC.skip ?_
      refine WQ.rowNil 8 1008 54 5 rfl rfl ?_
      exact WQ.cut [] ([], v.2.L, v.2.I, (0 : Int), end_) sub h
    ·rintro ⟨out, c0_02, c0_12, c7_1, c7_2⟩ h
     replace h : srcEntry_j3 (srcEntry_n n) code c7_32 c7_4 out c0_02 c0_12 c7_1 c7_2 = some _ := h
     unfold srcEntry_j3 at h
     try dsimp only [slotsOf]
     refine sr (lr3 rfl ?_)
     obtain ⟨g1, h⟩ := grd h
     refine WL.append tbOk ((out ++ [(⟨code, c7_1, c7_2, c7_32, c7_4⟩ : ApiCodeEntry)]).map eApiCodeEntry) [59, 1008] ap25 rfl rfl rfl rfl (fun _ e => by cases e; rfl) (by exact trivial) (map_cells (f := eApiCodeEntry) (xs := [(⟨code, c7_1, c7_2, c7_32, c7_4⟩ : ApiCodeEntry)]) fun _ => rfl) (by have := g1; simp only [List.length_map, List.length_nil, List.length_cons] at this ⊢; omega) rfl rfl (by simp only [List.map_append]; try rfl) rfl ?_
     refine lr1 rfl (nn (WC.seq (sr (lr3 rfl (nn ?_)))))
     refine WC.cond rfl (fun hc1 => ?_) (fun hc1 => ?_)
     ·replace h := ite_t hc1 h
      refine sr (lr2 rfl (nr (WQ.thenRet ?_)))
      refine WQ.publish 59 rfl rfl ?_
      cases h
      exact rt tbOk hR
     ·replace h := ite_f hc1 h
      refine kn (WC.seq (sr (lr1 rfl ?_)))
      replace h := bnd h; obtain ⟨v2, hvv2, h⟩ := h
      refine WL.callO [(0, 0)] [(0, 0)] [0] fn46 rfl rfl rfl rfl (by exact trivial) (srcNext_con hw hvv2) rfl rfl (by exact eqs) rfl rfl rfl rfl rfl rfl ?_
      refine lr2 rfl (nn ?_)
      refine WC.thenCut (X := (List ApiCodeEntry) × (List Int) × Int) (fun gG => ⟨[(8, .r 1008), (0, .p 0 0)], [(1008, .row 54 5 (gG.1.map eApiCodeEntry)), (0, .blk 81 [.v (.sl 1 (gG.2.1.map eInt_i64)), .v (.int .i64 gG.2.2)])]⟩) (fun gG => srcEntry_j4 (srcEntry_n n) gG.1 gG.2.1 gG.2.2 = some r) ?_ ?_
      ·refine WC.block ?_
       obtain ⟨eQ1, hl1, hk1⟩ := bnd h
       clear h
       refine WC.loop (σ := Int × (List ApiCodeEntry) × (List Int) × Int) (τ := ((List ApiCodeEntry) × (List Int) × Int)) (fun sS => ⟨[(11, .v (.int .i64 v2.1)), (10, .v (.int .i64 sS.1)), (8, .r 1008), (7, .p 7 0), (0, .p 0 0), (1, .v (.str code))], [(1008, .row 54 5 (sS.2.1.map eApiCodeEntry)), (0, .blk 81 [.v (.sl 1 (sS.2.2.1.map eInt_i64)), .v (.int .i64 sS.2.2.2)]), (7, .blk 54 [.v (.str code), .v (.int .i64 c7_1), .v (.int .i64 c7_2), .v (.sl 1 (c7_32.map eLStr)), .v (.bool c7_4)])]⟩) (srcEntry_b1 (srcEntry_n n) code c7_32 c7_4 c7_1 c7_2 v2) [(1008, 59)] ((1 : Int), (out ++ [(⟨code, c7_1, c7_2, c7_32, c7_4⟩ : ApiCodeEntry)]), v2.2.L, v2.2.I) hl1 sub ?_
       rintro ⟨i, out3, c0_04, c0_14⟩ m hn1 he1 hx1
       obtain ⟨o1, hf1⟩ := some_of hx1
       have h := hf1
       unfold srcEntry_b1 at h
       try dsimp only [slotsOf]
       refine WC.seq (sr (lr3 rfl (nn ?_)))
       refine WC.cond rfl (fun hc2 => ?_) (fun hc2 => ?_)
       ·replace h := ite_t hc2 h
        refine kn (sb (WC.region ?_))
        obtain ⟨g2, h⟩ := grd h
        refine lr 8 rfl (by repeat' (first | exact trivial | assumption | intro _ | exact g2 (by assumption) | apply And.intro | exact sideT | (refine and_i ?_ ?_))) ?_
        refine WL.q [] rfl rfl rfl (q_b2s tbOk (xs := [(IntKind.u8.wrap (IntKind.i64.wrap ((48 : Int) + i)))]) by23 rfl (by exact trivial)) ?_
        obtain ⟨g3, h⟩ := grd h
        refine lr 3 rfl (by repeat' (first | exact trivial | assumption | intro _ | exact g3 (by assumption) | apply And.intro | exact sideT | (refine and_i ?_ ?_))) ?_
        replace h := bnd h; obtain ⟨v4, hvv4, h⟩ := h
        refine WL.callO [(0, 0)] [(0, 0)] [0] fn48 rfl rfl rfl rfl (by exact trivial) (ih hvv4) rfl rfl (by exact eqs) rfl rfl rfl rfl rfl rfl ?_
        obtain ⟨g4, h⟩ := grd h
        refine WL.append tbOk ((out3 ++ v4.1).map eApiCodeEntry) [84, 1008] ap25 rfl rfl rfl rfl (fun _ e => by cases e; rfl) (by exact trivial) (map_cells (f := eApiCodeEntry) (xs := v4.1) fun _ => rfl) (by have := g4; simp only [List.length_map, List.length_nil, List.length_cons] at this ⊢; omega) rfl rfl (by simp only [List.map_append]; try rfl) rfl ?_
        refine lr1 rfl (WL.nil (bn (WC.region (lr3 rfl (WL.nil ?_)))))
        cases h
        exact WQ.next [(1008, 84)] ((IntKind.i64.wrap (i + (1 : Int))), (out3 ++ v4.1), v4.2.L, v4.2.I) sub (hn1 _ hf1)
       ·replace h := ite_f hc2 h
        refine WC.exit (WQ.thenExit ?_)
        cases h
        have he := he1 _ hf1
        subst he
        replace h := hk1
        try dsimp only at h
        refine eb ?_
        exact WQ.cut [] (out3, c0_04, c0_14) sub h
      ·rintro ⟨out2, c0_03, c0_13⟩ h
       replace h : srcEntry_j4 (srcEntry_n n) out2 c0_03 c0_13 = some _ := h
       unfold srcEntry_j4 at h
       try dsimp only [slotsOf]
       refine sr (lr2 rfl (nr ?_))
       refine WQ.publish 1008 rfl rfl ?_
       cases h
       exact rt tbOk hR
  ·replace h := ifn hk1 h
   refine WC.region (lr4 rfl ?_)
   refine WL.skipg (.v (.raw (.nilIface))) rfl rfl rfl rfl (Bool.eq_false_iff.2 hk1) ?_
   refine WL.skipg (.v (.raw (.nilIface))) rfl rfl rfl rfl (Bool.eq_false_iff.2 hk1) ?_
   refine WL.skipg (.v (.bool false)) rfl rfl rfl rfl (Bool.eq_false_iff.2 hk1) ?_
   refine lr 1 rfl (by repeat' (first | exact trivial | assumption | intro _ | (exact absurd (by assumption) hk1) | (exfalso; simp_all; done) | apply And.intro | exact sideT | (refine and_i ?_ ?_))) ?_
   refine nn ?_
   refine WC.thenCut (X := (List (List Str)) × Bool) (fun gG => ⟨[(8, .v (.raw (.slice none 0 0))), (7, .p 7 0), (0, .p 0 0), (1, .v (.str code)), (2, .v (.int .i64 end_))], [(0, .blk 81 [.v (.sl 1 (c0_0.map eInt_i64)), .v (.int .i64 c0_1)]), (7, .blk 54 [.v (.str code), .v (.int .i64 (0 : Int)), .v (.int .i64 end_), .v (.sl 1 (gG.1.map eLStr)), .v (.bool gG.2)])]⟩) (fun gG => srcEntry_j5 (srcEntry_n n) code end_ c0_0 c0_1 gG.1 gG.2 = some r) ?_ ?_
   ·refine WC.cond rfl (fun hc12 => ?_) (fun hc12 => ?_)
    ·replace h := ite_t hc12 h
     refine WC.region (lr4 rfl (WL.nil ?_))
     refine WQ.weakenO 7 (.blk 54 [.v (.str code), .v (.int .i64 (0 : Int)), .v (.int .i64 end_), .v (.sl 1 ([].map eLStr)), .v (.bool true)]) rfl (LeO.blk (.cons (Le.refl _) (.cons (Le.refl _) (.cons (Le.refl _) (.cons (Le.nil 1) (.cons (Le.refl _) .nil)))))) rfl ?_
     exact WQ.cut [] ([], true) sub h
    ·replace h := ite_f hc12 h
     refine WC.skip ?_
     exact WQ.cut [] (c7_3, false) sub h
   ·rintro ⟨c7_33, c7_42⟩ h
    replace h : srcEntry_j5 (srcEntry_n n) code end_ c0_0 c0_1 c7_33 c7_42 = some _ := h
    unfold srcEntry_j5 at h
    try dsimp only [slotsOf]
    refine WC.seq (sr ?_)
    refine lr 7 rfl (by exact sideR) ?_
    refine nn ?_
    refine WC.thenCut (X := (List ApiCodeEntry) × (List Int) × Int × Int × Int) (fun gG => ⟨[(8, .r 1008), (7, .p 7 0), (0, .p 0 0), (1, .v (.str code))], [(1008, .row 54 5 (gG.1.map eApiCodeEntry)), (0, .blk 81 [.v (.sl 1 (gG.2.1.map eInt_i64)), .v (.int .i64 gG.2.2.1)]), (7, .blk 54 [.v (.str code), .v (.int .i64 gG.2.2.2.1), .v (.int .i64 gG.2.2.2.2), .v (.sl 1 (c7_33.map eLStr)), .v (.bool c7_42)])]⟩) (fun gG => srcEntry_j6 (srcEntry_n n) code c7_33 c7_42 gG.1 gG.2.1 gG.2.2.1 gG.2.2.2.1 gG.2.2.2.2 = some r) ?_ ?_
    ·refine WC.cond rfl (fun hc9 => ?_) (fun hc9 => ?_)
     ·replace h := ite_t hc9 h
      refine sr (lr1 rfl ?_)
      replace h := bnd h; obtain ⟨v10, hvv10, h⟩ := h
      refine WL.callO [(0, 0)] [(0, 0)] [0] fn46 rfl rfl rfl rfl (by exact trivial) (srcNext_con hw hvv10) rfl rfl (by exact eqs) rfl rfl rfl rfl rfl rfl ?_
      refine nn (WC.block (sr (lr2 rfl (nn ?_))))
      refine WC.cond rfl (fun hc10 => ?_) (fun hc10 => ?_)
      ·replace h := ite_t hc10 h
       refine sr (lr3 rfl (ns (lr4 rfl (ns (lr1 rfl ?_)))))
       replace h := bnd h; obtain ⟨v11, hvv11, h⟩ := h
       refine WL.callO [(0, 0)] [(0, 0)] [0] fn99 rfl rfl rfl rfl (by exact trivial) (srcTerms_con hw hvv11) rfl rfl (by exact eqs) rfl rfl rfl rfl rfl rfl ?_
       refine lr2 rfl (ns (lr2 rfl (nn (WC.region (lr3 rfl ?_)))))
       obtain ⟨g10, h⟩ := grd h
       refine WL.append tbOk ([(⟨code, (0 : Int), (10 : Int), v11.1, false⟩ : ApiCodeEntry)].map eApiCodeEntry) [52] ap25 rfl rfl rfl rfl (fun _ e => by cases e) (by exact trivial) (map_cells (f := eApiCodeEntry) (xs := [(⟨code, (0 : Int), (10 : Int), v11.1, false⟩ : ApiCodeEntry)]) fun _ => rfl) (by have := g10; simp only [List.length_map, List.length_nil, List.length_cons] at this ⊢; omega) rfl rfl rfl rfl ?_
       refine lr1 rfl (WL.nil (WQ.blockNormal ?_))
       exact WQ.cut [(1008, 52)] ([(⟨code, (0 : Int), (10 : Int), v11.1, false⟩ : ApiCodeEntry)], v11.2.L, v11.2.I, (10 : Int), end_) sub h
      ·replace h := ite_f hc10 h
       refine sr (lr2 rfl (nn ?_))
       refine WC.cond rfl (fun hc11 => ?_) (fun hc11 => ?_)
       ·replace h := ite_t hc11 h
        refine WC.region (lr2 rfl (WL.nil (WQ.blockNormal ?_)))
        refine WQ.rowNil 8 1008 54 5 rfl rfl ?_
        exact WQ.cut [] ([], v10.2.L, v10.2.I, (0 : Int), (12 : Int)) sub h
       ·replace h := ite_f hc11 h
        refine WC.skip (WQ.blockNormal ?_)
        refine WQ.rowNil 8 1008 54 5 rfl rfl ?_
        exact WQ.cut [] ([], v10.2.L, v10.2.I, (0 : Int), end_) sub h
     ·replace h := ite_f hc9 h
      refine WC.skip ?_
      refine WQ.rowNil 8 1008 54 5 rfl rfl ?_
      exact WQ.cut [] ([], c0_0, c0_1, (0 : Int), end_) sub h
    ·rintro ⟨out6, c0_07, c0_17, c7_12, c7_22⟩ h
     replace h : srcEntry_j6 (srcEntry_n n) code c7_33 c7_42 out6 c0_07 c0_17 c7_12 c7_22 = some _ := h
     unfold srcEntry_j6 at h
     try dsimp only [slotsOf]
     refine sr (lr3 rfl ?_)
     obtain ⟨g6, h⟩ := grd h
     refine WL.append tbOk ((out6 ++ [(⟨code, c7_12, c7_22, c7_33, c7_42⟩ : ApiCodeEntry)]).map eApiCodeEntry) [59, 1008] ap25 rfl rfl rfl rfl (fun _ e => by cases e; rfl) (by exact trivial) (map_cells (f := eApiCodeEntry) (xs := [(⟨code, c7_12, c7_22, c7_33, c7_42⟩ : ApiCodeEntry)]) fun _ => rfl) (by have := g6; simp only [List.length_map, List.length_nil, List.length_cons] at this ⊢; omega) rfl rfl (by simp only [List.map_append]; try rfl) rfl ?_
     refine lr1 rfl (nn (WC.seq (sr (lr3 rfl (nn ?_)))))
     refine WC.cond rfl (fun hc7 => ?_) (fun hc7 => ?_)
     ·replace h := ite_t hc7 h
      refine sr (lr2 rfl (nr (WQ.thenRet ?_)))
      refine WQ.publish 59 rfl rfl ?_
      cases h
      exact rt tbOk hR
     ·replace h := ite_f hc7 h
      refine kn (WC.seq (sr (lr1 rfl ?_)))
      replace h := bnd h; obtain ⟨v7, hvv7, h⟩ := h
      refine WL.callO [(0, 0)] [(0, 0)] [0] fn46 rfl rfl rfl rfl (by exact trivial) (srcNext_con hw hvv7) rfl rfl (by exact eqs) rfl rfl rfl rfl rfl rfl ?_
      refine lr2 rfl (nn ?_)
      refine WC.thenCut (X := (List ApiCodeEntry) × (List Int) × Int) (fun gG => ⟨[(8, .r 1008), (0, .p 0 0)], [(1008, .row 54 5 (gG.1.map eApiCodeEntry)), (0, .blk 81 [.v (.sl 1 (gG.2.1.map eInt_i64)), .v (.int .i64 gG.2.2)])]⟩) (fun gG => srcEntry_j7 (srcEntry_n n) gG.1 gG.2.1 gG.2.2 = some r) ?_ ?_
      ·refine WC.block ?_
       obtain ⟨eQ2, hl2, hk2⟩ := bnd h
       clear h
       refine WC.loop (σ := Int × (List ApiCodeEntry) × (List Int) × Int) (τ := ((List ApiCodeEntry) × (List Int) × Int)) (fun sS => ⟨[(11, .v (.int .i64 v7.1)), (10, .v (.int .i64 sS.1)), (8, .r 1008), (7, .p 7 0), (0, .p 0 0), (1, .v (.str code))], [(1008, .row 54 5 (sS.2.1.map eApiCodeEntry)), (0, .blk 81 [.v (.sl 1 (sS.2.2.1.map eInt_i64)), .v (.int .i64 sS.2.2.2)]), (7, .blk 54 [.v (.str code), .v (.int .i64 c7_12), .v (.int .i64 c7_22), .v (.sl 1 (c7_33.map eLStr)), .v (.bool c7_42)])]⟩) (srcEntry_b2 (srcEntry_n n) code c7_33 c7_42 c7_12 c7_22 v7) [(1008, 59)] ((1 : Int), (out6 ++ [(⟨code, c7_12, c7_22, c7_33, c7_42⟩ : ApiCodeEntry)]), v7.2.L, v7.2.I) hl2 sub ?_
       rintro ⟨i3, out8, c0_09, c0_19⟩ m hn2 he2 hx2
       obtain ⟨o2, hf2⟩ := some_of hx2
       have h := hf2
       unfold srcEntry_b2 at h
       try dsimp only [slotsOf]
       refine WC.seq (sr (lr3 rfl (nn ?_)))
       refine WC.cond rfl (fun hc8 => ?_) (fun hc8 => ?_)
       ·replace h := ite_t hc8 h
        refine kn (sb (WC.region ?_))
        obtain ⟨g7, h⟩ := grd h
        refine lr 8 rfl (by repeat' (first | exact trivial | assumption | intro _ | exact g7 (by assumption) | apply And.intro | exact sideT | (refine and_i ?_ ?_))) ?_
        refine WL.q [] rfl rfl rfl (q_b2s tbOk (xs := [(IntKind.u8.wrap (IntKind.i64.wrap ((48 : Int) + i3)))]) by23 rfl (by exact trivial)) ?_
        obtain ⟨g8, h⟩ := grd h
        refine lr 3 rfl (by repeat' (first | exact trivial | assumption | intro _ | exact g8 (by assumption) | apply And.intro | exact sideT | (refine and_i ?_ ?_))) ?_
        replace h := bnd h; obtain ⟨v9, hvv9, h⟩ := h
        refine WL.callO [(0, 0)] [(0, 0)] [0] fn48 rfl rfl rfl rfl (by exact trivial) (ih hvv9) rfl rfl (by exact eqs) rfl rfl rfl rfl rfl rfl ?_
        obtain ⟨g9, h⟩ := grd h
        refine WL.append tbOk ((out8 ++ v9.1).map eApiCodeEntry) [84, 1008] ap25 rfl rfl rfl rfl (fun _ e => by cases e; rfl) (by exact trivial) (map_cells (f := eApiCodeEntry) (xs := v9.1) fun _ => rfl) (by have := g9; simp only [List.length_map, List.length_nil, List.length_cons] at this ⊢; omega) rfl rfl (by simp only [List.map_append]; try rfl) rfl ?_
        refine lr1 rfl (WL.nil (bn (WC.region (lr3 rfl (WL.nil ?_)))))
        cases h
        exact WQ.next [(1008, 84)] ((IntKind.i64.wrap (i3 + (1 : Int))), (out8 ++ v9.1), v9.2.L, v9.2.I) sub (hn2 _ hf2)
       ·replace h := ite_f hc8 h
        refine WC.exit (WQ.thenExit ?_)
        cases h
        have he := he2 _ hf2
        subst he
        replace h := hk2
        try dsimp only at h
        refine eb ?_
        exact WQ.cut [] (out8, c0_09, c0_19) sub h
      ·rintro ⟨out7, c0_08, c0_18⟩ h
       replace h : srcEntry_j7 (srcEntry_n n) out7 c0_08 c0_18 = some _ := h
       unfold srcEntry_j7 at h
       try dsimp only [slotsOf]
       refine sr (lr2 rfl (nr ?_))
       refine WQ.publish 1008 rfl rfl ?_
       cases h
       exact rt tbOk hR
theorem srcEntry_con {wg : World} (hw : WG wg) {s : CustomsmadeSource} {code : Str} {end_ : Int} {r : (List ApiCodeEntry) × CustomsmadeSource} (h : srcEntry s code end_ = some r) : Con Tryz.prog wg gl 48 [.p 0 0, .v (.str code), .v (.int .i64 end_)] [(0, .blk 81 [.v (.sl 1 (s.L.map eInt_i64)), .v (.int .i64 s.I)])] (.v (.sl 5 (r.1.map eApiCodeEntry))) [(0, .blk 81 [.v (.sl 1 (r.2.L.map eInt_i64)), .v (.int .i64 r.2.I)])] := srcEntry_n_con hw _ h
theorem srcEntryR_con {wg : World} (hw : WG wg) {s : CustomsmadeSource} {code : Str} {end_ : Int} {r : (List ApiCodeEntry) × CustomsmadeSource} (h : srcEntryR s code end_ = some r) : Con Tryz.prog wg gl 48 [.p 0 0, .v (.str code), .v (.int .i64 end_)] [(0, .blk 81 [.v (.sl 1 (s.L.map eInt_i64)), .v (.int .i64 s.I)])] (.r 500) [(0, .blk 81 [.v (.sl 1 (r.2.L.map eInt_i64)), .v (.int .i64 r.2.I)]), (500, .row 54 5 (r.1.map eApiCodeEntry))] := by
 unfold srcEntryR at h
 refine con_of_WC (S := slotsOf 0 _) Tryz.func48 rfl Tryz.ntmps48 rfl (fun t x hx => (slotsOf_get hx).2) ?_
 intro F L w ρ0 R hR
 try dsimp only [slotsOf]
 refine sr (lr1 rfl (ns (lr5 rfl (ns (lr1 rfl (nn (WC.seq (sr (lr3 rfl (nn ?_))))))))))
 refine WC.thenCut (X := (List Int) × Int × (List (List Str))) (fun gG => ⟨[(8, .v (.raw (.slice none 0 0))), (7, .p 7 0), (0, .p 0 0), (1, .v (.str code)), (2, .v (.int .i64 end_))], [(0, .blk 81 [.v (.sl 1 (gG.1.map eInt_i64)), .v (.int .i64 gG.2.1)]), (7, .blk 54 [.v (.str code), .v (.int .i64 (0 : Int)), .v (.int .i64 end_), .v (.sl 1 (gG.2.2.map eLStr)), .v (.bool false)])]⟩) (fun gG => srcEntryR_j1 code end_ gG.1 gG.2.1 gG.2.2 = some r) ?_ ?_
 ·refine WC.cond rfl (fun hc13 => ?_) (fun hc13 => ?_)
  ·replace h := ite_t hc13 h
   refine WC.region (lr1 rfl ?_)
   replace h := bnd h; obtain ⟨v12, hvv12, h⟩ := h
   refine WL.callO [(0, 0)] [(0, 0)] [0] fn99 rfl rfl rfl rfl (by exact trivial) (srcTerms_con hw hvv12) rfl rfl (by exact eqs) rfl rfl rfl rfl rfl rfl ?_
   refine lr2 rfl (WL.nil ?_)
   exact WQ.cut [] (v12.2.L, v12.2.I, v12.1) sub h
  ·replace h := ite_f hc13 h
   refine WC.skip ?_
   refine WQ.weakenO 7 (.blk 54 [.v (.str code), .v (.int .i64 (0 : Int)), .v (.int .i64 end_), .v (.sl 1 ([].map eLStr)), .v (.bool false)]) rfl (LeO.blk (.cons (Le.refl _) (.cons (Le.refl _) (.cons (Le.refl _) (.cons (Le.nil 1) (.cons (Le.refl _) .nil)))))) rfl ?_
   exact WQ.cut [] (s.L, s.I, []) sub h
 ·rintro ⟨c0_0, c0_1, c7_3⟩ h
  replace h : srcEntryR_j1 code end_ c0_0 c0_1 c7_3 = some _ := h
  unfold srcEntryR_j1 at h
  try dsimp only [slotsOf]
  refine WC.seq (WC.seq ?_)
  by_cases hk1 : (decide ((4 : Int) < (code.length : Int))) = true
  ·replace h := ifp hk1 h
   refine WC.region (lr4 rfl ?_)
   refine WL.ungd rfl rfl hk1 ?_
   refine lr1 rfl ?_
   refine WL.ungd rfl rfl hk1 ?_
   replace h := bnd h; obtain ⟨v, hvv, h⟩ := h
   refine WL.callO [(0, 0)] [(0, 0)] [0] fn46 rfl rfl rfl rfl (by exact trivial) (srcNext_con hw hvv) rfl rfl (by exact eqs) rfl rfl rfl rfl rfl rfl ?_
   refine WL.ungd rfl rfl hk1 ?_
   refine lr 2 rfl (by exact sideR) ?_
   refine nn ?_
   refine WC.thenCut (X := (List (List Str)) × Bool) (fun gG => ⟨[(8, .v (.raw (.slice none 0 0))), (7, .p 7 0), (0, .p 0 0), (1, .v (.str code)), (2, .v (.int .i64 end_))], [(0, .blk 81 [.v (.sl 1 (v.2.L.map eInt_i64)), .v (.int .i64 v.2.I)]), (7, .blk 54 [.v (.str code), .v (.int .i64 (0 : Int)), .v (.int .i64 end_), .v (.sl 1 (gG.1.map eLStr)), .v (.bool gG.2)])]⟩) (fun gG => srcEntryR_j2 code end_ v gG.1 gG.2 = some r) ?_ ?_
   ·refine WC.cond rfl (fun hc6 => ?_) (fun hc6 => ?_)
    ·replace h := ite_t hc6 h
     refine WC.region (lr4 rfl (WL.nil ?_))
     refine WQ.weakenO 7 (.blk 54 [.v (.str code), .v (.int .i64 (0 : Int)), .v (.int .i64 end_), .v (.sl 1 ([].map eLStr)), .v (.bool true)]) rfl (LeO.blk (.cons (Le.refl _) (.cons (Le.refl _) (.cons (Le.refl _) (.cons (Le.nil 1) (.cons (Le.refl _) .nil)))))) rfl ?_
     exact WQ.cut [] ([], true) sub h
    ·replace h := ite_f hc6 h
     refine WC.skip ?_
     exact WQ.cut [] (c7_3, false) sub h
   ·rintro ⟨c7_32, c7_4⟩ h
    replace h : srcEntryR_j2 code end_ v c7_32 c7_4 = some _ := h
    unfold srcEntryR_j2 at h
    try dsimp only [slotsOf]
    refine WC.seq (sr ?_)
    refine lr 7 rfl (by exact sideR) ?_
    refine nn ?_
    refine WC.thenCut (X := (List ApiCodeEntry) × (List Int) × Int × Int × Int) (fun gG => ⟨[(8, .r 1008), (7, .p 7 0), (0, .p 0 0), (1, .v (.str code))], [(1008, .row 54 5 (gG.1.map eApiCodeEntry)), (0, .blk 81 [.v (.sl 1 (gG.2.1.map eInt_i64)), .v (.int .i64 gG.2.2.1)]), (7, .blk 54 [.v (.str code), .v (.int .i64 gG.2.2.2.1), .v (.int .i64 gG.2.2.2.2), .v (.sl 1 (c7_32.map eLStr)), .v (.bool c7_4)])]⟩) (fun gG => srcEntryR_j3 code c7_32 c7_4 gG.1 gG.2.1 gG.2.2.1 gG.2.2.2.1 gG.2.2.2.2 = some r) ?_ ?_
    ·refine WC.cond rfl (fun hc3 => ?_) (fun hc3 => ?_)
     ·replace h := ite_t hc3 h
      refine sr (lr1 rfl ?_)
      replace h := bnd h; obtain ⟨v5, hvv5, h⟩ := h
      refine WL.callO [(0, 0)] [(0, 0)] [0] fn46 rfl rfl rfl rfl (by exact trivial) (srcNext_con hw hvv5) rfl rfl (by exact eqs) rfl rfl rfl rfl rfl rfl ?_
      refine nn (WC.block (sr (lr2 rfl (nn ?_))))
      refine WC.cond rfl (fun hc4 => ?_) (fun hc4 => ?_)
      ·replace h := ite_t hc4 h
       refine sr (lr3 rfl (ns (lr4 rfl (ns (lr1 rfl ?_)))))
       replace h := bnd h; obtain ⟨v6, hvv6, h⟩ := h
       refine WL.callO [(0, 0)] [(0, 0)] [0] fn99 rfl rfl rfl rfl (by exact trivial) (srcTerms_con hw hvv6) rfl rfl (by exact eqs) rfl rfl rfl rfl rfl rfl ?_
       refine lr2 rfl (ns (lr2 rfl (nn (WC.region (lr3 rfl ?_)))))
       obtain ⟨g5, h⟩ := grd h
       refine WL.append tbOk ([(⟨code, (0 : Int), (10 : Int), v6.1, false⟩ : ApiCodeEntry)].map eApiCodeEntry) [52] ap25 rfl rfl rfl rfl (fun _ e => by cases e) (by exact trivial) (map_cells (f := eApiCodeEntry) (xs := [(⟨code, (0 : Int), (10 : Int), v6.1, false⟩ : ApiCodeEntry)]) fun _ => rfl) (by have := g5; simp only [List.length_map, List.length_nil, List.length_cons] at this ⊢; omega) rfl rfl rfl rfl ?_
       refine lr1 rfl (WL.nil (WQ.blockNormal ?_))
       exact WQ.cut [(1008, 52)] ([(⟨code, (0 : Int), (10 : Int), v6.1, false⟩ : ApiCodeEntry)], v6.2.L, v6.2.I, (10 : Int), end_) sub h
      ·replace h := ite_f hc4 h
       refine sr (lr2 rfl (nn ?_))
       refine WC.cond rfl (fun hc5 => ?_) (fun hc5 => ?_)
       ·replace h := ite_t hc5 h
        refine WC.region (lr2 rfl (WL.nil (WQ.blockNormal ?_)))
        refine WQ.rowNil 8 1008 54 5 rfl rfl ?_
        exact WQ.cut [] ([], v5.2.L, v5.2.I, (0 : Int), (12 : Int)) sub h
       ·replace h := ite_f hc5 h
        refine WC.skip (WQ.blockNormal ?_)
        refine WQ.rowNil 8 1008 54 5 rfl rfl ?_
        exact WQ.cut [] ([], v5.2.L, v5.2.I, (0 : Int), end_) sub h
     ·replace h := ite_f hc3 h
      refine WC.skip ?_
      refine WQ.rowNil 8 1008 54 5 rfl rfl ?_
      exact WQ.cut [] ([], v.2.L, v.2.I, (0 : Int), end_) sub h
    ·rintro ⟨out, c0_02, c0_12, c7_1, c7_2⟩ h
     replace h : srcEntryR_j3 code c7_32 c7_4 out c0_02 c0_12 c7_1 c7_2 = some _ := h
     unfold srcEntryR_j3 at h
     try dsimp only [slotsOf]
     refine sr (lr3 rfl ?_)
     obtain ⟨g1, h⟩ := grd h
     refine WL.append tbOk ((out ++ [(⟨code, c7_1, c7_2, c7_32, c7_4⟩ : ApiCodeEntry)]).map eApiCodeEntry) [59, 1008] ap25 rfl rfl rfl rfl (fun _ e => by cases e; rfl) (by exact trivial) (map_cells (f := eApiCodeEntry) (xs := [(⟨code, c7_1, c7_2, c7_32, c7_4⟩ : ApiCodeEntry)]) fun _ => rfl) (by have := g1; simp only [List.length_map, List.length_nil, List.length_cons] at this ⊢; omega) rfl rfl (by simp only [List.map_append]; try rfl) rfl ?_
     refine lr1 rfl (nn (WC.seq (sr (lr3 rfl (nn ?_)))))
     refine WC.cond rfl (fun hc1 => ?_) (fun hc1 => ?_)
     ·replace h := ite_t hc1 h
      refine sr (lr2 rfl (nr (WQ.thenRet ?_)))
      cases h
      exact WQ.rets tbOk hR [(500, 59)] (.inl rfl) rfl rfl (Le.refl _) (by exact eqs) rfl rfl rfl rfl
     ·replace h := ite_f hc1 h
      refine kn (WC.seq (sr (lr1 rfl ?_)))
      replace h := bnd h; obtain ⟨v2, hvv2, h⟩ := h
      refine WL.callO [(0, 0)] [(0, 0)] [0] fn46 rfl rfl rfl rfl (by exact trivial) (srcNext_con hw hvv2) rfl rfl (by exact eqs) rfl rfl rfl rfl rfl rfl ?_
      refine lr2 rfl (nn ?_)
      refine WC.thenCut (X := (List ApiCodeEntry) × (List Int) × Int) (fun gG => ⟨[(8, .r 1008), (0, .p 0 0)], [(1008, .row 54 5 (gG.1.map eApiCodeEntry)), (0, .blk 81 [.v (.sl 1 (gG.2.1.map eInt_i64)), .v (.int .i64 gG.2.2)])]⟩) (fun gG => srcEntryR_j4 gG.1 gG.2.1 gG.2.2 = some r) ?_ ?_
      ·refine WC.block ?_
       obtain ⟨eQ1, hl1, hk1⟩ := bnd h
       clear h
       refine WC.loop (σ := Int × (List ApiCodeEntry) × (List Int) × Int) (τ := ((List ApiCodeEntry) × (List Int) × Int)) (fun sS => ⟨[(11, .v (.int .i64 v2.1)), (10, .v (.int .i64 sS.1)), (8, .r 1008), (7, .p 7 0), (0, .p 0 0), (1, .v (.str code))], [(1008, .row 54 5 (sS.2.1.map eApiCodeEntry)), (0, .blk 81 [.v (.sl 1 (sS.2.2.1.map eInt_i64)), .v (.int .i64 sS.2.2.2)]), (7, .blk 54 [.v (.str code), .v (.int .i64 c7_1), .v (.int .i64 c7_2), .v (.sl 1 (c7_32.map eLStr)), .v (.bool c7_4)])]⟩) (srcEntryR_b1 code c7_32 c7_4 c7_1 c7_2 v2) [(1008, 59)] ((1 : Int), (out ++ [(⟨code, c7_1, c7_2, c7_32, c7_4⟩ : ApiCodeEntry)]), v2.2.L, v2.2.I) hl1 sub ?_
       rintro ⟨i, out3, c0_04, c0_14⟩ m hn1 he1 hx1
       obtain ⟨o1, hf1⟩ := some_of hx1
       have h := hf1
       unfold srcEntryR_b1 at h
       try dsimp only [slotsOf]
       refine WC.seq (sr (lr3 rfl (nn ?_)))
       refine WC.cond rfl (fun hc2 => ?_) (fun hc2 => ?_)
       ·replace h := ite_t hc2 h
        refine kn (sb (WC.region ?_))
        obtain ⟨g2, h⟩ := grd h
        refine lr 8 rfl (by repeat' (first | exact trivial | assumption | intro _ | exact g2 (by assumption) | apply And.intro | exact sideT | (refine and_i ?_ ?_))) ?_
        refine WL.q [] rfl rfl rfl (q_b2s tbOk (xs := [(IntKind.u8.wrap (IntKind.i64.wrap ((48 : Int) + i)))]) by23 rfl (by exact trivial)) ?_
        obtain ⟨g3, h⟩ := grd h
        refine lr 3 rfl (by repeat' (first | exact trivial | assumption | intro _ | exact g3 (by assumption) | apply And.intro | exact sideT | (refine and_i ?_ ?_))) ?_
        replace h := bnd h; obtain ⟨v4, hvv4, h⟩ := h
        refine WL.callO [(0, 0)] [(0, 0)] [0] fn48 rfl rfl rfl rfl (by exact trivial) (srcEntry_con hw hvv4) rfl rfl (by exact eqs) rfl rfl rfl rfl rfl rfl ?_
        obtain ⟨g4, h⟩ := grd h
        refine WL.append tbOk ((out3 ++ v4.1).map eApiCodeEntry) [84, 1008] ap25 rfl rfl rfl rfl (fun _ e => by cases e; rfl) (by exact trivial) (map_cells (f := eApiCodeEntry) (xs := v4.1) fun _ => rfl) (by have := g4; simp only [List.length_map, List.length_nil, List.length_cons] at this ⊢; omega) rfl rfl (by simp only [List.map_append]; try rfl) rfl ?_
        refine lr1 rfl (WL.nil (bn (WC.region (lr3 rfl (WL.nil ?_)))))
        cases h
        exact WQ.next [(1008, 84)] ((IntKind.i64.wrap (i + (1 : Int))), (out3 ++ v4.1), v4.2.L, v4.2.I) sub (hn1 _ hf1)
       ·replace h := ite_f hc2 h
        refine WC.exit (WQ.thenExit ?_)
        cases h
        have he := he1 _ hf1
        subst he
        replace h := hk1
        try dsimp only at h
        refine eb ?_
        exact WQ.cut [] (out3, c0_04, c0_14) sub h
      ·rintro ⟨out2, c0_03, c0_13⟩ h
       replace h : srcEntryR_j4 out2 c0_03 c0_13 = some _ := h
       unfold srcEntryR_j4 at h
       try dsimp only [slotsOf]
       refine sr (lr2 rfl (nr ?_))
       cases h
       exact WQ.rets tbOk hR [(500, 1008)] (.inl rfl) rfl rfl (Le.refl _) (by exact eqs) rfl rfl rfl rfl
  ·replace h := ifn hk1 h
   refine WC.region (lr4 rfl ?_)
   refine WL.skipg (.v (.raw (.nilIface))) rfl rfl rfl rfl (Bool.eq_false_iff.2 hk1) ?_
   refine WL.skipg (.v (.raw (.nilIface))) rfl rfl rfl rfl (Bool.eq_false_iff.2 hk1) ?_
   refine WL.skipg (.v (.bool false)) rfl rfl rfl rfl (Bool.eq_false_iff.2 hk1) ?_
   refine lr 1 rfl (by repeat' (first | exact trivial | assumption | intro _ | (exact absurd (by assumption) hk1) | (exfalso; simp_all; done) | apply And.intro | exact sideT | (refine and_i ?_ ?_))) ?_
   refine nn ?_
   refine WC.thenCut (X := (List (List Str)) × Bool) (fun gG => ⟨[(8, .v (.raw (.slice none 0 0))), (7, .p 7 0), (0, .p 0 0), (1, .v (.str code)), (2, .v (.int .i64 end_))], [(0, .blk 81 [.v (.sl 1 (c0_0.map eInt_i64)), .v (.int .i64 c0_1)]), (7, .blk 54 [.v (.str code), .v (.int .i64 (0 : Int)), .v (.int .i64 end_), .v (.sl 1 (gG.1.map eLStr)), .v (.bool gG.2)])]⟩) (fun gG => srcEntryR_j5 code end_ c0_0 c0_1 gG.1 gG.2 = some r) ?_ ?_
   ·refine WC.cond rfl (fun hc12 => ?_) (fun hc12 => ?_)
    ·replace h := ite_t hc12 h
     refine WC.region (lr4 rfl (WL.nil ?_))
     refine WQ.weakenO 7 (.blk 54 [.v (.str code), .v (.int .i64 (0 : Int)), .v (.int .i64 end_), .v (.sl 1 ([].map eLStr)), .v (.bool true)]) rfl (LeO.blk (.cons (Le.refl _) (.cons (Le.refl _) (.cons (Le.refl _) (.cons (Le.nil 1) (.cons (Le.refl _) .nil)))))) rfl ?_
     exact WQ.cut [] ([], true) sub h
    ·replace h := ite_f hc12 h
     refine WC.skip ?_
     exact WQ.cut [] (c7_3, false) sub h
   ·rintro ⟨c7_33, c7_42⟩ h
    replace h : srcEntryR_j5 code end_ c0_0 c0_1 c7_33 c7_42 = some _ := h
    unfold srcEntryR_j5 at h
    try dsimp only [slotsOf]
    refine WC.seq (sr ?_)
    refine lr 7 rfl (by exact sideR) ?_
    refine nn ?_
    refine WC.thenCut (X := (List ApiCodeEntry) × (List Int) × Int × Int × Int) (fun gG => ⟨[(8, .r 1008), (7, .p 7 0), (0, .p 0 0), (1, .v (.str code))], [(1008, .row 54 5 (gG.1.map eApiCodeEntry)), (0, .blk 81 [.v (.sl 1 (gG.2.1.map eInt_i64)), .v (.int .i64 gG.2.2.1)]), (7, .blk 54 [.v (.str code), .v (.int .i64 gG.2.2.2.1), .v (.int .i64 gG.2.2.2.2), .v (.sl 1 (c7_33.map eLStr)), .v (.bool c7_42)])]⟩) (fun gG => srcEntryR_j6 code c7_33 c7_42 gG.1 gG.2.1 gG.2.2.1 gG.2.2.2.1 gG.2.2.2.2 = some r) ?_ ?_
    ·refine WC.cond rfl (fun hc9 => ?_) (fun hc9 => ?_)
     ·replace h := ite_t hc9 h
      refine sr (lr1 rfl ?_)
      replace h := bnd h; obtain ⟨v10, hvv10, h⟩ := h
      refine WL.callO [(0, 0)] [(0, 0)] [0] fn46 rfl rfl rfl rfl (by exact trivial) (srcNext_con hw hvv10) rfl rfl (by exact eqs) rfl rfl rfl rfl rfl rfl ?_
      refine nn (WC.block (sr (lr2 rfl (nn ?_))))
      refine WC.cond rfl (fun hc10 => ?_) (fun hc10 => ?_)
      ·replace h := ite_t hc10 h
       refine sr (lr3 rfl (ns (lr4 rfl (ns (lr1 rfl ?_)))))
       replace h := bnd h; obtain ⟨v11, hvv11, h⟩ := h
       refine WL.callO [(0, 0)] [(0, 0)] [0] fn99 rfl rfl rfl rfl (by exact trivial) (srcTerms_con hw hvv11) rfl rfl (by exact eqs) rfl rfl rfl rfl rfl rfl ?_
       refine lr2 rfl (ns (lr2 rfl (nn (WC.region (lr3 rfl ?_)))))
       obtain ⟨g10, h⟩ := grd h
       refine WL.append tbOk ([(⟨code, (0 : Int), (10 : Int), v11.1, false⟩ : ApiCodeEntry)].map eApiCodeEntry) [52] ap25 rfl rfl rfl rfl (fun _ e => by cases e) (by exact trivial) (map_cells (f := eApiCodeEntry) (xs := [(⟨code, (0 : Int), (10 : Int), v11.1, false⟩ : ApiCodeEntry)]) fun _ => rfl) (by have := g10; simp only [List.length_map, List.length_nil, List.length_cons] at this ⊢; omega) rfl rfl rfl rfl ?_
       refine lr1 rfl (WL.nil (WQ.blockNormal ?_))
       exact WQ.cut [(1008, 52)] ([(⟨code, (0 : Int), (10 : Int), v11.1, false⟩ : ApiCodeEntry)], v11.2.L, v11.2.I, (10 : Int), end_) sub h
      ·replace h := ite_f hc10 h
       refine sr (lr2 rfl (nn ?_))
       refine WC.cond rfl (fun hc11 => ?_) (fun hc11 => ?_)
       ·replace h := ite_t hc11 h
        refine WC.region (lr2 rfl (WL.nil (WQ.blockNormal ?_)))
        refine WQ.rowNil 8 1008 54 5 rfl rfl ?_
        exact WQ.cut [] ([], v10.2.L, v10.2.I, (0 : Int), (12 : Int)) sub h
       ·replace h := ite_f hc11 h
        refine WC.skip (WQ.blockNormal ?_)
        refine WQ.rowNil 8 1008 54 5 rfl rfl ?_
        exact WQ.cut [] ([], v10.2.L, v10.2.I, (0 : Int), end_) sub h
     ·replace h := ite_f hc9 h
      refine WC.skip ?_
      refine WQ.rowNil 8 1008 54 5 rfl rfl ?_
      exact WQ.cut [] ([], c0_0, c0_1, (0 : Int), end_) sub h
    ·rintro ⟨out6, c0_07, c0_17, c7_12, c7_22⟩ h
     replace h : srcEntryR_j6 code c7_33 c7_42 out6 c0_07 c0_17 c7_12 c7_22 = some _ := h
     unfold srcEntryR_j6 at h
     try dsimp only [slotsOf]
     refine sr (lr3 rfl ?_)
     obtain ⟨g6, h⟩ := grd h
     refine WL.append tbOk ((out6 ++ [(⟨code, c7_12, c7_22, c7_33, c7_42⟩ : ApiCodeEntry)]).map eApiCodeEntry) [59, 1008] ap25 rfl rfl rfl rfl (fun _ e => by cases e; rfl) (by exact trivial) (map_cells (f := eApiCodeEntry) (xs := [(⟨code, c7_12, c7_22, c7_33, c7_42⟩ : ApiCodeEntry)]) fun _ => rfl) (by have := g6; simp only [List.length_map, List.length_nil, List.length_cons] at this ⊢; omega) rfl rfl (by simp only [List.map_append]; try rfl) rfl ?_
     refine lr1 rfl (nn (WC.seq (sr (lr3 rfl (nn ?_)))))
     refine WC.cond rfl (fun hc7 => ?_) (fun hc7 => ?_)
     ·replace h := ite_t hc7 h
      refine sr (lr2 rfl (nr (WQ.thenRet ?_)))
      cases h
      exact WQ.rets tbOk hR [(500, 59)] (.inl rfl) rfl rfl (Le.refl _) (by exact eqs) rfl rfl rfl rfl
     ·replace h := ite_f hc7 h
      refine kn (WC.seq (sr (lr1 rfl ?_)))
      replace h := bnd h; obtain ⟨v7, hvv7, h⟩ := h
      refine WL.callO [(0, 0)] [(0, 0)] [0] fn46 rfl rfl rfl rfl (by exact trivial) (srcNext_con hw hvv7) rfl rfl (by exact eqs) rfl rfl rfl rfl rfl rfl ?_
      refine lr2 rfl (nn ?_)
      refine WC.thenCut (X := (List ApiCodeEntry) × (List Int) × Int) (fun gG => ⟨[(8, .r 1008), (0, .p 0 0)], [(1008, .row 54 5 (gG.1.map eApiCodeEntry)), (0, .blk 81 [.v (.sl 1 (gG.2.1.map eInt_i64)), .v (.int .i64 gG.2.2)])]⟩) (fun gG => srcEntryR_j7 gG.1 gG.2.1 gG.2.2 = some r) ?_ ?_
      ·refine WC.block ?_
       obtain ⟨eQ2, hl2, hk2⟩ := bnd h
       clear h
       refine WC.loop (σ := Int × (List ApiCodeEntry) × (List Int) × Int) (τ := ((List ApiCodeEntry) × (List Int) × Int)) (fun sS => ⟨[(11, .v (.int .i64 v7.1)), (10, .v (.int .i64 sS.1)), (8, .r 1008), (7, .p 7 0), (0, .p 0 0), (1, .v (.str code))], [(1008, .row 54 5 (sS.2.1.map eApiCodeEntry)), (0, .blk 81 [.v (.sl 1 (sS.2.2.1.map eInt_i64)), .v (.int .i64 sS.2.2.2)]), (7, .blk 54 [.v (.str code), .v (.int .i64 c7_12), .v (.int .i64 c7_22), .v (.sl 1 (c7_33.map eLStr)), .v (.bool c7_42)])]⟩) (srcEntryR_b2 code c7_33 c7_42 c7_12 c7_22 v7) [(1008, 59)] ((1 : Int), (out6 ++ [(⟨code, c7_12, c7_22, c7_33, c7_42⟩ : ApiCodeEntry)]), v7.2.L, v7.2.I) hl2 sub ?_
       rintro ⟨i3, out8, c0_09, c0_19⟩ m hn2 he2 hx2
       obtain ⟨o2, hf2⟩ := some_of hx2
       have h := hf2
       unfold srcEntryR_b2 at h
       try dsimp only [slotsOf]
       refine WC.seq (sr (lr3 rfl (nn ?_)))
       refine WC.cond rfl (fun hc8 => ?_) (fun hc8 => ?_)
       ·replace h := ite_t hc8 h
        refine kn (sb (WC.region ?_))
        obtain ⟨g7, h⟩ := grd h
        refine lr 8 rfl (by repeat' (first | exact trivial | assumption | intro _ | exact g7 (by assumption) | apply And.intro | exact sideT | (refine and_i ?_ ?_))) ?_
        refine WL.q [] rfl rfl rfl (q_b2s tbOk (xs := [(IntKind.u8.wrap (IntKind.i64.wrap ((48 : Int) + i3)))]) by23 rfl (by exact trivial)) ?_
        obtain ⟨g8, h⟩ := grd h
        refine lr 3 rfl (by repeat' (first | exact trivial | assumption | intro _ | exact g8 (by assumption) | apply And.intro | exact sideT | (refine and_i ?_ ?_))) ?_
        replace h := bnd h; obtain ⟨v9, hvv9, h⟩ := h
        refine WL.callO [(0, 0)] [(0, 0)] [0] fn48 rfl rfl rfl rfl (by exact trivial) (srcEntry_con hw hvv9) rfl rfl (by exact eqs) rfl rfl rfl rfl rfl rfl ?_
        obtain ⟨g9, h⟩ := grd h
        refine WL.append tbOk ((out8 ++ v9.1).map eApiCodeEntry) [84, 1008] ap25 rfl rfl rfl rfl (fun _ e => by cases e; rfl) (by exact trivial) (map_cells (f := eApiCodeEntry) (xs := v9.1) fun _ => rfl) (by have := g9; simp only [List.length_map, List.length_nil, List.length_cons] at this ⊢; omega) rfl rfl (by simp only [List.map_append]; try rfl) rfl ?_
        refine lr1 rfl (WL.nil (bn (WC.region (lr3 rfl (WL.nil ?_)))))
        cases h
        exact WQ.next [(1008, 84)] ((IntKind.i64.wrap (i3 + (1 : Int))), (out8 ++ v9.1), v9.2.L, v9.2.I) sub (hn2 _ hf2)
       ·replace h := ite_f hc8 h
        refine WC.exit (WQ.thenExit ?_)
        cases h
        have he := he2 _ hf2
        subst he
        replace h := hk2
        try dsimp only at h
        refine eb ?_
        exact WQ.cut [] (out8, c0_09, c0_19) sub h
      ·rintro ⟨out7, c0_08, c0_18⟩ h
       replace h : srcEntryR_j7 out7 c0_08 c0_18 = some _ := h
       unfold srcEntryR_j7 at h
       try dsimp only [slotsOf]
       refine sr (lr2 rfl (nr ?_))
       cases h
       exact WQ.rets tbOk hR [(500, 1008)] (.inl rfl) rfl rfl (Le.refl _) (by exact eqs) rfl rfl rfl rfl
theorem madeNom_con {wg : World} (hw : WG wg) {l : (List Int)} {r : ApiNomenclature} (h : madeNom l = some r) : Con Tryz.prog wg gl 13 [.v (.sl 1 (l.map eInt_i64))] [] (.v (.agg [.sl 5 (r.Entries.map eApiCodeEntry), .sl 3 (r.Notes.map eApiCodeNote)])) [] := by
 unfold madeNom at h
 refine con_of_WC (S := slotsOf 0 _) Tryz.func13 rfl Tryz.ntmps13 rfl (fun t x hx => (slotsOf_get hx).2) ?_
 intro F L w ρ0 R hR
 try dsimp only [slotsOf]
 refine sr (lr1 rfl (ns (lr1 rfl ?_)))
 replace h := bnd h; obtain ⟨v, hvv, h⟩ := h
 refine WL.call0 fn45 rfl rfl rfl rfl (by exact trivial) rfl (madeCut_con hw hvv) ?_
 refine lr3 rfl (ns (lr3 rfl (nn (WC.seq (sr (lr1 rfl ?_))))))
 replace h := bnd h; obtain ⟨v2, hvv2, h⟩ := h
 refine WL.callO [(0, 10)] [(0, 10)] [10] fn46 rfl rfl rfl rfl (by exact trivial) (srcNext_con hw hvv2) rfl rfl (by exact eqs) rfl rfl rfl rfl rfl rfl ?_
 refine lr1 rfl (nn ?_)
 refine WC.thenCut (X := (List Int) × Int × (List ApiCodeNote)) (fun gG => ⟨[(4, .p 4 0), (3, .p 10 0), (2, .p 2 0)], [(10, .blk 81 [.v (.sl 1 (gG.1.map eInt_i64)), .v (.int .i64 gG.2.1)]), (2, .blk 28 [.v (.raw (.slice none 0 0)), .v (.raw (.slice none 0 0))]), (2201, .row 77 3 (gG.2.2.map eApiCodeNote)), (4, .blk 28 [.v (.raw (.slice none 0 0)), .r 2201])]⟩) (fun gG => madeNom_j1 gG.1 gG.2.1 gG.2.2 = some r) ?_ ?_
 ·refine WC.block ?_
  obtain ⟨eQ1, hl1, hk1⟩ := bnd h
  clear h
  refine WC.rowNilB 4 1 2201 77 3 rfl rfl rfl (cs2 := [.v (.raw (.slice none 0 0)), .r 2201]) rfl ?_
  refine WC.loop (σ := Int × (List Int) × Int × (List ApiCodeNote)) (τ := ((List Int) × Int × (List ApiCodeNote))) (fun sS => ⟨[(5, .v (.int .i64 sS.1)), (4, .p 4 0), (3, .p 10 0), (2, .p 2 0)], [(10, .blk 81 [.v (.sl 1 (sS.2.1.map eInt_i64)), .v (.int .i64 sS.2.2.1)]), (2, .blk 28 [.v (.raw (.slice none 0 0)), .v (.raw (.slice none 0 0))]), (2201, .row 77 3 (sS.2.2.2.map eApiCodeNote)), (4, .blk 28 [.v (.raw (.slice none 0 0)), .r 2201])]⟩) (madeNom_b1) [] (v2.1, v2.2.L, v2.2.I, []) hl1 sub ?_
  rintro ⟨n12, c10_04, c10_14, c4_12⟩ m hn1 he1 hx1
  obtain ⟨o1, hf1⟩ := some_of hx1
  have h := hf1
  unfold madeNom_b1 at h
  try dsimp only [slotsOf]
  refine WC.seq (sr (lr2 rfl (nn ?_)))
  refine WC.cond rfl (fun hc1 => ?_) (fun hc1 => ?_)
  ·replace h := ite_t hc1 h
   refine kn (sb (WC.seq (WC.order mixed ?_)))
   refine wr 2 rfl trivial ?_
   replace h := bnd h; obtain ⟨v13, hvv13, h⟩ := h
   refine WR.callO [(0, 10)] [(0, 10)] [10] fn46 rfl rfl rfl rfl (by exact trivial) (srcNext_con hw hvv13) rfl rfl (by exact eqs) rfl rfl rfl rfl rfl rfl ?_
   obtain ⟨g2, h⟩ := grd h
   replace h := bnd h; obtain ⟨x5, hxx5, h⟩ := h
   refine WR.q [] rfl rfl rfl (q_idx tbOk rfl (by exact trivial) g2 (map_get (f := eStr) hxx5)) ?_
   refine wr 2 rfl trivial ?_
   replace h := bnd h; obtain ⟨v14, hvv14, h⟩ := h
   refine WR.callO [(0, 10)] [(0, 10)] [10] fn47 rfl rfl rfl rfl (by exact trivial) (srcWords_con hw hvv14) rfl rfl (by exact eqs) rfl rfl rfl rfl rfl rfl ?_
   refine wr 3 rfl trivial ?_
   refine WR.nil (by kernel_rfl) (WQ.thenNormal (WC.seq (sr (lr1 rfl ?_))))
   replace h := bnd h; obtain ⟨v15, hvv15, h⟩ := h
   refine WL.callO [(0, 10)] [(0, 10)] [10] fn46 rfl rfl rfl rfl (by exact trivial) (srcNext_con hw hvv15) rfl rfl (by exact eqs) rfl rfl rfl rfl rfl rfl ?_
   refine lr1 rfl (nn ?_)
   refine WC.thenCut (X := (List Int) × Int × (List ApiCodeNote) × Str) (fun gG => ⟨[(6, .p 6 0), (5, .v (.int .i64 n12)), (4, .p 4 0), (3, .p 10 0), (2, .p 2 0)], [(10, .blk 81 [.v (.sl 1 (gG.1.map eInt_i64)), .v (.int .i64 gG.2.1)]), (2, .blk 28 [.v (.raw (.slice none 0 0)), .v (.raw (.slice none 0 0))]), (2201, .row 77 3 (gG.2.2.1.map eApiCodeNote)), (4, .blk 28 [.v (.raw (.slice none 0 0)), .r 2201]), (6, .blk 77 [.v (.str x5), .v (.sl 1 (v14.1.map eStr)), .v (.str gG.2.2.2)])]⟩) (fun gG => madeNom_j2 n12 x5 v14 gG.1 gG.2.1 gG.2.2.1 gG.2.2.2 = some o1) ?_ ?_
   ·refine WC.cond rfl (fun hc2 => ?_) (fun hc2 => ?_)
    ·replace h := ite_t hc2 h
     refine WC.region (lr2 rfl ?_)
     replace h := bnd h; obtain ⟨v16, hvv16, h⟩ := h
     refine WL.callO [(0, 10)] [(0, 10)] [10] fn46 rfl rfl rfl rfl (by exact trivial) (srcNext_con hw hvv16) rfl rfl (by exact eqs) rfl rfl rfl rfl rfl rfl ?_
     obtain ⟨g4, h⟩ := grd h
     replace h := bnd h; obtain ⟨x6, hxx6, h⟩ := h
     refine WL.q [] rfl rfl rfl (q_idx tbOk rfl (by exact trivial) g4 (map_get (f := eStr) hxx6)) ?_
     refine lr3 rfl (WL.nil ?_)
     exact WQ.cut [] (v16.2.L, v16.2.I, c4_12, x6) sub h
    ·replace h := ite_f hc2 h
     refine WC.skip ?_
     exact WQ.cut [] (v15.2.L, v15.2.I, c4_12, []) sub h
   ·rintro ⟨c10_07, c10_17, c4_15, c6_23⟩ h
    replace h : madeNom_j2 n12 x5 v14 c10_07 c10_17 c4_15 c6_23 = some _ := h
    unfold madeNom_j2 at h
    try dsimp only [slotsOf]
    refine WC.region (lr4 rfl ?_)
    obtain ⟨g3, h⟩ := grd h
    refine WL.append tbOk ((c4_15 ++ [(⟨x5, v14.1, c6_23⟩ : ApiCodeNote)]).map eApiCodeNote) [39, 2201] ap26 rfl rfl rfl rfl (fun _ e => by cases e; rfl) (by exact trivial) (map_cells (f := eApiCodeNote) (xs := [(⟨x5, v14.1, c6_23⟩ : ApiCodeNote)]) fun _ => rfl) (by have := g3; simp only [List.length_map, List.length_nil, List.length_cons] at this ⊢; omega) rfl rfl (by simp only [List.map_append]; try rfl) rfl ?_
    refine lr2 rfl (WL.nil (bn (WC.region (lr3 rfl (WL.nil ?_)))))
    cases h
    exact WQ.next [(2201, 39)] ((IntKind.i64.wrap (n12 - (1 : Int))), c10_07, c10_17, (c4_15 ++ [(⟨x5, v14.1, c6_23⟩ : ApiCodeNote)])) sub (hn1 _ hf1)
  ·replace h := ite_f hc1 h
   refine WC.exit (WQ.thenExit ?_)
   cases h
   have he := he1 _ hf1
   subst he
   replace h := hk1
   try dsimp only at h
   refine eb ?_
   exact WQ.cut [] (c10_04, c10_14, c4_12) sub h
 ·rintro ⟨c10_0, c10_1, c4_1⟩ h
  replace h : madeNom_j1 c10_0 c10_1 c4_1 = some _ := h
  unfold madeNom_j1 at h
  try dsimp only [slotsOf]
  refine sr (lr1 rfl ?_)
  replace h := bnd h; obtain ⟨v3, hvv3, h⟩ := h
  refine WL.callO [(0, 10)] [(0, 10), (500, 42)] [10, 42] fn48 rfl rfl rfl rfl (by exact trivial) (srcEntryR_con hw hvv3) rfl rfl (by exact eqs) rfl rfl rfl rfl rfl rfl ?_
  refine lr1 rfl ?_
  replace h := bnd h; obtain ⟨v4, hvv4, h⟩ := h
  refine WL.callO [(0, 10)] [(0, 10)] [10] fn48 rfl rfl rfl rfl (by exact trivial) (srcEntry_con hw hvv4) rfl rfl (by exact eqs) rfl rfl rfl rfl rfl rfl ?_
  obtain ⟨g1, h⟩ := grd h
  refine WL.append tbOk ((v3.1 ++ v4.1).map eApiCodeEntry) [45, 42] ap25 rfl rfl rfl rfl (fun _ e => by cases e; rfl) (by exact trivial) (map_cells (f := eApiCodeEntry) (xs := v4.1) fun _ => rfl) (by have := g1; simp only [List.length_map, List.length_nil, List.length_cons] at this ⊢; omega) rfl rfl (by simp only [List.map_append]; try rfl) rfl ?_
  refine lr2 rfl (nn (WC.seq ?_))
  refine WC.publish 45 rfl rfl ?_
  refine WC.publish 2201 rfl rfl ?_
  refine WC.region (lr2 rfl (nr ?_))
  cases h
  exact rt tbOk hR
end Go.Proofs.YtfkefolbabniaaaGreatDoor
end
