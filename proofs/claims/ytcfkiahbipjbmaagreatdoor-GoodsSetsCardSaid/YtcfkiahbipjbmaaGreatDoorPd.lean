/- Plain functions, read off the program by program (gen.py): no program in sight. -/
import Derived.Test.YtcfkiahbipjbmaaGreatDoorPl
import Derived.Test.YtcfkiahbipjbmaaGreatDoorPa
import Derived.Test.YtcfkiahbipjbmaaGreatDoorPb
import Derived.Test.YtcfkiahbipjbmaaGreatDoorPc
set_option linter.unusedVariables false
namespace Go.C
open Go.V

noncomputable def isNaN (x : Int) : Option (Bool) :=
  some (x != x)

noncomputable def cmpInt (x : Int) (y : Int) : Option (Int) :=
  (isNaN x).bind fun v =>
    (isNaN y).bind fun v2 =>
      if v = true then
        if v2 = true then
          some (0 : Int)
        else
          some (-1 : Int)
      else
        if v2 = true then
          some (1 : Int)
        else
          if (decide (x < y)) = true then
            some (-1 : Int)
          else
            if (decide (y < x)) = true then
              some (1 : Int)
            else
              some (0 : Int)

noncomputable def charLess (a : ApiComponent) (b : ApiComponent) : Option (Int) :=
  (cmpInt b.Share a.Share).bind fun v =>
    some v

noncomputable def insSort_j1 (a : Int) (b : Int) (i : Int) (row08 : (List ApiComponent)) : Option ((Int × (List ApiComponent)) ⊕ ((List ApiComponent))) :=
  some (.inl ((IntKind.i64.wrap (i + (1 : Int))), row08))
noncomputable def insSort_b2 (a : Int) (b : Int) (i : Int) : (Int × (List ApiComponent)) → Option ((Int × (List ApiComponent)) ⊕ ((List ApiComponent)))
  | (j3, row09) =>
    if ((decide (a < j3)) = true → (0 ≤ j3 ∧ j3 < (row09.length : Int))) then
      if ((decide (a < j3)) = true → (0 ≤ (IntKind.i64.wrap (j3 - (1 : Int))) ∧ (IntKind.i64.wrap (j3 - (1 : Int))) < (row09.length : Int))) then
        (if (decide (a < j3)) = true then charLess (row09.getD j3.toNat default) (row09.getD (IntKind.i64.wrap (j3 - (1 : Int))).toNat default) else some default).bind fun v4 =>
          if (bif (decide (a < j3)) then (decide (v4 < (0 : Int))) else false) = true then
            if (0 ≤ (IntKind.i64.wrap (j3 - (1 : Int))) ∧ (IntKind.i64.wrap (j3 - (1 : Int))) < (row09.length : Int)) then
              if (0 ≤ j3 ∧ j3 < (row09.length : Int)) then
                if (0 ≤ j3 ∧ j3 < (row09.length : Int)) then
                  if (0 ≤ (IntKind.i64.wrap (j3 - (1 : Int))) ∧ (IntKind.i64.wrap (j3 - (1 : Int))) < ((row09.set j3.toNat (row09.getD (IntKind.i64.wrap (j3 - (1 : Int))).toNat default)).length : Int)) then
                    some (.inl ((IntKind.i64.wrap (j3 - (1 : Int))), ((row09.set j3.toNat (row09.getD (IntKind.i64.wrap (j3 - (1 : Int))).toNat default)).set (IntKind.i64.wrap (j3 - (1 : Int))).toNat (row09.getD j3.toNat default))))
                  else none
                else none
              else none
            else none
          else
            some (.inr row09)
      else none
    else none
noncomputable def insSort_b1 (a : Int) (b : Int) : (Int × (List ApiComponent)) → Option ((Int × (List ApiComponent)) ⊕ ((List ApiComponent)))
  | (i, row0) =>
    if (decide (i < b)) = true then
      (loopO (insSort_b2 a b i) (i, row0)).bind fun e => match e with
        | row011 =>
          insSort_j1 a b i row011
    else
      some (.inr row0)
noncomputable def insSort (data : (List ApiComponent)) (a : Int) (b : Int) : Option ((List ApiComponent)) :=
  (loopO (insSort_b1 a b) ((IntKind.i64.wrap (a + (1 : Int))), data)).bind fun e => match e with
    | row07 =>
      some row07

noncomputable def stableSort_j2 (n1 : Int) (v : (List ApiComponent)) (blockSize : Int) (a6 : Int) : Option ((Int) ⊕ (Unit)) :=
  if (decide ((IntKind.i64.wrap (a6 + blockSize)) < n1)) = true then
    none
  else
    some (.inl (IntKind.i64.wrap (blockSize * (2 : Int))))
noncomputable def stableSort_b2 (n1 : Int) (v : (List ApiComponent)) (blockSize : Int) : (Int × Int) → Option ((Int × Int) ⊕ (Int))
  | (b3, a7) =>
    if (decide (b3 ≤ n1)) = true then
      none
    else
      some (.inr a7)
noncomputable def stableSort_b1 (n1 : Int) (v : (List ApiComponent)) : (Int) → Option ((Int) ⊕ (Unit))
  | blockSize =>
    if (decide (blockSize < n1)) = true then
      (loopO (stableSort_b2 n1 v blockSize) ((IntKind.i64.wrap ((2 : Int) * blockSize)), (0 : Int))).bind fun e => match e with
        | a9 =>
          stableSort_j2 n1 v blockSize a9
    else
      some (.inr ())
noncomputable def stableSort_j1 (n1 : Int) (a : Int) (row0 : (List ApiComponent)) : Option ((List ApiComponent)) :=
  (insSort row0 a n1).bind fun v =>
    (loopO (stableSort_b1 n1 v) (20 : Int)).bind fun e => match e with
      | () =>
        some v
noncomputable def stableSort_b3 (n1 : Int) : (Int × Int × (List ApiComponent)) → Option ((Int × Int × (List ApiComponent)) ⊕ (Int × (List ApiComponent)))
  | (b5, a10, row02) =>
    if (decide (b5 ≤ n1)) = true then
      (insSort row02 a10 b5).bind fun v3 =>
        some (.inl ((IntKind.i64.wrap (b5 + (20 : Int))), b5, v3))
    else
      some (.inr (a10, row02))
noncomputable def stableSort (data : (List ApiComponent)) (n1 : Int) : Option ((List ApiComponent)) :=
  (loopO (stableSort_b3 n1) ((20 : Int), (0 : Int), data)).bind fun e => match e with
    | (a12, row04) =>
      stableSort_j1 n1 a12 row04

noncomputable def sortStable (x : (List ApiComponent)) : Option ((List ApiComponent)) :=
  (stableSort x (x.length : Int)).bind fun v =>
    some v

noncomputable def goodsCharacters_j2 (l2 : (List ApiComponent)) : Option ((List ApiComponent)) :=
  (sortStable l2).bind fun v =>
    some v
noncomputable def goodsCharacters_b1 (g : ApiGood) : (Int × (List ApiComponent)) → Option ((Int × (List ApiComponent)) ⊕ ((List ApiComponent)))
  | (t32, l3) =>
    if (decide (t32 < (g.Materials.length : Int))) = true then
      if (0 ≤ t32) then
        (g.Materials[t32.toNat]?).bind fun x2 =>
          if (l3.length + [(⟨[x2.Name], x2.Share⟩ : ApiComponent)].length ≤ 137438953472) then
            some (.inl ((IntKind.i64.wrap (t32 + (1 : Int))), (l3 ++ [(⟨[x2.Name], x2.Share⟩ : ApiComponent)])))
          else none
      else none
    else
      some (.inr l3)
noncomputable def goodsCharacters_j1 (g : ApiGood) (l : (List ApiComponent)) : Option ((List ApiComponent)) :=
  if ((g.Parts.length : Int) == (0 : Int)) = true then
    (loopO (goodsCharacters_b1 g) ((0 : Int), l)).bind fun e => match e with
      | l5 =>
        goodsCharacters_j2 l5
  else
    goodsCharacters_j2 l
noncomputable def goodsCharacters_b2 (g : ApiGood) : (Int × (List ApiComponent)) → Option ((Int × (List ApiComponent)) ⊕ ((List ApiComponent)))
  | (t112, l6) =>
    if (decide (t112 < (g.Parts.length : Int))) = true then
      if (0 ≤ t112) then
        (g.Parts[t112.toNat]?).bind fun x5 =>
          (cloneS x5.Words).bind fun v4 =>
            if (l6.length + [(⟨v4, x5.Share⟩ : ApiComponent)].length ≤ 137438953472) then
              some (.inl ((IntKind.i64.wrap (t112 + (1 : Int))), (l6 ++ [(⟨v4, x5.Share⟩ : ApiComponent)])))
            else none
      else none
    else
      some (.inr l6)
noncomputable def goodsCharacters (g : ApiGood) : Option ((List ApiComponent)) :=
  (loopO (goodsCharacters_b2 g) ((0 : Int), [])).bind fun e => match e with
    | l7 =>
      goodsCharacters_j1 g l7

noncomputable def sameStrings_j1  : Option (Bool) :=
  some true
noncomputable def sameStrings_b1 (a : (List Str)) (b : (List Str)) : (Int) → Option ((Int) ⊕ ((Bool) ⊕ (Unit)))
  | i =>
    if (decide (i < (a.length : Int))) = true then
      if (0 ≤ i) then
        (a[i.toNat]?).bind fun x3 =>
          if (0 ≤ i) then
            (b[i.toNat]?).bind fun x4 =>
              if (!(x3 == x4)) = true then
                some (.inr (.inl false))
              else
                some (.inl (IntKind.i64.wrap (i + (1 : Int))))
          else none
      else none
    else
      some (.inr (.inr ()))
noncomputable def sameStrings (a : (List Str)) (b : (List Str)) : Option (Bool) :=
  if ((a.length : Int) != (b.length : Int)) = true then
    some false
  else
    (loopO (sameStrings_b1 a b) (0 : Int)).bind fun e => match e with
      | (.inl rv) =>
        some rv
      | (.inr ()) =>
        sameStrings_j1

end Go.C
