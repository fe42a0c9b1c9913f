/- Plain functions, read off the program by program (gen.py): no program in sight. -/
import Derived.Test.YtcfkiahbipjbmaaGreatDoorPl
import Derived.Test.YtcfkiahbipjbmaaGreatDoorSp
set_option linter.unusedVariables false
namespace Go.C
open Go.V

noncomputable def sIndex_j1  : Option (Int) :=
  some (-1 : Int)
noncomputable def sIndex_b1 (s : (List Str)) (v : Str) : (Int) → Option ((Int) ⊕ ((Int) ⊕ (Unit)))
  | t8 =>
    if (decide (t8 < (s.length : Int))) = true then
      if (0 ≤ t8) then
        (s[t8.toNat]?).bind fun x2 =>
          if (v == x2) = true then
            some (.inr (.inl t8))
          else
            some (.inl (IntKind.i64.wrap (t8 + (1 : Int))))
      else none
    else
      some (.inr (.inr ()))
noncomputable def sIndex (s : (List Str)) (v : Str) : Option (Int) :=
  (loopO (sIndex_b1 s v) (0 : Int)).bind fun e => match e with
    | (.inl rv) =>
      some rv
    | (.inr ()) =>
      sIndex_j1

noncomputable def sContains (s : (List Str)) (v : Str) : Option (Bool) :=
  (sIndex s v).bind fun v2 =>
    some (decide ((0 : Int) ≤ v2))

noncomputable def memberIn (s : Str) (a1 : (List Str)) : Option (Bool) :=
  (sContains a1 s).bind fun v =>
    some v

noncomputable def member (l : (List Str)) : Option ((List Str)) :=
  if (decide ((l.length : Int) ≤ (50 : Int))) = true then
    some l
  else
    none

noncomputable def setOf_j1 (keys : (List Str)) : Option ((List Str)) :=
  some keys
noncomputable def setOf_b1 (l : (List Str)) : (Int × (List Str)) → Option ((Int × (List Str)) ⊕ ((List Str)))
  | (t9, keys2) =>
    if (decide (t9 < (l.length : Int))) = true then
      if (0 ≤ t9) then
        (l[t9.toNat]?).bind fun x2 =>
          some (.inl ((IntKind.i64.wrap (t9 + (1 : Int))), (addKey keys2 x2)))
      else none
    else
      some (.inr keys2)
noncomputable def setOf (l : (List Str)) : Option ((List Str)) :=
  (loopO (setOf_b1 l) ((0 : Int), [])).bind fun e => match e with
    | keys4 =>
      setOf_j1 keys4

noncomputable def memberIn2 (s : Str) (a1 : (List Str)) : Option (Bool) :=
  some (a1.contains s)

noncomputable def memberB (l : (List Str)) : Option ((List Str)) :=
  if (decide ((l.length : Int) ≤ (50 : Int))) = true then
    none
  else
    (setOf l).bind fun v =>
      some v

noncomputable def subset_j1  : Option (Bool) :=
  some true
noncomputable def subset_b1 (a : (List Str)) (v : (List Str)) : (Int) → Option ((Int) ⊕ ((Bool) ⊕ (Unit)))
  | t12 =>
    if (decide (t12 < (a.length : Int))) = true then
      if (0 ≤ t12) then
        (a[t12.toNat]?).bind fun x2 =>
          (memberIn x2 v).bind fun v3 =>
            if (!v3) = true then
              some (.inr (.inl false))
            else
              some (.inl (IntKind.i64.wrap (t12 + (1 : Int))))
      else none
    else
      some (.inr (.inr ()))
noncomputable def subset (a : (List Str)) (b : (List Str)) : Option (Bool) :=
  (member b).bind fun v =>
    (loopO (subset_b1 a v) (0 : Int)).bind fun e => match e with
      | (.inl rv) =>
        some rv
      | (.inr ()) =>
        subset_j1

noncomputable def subsetB_j1  : Option (Bool) :=
  some true
noncomputable def subsetB_b1 (a : (List Str)) (v : (List Str)) : (Int) → Option ((Int) ⊕ ((Bool) ⊕ (Unit)))
  | t12 =>
    if (decide (t12 < (a.length : Int))) = true then
      if (0 ≤ t12) then
        (a[t12.toNat]?).bind fun x2 =>
          (memberIn2 x2 v).bind fun v3 =>
            if (!v3) = true then
              some (.inr (.inl false))
            else
              some (.inl (IntKind.i64.wrap (t12 + (1 : Int))))
      else none
    else
      some (.inr (.inr ()))
noncomputable def subsetB (a : (List Str)) (b : (List Str)) : Option (Bool) :=
  (memberB b).bind fun v =>
    (loopO (subsetB_b1 a v) (0 : Int)).bind fun e => match e with
      | (.inl rv) =>
        some rv
      | (.inr ()) =>
        subsetB_j1

noncomputable def commonS_j1 (count : Int) : Option (Int) :=
  some count
noncomputable def commonS_b1 (v : (List Str)) : Str → (Int) → Option (Int)
  | kx1, count2 =>
    (memberIn kx1 v).bind fun v4 =>
      if v4 = true then
        some (IntKind.i64.wrap (count2 + (1 : Int)))
      else
        some count2
noncomputable def commonS (a : (List Str)) (b : (List Str)) : Option (Int) :=
  (member b).bind fun v =>
    (setOf a).bind fun v2 =>
      (setFold (commonS_b1 v) v2 (0 : Int)).bind fun e => match e with
        | count2 =>
          commonS_j1 count2

noncomputable def commonB_j1 (count : Int) : Option (Int) :=
  some count
noncomputable def commonB_b1 (v : (List Str)) : Str → (Int) → Option (Int)
  | kx1, count2 =>
    (memberIn2 kx1 v).bind fun v4 =>
      if v4 = true then
        some (IntKind.i64.wrap (count2 + (1 : Int)))
      else
        some count2
noncomputable def commonB (a : (List Str)) (b : (List Str)) : Option (Int) :=
  (memberB b).bind fun v =>
    (setOf a).bind fun v2 =>
      (setFold (commonB_b1 v) v2 (0 : Int)).bind fun e => match e with
        | count2 =>
          commonB_j1 count2

noncomputable def growStr_j1 (s : (List Str)) : Option ((List Str)) :=
  some s
noncomputable def growStr (n1 : Int) : Option ((List Str)) :=
  if (decide (n1 < (0 : Int))) = true then
    none
  else
    if (decide ((0 : Int) < (IntKind.i64.wrap (n1 - (IntKind.i64.wrap ((0 : Int) - (0 : Int))))))) = true then
      if (0 < (IntKind.i64.wrap (n1 - (IntKind.i64.wrap ((0 : Int) - (0 : Int))))) ∧ (IntKind.i64.wrap (n1 - (IntKind.i64.wrap ((0 : Int) - (0 : Int))))) ≤ 137438953472) then
        growStr_j1 []
      else none
    else
      growStr_j1 []

noncomputable def concatStr_j2 (newslice : (List Str)) : Option ((List Str)) :=
  some newslice
noncomputable def concatStr_b1 (slices : (List (List Str))) : (Int × (List Str)) → Option ((Int × (List Str)) ⊕ ((List Str)))
  | (t27, newslice2) =>
    if (decide (t27 < (slices.length : Int))) = true then
      if (0 ≤ t27) then
        (slices[t27.toNat]?).bind fun x2 =>
          if (newslice2.length + x2.length ≤ 137438953472) then
            some (.inl ((IntKind.i64.wrap (t27 + (1 : Int))), (newslice2 ++ x2)))
          else none
      else none
    else
      some (.inr newslice2)
noncomputable def concatStr_j1 (slices : (List (List Str))) (size : Int) : Option ((List Str)) :=
  (growStr size).bind fun v =>
    (loopO (concatStr_b1 slices) ((0 : Int), v)).bind fun e => match e with
      | newslice4 =>
        concatStr_j2 newslice4
noncomputable def concatStr_b2 (slices : (List (List Str))) : (Int × Int) → Option ((Int × Int) ⊕ (Int))
  | (t11, size2) =>
    if (decide (t11 < (slices.length : Int))) = true then
      if (0 ≤ t11) then
        (slices[t11.toNat]?).bind fun x4 =>
          if (decide ((IntKind.i64.wrap (size2 + (x4.length : Int))) < (0 : Int))) = true then
            none
          else
            some (.inl ((IntKind.i64.wrap (t11 + (1 : Int))), (IntKind.i64.wrap (size2 + (x4.length : Int)))))
      else none
    else
      some (.inr size2)
noncomputable def concatStr (slices : (List (List Str))) : Option ((List Str)) :=
  (loopO (concatStr_b2 slices) ((0 : Int), (0 : Int))).bind fun e => match e with
    | size4 =>
      concatStr_j1 slices size4

noncomputable def union (a : (List Str)) (b : (List Str)) : Option ((List Str)) :=
  (concatStr [a, b]).bind fun v =>
    (sortS v).bind fun v2 =>
      (compactS v2).bind fun v3 =>
        some v3

end Go.C
