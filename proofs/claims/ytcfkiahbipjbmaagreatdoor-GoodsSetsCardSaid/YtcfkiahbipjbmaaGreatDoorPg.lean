/- Plain functions, read off the program by program (gen.py): no program in sight. -/
import Derived.Test.YtcfkiahbipjbmaaGreatDoorPl
set_option linter.unusedVariables false
namespace Go.C
open Go.V

noncomputable def refHas_j1  : Option (Bool) :=
  some false
noncomputable def refHas_b1 (l : (List Str)) (s : Str) : (Int) → Option ((Int) ⊕ ((Bool) ⊕ (Unit)))
  | i =>
    if (decide (i < (l.length : Int))) = true then
      if (0 ≤ i) then
        (l[i.toNat]?).bind fun x2 =>
          if (x2 == s) = true then
            some (.inr (.inl true))
          else
            some (.inl (IntKind.i64.wrap (i + (1 : Int))))
      else none
    else
      some (.inr (.inr ()))
noncomputable def refHas (l : (List Str)) (s : Str) : Option (Bool) :=
  (loopO (refHas_b1 l s) (0 : Int)).bind fun e => match e with
    | (.inl rv) =>
      some rv
    | (.inr ()) =>
      refHas_j1

noncomputable def refSubset_j1  : Option (Bool) :=
  some true
noncomputable def refSubset_b1 (a : (List Str)) (b : (List Str)) : (Int) → Option ((Int) ⊕ ((Bool) ⊕ (Unit)))
  | i =>
    if (decide (i < (a.length : Int))) = true then
      if (0 ≤ i) then
        (a[i.toNat]?).bind fun x2 =>
          (refHas b x2).bind fun v2 =>
            if (!v2) = true then
              some (.inr (.inl false))
            else
              some (.inl (IntKind.i64.wrap (i + (1 : Int))))
      else none
    else
      some (.inr (.inr ()))
noncomputable def refSubset (a : (List Str)) (b : (List Str)) : Option (Bool) :=
  (loopO (refSubset_b1 a b) (0 : Int)).bind fun e => match e with
    | (.inl rv) =>
      some rv
    | (.inr ()) =>
      refSubset_j1

noncomputable def refWith_j1 (l : (List Str)) (s : Str) (k : Int) : Option ((List Str)) :=
  if ((decide (k < (l.length : Int))) = true → (0 ≤ k ∧ k < (l.length : Int))) then
    if (bif (decide (k < (l.length : Int))) then ((l.getD k.toNat default) == s) else false) = true then
      some l
    else
      if (0 ≤ (0 : Int) ∧ (0 : Int) ≤ k ∧ k ≤ (l.length : Int)) then
        if (0 + ((l.take k.toNat).drop (0 : Int).toNat).length ≤ 137438953472) then
          if (((l.take k.toNat).drop (0 : Int).toNat).length + [s].length ≤ 137438953472) then
            if (0 ≤ k ∧ k ≤ (l.length : Int)) then
              if ((((l.take k.toNat).drop (0 : Int).toNat) ++ [s]).length + (l.drop k.toNat).length ≤ 137438953472) then
                some ((((l.take k.toNat).drop (0 : Int).toNat) ++ [s]) ++ (l.drop k.toNat))
              else none
            else none
          else none
        else none
      else none
  else none
noncomputable def refWith_b1 (l : (List Str)) (s : Str) : (Int) → Option ((Int) ⊕ (Int))
  | k2 =>
    if ((decide (k2 < (l.length : Int))) = true → (0 ≤ k2 ∧ k2 < (l.length : Int))) then
      if (bif (decide (k2 < (l.length : Int))) then (Op.bytesLess (l.getD k2.toNat default) s) else false) = true then
        some (.inl (IntKind.i64.wrap (k2 + (1 : Int))))
      else
        some (.inr k2)
    else none
noncomputable def refWith (l : (List Str)) (s : Str) : Option ((List Str)) :=
  (loopO (refWith_b1 l s) (0 : Int)).bind fun e => match e with
    | k4 =>
      refWith_j1 l s k4

noncomputable def refUnion_j2 (out2 : (List Str)) : Option ((List Str)) :=
  some out2
noncomputable def refUnion_b1 (b : (List Str)) : (Int × (List Str)) → Option ((Int × (List Str)) ⊕ ((List Str)))
  | (i, out3) =>
    if (decide (i < (b.length : Int))) = true then
      if (0 ≤ i) then
        (b[i.toNat]?).bind fun x2 =>
          (refWith out3 x2).bind fun v2 =>
            some (.inl ((IntKind.i64.wrap (i + (1 : Int))), v2))
      else none
    else
      some (.inr out3)
noncomputable def refUnion_j1 (b : (List Str)) (out : (List Str)) : Option ((List Str)) :=
  (loopO (refUnion_b1 b) ((0 : Int), out)).bind fun e => match e with
    | out5 =>
      refUnion_j2 out5
noncomputable def refUnion_b2 (a : (List Str)) (b : (List Str)) : (Int × (List Str)) → Option ((Int × (List Str)) ⊕ ((List Str)))
  | (i4, out6) =>
    if (decide (i4 < (a.length : Int))) = true then
      if (0 ≤ i4) then
        (a[i4.toNat]?).bind fun x5 =>
          (refWith out6 x5).bind fun v5 =>
            some (.inl ((IntKind.i64.wrap (i4 + (1 : Int))), v5))
      else none
    else
      some (.inr out6)
noncomputable def refUnion (a : (List Str)) (b : (List Str)) : Option ((List Str)) :=
  (loopO (refUnion_b2 a b) ((0 : Int), [])).bind fun e => match e with
    | out7 =>
      refUnion_j1 b out7

noncomputable def refCommon_j1 (n1 : Int) : Option (Int) :=
  some n1
noncomputable def refCommon_j2 (b : (List Str)) (v : (List Str)) (i : Int) (n16 : Int) : Option ((Int × Int) ⊕ (Int)) :=
  some (.inl ((IntKind.i64.wrap (i + (1 : Int))), n16))
noncomputable def refCommon_b1 (b : (List Str)) (v : (List Str)) : (Int × Int) → Option ((Int × Int) ⊕ (Int))
  | (i, n12) =>
    if (decide (i < (v.length : Int))) = true then
      if (0 ≤ i) then
        (v[i.toNat]?).bind fun x2 =>
          (refHas b x2).bind fun v3 =>
            if v3 = true then
              refCommon_j2 b v i (IntKind.i64.wrap (n12 + (1 : Int)))
            else
              refCommon_j2 b v i n12
      else none
    else
      some (.inr n12)
noncomputable def refCommon (a : (List Str)) (b : (List Str)) : Option (Int) :=
  (refUnion a []).bind fun v =>
    (loopO (refCommon_b1 b v) ((0 : Int), (0 : Int))).bind fun e => match e with
      | n15 =>
        refCommon_j1 n15

end Go.C
