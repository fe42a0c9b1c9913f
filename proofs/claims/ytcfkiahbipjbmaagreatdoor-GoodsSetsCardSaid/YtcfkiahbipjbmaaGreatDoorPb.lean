/- Plain functions, read off the program by program (gen.py): no program in sight. -/
import Derived.Test.YtcfkiahbipjbmaaGreatDoorPl
import Derived.Test.YtcfkiahbipjbmaaGreatDoorPa
set_option linter.unusedVariables false
namespace Go.C
open Go.V

noncomputable def isWord_j1  : Option (Bool) :=
  some true
noncomputable def isWord_b1 (s : Str) : (Nat) → Option ((Nat) ⊕ ((Bool) ⊕ (Unit)))
  | pos =>
    if pos < s.length then
      if (bif (decide ((runeI s pos) < (97 : Int))) then true else (decide ((122 : Int) < (runeI s pos)))) = true then
        some (.inr (.inl false))
      else
        some (.inl (pos + runeW s pos))
    else
      some (.inr (.inr ()))
noncomputable def isWord (s : Str) : Option (Bool) :=
  if (bif (decide ((s.length : Int) < (1 : Int))) then true else (decide ((12 : Int) < (s.length : Int)))) = true then
    some false
  else
    (loopO (isWord_b1 s) 0).bind fun e => match e with
      | (.inl rv) =>
        some rv
      | (.inr ()) =>
        isWord_j1

noncomputable def validWords_j1  : Option (Bool) :=
  some true
noncomputable def validWords_b1 (l : (List Str)) : (Int) → Option ((Int) ⊕ ((Bool) ⊕ (Unit)))
  | t10 =>
    if (decide (t10 < (l.length : Int))) = true then
      if (0 ≤ t10) then
        (l[t10.toNat]?).bind fun x2 =>
          (isWord x2).bind fun v2 =>
            if (((!(!v2)) && (decide ((0 : Int) < t10))) = true → (0 ≤ (IntKind.i64.wrap (t10 - (1 : Int))) ∧ (IntKind.i64.wrap (t10 - (1 : Int))) < (l.length : Int))) then
              if (bif (!v2) then true else (bif (decide ((0 : Int) < t10)) then (Op.bytesLess x2 (l.getD (IntKind.i64.wrap (t10 - (1 : Int))).toNat default) || x2 == (l.getD (IntKind.i64.wrap (t10 - (1 : Int))).toNat default)) else false)) = true then
                some (.inr (.inl false))
              else
                some (.inl (IntKind.i64.wrap (t10 + (1 : Int))))
            else none
      else none
    else
      some (.inr (.inr ()))
noncomputable def validWords (l : (List Str)) : Option (Bool) :=
  if (decide ((8 : Int) < (l.length : Int))) = true then
    some false
  else
    (loopO (validWords_b1 l) (0 : Int)).bind fun e => match e with
      | (.inl rv) =>
        some rv
      | (.inr ()) =>
        validWords_j1

noncomputable def described (l : (List Str)) : Option (Bool) :=
  (if (decide ((0 : Int) < (l.length : Int))) = true then validWords l else some default).bind fun v =>
    some (bif (decide ((0 : Int) < (l.length : Int))) then v else false)

noncomputable def growInt_j1 (s : (List Int)) : Option ((List Int)) :=
  some s
noncomputable def growInt (n1 : Int) : Option ((List Int)) :=
  if (decide (n1 < (0 : Int))) = true then
    none
  else
    if (decide ((0 : Int) < (IntKind.i64.wrap (n1 - (IntKind.i64.wrap ((0 : Int) - (0 : Int))))))) = true then
      if (0 < (IntKind.i64.wrap (n1 - (IntKind.i64.wrap ((0 : Int) - (0 : Int))))) ∧ (IntKind.i64.wrap (n1 - (IntKind.i64.wrap ((0 : Int) - (0 : Int))))) ≤ 137438953472) then
        growInt_j1 []
      else none
    else
      growInt_j1 []

noncomputable def concatInt_j2 (newslice : (List Int)) : Option ((List Int)) :=
  some newslice
noncomputable def concatInt_b1 (slices : (List (List Int))) : (Int × (List Int)) → Option ((Int × (List Int)) ⊕ ((List Int)))
  | (t27, newslice2) =>
    if (decide (t27 < (slices.length : Int))) = true then
      if (0 ≤ t27) then
        (slices[t27.toNat]?).bind fun x2 =>
          if (newslice2.length + x2.length ≤ 137438953472) then
            some (.inl ((IntKind.i64.wrap (t27 + (1 : Int))), (newslice2 ++ x2)))
          else none
      else none
    else
      some (.inr newslice2)
noncomputable def concatInt_j1 (slices : (List (List Int))) (size : Int) : Option ((List Int)) :=
  (growInt size).bind fun v =>
    (loopO (concatInt_b1 slices) ((0 : Int), v)).bind fun e => match e with
      | newslice4 =>
        concatInt_j2 newslice4
noncomputable def concatInt_b2 (slices : (List (List Int))) : (Int × Int) → Option ((Int × Int) ⊕ (Int))
  | (t11, size2) =>
    if (decide (t11 < (slices.length : Int))) = true then
      if (0 ≤ t11) then
        (slices[t11.toNat]?).bind fun x4 =>
          if (decide ((IntKind.i64.wrap (size2 + (x4.length : Int))) < (0 : Int))) = true then
            none
          else
            some (.inl ((IntKind.i64.wrap (t11 + (1 : Int))), (IntKind.i64.wrap (size2 + (x4.length : Int)))))
      else none
    else
      some (.inr size2)
noncomputable def concatInt (slices : (List (List Int))) : Option ((List Int)) :=
  (loopO (concatInt_b2 slices) ((0 : Int), (0 : Int))).bind fun e => match e with
    | size4 =>
      concatInt_j1 slices size4

noncomputable def complete_j1 (shares : (List Int)) (sum : Int) : Option (Bool) :=
  some (bif ((shares.length : Int) == (0 : Int)) then true else (sum == (1000000 : Int)))
noncomputable def complete_b1 (shares : (List Int)) : (Int × Int) → Option ((Int × Int) ⊕ (Int))
  | (t8, sum2) =>
    if (decide (t8 < (shares.length : Int))) = true then
      if (0 ≤ t8) then
        (shares[t8.toNat]?).bind fun x2 =>
          some (.inl ((IntKind.i64.wrap (t8 + (1 : Int))), (IntKind.i64.wrap (sum2 + x2))))
      else none
    else
      some (.inr sum2)
noncomputable def complete (shares : (List Int)) : Option (Bool) :=
  (loopO (complete_b1 shares) ((0 : Int), (0 : Int))).bind fun e => match e with
    | sum4 =>
      complete_j1 shares sum4

noncomputable def goodsValidate_j3 (parts : (List Int)) (materials2 : (List Int)) : Option (Int) :=
  (complete materials2).bind fun v4 =>
    (if (!(!v4)) = true then complete parts else some default).bind fun v5 =>
      if (bif (!v4) then true else (!v5)) = true then
        some (1 : Int)
      else
        some (0 : Int)
noncomputable def goodsValidate_b1 (parts : (List Int)) (materials2 : (List Int)) (v3 : (List Int)) : (Int × (List Int)) → Option ((Int × (List Int)) ⊕ ((Int) ⊕ (Unit)))
  | (t69, t67) =>
    if (decide (t69 < (v3.length : Int))) = true then
      if (0 ≤ t69 ∧ t69 < (t67.length : Int)) then
        if (bif (decide ((t67.getD t69.toNat default) < (1 : Int))) then true else (decide ((1000000 : Int) < (t67.getD t69.toNat default)))) = true then
          some (.inr (.inl (2 : Int)))
        else
          some (.inl ((IntKind.i64.wrap (t69 + (1 : Int))), t67))
      else none
    else
      some (.inr (.inr ()))
noncomputable def goodsValidate_j2 (parts : (List Int)) (materials2 : (List Int)) : Option (Int) :=
  (concatInt [materials2, parts]).bind fun v3 =>
    (loopO (goodsValidate_b1 parts materials2 v3) ((0 : Int), v3)).bind fun e => match e with
      | (.inl rv) =>
        some rv
      | (.inr ()) =>
        goodsValidate_j3 parts materials2
noncomputable def goodsValidate_b2 (g : ApiGood) : (Int × (List Int) × (List Int)) → Option ((Int × (List Int) × (List Int)) ⊕ ((Int) ⊕ ((List Int) × (List Int))))
  | (t502, parts2, materials4) =>
    if (decide (t502 < (g.Parts.length : Int))) = true then
      if (0 ≤ t502) then
        (g.Parts[t502.toNat]?).bind fun x3 =>
          (described x3.Words).bind fun v8 =>
            if (!v8) = true then
              some (.inr (.inl (1 : Int)))
            else
              if (parts2.length + [x3.Share].length ≤ 137438953472) then
                some (.inl ((IntKind.i64.wrap (t502 + (1 : Int))), (parts2 ++ [x3.Share]), materials4))
              else none
      else none
    else
      some (.inr (.inr (parts2, materials4)))
noncomputable def goodsValidate_j1 (g : ApiGood) (materials : (List Int)) (names : (List Str)) : Option (Int) :=
  (validWords names).bind fun v2 =>
    if (!v2) = true then
      some (1 : Int)
    else
      (loopO (goodsValidate_b2 g) ((0 : Int), [], materials)).bind fun e => match e with
        | (.inl rv) =>
          some rv
        | (.inr (parts3, materials5)) =>
          goodsValidate_j2 parts3 materials5
noncomputable def goodsValidate_b3 (g : ApiGood) : (Int × (List Int) × (List Str)) → Option ((Int × (List Int) × (List Str)) ⊕ ((List Int) × (List Str)))
  | (t292, materials6, names2) =>
    if (decide (t292 < (g.Materials.length : Int))) = true then
      if (0 ≤ t292) then
        (g.Materials[t292.toNat]?).bind fun x6 =>
          if (names2.length + [x6.Name].length ≤ 137438953472) then
            if (materials6.length + [x6.Share].length ≤ 137438953472) then
              some (.inl ((IntKind.i64.wrap (t292 + (1 : Int))), (materials6 ++ [x6.Share]), (names2 ++ [x6.Name])))
            else none
          else none
      else none
    else
      some (.inr (materials6, names2))
noncomputable def goodsValidate (g : ApiGood) : Option (Int) :=
  (described g.Words).bind fun v =>
    if (!v) = true then
      some (1 : Int)
    else
      if (bif (decide ((8 : Int) < (g.Materials.length : Int))) then true else (decide ((6 : Int) < (g.Parts.length : Int)))) = true then
        some (8 : Int)
      else
        (loopO (goodsValidate_b3 g) ((0 : Int), [], [])).bind fun e => match e with
          | (materials7, names3) =>
            goodsValidate_j1 g materials7 names3

noncomputable def refWord_j1 (s : Str) : Option (Bool) :=
  some (bif (decide ((1 : Int) ≤ (s.length : Int))) then (decide ((s.length : Int) ≤ (12 : Int))) else false)
noncomputable def refWord_b1 (s : Str) : (Int) → Option ((Int) ⊕ ((Bool) ⊕ (Unit)))
  | i =>
    if (decide (i < (s.length : Int))) = true then
      if (0 ≤ i ∧ i < (s.length : Int)) then
        if (!(decide (((s.getD i.toNat 0).toNat : Int) < (97 : Int)))) = true → (0 ≤ i ∧ i < (s.length : Int)) then
          if (bif (decide (((s.getD i.toNat 0).toNat : Int) < (97 : Int))) then true else (decide ((122 : Int) < ((s.getD i.toNat 0).toNat : Int)))) = true then
            some (.inr (.inl false))
          else
            some (.inl (IntKind.i64.wrap (i + (1 : Int))))
        else none
      else none
    else
      some (.inr (.inr ()))
noncomputable def refWord (s : Str) : Option (Bool) :=
  (loopO (refWord_b1 s) (0 : Int)).bind fun e => match e with
    | (.inl rv) =>
      some rv
    | (.inr ()) =>
      refWord_j1 s

noncomputable def refWords_j1 (l : (List Str)) : Option (Bool) :=
  some (decide ((l.length : Int) ≤ (8 : Int)))
noncomputable def refWords_b1 (l : (List Str)) : (Int) → Option ((Int) ⊕ ((Bool) ⊕ (Unit)))
  | i =>
    if (decide (i < (l.length : Int))) = true then
      if (0 ≤ i) then
        (l[i.toNat]?).bind fun x2 =>
          (refWord x2).bind fun v2 =>
            if (((!(!v2)) && (decide ((0 : Int) < i))) = true → (0 ≤ (IntKind.i64.wrap (i - (1 : Int))) ∧ (IntKind.i64.wrap (i - (1 : Int))) < (l.length : Int))) then
              if (((!(!v2)) && (decide ((0 : Int) < i))) = true → (0 ≤ i ∧ i < (l.length : Int))) then
                if (bif (!v2) then true else (bif (decide ((0 : Int) < i)) then (!Op.bytesLess (l.getD (IntKind.i64.wrap (i - (1 : Int))).toNat default) (l.getD i.toNat default)) else false)) = true then
                  some (.inr (.inl false))
                else
                  some (.inl (IntKind.i64.wrap (i + (1 : Int))))
              else none
            else none
      else none
    else
      some (.inr (.inr ()))
noncomputable def refWords (l : (List Str)) : Option (Bool) :=
  (loopO (refWords_b1 l) (0 : Int)).bind fun e => match e with
    | (.inl rv) =>
      some rv
    | (.inr ()) =>
      refWords_j1 l

end Go.C
