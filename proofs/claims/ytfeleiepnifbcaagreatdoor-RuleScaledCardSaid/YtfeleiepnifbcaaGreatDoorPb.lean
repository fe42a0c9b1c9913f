/- Plain functions, read off the program by program (gen.py): no program in sight. -/
import Derived.Test.YtfeleiepnifbcaaGreatDoorPl
import Derived.Test.YtfeleiepnifbcaaGreatDoorPa
set_option linter.unusedVariables false
namespace Go.C
open Go.V

noncomputable def isWord_j1  : Option (Bool) :=
  some true
noncomputable def isWord_b1 (s : Str) : (Nat) → Option ((Nat) ⊕ ((Bool) ⊕ (Unit)))
  | pos =>
    if pos < s.length then
      if (bif (decide ((runeI s pos) < (97 : Int))) then true else (decide ((122 : Int) < (runeI s pos)))) = true then
        some (.inr (.inl false))
      else
        some (.inl (pos + runeW s pos))
    else
      some (.inr (.inr ()))
noncomputable def isWord (s : Str) : Option (Bool) :=
  if (bif (decide ((s.length : Int) < (1 : Int))) then true else (decide ((12 : Int) < (s.length : Int)))) = true then
    some false
  else
    (loopO (isWord_b1 s) 0).bind fun e => match e with
      | (.inl rv) =>
        some rv
      | (.inr ()) =>
        isWord_j1

noncomputable def validWords_j1  : Option (Bool) :=
  some true
noncomputable def validWords_b1 (l : (List Str)) : (Int) → Option ((Int) ⊕ ((Bool) ⊕ (Unit)))
  | t10 =>
    if (decide (t10 < (l.length : Int))) = true then
      if (0 ≤ t10) then
        (l[t10.toNat]?).bind fun x2 =>
          (isWord x2).bind fun v2 =>
            if (((!(!v2)) && (decide ((0 : Int) < t10))) = true → (0 ≤ (IntKind.i64.wrap (t10 - (1 : Int))) ∧ (IntKind.i64.wrap (t10 - (1 : Int))) < (l.length : Int))) then
              if (bif (!v2) then true else (bif (decide ((0 : Int) < t10)) then (Op.bytesLess x2 (l.getD (IntKind.i64.wrap (t10 - (1 : Int))).toNat default) || x2 == (l.getD (IntKind.i64.wrap (t10 - (1 : Int))).toNat default)) else false)) = true then
                some (.inr (.inl false))
              else
                some (.inl (IntKind.i64.wrap (t10 + (1 : Int))))
            else none
      else none
    else
      some (.inr (.inr ()))
noncomputable def validWords (l : (List Str)) : Option (Bool) :=
  if (decide ((8 : Int) < (l.length : Int))) = true then
    some false
  else
    (loopO (validWords_b1 l) (0 : Int)).bind fun e => match e with
      | (.inl rv) =>
        some rv
      | (.inr ()) =>
        validWords_j1

noncomputable def nomLevel_j1  : Option (Int) :=
  some (0 : Int)
noncomputable def nomLevel (code : Str) : Option (Int) :=
  (if ((code.length : Int) == (2 : Int)) = true then trimS code ([48, 49, 50, 51, 52, 53, 54, 55, 56, 57] : Str) else some default).bind fun v =>
    if (bif ((code.length : Int) == (2 : Int)) then (v == ([] : Str)) else false) = true then
      some (2 : Int)
    else
      (if ((code.length : Int) == (4 : Int)) = true then trimS code ([48, 49, 50, 51, 52, 53, 54, 55, 56, 57] : Str) else some default).bind fun v2 =>
        if (bif ((code.length : Int) == (4 : Int)) then (v2 == ([] : Str)) else false) = true then
          some (4 : Int)
        else
          (if ((code.length : Int) == (6 : Int)) = true then trimS code ([48, 49, 50, 51, 52, 53, 54, 55, 56, 57] : Str) else some default).bind fun v3 =>
            if (bif ((code.length : Int) == (6 : Int)) then (v3 == ([] : Str)) else false) = true then
              some (6 : Int)
            else
              (if ((code.length : Int) == (8 : Int)) = true then trimS code ([48, 49, 50, 51, 52, 53, 54, 55, 56, 57] : Str) else some default).bind fun v4 =>
                if (bif ((code.length : Int) == (8 : Int)) then (v4 == ([] : Str)) else false) = true then
                  some (8 : Int)
                else
                  nomLevel_j1

noncomputable def goodsCode (s : Str) : Option (Bool) :=
  (nomLevel s).bind fun v =>
    some (decide ((6 : Int) ≤ v))

noncomputable def validateCase_j1  : Option (Int) :=
  some (0 : Int)
noncomputable def validateCase_b1 (c : ApiCase) : (Int) → Option ((Int) ⊕ ((Int) ⊕ (Unit)))
  | t32 =>
    if (decide (t32 < (c.Inputs.length : Int))) = true then
      if (0 ≤ t32) then
        (c.Inputs[t32.toNat]?).bind fun x2 =>
          (goodsCode x2.Code).bind fun v4 =>
            if (!v4) = true then
              some (.inr (.inl (1 : Int)))
            else
              if (bif (decide (x2.Value < (0 : Int))) then true else (decide ((1000000000000 : Int) < x2.Value))) = true then
                some (.inr (.inl (2 : Int)))
              else
                some (.inl (IntKind.i64.wrap (t32 + (1 : Int))))
      else none
    else
      some (.inr (.inr ()))
noncomputable def validateCase (c : ApiCase) : Option (Int) :=
  (goodsCode c.Code).bind fun v =>
    if (!v) = true then
      some (1 : Int)
    else
      if (bif (decide (c.Price < (1 : Int))) then true else (decide ((1000000000000 : Int) < c.Price))) = true then
        some (2 : Int)
      else
        (validWords c.Processes).bind fun v2 =>
          if (!v2) = true then
            some (1 : Int)
          else
            if (decide ((100 : Int) < (c.Inputs.length : Int))) = true then
              some (8 : Int)
            else
              (loopO (validateCase_b1 c) (0 : Int)).bind fun e => match e with
                | (.inl rv) =>
                  some rv
                | (.inr ()) =>
                  validateCase_j1

noncomputable def refWord_j1 (s : Str) : Option (Bool) :=
  some (bif (decide ((1 : Int) ≤ (s.length : Int))) then (decide ((s.length : Int) ≤ (12 : Int))) else false)
noncomputable def refWord_b1 (s : Str) : (Int) → Option ((Int) ⊕ ((Bool) ⊕ (Unit)))
  | i =>
    if (decide (i < (s.length : Int))) = true then
      if (0 ≤ i ∧ i < (s.length : Int)) then
        if (!(decide (((s.getD i.toNat 0).toNat : Int) < (97 : Int)))) = true → (0 ≤ i ∧ i < (s.length : Int)) then
          if (bif (decide (((s.getD i.toNat 0).toNat : Int) < (97 : Int))) then true else (decide ((122 : Int) < ((s.getD i.toNat 0).toNat : Int)))) = true then
            some (.inr (.inl false))
          else
            some (.inl (IntKind.i64.wrap (i + (1 : Int))))
        else none
      else none
    else
      some (.inr (.inr ()))
noncomputable def refWord (s : Str) : Option (Bool) :=
  (loopO (refWord_b1 s) (0 : Int)).bind fun e => match e with
    | (.inl rv) =>
      some rv
    | (.inr ()) =>
      refWord_j1 s

noncomputable def refWords_j1 (l : (List Str)) : Option (Bool) :=
  some (decide ((l.length : Int) ≤ (8 : Int)))
noncomputable def refWords_b1 (l : (List Str)) : (Int) → Option ((Int) ⊕ ((Bool) ⊕ (Unit)))
  | i =>
    if (decide (i < (l.length : Int))) = true then
      if (0 ≤ i) then
        (l[i.toNat]?).bind fun x2 =>
          (refWord x2).bind fun v2 =>
            if (((!(!v2)) && (decide ((0 : Int) < i))) = true → (0 ≤ (IntKind.i64.wrap (i - (1 : Int))) ∧ (IntKind.i64.wrap (i - (1 : Int))) < (l.length : Int))) then
              if (((!(!v2)) && (decide ((0 : Int) < i))) = true → (0 ≤ i ∧ i < (l.length : Int))) then
                if (bif (!v2) then true else (bif (decide ((0 : Int) < i)) then (!Op.bytesLess (l.getD (IntKind.i64.wrap (i - (1 : Int))).toNat default) (l.getD i.toNat default)) else false)) = true then
                  some (.inr (.inl false))
                else
                  some (.inl (IntKind.i64.wrap (i + (1 : Int))))
              else none
            else none
      else none
    else
      some (.inr (.inr ()))
noncomputable def refWords (l : (List Str)) : Option (Bool) :=
  (loopO (refWords_b1 l) (0 : Int)).bind fun e => match e with
    | (.inl rv) =>
      some rv
    | (.inr ()) =>
      refWords_j1 l

noncomputable def refLevel_j1 (s : Str) : Option (Int) :=
  if (bif (decide ((8 : Int) < (s.length : Int))) then true else (((s.length : Int).tmod (2 : Int)) == (1 : Int))) = true then
    some (0 : Int)
  else
    some (s.length : Int)
noncomputable def refLevel_b1 (s : Str) : (Int) → Option ((Int) ⊕ ((Int) ⊕ (Unit)))
  | i =>
    if (decide (i < (s.length : Int))) = true then
      if (0 ≤ i ∧ i < (s.length : Int)) then
        if (!(decide (((s.getD i.toNat 0).toNat : Int) < (48 : Int)))) = true → (0 ≤ i ∧ i < (s.length : Int)) then
          if (bif (decide (((s.getD i.toNat 0).toNat : Int) < (48 : Int))) then true else (decide ((57 : Int) < ((s.getD i.toNat 0).toNat : Int)))) = true then
            some (.inr (.inl (0 : Int)))
          else
            some (.inl (IntKind.i64.wrap (i + (1 : Int))))
        else none
      else none
    else
      some (.inr (.inr ()))
noncomputable def refLevel (s : Str) : Option (Int) :=
  (loopO (refLevel_b1 s) (0 : Int)).bind fun e => match e with
    | (.inl rv) =>
      some rv
    | (.inr ()) =>
      refLevel_j1 s

noncomputable def rLong (s : Str) : Option (Bool) :=
  (refLevel s).bind fun v =>
    some (decide ((6 : Int) ≤ v))

noncomputable def rCase_j1  : Option (Int) :=
  some (0 : Int)
noncomputable def rCase_b1 (c : ApiCase) : (Int) → Option ((Int) ⊕ ((Int) ⊕ (Unit)))
  | i =>
    if (decide (i < (c.Inputs.length : Int))) = true then
      if (0 ≤ i) then
        (c.Inputs[i.toNat]?).bind fun x3 =>
          (rLong x3.Code).bind fun v4 =>
            if (!v4) = true then
              some (.inr (.inl (1 : Int)))
            else
              if (0 ≤ i) then
                (c.Inputs[i.toNat]?).bind fun x4 =>
                  if ((!(decide (x4.Value < (0 : Int)))) = true → (0 ≤ i ∧ i < (c.Inputs.length : Int))) then
                    if (bif (decide (x4.Value < (0 : Int))) then true else (decide ((1000000000000 : Int) < ((c.Inputs.getD i.toNat default).Value)))) = true then
                      some (.inr (.inl (2 : Int)))
                    else
                      some (.inl (IntKind.i64.wrap (i + (1 : Int))))
                  else none
              else none
      else none
    else
      some (.inr (.inr ()))
noncomputable def rCase (c : ApiCase) : Option (Int) :=
  (rLong c.Code).bind fun v =>
    if (!v) = true then
      some (1 : Int)
    else
      if (bif (decide (c.Price < (1 : Int))) then true else (decide ((1000000000000 : Int) < c.Price))) = true then
        some (2 : Int)
      else
        (refWords c.Processes).bind fun v2 =>
          if (!v2) = true then
            some (1 : Int)
          else
            if (decide ((100 : Int) < (c.Inputs.length : Int))) = true then
              some (8 : Int)
            else
              (loopO (rCase_b1 c) (0 : Int)).bind fun e => match e with
                | (.inl rv) =>
                  some rv
                | (.inr ()) =>
                  rCase_j1

end Go.C
