/- Plain functions, read off the program by program (gen.py): no program in sight. -/
import Derived.Test.YtfeleiepnifbcaaGreatDoorPl
import Derived.Test.YtfeleiepnifbcaaGreatDoorPa
import Derived.Test.YtfeleiepnifbcaaGreatDoorPb
set_option linter.unusedVariables false
namespace Go.C
open Go.V

noncomputable def nodes_j1 (F : ApiRule → Int → Option (Int)) (count : Int) : Option (Int) :=
  some count
noncomputable def nodes_b1 (F : ApiRule → Int → Option (Int)) (r1 : ApiRule) (limit : Int) : (Int × Int) → Option ((Int × Int) ⊕ ((Int) ⊕ (Int)))
  | (t11, count2) =>
    if (decide (t11 < (r1.Args.length : Int))) = true then
      if (0 ≤ t11) then
        (r1.Args[t11.toNat]?).bind fun x2 =>
          if (decide (limit ≤ count2)) = true then
            some (.inr (.inl limit))
          else
            (F x2 (IntKind.i64.wrap (limit - count2))).bind fun v2 =>
              some (.inl ((IntKind.i64.wrap (t11 + (1 : Int))), (IntKind.i64.wrap (count2 + v2))))
      else none
    else
      some (.inr (.inr count2))
noncomputable def nodes_F (F : ApiRule → Int → Option (Int)) (r1 : ApiRule) (limit : Int) : Option (Int) :=
  (loopO (nodes_b1 F r1 limit) ((0 : Int), (1 : Int))).bind fun e => match e with
    | (.inl rv) =>
      some rv
    | (.inr count4) =>
      nodes_j1 F count4
noncomputable def nodes_n : Nat → ApiRule → Int → Option (Int)
  | 0 => fun _ _ => none
  | n + 1 => nodes_F (nodes_n n)
noncomputable def nodes (r1 : ApiRule) (limit : Int) : Option (Int) := nodes_n 8 r1 limit

noncomputable def millionths (n1 : Int) : Option (Bool) :=
  some (bif (decide ((0 : Int) ≤ n1)) then (decide (n1 ≤ (1000000 : Int))) else false)

noncomputable def rulePlain (r1 : ApiRule) : Option (Bool) :=
  if (bif (!(r1.Kind == (2 : Int))) then (bif (bif (r1.Digits != (0 : Int)) then true else (decide ((0 : Int) < (r1.Except.length : Int)))) then true else (r1.Tolerance != (0 : Int))) else false) = true then
    some false
  else
    if (bif (r1.Kind != (3 : Int)) then (r1.Limit != (0 : Int)) else false) = true then
      some false
    else
      if (bif (r1.Kind != (4 : Int)) then (!(r1.Name == ([] : Str))) else false) = true then
        some false
      else
        some (bif (bif (r1.Kind == (5 : Int)) then true else (r1.Kind == (6 : Int))) then true else ((r1.Args.length : Int) == (0 : Int)))

noncomputable def validCodes_j1  : Option (Bool) :=
  some true
noncomputable def validCodes_b1 (l : (List Str)) : (Int) → Option ((Int) ⊕ ((Bool) ⊕ (Unit)))
  | t10 =>
    if (decide (t10 < (l.length : Int))) = true then
      if (0 ≤ t10) then
        (l[t10.toNat]?).bind fun x2 =>
          (nomLevel x2).bind fun v2 =>
            if (((!(v2 == (0 : Int))) && (decide ((0 : Int) < t10))) = true → (0 ≤ (IntKind.i64.wrap (t10 - (1 : Int))) ∧ (IntKind.i64.wrap (t10 - (1 : Int))) < (l.length : Int))) then
              if (bif (v2 == (0 : Int)) then true else (bif (decide ((0 : Int) < t10)) then (Op.bytesLess x2 (l.getD (IntKind.i64.wrap (t10 - (1 : Int))).toNat default) || x2 == (l.getD (IntKind.i64.wrap (t10 - (1 : Int))).toNat default)) else false)) = true then
                some (.inr (.inl false))
              else
                some (.inl (IntKind.i64.wrap (t10 + (1 : Int))))
            else none
      else none
    else
      some (.inr (.inr ()))
noncomputable def validCodes (l : (List Str)) : Option (Bool) :=
  if (decide ((6 : Int) < (l.length : Int))) = true then
    some false
  else
    (loopO (validCodes_b1 l) (0 : Int)).bind fun e => match e with
      | (.inl rv) =>
        some rv
      | (.inr ()) =>
        validCodes_j1

noncomputable def ruleValid_j1 (F : ApiRule → Option (Bool))  : Option (Bool) :=
  some false
noncomputable def ruleValid_j3 (F : ApiRule → Option (Bool))  : Option (Bool) :=
  some true
noncomputable def ruleValid_b1 (F : ApiRule → Option (Bool)) (r1 : ApiRule) : (Int) → Option ((Int) ⊕ ((Bool) ⊕ (Unit)))
  | t66 =>
    if (decide (t66 < (r1.Args.length : Int))) = true then
      if (0 ≤ t66) then
        (r1.Args[t66.toNat]?).bind fun x2 =>
          (if (!(x2.Kind == r1.Kind)) = true then F x2 else some default).bind fun v7 =>
            if (bif (x2.Kind == r1.Kind) then true else (!v7)) = true then
              some (.inr (.inl false))
            else
              some (.inl (IntKind.i64.wrap (t66 + (1 : Int))))
      else none
    else
      some (.inr (.inr ()))
noncomputable def ruleValid_j2 (F : ApiRule → Option (Bool)) (r1 : ApiRule) (t50 : Bool) : Option (Bool) :=
  if t50 = true then
    if (bif (decide ((r1.Args.length : Int) < (2 : Int))) then true else (decide ((6 : Int) < (r1.Args.length : Int)))) = true then
      some false
    else
      (loopO (ruleValid_b1 F r1) (0 : Int)).bind fun e => match e with
        | (.inl rv) =>
          some rv
        | (.inr ()) =>
          ruleValid_j3 F
  else
    ruleValid_j1 F
noncomputable def ruleValid_F (F : ApiRule → Option (Bool)) (r1 : ApiRule) : Option (Bool) :=
  (rulePlain r1).bind fun v =>
    if (!v) = true then
      some false
    else
      if (r1.Kind == (1 : Int)) = true then
        some true
      else
        if (r1.Kind == (2 : Int)) = true then
          (if (bif (bif (r1.Digits == (2 : Int)) then true else (r1.Digits == (4 : Int))) then true else (r1.Digits == (6 : Int))) = true then validCodes r1.Except else some default).bind fun v2 =>
            (if (bif (bif (bif (r1.Digits == (2 : Int)) then true else (r1.Digits == (4 : Int))) then true else (r1.Digits == (6 : Int))) then v2 else false) = true then millionths r1.Tolerance else some default).bind fun v3 =>
              some (bif (bif (bif (bif (r1.Digits == (2 : Int)) then true else (r1.Digits == (4 : Int))) then true else (r1.Digits == (6 : Int))) then v2 else false) then v3 else false)
        else
          if (r1.Kind == (3 : Int)) = true then
            (millionths r1.Limit).bind fun v4 =>
              some v4
          else
            if (r1.Kind == (4 : Int)) = true then
              (validWords [r1.Name]).bind fun v5 =>
                some v5
            else
              if (r1.Kind == (5 : Int)) = true then
                ruleValid_j2 F r1 (r1.Kind == (5 : Int))
              else
                ruleValid_j2 F r1 (r1.Kind == (6 : Int))
noncomputable def ruleValid_n : Nat → ApiRule → Option (Bool)
  | 0 => fun _ => none
  | n + 1 => ruleValid_F (ruleValid_n n)
noncomputable def ruleValid (r1 : ApiRule) : Option (Bool) := ruleValid_n 8 r1

noncomputable def ruleValidate (r1 : ApiRule) : Option (Int) :=
  (nodes r1 (33 : Int)).bind fun v =>
    if (decide ((32 : Int) < v)) = true then
      some (8 : Int)
    else
      (ruleValid r1).bind fun v2 =>
        if (!v2) = true then
          some (1 : Int)
        else
          some (0 : Int)

noncomputable def applicable (r1 : ApiRule) (c : ApiCase) : Option (Bool) :=
  (ruleValidate r1).bind fun v =>
    (if (v == (0 : Int)) = true then validateCase c else some default).bind fun v2 =>
      some (bif (v == (0 : Int)) then (v2 == (0 : Int)) else false)

end Go.C
