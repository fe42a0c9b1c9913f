/- Plain functions, read off the program by program (gen.py): no program in sight. -/
import Derived.Test.YtinickkcieecdaaGreatDoorPl
import Derived.Test.YtinickkcieecdaaGreatDoorPa
import Derived.Test.YtinickkcieecdaaGreatDoorPb
set_option linter.unusedVariables false
namespace Go.C
open Go.V

noncomputable def moneyWithin_j1  : Option (Bool) :=
  some true
noncomputable def moneyWithin_b1 (low : Int) (high : Int) (l : (List Int)) : (Int) → Option ((Int) ⊕ ((Bool) ⊕ (Unit)))
  | t11 =>
    if (decide (t11 < (l.length : Int))) = true then
      if (0 ≤ t11) then
        (l[t11.toNat]?).bind fun x2 =>
          if (bif (decide (x2 < low)) then true else (decide (high < x2))) = true then
            some (.inr (.inl false))
          else
            some (.inl (IntKind.i64.wrap (t11 + (1 : Int))))
      else none
    else
      some (.inr (.inr ()))
noncomputable def moneyWithin (low : Int) (high : Int) (l : (List Int)) : Option (Bool) :=
  (loopO (moneyWithin_b1 low high l) (0 : Int)).bind fun e => match e with
    | (.inl rv) =>
      some rv
    | (.inr ()) =>
      moneyWithin_j1

noncomputable def moneyIsAmount (n1 : Int) : Option (Bool) :=
  (moneyWithin (-1000000000000 : Int) (1000000000000 : Int) [n1]).bind fun v =>
    some v

noncomputable def moneyFormat_j2 (amount2 : Int) (sign : Str) (cents : Str) : Option (Str) :=
  (itoa (IntKind.i64.wrap (amount2.tdiv (100 : Int)))).bind fun v3 =>
    if (sign.length + v3.length ≤ 9223372036854775807) then
      if ((sign ++ v3).length + ([46] : Str).length ≤ 9223372036854775807) then
        if (((sign ++ v3) ++ ([46] : Str)).length + cents.length ≤ 9223372036854775807) then
          some (((sign ++ v3) ++ ([46] : Str)) ++ cents)
        else none
      else none
    else none
noncomputable def moneyFormat_j1 (amount2 : Int) (sign : Str) : Option (Str) :=
  (itoa (amount2.tmod (100 : Int))).bind fun v2 =>
    if (decide ((v2.length : Int) < (2 : Int))) = true then
      if (([48] : Str).length + v2.length ≤ 9223372036854775807) then
        moneyFormat_j2 amount2 sign (([48] : Str) ++ v2)
      else none
    else
      moneyFormat_j2 amount2 sign v2
noncomputable def moneyFormat (amount : Int) : Option (Str) :=
  (moneyIsAmount amount).bind fun v =>
    if (!v) = true then
      some ([] : Str)
    else
      if (decide (amount < (0 : Int))) = true then
        moneyFormat_j1 (IntKind.i64.wrap (0 - amount)) ([45] : Str)
      else
        moneyFormat_j1 amount ([] : Str)

noncomputable def moneyParse (s : Str) : Option (Int × Int) :=
  if (bif (decide ((IntKind.i64.wrap ((s.length : Int) - (3 : Int))) < (1 : Int))) then true else (decide ((15 : Int) < (IntKind.i64.wrap ((s.length : Int) - (3 : Int)))))) = true then
    some ((0 : Int), (4 : Int))
  else
    if (0 ≤ (0 : Int) ∧ (0 : Int) ≤ (IntKind.i64.wrap ((s.length : Int) - (3 : Int))) ∧ (IntKind.i64.wrap ((s.length : Int) - (3 : Int))) ≤ (s.length : Int)) then
      if (0 ≤ (IntKind.i64.wrap ((IntKind.i64.wrap ((s.length : Int) - (3 : Int))) + (1 : Int))) ∧ (IntKind.i64.wrap ((IntKind.i64.wrap ((s.length : Int) - (3 : Int))) + (1 : Int))) ≤ (s.length : Int)) then
        if (((s.take (IntKind.i64.wrap ((s.length : Int) - (3 : Int))).toNat).drop (0 : Int).toNat).length + (s.drop (IntKind.i64.wrap ((IntKind.i64.wrap ((s.length : Int) - (3 : Int))) + (1 : Int))).toNat).length ≤ 9223372036854775807) then
          (atoiS (((s.take (IntKind.i64.wrap ((s.length : Int) - (3 : Int))).toNat).drop (0 : Int).toNat) ++ (s.drop (IntKind.i64.wrap ((IntKind.i64.wrap ((s.length : Int) - (3 : Int))) + (1 : Int))).toNat))).bind fun v =>
            (if (!(!v.2)) = true then moneyFormat v.1 else some default).bind fun v2 =>
              if (bif (!v.2) then true else (!(v2 == s))) = true then
                some ((0 : Int), (4 : Int))
              else
                some (v.1, (0 : Int))
        else none
      else none
    else none

noncomputable def r02Amount (n1 : Int) : Option (Bool) :=
  some (bif (decide ((-1000000000000 : Int) ≤ n1)) then (decide (n1 ≤ (1000000000000 : Int))) else false)

noncomputable def r02Digits_b1  : (Str × Int) → Option ((Str × Int) ⊕ (Str))
  | (s, n12) =>
    if ((bytesI [(IntKind.u8.wrap (IntKind.i64.wrap ((48 : Int) + (n12.tmod (10 : Int)))))]).length + s.length ≤ 9223372036854775807) then
      if ((IntKind.i64.wrap (n12.tdiv (10 : Int))) == (0 : Int)) = true then
        some (.inr ((bytesI [(IntKind.u8.wrap (IntKind.i64.wrap ((48 : Int) + (n12.tmod (10 : Int)))))]) ++ s))
      else
        some (.inl (((bytesI [(IntKind.u8.wrap (IntKind.i64.wrap ((48 : Int) + (n12.tmod (10 : Int)))))]) ++ s), (IntKind.i64.wrap (n12.tdiv (10 : Int)))))
    else none
noncomputable def r02Digits (n1 : Int) : Option (Str) :=
  (loopO (r02Digits_b1) (([] : Str), n1)).bind fun e => match e with
    | rv =>
      some rv

noncomputable def r02Format_F (F : Int → Option (Str)) (amount : Int) : Option (Str) :=
  (r02Amount amount).bind fun v =>
    if (!v) = true then
      some ([] : Str)
    else
      if (decide (amount < (0 : Int))) = true then
        (F (IntKind.i64.wrap (0 - amount))).bind fun v2 =>
          if (([45] : Str).length + v2.length ≤ 9223372036854775807) then
            some (([45] : Str) ++ v2)
          else none
      else
        (r02Digits (IntKind.i64.wrap (amount.tdiv (100 : Int)))).bind fun v3 =>
          if (v3.length + ([46] : Str).length ≤ 9223372036854775807) then
            (r02Digits ((IntKind.i64.wrap (amount.tdiv (10 : Int))).tmod (10 : Int))).bind fun v4 =>
              if ((v3 ++ ([46] : Str)).length + v4.length ≤ 9223372036854775807) then
                (r02Digits (amount.tmod (10 : Int))).bind fun v5 =>
                  if (((v3 ++ ([46] : Str)) ++ v4).length + v5.length ≤ 9223372036854775807) then
                    some (((v3 ++ ([46] : Str)) ++ v4) ++ v5)
                  else none
              else none
          else none
noncomputable def r02Format_n : Nat → Int → Option (Str)
  | 0 => fun _ => none
  | n + 1 => r02Format_F (r02Format_n n)
noncomputable def r02Format (amount : Int) : Option (Str) := r02Format_n 2 amount

noncomputable def r02Parse_j1 (s : Str) (sign : Int) (n1 : Int) : Option (Int × Int) :=
  (if (!(s == ([] : Str))) = true then r02Format (IntKind.i64.wrap (sign * n1)) else some default).bind fun v =>
    if (bif (s == ([] : Str)) then true else (!(v == s))) = true then
      some ((0 : Int), (4 : Int))
    else
      some ((IntKind.i64.wrap (sign * n1)), (0 : Int))
noncomputable def r02Parse_j2 (s : Str) (i : Int) (sign6 : Int) (n16 : Int) : Option ((Int × Int × Int) ⊕ (Int × Int)) :=
  some (.inl ((IntKind.i64.wrap (i + (1 : Int))), sign6, n16))
noncomputable def r02Parse_b1 (s : Str) : (Int × Int × Int) → Option ((Int × Int × Int) ⊕ (Int × Int))
  | (i, sign2, n12) =>
    if (bif (decide (i < (s.length : Int))) then (decide (i < (20 : Int))) else false) = true then
      if (0 ≤ i ∧ i < (s.length : Int)) then
        if (((s.getD i.toNat 0).toNat : Int) == (45 : Int)) = true then
          r02Parse_j2 s i (-1 : Int) n12
        else
          if (0 ≤ i ∧ i < (s.length : Int)) then
            if (decide ((48 : Int) ≤ ((s.getD i.toNat 0).toNat : Int))) = true → (0 ≤ i ∧ i < (s.length : Int)) then
              if (bif (bif (decide ((48 : Int) ≤ ((s.getD i.toNat 0).toNat : Int))) then (decide (((s.getD i.toNat 0).toNat : Int) ≤ (57 : Int))) else false) then (decide (n12 ≤ (1000000000000 : Int))) else false) = true then
                if (0 ≤ i ∧ i < (s.length : Int)) then
                  r02Parse_j2 s i sign2 (IntKind.i64.wrap ((IntKind.i64.wrap ((10 : Int) * n12)) + (IntKind.i64.wrap (IntKind.u8.wrap (((s.getD i.toNat 0).toNat : Int) - (48 : Int))))))
                else none
              else
                r02Parse_j2 s i sign2 n12
            else none
          else none
      else none
    else
      some (.inr (sign2, n12))
noncomputable def r02Parse (s : Str) : Option (Int × Int) :=
  (loopO (r02Parse_b1 s) ((0 : Int), (1 : Int), (0 : Int))).bind fun e => match e with
    | (sign5, n15) =>
      r02Parse_j1 s sign5 n15

noncomputable def r12Percent_j1 (s : Str) : Option (Str) :=
  if (s.length + ([37] : Str).length ≤ 9223372036854775807) then
    some (s ++ ([37] : Str))
  else none
noncomputable def r12Percent_b1  : (Int × Str × Int) → Option ((Int × Str × Int) ⊕ (Str))
  | (k, s2, rest) =>
    if (decide ((0 : Int) < rest)) = true then
      if (k ≠ 0) then
        (r02Digits (IntKind.i64.wrap (rest.tdiv k))).bind fun v3 =>
          if (s2.length + v3.length ≤ 9223372036854775807) then
            if (k ≠ 0) then
              some (.inl ((IntKind.i64.wrap (k.tdiv (10 : Int))), (s2 ++ v3), (rest.tmod k)))
            else none
          else none
      else none
    else
      some (.inr s2)
noncomputable def r12Percent (n1 : Int) : Option (Str) :=
  (r02Digits (IntKind.i64.wrap (n1.tdiv (10000 : Int)))).bind fun v =>
    if (decide ((0 : Int) < (n1.tmod (10000 : Int)))) = true then
      if (v.length + ([46] : Str).length ≤ 9223372036854775807) then
        (loopO (r12Percent_b1) ((1000 : Int), (v ++ ([46] : Str)), (n1.tmod (10000 : Int)))).bind fun e => match e with
          | s4 =>
            r12Percent_j1 s4
      else none
    else
      r12Percent_j1 v

noncomputable def r08Split_j1 (out : (List Str)) : Option ((List Str)) :=
  some out
noncomputable def r08Split_j2 (s : Str) (by_ : Int) (i2 : Int) (from_5 : Int) (out6 : (List Str)) : Option ((Int × Int × (List Str)) ⊕ ((List Str))) :=
  some (.inl ((IntKind.i64.wrap (i2 + (1 : Int))), from_5, out6))
noncomputable def r08Split_b1 (s : Str) (by_ : Int) : (Int × Int × (List Str)) → Option ((Int × Int × (List Str)) ⊕ ((List Str)))
  | (i2, from_3, out3) =>
    if (decide (i2 ≤ (s.length : Int))) = true then
      if (!(i2 == (s.length : Int))) = true → (0 ≤ i2 ∧ i2 < (s.length : Int)) then
        if (bif (i2 == (s.length : Int)) then true else (((s.getD i2.toNat 0).toNat : Int) == by_)) = true then
          if (0 ≤ from_3 ∧ from_3 ≤ i2 ∧ i2 ≤ (s.length : Int)) then
            if (out3.length + [((s.take i2.toNat).drop from_3.toNat)].length ≤ 137438953472) then
              r08Split_j2 s by_ i2 (IntKind.i64.wrap (i2 + (1 : Int))) (out3 ++ [((s.take i2.toNat).drop from_3.toNat)])
            else none
          else none
        else
          r08Split_j2 s by_ i2 from_3 out3
      else none
    else
      some (.inr out3)
noncomputable def r08Split (s : Str) (by_ : Int) : Option ((List Str)) :=
  (loopO (r08Split_b1 s by_) ((0 : Int), (0 : Int), [])).bind fun e => match e with
    | out5 =>
      r08Split_j1 out5

noncomputable def r08Num_j1 (n1 : Int) : Option (Int) :=
  some n1
noncomputable def r08Num_b1 (s : Str) : (Int × Int) → Option ((Int × Int) ⊕ ((Int) ⊕ (Int)))
  | (i, n12) =>
    if (decide (i < (s.length : Int))) = true then
      if (0 ≤ i ∧ i < (s.length : Int)) then
        if (!(decide (((s.getD i.toNat 0).toNat : Int) < (48 : Int)))) = true → (0 ≤ i ∧ i < (s.length : Int)) then
          if (bif (bif (decide (((s.getD i.toNat 0).toNat : Int) < (48 : Int))) then true else (decide ((57 : Int) < ((s.getD i.toNat 0).toNat : Int)))) then true else (decide ((1000000000000 : Int) < n12))) = true then
            some (.inr (.inl (-1 : Int)))
          else
            if (0 ≤ i ∧ i < (s.length : Int)) then
              some (.inl ((IntKind.i64.wrap (i + (1 : Int))), (IntKind.i64.wrap ((IntKind.i64.wrap ((10 : Int) * n12)) + (IntKind.i64.wrap (IntKind.u8.wrap (((s.getD i.toNat 0).toNat : Int) - (48 : Int))))))))
            else none
        else none
      else none
    else
      some (.inr (.inr n12))
noncomputable def r08Num (s : Str) : Option (Int) :=
  (loopO (r08Num_b1 s) ((0 : Int), (0 : Int))).bind fun e => match e with
    | (.inl rv) =>
      some rv
    | (.inr n14) =>
      r08Num_j1 n14

noncomputable def refShare_j1 (n1 : Int) : Option (Int) :=
  some n1
noncomputable def refShare_j2 (s : Str) (i : Int) (point4 : Bool) (place4 : Int) (n16 : Int) : Option ((Int × Bool × Int × Int) ⊕ (Int)) :=
  some (.inl ((IntKind.i64.wrap (i + (1 : Int))), point4, place4, n16))
noncomputable def refShare_b1 (s : Str) : (Int × Bool × Int × Int) → Option ((Int × Bool × Int × Int) ⊕ (Int))
  | (i, point, place, n12) =>
    if (bif (decide (i < (s.length : Int))) then (decide (i < (12 : Int))) else false) = true then
      if (0 ≤ i ∧ i < (s.length : Int)) then
        if (((s.getD i.toNat 0).toNat : Int) == (46 : Int)) = true then
          refShare_j2 s i true place n12
        else
          if (0 ≤ i ∧ i < (s.length : Int)) then
            if (decide ((48 : Int) ≤ ((s.getD i.toNat 0).toNat : Int))) = true → (0 ≤ i ∧ i < (s.length : Int)) then
              if (bif (bif (decide ((48 : Int) ≤ ((s.getD i.toNat 0).toNat : Int))) then (decide (((s.getD i.toNat 0).toNat : Int) ≤ (57 : Int))) else false) then (!point) else false) = true then
                if (0 ≤ i ∧ i < (s.length : Int)) then
                  refShare_j2 s i point place (IntKind.i64.wrap ((IntKind.i64.wrap ((10 : Int) * n12)) + (IntKind.i64.wrap ((10000 : Int) * (IntKind.i64.wrap (IntKind.u8.wrap (((s.getD i.toNat 0).toNat : Int) - (48 : Int))))))))
                else none
              else
                if (0 ≤ i ∧ i < (s.length : Int)) then
                  if (decide ((48 : Int) ≤ ((s.getD i.toNat 0).toNat : Int))) = true → (0 ≤ i ∧ i < (s.length : Int)) then
                    if (bif (decide ((48 : Int) ≤ ((s.getD i.toNat 0).toNat : Int))) then (decide (((s.getD i.toNat 0).toNat : Int) ≤ (57 : Int))) else false) = true then
                      if (0 ≤ i ∧ i < (s.length : Int)) then
                        refShare_j2 s i point (IntKind.i64.wrap (place.tdiv (10 : Int))) (IntKind.i64.wrap (n12 + (IntKind.i64.wrap ((IntKind.i64.wrap (place.tdiv (10 : Int))) * (IntKind.i64.wrap (IntKind.u8.wrap (((s.getD i.toNat 0).toNat : Int) - (48 : Int))))))))
                      else none
                    else
                      refShare_j2 s i point place n12
                  else none
                else none
            else none
          else none
      else none
    else
      some (.inr n12)
noncomputable def refShare (s : Str) : Option (Int) :=
  (loopO (refShare_b1 s) ((0 : Int), false, (10000 : Int), (0 : Int))).bind fun e => match e with
    | n15 =>
      refShare_j1 n15

end Go.C
