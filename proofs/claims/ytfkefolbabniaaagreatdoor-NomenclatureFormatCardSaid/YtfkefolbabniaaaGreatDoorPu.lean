/- Plain functions, read off the program by program (gen.py): no program in sight. -/
import Derived.Test.YtfkefolbabniaaaGreatDoorPl
set_option linter.unusedVariables false
namespace Go.C
open Go.V

noncomputable def r02Digits_b1  : (Str × Int) → Option ((Str × Int) ⊕ (Str))
  | (s, n12) =>
    if ((bytesI [(IntKind.u8.wrap (IntKind.i64.wrap ((48 : Int) + (n12.tmod (10 : Int)))))]).length + s.length ≤ 9223372036854775807) then
      if ((IntKind.i64.wrap (n12.tdiv (10 : Int))) == (0 : Int)) = true then
        some (.inr ((bytesI [(IntKind.u8.wrap (IntKind.i64.wrap ((48 : Int) + (n12.tmod (10 : Int)))))]) ++ s))
      else
        some (.inl (((bytesI [(IntKind.u8.wrap (IntKind.i64.wrap ((48 : Int) + (n12.tmod (10 : Int)))))]) ++ s), (IntKind.i64.wrap (n12.tdiv (10 : Int)))))
    else none
noncomputable def r02Digits (n1 : Int) : Option (Str) :=
  (loopO (r02Digits_b1) (([] : Str), n1)).bind fun e => match e with
    | rv =>
      some rv

noncomputable def r02Number (n1 : Int) : Option (Str) :=
  if (decide (n1 < (0 : Int))) = true then
    (r02Digits (IntKind.i64.wrap (0 - n1))).bind fun v =>
      if (([45] : Str).length + v.length ≤ 9223372036854775807) then
        some (([45] : Str) ++ v)
      else none
  else
    (r02Digits n1).bind fun v2 =>
      some v2

noncomputable def refJoined_j1 (s : Str) : Option (Str) :=
  some s
noncomputable def refJoined_j2 (l : (List Str)) (by_ : Str) (i : Int) (s6 : Str) : Option ((Int × Str) ⊕ (Str)) :=
  if (0 ≤ i) then
    (l[i.toNat]?).bind fun x2 =>
      if (s6.length + x2.length ≤ 9223372036854775807) then
        some (.inl ((IntKind.i64.wrap (i + (1 : Int))), (s6 ++ x2)))
      else none
  else none
noncomputable def refJoined_b1 (l : (List Str)) (by_ : Str) : (Int × Str) → Option ((Int × Str) ⊕ (Str))
  | (i, s2) =>
    if (decide (i < (l.length : Int))) = true then
      if (decide ((0 : Int) < i)) = true then
        if (s2.length + by_.length ≤ 9223372036854775807) then
          refJoined_j2 l by_ i (s2 ++ by_)
        else none
      else
        refJoined_j2 l by_ i s2
    else
      some (.inr s2)
noncomputable def refJoined (l : (List Str)) (by_ : Str) : Option (Str) :=
  (loopO (refJoined_b1 l by_) ((0 : Int), ([] : Str))).bind fun e => match e with
    | s5 =>
      refJoined_j1 s5

noncomputable def r08Split_j1 (out : (List Str)) : Option ((List Str)) :=
  some out
noncomputable def r08Split_j2 (s : Str) (by_ : Int) (i2 : Int) (from_5 : Int) (out6 : (List Str)) : Option ((Int × Int × (List Str)) ⊕ ((List Str))) :=
  some (.inl ((IntKind.i64.wrap (i2 + (1 : Int))), from_5, out6))
noncomputable def r08Split_b1 (s : Str) (by_ : Int) : (Int × Int × (List Str)) → Option ((Int × Int × (List Str)) ⊕ ((List Str)))
  | (i2, from_3, out3) =>
    if (decide (i2 ≤ (s.length : Int))) = true then
      if (!(i2 == (s.length : Int))) = true → (0 ≤ i2 ∧ i2 < (s.length : Int)) then
        if (bif (i2 == (s.length : Int)) then true else (((s.getD i2.toNat 0).toNat : Int) == by_)) = true then
          if (0 ≤ from_3 ∧ from_3 ≤ i2 ∧ i2 ≤ (s.length : Int)) then
            if (out3.length + [((s.take i2.toNat).drop from_3.toNat)].length ≤ 137438953472) then
              r08Split_j2 s by_ i2 (IntKind.i64.wrap (i2 + (1 : Int))) (out3 ++ [((s.take i2.toNat).drop from_3.toNat)])
            else none
          else none
        else
          r08Split_j2 s by_ i2 from_3 out3
      else none
    else
      some (.inr out3)
noncomputable def r08Split (s : Str) (by_ : Int) : Option ((List Str)) :=
  (loopO (r08Split_b1 s by_) ((0 : Int), (0 : Int), [])).bind fun e => match e with
    | out5 =>
      r08Split_j1 out5

noncomputable def r08SplitR_j1 (out : (List Str)) : Option ((List Str)) :=
  some out
noncomputable def r08SplitR_j2 (s : Str) (by_ : Int) (i2 : Int) (from_5 : Int) (out6 : (List Str)) : Option ((Int × Int × (List Str)) ⊕ ((List Str))) :=
  some (.inl ((IntKind.i64.wrap (i2 + (1 : Int))), from_5, out6))
noncomputable def r08SplitR_b1 (s : Str) (by_ : Int) : (Int × Int × (List Str)) → Option ((Int × Int × (List Str)) ⊕ ((List Str)))
  | (i2, from_3, out3) =>
    if (decide (i2 ≤ (s.length : Int))) = true then
      if (!(i2 == (s.length : Int))) = true → (0 ≤ i2 ∧ i2 < (s.length : Int)) then
        if (bif (i2 == (s.length : Int)) then true else (((s.getD i2.toNat 0).toNat : Int) == by_)) = true then
          if (0 ≤ from_3 ∧ from_3 ≤ i2 ∧ i2 ≤ (s.length : Int)) then
            if (out3.length + [((s.take i2.toNat).drop from_3.toNat)].length ≤ 137438953472) then
              r08SplitR_j2 s by_ i2 (IntKind.i64.wrap (i2 + (1 : Int))) (out3 ++ [((s.take i2.toNat).drop from_3.toNat)])
            else none
          else none
        else
          r08SplitR_j2 s by_ i2 from_3 out3
      else none
    else
      some (.inr out3)
noncomputable def r08SplitR (s : Str) (by_ : Int) : Option ((List Str)) :=
  (loopO (r08SplitR_b1 s by_) ((0 : Int), (0 : Int), [])).bind fun e => match e with
    | out5 =>
      r08SplitR_j1 out5

noncomputable def r08Num_j1 (n1 : Int) : Option (Int) :=
  some n1
noncomputable def r08Num_b1 (s : Str) : (Int × Int) → Option ((Int × Int) ⊕ ((Int) ⊕ (Int)))
  | (i, n12) =>
    if (decide (i < (s.length : Int))) = true then
      if (0 ≤ i ∧ i < (s.length : Int)) then
        if (!(decide (((s.getD i.toNat 0).toNat : Int) < (48 : Int)))) = true → (0 ≤ i ∧ i < (s.length : Int)) then
          if (bif (bif (decide (((s.getD i.toNat 0).toNat : Int) < (48 : Int))) then true else (decide ((57 : Int) < ((s.getD i.toNat 0).toNat : Int)))) then true else (decide ((1000000000000 : Int) < n12))) = true then
            some (.inr (.inl (-1 : Int)))
          else
            if (0 ≤ i ∧ i < (s.length : Int)) then
              some (.inl ((IntKind.i64.wrap (i + (1 : Int))), (IntKind.i64.wrap ((IntKind.i64.wrap ((10 : Int) * n12)) + (IntKind.i64.wrap (IntKind.u8.wrap (((s.getD i.toNat 0).toNat : Int) - (48 : Int))))))))
            else none
        else none
      else none
    else
      some (.inr (.inr n12))
noncomputable def r08Num (s : Str) : Option (Int) :=
  (loopO (r08Num_b1 s) ((0 : Int), (0 : Int))).bind fun e => match e with
    | (.inl rv) =>
      some rv
    | (.inr n14) =>
      r08Num_j1 n14

end Go.C
