/- Plain functions, read off the program by program (gen.py): no program in sight. -/
import Derived.Test.YtfeleiepnifbcaaGreatDoorPl
import Derived.Test.YtfeleiepnifbcaaGreatDoorPa
import Derived.Test.YtfeleiepnifbcaaGreatDoorPb
import Derived.Test.YtfeleiepnifbcaaGreatDoorPc
set_option linter.unusedVariables false
namespace Go.C
open Go.V

noncomputable def exactMul (a : Int) (b : Int) : Option (ExactWide) :=
  (mul64 a b).bind fun v =>
    some (⟨v.1, v.2⟩ : ExactWide)

noncomputable def exactCmp (a : ExactWide) (b : ExactWide) : Option (Int) :=
  if (bif (decide (a.Hi < b.Hi)) then true else (bif (a.Hi == b.Hi) then (decide (a.Lo < b.Lo)) else false)) = true then
    some (-1 : Int)
  else
    if ((a.Hi == b.Hi) && (a.Lo == b.Lo)) = true then
      some (0 : Int)
    else
      some (1 : Int)

noncomputable def atMost (value : Int) (share : Int) (price : Int) : Option (Bool) :=
  (exactMul (IntKind.u64.wrap value) (1000000 : Int)).bind fun v =>
    (exactMul (IntKind.u64.wrap share) (IntKind.u64.wrap price)).bind fun v2 =>
      (exactCmp v v2).bind fun v3 =>
        some (decide (v3 ≤ (0 : Int)))

noncomputable def violatesIn (code : Str) (a1 : Str) : Option (Bool) :=
  (hasPrefixS a1 code).bind fun v =>
    some v

noncomputable def violIndex_j1 (f0 : Str) : Option (Int) :=
  some (-1 : Int)
noncomputable def violIndex_b1 (s : (List Str)) (f0 : Str) : (Int) → Option ((Int) ⊕ ((Int) ⊕ (Unit)))
  | t8 =>
    if (decide (t8 < (s.length : Int))) = true then
      if (0 ≤ t8) then
        (s[t8.toNat]?).bind fun x2 =>
          (violatesIn x2 f0).bind fun v2 =>
            if v2 = true then
              some (.inr (.inl t8))
            else
              some (.inl (IntKind.i64.wrap (t8 + (1 : Int))))
      else none
    else
      some (.inr (.inr ()))
noncomputable def violIndex (s : (List Str)) (f0 : Str) : Option (Int) :=
  (loopO (violIndex_b1 s f0) (0 : Int)).bind fun e => match e with
    | (.inl rv) =>
      some rv
    | (.inr ()) =>
      violIndex_j1 f0

noncomputable def violContains (s : (List Str)) (f0 : Str) : Option (Bool) :=
  (violIndex s f0).bind fun v =>
    some (decide ((0 : Int) ≤ v))

noncomputable def violates (r1 : ApiRule) (product : Str) (input : Str) : Option (Bool) :=
  if (0 ≤ (0 : Int) ∧ (0 : Int) ≤ r1.Digits ∧ r1.Digits ≤ (product.length : Int)) then
    (hasPrefixS input ((product.take r1.Digits.toNat).drop (0 : Int).toNat)).bind fun v =>
      if v = true then
        some true
      else
        (violContains r1.Except input).bind fun v2 =>
          some v2
  else none

noncomputable def sIndex_j1  : Option (Int) :=
  some (-1 : Int)
noncomputable def sIndex_b1 (s : (List Str)) (v : Str) : (Int) → Option ((Int) ⊕ ((Int) ⊕ (Unit)))
  | t8 =>
    if (decide (t8 < (s.length : Int))) = true then
      if (0 ≤ t8) then
        (s[t8.toNat]?).bind fun x2 =>
          if (v == x2) = true then
            some (.inr (.inl t8))
          else
            some (.inl (IntKind.i64.wrap (t8 + (1 : Int))))
      else none
    else
      some (.inr (.inr ()))
noncomputable def sIndex (s : (List Str)) (v : Str) : Option (Int) :=
  (loopO (sIndex_b1 s v) (0 : Int)).bind fun e => match e with
    | (.inl rv) =>
      some rv
    | (.inr ()) =>
      sIndex_j1

noncomputable def sContains (s : (List Str)) (v : Str) : Option (Bool) :=
  (sIndex s v).bind fun v2 =>
    some (decide ((0 : Int) ≤ v2))

noncomputable def holds_j1 (r1 : ApiRule) (c : ApiCase) (count : Int) (violating : Int) (foreign : Int) : Option (Bool) :=
  if (r1.Kind == (1 : Int)) = true then
    some (bif c.Obtained then (count == (0 : Int)) else false)
  else
    if (r1.Kind == (2 : Int)) = true then
      (atMost violating r1.Tolerance c.Price).bind fun v =>
        some v
    else
      if (r1.Kind == (3 : Int)) = true then
        (atMost foreign r1.Limit c.Price).bind fun v2 =>
          some v2
      else
        if (r1.Kind == (4 : Int)) = true then
          (sContains c.Processes r1.Name).bind fun v3 =>
            some v3
        else
          some false
noncomputable def holds_j2 (r1 : ApiRule) (c : ApiCase) (t13 : Int) (count6 : Int) (violating6 : Int) (foreign6 : Int) : Option ((Int × Int × Int × Int) ⊕ (Int × Int × Int)) :=
  some (.inl ((IntKind.i64.wrap (t13 + (1 : Int))), count6, violating6, foreign6))
noncomputable def holds_b1 (r1 : ApiRule) (c : ApiCase) : (Int × Int × Int × Int) → Option ((Int × Int × Int × Int) ⊕ (Int × Int × Int))
  | (t13, count2, violating2, foreign2) =>
    if (decide (t13 < (c.Inputs.length : Int))) = true then
      if (0 ≤ t13) then
        (c.Inputs[t13.toNat]?).bind fun x2 =>
          if x2.Originating = true then
            holds_j2 r1 c t13 count2 violating2 foreign2
          else
            (if (r1.Kind == (2 : Int)) = true then violates r1 c.Code x2.Code else some default).bind fun v5 =>
              if (bif (r1.Kind == (2 : Int)) then v5 else false) = true then
                holds_j2 r1 c t13 (IntKind.i64.wrap (count2 + (1 : Int))) (IntKind.i64.wrap (violating2 + x2.Value)) (IntKind.i64.wrap (foreign2 + x2.Value))
              else
                holds_j2 r1 c t13 (IntKind.i64.wrap (count2 + (1 : Int))) violating2 (IntKind.i64.wrap (foreign2 + x2.Value))
      else none
    else
      some (.inr (count2, violating2, foreign2))
noncomputable def holds (r1 : ApiRule) (c : ApiCase) : Option (Bool) :=
  (loopO (holds_b1 r1 c) ((0 : Int), (0 : Int), (0 : Int), (0 : Int))).bind fun e => match e with
    | (count5, violating5, foreign5) =>
      holds_j1 r1 c count5 violating5 foreign5

noncomputable def growInt_j1 (s : (List Int)) : Option ((List Int)) :=
  some s
noncomputable def growInt (n1 : Int) : Option ((List Int)) :=
  if (decide (n1 < (0 : Int))) = true then
    none
  else
    if (decide ((0 : Int) < (IntKind.i64.wrap (n1 - (IntKind.i64.wrap ((0 : Int) - (0 : Int))))))) = true then
      if (0 < (IntKind.i64.wrap (n1 - (IntKind.i64.wrap ((0 : Int) - (0 : Int))))) ∧ (IntKind.i64.wrap (n1 - (IntKind.i64.wrap ((0 : Int) - (0 : Int))))) ≤ 137438953472) then
        growInt_j1 []
      else none
    else
      growInt_j1 []

noncomputable def concatInt_j2 (newslice : (List Int)) : Option ((List Int)) :=
  some newslice
noncomputable def concatInt_b1 (slices : (List (List Int))) : (Int × (List Int)) → Option ((Int × (List Int)) ⊕ ((List Int)))
  | (t27, newslice2) =>
    if (decide (t27 < (slices.length : Int))) = true then
      if (0 ≤ t27) then
        (slices[t27.toNat]?).bind fun x2 =>
          if (newslice2.length + x2.length ≤ 137438953472) then
            some (.inl ((IntKind.i64.wrap (t27 + (1 : Int))), (newslice2 ++ x2)))
          else none
      else none
    else
      some (.inr newslice2)
noncomputable def concatInt_j1 (slices : (List (List Int))) (size : Int) : Option ((List Int)) :=
  (growInt size).bind fun v =>
    (loopO (concatInt_b1 slices) ((0 : Int), v)).bind fun e => match e with
      | newslice4 =>
        concatInt_j2 newslice4
noncomputable def concatInt_b2 (slices : (List (List Int))) : (Int × Int) → Option ((Int × Int) ⊕ (Int))
  | (t11, size2) =>
    if (decide (t11 < (slices.length : Int))) = true then
      if (0 ≤ t11) then
        (slices[t11.toNat]?).bind fun x4 =>
          if (decide ((IntKind.i64.wrap (size2 + (x4.length : Int))) < (0 : Int))) = true then
            none
          else
            some (.inl ((IntKind.i64.wrap (t11 + (1 : Int))), (IntKind.i64.wrap (size2 + (x4.length : Int)))))
      else none
    else
      some (.inr size2)
noncomputable def concatInt (slices : (List (List Int))) : Option ((List Int)) :=
  (loopO (concatInt_b2 slices) ((0 : Int), (0 : Int))).bind fun e => match e with
    | size4 =>
      concatInt_j1 slices size4

noncomputable def testOf_j1 (F : ApiRule → Option (RuleTest)) (r1 : ApiRule) (l : (List RuleTest)) : Option (RuleTest) :=
  if (r1.Kind == (5 : Int)) = true then
    some (RuleTest.all l)
  else
    if (r1.Kind == (6 : Int)) = true then
      some (RuleTest.any l)
    else
      some (RuleTest.one (⟨r1⟩ : RuleSingle))
noncomputable def testOf_b1 (F : ApiRule → Option (RuleTest)) (r1 : ApiRule) : (Int × (List RuleTest)) → Option ((Int × (List RuleTest)) ⊕ ((List RuleTest)))
  | (t92, l2) =>
    if (decide (t92 < (r1.Args.length : Int))) = true then
      if (0 ≤ t92) then
        (r1.Args[t92.toNat]?).bind fun x3 =>
          (F x3).bind fun v3 =>
            if (l2.length + [v3].length ≤ 137438953472) then
              some (.inl ((IntKind.i64.wrap (t92 + (1 : Int))), (l2 ++ [v3])))
            else none
      else none
    else
      some (.inr l2)
noncomputable def testOf_F (F : ApiRule → Option (RuleTest)) (r1 : ApiRule) : Option (RuleTest) :=
  (loopO (testOf_b1 F r1) ((0 : Int), [])).bind fun e => match e with
    | l3 =>
      testOf_j1 F r1 l3
noncomputable def testOf_n : Nat → ApiRule → Option (RuleTest)
  | 0 => fun _ => none
  | n + 1 => testOf_F (testOf_n n)
noncomputable def testOf (r1 : ApiRule) : Option (RuleTest) := testOf_n 8 r1

noncomputable def singleW (s : RuleSingle) (c : ApiCase) : Option ((List Int) × Bool) :=
  (holds s.rule c).bind fun v =>
    some ([], v)

noncomputable def singleF (s : RuleSingle) (c : ApiCase) (path : (List Int)) : Option ((List Int) × Bool) :=
  (holds s.rule c).bind fun v =>
    some (path, v)

noncomputable def everyW_j1 (fM : (RuleTest → ApiCase → Option ((List Int) × Bool))) (path : (List Int)) : Option ((List Int) × Bool) :=
  some (path, true)
noncomputable def everyW_b1 (fM : (RuleTest → ApiCase → Option ((List Int) × Bool))) (l : (List RuleTest)) (c : ApiCase) : (Int × (List Int)) → Option ((Int × (List Int)) ⊕ (((List Int) × Bool) ⊕ ((List Int))))
  | (t132, path2) =>
    if (decide (t132 < (l.length : Int))) = true then
      if (0 ≤ t132) then
        (l[t132.toNat]?).bind fun x3 =>
          (fM x3 c).bind fun v3 =>
            if (!v3.2) = true then
              some (.inr (.inl ([], false)))
            else
              if (path2.length + v3.1.length ≤ 137438953472) then
                some (.inl ((IntKind.i64.wrap (t132 + (1 : Int))), (path2 ++ v3.1)))
              else none
      else none
    else
      some (.inr (.inr path2))
noncomputable def everyW (fM : (RuleTest → ApiCase → Option ((List Int) × Bool))) (l : (List RuleTest)) (c : ApiCase) : Option ((List Int) × Bool) :=
  (loopO (everyW_b1 fM l c) ((0 : Int), [])).bind fun e => match e with
    | (.inl rv) =>
      some rv
    | (.inr path3) =>
      everyW_j1 fM path3

noncomputable def someW_j1 (fM : (RuleTest → ApiCase → Option ((List Int) × Bool)))  : Option ((List Int) × Bool) :=
  some ([], false)
noncomputable def someW_b1 (fM : (RuleTest → ApiCase → Option ((List Int) × Bool))) (l : (List RuleTest)) (c : ApiCase) : (Int) → Option ((Int) ⊕ (((List Int) × Bool) ⊕ (Unit)))
  | t12 =>
    if (decide (t12 < (l.length : Int))) = true then
      if (0 ≤ t12) then
        (l[t12.toNat]?).bind fun x2 =>
          (fM x2 c).bind fun v3 =>
            if v3.2 = true then
              (concatInt [[t12], v3.1]).bind fun v4 =>
                some (.inr (.inl (v4, true)))
            else
              some (.inl (IntKind.i64.wrap (t12 + (1 : Int))))
      else none
    else
      some (.inr (.inr ()))
noncomputable def someW (fM : (RuleTest → ApiCase → Option ((List Int) × Bool))) (l : (List RuleTest)) (c : ApiCase) : Option ((List Int) × Bool) :=
  (loopO (someW_b1 fM l c) (0 : Int)).bind fun e => match e with
    | (.inl rv) =>
      some rv
    | (.inr ()) =>
      someW_j1 fM

noncomputable def everyF_j1 (fM : (RuleTest → ApiCase → (List Int) → Option ((List Int) × Bool))) (path2 : (List Int)) : Option ((List Int) × Bool) :=
  some (path2, true)
noncomputable def everyF_b1 (fM : (RuleTest → ApiCase → (List Int) → Option ((List Int) × Bool))) (l : (List RuleTest)) (c : ApiCase) : (Int × (List Int)) → Option ((Int × (List Int)) ⊕ (((List Int) × Bool) ⊕ ((List Int))))
  | (t14, path3) =>
    if (decide (t14 < (l.length : Int))) = true then
      if (0 ≤ t14) then
        (l[t14.toNat]?).bind fun x2 =>
          (fM x2 c path3).bind fun v2 =>
            if (!v2.2) = true then
              some (.inr (.inl ([], false)))
            else
              some (.inl ((IntKind.i64.wrap (t14 + (1 : Int))), v2.1))
      else none
    else
      some (.inr (.inr path3))
noncomputable def everyF (fM : (RuleTest → ApiCase → (List Int) → Option ((List Int) × Bool))) (l : (List RuleTest)) (c : ApiCase) (path : (List Int)) : Option ((List Int) × Bool) :=
  (loopO (everyF_b1 fM l c) ((0 : Int), path)).bind fun e => match e with
    | (.inl rv) =>
      some rv
    | (.inr path5) =>
      everyF_j1 fM path5

noncomputable def someF (fM : (RuleTest → ApiCase → (List Int) → Option ((List Int) × Bool))) (l : (List RuleTest)) (c : ApiCase) (path : (List Int)) : Option ((List Int) × Bool) :=
  if ((!((path.length : Int) == (0 : Int))) = true → (0 ≤ (0 : Int) ∧ (0 : Int) < (path.length : Int))) then
    if ((!(bif ((path.length : Int) == (0 : Int)) then true else (decide ((path.getD 0 default) < (0 : Int))))) = true → (0 ≤ (0 : Int) ∧ (0 : Int) < (path.length : Int))) then
      if (bif (bif ((path.length : Int) == (0 : Int)) then true else (decide ((path.getD 0 default) < (0 : Int)))) then true else (decide ((l.length : Int) ≤ (path.getD 0 default)))) = true then
        some ([], false)
      else
        (path[0]?).bind fun x =>
          if (0 ≤ x) then
            (l[x.toNat]?).bind fun x2 =>
              if (0 ≤ (1 : Int) ∧ (1 : Int) ≤ (path.length : Int)) then
                (fM x2 c (path.drop (1 : Int).toNat)).bind fun v =>
                  some (v.1, v.2)
              else none
          else none
    else none
  else none

end Go.C
