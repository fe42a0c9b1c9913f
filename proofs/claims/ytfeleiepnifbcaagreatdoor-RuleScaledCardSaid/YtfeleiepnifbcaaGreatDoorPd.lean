/- Plain functions, read off the program by program (gen.py): no program in sight. -/
import Derived.Test.YtfeleiepnifbcaaGreatDoorPl
import Derived.Test.YtfeleiepnifbcaaGreatDoorFp
import Derived.Test.YtfeleiepnifbcaaGreatDoorPa
import Derived.Test.YtfeleiepnifbcaaGreatDoorPb
import Derived.Test.YtfeleiepnifbcaaGreatDoorPc
set_option linter.unusedVariables false
namespace Go.C
open Go.V

noncomputable def percentage_j1 (s : Str) : Option (Str) :=
  if (s.length + ([37] : Str).length ≤ 9223372036854775807) then
    some (s ++ ([37] : Str))
  else none
noncomputable def percentage (n1 : Int) : Option (Str) :=
  (itoa (IntKind.i64.wrap (n1.tdiv (10000 : Int)))).bind fun v =>
    if ((n1.tmod (10000 : Int)) != (0 : Int)) = true then
      (itoa (IntKind.i64.wrap ((10000 : Int) + (n1.tmod (10000 : Int))))).bind fun v2 =>
        if (0 ≤ (1 : Int) ∧ (1 : Int) ≤ (v2.length : Int)) then
          (trimRightS (v2.drop (1 : Int).toNat) ([48] : Str)).bind fun v3 =>
            if (([46] : Str).length + v3.length ≤ 9223372036854775807) then
              if (v.length + (([46] : Str) ++ v3).length ≤ 9223372036854775807) then
                percentage_j1 (v ++ (([46] : Str) ++ v3))
              else none
            else none
        else none
    else
      percentage_j1 v

noncomputable def parsePercentage_j1 (s : Str) (v2 : Str × Str × Bool) (digits : Str) : Option (Int) :=
  if (v2.1.length + digits.length ≤ 9223372036854775807) then
    (atoiS (v2.1 ++ digits)).bind fun v3 =>
      (if (!(!v3.2)) = true then millionths v3.1 else some default).bind fun v4 =>
        (if (!(bif (!v3.2) then true else (!v4))) = true then percentage v3.1 else some default).bind fun v5 =>
          if (bif (bif (!v3.2) then true else (!v4)) then true else (!(v5 == s))) = true then
            some (-1 : Int)
          else
            some v3.1
  else none
noncomputable def parsePercentage_b1 (s : Str) (v2 : Str × Str × Bool) : (Str) → Option ((Str) ⊕ (Str))
  | digits2 =>
    if (decide ((digits2.length : Int) < (4 : Int))) = true then
      if (digits2.length + ([48] : Str).length ≤ 9223372036854775807) then
        some (.inl (digits2 ++ ([48] : Str)))
      else none
    else
      some (.inr digits2)
noncomputable def parsePercentage (s : Str) : Option (Int) :=
  (cutSuffixS s ([37] : Str)).bind fun v =>
    if (!v.2) = true then
      some (-1 : Int)
    else
      (cutS v.1 ([46] : Str)).bind fun v2 =>
        (loopO (parsePercentage_b1 s v2) v2.2.1).bind fun e => match e with
          | digits4 =>
            parsePercentage_j1 s v2 digits4

noncomputable def ruleText_j2 (F : ApiRule → Option (Str)) (s2 : Str) : Option (Str) :=
  some s2
noncomputable def ruleText_j1 (F : ApiRule → Option (Str)) (r1 : ApiRule) (s : Str) : Option (Str) :=
  if (decide ((0 : Int) < r1.Tolerance)) = true then
    (percentage r1.Tolerance).bind fun v2 =>
      if (([32, 116, 111, 108, 101, 114, 97, 110, 99, 101, 32] : Str).length + v2.length ≤ 9223372036854775807) then
        if (s.length + (([32, 116, 111, 108, 101, 114, 97, 110, 99, 101, 32] : Str) ++ v2).length ≤ 9223372036854775807) then
          ruleText_j2 F (s ++ (([32, 116, 111, 108, 101, 114, 97, 110, 99, 101, 32] : Str) ++ v2))
        else none
      else none
  else
    ruleText_j2 F s
noncomputable def ruleText_j3 (F : ApiRule → Option (Str)) (r1 : ApiRule) (parts : (List Str)) : Option (Str) :=
  if (r1.Kind == (5 : Int)) = true then
    (joinS parts ([32, 97, 110, 100, 32] : Str)).bind fun v5 =>
      some v5
  else
    (joinS parts ([32, 111, 114, 32] : Str)).bind fun v6 =>
      some v6
noncomputable def ruleText_j4 (F : ApiRule → Option (Str)) (r1 : ApiRule) (t522 : Int) (part3 : Str) (parts5 : (List Str)) : Option ((Int × (List Str)) ⊕ ((List Str))) :=
  if (parts5.length + [part3].length ≤ 137438953472) then
    some (.inl ((IntKind.i64.wrap (t522 + (1 : Int))), (parts5 ++ [part3])))
  else none
noncomputable def ruleText_b1 (F : ApiRule → Option (Str)) (r1 : ApiRule) : (Int × (List Str)) → Option ((Int × (List Str)) ⊕ ((List Str)))
  | (t522, parts2) =>
    if (decide (t522 < (r1.Args.length : Int))) = true then
      if (0 ≤ t522) then
        (r1.Args[t522.toNat]?).bind fun x3 =>
          (F x3).bind fun v9 =>
            if (bif (r1.Kind == (5 : Int)) then (x3.Kind == (6 : Int)) else false) = true then
              if (([40] : Str).length + v9.length ≤ 9223372036854775807) then
                if ((([40] : Str) ++ v9).length + ([41] : Str).length ≤ 9223372036854775807) then
                  ruleText_j4 F r1 t522 ((([40] : Str) ++ v9) ++ ([41] : Str)) parts2
                else none
              else none
            else
              ruleText_j4 F r1 t522 v9 parts2
      else none
    else
      some (.inr parts2)
noncomputable def ruleText_F (F : ApiRule → Option (Str)) (r1 : ApiRule) : Option (Str) :=
  if (r1.Kind == (1 : Int)) = true then
    some ([111, 98, 116, 97, 105, 110, 101, 100] : Str)
  else
    if (r1.Kind == (2 : Int)) = true then
      (itoa r1.Digits).bind fun v =>
        if (([99, 104, 97, 110, 103, 101, 32] : Str).length + v.length ≤ 9223372036854775807) then
          if (decide ((0 : Int) < (r1.Except.length : Int))) = true then
            (joinS r1.Except ([44] : Str)).bind fun v3 =>
              if (([32, 101, 120, 99, 101, 112, 116, 32] : Str).length + v3.length ≤ 9223372036854775807) then
                if ((([99, 104, 97, 110, 103, 101, 32] : Str) ++ v).length + (([32, 101, 120, 99, 101, 112, 116, 32] : Str) ++ v3).length ≤ 9223372036854775807) then
                  ruleText_j1 F r1 ((([99, 104, 97, 110, 103, 101, 32] : Str) ++ v) ++ (([32, 101, 120, 99, 101, 112, 116, 32] : Str) ++ v3))
                else none
              else none
          else
            ruleText_j1 F r1 (([99, 104, 97, 110, 103, 101, 32] : Str) ++ v)
        else none
    else
      if (r1.Kind == (3 : Int)) = true then
        (percentage r1.Limit).bind fun v4 =>
          if (([102, 111, 114, 101, 105, 103, 110, 32] : Str).length + v4.length ≤ 9223372036854775807) then
            some (([102, 111, 114, 101, 105, 103, 110, 32] : Str) ++ v4)
          else none
      else
        if (r1.Kind == (4 : Int)) = true then
          if (([112, 114, 111, 99, 101, 115, 115, 32] : Str).length + r1.Name.length ≤ 9223372036854775807) then
            some (([112, 114, 111, 99, 101, 115, 115, 32] : Str) ++ r1.Name)
          else none
        else
          (loopO (ruleText_b1 F r1) ((0 : Int), [])).bind fun e => match e with
            | parts4 =>
              ruleText_j3 F r1 parts4
noncomputable def ruleText_n : Nat → ApiRule → Option (Str)
  | 0 => fun _ => none
  | n + 1 => ruleText_F (ruleText_n n)
noncomputable def ruleText (r1 : ApiRule) : Option (Str) := ruleText_n 8 r1

noncomputable def ruleFormat (r1 : ApiRule) : Option (Str) :=
  (ruleValidate r1).bind fun v =>
    if (v != (0 : Int)) = true then
      some ([] : Str)
    else
      (ruleText r1).bind fun v2 =>
        some v2

noncomputable def tokensOf (s : Str) : Option ((List Str)) :=
  (replaceAllS s ([40] : Str) ([32, 40, 32] : Str)).bind fun v =>
    (replaceAllS v ([41] : Str) ([32, 41, 32] : Str)).bind fun v2 =>
      (fieldsS v2).bind fun v3 =>
        some v3

noncomputable def parNext (p : RuleParser) : Option (Str × RuleParser) :=
  if ((p.tokens.length : Int) == (0 : Int)) = true then
    some (([] : Str), p)
  else
    (p.tokens[0]?).bind fun x =>
      if (0 ≤ (1 : Int) ∧ (1 : Int) ≤ (p.tokens.length : Int)) then
        some (x, (⟨(p.tokens.drop (1 : Int).toNat), p.depth⟩ : RuleParser))
      else none

noncomputable def parAccept (p : RuleParser) (token : Str) : Option (Bool × RuleParser) :=
  if ((!((p.tokens.length : Int) == (0 : Int))) = true → (0 ≤ (0 : Int) ∧ (0 : Int) < (p.tokens.length : Int))) then
    if (bif ((p.tokens.length : Int) == (0 : Int)) then true else (!((p.tokens.getD 0 default) == token))) = true then
      some (false, p)
    else
      if (0 ≤ (1 : Int) ∧ (1 : Int) ≤ (p.tokens.length : Int)) then
        some (true, (⟨(p.tokens.drop (1 : Int).toNat), p.depth⟩ : RuleParser))
      else none
  else none

noncomputable def ruleGroup (kind : Int) (args : (List ApiRule)) : Option (ApiRule) :=
  if ((args.length : Int) == (1 : Int)) = true then
    (args[0]?).bind fun x =>
      some x
  else
    some (⟨kind, 0, [], 0, 0, [], args⟩ : ApiRule)

noncomputable def parChange_j2 (v2 : Int × Bool) (c5_2 : (List Str)) (c0_02 : (List Str)) (c0_12 : Int) (c5_3 : Int) : Option (ApiRule × RuleParser) :=
  some ((⟨(2 : Int), v2.1, c5_2, c5_3, 0, [], []⟩ : ApiRule), (⟨c0_02, c0_12⟩ : RuleParser))
noncomputable def parChange_j1 (v2 : Int × Bool) (c0_0 : (List Str)) (c0_1 : Int) (c5_2 : (List Str)) : Option (ApiRule × RuleParser) :=
  (parAccept (⟨c0_0, c0_1⟩ : RuleParser) ([116, 111, 108, 101, 114, 97, 110, 99, 101] : Str)).bind fun v4 =>
    if v4.1 = true then
      (parNext v4.2).bind fun v5 =>
        (parsePercentage v5.1).bind fun v6 =>
          parChange_j2 v2 c5_2 v5.2.tokens v5.2.depth v6
    else
      parChange_j2 v2 c5_2 v4.2.tokens v4.2.depth 0
noncomputable def parChange (p : RuleParser) : Option (ApiRule × RuleParser) :=
  (parNext p).bind fun v =>
    (atoiS v.1).bind fun v2 =>
      if (!v2.2) = true then
        some ((⟨0, 0, [], 0, 0, [], []⟩ : ApiRule), v.2)
      else
        (parAccept v.2 ([101, 120, 99, 101, 112, 116] : Str)).bind fun v3 =>
          if v3.1 = true then
            (parNext v3.2).bind fun v7 =>
              (splitS v7.1 ([44] : Str)).bind fun v8 =>
                parChange_j1 v2 v7.2.tokens v7.2.depth v8
          else
            parChange_j1 v2 v3.2.tokens v3.2.depth []

noncomputable def parElement (p : RuleParser) : Option (ApiRule × RuleParser) :=
  (parNext p).bind fun v =>
    if (v.1 == ([40] : Str)) = true then
      none
    else
      if (v.1 == ([111, 98, 116, 97, 105, 110, 101, 100] : Str)) = true then
        some ((⟨(1 : Int), 0, [], 0, 0, [], []⟩ : ApiRule), v.2)
      else
        if (v.1 == ([99, 104, 97, 110, 103, 101] : Str)) = true then
          (parChange v.2).bind fun v2 =>
            some (v2.1, v2.2)
        else
          if (v.1 == ([102, 111, 114, 101, 105, 103, 110] : Str)) = true then
            (parNext v.2).bind fun v3 =>
              (parsePercentage v3.1).bind fun v4 =>
                some ((⟨(3 : Int), 0, [], 0, v4, [], []⟩ : ApiRule), v3.2)
          else
            if (v.1 == ([112, 114, 111, 99, 101, 115, 115] : Str)) = true then
              (parNext v.2).bind fun v5 =>
                some ((⟨(4 : Int), 0, [], 0, 0, v5.1, []⟩ : ApiRule), v5.2)
            else
              some ((⟨0, 0, [], 0, 0, [], []⟩ : ApiRule), v.2)

noncomputable def parComb_j1 (args : (List ApiRule)) (c0_0 : (List Str)) (c0_1 : Int) : Option (ApiRule × RuleParser) :=
  (ruleGroup (5 : Int) args).bind fun v2 =>
    some (v2, (⟨c0_0, c0_1⟩ : RuleParser))
noncomputable def parComb_b1  : ((List ApiRule) × (List Str) × Int) → Option (((List ApiRule) × (List Str) × Int) ⊕ ((List ApiRule) × (List Str) × Int))
  | (args2, c0_02, c0_12) =>
    (parAccept (⟨c0_02, c0_12⟩ : RuleParser) ([97, 110, 100] : Str)).bind fun v5 =>
      if v5.1 = true then
        (parElement v5.2).bind fun v6 =>
          if (args2.length + [v6.1].length ≤ 137438953472) then
            some (.inl ((args2 ++ [v6.1]), v6.2.tokens, v6.2.depth))
          else none
      else
        some (.inr (args2, v5.2.tokens, v5.2.depth))
noncomputable def parComb (p : RuleParser) : Option (ApiRule × RuleParser) :=
  (parElement p).bind fun v =>
    (loopO (parComb_b1) ([v.1], v.2.tokens, v.2.depth)).bind fun e => match e with
      | (args4, c0_04, c0_14) =>
        parComb_j1 args4 c0_04 c0_14

noncomputable def parAlt_j1 (args : (List ApiRule)) (c0_0 : (List Str)) (c0_1 : Int) : Option (ApiRule × RuleParser) :=
  (ruleGroup (6 : Int) args).bind fun v2 =>
    some (v2, (⟨c0_0, c0_1⟩ : RuleParser))
noncomputable def parAlt_b1  : ((List ApiRule) × (List Str) × Int) → Option (((List ApiRule) × (List Str) × Int) ⊕ ((List ApiRule) × (List Str) × Int))
  | (args2, c0_02, c0_12) =>
    (parAccept (⟨c0_02, c0_12⟩ : RuleParser) ([111, 114] : Str)).bind fun v5 =>
      if v5.1 = true then
        (parComb v5.2).bind fun v6 =>
          if (args2.length + [v6.1].length ≤ 137438953472) then
            some (.inl ((args2 ++ [v6.1]), v6.2.tokens, v6.2.depth))
          else none
      else
        some (.inr (args2, v5.2.tokens, v5.2.depth))
noncomputable def parAlt (p : RuleParser) : Option (ApiRule × RuleParser) :=
  (parComb p).bind fun v =>
    (loopO (parAlt_b1) ([v.1], v.2.tokens, v.2.depth)).bind fun e => match e with
      | (args4, c0_04, c0_14) =>
        parAlt_j1 args4 c0_04 c0_14

noncomputable def ruleParse (s : Str) : Option (ApiRule × Int) :=
  (tokensOf s).bind fun v =>
    (parAlt (⟨v, 0⟩ : RuleParser)).bind fun v2 =>
      (ruleValidate v2.1).bind fun v3 =>
        (if (!(v3 != (0 : Int))) = true then ruleFormat v2.1 else some default).bind fun v4 =>
          if (bif (v3 != (0 : Int)) then true else (!(v4 == s))) = true then
            some ((⟨0, 0, [], 0, 0, [], []⟩ : ApiRule), (4 : Int))
          else
            some (v2.1, (0 : Int))

end Go.C
