/- Plain functions, read off the program by program (gen.py): no program in sight. -/
import Derived.Test.YtinickkcieecdaaGreatDoorPl
import Derived.Test.YtinickkcieecdaaGreatDoorPa
set_option linter.unusedVariables false
namespace Go.C
open Go.V

noncomputable def leadingZeros64 (x : Int) : Option (Int) :=
  (len64 x).bind fun v =>
    some (IntKind.i64.wrap ((64 : Int) - v))

noncomputable def div64_j2 (hi : Int) (lo : Int) (y : Int) (v : Int) (q1 : Int) (q0 : Int) : Option (Int × Int) :=
  if (0 ≤ (IntKind.u64.wrap v)) then
    some ((IntKind.u64.wrap ((IntKind.u64.wrap (q1 * (4294967296 : Int))) + q0)), ((IntKind.u64.wrap ((IntKind.u64.wrap ((IntKind.u64.wrap ((IntKind.u64.wrap ((IntKind.u64.wrap ((IntKind.u64.wrap ((IntKind.u64.wrap ((BitVec.ofInt (IntKind.u64).bits (IntKind.u64.wrap (hi * 2 ^ (min (IntKind.u64.wrap v).toNat (IntKind.u64).bits))) ||| BitVec.ofInt (IntKind.u64).bits (lo.fdiv (2 ^ (min (IntKind.u64.wrap ((64 : Int) - (IntKind.u64.wrap v))).toNat (IntKind.u64).bits)))).toNat : Int)) * (4294967296 : Int))) + ((IntKind.u64.wrap (lo * 2 ^ (min (IntKind.u64.wrap v).toNat (IntKind.u64).bits))).fdiv (2 ^ (min (32 : Int).toNat (IntKind.u64).bits))))) - (IntKind.u64.wrap (q1 * (IntKind.u64.wrap (y * 2 ^ (min (IntKind.u64.wrap v).toNat (IntKind.u64).bits))))))) * (4294967296 : Int))) + (IntKind.u64.wrap ((BitVec.ofInt (IntKind.u64).bits (IntKind.u64.wrap (lo * 2 ^ (min (IntKind.u64.wrap v).toNat (IntKind.u64).bits))) &&& BitVec.ofInt (IntKind.u64).bits (4294967295 : Int)).toNat : Int)))) - (IntKind.u64.wrap (q0 * (IntKind.u64.wrap (y * 2 ^ (min (IntKind.u64.wrap v).toNat (IntKind.u64).bits))))))).fdiv (2 ^ (min (IntKind.u64.wrap v).toNat (IntKind.u64).bits))))
  else none
noncomputable def div64_b1 (hi : Int) (lo : Int) (y : Int) (v : Int) (q1 : Int) : (Int × Int) → Option ((Int × Int) ⊕ (Int))
  | (rhat, q02) =>
    if (bif (decide ((4294967296 : Int) ≤ q02)) then true else (decide ((IntKind.u64.wrap ((IntKind.u64.wrap ((4294967296 : Int) * rhat)) + (IntKind.u64.wrap ((BitVec.ofInt (IntKind.u64).bits (IntKind.u64.wrap (lo * 2 ^ (min (IntKind.u64.wrap v).toNat (IntKind.u64).bits))) &&& BitVec.ofInt (IntKind.u64).bits (4294967295 : Int)).toNat : Int)))) < (IntKind.u64.wrap (q02 * (IntKind.u64.wrap ((BitVec.ofInt (IntKind.u64).bits (IntKind.u64.wrap (y * 2 ^ (min (IntKind.u64.wrap v).toNat (IntKind.u64).bits))) &&& BitVec.ofInt (IntKind.u64).bits (4294967295 : Int)).toNat : Int))))))) = true then
      if (decide ((4294967296 : Int) ≤ (IntKind.u64.wrap (rhat + ((IntKind.u64.wrap (y * 2 ^ (min (IntKind.u64.wrap v).toNat (IntKind.u64).bits))).fdiv (2 ^ (min (32 : Int).toNat (IntKind.u64).bits))))))) = true then
        some (.inr (IntKind.u64.wrap (q02 - (1 : Int))))
      else
        some (.inl ((IntKind.u64.wrap (rhat + ((IntKind.u64.wrap (y * 2 ^ (min (IntKind.u64.wrap v).toNat (IntKind.u64).bits))).fdiv (2 ^ (min (32 : Int).toNat (IntKind.u64).bits))))), (IntKind.u64.wrap (q02 - (1 : Int)))))
    else
      some (.inr q02)
noncomputable def div64_j1 (hi : Int) (lo : Int) (y : Int) (v : Int) (q1 : Int) : Option (Int × Int) :=
  if (((IntKind.u64.wrap (y * 2 ^ (min (IntKind.u64.wrap v).toNat (IntKind.u64).bits))).fdiv (2 ^ (min (32 : Int).toNat (IntKind.u64).bits))) ≠ 0) then
    (loopO (div64_b1 hi lo y v q1) ((IntKind.u64.wrap ((IntKind.u64.wrap ((IntKind.u64.wrap ((IntKind.u64.wrap ((IntKind.u64.wrap ((BitVec.ofInt (IntKind.u64).bits (IntKind.u64.wrap (hi * 2 ^ (min (IntKind.u64.wrap v).toNat (IntKind.u64).bits))) ||| BitVec.ofInt (IntKind.u64).bits (lo.fdiv (2 ^ (min (IntKind.u64.wrap ((64 : Int) - (IntKind.u64.wrap v))).toNat (IntKind.u64).bits)))).toNat : Int)) * (4294967296 : Int))) + ((IntKind.u64.wrap (lo * 2 ^ (min (IntKind.u64.wrap v).toNat (IntKind.u64).bits))).fdiv (2 ^ (min (32 : Int).toNat (IntKind.u64).bits))))) - (IntKind.u64.wrap (q1 * (IntKind.u64.wrap (y * 2 ^ (min (IntKind.u64.wrap v).toNat (IntKind.u64).bits))))))) - (IntKind.u64.wrap ((IntKind.u64.wrap ((IntKind.u64.wrap ((IntKind.u64.wrap ((IntKind.u64.wrap ((IntKind.u64.wrap ((BitVec.ofInt (IntKind.u64).bits (IntKind.u64.wrap (hi * 2 ^ (min (IntKind.u64.wrap v).toNat (IntKind.u64).bits))) ||| BitVec.ofInt (IntKind.u64).bits (lo.fdiv (2 ^ (min (IntKind.u64.wrap ((64 : Int) - (IntKind.u64.wrap v))).toNat (IntKind.u64).bits)))).toNat : Int)) * (4294967296 : Int))) + ((IntKind.u64.wrap (lo * 2 ^ (min (IntKind.u64.wrap v).toNat (IntKind.u64).bits))).fdiv (2 ^ (min (32 : Int).toNat (IntKind.u64).bits))))) - (IntKind.u64.wrap (q1 * (IntKind.u64.wrap (y * 2 ^ (min (IntKind.u64.wrap v).toNat (IntKind.u64).bits))))))).tdiv ((IntKind.u64.wrap (y * 2 ^ (min (IntKind.u64.wrap v).toNat (IntKind.u64).bits))).fdiv (2 ^ (min (32 : Int).toNat (IntKind.u64).bits))))) * ((IntKind.u64.wrap (y * 2 ^ (min (IntKind.u64.wrap v).toNat (IntKind.u64).bits))).fdiv (2 ^ (min (32 : Int).toNat (IntKind.u64).bits))))))), (IntKind.u64.wrap ((IntKind.u64.wrap ((IntKind.u64.wrap ((IntKind.u64.wrap ((IntKind.u64.wrap ((BitVec.ofInt (IntKind.u64).bits (IntKind.u64.wrap (hi * 2 ^ (min (IntKind.u64.wrap v).toNat (IntKind.u64).bits))) ||| BitVec.ofInt (IntKind.u64).bits (lo.fdiv (2 ^ (min (IntKind.u64.wrap ((64 : Int) - (IntKind.u64.wrap v))).toNat (IntKind.u64).bits)))).toNat : Int)) * (4294967296 : Int))) + ((IntKind.u64.wrap (lo * 2 ^ (min (IntKind.u64.wrap v).toNat (IntKind.u64).bits))).fdiv (2 ^ (min (32 : Int).toNat (IntKind.u64).bits))))) - (IntKind.u64.wrap (q1 * (IntKind.u64.wrap (y * 2 ^ (min (IntKind.u64.wrap v).toNat (IntKind.u64).bits))))))).tdiv ((IntKind.u64.wrap (y * 2 ^ (min (IntKind.u64.wrap v).toNat (IntKind.u64).bits))).fdiv (2 ^ (min (32 : Int).toNat (IntKind.u64).bits))))))).bind fun e => match e with
      | q04 =>
        div64_j2 hi lo y v q1 q04
  else none
noncomputable def div64_b2 (hi : Int) (lo : Int) (y : Int) (v : Int) : (Int × Int) → Option ((Int × Int) ⊕ (Int))
  | (rhat3, q12) =>
    if (bif (decide ((4294967296 : Int) ≤ q12)) then true else (decide ((IntKind.u64.wrap ((IntKind.u64.wrap ((4294967296 : Int) * rhat3)) + ((IntKind.u64.wrap (lo * 2 ^ (min (IntKind.u64.wrap v).toNat (IntKind.u64).bits))).fdiv (2 ^ (min (32 : Int).toNat (IntKind.u64).bits))))) < (IntKind.u64.wrap (q12 * (IntKind.u64.wrap ((BitVec.ofInt (IntKind.u64).bits (IntKind.u64.wrap (y * 2 ^ (min (IntKind.u64.wrap v).toNat (IntKind.u64).bits))) &&& BitVec.ofInt (IntKind.u64).bits (4294967295 : Int)).toNat : Int))))))) = true then
      if (decide ((4294967296 : Int) ≤ (IntKind.u64.wrap (rhat3 + ((IntKind.u64.wrap (y * 2 ^ (min (IntKind.u64.wrap v).toNat (IntKind.u64).bits))).fdiv (2 ^ (min (32 : Int).toNat (IntKind.u64).bits))))))) = true then
        some (.inr (IntKind.u64.wrap (q12 - (1 : Int))))
      else
        some (.inl ((IntKind.u64.wrap (rhat3 + ((IntKind.u64.wrap (y * 2 ^ (min (IntKind.u64.wrap v).toNat (IntKind.u64).bits))).fdiv (2 ^ (min (32 : Int).toNat (IntKind.u64).bits))))), (IntKind.u64.wrap (q12 - (1 : Int)))))
    else
      some (.inr q12)
noncomputable def div64 (hi : Int) (lo : Int) (y : Int) : Option (Int × Int) :=
  if (y == (0 : Int)) = true then
    none
  else
    if (decide (y ≤ hi)) = true then
      none
    else
      if (hi == (0 : Int)) = true then
        if (y ≠ 0) then
          if (y ≠ 0) then
            some ((IntKind.u64.wrap (lo.tdiv y)), (lo.tmod y))
          else none
        else none
      else
        (leadingZeros64 y).bind fun v =>
          if (0 ≤ (IntKind.u64.wrap v)) then
            if (0 ≤ (IntKind.u64.wrap v)) then
              if (0 ≤ (IntKind.u64.wrap ((64 : Int) - (IntKind.u64.wrap v)))) then
                if (0 ≤ (IntKind.u64.wrap v)) then
                  if (((IntKind.u64.wrap (y * 2 ^ (min (IntKind.u64.wrap v).toNat (IntKind.u64).bits))).fdiv (2 ^ (min (32 : Int).toNat (IntKind.u64).bits))) ≠ 0) then
                    (loopO (div64_b2 hi lo y v) ((IntKind.u64.wrap ((IntKind.u64.wrap ((BitVec.ofInt (IntKind.u64).bits (IntKind.u64.wrap (hi * 2 ^ (min (IntKind.u64.wrap v).toNat (IntKind.u64).bits))) ||| BitVec.ofInt (IntKind.u64).bits (lo.fdiv (2 ^ (min (IntKind.u64.wrap ((64 : Int) - (IntKind.u64.wrap v))).toNat (IntKind.u64).bits)))).toNat : Int)) - (IntKind.u64.wrap ((IntKind.u64.wrap ((IntKind.u64.wrap ((BitVec.ofInt (IntKind.u64).bits (IntKind.u64.wrap (hi * 2 ^ (min (IntKind.u64.wrap v).toNat (IntKind.u64).bits))) ||| BitVec.ofInt (IntKind.u64).bits (lo.fdiv (2 ^ (min (IntKind.u64.wrap ((64 : Int) - (IntKind.u64.wrap v))).toNat (IntKind.u64).bits)))).toNat : Int)).tdiv ((IntKind.u64.wrap (y * 2 ^ (min (IntKind.u64.wrap v).toNat (IntKind.u64).bits))).fdiv (2 ^ (min (32 : Int).toNat (IntKind.u64).bits))))) * ((IntKind.u64.wrap (y * 2 ^ (min (IntKind.u64.wrap v).toNat (IntKind.u64).bits))).fdiv (2 ^ (min (32 : Int).toNat (IntKind.u64).bits))))))), (IntKind.u64.wrap ((IntKind.u64.wrap ((BitVec.ofInt (IntKind.u64).bits (IntKind.u64.wrap (hi * 2 ^ (min (IntKind.u64.wrap v).toNat (IntKind.u64).bits))) ||| BitVec.ofInt (IntKind.u64).bits (lo.fdiv (2 ^ (min (IntKind.u64.wrap ((64 : Int) - (IntKind.u64.wrap v))).toNat (IntKind.u64).bits)))).toNat : Int)).tdiv ((IntKind.u64.wrap (y * 2 ^ (min (IntKind.u64.wrap v).toNat (IntKind.u64).bits))).fdiv (2 ^ (min (32 : Int).toNat (IntKind.u64).bits))))))).bind fun e => match e with
                      | q14 =>
                        div64_j1 hi lo y v q14
                  else none
                else none
              else none
            else none
          else none

noncomputable def exactMul (a : Int) (b : Int) : Option (ExactWide) :=
  (mul64 a b).bind fun v =>
    some (⟨v.1, v.2⟩ : ExactWide)

noncomputable def exactAdd (a : ExactWide) (b : ExactWide) : Option (ExactWide × Int) :=
  (add64 a.Lo b.Lo (0 : Int)).bind fun v =>
    (add64 a.Hi b.Hi v.2).bind fun v2 =>
      if (v2.2 != (0 : Int)) = true then
        some ((⟨0, 0⟩ : ExactWide), (3 : Int))
      else
        some ((⟨v2.1, v.1⟩ : ExactWide), (0 : Int))

noncomputable def exactCmp (a : ExactWide) (b : ExactWide) : Option (Int) :=
  if (bif (decide (a.Hi < b.Hi)) then true else (bif (a.Hi == b.Hi) then (decide (a.Lo < b.Lo)) else false)) = true then
    some (-1 : Int)
  else
    if ((a.Hi == b.Hi) && (a.Lo == b.Lo)) = true then
      some (0 : Int)
    else
      some (1 : Int)

noncomputable def exactRaised (q : Int) (rest : Int) (c : Int) (m1 : Int) : Option (Bool) :=
  if (m1 == (1 : Int)) = true then
    some (decide ((0 : Int) < rest))
  else
    if (m1 == (2 : Int)) = true then
      some (decide ((IntKind.u64.wrap (c - rest)) ≤ rest))
    else
      if (m1 == (3 : Int)) = true then
        some (bif (decide ((IntKind.u64.wrap (c - rest)) < rest)) then true else (bif (rest == (IntKind.u64.wrap (c - rest))) then ((q.tmod (2 : Int)) == (1 : Int)) else false))
      else
        some false

noncomputable def exactDiv (w1 : ExactWide) (c : Int) (m1 : Int) : Option (Int × Int) :=
  if (bif (bif (c == (0 : Int)) then true else (decide (m1 < (0 : Int)))) then true else (decide ((3 : Int) < m1))) = true then
    some ((0 : Int), (2 : Int))
  else
    if (decide (c ≤ w1.Hi)) = true then
      some ((0 : Int), (3 : Int))
    else
      (div64 w1.Hi w1.Lo c).bind fun v =>
        (exactRaised v.1 v.2 c m1).bind fun v2 =>
          if (!v2) = true then
            some (v.1, (0 : Int))
          else
            if (v.1 == (18446744073709551615 : Int)) = true then
              some ((0 : Int), (3 : Int))
            else
              some ((IntKind.u64.wrap (v.1 + (1 : Int))), (0 : Int))

noncomputable def r01Add_j1 (a : Customsref01Wide) (b : Customsref01Wide) (over : Bool) (hi : Int) : Option (Customsref01Wide × Bool) :=
  some ((⟨hi, (IntKind.u64.wrap (a.Lo + b.Lo))⟩ : Customsref01Wide), over)
noncomputable def r01Add (a : Customsref01Wide) (b : Customsref01Wide) : Option (Customsref01Wide × Bool) :=
  if (decide ((IntKind.u64.wrap (a.Lo + b.Lo)) < a.Lo)) = true then
    r01Add_j1 a b (bif (decide ((IntKind.u64.wrap (a.Hi + b.Hi)) < a.Hi)) then true else ((IntKind.u64.wrap ((IntKind.u64.wrap (a.Hi + b.Hi)) + (1 : Int))) == (0 : Int))) (IntKind.u64.wrap ((IntKind.u64.wrap (a.Hi + b.Hi)) + (1 : Int)))
  else
    r01Add_j1 a b (decide ((IntKind.u64.wrap (a.Hi + b.Hi)) < a.Hi)) (IntKind.u64.wrap (a.Hi + b.Hi))

noncomputable def r01Mul_j1 (c5_0 : Int) (c5_1 : Int) : Option (Customsref01Wide) :=
  some (⟨c5_0, c5_1⟩ : Customsref01Wide)
noncomputable def r01Mul_j2 (a : Int) (b : Int) (i : Int) (c5_06 : Int) (c5_16 : Int) : Option ((Int × Int × Int) ⊕ (Int × Int)) :=
  some (.inl ((IntKind.i64.wrap (i - (1 : Int))), c5_06, c5_16))
noncomputable def r01Mul_b1 (a : Int) (b : Int) : (Int × Int × Int) → Option ((Int × Int × Int) ⊕ (Int × Int))
  | (i, c5_02, c5_12) =>
    if (decide ((0 : Int) ≤ i)) = true then
      (r01Add (⟨c5_02, c5_12⟩ : Customsref01Wide) (⟨c5_02, c5_12⟩ : Customsref01Wide)).bind fun v3 =>
        if (0 ≤ i) then
          if ((IntKind.u64.wrap ((BitVec.ofInt (IntKind.u64).bits (b.fdiv (2 ^ (min i.toNat (IntKind.u64).bits))) &&& BitVec.ofInt (IntKind.u64).bits (1 : Int)).toNat : Int)) == (1 : Int)) = true then
            (r01Add v3.1 (⟨(0 : Int), a⟩ : Customsref01Wide)).bind fun v4 =>
              r01Mul_j2 a b i v4.1.Hi v4.1.Lo
          else
            r01Mul_j2 a b i v3.1.Hi v3.1.Lo
        else none
    else
      some (.inr (c5_02, c5_12))
noncomputable def r01Mul (a : Int) (b : Int) : Option (Customsref01Wide) :=
  (loopO (r01Mul_b1 a b) ((63 : Int), 0, 0)).bind fun e => match e with
    | (c5_05, c5_15) =>
      r01Mul_j1 c5_05 c5_15

noncomputable def r01Less (a : Customsref01Wide) (b : Customsref01Wide) : Option (Bool) :=
  some (bif (decide (a.Hi < b.Hi)) then true else (bif (a.Hi == b.Hi) then (decide (a.Lo < b.Lo)) else false))

noncomputable def r01DivMod_j1 (r1 : Int) (c6_0 : Int) (c6_1 : Int) : Option (Customsref01Wide × Int) :=
  some ((⟨c6_0, c6_1⟩ : Customsref01Wide), r1)
noncomputable def r01DivMod_j2 (w1 : Customsref01Wide) (c : Int) (i : Int) (r16 : Int) (c6_06 : Int) (c6_16 : Int) : Option ((Int × Int × Int × Int) ⊕ (Int × Int × Int)) :=
  some (.inl ((IntKind.i64.wrap (i - (1 : Int))), r16, c6_06, c6_16))
noncomputable def r01DivMod_j3 (w1 : Customsref01Wide) (c : Int) (i : Int) (r12 : Int) (c6_02 : Int) (c6_12 : Int) (bit2 : Int) : Option ((Int × Int × Int × Int) ⊕ (Int × Int × Int)) :=
  (r01Add (⟨c6_02, c6_12⟩ : Customsref01Wide) (⟨c6_02, c6_12⟩ : Customsref01Wide)).bind fun v2 =>
    if (bif ((r12.fdiv (2 ^ (min (63 : Int).toNat (IntKind.u64).bits))) == (1 : Int)) then true else (decide (c ≤ (IntKind.u64.wrap ((BitVec.ofInt (IntKind.u64).bits (IntKind.u64.wrap (r12 * 2 ^ (min (1 : Int).toNat (IntKind.u64).bits))) ||| BitVec.ofInt (IntKind.u64).bits bit2).toNat : Int))))) = true then
      r01DivMod_j2 w1 c i (IntKind.u64.wrap ((IntKind.u64.wrap ((BitVec.ofInt (IntKind.u64).bits (IntKind.u64.wrap (r12 * 2 ^ (min (1 : Int).toNat (IntKind.u64).bits))) ||| BitVec.ofInt (IntKind.u64).bits bit2).toNat : Int)) - c)) v2.1.Hi (IntKind.u64.wrap ((BitVec.ofInt (IntKind.u64).bits v2.1.Lo ||| BitVec.ofInt (IntKind.u64).bits (1 : Int)).toNat : Int))
    else
      r01DivMod_j2 w1 c i (IntKind.u64.wrap ((BitVec.ofInt (IntKind.u64).bits (IntKind.u64.wrap (r12 * 2 ^ (min (1 : Int).toNat (IntKind.u64).bits))) ||| BitVec.ofInt (IntKind.u64).bits bit2).toNat : Int)) v2.1.Hi v2.1.Lo
noncomputable def r01DivMod_b1 (w1 : Customsref01Wide) (c : Int) : (Int × Int × Int × Int) → Option ((Int × Int × Int × Int) ⊕ (Int × Int × Int))
  | (i, r12, c6_02, c6_12) =>
    if (decide ((0 : Int) ≤ i)) = true then
      if (0 ≤ (IntKind.i64.wrap ((BitVec.ofInt (IntKind.i64).bits i &&& BitVec.ofInt (IntKind.i64).bits (63 : Int)).toNat : Int))) then
        if (decide ((63 : Int) < i)) = true then
          if (0 ≤ (IntKind.i64.wrap (i - (64 : Int)))) then
            r01DivMod_j3 w1 c i r12 c6_02 c6_12 (IntKind.u64.wrap ((BitVec.ofInt (IntKind.u64).bits (w1.Hi.fdiv (2 ^ (min (IntKind.i64.wrap (i - (64 : Int))).toNat (IntKind.u64).bits))) &&& BitVec.ofInt (IntKind.u64).bits (1 : Int)).toNat : Int))
          else none
        else
          r01DivMod_j3 w1 c i r12 c6_02 c6_12 (IntKind.u64.wrap ((BitVec.ofInt (IntKind.u64).bits (w1.Lo.fdiv (2 ^ (min (IntKind.i64.wrap ((BitVec.ofInt (IntKind.i64).bits i &&& BitVec.ofInt (IntKind.i64).bits (63 : Int)).toNat : Int)).toNat (IntKind.u64).bits))) &&& BitVec.ofInt (IntKind.u64).bits (1 : Int)).toNat : Int))
      else none
    else
      some (.inr (r12, c6_02, c6_12))
noncomputable def r01DivMod (w1 : Customsref01Wide) (c : Int) : Option (Customsref01Wide × Int) :=
  (loopO (r01DivMod_b1 w1 c) ((127 : Int), (0 : Int), 0, 0)).bind fun e => match e with
    | (r15, c6_05, c6_15) =>
      r01DivMod_j1 r15 c6_05 c6_15

noncomputable def r01Div_j2 (c8_0 : Int) (c8_1 : Int) : Option (Int × Int) :=
  if (decide ((0 : Int) < c8_0)) = true then
    some ((0 : Int), (3 : Int))
  else
    some (c8_1, (0 : Int))
noncomputable def r01Div_j1 (v : Customsref01Wide × Int) (up : Bool) : Option (Int × Int) :=
  if up = true then
    (r01Add v.1 (⟨(0 : Int), (1 : Int)⟩ : Customsref01Wide)).bind fun v2 =>
      r01Div_j2 v2.1.Hi v2.1.Lo
  else
    r01Div_j2 v.1.Hi v.1.Lo
noncomputable def r01Div (w1 : Customsref01Wide) (c : Int) (m1 : Int) : Option (Int × Int) :=
  if (bif (bif (c == (0 : Int)) then true else (decide (m1 < (0 : Int)))) then true else (decide ((3 : Int) < m1))) = true then
    some ((0 : Int), (2 : Int))
  else
    (r01DivMod w1 c).bind fun v =>
      if (m1 == (1 : Int)) = true then
        r01Div_j1 v (decide ((0 : Int) < v.2))
      else
        if (m1 == (2 : Int)) = true then
          r01Div_j1 v (decide ((IntKind.u64.wrap (c - v.2)) ≤ v.2))
        else
          if (m1 == (3 : Int)) = true then
            r01Div_j1 v (bif (decide ((IntKind.u64.wrap (c - v.2)) < v.2)) then true else (bif (v.2 == (IntKind.u64.wrap (c - v.2))) then ((IntKind.u64.wrap ((BitVec.ofInt (IntKind.u64).bits v.1.Lo &&& BitVec.ofInt (IntKind.u64).bits (1 : Int)).toNat : Int)) == (1 : Int)) else false))
          else
            r01Div_j1 v false

noncomputable def refScaled (rate : Int) (value : Int) (per : Int) : Option (Customsref01Wide) :=
  (r01Mul (IntKind.u64.wrap ((IntKind.u64.wrap rate) * (IntKind.u64.wrap value))) (IntKind.u64.wrap per)).bind fun v =>
    some v

end Go.C
