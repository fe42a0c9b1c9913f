/- Plain functions, read off the program by program (gen.py): no program in sight. -/
import Derived.Test.YtinickkcieecdaaGreatDoorPl
import Derived.Test.YtinickkcieecdaaGreatDoorPa
set_option linter.unusedVariables false
namespace Go.C
open Go.V

noncomputable def leadingZeros64 (x : Int) : Option (Int) :=
  (len64 x).bind fun v =>
    some (IntKind.i64.wrap ((64 : Int) - v))

noncomputable def div64_j2 (a0 : Int) (a1 : Int) (a2 : Int) (v : Int) (t15 : Int) (t18 : Int) : Option (Int × Int) :=
  if (0 ≤ (IntKind.u64.wrap v)) then
    some ((IntKind.u64.wrap ((IntKind.u64.wrap (t15 * (4294967296 : Int))) + t18)), ((IntKind.u64.wrap ((IntKind.u64.wrap ((IntKind.u64.wrap ((IntKind.u64.wrap ((IntKind.u64.wrap ((IntKind.u64.wrap ((IntKind.u64.wrap ((BitVec.ofInt (IntKind.u64).bits (IntKind.u64.wrap (a0 * 2 ^ (min (IntKind.u64.wrap v).toNat (IntKind.u64).bits))) ||| BitVec.ofInt (IntKind.u64).bits (a1.fdiv (2 ^ (min (IntKind.u64.wrap ((64 : Int) - (IntKind.u64.wrap v))).toNat (IntKind.u64).bits)))).toNat : Int)) * (4294967296 : Int))) + ((IntKind.u64.wrap (a1 * 2 ^ (min (IntKind.u64.wrap v).toNat (IntKind.u64).bits))).fdiv (2 ^ (min (32 : Int).toNat (IntKind.u64).bits))))) - (IntKind.u64.wrap (t15 * (IntKind.u64.wrap (a2 * 2 ^ (min (IntKind.u64.wrap v).toNat (IntKind.u64).bits))))))) * (4294967296 : Int))) + (IntKind.u64.wrap ((BitVec.ofInt (IntKind.u64).bits (IntKind.u64.wrap (a1 * 2 ^ (min (IntKind.u64.wrap v).toNat (IntKind.u64).bits))) &&& BitVec.ofInt (IntKind.u64).bits (4294967295 : Int)).toNat : Int)))) - (IntKind.u64.wrap (t18 * (IntKind.u64.wrap (a2 * 2 ^ (min (IntKind.u64.wrap v).toNat (IntKind.u64).bits))))))).fdiv (2 ^ (min (IntKind.u64.wrap v).toNat (IntKind.u64).bits))))
  else none
noncomputable def div64_b1 (a0 : Int) (a1 : Int) (a2 : Int) (v : Int) (t15 : Int) : (Int × Int) → Option ((Int × Int) ⊕ (Int))
  | (t16, t182) =>
    if (bif (decide ((4294967296 : Int) ≤ t182)) then true else (decide ((IntKind.u64.wrap ((IntKind.u64.wrap ((4294967296 : Int) * t16)) + (IntKind.u64.wrap ((BitVec.ofInt (IntKind.u64).bits (IntKind.u64.wrap (a1 * 2 ^ (min (IntKind.u64.wrap v).toNat (IntKind.u64).bits))) &&& BitVec.ofInt (IntKind.u64).bits (4294967295 : Int)).toNat : Int)))) < (IntKind.u64.wrap (t182 * (IntKind.u64.wrap ((BitVec.ofInt (IntKind.u64).bits (IntKind.u64.wrap (a2 * 2 ^ (min (IntKind.u64.wrap v).toNat (IntKind.u64).bits))) &&& BitVec.ofInt (IntKind.u64).bits (4294967295 : Int)).toNat : Int))))))) = true then
      if (decide ((4294967296 : Int) ≤ (IntKind.u64.wrap (t16 + ((IntKind.u64.wrap (a2 * 2 ^ (min (IntKind.u64.wrap v).toNat (IntKind.u64).bits))).fdiv (2 ^ (min (32 : Int).toNat (IntKind.u64).bits))))))) = true then
        some (.inr (IntKind.u64.wrap (t182 - (1 : Int))))
      else
        some (.inl ((IntKind.u64.wrap (t16 + ((IntKind.u64.wrap (a2 * 2 ^ (min (IntKind.u64.wrap v).toNat (IntKind.u64).bits))).fdiv (2 ^ (min (32 : Int).toNat (IntKind.u64).bits))))), (IntKind.u64.wrap (t182 - (1 : Int)))))
    else
      some (.inr t182)
noncomputable def div64_j1 (a0 : Int) (a1 : Int) (a2 : Int) (v : Int) (t15 : Int) : Option (Int × Int) :=
  if (((IntKind.u64.wrap (a2 * 2 ^ (min (IntKind.u64.wrap v).toNat (IntKind.u64).bits))).fdiv (2 ^ (min (32 : Int).toNat (IntKind.u64).bits))) ≠ 0) then
    (loopO (div64_b1 a0 a1 a2 v t15) ((IntKind.u64.wrap ((IntKind.u64.wrap ((IntKind.u64.wrap ((IntKind.u64.wrap ((IntKind.u64.wrap ((BitVec.ofInt (IntKind.u64).bits (IntKind.u64.wrap (a0 * 2 ^ (min (IntKind.u64.wrap v).toNat (IntKind.u64).bits))) ||| BitVec.ofInt (IntKind.u64).bits (a1.fdiv (2 ^ (min (IntKind.u64.wrap ((64 : Int) - (IntKind.u64.wrap v))).toNat (IntKind.u64).bits)))).toNat : Int)) * (4294967296 : Int))) + ((IntKind.u64.wrap (a1 * 2 ^ (min (IntKind.u64.wrap v).toNat (IntKind.u64).bits))).fdiv (2 ^ (min (32 : Int).toNat (IntKind.u64).bits))))) - (IntKind.u64.wrap (t15 * (IntKind.u64.wrap (a2 * 2 ^ (min (IntKind.u64.wrap v).toNat (IntKind.u64).bits))))))) - (IntKind.u64.wrap ((IntKind.u64.wrap ((IntKind.u64.wrap ((IntKind.u64.wrap ((IntKind.u64.wrap ((IntKind.u64.wrap ((BitVec.ofInt (IntKind.u64).bits (IntKind.u64.wrap (a0 * 2 ^ (min (IntKind.u64.wrap v).toNat (IntKind.u64).bits))) ||| BitVec.ofInt (IntKind.u64).bits (a1.fdiv (2 ^ (min (IntKind.u64.wrap ((64 : Int) - (IntKind.u64.wrap v))).toNat (IntKind.u64).bits)))).toNat : Int)) * (4294967296 : Int))) + ((IntKind.u64.wrap (a1 * 2 ^ (min (IntKind.u64.wrap v).toNat (IntKind.u64).bits))).fdiv (2 ^ (min (32 : Int).toNat (IntKind.u64).bits))))) - (IntKind.u64.wrap (t15 * (IntKind.u64.wrap (a2 * 2 ^ (min (IntKind.u64.wrap v).toNat (IntKind.u64).bits))))))).tdiv ((IntKind.u64.wrap (a2 * 2 ^ (min (IntKind.u64.wrap v).toNat (IntKind.u64).bits))).fdiv (2 ^ (min (32 : Int).toNat (IntKind.u64).bits))))) * ((IntKind.u64.wrap (a2 * 2 ^ (min (IntKind.u64.wrap v).toNat (IntKind.u64).bits))).fdiv (2 ^ (min (32 : Int).toNat (IntKind.u64).bits))))))), (IntKind.u64.wrap ((IntKind.u64.wrap ((IntKind.u64.wrap ((IntKind.u64.wrap ((IntKind.u64.wrap ((BitVec.ofInt (IntKind.u64).bits (IntKind.u64.wrap (a0 * 2 ^ (min (IntKind.u64.wrap v).toNat (IntKind.u64).bits))) ||| BitVec.ofInt (IntKind.u64).bits (a1.fdiv (2 ^ (min (IntKind.u64.wrap ((64 : Int) - (IntKind.u64.wrap v))).toNat (IntKind.u64).bits)))).toNat : Int)) * (4294967296 : Int))) + ((IntKind.u64.wrap (a1 * 2 ^ (min (IntKind.u64.wrap v).toNat (IntKind.u64).bits))).fdiv (2 ^ (min (32 : Int).toNat (IntKind.u64).bits))))) - (IntKind.u64.wrap (t15 * (IntKind.u64.wrap (a2 * 2 ^ (min (IntKind.u64.wrap v).toNat (IntKind.u64).bits))))))).tdiv ((IntKind.u64.wrap (a2 * 2 ^ (min (IntKind.u64.wrap v).toNat (IntKind.u64).bits))).fdiv (2 ^ (min (32 : Int).toNat (IntKind.u64).bits))))))).bind fun e => match e with
      | t184 =>
        div64_j2 a0 a1 a2 v t15 t184
  else none
noncomputable def div64_b2 (a0 : Int) (a1 : Int) (a2 : Int) (v : Int) : (Int × Int) → Option ((Int × Int) ⊕ (Int))
  | (t163, t152) =>
    if (bif (decide ((4294967296 : Int) ≤ t152)) then true else (decide ((IntKind.u64.wrap ((IntKind.u64.wrap ((4294967296 : Int) * t163)) + ((IntKind.u64.wrap (a1 * 2 ^ (min (IntKind.u64.wrap v).toNat (IntKind.u64).bits))).fdiv (2 ^ (min (32 : Int).toNat (IntKind.u64).bits))))) < (IntKind.u64.wrap (t152 * (IntKind.u64.wrap ((BitVec.ofInt (IntKind.u64).bits (IntKind.u64.wrap (a2 * 2 ^ (min (IntKind.u64.wrap v).toNat (IntKind.u64).bits))) &&& BitVec.ofInt (IntKind.u64).bits (4294967295 : Int)).toNat : Int))))))) = true then
      if (decide ((4294967296 : Int) ≤ (IntKind.u64.wrap (t163 + ((IntKind.u64.wrap (a2 * 2 ^ (min (IntKind.u64.wrap v).toNat (IntKind.u64).bits))).fdiv (2 ^ (min (32 : Int).toNat (IntKind.u64).bits))))))) = true then
        some (.inr (IntKind.u64.wrap (t152 - (1 : Int))))
      else
        some (.inl ((IntKind.u64.wrap (t163 + ((IntKind.u64.wrap (a2 * 2 ^ (min (IntKind.u64.wrap v).toNat (IntKind.u64).bits))).fdiv (2 ^ (min (32 : Int).toNat (IntKind.u64).bits))))), (IntKind.u64.wrap (t152 - (1 : Int)))))
    else
      some (.inr t152)
noncomputable def div64 (a0 : Int) (a1 : Int) (a2 : Int) : Option (Int × Int) :=
  if (a2 == (0 : Int)) = true then
    none
  else
    if (decide (a2 ≤ a0)) = true then
      none
    else
      if (a0 == (0 : Int)) = true then
        if (a2 ≠ 0) then
          if (a2 ≠ 0) then
            some ((IntKind.u64.wrap (a1.tdiv a2)), (a1.tmod a2))
          else none
        else none
      else
        (leadingZeros64 a2).bind fun v =>
          if (0 ≤ (IntKind.u64.wrap v)) then
            if (0 ≤ (IntKind.u64.wrap v)) then
              if (0 ≤ (IntKind.u64.wrap ((64 : Int) - (IntKind.u64.wrap v)))) then
                if (0 ≤ (IntKind.u64.wrap v)) then
                  if (((IntKind.u64.wrap (a2 * 2 ^ (min (IntKind.u64.wrap v).toNat (IntKind.u64).bits))).fdiv (2 ^ (min (32 : Int).toNat (IntKind.u64).bits))) ≠ 0) then
                    (loopO (div64_b2 a0 a1 a2 v) ((IntKind.u64.wrap ((IntKind.u64.wrap ((BitVec.ofInt (IntKind.u64).bits (IntKind.u64.wrap (a0 * 2 ^ (min (IntKind.u64.wrap v).toNat (IntKind.u64).bits))) ||| BitVec.ofInt (IntKind.u64).bits (a1.fdiv (2 ^ (min (IntKind.u64.wrap ((64 : Int) - (IntKind.u64.wrap v))).toNat (IntKind.u64).bits)))).toNat : Int)) - (IntKind.u64.wrap ((IntKind.u64.wrap ((IntKind.u64.wrap ((BitVec.ofInt (IntKind.u64).bits (IntKind.u64.wrap (a0 * 2 ^ (min (IntKind.u64.wrap v).toNat (IntKind.u64).bits))) ||| BitVec.ofInt (IntKind.u64).bits (a1.fdiv (2 ^ (min (IntKind.u64.wrap ((64 : Int) - (IntKind.u64.wrap v))).toNat (IntKind.u64).bits)))).toNat : Int)).tdiv ((IntKind.u64.wrap (a2 * 2 ^ (min (IntKind.u64.wrap v).toNat (IntKind.u64).bits))).fdiv (2 ^ (min (32 : Int).toNat (IntKind.u64).bits))))) * ((IntKind.u64.wrap (a2 * 2 ^ (min (IntKind.u64.wrap v).toNat (IntKind.u64).bits))).fdiv (2 ^ (min (32 : Int).toNat (IntKind.u64).bits))))))), (IntKind.u64.wrap ((IntKind.u64.wrap ((BitVec.ofInt (IntKind.u64).bits (IntKind.u64.wrap (a0 * 2 ^ (min (IntKind.u64.wrap v).toNat (IntKind.u64).bits))) ||| BitVec.ofInt (IntKind.u64).bits (a1.fdiv (2 ^ (min (IntKind.u64.wrap ((64 : Int) - (IntKind.u64.wrap v))).toNat (IntKind.u64).bits)))).toNat : Int)).tdiv ((IntKind.u64.wrap (a2 * 2 ^ (min (IntKind.u64.wrap v).toNat (IntKind.u64).bits))).fdiv (2 ^ (min (32 : Int).toNat (IntKind.u64).bits))))))).bind fun e => match e with
                      | t154 =>
                        div64_j1 a0 a1 a2 v t154
                  else none
                else none
              else none
            else none
          else none

noncomputable def exactMul (a : Int) (b : Int) : Option (ExactWide) :=
  (mul64 a b).bind fun v =>
    some (⟨v.1, v.2⟩ : ExactWide)

noncomputable def exactAdd (a : ExactWide) (b : ExactWide) : Option (ExactWide × Int) :=
  (add64 a.Lo b.Lo (0 : Int)).bind fun v =>
    (add64 a.Hi b.Hi v.2).bind fun v2 =>
      if (v2.2 != (0 : Int)) = true then
        some ((⟨0, 0⟩ : ExactWide), (3 : Int))
      else
        some ((⟨v2.1, v.1⟩ : ExactWide), (0 : Int))

noncomputable def exactCmp (a : ExactWide) (b : ExactWide) : Option (Int) :=
  if (bif (decide (a.Hi < b.Hi)) then true else (bif (a.Hi == b.Hi) then (decide (a.Lo < b.Lo)) else false)) = true then
    some (-1 : Int)
  else
    if ((a.Hi == b.Hi) && (a.Lo == b.Lo)) = true then
      some (0 : Int)
    else
      some (1 : Int)

noncomputable def exactRaised (q : Int) (rest : Int) (c : Int) (m1 : Int) : Option (Bool) :=
  if (m1 == (1 : Int)) = true then
    some (decide ((0 : Int) < rest))
  else
    if (m1 == (2 : Int)) = true then
      some (decide ((IntKind.u64.wrap (c - rest)) ≤ rest))
    else
      if (m1 == (3 : Int)) = true then
        some (bif (decide ((IntKind.u64.wrap (c - rest)) < rest)) then true else (bif (rest == (IntKind.u64.wrap (c - rest))) then ((q.tmod (2 : Int)) == (1 : Int)) else false))
      else
        some false

noncomputable def exactDiv (w1 : ExactWide) (c : Int) (m1 : Int) : Option (Int × Int) :=
  if (bif (bif (c == (0 : Int)) then true else (decide (m1 < (0 : Int)))) then true else (decide ((3 : Int) < m1))) = true then
    some ((0 : Int), (2 : Int))
  else
    if (decide (c ≤ w1.Hi)) = true then
      some ((0 : Int), (3 : Int))
    else
      (div64 w1.Hi w1.Lo c).bind fun v =>
        (exactRaised v.1 v.2 c m1).bind fun v2 =>
          if (!v2) = true then
            some (v.1, (0 : Int))
          else
            if (v.1 == (18446744073709551615 : Int)) = true then
              some ((0 : Int), (3 : Int))
            else
              some ((IntKind.u64.wrap (v.1 + (1 : Int))), (0 : Int))

noncomputable def r01Add (a : Customsref01Wide) (b : Customsref01Wide) : Option (Customsref01Wide × Bool) :=
  if (decide ((IntKind.u64.wrap (a.Lo + b.Lo)) < a.Lo)) = true then
    some ((⟨(IntKind.u64.wrap ((IntKind.u64.wrap (a.Hi + b.Hi)) + (1 : Int))), (IntKind.u64.wrap (a.Lo + b.Lo))⟩ : Customsref01Wide), (bif (decide ((IntKind.u64.wrap (a.Hi + b.Hi)) < a.Hi)) then true else ((IntKind.u64.wrap ((IntKind.u64.wrap (a.Hi + b.Hi)) + (1 : Int))) == (0 : Int))))
  else
    some ((⟨(IntKind.u64.wrap (a.Hi + b.Hi)), (IntKind.u64.wrap (a.Lo + b.Lo))⟩ : Customsref01Wide), (decide ((IntKind.u64.wrap (a.Hi + b.Hi)) < a.Hi)))

noncomputable def r01Mul_j1 (a : Int) (b : Int) (i : Int) (c5_05 : Int) (c5_15 : Int) : Option ((Int × Int × Int) ⊕ (Int × Int)) :=
  some (.inl ((IntKind.i64.wrap (i - (1 : Int))), c5_05, c5_15))
noncomputable def r01Mul_b1 (a : Int) (b : Int) : (Int × Int × Int) → Option ((Int × Int × Int) ⊕ (Int × Int))
  | (i, c5_0, c5_1) =>
    if (decide ((0 : Int) ≤ i)) = true then
      (r01Add (⟨c5_0, c5_1⟩ : Customsref01Wide) (⟨c5_0, c5_1⟩ : Customsref01Wide)).bind fun v3 =>
        if (0 ≤ i) then
          if ((IntKind.u64.wrap ((BitVec.ofInt (IntKind.u64).bits (b.fdiv (2 ^ (min i.toNat (IntKind.u64).bits))) &&& BitVec.ofInt (IntKind.u64).bits (1 : Int)).toNat : Int)) == (1 : Int)) = true then
            (r01Add v3.1 (⟨(0 : Int), a⟩ : Customsref01Wide)).bind fun v4 =>
              r01Mul_j1 a b i v4.1.Hi v4.1.Lo
          else
            r01Mul_j1 a b i v3.1.Hi v3.1.Lo
        else none
    else
      some (.inr (c5_0, c5_1))
noncomputable def r01Mul (a : Int) (b : Int) : Option (Customsref01Wide) :=
  (loopO (r01Mul_b1 a b) ((63 : Int), 0, 0)).bind fun e => match e with
    | (c5_04, c5_14) =>
      some (⟨c5_04, c5_14⟩ : Customsref01Wide)

noncomputable def r01Less (a : Customsref01Wide) (b : Customsref01Wide) : Option (Bool) :=
  some (bif (decide (a.Hi < b.Hi)) then true else (bif (a.Hi == b.Hi) then (decide (a.Lo < b.Lo)) else false))

noncomputable def r01DivMod_j1 (w1 : Customsref01Wide) (c : Int) (i : Int) (r1 : Int) (r15 : Int) (c6_05 : Int) (c6_15 : Int) : Option ((Int × Int × Int × Int) ⊕ (Int × Int × Int)) :=
  some (.inl ((IntKind.i64.wrap (i - (1 : Int))), r15, c6_05, c6_15))
noncomputable def r01DivMod_b1 (w1 : Customsref01Wide) (c : Int) : (Int × Int × Int × Int) → Option ((Int × Int × Int × Int) ⊕ (Int × Int × Int))
  | (i, r1, c6_0, c6_1) =>
    if (decide ((0 : Int) ≤ i)) = true then
      if (0 ≤ (IntKind.i64.wrap ((BitVec.ofInt (IntKind.i64).bits i &&& BitVec.ofInt (IntKind.i64).bits (63 : Int)).toNat : Int))) then
        if (decide ((63 : Int) < i)) = true then
          if (0 ≤ (IntKind.i64.wrap (i - (64 : Int)))) then
            (r01Add (⟨c6_0, c6_1⟩ : Customsref01Wide) (⟨c6_0, c6_1⟩ : Customsref01Wide)).bind fun v3 =>
              if (bif ((r1.fdiv (2 ^ (min (63 : Int).toNat (IntKind.u64).bits))) == (1 : Int)) then true else (decide (c ≤ (IntKind.u64.wrap ((BitVec.ofInt (IntKind.u64).bits (IntKind.u64.wrap (r1 * 2 ^ (min (1 : Int).toNat (IntKind.u64).bits))) ||| BitVec.ofInt (IntKind.u64).bits (IntKind.u64.wrap ((BitVec.ofInt (IntKind.u64).bits (w1.Hi.fdiv (2 ^ (min (IntKind.i64.wrap (i - (64 : Int))).toNat (IntKind.u64).bits))) &&& BitVec.ofInt (IntKind.u64).bits (1 : Int)).toNat : Int))).toNat : Int))))) = true then
                r01DivMod_j1 w1 c i r1 (IntKind.u64.wrap ((IntKind.u64.wrap ((BitVec.ofInt (IntKind.u64).bits (IntKind.u64.wrap (r1 * 2 ^ (min (1 : Int).toNat (IntKind.u64).bits))) ||| BitVec.ofInt (IntKind.u64).bits (IntKind.u64.wrap ((BitVec.ofInt (IntKind.u64).bits (w1.Hi.fdiv (2 ^ (min (IntKind.i64.wrap (i - (64 : Int))).toNat (IntKind.u64).bits))) &&& BitVec.ofInt (IntKind.u64).bits (1 : Int)).toNat : Int))).toNat : Int)) - c)) v3.1.Hi (IntKind.u64.wrap ((BitVec.ofInt (IntKind.u64).bits v3.1.Lo ||| BitVec.ofInt (IntKind.u64).bits (1 : Int)).toNat : Int))
              else
                r01DivMod_j1 w1 c i r1 (IntKind.u64.wrap ((BitVec.ofInt (IntKind.u64).bits (IntKind.u64.wrap (r1 * 2 ^ (min (1 : Int).toNat (IntKind.u64).bits))) ||| BitVec.ofInt (IntKind.u64).bits (IntKind.u64.wrap ((BitVec.ofInt (IntKind.u64).bits (w1.Hi.fdiv (2 ^ (min (IntKind.i64.wrap (i - (64 : Int))).toNat (IntKind.u64).bits))) &&& BitVec.ofInt (IntKind.u64).bits (1 : Int)).toNat : Int))).toNat : Int)) v3.1.Hi v3.1.Lo
          else none
        else
          (r01Add (⟨c6_0, c6_1⟩ : Customsref01Wide) (⟨c6_0, c6_1⟩ : Customsref01Wide)).bind fun v4 =>
            if (bif ((r1.fdiv (2 ^ (min (63 : Int).toNat (IntKind.u64).bits))) == (1 : Int)) then true else (decide (c ≤ (IntKind.u64.wrap ((BitVec.ofInt (IntKind.u64).bits (IntKind.u64.wrap (r1 * 2 ^ (min (1 : Int).toNat (IntKind.u64).bits))) ||| BitVec.ofInt (IntKind.u64).bits (IntKind.u64.wrap ((BitVec.ofInt (IntKind.u64).bits (w1.Lo.fdiv (2 ^ (min (IntKind.i64.wrap ((BitVec.ofInt (IntKind.i64).bits i &&& BitVec.ofInt (IntKind.i64).bits (63 : Int)).toNat : Int)).toNat (IntKind.u64).bits))) &&& BitVec.ofInt (IntKind.u64).bits (1 : Int)).toNat : Int))).toNat : Int))))) = true then
              r01DivMod_j1 w1 c i r1 (IntKind.u64.wrap ((IntKind.u64.wrap ((BitVec.ofInt (IntKind.u64).bits (IntKind.u64.wrap (r1 * 2 ^ (min (1 : Int).toNat (IntKind.u64).bits))) ||| BitVec.ofInt (IntKind.u64).bits (IntKind.u64.wrap ((BitVec.ofInt (IntKind.u64).bits (w1.Lo.fdiv (2 ^ (min (IntKind.i64.wrap ((BitVec.ofInt (IntKind.i64).bits i &&& BitVec.ofInt (IntKind.i64).bits (63 : Int)).toNat : Int)).toNat (IntKind.u64).bits))) &&& BitVec.ofInt (IntKind.u64).bits (1 : Int)).toNat : Int))).toNat : Int)) - c)) v4.1.Hi (IntKind.u64.wrap ((BitVec.ofInt (IntKind.u64).bits v4.1.Lo ||| BitVec.ofInt (IntKind.u64).bits (1 : Int)).toNat : Int))
            else
              r01DivMod_j1 w1 c i r1 (IntKind.u64.wrap ((BitVec.ofInt (IntKind.u64).bits (IntKind.u64.wrap (r1 * 2 ^ (min (1 : Int).toNat (IntKind.u64).bits))) ||| BitVec.ofInt (IntKind.u64).bits (IntKind.u64.wrap ((BitVec.ofInt (IntKind.u64).bits (w1.Lo.fdiv (2 ^ (min (IntKind.i64.wrap ((BitVec.ofInt (IntKind.i64).bits i &&& BitVec.ofInt (IntKind.i64).bits (63 : Int)).toNat : Int)).toNat (IntKind.u64).bits))) &&& BitVec.ofInt (IntKind.u64).bits (1 : Int)).toNat : Int))).toNat : Int)) v4.1.Hi v4.1.Lo
      else none
    else
      some (.inr (r1, c6_0, c6_1))
noncomputable def r01DivMod (w1 : Customsref01Wide) (c : Int) : Option (Customsref01Wide × Int) :=
  (loopO (r01DivMod_b1 w1 c) ((127 : Int), (0 : Int), 0, 0)).bind fun e => match e with
    | (r14, c6_04, c6_14) =>
      some ((⟨c6_04, c6_14⟩ : Customsref01Wide), r14)

noncomputable def r01Div (a0 : Customsref01Wide) (a1 : Int) (a2 : Int) : Option (Int × Int) :=
  if (bif (bif (a1 == (0 : Int)) then true else (decide (a2 < (0 : Int)))) then true else (decide ((3 : Int) < a2))) = true then
    some ((0 : Int), (2 : Int))
  else
    (r01DivMod a0 a1).bind fun v =>
      if (a2 == (1 : Int)) = true then
        if (decide ((0 : Int) < v.2)) = true then
          (r01Add v.1 (⟨(0 : Int), (1 : Int)⟩ : Customsref01Wide)).bind fun v2 =>
            if (decide ((0 : Int) < v2.1.Hi)) = true then
              some ((0 : Int), (3 : Int))
            else
              some (v2.1.Lo, (0 : Int))
        else
          if (decide ((0 : Int) < v.1.Hi)) = true then
            some ((0 : Int), (3 : Int))
          else
            some (v.1.Lo, (0 : Int))
      else
        if (a2 == (2 : Int)) = true then
          if (decide ((IntKind.u64.wrap (a1 - v.2)) ≤ v.2)) = true then
            (r01Add v.1 (⟨(0 : Int), (1 : Int)⟩ : Customsref01Wide)).bind fun v3 =>
              if (decide ((0 : Int) < v3.1.Hi)) = true then
                some ((0 : Int), (3 : Int))
              else
                some (v3.1.Lo, (0 : Int))
          else
            if (decide ((0 : Int) < v.1.Hi)) = true then
              some ((0 : Int), (3 : Int))
            else
              some (v.1.Lo, (0 : Int))
        else
          if (a2 == (3 : Int)) = true then
            if (bif (decide ((IntKind.u64.wrap (a1 - v.2)) < v.2)) then true else (bif (v.2 == (IntKind.u64.wrap (a1 - v.2))) then ((IntKind.u64.wrap ((BitVec.ofInt (IntKind.u64).bits v.1.Lo &&& BitVec.ofInt (IntKind.u64).bits (1 : Int)).toNat : Int)) == (1 : Int)) else false)) = true then
              (r01Add v.1 (⟨(0 : Int), (1 : Int)⟩ : Customsref01Wide)).bind fun v4 =>
                if (decide ((0 : Int) < v4.1.Hi)) = true then
                  some ((0 : Int), (3 : Int))
                else
                  some (v4.1.Lo, (0 : Int))
            else
              if (decide ((0 : Int) < v.1.Hi)) = true then
                some ((0 : Int), (3 : Int))
              else
                some (v.1.Lo, (0 : Int))
          else
            if false = true then
              (r01Add v.1 (⟨(0 : Int), (1 : Int)⟩ : Customsref01Wide)).bind fun v5 =>
                if (decide ((0 : Int) < v5.1.Hi)) = true then
                  some ((0 : Int), (3 : Int))
                else
                  some (v5.1.Lo, (0 : Int))
            else
              if (decide ((0 : Int) < v.1.Hi)) = true then
                some ((0 : Int), (3 : Int))
              else
                some (v.1.Lo, (0 : Int))

noncomputable def refScaled (rate : Int) (value : Int) (per : Int) : Option (Customsref01Wide) :=
  (r01Mul (IntKind.u64.wrap ((IntKind.u64.wrap rate) * (IntKind.u64.wrap value))) (IntKind.u64.wrap per)).bind fun v =>
    some v

end Go.C
