/- Plain functions, read off the program by program (gen.py): no program in sight. -/
import Derived.Test.YtfeleiepnifbcaaGreatDoorPl
import Derived.Test.YtfeleiepnifbcaaGreatDoorPa
import Derived.Test.YtfeleiepnifbcaaGreatDoorPb
set_option linter.unusedVariables false
namespace Go.C
open Go.V

noncomputable def r01Add_j1 (a : Customsref01Wide) (b : Customsref01Wide) (over : Bool) (hi : Int) : Option (Customsref01Wide × Bool) :=
  some ((⟨hi, (IntKind.u64.wrap (a.Lo + b.Lo))⟩ : Customsref01Wide), over)
noncomputable def r01Add (a : Customsref01Wide) (b : Customsref01Wide) : Option (Customsref01Wide × Bool) :=
  if (decide ((IntKind.u64.wrap (a.Lo + b.Lo)) < a.Lo)) = true then
    r01Add_j1 a b (bif (decide ((IntKind.u64.wrap (a.Hi + b.Hi)) < a.Hi)) then true else ((IntKind.u64.wrap ((IntKind.u64.wrap (a.Hi + b.Hi)) + (1 : Int))) == (0 : Int))) (IntKind.u64.wrap ((IntKind.u64.wrap (a.Hi + b.Hi)) + (1 : Int)))
  else
    r01Add_j1 a b (decide ((IntKind.u64.wrap (a.Hi + b.Hi)) < a.Hi)) (IntKind.u64.wrap (a.Hi + b.Hi))

noncomputable def r01Mul_j1 (c5_0 : Int) (c5_1 : Int) : Option (Customsref01Wide) :=
  some (⟨c5_0, c5_1⟩ : Customsref01Wide)
noncomputable def r01Mul_j2 (a : Int) (b : Int) (i : Int) (c5_06 : Int) (c5_16 : Int) : Option ((Int × Int × Int) ⊕ (Int × Int)) :=
  some (.inl ((IntKind.i64.wrap (i - (1 : Int))), c5_06, c5_16))
noncomputable def r01Mul_b1 (a : Int) (b : Int) : (Int × Int × Int) → Option ((Int × Int × Int) ⊕ (Int × Int))
  | (i, c5_02, c5_12) =>
    if (decide ((0 : Int) ≤ i)) = true then
      (r01Add (⟨c5_02, c5_12⟩ : Customsref01Wide) (⟨c5_02, c5_12⟩ : Customsref01Wide)).bind fun v3 =>
        if (0 ≤ i) then
          if ((IntKind.u64.wrap ((BitVec.ofInt (IntKind.u64).bits (b.fdiv (2 ^ (min i.toNat (IntKind.u64).bits))) &&& BitVec.ofInt (IntKind.u64).bits (1 : Int)).toNat : Int)) == (1 : Int)) = true then
            (r01Add v3.1 (⟨(0 : Int), a⟩ : Customsref01Wide)).bind fun v4 =>
              r01Mul_j2 a b i v4.1.Hi v4.1.Lo
          else
            r01Mul_j2 a b i v3.1.Hi v3.1.Lo
        else none
    else
      some (.inr (c5_02, c5_12))
noncomputable def r01Mul (a : Int) (b : Int) : Option (Customsref01Wide) :=
  (loopO (r01Mul_b1 a b) ((63 : Int), 0, 0)).bind fun e => match e with
    | (c5_05, c5_15) =>
      r01Mul_j1 c5_05 c5_15

noncomputable def r01Less (a : Customsref01Wide) (b : Customsref01Wide) : Option (Bool) :=
  some (bif (decide (a.Hi < b.Hi)) then true else (bif (a.Hi == b.Hi) then (decide (a.Lo < b.Lo)) else false))

noncomputable def r01Order (a : Customsref01Wide) (b : Customsref01Wide) : Option (Int) :=
  (r01Less a b).bind fun v =>
    if v = true then
      some (-1 : Int)
    else
      (r01Less b a).bind fun v2 =>
        if v2 = true then
          some (1 : Int)
        else
          some (0 : Int)

noncomputable def r02Same_j1  : Option (Bool) :=
  some true
noncomputable def r02Same_b1 (a : (List Int)) (b : (List Int)) : (Int) → Option ((Int) ⊕ ((Bool) ⊕ (Unit)))
  | i =>
    if (decide (i < (a.length : Int))) = true then
      if (0 ≤ i) then
        (a[i.toNat]?).bind fun x3 =>
          if (0 ≤ i) then
            (b[i.toNat]?).bind fun x4 =>
              if (x3 != x4) = true then
                some (.inr (.inl false))
              else
                some (.inl (IntKind.i64.wrap (i + (1 : Int))))
          else none
      else none
    else
      some (.inr (.inr ()))
noncomputable def r02Same (a : (List Int)) (b : (List Int)) : Option (Bool) :=
  if ((a.length : Int) != (b.length : Int)) = true then
    some false
  else
    (loopO (r02Same_b1 a b) (0 : Int)).bind fun e => match e with
      | (.inl rv) =>
        some rv
      | (.inr ()) =>
        r02Same_j1

noncomputable def refPrefix (code : Str) (p : Str) : Option (Bool) :=
  if (decide ((p.length : Int) ≤ (code.length : Int))) = true → (0 ≤ (0 : Int) ∧ (0 : Int) ≤ (p.length : Int) ∧ (p.length : Int) ≤ (code.length : Int)) then
    some (bif (decide ((p.length : Int) ≤ (code.length : Int))) then (((code.take (p.length : Int).toNat).drop (0 : Int).toNat) == p) else false)
  else none

noncomputable def refHas_j1  : Option (Bool) :=
  some false
noncomputable def refHas_b1 (l : (List Str)) (s : Str) : (Int) → Option ((Int) ⊕ ((Bool) ⊕ (Unit)))
  | i =>
    if (decide (i < (l.length : Int))) = true then
      if (0 ≤ i) then
        (l[i.toNat]?).bind fun x2 =>
          if (x2 == s) = true then
            some (.inr (.inl true))
          else
            some (.inl (IntKind.i64.wrap (i + (1 : Int))))
      else none
    else
      some (.inr (.inr ()))
noncomputable def refHas (l : (List Str)) (s : Str) : Option (Bool) :=
  (loopO (refHas_b1 l s) (0 : Int)).bind fun e => match e with
    | (.inl rv) =>
      some rv
    | (.inr ()) =>
      refHas_j1

noncomputable def rViolates_j1  : Option (Bool) :=
  some false
noncomputable def rViolates_b1 (r1 : ApiRule) (x : ApiInput) : (Int) → Option ((Int) ⊕ ((Bool) ⊕ (Unit)))
  | i =>
    if (decide (i < (r1.Except.length : Int))) = true then
      if (0 ≤ i) then
        (r1.Except[i.toNat]?).bind fun x3 =>
          (refPrefix x.Code x3).bind fun v2 =>
            if v2 = true then
              some (.inr (.inl true))
            else
              some (.inl (IntKind.i64.wrap (i + (1 : Int))))
      else none
    else
      some (.inr (.inr ()))
noncomputable def rViolates (r1 : ApiRule) (c : ApiCase) (x : ApiInput) : Option (Bool) :=
  if (0 ≤ (0 : Int) ∧ (0 : Int) ≤ r1.Digits ∧ r1.Digits ≤ (x.Code.length : Int)) then
    if (0 ≤ (0 : Int) ∧ (0 : Int) ≤ r1.Digits ∧ r1.Digits ≤ (c.Code.length : Int)) then
      if (((x.Code.take r1.Digits.toNat).drop (0 : Int).toNat) == ((c.Code.take r1.Digits.toNat).drop (0 : Int).toNat)) = true then
        some true
      else
        (loopO (rViolates_b1 r1 x) (0 : Int)).bind fun e => match e with
          | (.inl rv) =>
            some rv
          | (.inr ()) =>
            rViolates_j1
    else none
  else none

noncomputable def rWithin (sum : Int) (share : Int) (price : Int) : Option (Bool) :=
  (r01Mul (IntKind.u64.wrap sum) (1000000 : Int)).bind fun v =>
    (r01Mul (IntKind.u64.wrap share) (IntKind.u64.wrap price)).bind fun v2 =>
      (r01Order v v2).bind fun v3 =>
        some (decide (v3 ≤ (0 : Int)))

noncomputable def rHolds_j2 (F : ApiRule → ApiCase → Option (Bool)) (r1 : ApiRule) (c : ApiCase) (foreign : Int) (sum : Int) (n1 : Int) : Option (Bool) :=
  if (r1.Kind == (1 : Int)) = true then
    some (bif c.Obtained then (foreign == (0 : Int)) else false)
  else
    if (r1.Kind == (2 : Int)) = true then
      (rWithin sum r1.Tolerance c.Price).bind fun v =>
        some v
    else
      if (r1.Kind == (3 : Int)) = true then
        (rWithin sum r1.Limit c.Price).bind fun v2 =>
          some v2
      else
        if (r1.Kind == (4 : Int)) = true then
          (refHas c.Processes r1.Name).bind fun v3 =>
            some v3
        else
          if (r1.Kind == (5 : Int)) = true then
            some (n1 == (r1.Args.length : Int))
          else
            some (decide ((0 : Int) < n1))
noncomputable def rHolds_j3 (F : ApiRule → ApiCase → Option (Bool)) (r1 : ApiRule) (c : ApiCase) (foreign : Int) (sum : Int) (i : Int) (n16 : Int) : Option ((Int × Int) ⊕ (Int)) :=
  some (.inl ((IntKind.i64.wrap (i + (1 : Int))), n16))
noncomputable def rHolds_b1 (F : ApiRule → ApiCase → Option (Bool)) (r1 : ApiRule) (c : ApiCase) (foreign : Int) (sum : Int) : (Int × Int) → Option ((Int × Int) ⊕ (Int))
  | (i, n12) =>
    if (decide (i < (r1.Args.length : Int))) = true then
      if (0 ≤ i) then
        (r1.Args[i.toNat]?).bind fun x2 =>
          (F x2 c).bind fun v5 =>
            if v5 = true then
              rHolds_j3 F r1 c foreign sum i (IntKind.i64.wrap (n12 + (1 : Int)))
            else
              rHolds_j3 F r1 c foreign sum i n12
      else none
    else
      some (.inr n12)
noncomputable def rHolds_j1 (F : ApiRule → ApiCase → Option (Bool)) (r1 : ApiRule) (c : ApiCase) (foreign : Int) (sum : Int) : Option (Bool) :=
  (loopO (rHolds_b1 F r1 c foreign sum) ((0 : Int), (0 : Int))).bind fun e => match e with
    | n15 =>
      rHolds_j2 F r1 c foreign sum n15
noncomputable def rHolds_j4 (F : ApiRule → ApiCase → Option (Bool)) (r1 : ApiRule) (c : ApiCase) (i3 : Int) (foreign6 : Int) (sum6 : Int) : Option ((Int × Int × Int) ⊕ (Int × Int)) :=
  some (.inl ((IntKind.i64.wrap (i3 + (1 : Int))), foreign6, sum6))
noncomputable def rHolds_b2 (F : ApiRule → ApiCase → Option (Bool)) (r1 : ApiRule) (c : ApiCase) : (Int × Int × Int) → Option ((Int × Int × Int) ⊕ (Int × Int))
  | (i3, foreign2, sum2) =>
    if (decide (i3 < (c.Inputs.length : Int))) = true then
      if (0 ≤ i3) then
        (c.Inputs[i3.toNat]?).bind fun x4 =>
          if x4.Originating = true then
            rHolds_j4 F r1 c i3 foreign2 sum2
          else
            (if ((!(r1.Kind == (3 : Int))) && (r1.Kind == (2 : Int))) = true then rViolates r1 c x4 else some default).bind fun v7 =>
              if (bif (r1.Kind == (3 : Int)) then true else (bif (r1.Kind == (2 : Int)) then v7 else false)) = true then
                rHolds_j4 F r1 c i3 (IntKind.i64.wrap (foreign2 + (1 : Int))) (IntKind.i64.wrap (sum2 + x4.Value))
              else
                rHolds_j4 F r1 c i3 (IntKind.i64.wrap (foreign2 + (1 : Int))) sum2
      else none
    else
      some (.inr (foreign2, sum2))
noncomputable def rHolds_F (F : ApiRule → ApiCase → Option (Bool)) (r1 : ApiRule) (c : ApiCase) : Option (Bool) :=
  (loopO (rHolds_b2 F r1 c) ((0 : Int), (0 : Int), (0 : Int))).bind fun e => match e with
    | (foreign5, sum5) =>
      rHolds_j1 F r1 c foreign5 sum5
noncomputable def rHolds_n : Nat → ApiRule → ApiCase → Option (Bool)
  | 0 => fun _ _ => none
  | n + 1 => rHolds_F (rHolds_n n)
noncomputable def rHolds (r1 : ApiRule) (c : ApiCase) : Option (Bool) := rHolds_n 8 r1 c

noncomputable def rWitness_j1 (F : ApiRule → ApiCase → Option ((List Int) × Bool)) (out : (List Int)) : Option ((List Int) × Bool) :=
  some (out, true)
noncomputable def rWitness_j2 (F : ApiRule → ApiCase → Option ((List Int) × Bool)) (r1 : ApiRule) (c : ApiCase) (i2 : Int) (out6 : (List Int)) : Option ((Int × (List Int)) ⊕ (((List Int) × Bool) ⊕ ((List Int)))) :=
  some (.inl ((IntKind.i64.wrap (i2 + (1 : Int))), out6))
noncomputable def rWitness_b1 (F : ApiRule → ApiCase → Option ((List Int) × Bool)) (r1 : ApiRule) (c : ApiCase) : (Int × (List Int)) → Option ((Int × (List Int)) ⊕ (((List Int) × Bool) ⊕ ((List Int))))
  | (i2, out3) =>
    if (decide (i2 < (r1.Args.length : Int))) = true then
      if (0 ≤ i2) then
        (r1.Args[i2.toNat]?).bind fun x3 =>
          (F x3 c).bind fun v4 =>
            if (!v4.2) = true then
              rWitness_j2 F r1 c i2 out3
            else
              if (r1.Kind == (6 : Int)) = true then
                if ([i2].length + v4.1.length ≤ 137438953472) then
                  some (.inr (.inl (([i2] ++ v4.1), true)))
                else none
              else
                if (out3.length + v4.1.length ≤ 137438953472) then
                  rWitness_j2 F r1 c i2 (out3 ++ v4.1)
                else none
      else none
    else
      some (.inr (.inr out3))
noncomputable def rWitness_F (F : ApiRule → ApiCase → Option ((List Int) × Bool)) (r1 : ApiRule) (c : ApiCase) : Option ((List Int) × Bool) :=
  (rHolds r1 c).bind fun v =>
    if (!v) = true then
      some ([], false)
    else
      (loopO (rWitness_b1 F r1 c) ((0 : Int), [])).bind fun e => match e with
        | (.inl rv) =>
          some rv
        | (.inr out5) =>
          rWitness_j1 F out5
noncomputable def rWitness_n : Nat → ApiRule → ApiCase → Option ((List Int) × Bool)
  | 0 => fun _ _ => none
  | n + 1 => rWitness_F (rWitness_n n)
noncomputable def rWitness (r1 : ApiRule) (c : ApiCase) : Option ((List Int) × Bool) := rWitness_n 8 r1 c

noncomputable def rVerifyIn_j1 (F : ApiRule → ApiCase → (List Int) → Option ((List Int) × Bool)) (r1 : ApiRule) (c : ApiCase) (path : (List Int)) : Option ((List Int) × Bool) :=
  (rHolds r1 c).bind fun v =>
    some (path, v)
noncomputable def rVerifyIn_j2 (F : ApiRule → ApiCase → (List Int) → Option ((List Int) × Bool)) (r1 : ApiRule) (c : ApiCase) (path : (List Int)) (path2 : (List Int)) : Option ((List Int) × Bool) :=
  some (path2, true)
noncomputable def rVerifyIn_b1 (F : ApiRule → ApiCase → (List Int) → Option ((List Int) × Bool)) (r1 : ApiRule) (c : ApiCase) (path : (List Int)) : (Int × (List Int)) → Option ((Int × (List Int)) ⊕ (((List Int) × Bool) ⊕ ((List Int))))
  | (i, path3) =>
    if (decide (i < (r1.Args.length : Int))) = true then
      if (0 ≤ i) then
        (r1.Args[i.toNat]?).bind fun x2 =>
          (F x2 c path3).bind fun v3 =>
            if (!v3.2) = true then
              some (.inr (.inl ([], false)))
            else
              some (.inl ((IntKind.i64.wrap (i + (1 : Int))), v3.1))
      else none
    else
      some (.inr (.inr path3))
noncomputable def rVerifyIn_F (F : ApiRule → ApiCase → (List Int) → Option ((List Int) × Bool)) (r1 : ApiRule) (c : ApiCase) (path : (List Int)) : Option ((List Int) × Bool) :=
  if (r1.Kind == (5 : Int)) = true then
    (loopO (rVerifyIn_b1 F r1 c path) ((0 : Int), path)).bind fun e => match e with
      | (.inl rv) =>
        some rv
      | (.inr path5) =>
        rVerifyIn_j2 F r1 c path path5
  else
    if (r1.Kind == (6 : Int)) = true then
      if ((!((path.length : Int) == (0 : Int))) = true → (0 ≤ (0 : Int) ∧ (0 : Int) < (path.length : Int))) then
        if ((!(bif ((path.length : Int) == (0 : Int)) then true else (decide ((path.getD 0 default) < (0 : Int))))) = true → (0 ≤ (0 : Int) ∧ (0 : Int) < (path.length : Int))) then
          if (bif (bif ((path.length : Int) == (0 : Int)) then true else (decide ((path.getD 0 default) < (0 : Int)))) then true else (decide ((r1.Args.length : Int) ≤ (path.getD 0 default)))) = true then
            some ([], false)
          else
            (path[0]?).bind fun x3 =>
              if (0 ≤ x3) then
                (r1.Args[x3.toNat]?).bind fun x4 =>
                  if (0 ≤ (1 : Int) ∧ (1 : Int) ≤ (path.length : Int)) then
                    (F x4 c (path.drop (1 : Int).toNat)).bind fun v4 =>
                      some (v4.1, v4.2)
                  else none
              else none
        else none
      else none
    else
      rVerifyIn_j1 F r1 c path
noncomputable def rVerifyIn_n : Nat → ApiRule → ApiCase → (List Int) → Option ((List Int) × Bool)
  | 0 => fun _ _ _ => none
  | n + 1 => rVerifyIn_F (rVerifyIn_n n)
noncomputable def rVerifyIn (r1 : ApiRule) (c : ApiCase) (path : (List Int)) : Option ((List Int) × Bool) := rVerifyIn_n 8 r1 c path

noncomputable def rVerify (r1 : ApiRule) (c : ApiCase) (path : (List Int)) : Option (Bool) :=
  (rVerifyIn r1 c path).bind fun v =>
    some (bif v.2 then ((v.1.length : Int) == (0 : Int)) else false)

end Go.C
