/- Plain functions, read off the program by program (gen.py): no program in sight. -/
import Derived.Test.YtinickkcieecdaaGreatDoorPl
import Derived.Test.YtinickkcieecdaaGreatDoorPa
import Derived.Test.YtinickkcieecdaaGreatDoorPb
import Derived.Test.YtinickkcieecdaaGreatDoorPc
import Derived.Test.YtinickkcieecdaaGreatDoorPd
import Derived.Test.YtinickkcieecdaaGreatDoorPe
set_option linter.unusedVariables false
namespace Go.C
open Go.V

noncomputable def awake18  : Option (Bool) :=
  (dutyParse ([53, 37, 32, 43, 32, 51, 46, 50, 48, 47, 49, 48, 48, 32, 109, 97, 120, 32, 49, 48, 37, 32, 109, 105, 110, 32, 50, 37] : Str)).bind fun v =>
    (dutyEvaluate v.1 (10000 : Int) (100 : Int)).bind fun v2 =>
      (if (bif (bif (bif (v.2 == (0 : Int)) then ((v.1.Rate == (50000 : Int)) && ((v.1.Amount == (320 : Int)) && ((v.1.Per == (100 : Int)) && ((v.1.HasMost == true) && ((v.1.Most == (100000 : Int)) && ((v.1.HasLeast == true) && (v.1.Least == (20000 : Int)))))))) else false) then (v2.1 == (820 : Int)) else false) then (v2.2 == (0 : Int)) else false) = true then dutyFormat (⟨0, 0, 0, false, 0, false, 0⟩ : ApiDuty) else some default).bind fun v3 =>
        some (bif (bif (bif (bif (v.2 == (0 : Int)) then ((v.1.Rate == (50000 : Int)) && ((v.1.Amount == (320 : Int)) && ((v.1.Per == (100 : Int)) && ((v.1.HasMost == true) && ((v.1.Most == (100000 : Int)) && ((v.1.HasLeast == true) && (v.1.Least == (20000 : Int)))))))) else false) then (v2.1 == (820 : Int)) else false) then (v2.2 == (0 : Int)) else false) then (v3 == ([48, 37] : Str)) else false)

noncomputable def lawParse_j3 (s2 : Str) (b2 : (List Int)) : Option (Bool) :=
  (dutyParse (bytesI b2)).bind fun v4 =>
    (refParseDuty (bytesI b2)).bind fun v5 =>
      (dutyParse s2).bind fun v6 =>
        (refParseDuty s2).bind fun v7 =>
          (if ((bif (bif (bif ((v4.1.Rate == v5.1.Rate) && ((v4.1.Amount == v5.1.Amount) && ((v4.1.Per == v5.1.Per) && ((v4.1.HasMost == v5.1.HasMost) && ((v4.1.Most == v5.1.Most) && ((v4.1.HasLeast == v5.1.HasLeast) && (v4.1.Least == v5.1.Least))))))) then (v4.2 == v5.2) else false) then ((v6.1.Rate == v7.1.Rate) && ((v6.1.Amount == v7.1.Amount) && ((v6.1.Per == v7.1.Per) && ((v6.1.HasMost == v7.1.HasMost) && ((v6.1.Most == v7.1.Most) && ((v6.1.HasLeast == v7.1.HasLeast) && (v6.1.Least == v7.1.Least))))))) else false) then (v6.2 == v7.2) else false) && (!(v4.2 != (0 : Int)))) = true then dutyFormat v4.1 else some default).bind fun v8 =>
            (if (bif (bif (bif (bif ((v4.1.Rate == v5.1.Rate) && ((v4.1.Amount == v5.1.Amount) && ((v4.1.Per == v5.1.Per) && ((v4.1.HasMost == v5.1.HasMost) && ((v4.1.Most == v5.1.Most) && ((v4.1.HasLeast == v5.1.HasLeast) && (v4.1.Least == v5.1.Least))))))) then (v4.2 == v5.2) else false) then ((v6.1.Rate == v7.1.Rate) && ((v6.1.Amount == v7.1.Amount) && ((v6.1.Per == v7.1.Per) && ((v6.1.HasMost == v7.1.HasMost) && ((v6.1.Most == v7.1.Most) && ((v6.1.HasLeast == v7.1.HasLeast) && (v6.1.Least == v7.1.Least))))))) else false) then (v6.2 == v7.2) else false) then (bif (v4.2 != (0 : Int)) then true else (v8 == (bytesI b2))) else false) = true then awake18  else some default).bind fun v9 =>
              some (bif (bif (bif (bif (bif ((v4.1.Rate == v5.1.Rate) && ((v4.1.Amount == v5.1.Amount) && ((v4.1.Per == v5.1.Per) && ((v4.1.HasMost == v5.1.HasMost) && ((v4.1.Most == v5.1.Most) && ((v4.1.HasLeast == v5.1.HasLeast) && (v4.1.Least == v5.1.Least))))))) then (v4.2 == v5.2) else false) then ((v6.1.Rate == v7.1.Rate) && ((v6.1.Amount == v7.1.Amount) && ((v6.1.Per == v7.1.Per) && ((v6.1.HasMost == v7.1.HasMost) && ((v6.1.Most == v7.1.Most) && ((v6.1.HasLeast == v7.1.HasLeast) && (v6.1.Least == v7.1.Least))))))) else false) then (v6.2 == v7.2) else false) then (bif (v4.2 != (0 : Int)) then true else (v8 == (bytesI b2))) else false) then v9 else false)
noncomputable def lawParse_j2 (from_ : Int) (piece : Int) (s2 : Str) (b : (List Int)) : Option (Bool) :=
  (within from_ (IntKind.i64.wrap ((b.length : Int) + (1 : Int)))).bind fun v3 =>
    if ((IntKind.i64.wrap ((BitVec.ofInt (IntKind.i64).bits from_ &&& BitVec.ofInt (IntKind.i64).bits (32 : Int)).toNat : Int)) == (32 : Int)) = true then
      (within piece (7 : Int)).bind fun v10 =>
        if (0 ≤ v10) then
          ([([48] : Str), ([46] : Str), ([32, 43, 32] : Str), ([32, 109, 97, 120, 32, 53, 37] : Str), ([32, 109, 105, 110, 32, 49, 37] : Str), ([37] : Str), ([49, 46, 48, 48, 47, 49] : Str)][v10.toNat]?).bind fun x =>
            if (0 ≤ (0 : Int) ∧ (0 : Int) ≤ v3 ∧ v3 ≤ (b.length : Int)) then
              if (0 + ((b.take v3.toNat).drop (0 : Int).toNat).length ≤ 137438953472) then
                if (((b.take v3.toNat).drop (0 : Int).toNat).length + x.length ≤ 137438953472) then
                  if (0 ≤ v3 ∧ v3 ≤ (b.length : Int)) then
                    if ((((b.take v3.toNat).drop (0 : Int).toNat) ++ (intsB x)).length + (b.drop v3.toNat).length ≤ 137438953472) then
                      lawParse_j3 s2 ((((b.take v3.toNat).drop (0 : Int).toNat) ++ (intsB x)) ++ (b.drop v3.toNat))
                    else none
                  else none
                else none
              else none
            else none
        else none
    else
      lawParse_j3 s2 b
noncomputable def lawParse_b1 (at_ : (List Int)) (by_ : (List Int)) (from_ : Int) (piece : Int) (s2 : Str) : (Int × (List Int)) → Option ((Int × (List Int)) ⊕ ((List Int)))
  | (i, b3) =>
    if (bif (bif (decide (i < (at_.length : Int))) then (decide (i < (by_.length : Int))) else false) then (decide (i < (2 : Int))) else false) = true then
      if (0 ≤ i) then
        (at_[i.toNat]?).bind fun x4 =>
          (within x4 (b3.length : Int)).bind fun v12 =>
            if (0 ≤ i) then
              (by_[i.toNat]?).bind fun x5 =>
                if (0 ≤ v12 ∧ v12 < (b3.length : Int)) then
                  some (.inl ((IntKind.i64.wrap (i + (1 : Int))), (b3.set v12.toNat x5)))
                else none
            else none
      else none
    else
      some (.inr b3)
noncomputable def lawParse_j1 (l : (List Int)) (at_ : (List Int)) (by_ : (List Int)) (from_ : Int) (piece : Int) (s2 : Str) : Option (Bool) :=
  (madeDuty l).bind fun v =>
    (refFormatDuty v).bind fun v2 =>
      if (v2.length ≤ 9223372036854775807) then
        (loopO (lawParse_b1 at_ by_ from_ piece s2) ((0 : Int), (intsB v2))).bind fun e => match e with
          | b5 =>
            lawParse_j2 from_ piece s2 b5
      else none
noncomputable def lawParse (s : Str) (l : (List Int)) (at_ : (List Int)) (by_ : (List Int)) (from_ : Int) (piece : Int) : Option (Bool) :=
  if (decide ((100 : Int) < (s.length : Int))) = true then
    if (0 ≤ (0 : Int) ∧ (0 : Int) ≤ (100 : Int) ∧ (100 : Int) ≤ (s.length : Int)) then
      lawParse_j1 l at_ by_ from_ piece ((s.take (100 : Int).toNat).drop (0 : Int).toNat)
    else none
  else
    lawParse_j1 l at_ by_ from_ piece s

end Go.C
