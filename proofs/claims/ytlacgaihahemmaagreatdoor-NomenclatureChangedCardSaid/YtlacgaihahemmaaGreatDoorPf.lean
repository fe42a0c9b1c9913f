/- Plain functions, read off the program by program (gen.py): no program in sight. -/
import Derived.Test.YtlacgaihahemmaaGreatDoorPl
import Derived.Test.YtlacgaihahemmaaGreatDoorPa
import Derived.Test.YtlacgaihahemmaaGreatDoorPb
import Derived.Test.YtlacgaihahemmaaGreatDoorPc
import Derived.Test.YtlacgaihahemmaaGreatDoorPd
import Derived.Test.YtlacgaihahemmaaGreatDoorPe
set_option linter.unusedVariables false
namespace Go.C
open Go.V

noncomputable def lawLevel_j1 (s : Str) (x : (List Int)) : Option (Bool) :=
  (nomLevel s).bind fun v2 =>
    (refLevel s).bind fun v3 =>
      (if (v2 == v3) = true then nomLevel (bytesI x) else some default).bind fun v4 =>
        (if (v2 == v3) = true then refLevel (bytesI x) else some default).bind fun v5 =>
          (if (bif (v2 == v3) then (v4 == v5) else false) = true then awake09  else some default).bind fun v6 =>
            some (bif (bif (v2 == v3) then (v4 == v5) else false) then v6 else false)
noncomputable def lawLevel (s : Str) (n1 : Int) (at_ : Int) (by_ : Int) : Option (Bool) :=
  (within n1 (11 : Int)).bind fun v =>
    if (0 ≤ (0 : Int) ∧ (0 : Int) ≤ v ∧ v ≤ (([48, 49, 50, 51, 52, 53, 54, 55, 56, 57] : Str).length : Int)) then
      if (((([48, 49, 50, 51, 52, 53, 54, 55, 56, 57] : Str).take v.toNat).drop (0 : Int).toNat).length ≤ 9223372036854775807) then
        if (bif (decide ((0 : Int) < ((intsB ((([48, 49, 50, 51, 52, 53, 54, 55, 56, 57] : Str).take v.toNat).drop (0 : Int).toNat)).length : Int))) then ((IntKind.i64.wrap ((BitVec.ofInt (IntKind.i64).bits at_ &&& BitVec.ofInt (IntKind.i64).bits (1 : Int)).toNat : Int)) == (1 : Int)) else false) = true then
          (within (at_.fdiv (2 ^ (min (1 : Int).toNat (IntKind.i64).bits))) ((intsB ((([48, 49, 50, 51, 52, 53, 54, 55, 56, 57] : Str).take v.toNat).drop (0 : Int).toNat)).length : Int)).bind fun v7 =>
            if (0 ≤ v7 ∧ v7 < ((intsB ((([48, 49, 50, 51, 52, 53, 54, 55, 56, 57] : Str).take v.toNat).drop (0 : Int).toNat)).length : Int)) then
              lawLevel_j1 s ((intsB ((([48, 49, 50, 51, 52, 53, 54, 55, 56, 57] : Str).take v.toNat).drop (0 : Int).toNat)).set v7.toNat by_)
            else none
        else
          lawLevel_j1 s (intsB ((([48, 49, 50, 51, 52, 53, 54, 55, 56, 57] : Str).take v.toNat).drop (0 : Int).toNat))
      else none
    else none

noncomputable def lawNValidate (raw : ApiNomenclature) (l : (List Int)) : Option (Bool) :=
  (few09 raw).bind fun v =>
    (nomValidate v).bind fun v2 =>
      (refBook v).bind fun v3 =>
        (if (v2 == v3) = true then madeNom l else some default).bind fun v4 =>
          (if (v2 == v3) = true then nomValidate v4 else some default).bind fun v5 =>
            (if (bif (v2 == v3) then (v5 == (0 : Int)) else false) = true then awake09  else some default).bind fun v6 =>
              some (bif (bif (v2 == v3) then (v5 == (0 : Int)) else false) then v6 else false)

noncomputable def lawNChanged_j1 (v : ApiNomenclature) (t14 : (List ApiCodeEntry)) (c13_1 : (List ApiCodeNote)) : Option (Bool) :=
  (nomValidate (⟨t14, c13_1⟩ : ApiNomenclature)).bind fun v4 =>
    (refBook (⟨t14, c13_1⟩ : ApiNomenclature)).bind fun v5 =>
      (if (v4 == v5) = true then awake09  else some default).bind fun v6 =>
        some (bif (v4 == v5) then v6 else false)
noncomputable def lawNChanged (a0 : (List Int)) (a1 : ApiCodeEntry) (a2 : ApiCodeNote) (a3 : Int) (a4 : Int) (a5 : Int) : Option (Bool) :=
  (madeNom a0).bind fun v =>
    if (0 + v.Entries.length ≤ 137438953472) then
      (within a3 (v.Entries.length : Int)).bind fun v2 =>
        (within a4 (8 : Int)).bind fun v3 =>
          if (v3 == (0 : Int)) = true then
            if (0 ≤ v2 ∧ v2 < (v.Entries.length : Int)) then
              lawNChanged_j1 v (v.Entries.set v2.toNat a1) v.Notes
            else none
          else
            if (v3 == (1 : Int)) = true then
              if (0 ≤ (0 : Int) ∧ (0 : Int) ≤ v2 ∧ v2 ≤ (v.Entries.length : Int)) then
                if (0 + ((v.Entries.take v2.toNat).drop (0 : Int).toNat).length ≤ 137438953472) then
                  if (0 ≤ (IntKind.i64.wrap (v2 + (1 : Int))) ∧ (IntKind.i64.wrap (v2 + (1 : Int))) ≤ (v.Entries.length : Int)) then
                    if (((v.Entries.take v2.toNat).drop (0 : Int).toNat).length + (v.Entries.drop (IntKind.i64.wrap (v2 + (1 : Int))).toNat).length ≤ 137438953472) then
                      lawNChanged_j1 v (((v.Entries.take v2.toNat).drop (0 : Int).toNat) ++ (v.Entries.drop (IntKind.i64.wrap (v2 + (1 : Int))).toNat)) v.Notes
                    else none
                  else none
                else none
              else none
            else
              if (v3 == (2 : Int)) = true then
                if (0 ≤ (0 : Int) ∧ (0 : Int) ≤ v2 ∧ v2 ≤ (v.Entries.length : Int)) then
                  if (0 + ((v.Entries.take v2.toNat).drop (0 : Int).toNat).length ≤ 137438953472) then
                    if (0 ≤ v2) then
                      (v.Entries[v2.toNat]?).bind fun x =>
                        if (((v.Entries.take v2.toNat).drop (0 : Int).toNat).length + [x].length ≤ 137438953472) then
                          if (0 ≤ v2 ∧ v2 ≤ (v.Entries.length : Int)) then
                            if ((((v.Entries.take v2.toNat).drop (0 : Int).toNat) ++ [x]).length + (v.Entries.drop v2.toNat).length ≤ 137438953472) then
                              lawNChanged_j1 v ((((v.Entries.take v2.toNat).drop (0 : Int).toNat) ++ [x]) ++ (v.Entries.drop v2.toNat)) v.Notes
                            else none
                          else none
                        else none
                    else none
                  else none
                else none
              else
                if (v3 == (3 : Int)) = true then
                  (within a5 (25 : Int)).bind fun v7 =>
                    if (0 ≤ v2 ∧ v2 < (v.Entries.length : Int)) then
                      lawNChanged_j1 v (v.Entries.set v2.toNat (⟨(v.Entries.getD v2.toNat default).Code, (IntKind.i64.wrap (v7 - (1 : Int))), (v.Entries.getD v2.toNat default).To, (v.Entries.getD v2.toNat default).Terms, (v.Entries.getD v2.toNat default).Other⟩ : ApiCodeEntry)) v.Notes
                    else none
                else
                  if (v3 == (4 : Int)) = true then
                    (within a5 (25 : Int)).bind fun v8 =>
                      if (0 ≤ v2 ∧ v2 < (v.Entries.length : Int)) then
                        lawNChanged_j1 v (v.Entries.set v2.toNat (⟨(v.Entries.getD v2.toNat default).Code, (v.Entries.getD v2.toNat default).From, v8, (v.Entries.getD v2.toNat default).Terms, (v.Entries.getD v2.toNat default).Other⟩ : ApiCodeEntry)) v.Notes
                      else none
                  else
                    if (v3 == (5 : Int)) = true then
                      if (0 ≤ v2 ∧ v2 < (v.Entries.length : Int)) then
                        lawNChanged_j1 v (v.Entries.set v2.toNat (⟨(v.Entries.getD v2.toNat default).Code, (v.Entries.getD v2.toNat default).From, (v.Entries.getD v2.toNat default).To, a1.Terms, (v.Entries.getD v2.toNat default).Other⟩ : ApiCodeEntry)) v.Notes
                      else none
                    else
                      if (v3 == (6 : Int)) = true then
                        if (0 ≤ v2 ∧ v2 < (v.Entries.length : Int)) then
                          if (0 ≤ v2 ∧ v2 < (v.Entries.length : Int)) then
                            lawNChanged_j1 v (v.Entries.set v2.toNat (⟨(v.Entries.getD v2.toNat default).Code, (v.Entries.getD v2.toNat default).From, (v.Entries.getD v2.toNat default).To, (v.Entries.getD v2.toNat default).Terms, (!((v.Entries.getD v2.toNat default).Other))⟩ : ApiCodeEntry)) v.Notes
                          else none
                        else none
                      else
                        if (0 + v.Notes.length ≤ 137438953472) then
                          if (v.Notes.length + [a2].length ≤ 137438953472) then
                            lawNChanged_j1 v v.Entries (v.Notes ++ [a2])
                          else none
                        else none
    else none

end Go.C
