/- Plain functions, read off the program by program (gen.py): no program in sight. -/
import Derived.Test.YtfkefolbabniaaaGreatDoorPl
import Derived.Test.YtfkefolbabniaaaGreatDoorPa
import Derived.Test.YtfkefolbabniaaaGreatDoorPb
import Derived.Test.YtfkefolbabniaaaGreatDoorPc
import Derived.Test.YtfkefolbabniaaaGreatDoorPd
import Derived.Test.YtfkefolbabniaaaGreatDoorPe
import Derived.Test.YtfkefolbabniaaaGreatDoorPg
import Derived.Test.YtfkefolbabniaaaGreatDoorPu
set_option linter.unusedVariables false
namespace Go.C
open Go.V

noncomputable def refEntryLine_j2 (s2 : Str) : Option (Str) :=
  some s2
noncomputable def refEntryLine_j1 (x : ApiCodeEntry) (s : Str) : Option (Str) :=
  if x.Other = true then
    if (s.length + ([32, 42] : Str).length ≤ 9223372036854775807) then
      refEntryLine_j2 (s ++ ([32, 42] : Str))
    else none
  else
    refEntryLine_j2 s
noncomputable def refEntryLine_b1 (x : ApiCodeEntry) : (Int × Str) → Option ((Int × Str) ⊕ (Str))
  | (i, s3) =>
    if (decide (i < (x.Terms.length : Int))) = true then
      if (s3.length + ([32] : Str).length ≤ 9223372036854775807) then
        if (0 ≤ i) then
          (x.Terms[i.toNat]?).bind fun x3 =>
            (refJoined x3 ([43] : Str)).bind fun v4 =>
              if ((s3 ++ ([32] : Str)).length + v4.length ≤ 9223372036854775807) then
                some (.inl ((IntKind.i64.wrap (i + (1 : Int))), ((s3 ++ ([32] : Str)) ++ v4)))
              else none
        else none
      else none
    else
      some (.inr s3)
noncomputable def refEntryLine (x : ApiCodeEntry) : Option (Str) :=
  if (x.Code.length + ([32] : Str).length ≤ 9223372036854775807) then
    (r02Number x.From).bind fun v =>
      if ((x.Code ++ ([32] : Str)).length + v.length ≤ 9223372036854775807) then
        if (((x.Code ++ ([32] : Str)) ++ v).length + ([32] : Str).length ≤ 9223372036854775807) then
          (r02Number x.To).bind fun v2 =>
            if ((((x.Code ++ ([32] : Str)) ++ v) ++ ([32] : Str)).length + v2.length ≤ 9223372036854775807) then
              (loopO (refEntryLine_b1 x) ((0 : Int), ((((x.Code ++ ([32] : Str)) ++ v) ++ ([32] : Str)) ++ v2))).bind fun e => match e with
                | s5 =>
                  refEntryLine_j1 x s5
            else none
        else none
      else none
  else none

noncomputable def refNoteLine (x : ApiCodeNote) : Option (Str) :=
  if (([110, 111, 116, 101, 32] : Str).length + x.Scope.length ≤ 9223372036854775807) then
    if ((([110, 111, 116, 101, 32] : Str) ++ x.Scope).length + ([32] : Str).length ≤ 9223372036854775807) then
      (refJoined x.Words ([43] : Str)).bind fun v =>
        if (((([110, 111, 116, 101, 32] : Str) ++ x.Scope) ++ ([32] : Str)).length + v.length ≤ 9223372036854775807) then
          if (x.Target == ([] : Str)) = true then
            if ((((([110, 111, 116, 101, 32] : Str) ++ x.Scope) ++ ([32] : Str)) ++ v).length + ([32, 45] : Str).length ≤ 9223372036854775807) then
              some ((((([110, 111, 116, 101, 32] : Str) ++ x.Scope) ++ ([32] : Str)) ++ v) ++ ([32, 45] : Str))
            else none
          else
            if ((((([110, 111, 116, 101, 32] : Str) ++ x.Scope) ++ ([32] : Str)) ++ v).length + ([32] : Str).length ≤ 9223372036854775807) then
              if (((((([110, 111, 116, 101, 32] : Str) ++ x.Scope) ++ ([32] : Str)) ++ v) ++ ([32] : Str)).length + x.Target.length ≤ 9223372036854775807) then
                some (((((([110, 111, 116, 101, 32] : Str) ++ x.Scope) ++ ([32] : Str)) ++ v) ++ ([32] : Str)) ++ x.Target)
              else none
            else none
        else none
    else none
  else none

noncomputable def refFormatBook_j2 (s2 : Str) : Option (Str) :=
  some s2
noncomputable def refFormatBook_b1 (b : ApiNomenclature) : (Int × Str) → Option ((Int × Str) ⊕ (Str))
  | (i, s3) =>
    if (decide (i < (b.Notes.length : Int))) = true then
      if (0 ≤ i) then
        (b.Notes[i.toNat]?).bind fun x2 =>
          (refNoteLine x2).bind fun v3 =>
            if (s3.length + v3.length ≤ 9223372036854775807) then
              if ((s3 ++ v3).length + ([10] : Str).length ≤ 9223372036854775807) then
                some (.inl ((IntKind.i64.wrap (i + (1 : Int))), ((s3 ++ v3) ++ ([10] : Str))))
              else none
            else none
      else none
    else
      some (.inr s3)
noncomputable def refFormatBook_j1 (b : ApiNomenclature) (s : Str) : Option (Str) :=
  (loopO (refFormatBook_b1 b) ((0 : Int), s)).bind fun e => match e with
    | s5 =>
      refFormatBook_j2 s5
noncomputable def refFormatBook_b2 (b : ApiNomenclature) : (Int × Str) → Option ((Int × Str) ⊕ (Str))
  | (i3, s6) =>
    if (decide (i3 < (b.Entries.length : Int))) = true then
      if (0 ≤ i3) then
        (b.Entries[i3.toNat]?).bind fun x4 =>
          (refEntryLine x4).bind fun v5 =>
            if (s6.length + v5.length ≤ 9223372036854775807) then
              if ((s6 ++ v5).length + ([10] : Str).length ≤ 9223372036854775807) then
                some (.inl ((IntKind.i64.wrap (i3 + (1 : Int))), ((s6 ++ v5) ++ ([10] : Str))))
              else none
            else none
      else none
    else
      some (.inr s6)
noncomputable def refFormatBook (b : ApiNomenclature) : Option (Str) :=
  (refBook b).bind fun v =>
    if (v != (0 : Int)) = true then
      some ([] : Str)
    else
      (loopO (refFormatBook_b2 b) ((0 : Int), ([] : Str))).bind fun e => match e with
        | s8 =>
          refFormatBook_j1 b s8

noncomputable def sameBook_j1  : Option (Bool) :=
  some true
noncomputable def sameBook_b1 (a : ApiNomenclature) (b : ApiNomenclature) : (Int) → Option ((Int) ⊕ ((Bool) ⊕ (Unit)))
  | i =>
    if (decide (i < (a.Notes.length : Int))) = true then
      if (0 ≤ i) then
        (a.Notes[i.toNat]?).bind fun x3 =>
          if (0 ≤ i) then
            (b.Notes[i.toNat]?).bind fun x4 =>
              if ((!(!(x3.Scope == x4.Scope))) = true → (0 ≤ i ∧ i < (a.Notes.length : Int))) then
                if ((!(!(x3.Scope == x4.Scope))) = true → (0 ≤ i ∧ i < (b.Notes.length : Int))) then
                  if ((!(bif (!(x3.Scope == x4.Scope)) then true else (!(((a.Notes.getD i.toNat default).Target) == ((b.Notes.getD i.toNat default).Target))))) = true → (0 ≤ i ∧ i < (a.Notes.length : Int))) then
                    if ((!(bif (!(x3.Scope == x4.Scope)) then true else (!(((a.Notes.getD i.toNat default).Target) == ((b.Notes.getD i.toNat default).Target))))) = true → (0 ≤ i ∧ i < (b.Notes.length : Int))) then
                      (if (!(bif (!(x3.Scope == x4.Scope)) then true else (!(((a.Notes.getD i.toNat default).Target) == ((b.Notes.getD i.toNat default).Target))))) = true then sameStrings ((a.Notes.getD i.toNat default).Words) ((b.Notes.getD i.toNat default).Words) else some default).bind fun v3 =>
                        if (bif (bif (!(x3.Scope == x4.Scope)) then true else (!(((a.Notes.getD i.toNat default).Target) == ((b.Notes.getD i.toNat default).Target)))) then true else (!v3)) = true then
                          some (.inr (.inl false))
                        else
                          some (.inl (IntKind.i64.wrap (i + (1 : Int))))
                    else none
                  else none
                else none
              else none
          else none
      else none
    else
      some (.inr (.inr ()))
noncomputable def sameBook (a : ApiNomenclature) (b : ApiNomenclature) : Option (Bool) :=
  (sameEntries a.Entries b.Entries).bind fun v =>
    if (bif (!v) then true else ((a.Notes.length : Int) != (b.Notes.length : Int))) = true then
      some false
    else
      (loopO (sameBook_b1 a b) (0 : Int)).bind fun e => match e with
        | (.inl rv) =>
          some rv
        | (.inr ()) =>
          sameBook_j1

end Go.C
