/- Plain functions, read off the program by program (gen.py): no program in sight. -/
import Derived.Test.YtfkefolbabniaaaGreatDoorPl
import Derived.Test.YtfkefolbabniaaaGreatDoorBp
import Derived.Test.YtfkefolbabniaaaGreatDoorPa
import Derived.Test.YtfkefolbabniaaaGreatDoorPb
import Derived.Test.YtfkefolbabniaaaGreatDoorPc
import Derived.Test.YtfkefolbabniaaaGreatDoorPd
import Derived.Test.YtfkefolbabniaaaGreatDoorPe
import Derived.Test.YtfkefolbabniaaaGreatDoorPg
import Derived.Test.YtfkefolbabniaaaGreatDoorPu
import Derived.Test.YtfkefolbabniaaaGreatDoorPh
set_option linter.unusedVariables false
namespace Go.C
open Go.V

noncomputable def bWriteString (b : StringsBuilder) (s : Str) : Option (Int × Bool × StringsBuilder) :=
  (bCheck b).bind fun v =>
    if (b.buf.length + s.length ≤ 137438953472) then
      some ((s.length : Int), true, (⟨(), (b.buf ++ (intsB s))⟩ : StringsBuilder))
    else none

noncomputable def nomFormat_j2 (c3_12 : (List Int)) : Option (Str) :=
  (bString (⟨(), c3_12⟩ : StringsBuilder)).bind fun v2 =>
    some v2
noncomputable def nomFormat_b1 (b : ApiNomenclature) : (Int × (List Int)) → Option ((Int × (List Int)) ⊕ ((List Int)))
  | (t26, c3_13) =>
    if (decide (t26 < (b.Notes.length : Int))) = true then
      if (0 ≤ t26) then
        (b.Notes[t26.toNat]?).bind fun x2 =>
          (noteLine x2).bind fun v5 =>
            if (v5.length + ([10] : Str).length ≤ 9223372036854775807) then
              (bWriteString (⟨(), c3_13⟩ : StringsBuilder) (v5 ++ ([10] : Str))).bind fun v6 =>
                some (.inl ((IntKind.i64.wrap (t26 + (1 : Int))), v6.2.2.buf))
            else none
      else none
    else
      some (.inr c3_13)
noncomputable def nomFormat_j1 (b : ApiNomenclature) (c3_1 : (List Int)) : Option (Str) :=
  (loopO (nomFormat_b1 b) ((0 : Int), c3_1)).bind fun e => match e with
    | c3_15 =>
      nomFormat_j2 c3_15
noncomputable def nomFormat_b2 (b : ApiNomenclature) : (Int × (List Int)) → Option ((Int × (List Int)) ⊕ ((List Int)))
  | (t14, c3_16) =>
    if (decide (t14 < (b.Entries.length : Int))) = true then
      if (0 ≤ t14) then
        (b.Entries[t14.toNat]?).bind fun x4 =>
          (entryLine x4).bind fun v9 =>
            if (v9.length + ([10] : Str).length ≤ 9223372036854775807) then
              (bWriteString (⟨(), c3_16⟩ : StringsBuilder) (v9 ++ ([10] : Str))).bind fun v10 =>
                some (.inl ((IntKind.i64.wrap (t14 + (1 : Int))), v10.2.2.buf))
            else none
      else none
    else
      some (.inr c3_16)
noncomputable def nomFormat (b : ApiNomenclature) : Option (Str) :=
  (nomValidate b).bind fun v =>
    if (v != (0 : Int)) = true then
      some ([] : Str)
    else
      (loopO (nomFormat_b2 b) ((0 : Int), [])).bind fun e => match e with
        | c3_18 =>
          nomFormat_j1 b c3_18

noncomputable def lawNFormat (l : (List Int)) (raw : ApiNomenclature) : Option (Bool) :=
  (madeNom l).bind fun v =>
    (nomFormat v).bind fun v2 =>
      (refFormatBook v).bind fun v3 =>
        (if (!(!(v2 == v3))) = true then few09 raw else some default).bind fun v4 =>
          (if (!(!(v2 == v3))) = true then nomFormat v4 else some default).bind fun v5 =>
            (if (!(!(v2 == v3))) = true then few09 raw else some default).bind fun v6 =>
              (if (!(!(v2 == v3))) = true then refFormatBook v6 else some default).bind fun v7 =>
                if (bif (!(v2 == v3)) then true else (!(v5 == v7))) = true then
                  some false
                else
                  (nomParse v2).bind fun v8 =>
                    (if (bif (v8.2.2 == (0 : Int)) then (v8.2.1 == (IntKind.i64.wrap ((v.Entries.length : Int) + (v.Notes.length : Int)))) else false) = true then sameBook v8.1 v else some default).bind fun v9 =>
                      (if (bif (bif (v8.2.2 == (0 : Int)) then (v8.2.1 == (IntKind.i64.wrap ((v.Entries.length : Int) + (v.Notes.length : Int)))) else false) then v9 else false) = true then awake09  else some default).bind fun v10 =>
                        some (bif (bif (bif (v8.2.2 == (0 : Int)) then (v8.2.1 == (IntKind.i64.wrap ((v.Entries.length : Int) + (v.Notes.length : Int)))) else false) then v9 else false) then v10 else false)

end Go.C
