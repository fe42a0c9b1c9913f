/- Plain functions, read off the program by program (gen.py): no program in sight. -/
import Derived.Test.YtfkefolbabniaaaGreatDoorPl
import Derived.Test.YtfkefolbabniaaaGreatDoorPa
import Derived.Test.YtfkefolbabniaaaGreatDoorPb
import Derived.Test.YtfkefolbabniaaaGreatDoorPc
set_option linter.unusedVariables false
namespace Go.C
open Go.V

noncomputable def entryLine_j2 (fields2 : (List Str)) : Option (Str) :=
  (joinS fields2 ([32] : Str)).bind fun v3 =>
    some v3
noncomputable def entryLine_j1 (e1 : ApiCodeEntry) (fields : (List Str)) : Option (Str) :=
  if e1.Other = true then
    if (fields.length + [([42] : Str)].length ≤ 137438953472) then
      entryLine_j2 (fields ++ [([42] : Str)])
    else none
  else
    entryLine_j2 fields
noncomputable def entryLine_b1 (e1 : ApiCodeEntry) : (Int × (List Str)) → Option ((Int × (List Str)) ⊕ ((List Str)))
  | (t18, fields3) =>
    if (decide (t18 < (e1.Terms.length : Int))) = true then
      if (0 ≤ t18) then
        (e1.Terms[t18.toNat]?).bind fun x2 =>
          (joinS x2 ([43] : Str)).bind fun v5 =>
            if (fields3.length + [v5].length ≤ 137438953472) then
              some (.inl ((IntKind.i64.wrap (t18 + (1 : Int))), (fields3 ++ [v5])))
            else none
      else none
    else
      some (.inr fields3)
noncomputable def entryLine (e1 : ApiCodeEntry) : Option (Str) :=
  (itoa e1.From).bind fun v =>
    (itoa e1.To).bind fun v2 =>
      (loopO (entryLine_b1 e1) ((0 : Int), [e1.Code, v, v2])).bind fun e => match e with
        | fields5 =>
          entryLine_j1 e1 fields5

noncomputable def noteLine_j1 (n1 : ApiCodeNote) (target : Str) : Option (Str) :=
  (joinS n1.Words ([43] : Str)).bind fun v =>
    (joinS [([110, 111, 116, 101] : Str), n1.Scope, v, target] ([32] : Str)).bind fun v2 =>
      some v2
noncomputable def noteLine (n1 : ApiCodeNote) : Option (Str) :=
  if (n1.Target == ([] : Str)) = true then
    noteLine_j1 n1 ([45] : Str)
  else
    noteLine_j1 n1 n1.Target

noncomputable def parseEntry_j1 (line : Str) (v2 : Int × Bool) (v3 : Int × Bool) (x3 : Str) (c8_3 : (List (List Str))) (c8_4 : Bool) : Option (ApiCodeEntry × Bool) :=
  (validateEntry (⟨x3, v2.1, v3.1, c8_3, c8_4⟩ : ApiCodeEntry)).bind fun v4 =>
    (if (v4 == (0 : Int)) = true then entryLine (⟨x3, v2.1, v3.1, c8_3, c8_4⟩ : ApiCodeEntry) else some default).bind fun v5 =>
      some ((⟨x3, v2.1, v3.1, c8_3, c8_4⟩ : ApiCodeEntry), (bif (v4 == (0 : Int)) then (v5 == line) else false))
noncomputable def parseEntry_j2 (line : Str) (v : (List Str)) (v2 : Int × Bool) (v3 : Int × Bool) (x3 : Str) (t462 : Int) (c8_36 : (List (List Str))) (c8_47 : Bool) : Option ((Int × (List (List Str)) × Bool) ⊕ ((List (List Str)) × Bool)) :=
  some (.inl ((IntKind.i64.wrap (t462 + (1 : Int))), c8_36, c8_47))
noncomputable def parseEntry_b1 (line : Str) (v : (List Str)) (v2 : Int × Bool) (v3 : Int × Bool) (x3 : Str) : (Int × (List (List Str)) × Bool) → Option ((Int × (List (List Str)) × Bool) ⊕ ((List (List Str)) × Bool))
  | (t462, c8_33, c8_44) =>
    if (decide (t462 < ((v.drop (3 : Int).toNat).length : Int))) = true then
      if (0 ≤ t462) then
        ((v.drop (3 : Int).toNat)[t462.toNat]?).bind fun x6 =>
          if (x6 == ([42] : Str)) = true then
            parseEntry_j2 line v v2 v3 x3 t462 c8_33 true
          else
            (splitS x6 ([43] : Str)).bind fun v8 =>
              if (c8_33.length + [v8].length ≤ 137438953472) then
                parseEntry_j2 line v v2 v3 x3 t462 (c8_33 ++ [v8]) c8_44
              else none
      else none
    else
      some (.inr (c8_33, c8_44))
noncomputable def parseEntry (line : Str) : Option (ApiCodeEntry × Bool) :=
  (splitS line ([32] : Str)).bind fun v =>
    if (decide ((v.length : Int) < (3 : Int))) = true then
      some ((⟨[], 0, 0, [], false⟩ : ApiCodeEntry), false)
    else
      (v[1]?).bind fun x =>
        (atoiS x).bind fun v2 =>
          if (!v2.2) = true then
            some ((⟨[], 0, 0, [], false⟩ : ApiCodeEntry), false)
          else
            (v[2]?).bind fun x2 =>
              (atoiS x2).bind fun v3 =>
                if (!v3.2) = true then
                  some ((⟨[], 0, 0, [], false⟩ : ApiCodeEntry), false)
                else
                  (v[0]?).bind fun x3 =>
                    if (0 ≤ (3 : Int) ∧ (3 : Int) ≤ (v.length : Int)) then
                      (loopO (parseEntry_b1 line v v2 v3 x3) ((0 : Int), [], false)).bind fun e => match e with
                        | (c8_35, c8_46) =>
                          parseEntry_j1 line v2 v3 x3 c8_35 c8_46
                    else none

noncomputable def parseNote_j1 (line : Str) (x : Str) (v2 : (List Str)) (c5_2 : Str) : Option (ApiCodeNote × Bool) :=
  (validateNote (⟨x, v2, c5_2⟩ : ApiCodeNote)).bind fun v3 =>
    (if (v3 == (0 : Int)) = true then noteLine (⟨x, v2, c5_2⟩ : ApiCodeNote) else some default).bind fun v4 =>
      some ((⟨x, v2, c5_2⟩ : ApiCodeNote), (bif (v3 == (0 : Int)) then (v4 == line) else false))
noncomputable def parseNote (line : Str) : Option (ApiCodeNote × Bool) :=
  (splitS line ([32] : Str)).bind fun v =>
    if ((v.length : Int) != (4 : Int)) = true then
      some ((⟨[], [], []⟩ : ApiCodeNote), false)
    else
      (v[1]?).bind fun x =>
        (v[2]?).bind fun x2 =>
          (splitS x2 ([43] : Str)).bind fun v2 =>
            (v[3]?).bind fun x3 =>
              if (x3 == ([45] : Str)) = true then
                parseNote_j1 line x v2 ([] : Str)
              else
                parseNote_j1 line x v2 x3

noncomputable def addLine (b : ApiNomenclature) (line : Str) : Option (Bool × ApiNomenclature) :=
  (parseNote line).bind fun v =>
    if v.2 = true then
      if (b.Notes.length + [v.1].length ≤ 137438953472) then
        some (true, (⟨b.Entries, (b.Notes ++ [v.1])⟩ : ApiNomenclature))
      else none
    else
      (parseEntry line).bind fun v2 =>
        if (bif (!v2.2) then true else (decide ((0 : Int) < (b.Notes.length : Int)))) = true then
          some (false, b)
        else
          if (b.Entries.length + [v2.1].length ≤ 137438953472) then
            some (true, (⟨(b.Entries ++ [v2.1]), b.Notes⟩ : ApiNomenclature))
          else none

noncomputable def nomParse_j1 (lines : Int) (c5_0 : (List ApiCodeEntry)) (c5_1 : (List ApiCodeNote)) : Option (ApiNomenclature × Int × Int) :=
  (nomValidate (⟨c5_0, c5_1⟩ : ApiNomenclature)).bind fun v =>
    if (v != (0 : Int)) = true then
      some ((⟨[], []⟩ : ApiNomenclature), (0 : Int), v)
    else
      some ((⟨c5_0, c5_1⟩ : ApiNomenclature), lines, (0 : Int))
noncomputable def nomParse_b1  : (Int × Str × (List ApiCodeEntry) × (List ApiCodeNote)) → Option ((Int × Str × (List ApiCodeEntry) × (List ApiCodeNote)) ⊕ ((ApiNomenclature × Int × Int) ⊕ (Int × (List ApiCodeEntry) × (List ApiCodeNote))))
  | (lines3, s3, c5_02, c5_12) =>
    if (!(s3 == ([] : Str))) = true then
      (cutS s3 ([10] : Str)).bind fun v6 =>
        if (!(!v6.2.2)) = true then
          (addLine (⟨c5_02, c5_12⟩ : ApiNomenclature) v6.1).bind fun v7 =>
            if (bif (!v6.2.2) then true else (!v7.1)) = true then
              some (.inr (.inl ((⟨[], []⟩ : ApiNomenclature), lines3, (4 : Int))))
            else
              some (.inl ((IntKind.i64.wrap (lines3 + (1 : Int))), v6.2.1, v7.2.Entries, v7.2.Notes))
        else
          if (bif (!v6.2.2) then true else false) = true then
            some (.inr (.inl ((⟨[], []⟩ : ApiNomenclature), lines3, (4 : Int))))
          else
            some (.inl ((IntKind.i64.wrap (lines3 + (1 : Int))), v6.2.1, c5_02, c5_12))
    else
      some (.inr (.inr (lines3, c5_02, c5_12)))
noncomputable def nomParse (s : Str) : Option (ApiNomenclature × Int × Int) :=
  (loopO (nomParse_b1) ((0 : Int), s, [], [])).bind fun e => match e with
    | (.inl rv) =>
      some rv
    | (.inr (lines4, c5_03, c5_13)) =>
      nomParse_j1 lines4 c5_03 c5_13

end Go.C
