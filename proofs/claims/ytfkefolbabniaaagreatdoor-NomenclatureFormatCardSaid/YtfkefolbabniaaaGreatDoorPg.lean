/- Plain functions, read off the program by program (gen.py): no program in sight. -/
import Derived.Test.YtfkefolbabniaaaGreatDoorPl
import Derived.Test.YtfkefolbabniaaaGreatDoorPa
import Derived.Test.YtfkefolbabniaaaGreatDoorPb
import Derived.Test.YtfkefolbabniaaaGreatDoorPc
import Derived.Test.YtfkefolbabniaaaGreatDoorPd
import Derived.Test.YtfkefolbabniaaaGreatDoorPe
set_option linter.unusedVariables false
namespace Go.C
open Go.V

noncomputable def refHas_j1  : Option (Bool) :=
  some false
noncomputable def refHas_b1 (l : (List Str)) (s : Str) : (Int) → Option ((Int) ⊕ ((Bool) ⊕ (Unit)))
  | i =>
    if (decide (i < (l.length : Int))) = true then
      if (0 ≤ i) then
        (l[i.toNat]?).bind fun x2 =>
          if (x2 == s) = true then
            some (.inr (.inl true))
          else
            some (.inl (IntKind.i64.wrap (i + (1 : Int))))
      else none
    else
      some (.inr (.inr ()))
noncomputable def refHas (l : (List Str)) (s : Str) : Option (Bool) :=
  (loopO (refHas_b1 l s) (0 : Int)).bind fun e => match e with
    | (.inl rv) =>
      some rv
    | (.inr ()) =>
      refHas_j1

noncomputable def refSubset_j1  : Option (Bool) :=
  some true
noncomputable def refSubset_b1 (a : (List Str)) (b : (List Str)) : (Int) → Option ((Int) ⊕ ((Bool) ⊕ (Unit)))
  | i =>
    if (decide (i < (a.length : Int))) = true then
      if (0 ≤ i) then
        (a[i.toNat]?).bind fun x2 =>
          (refHas b x2).bind fun v2 =>
            if (!v2) = true then
              some (.inr (.inl false))
            else
              some (.inl (IntKind.i64.wrap (i + (1 : Int))))
      else none
    else
      some (.inr (.inr ()))
noncomputable def refSubset (a : (List Str)) (b : (List Str)) : Option (Bool) :=
  (loopO (refSubset_b1 a b) (0 : Int)).bind fun e => match e with
    | (.inl rv) =>
      some rv
    | (.inr ()) =>
      refSubset_j1

noncomputable def refWith_j1 (l : (List Str)) (s : Str) (k : Int) : Option ((List Str)) :=
  if ((decide (k < (l.length : Int))) = true → (0 ≤ k ∧ k < (l.length : Int))) then
    if (bif (decide (k < (l.length : Int))) then ((l.getD k.toNat default) == s) else false) = true then
      some l
    else
      if (0 ≤ (0 : Int) ∧ (0 : Int) ≤ k ∧ k ≤ (l.length : Int)) then
        if (0 + ((l.take k.toNat).drop (0 : Int).toNat).length ≤ 137438953472) then
          if (((l.take k.toNat).drop (0 : Int).toNat).length + [s].length ≤ 137438953472) then
            if (0 ≤ k ∧ k ≤ (l.length : Int)) then
              if ((((l.take k.toNat).drop (0 : Int).toNat) ++ [s]).length + (l.drop k.toNat).length ≤ 137438953472) then
                some ((((l.take k.toNat).drop (0 : Int).toNat) ++ [s]) ++ (l.drop k.toNat))
              else none
            else none
          else none
        else none
      else none
  else none
noncomputable def refWith_b1 (l : (List Str)) (s : Str) : (Int) → Option ((Int) ⊕ (Int))
  | k2 =>
    if ((decide (k2 < (l.length : Int))) = true → (0 ≤ k2 ∧ k2 < (l.length : Int))) then
      if (bif (decide (k2 < (l.length : Int))) then (Op.bytesLess (l.getD k2.toNat default) s) else false) = true then
        some (.inl (IntKind.i64.wrap (k2 + (1 : Int))))
      else
        some (.inr k2)
    else none
noncomputable def refWith (l : (List Str)) (s : Str) : Option ((List Str)) :=
  (loopO (refWith_b1 l s) (0 : Int)).bind fun e => match e with
    | k4 =>
      refWith_j1 l s k4

noncomputable def refUnion_j2 (out2 : (List Str)) : Option ((List Str)) :=
  some out2
noncomputable def refUnion_b1 (b : (List Str)) : (Int × (List Str)) → Option ((Int × (List Str)) ⊕ ((List Str)))
  | (i, out3) =>
    if (decide (i < (b.length : Int))) = true then
      if (0 ≤ i) then
        (b[i.toNat]?).bind fun x2 =>
          (refWith out3 x2).bind fun v2 =>
            some (.inl ((IntKind.i64.wrap (i + (1 : Int))), v2))
      else none
    else
      some (.inr out3)
noncomputable def refUnion_j1 (b : (List Str)) (out : (List Str)) : Option ((List Str)) :=
  (loopO (refUnion_b1 b) ((0 : Int), out)).bind fun e => match e with
    | out5 =>
      refUnion_j2 out5
noncomputable def refUnion_b2 (a : (List Str)) (b : (List Str)) : (Int × (List Str)) → Option ((Int × (List Str)) ⊕ ((List Str)))
  | (i4, out6) =>
    if (decide (i4 < (a.length : Int))) = true then
      if (0 ≤ i4) then
        (a[i4.toNat]?).bind fun x5 =>
          (refWith out6 x5).bind fun v5 =>
            some (.inl ((IntKind.i64.wrap (i4 + (1 : Int))), v5))
      else none
    else
      some (.inr out6)
noncomputable def refUnion (a : (List Str)) (b : (List Str)) : Option ((List Str)) :=
  (loopO (refUnion_b2 a b) ((0 : Int), [])).bind fun e => match e with
    | out7 =>
      refUnion_j1 b out7

noncomputable def sameStrings_j1  : Option (Bool) :=
  some true
noncomputable def sameStrings_b1 (a : (List Str)) (b : (List Str)) : (Int) → Option ((Int) ⊕ ((Bool) ⊕ (Unit)))
  | i =>
    if (decide (i < (a.length : Int))) = true then
      if (0 ≤ i) then
        (a[i.toNat]?).bind fun x3 =>
          if (0 ≤ i) then
            (b[i.toNat]?).bind fun x4 =>
              if (!(x3 == x4)) = true then
                some (.inr (.inl false))
              else
                some (.inl (IntKind.i64.wrap (i + (1 : Int))))
          else none
      else none
    else
      some (.inr (.inr ()))
noncomputable def sameStrings (a : (List Str)) (b : (List Str)) : Option (Bool) :=
  if ((a.length : Int) != (b.length : Int)) = true then
    some false
  else
    (loopO (sameStrings_b1 a b) (0 : Int)).bind fun e => match e with
      | (.inl rv) =>
        some rv
      | (.inr ()) =>
        sameStrings_j1

noncomputable def refPrefix (code : Str) (p : Str) : Option (Bool) :=
  if (decide ((p.length : Int) ≤ (code.length : Int))) = true → (0 ≤ (0 : Int) ∧ (0 : Int) ≤ (p.length : Int) ∧ (p.length : Int) ≤ (code.length : Int)) then
    some (bif (decide ((p.length : Int) ≤ (code.length : Int))) then (((code.take (p.length : Int).toNat).drop (0 : Int).toNat) == p) else false)
  else none

noncomputable def refAt_j1 (out : (List ApiCodeEntry)) : Option ((List ApiCodeEntry)) :=
  some out
noncomputable def refAt_j2 (b : ApiNomenclature) (day : Int) (i2 : Int) (out6 : (List ApiCodeEntry)) : Option ((Int × (List ApiCodeEntry)) ⊕ ((List ApiCodeEntry))) :=
  some (.inl ((IntKind.i64.wrap (i2 + (1 : Int))), out6))
noncomputable def refAt_b1 (b : ApiNomenclature) (day : Int) : (Int × (List ApiCodeEntry)) → Option ((Int × (List ApiCodeEntry)) ⊕ ((List ApiCodeEntry)))
  | (i2, out3) =>
    if (decide (i2 < (b.Entries.length : Int))) = true then
      if (0 ≤ i2) then
        (b.Entries[i2.toNat]?).bind fun x5 =>
          if ((decide (x5.From ≤ day)) = true → (0 ≤ i2 ∧ i2 < (b.Entries.length : Int))) then
            if (bif (decide (x5.From ≤ day)) then (decide (day < ((b.Entries.getD i2.toNat default).To))) else false) = true then
              if (0 ≤ i2) then
                (b.Entries[i2.toNat]?).bind fun x6 =>
                  if (out3.length + [x6].length ≤ 137438953472) then
                    refAt_j2 b day i2 (out3 ++ [x6])
                  else none
              else none
            else
              refAt_j2 b day i2 out3
          else none
      else none
    else
      some (.inr out3)
noncomputable def refAt (b : ApiNomenclature) (day : Int) : Option ((List ApiCodeEntry)) :=
  (loopO (refAt_b1 b day) ((0 : Int), [])).bind fun e => match e with
    | out5 =>
      refAt_j1 out5

noncomputable def refBelow_j1 (out : (List ApiCodeEntry)) : Option ((List ApiCodeEntry)) :=
  some out
noncomputable def refBelow_j2 (code : Str) (v : (List ApiCodeEntry)) (i2 : Int) (out6 : (List ApiCodeEntry)) : Option ((Int × (List ApiCodeEntry)) ⊕ ((List ApiCodeEntry))) :=
  some (.inl ((IntKind.i64.wrap (i2 + (1 : Int))), out6))
noncomputable def refBelow_b1 (code : Str) (v : (List ApiCodeEntry)) : (Int × (List ApiCodeEntry)) → Option ((Int × (List ApiCodeEntry)) ⊕ ((List ApiCodeEntry)))
  | (i2, out3) =>
    if (decide (i2 < (v.length : Int))) = true then
      if (0 ≤ i2) then
        (v[i2.toNat]?).bind fun x5 =>
          if (((!(bif (code == ([] : Str)) then ((x5.Code.length : Int) == (4 : Int)) else false)) && (bif (!(code == ([] : Str))) then ((x5.Code.length : Int) == (IntKind.i64.wrap ((code.length : Int) + (2 : Int)))) else false)) = true → (0 ≤ i2 ∧ i2 < (v.length : Int))) then
            (if ((!(bif (code == ([] : Str)) then ((x5.Code.length : Int) == (4 : Int)) else false)) && (bif (!(code == ([] : Str))) then ((x5.Code.length : Int) == (IntKind.i64.wrap ((code.length : Int) + (2 : Int)))) else false)) = true then refPrefix ((v.getD i2.toNat default).Code) code else some default).bind fun v4 =>
              if (bif (bif (code == ([] : Str)) then ((x5.Code.length : Int) == (4 : Int)) else false) then true else (bif (bif (!(code == ([] : Str))) then ((x5.Code.length : Int) == (IntKind.i64.wrap ((code.length : Int) + (2 : Int)))) else false) then v4 else false)) = true then
                if (0 ≤ i2) then
                  (v[i2.toNat]?).bind fun x6 =>
                    if (out3.length + [x6].length ≤ 137438953472) then
                      refBelow_j2 code v i2 (out3 ++ [x6])
                    else none
                else none
              else
                refBelow_j2 code v i2 out3
          else none
      else none
    else
      some (.inr out3)
noncomputable def refBelow (b : ApiNomenclature) (day : Int) (code : Str) : Option ((List ApiCodeEntry)) :=
  (refAt b day).bind fun v =>
    (loopO (refBelow_b1 code v) ((0 : Int), [])).bind fun e => match e with
      | out5 =>
        refBelow_j1 out5

noncomputable def refExcluded_j1  : Option (Bool) :=
  some false
noncomputable def refExcluded_b1 (b : ApiNomenclature) (code : Str) (words : (List Str)) : (Int) → Option ((Int) ⊕ ((Bool) ⊕ (Unit)))
  | i =>
    if (decide (i < (b.Notes.length : Int))) = true then
      if (0 ≤ i) then
        (b.Notes[i.toNat]?).bind fun x2 =>
          (refPrefix code x2.Scope).bind fun v3 =>
            if (v3 = true → (0 ≤ i ∧ i < (b.Notes.length : Int))) then
              (if v3 = true then refSubset ((b.Notes.getD i.toNat default).Words) words else some default).bind fun v4 =>
                if (bif v3 then v4 else false) = true then
                  some (.inr (.inl true))
                else
                  some (.inl (IntKind.i64.wrap (i + (1 : Int))))
            else none
      else none
    else
      some (.inr (.inr ()))
noncomputable def refExcluded (b : ApiNomenclature) (code : Str) (words : (List Str)) : Option (Bool) :=
  (loopO (refExcluded_b1 b code words) (0 : Int)).bind fun e => match e with
    | (.inl rv) =>
      some rv
    | (.inr ()) =>
      refExcluded_j1

noncomputable def refAlts_j1 (out : (List (List Str))) : Option ((List (List Str))) :=
  some out
noncomputable def refAlts_j2 (b : ApiNomenclature) (x : ApiCodeEntry) (i : Int) (out6 : (List (List Str))) : Option ((Int × (List (List Str))) ⊕ ((List (List Str)))) :=
  some (.inl ((IntKind.i64.wrap (i + (1 : Int))), out6))
noncomputable def refAlts_b1 (b : ApiNomenclature) (x : ApiCodeEntry) : (Int × (List (List Str))) → Option ((Int × (List (List Str))) ⊕ ((List (List Str))))
  | (i, out2) =>
    if (decide (i < (b.Notes.length : Int))) = true then
      if (0 ≤ i) then
        (b.Notes[i.toNat]?).bind fun x4 =>
          if (x4.Target == x.Code) = true then
            if (0 ≤ i) then
              (b.Notes[i.toNat]?).bind fun x5 =>
                if (out2.length + [x5.Words].length ≤ 137438953472) then
                  refAlts_j2 b x i (out2 ++ [x5.Words])
                else none
            else none
          else
            refAlts_j2 b x i out2
      else none
    else
      some (.inr out2)
noncomputable def refAlts (b : ApiNomenclature) (x : ApiCodeEntry) : Option ((List (List Str))) :=
  if (0 + x.Terms.length ≤ 137438953472) then
    (loopO (refAlts_b1 b x) ((0 : Int), x.Terms)).bind fun e => match e with
      | out5 =>
        refAlts_j1 out5
  else none

noncomputable def refScore_j1 (n1 : Int) : Option (Int) :=
  some n1
noncomputable def refScore_j2 (words : (List Str)) (v2 : (List (List Str))) (i : Int) (n16 : Int) : Option ((Int × Int) ⊕ (Int)) :=
  some (.inl ((IntKind.i64.wrap (i + (1 : Int))), n16))
noncomputable def refScore_b1 (words : (List Str)) (v2 : (List (List Str))) : (Int × Int) → Option ((Int × Int) ⊕ (Int))
  | (i, n12) =>
    if (decide (i < (v2.length : Int))) = true then
      if (0 ≤ i) then
        (v2[i.toNat]?).bind fun x4 =>
          (refSubset x4 words).bind fun v4 =>
            if v4 = true then
              if (0 ≤ i) then
                (v2[i.toNat]?).bind fun x5 =>
                  refScore_j2 words v2 i (if (x5.length : Int) > n12 then (x5.length : Int) else n12)
              else none
            else
              refScore_j2 words v2 i n12
      else none
    else
      some (.inr n12)
noncomputable def refScore (b : ApiNomenclature) (x : ApiCodeEntry) (words : (List Str)) : Option (Int) :=
  (refExcluded b x.Code words).bind fun v =>
    if v = true then
      some (0 : Int)
    else
      (refAlts b x).bind fun v2 =>
        (loopO (refScore_b1 words v2) ((0 : Int), (0 : Int))).bind fun e => match e with
          | n15 =>
            refScore_j1 n15

noncomputable def sameEntries_j1  : Option (Bool) :=
  some true
noncomputable def sameEntries_j2 (a : (List ApiCodeEntry)) (b : (List ApiCodeEntry)) (i : Int) : Option ((Int) ⊕ ((Bool) ⊕ (Unit))) :=
  some (.inl (IntKind.i64.wrap (i + (1 : Int))))
noncomputable def sameEntries_b2 (a : (List ApiCodeEntry)) (b : (List ApiCodeEntry)) (i : Int) : (Int) → Option ((Int) ⊕ ((Bool) ⊕ (Unit)))
  | k3 =>
    if (0 ≤ i) then
      (a[i.toNat]?).bind fun x20 =>
        if (decide (k3 < (x20.Terms.length : Int))) = true then
          if (0 ≤ i) then
            (a[i.toNat]?).bind fun x21 =>
              if (0 ≤ k3) then
                (x21.Terms[k3.toNat]?).bind fun x22 =>
                  if (0 ≤ i) then
                    (b[i.toNat]?).bind fun x23 =>
                      if (0 ≤ k3) then
                        (x23.Terms[k3.toNat]?).bind fun x24 =>
                          (sameStrings x22 x24).bind fun v4 =>
                            if (!v4) = true then
                              some (.inr (.inl false))
                            else
                              some (.inl (IntKind.i64.wrap (k3 + (1 : Int))))
                      else none
                  else none
              else none
          else none
        else
          some (.inr (.inr ()))
    else none
noncomputable def sameEntries_b1 (a : (List ApiCodeEntry)) (b : (List ApiCodeEntry)) : (Int) → Option ((Int) ⊕ ((Bool) ⊕ (Unit)))
  | i =>
    if (decide (i < (a.length : Int))) = true then
      if (0 ≤ i) then
        (a[i.toNat]?).bind fun x13 =>
          if (0 ≤ i) then
            (b[i.toNat]?).bind fun x14 =>
              if ((!(!(x13.Code == x14.Code))) = true → (0 ≤ i ∧ i < (a.length : Int))) then
                if ((!(!(x13.Code == x14.Code))) = true → (0 ≤ i ∧ i < (b.length : Int))) then
                  if ((!(bif (!(x13.Code == x14.Code)) then true else (((a.getD i.toNat default).From) != ((b.getD i.toNat default).From)))) = true → (0 ≤ i ∧ i < (a.length : Int))) then
                    if ((!(bif (!(x13.Code == x14.Code)) then true else (((a.getD i.toNat default).From) != ((b.getD i.toNat default).From)))) = true → (0 ≤ i ∧ i < (b.length : Int))) then
                      if ((!(bif (bif (!(x13.Code == x14.Code)) then true else (((a.getD i.toNat default).From) != ((b.getD i.toNat default).From))) then true else (((a.getD i.toNat default).To) != ((b.getD i.toNat default).To)))) = true → (0 ≤ i ∧ i < (a.length : Int))) then
                        if ((!(bif (bif (!(x13.Code == x14.Code)) then true else (((a.getD i.toNat default).From) != ((b.getD i.toNat default).From))) then true else (((a.getD i.toNat default).To) != ((b.getD i.toNat default).To)))) = true → (0 ≤ i ∧ i < (b.length : Int))) then
                          if ((!(bif (bif (bif (!(x13.Code == x14.Code)) then true else (((a.getD i.toNat default).From) != ((b.getD i.toNat default).From))) then true else (((a.getD i.toNat default).To) != ((b.getD i.toNat default).To))) then true else (!(((a.getD i.toNat default).Other) == ((b.getD i.toNat default).Other))))) = true → (0 ≤ i ∧ i < (a.length : Int))) then
                            if ((!(bif (bif (bif (!(x13.Code == x14.Code)) then true else (((a.getD i.toNat default).From) != ((b.getD i.toNat default).From))) then true else (((a.getD i.toNat default).To) != ((b.getD i.toNat default).To))) then true else (!(((a.getD i.toNat default).Other) == ((b.getD i.toNat default).Other))))) = true → (0 ≤ i ∧ i < (b.length : Int))) then
                              if (bif (bif (bif (bif (!(x13.Code == x14.Code)) then true else (((a.getD i.toNat default).From) != ((b.getD i.toNat default).From))) then true else (((a.getD i.toNat default).To) != ((b.getD i.toNat default).To))) then true else (!(((a.getD i.toNat default).Other) == ((b.getD i.toNat default).Other)))) then true else ((((a.getD i.toNat default).Terms).length : Int) != (((b.getD i.toNat default).Terms).length : Int))) = true then
                                some (.inr (.inl false))
                              else
                                (loopO (sameEntries_b2 a b i) (0 : Int)).bind fun e => match e with
                                  | (.inl rv) =>
                                    some (.inr (.inl rv))
                                  | (.inr ()) =>
                                    sameEntries_j2 a b i
                            else none
                          else none
                        else none
                      else none
                    else none
                  else none
                else none
              else none
          else none
      else none
    else
      some (.inr (.inr ()))
noncomputable def sameEntries (a : (List ApiCodeEntry)) (b : (List ApiCodeEntry)) : Option (Bool) :=
  if ((a.length : Int) != (b.length : Int)) = true then
    some false
  else
    (loopO (sameEntries_b1 a b) (0 : Int)).bind fun e => match e with
      | (.inl rv) =>
        some rv
      | (.inr ()) =>
        sameEntries_j1

end Go.C
