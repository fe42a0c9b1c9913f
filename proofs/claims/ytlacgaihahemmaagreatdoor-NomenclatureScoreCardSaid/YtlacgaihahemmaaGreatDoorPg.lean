/- Plain functions, read off the program by program (gen.py): no program in sight. -/
import Derived.Test.YtlacgaihahemmaaGreatDoorPl
import Derived.Test.YtlacgaihahemmaaGreatDoorPa
import Derived.Test.YtlacgaihahemmaaGreatDoorPb
import Derived.Test.YtlacgaihahemmaaGreatDoorPc
import Derived.Test.YtlacgaihahemmaaGreatDoorPd
import Derived.Test.YtlacgaihahemmaaGreatDoorPe
set_option linter.unusedVariables false
namespace Go.C
open Go.V

noncomputable def refHas_j1  : Option (Bool) :=
  some false
noncomputable def refHas_b1 (l : (List Str)) (s : Str) : (Int) → Option ((Int) ⊕ ((Bool) ⊕ (Unit)))
  | i =>
    if (decide (i < (l.length : Int))) = true then
      if (0 ≤ i) then
        (l[i.toNat]?).bind fun x2 =>
          if (x2 == s) = true then
            some (.inr (.inl true))
          else
            some (.inl (IntKind.i64.wrap (i + (1 : Int))))
      else none
    else
      some (.inr (.inr ()))
noncomputable def refHas (l : (List Str)) (s : Str) : Option (Bool) :=
  (loopO (refHas_b1 l s) (0 : Int)).bind fun e => match e with
    | (.inl rv) =>
      some rv
    | (.inr ()) =>
      refHas_j1

noncomputable def refSubset_j1  : Option (Bool) :=
  some true
noncomputable def refSubset_b1 (a : (List Str)) (b : (List Str)) : (Int) → Option ((Int) ⊕ ((Bool) ⊕ (Unit)))
  | i =>
    if (decide (i < (a.length : Int))) = true then
      if (0 ≤ i) then
        (a[i.toNat]?).bind fun x2 =>
          (refHas b x2).bind fun v2 =>
            if (!v2) = true then
              some (.inr (.inl false))
            else
              some (.inl (IntKind.i64.wrap (i + (1 : Int))))
      else none
    else
      some (.inr (.inr ()))
noncomputable def refSubset (a : (List Str)) (b : (List Str)) : Option (Bool) :=
  (loopO (refSubset_b1 a b) (0 : Int)).bind fun e => match e with
    | (.inl rv) =>
      some rv
    | (.inr ()) =>
      refSubset_j1

noncomputable def refWith_j1 (l : (List Str)) (s : Str) (k : Int) : Option ((List Str)) :=
  if ((decide (k < (l.length : Int))) = true → (0 ≤ k ∧ k < (l.length : Int))) then
    if (bif (decide (k < (l.length : Int))) then ((l.getD k.toNat default) == s) else false) = true then
      some l
    else
      if (0 ≤ (0 : Int) ∧ (0 : Int) ≤ k ∧ k ≤ (l.length : Int)) then
        if (0 + ((l.take k.toNat).drop (0 : Int).toNat).length ≤ 137438953472) then
          if (((l.take k.toNat).drop (0 : Int).toNat).length + [s].length ≤ 137438953472) then
            if (0 ≤ k ∧ k ≤ (l.length : Int)) then
              if ((((l.take k.toNat).drop (0 : Int).toNat) ++ [s]).length + (l.drop k.toNat).length ≤ 137438953472) then
                some ((((l.take k.toNat).drop (0 : Int).toNat) ++ [s]) ++ (l.drop k.toNat))
              else none
            else none
          else none
        else none
      else none
  else none
noncomputable def refWith_b1 (l : (List Str)) (s : Str) : (Int) → Option ((Int) ⊕ (Int))
  | k2 =>
    if ((decide (k2 < (l.length : Int))) = true → (0 ≤ k2 ∧ k2 < (l.length : Int))) then
      if (bif (decide (k2 < (l.length : Int))) then (Op.bytesLess (l.getD k2.toNat default) s) else false) = true then
        some (.inl (IntKind.i64.wrap (k2 + (1 : Int))))
      else
        some (.inr k2)
    else none
noncomputable def refWith (l : (List Str)) (s : Str) : Option ((List Str)) :=
  (loopO (refWith_b1 l s) (0 : Int)).bind fun e => match e with
    | k4 =>
      refWith_j1 l s k4

noncomputable def refUnion_j2 (out2 : (List Str)) : Option ((List Str)) :=
  some out2
noncomputable def refUnion_b1 (b : (List Str)) : (Int × (List Str)) → Option ((Int × (List Str)) ⊕ ((List Str)))
  | (i, out3) =>
    if (decide (i < (b.length : Int))) = true then
      if (0 ≤ i) then
        (b[i.toNat]?).bind fun x2 =>
          (refWith out3 x2).bind fun v2 =>
            some (.inl ((IntKind.i64.wrap (i + (1 : Int))), v2))
      else none
    else
      some (.inr out3)
noncomputable def refUnion_j1 (b : (List Str)) (out : (List Str)) : Option ((List Str)) :=
  (loopO (refUnion_b1 b) ((0 : Int), out)).bind fun e => match e with
    | out5 =>
      refUnion_j2 out5
noncomputable def refUnion_b2 (a : (List Str)) (b : (List Str)) : (Int × (List Str)) → Option ((Int × (List Str)) ⊕ ((List Str)))
  | (i4, out6) =>
    if (decide (i4 < (a.length : Int))) = true then
      if (0 ≤ i4) then
        (a[i4.toNat]?).bind fun x5 =>
          (refWith out6 x5).bind fun v5 =>
            some (.inl ((IntKind.i64.wrap (i4 + (1 : Int))), v5))
      else none
    else
      some (.inr out6)
noncomputable def refUnion (a : (List Str)) (b : (List Str)) : Option ((List Str)) :=
  (loopO (refUnion_b2 a b) ((0 : Int), [])).bind fun e => match e with
    | out7 =>
      refUnion_j1 b out7

noncomputable def sameStrings_j1  : Option (Bool) :=
  some true
noncomputable def sameStrings_b1 (a : (List Str)) (b : (List Str)) : (Int) → Option ((Int) ⊕ ((Bool) ⊕ (Unit)))
  | i =>
    if (decide (i < (a.length : Int))) = true then
      if (0 ≤ i) then
        (a[i.toNat]?).bind fun x3 =>
          if (0 ≤ i) then
            (b[i.toNat]?).bind fun x4 =>
              if (!(x3 == x4)) = true then
                some (.inr (.inl false))
              else
                some (.inl (IntKind.i64.wrap (i + (1 : Int))))
          else none
      else none
    else
      some (.inr (.inr ()))
noncomputable def sameStrings (a : (List Str)) (b : (List Str)) : Option (Bool) :=
  if ((a.length : Int) != (b.length : Int)) = true then
    some false
  else
    (loopO (sameStrings_b1 a b) (0 : Int)).bind fun e => match e with
      | (.inl rv) =>
        some rv
      | (.inr ()) =>
        sameStrings_j1

noncomputable def refPrefix (code : Str) (p : Str) : Option (Bool) :=
  if (decide ((p.length : Int) ≤ (code.length : Int))) = true → (0 ≤ (0 : Int) ∧ (0 : Int) ≤ (p.length : Int) ∧ (p.length : Int) ≤ (code.length : Int)) then
    some (bif (decide ((p.length : Int) ≤ (code.length : Int))) then (((code.take (p.length : Int).toNat).drop (0 : Int).toNat) == p) else false)
  else none

noncomputable def refAt_j1 (out : (List ApiCodeEntry)) : Option ((List ApiCodeEntry)) :=
  some out
noncomputable def refAt_j2 (b : ApiNomenclature) (day : Int) (i2 : Int) (out6 : (List ApiCodeEntry)) : Option ((Int × (List ApiCodeEntry)) ⊕ ((List ApiCodeEntry))) :=
  some (.inl ((IntKind.i64.wrap (i2 + (1 : Int))), out6))
noncomputable def refAt_b1 (b : ApiNomenclature) (day : Int) : (Int × (List ApiCodeEntry)) → Option ((Int × (List ApiCodeEntry)) ⊕ ((List ApiCodeEntry)))
  | (i2, out3) =>
    if (decide (i2 < (b.Entries.length : Int))) = true then
      if (0 ≤ i2) then
        (b.Entries[i2.toNat]?).bind fun x5 =>
          if ((decide (x5.From ≤ day)) = true → (0 ≤ i2 ∧ i2 < (b.Entries.length : Int))) then
            if (bif (decide (x5.From ≤ day)) then (decide (day < ((b.Entries.getD i2.toNat default).To))) else false) = true then
              if (0 ≤ i2) then
                (b.Entries[i2.toNat]?).bind fun x6 =>
                  if (out3.length + [x6].length ≤ 137438953472) then
                    refAt_j2 b day i2 (out3 ++ [x6])
                  else none
              else none
            else
              refAt_j2 b day i2 out3
          else none
      else none
    else
      some (.inr out3)
noncomputable def refAt (b : ApiNomenclature) (day : Int) : Option ((List ApiCodeEntry)) :=
  (loopO (refAt_b1 b day) ((0 : Int), [])).bind fun e => match e with
    | out5 =>
      refAt_j1 out5

noncomputable def refBelow_j1 (out : (List ApiCodeEntry)) : Option ((List ApiCodeEntry)) :=
  some out
noncomputable def refBelow_j2 (code : Str) (v : (List ApiCodeEntry)) (i2 : Int) (out6 : (List ApiCodeEntry)) : Option ((Int × (List ApiCodeEntry)) ⊕ ((List ApiCodeEntry))) :=
  some (.inl ((IntKind.i64.wrap (i2 + (1 : Int))), out6))
noncomputable def refBelow_b1 (code : Str) (v : (List ApiCodeEntry)) : (Int × (List ApiCodeEntry)) → Option ((Int × (List ApiCodeEntry)) ⊕ ((List ApiCodeEntry)))
  | (i2, out3) =>
    if (decide (i2 < (v.length : Int))) = true then
      if (0 ≤ i2) then
        (v[i2.toNat]?).bind fun x5 =>
          if (((!(bif (code == ([] : Str)) then ((x5.Code.length : Int) == (4 : Int)) else false)) && (bif (!(code == ([] : Str))) then ((x5.Code.length : Int) == (IntKind.i64.wrap ((code.length : Int) + (2 : Int)))) else false)) = true → (0 ≤ i2 ∧ i2 < (v.length : Int))) then
            (if ((!(bif (code == ([] : Str)) then ((x5.Code.length : Int) == (4 : Int)) else false)) && (bif (!(code == ([] : Str))) then ((x5.Code.length : Int) == (IntKind.i64.wrap ((code.length : Int) + (2 : Int)))) else false)) = true then refPrefix ((v.getD i2.toNat default).Code) code else some default).bind fun v4 =>
              if (bif (bif (code == ([] : Str)) then ((x5.Code.length : Int) == (4 : Int)) else false) then true else (bif (bif (!(code == ([] : Str))) then ((x5.Code.length : Int) == (IntKind.i64.wrap ((code.length : Int) + (2 : Int)))) else false) then v4 else false)) = true then
                if (0 ≤ i2) then
                  (v[i2.toNat]?).bind fun x6 =>
                    if (out3.length + [x6].length ≤ 137438953472) then
                      refBelow_j2 code v i2 (out3 ++ [x6])
                    else none
                else none
              else
                refBelow_j2 code v i2 out3
          else none
      else none
    else
      some (.inr out3)
noncomputable def refBelow (b : ApiNomenclature) (day : Int) (code : Str) : Option ((List ApiCodeEntry)) :=
  (refAt b day).bind fun v =>
    (loopO (refBelow_b1 code v) ((0 : Int), [])).bind fun e => match e with
      | out5 =>
        refBelow_j1 out5

noncomputable def refFind_j1  : Option (ApiCodeEntry × Bool) :=
  some ((⟨[], 0, 0, [], false⟩ : ApiCodeEntry), false)
noncomputable def refFind_b1 (code : Str) (v : (List ApiCodeEntry)) : (Int) → Option ((Int) ⊕ ((ApiCodeEntry × Bool) ⊕ (Unit)))
  | i =>
    if (decide (i < (v.length : Int))) = true then
      if (0 ≤ i) then
        (v[i.toNat]?).bind fun x3 =>
          if (x3.Code == code) = true then
            if (0 ≤ i) then
              (v[i.toNat]?).bind fun x4 =>
                some (.inr (.inl (x4, true)))
            else none
          else
            some (.inl (IntKind.i64.wrap (i + (1 : Int))))
      else none
    else
      some (.inr (.inr ()))
noncomputable def refFind (b : ApiNomenclature) (day : Int) (code : Str) : Option (ApiCodeEntry × Bool) :=
  (refAt b day).bind fun v =>
    (loopO (refFind_b1 code v) (0 : Int)).bind fun e => match e with
      | (.inl rv) =>
        some rv
      | (.inr ()) =>
        refFind_j1

noncomputable def refExcluded_j1  : Option (Bool) :=
  some false
noncomputable def refExcluded_b1 (b : ApiNomenclature) (code : Str) (words : (List Str)) : (Int) → Option ((Int) ⊕ ((Bool) ⊕ (Unit)))
  | i =>
    if (decide (i < (b.Notes.length : Int))) = true then
      if (0 ≤ i) then
        (b.Notes[i.toNat]?).bind fun x2 =>
          (refPrefix code x2.Scope).bind fun v3 =>
            if (v3 = true → (0 ≤ i ∧ i < (b.Notes.length : Int))) then
              (if v3 = true then refSubset ((b.Notes.getD i.toNat default).Words) words else some default).bind fun v4 =>
                if (bif v3 then v4 else false) = true then
                  some (.inr (.inl true))
                else
                  some (.inl (IntKind.i64.wrap (i + (1 : Int))))
            else none
      else none
    else
      some (.inr (.inr ()))
noncomputable def refExcluded (b : ApiNomenclature) (code : Str) (words : (List Str)) : Option (Bool) :=
  (loopO (refExcluded_b1 b code words) (0 : Int)).bind fun e => match e with
    | (.inl rv) =>
      some rv
    | (.inr ()) =>
      refExcluded_j1

noncomputable def refAlts_j1 (out : (List (List Str))) : Option ((List (List Str))) :=
  some out
noncomputable def refAlts_j2 (b : ApiNomenclature) (x : ApiCodeEntry) (i : Int) (out6 : (List (List Str))) : Option ((Int × (List (List Str))) ⊕ ((List (List Str)))) :=
  some (.inl ((IntKind.i64.wrap (i + (1 : Int))), out6))
noncomputable def refAlts_b1 (b : ApiNomenclature) (x : ApiCodeEntry) : (Int × (List (List Str))) → Option ((Int × (List (List Str))) ⊕ ((List (List Str))))
  | (i, out2) =>
    if (decide (i < (b.Notes.length : Int))) = true then
      if (0 ≤ i) then
        (b.Notes[i.toNat]?).bind fun x4 =>
          if (x4.Target == x.Code) = true then
            if (0 ≤ i) then
              (b.Notes[i.toNat]?).bind fun x5 =>
                if (out2.length + [x5.Words].length ≤ 137438953472) then
                  refAlts_j2 b x i (out2 ++ [x5.Words])
                else none
            else none
          else
            refAlts_j2 b x i out2
      else none
    else
      some (.inr out2)
noncomputable def refAlts (b : ApiNomenclature) (x : ApiCodeEntry) : Option ((List (List Str))) :=
  if (0 + x.Terms.length ≤ 137438953472) then
    (loopO (refAlts_b1 b x) ((0 : Int), x.Terms)).bind fun e => match e with
      | out5 =>
        refAlts_j1 out5
  else none

noncomputable def refScore_j1 (n1 : Int) : Option (Int) :=
  some n1
noncomputable def refScore_j2 (words : (List Str)) (v2 : (List (List Str))) (i : Int) (n16 : Int) : Option ((Int × Int) ⊕ (Int)) :=
  some (.inl ((IntKind.i64.wrap (i + (1 : Int))), n16))
noncomputable def refScore_b1 (words : (List Str)) (v2 : (List (List Str))) : (Int × Int) → Option ((Int × Int) ⊕ (Int))
  | (i, n12) =>
    if (decide (i < (v2.length : Int))) = true then
      if (0 ≤ i) then
        (v2[i.toNat]?).bind fun x4 =>
          (refSubset x4 words).bind fun v4 =>
            if v4 = true then
              if (0 ≤ i) then
                (v2[i.toNat]?).bind fun x5 =>
                  refScore_j2 words v2 i (if (x5.length : Int) > n12 then (x5.length : Int) else n12)
              else none
            else
              refScore_j2 words v2 i n12
      else none
    else
      some (.inr n12)
noncomputable def refScore (b : ApiNomenclature) (x : ApiCodeEntry) (words : (List Str)) : Option (Int) :=
  (refExcluded b x.Code words).bind fun v =>
    if v = true then
      some (0 : Int)
    else
      (refAlts b x).bind fun v2 =>
        (loopO (refScore_b1 words v2) ((0 : Int), (0 : Int))).bind fun e => match e with
          | n15 =>
            refScore_j1 n15

noncomputable def sameEntries_j1  : Option (Bool) :=
  some true
noncomputable def sameEntries_j2 (a : (List ApiCodeEntry)) (b : (List ApiCodeEntry)) (i : Int) : Option ((Int) ⊕ ((Bool) ⊕ (Unit))) :=
  some (.inl (IntKind.i64.wrap (i + (1 : Int))))
noncomputable def sameEntries_b2 (a : (List ApiCodeEntry)) (b : (List ApiCodeEntry)) (i : Int) : (Int) → Option ((Int) ⊕ ((Bool) ⊕ (Unit)))
  | k3 =>
    if (0 ≤ i) then
      (a[i.toNat]?).bind fun x20 =>
        if (decide (k3 < (x20.Terms.length : Int))) = true then
          if (0 ≤ i) then
            (a[i.toNat]?).bind fun x21 =>
              if (0 ≤ k3) then
                (x21.Terms[k3.toNat]?).bind fun x22 =>
                  if (0 ≤ i) then
                    (b[i.toNat]?).bind fun x23 =>
                      if (0 ≤ k3) then
                        (x23.Terms[k3.toNat]?).bind fun x24 =>
                          (sameStrings x22 x24).bind fun v4 =>
                            if (!v4) = true then
                              some (.inr (.inl false))
                            else
                              some (.inl (IntKind.i64.wrap (k3 + (1 : Int))))
                      else none
                  else none
              else none
          else none
        else
          some (.inr (.inr ()))
    else none
noncomputable def sameEntries_b1 (a : (List ApiCodeEntry)) (b : (List ApiCodeEntry)) : (Int) → Option ((Int) ⊕ ((Bool) ⊕ (Unit)))
  | i =>
    if (decide (i < (a.length : Int))) = true then
      if (0 ≤ i) then
        (a[i.toNat]?).bind fun x13 =>
          if (0 ≤ i) then
            (b[i.toNat]?).bind fun x14 =>
              if ((!(!(x13.Code == x14.Code))) = true → (0 ≤ i ∧ i < (a.length : Int))) then
                if ((!(!(x13.Code == x14.Code))) = true → (0 ≤ i ∧ i < (b.length : Int))) then
                  if ((!(bif (!(x13.Code == x14.Code)) then true else (((a.getD i.toNat default).From) != ((b.getD i.toNat default).From)))) = true → (0 ≤ i ∧ i < (a.length : Int))) then
                    if ((!(bif (!(x13.Code == x14.Code)) then true else (((a.getD i.toNat default).From) != ((b.getD i.toNat default).From)))) = true → (0 ≤ i ∧ i < (b.length : Int))) then
                      if ((!(bif (bif (!(x13.Code == x14.Code)) then true else (((a.getD i.toNat default).From) != ((b.getD i.toNat default).From))) then true else (((a.getD i.toNat default).To) != ((b.getD i.toNat default).To)))) = true → (0 ≤ i ∧ i < (a.length : Int))) then
                        if ((!(bif (bif (!(x13.Code == x14.Code)) then true else (((a.getD i.toNat default).From) != ((b.getD i.toNat default).From))) then true else (((a.getD i.toNat default).To) != ((b.getD i.toNat default).To)))) = true → (0 ≤ i ∧ i < (b.length : Int))) then
                          if ((!(bif (bif (bif (!(x13.Code == x14.Code)) then true else (((a.getD i.toNat default).From) != ((b.getD i.toNat default).From))) then true else (((a.getD i.toNat default).To) != ((b.getD i.toNat default).To))) then true else (!(((a.getD i.toNat default).Other) == ((b.getD i.toNat default).Other))))) = true → (0 ≤ i ∧ i < (a.length : Int))) then
                            if ((!(bif (bif (bif (!(x13.Code == x14.Code)) then true else (((a.getD i.toNat default).From) != ((b.getD i.toNat default).From))) then true else (((a.getD i.toNat default).To) != ((b.getD i.toNat default).To))) then true else (!(((a.getD i.toNat default).Other) == ((b.getD i.toNat default).Other))))) = true → (0 ≤ i ∧ i < (b.length : Int))) then
                              if (bif (bif (bif (bif (!(x13.Code == x14.Code)) then true else (((a.getD i.toNat default).From) != ((b.getD i.toNat default).From))) then true else (((a.getD i.toNat default).To) != ((b.getD i.toNat default).To))) then true else (!(((a.getD i.toNat default).Other) == ((b.getD i.toNat default).Other)))) then true else ((((a.getD i.toNat default).Terms).length : Int) != (((b.getD i.toNat default).Terms).length : Int))) = true then
                                some (.inr (.inl false))
                              else
                                (loopO (sameEntries_b2 a b i) (0 : Int)).bind fun e => match e with
                                  | (.inl rv) =>
                                    some (.inr (.inl rv))
                                  | (.inr ()) =>
                                    sameEntries_j2 a b i
                            else none
                          else none
                        else none
                      else none
                    else none
                  else none
                else none
              else none
          else none
      else none
    else
      some (.inr (.inr ()))
noncomputable def sameEntries (a : (List ApiCodeEntry)) (b : (List ApiCodeEntry)) : Option (Bool) :=
  if ((a.length : Int) != (b.length : Int)) = true then
    some false
  else
    (loopO (sameEntries_b1 a b) (0 : Int)).bind fun e => match e with
      | (.inl rv) =>
        some rv
      | (.inr ()) =>
        sameEntries_j1

noncomputable def lawDays_j1 (v : ApiNomenclature) (code2 : Str) (day2 : Int) : Option (Bool) :=
  (nomFind v day2 code2).bind fun v2 =>
    (refFind v day2 code2).bind fun v3 =>
      (if (!(!(v2.2 == v3.2))) = true then sameEntries [v2.1] [v3.1] else some default).bind fun v4 =>
        (if (!(bif (!(v2.2 == v3.2)) then true else (!v4))) = true then nomAt v day2 else some default).bind fun v5 =>
          (if (!(bif (!(v2.2 == v3.2)) then true else (!v4))) = true then refAt v day2 else some default).bind fun v6 =>
            (if (!(bif (!(v2.2 == v3.2)) then true else (!v4))) = true then sameEntries v5 v6 else some default).bind fun v7 =>
              if (bif (bif (!(v2.2 == v3.2)) then true else (!v4)) then true else (!v7)) = true then
                some false
              else
                (nomBelow v day2 code2).bind fun v8 =>
                  (refBelow v day2 code2).bind fun v9 =>
                    (sameEntries v8 v9).bind fun v10 =>
                      (if v10 = true then nomBelow v day2 ([] : Str) else some default).bind fun v11 =>
                        (if v10 = true then refBelow v day2 ([] : Str) else some default).bind fun v12 =>
                          (if v10 = true then sameEntries v11 v12 else some default).bind fun v13 =>
                            (if (bif v10 then v13 else false) = true then awake09  else some default).bind fun v14 =>
                              some (bif (bif v10 then v13 else false) then v14 else false)
noncomputable def lawDays (l : (List Int)) (day : Int) (code : Str) (n1 : Int) (raw : Bool) : Option (Bool) :=
  (madeNom l).bind fun v =>
    if (!raw) = true then
      (within day (20 : Int)).bind fun v15 =>
        (within n1 (v.Entries.length : Int)).bind fun v16 =>
          if (0 ≤ v16) then
            (v.Entries[v16.toNat]?).bind fun x =>
              lawDays_j1 v x.Code v15
          else none
    else
      lawDays_j1 v code day

noncomputable def lawTree_j1  : Option (Bool) :=
  (awake09 ).bind fun v4 =>
    some v4
noncomputable def lawTree_j2 (v : ApiNomenclature) (v2 : Int) (v3 : (List ApiCodeEntry)) (i : Int) : Option ((Int) ⊕ ((Bool) ⊕ (Unit))) :=
  some (.inl (IntKind.i64.wrap (i + (1 : Int))))
noncomputable def lawTree_j3 (v : ApiNomenclature) (v2 : Int) (v3 : (List ApiCodeEntry)) (i : Int) (n17 : Int) : Option ((Int) ⊕ ((Bool) ⊕ (Unit))) :=
  if (n17 != (1 : Int)) = true then
    some (.inr (.inl false))
  else
    lawTree_j2 v v2 v3 i
noncomputable def lawTree_j4 (v : ApiNomenclature) (v2 : Int) (v3 : (List ApiCodeEntry)) (i : Int) (x4 : ApiCodeEntry) (v8 : (List ApiCodeEntry)) (k3 : Int) (n112 : Int) : Option ((Int × Int) ⊕ (Int)) :=
  some (.inl ((IntKind.i64.wrap (k3 + (1 : Int))), n112))
noncomputable def lawTree_b2 (v : ApiNomenclature) (v2 : Int) (v3 : (List ApiCodeEntry)) (i : Int) (x4 : ApiCodeEntry) (v8 : (List ApiCodeEntry)) : (Int × Int) → Option ((Int × Int) ⊕ (Int))
  | (k3, n18) =>
    if (decide (k3 < (v8.length : Int))) = true then
      if (0 ≤ k3) then
        (v8[k3.toNat]?).bind fun x6 =>
          if (x6.Code == x4.Code) = true then
            lawTree_j4 v v2 v3 i x4 v8 k3 (IntKind.i64.wrap (n18 + (1 : Int)))
          else
            lawTree_j4 v v2 v3 i x4 v8 k3 n18
      else none
    else
      some (.inr n18)
noncomputable def lawTree_b1 (v : ApiNomenclature) (v2 : Int) (v3 : (List ApiCodeEntry)) : (Int) → Option ((Int) ⊕ ((Bool) ⊕ (Unit)))
  | i =>
    if (decide (i < (v3.length : Int))) = true then
      if (0 ≤ i) then
        (v3[i.toNat]?).bind fun x4 =>
          if ((x4.Code.length : Int) == (2 : Int)) = true then
            lawTree_j2 v v2 v3 i
          else
            if (bif (decide ((8 : Int) < (x4.Code.length : Int))) then true else (decide ((x4.Code.length : Int) < (4 : Int)))) = true then
              some (.inr (.inl false))
            else
              if (0 ≤ (0 : Int) ∧ (0 : Int) ≤ (IntKind.i64.wrap ((x4.Code.length : Int) - (2 : Int))) ∧ (IntKind.i64.wrap ((x4.Code.length : Int) - (2 : Int))) ≤ (x4.Code.length : Int)) then
                (nomFind v v2 ((x4.Code.take (IntKind.i64.wrap ((x4.Code.length : Int) - (2 : Int))).toNat).drop (0 : Int).toNat)).bind fun v7 =>
                  if (!v7.2) = true then
                    some (.inr (.inl false))
                  else
                    if (0 ≤ (0 : Int) ∧ (0 : Int) ≤ (IntKind.i64.wrap ((x4.Code.length : Int) - (2 : Int))) ∧ (IntKind.i64.wrap ((x4.Code.length : Int) - (2 : Int))) ≤ (x4.Code.length : Int)) then
                      (nomBelow v v2 ((x4.Code.take (IntKind.i64.wrap ((x4.Code.length : Int) - (2 : Int))).toNat).drop (0 : Int).toNat)).bind fun v8 =>
                        (loopO (lawTree_b2 v v2 v3 i x4 v8) ((0 : Int), (0 : Int))).bind fun e => match e with
                          | n111 =>
                            lawTree_j3 v v2 v3 i n111
                    else none
              else none
      else none
    else
      some (.inr (.inr ()))
noncomputable def lawTree (l : (List Int)) (day : Int) : Option (Bool) :=
  (madeNom l).bind fun v =>
    (within day (20 : Int)).bind fun v2 =>
      (nomAt v v2).bind fun v3 =>
        (loopO (lawTree_b1 v v2 v3) (0 : Int)).bind fun e => match e with
          | (.inl rv) =>
            some rv
          | (.inr ()) =>
            lawTree_j1

noncomputable def lawScore_j1 (more : Bool) (v : ApiNomenclature) (v2 : ApiGood) (x : ApiCodeEntry) : Option (Bool) :=
  (refUnion v2.Words [([99, 104, 97, 105, 114] : Str), ([100, 101, 115, 107] : Str)]).bind fun v10 =>
    (if more = true then nomExcluded v x.Code v10 else some default).bind fun v11 =>
      (if (bif more then (!v11) else false) = true then nomScore v x v10 else some default).bind fun v12 =>
        (if (bif more then (!v11) else false) = true then nomScore v x v2.Words else some default).bind fun v13 =>
          if (bif (bif more then (!v11) else false) then (decide (v12 < v13)) else false) = true then
            some false
          else
            (nomExcluded v x.Code v2.Words).bind fun v14 =>
              (if (!(!v14)) = true then nomExcluded v x.Code v10 else some default).bind fun v15 =>
                (if (bif (!v14) then true else v15) = true then awake09  else some default).bind fun v16 =>
                  some (bif (bif (!v14) then true else v15) then v16 else false)
noncomputable def lawScore_b1 (more : Bool) (v : ApiNomenclature) (v2 : ApiGood) (x : ApiCodeEntry) (v4 : (List (List Str))) (v5 : (List (List Str))) : (Int) → Option ((Int) ⊕ ((Bool) ⊕ (Unit)))
  | i =>
    if (decide (i < (v4.length : Int))) = true then
      if (0 ≤ i) then
        (v4[i.toNat]?).bind fun x4 =>
          if (0 ≤ i) then
            (v5[i.toNat]?).bind fun x5 =>
              (sameStrings x4 x5).bind fun v18 =>
                if (!v18) = true then
                  some (.inr (.inl false))
                else
                  some (.inl (IntKind.i64.wrap (i + (1 : Int))))
          else none
      else none
    else
      some (.inr (.inr ()))
noncomputable def lawScore (l : (List Int)) (m1 : (List Int)) (at_ : Int) (more : Bool) : Option (Bool) :=
  (madeNom l).bind fun v =>
    (madeGood m1).bind fun v2 =>
      (within at_ (v.Entries.length : Int)).bind fun v3 =>
        if (0 ≤ v3) then
          (v.Entries[v3.toNat]?).bind fun x =>
            (nomAlts v x).bind fun v4 =>
              (refAlts v x).bind fun v5 =>
                (if (!((v4.length : Int) != (v5.length : Int))) = true then nomExcluded v x.Code v2.Words else some default).bind fun v6 =>
                  (if (!((v4.length : Int) != (v5.length : Int))) = true then refExcluded v x.Code v2.Words else some default).bind fun v7 =>
                    (if (!(bif ((v4.length : Int) != (v5.length : Int)) then true else (!(v6 == v7)))) = true then nomScore v x v2.Words else some default).bind fun v8 =>
                      (if (!(bif ((v4.length : Int) != (v5.length : Int)) then true else (!(v6 == v7)))) = true then refScore v x v2.Words else some default).bind fun v9 =>
                        if (bif (bif ((v4.length : Int) != (v5.length : Int)) then true else (!(v6 == v7))) then true else (v8 != v9)) = true then
                          some false
                        else
                          (loopO (lawScore_b1 more v v2 x v4 v5) (0 : Int)).bind fun e => match e with
                            | (.inl rv) =>
                              some rv
                            | (.inr ()) =>
                              lawScore_j1 more v v2 x
        else none

end Go.C
