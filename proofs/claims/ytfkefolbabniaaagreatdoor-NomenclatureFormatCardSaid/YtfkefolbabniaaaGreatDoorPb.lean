/- Plain functions, read off the program by program (gen.py): no program in sight. -/
import Derived.Test.YtfkefolbabniaaaGreatDoorPl
import Derived.Test.YtfkefolbabniaaaGreatDoorPa
set_option linter.unusedVariables false
namespace Go.C
open Go.V

noncomputable def isWord_j1  : Option (Bool) :=
  some true
noncomputable def isWord_b1 (s : Str) : (Nat) → Option ((Nat) ⊕ ((Bool) ⊕ (Unit)))
  | pos =>
    if pos < s.length then
      if (bif (decide ((runeI s pos) < (97 : Int))) then true else (decide ((122 : Int) < (runeI s pos)))) = true then
        some (.inr (.inl false))
      else
        some (.inl (pos + runeW s pos))
    else
      some (.inr (.inr ()))
noncomputable def isWord (s : Str) : Option (Bool) :=
  if (bif (decide ((s.length : Int) < (1 : Int))) then true else (decide ((12 : Int) < (s.length : Int)))) = true then
    some false
  else
    (loopO (isWord_b1 s) 0).bind fun e => match e with
      | (.inl rv) =>
        some rv
      | (.inr ()) =>
        isWord_j1

noncomputable def validWords_j1  : Option (Bool) :=
  some true
noncomputable def validWords_b1 (l : (List Str)) : (Int) → Option ((Int) ⊕ ((Bool) ⊕ (Unit)))
  | t10 =>
    if (decide (t10 < (l.length : Int))) = true then
      if (0 ≤ t10) then
        (l[t10.toNat]?).bind fun x2 =>
          (isWord x2).bind fun v2 =>
            if (((!(!v2)) && (decide ((0 : Int) < t10))) = true → (0 ≤ (IntKind.i64.wrap (t10 - (1 : Int))) ∧ (IntKind.i64.wrap (t10 - (1 : Int))) < (l.length : Int))) then
              if (bif (!v2) then true else (bif (decide ((0 : Int) < t10)) then (Op.bytesLess x2 (l.getD (IntKind.i64.wrap (t10 - (1 : Int))).toNat default) || x2 == (l.getD (IntKind.i64.wrap (t10 - (1 : Int))).toNat default)) else false)) = true then
                some (.inr (.inl false))
              else
                some (.inl (IntKind.i64.wrap (t10 + (1 : Int))))
            else none
      else none
    else
      some (.inr (.inr ()))
noncomputable def validWords (l : (List Str)) : Option (Bool) :=
  if (decide ((8 : Int) < (l.length : Int))) = true then
    some false
  else
    (loopO (validWords_b1 l) (0 : Int)).bind fun e => match e with
      | (.inl rv) =>
        some rv
      | (.inr ()) =>
        validWords_j1

noncomputable def isNaNS (x : Str) : Option (Bool) :=
  some (!(x == x))

noncomputable def cmpStr (x : Str) (y : Str) : Option (Int) :=
  (isNaNS x).bind fun v =>
    (isNaNS y).bind fun v2 =>
      if v = true then
        if v2 = true then
          some (0 : Int)
        else
          some (-1 : Int)
      else
        if v2 = true then
          some (1 : Int)
        else
          if (Op.bytesLess x y) = true then
            some (-1 : Int)
          else
            if (!(Op.bytesLess x y || x == y)) = true then
              some (1 : Int)
            else
              some (0 : Int)

noncomputable def isNaN (x : Int) : Option (Bool) :=
  some (x != x)

noncomputable def cmpInt (x : Int) (y : Int) : Option (Int) :=
  (isNaN x).bind fun v =>
    (isNaN y).bind fun v2 =>
      if v = true then
        if v2 = true then
          some (0 : Int)
        else
          some (-1 : Int)
      else
        if v2 = true then
          some (1 : Int)
        else
          if (decide (x < y)) = true then
            some (-1 : Int)
          else
            if (decide (y < x)) = true then
              some (1 : Int)
            else
              some (0 : Int)

noncomputable def versionOf (e1 : ApiCodeEntry) : Option (NomenclatureVersion) :=
  some (⟨e1.Code, e1.From⟩ : NomenclatureVersion)

noncomputable def versionCmp (v : NomenclatureVersion) (w1 : NomenclatureVersion) : Option (Int) :=
  if ((v.code == w1.code) && (v.from_ == w1.from_)) = true then
    some (0 : Int)
  else
    if (!(v.code == w1.code)) = true then
      (cmpStr v.code w1.code).bind fun v2 =>
        some v2
    else
      (cmpInt v.from_ w1.from_).bind fun v3 =>
        some v3

noncomputable def nomLevel_j1  : Option (Int) :=
  some (0 : Int)
noncomputable def nomLevel (code : Str) : Option (Int) :=
  (if ((code.length : Int) == (2 : Int)) = true then trimS code ([48, 49, 50, 51, 52, 53, 54, 55, 56, 57] : Str) else some default).bind fun v =>
    if (bif ((code.length : Int) == (2 : Int)) then (v == ([] : Str)) else false) = true then
      some (2 : Int)
    else
      (if ((code.length : Int) == (4 : Int)) = true then trimS code ([48, 49, 50, 51, 52, 53, 54, 55, 56, 57] : Str) else some default).bind fun v2 =>
        if (bif ((code.length : Int) == (4 : Int)) then (v2 == ([] : Str)) else false) = true then
          some (4 : Int)
        else
          (if ((code.length : Int) == (6 : Int)) = true then trimS code ([48, 49, 50, 51, 52, 53, 54, 55, 56, 57] : Str) else some default).bind fun v3 =>
            if (bif ((code.length : Int) == (6 : Int)) then (v3 == ([] : Str)) else false) = true then
              some (6 : Int)
            else
              (if ((code.length : Int) == (8 : Int)) = true then trimS code ([48, 49, 50, 51, 52, 53, 54, 55, 56, 57] : Str) else some default).bind fun v4 =>
                if (bif ((code.length : Int) == (8 : Int)) then (v4 == ([] : Str)) else false) = true then
                  some (8 : Int)
                else
                  nomLevel_j1

noncomputable def nomDescribed (l : (List Str)) : Option (Bool) :=
  (if (decide ((0 : Int) < (l.length : Int))) = true then validWords l else some default).bind fun v =>
    some (bif (decide ((0 : Int) < (l.length : Int))) then v else false)

noncomputable def validateEntry_j2 (wrong : Bool) : Option (Int) :=
  if wrong = true then
    some (1 : Int)
  else
    some (0 : Int)
noncomputable def validateEntry_j1 (e1 : ApiCodeEntry) (v : Int) : Option (Int) :=
  if (v == (2 : Int)) = true then
    validateEntry_j2 (bif (decide ((0 : Int) < (e1.Terms.length : Int))) then true else e1.Other)
  else
    if (v == (4 : Int)) = true then
      validateEntry_j2 (bif (!(decide ((0 : Int) < (e1.Terms.length : Int)))) then true else e1.Other)
    else
      validateEntry_j2 ((decide ((0 : Int) < (e1.Terms.length : Int))) == e1.Other)
noncomputable def validateEntry_b1 (e1 : ApiCodeEntry) (v : Int) : (Int) → Option ((Int) ⊕ ((Int) ⊕ (Unit)))
  | t38 =>
    if (decide (t38 < (e1.Terms.length : Int))) = true then
      if (0 ≤ t38) then
        (e1.Terms[t38.toNat]?).bind fun x2 =>
          (nomDescribed x2).bind fun v3 =>
            if (!v3) = true then
              some (.inr (.inl (1 : Int)))
            else
              some (.inl (IntKind.i64.wrap (t38 + (1 : Int))))
      else none
    else
      some (.inr (.inr ()))
noncomputable def validateEntry (e1 : ApiCodeEntry) : Option (Int) :=
  (nomLevel e1.Code).bind fun v =>
    if (v == (0 : Int)) = true then
      some (1 : Int)
    else
      if (bif (bif (decide (e1.From < (0 : Int))) then true else (decide (e1.To ≤ e1.From))) then true else (decide ((36525 : Int) < e1.To))) = true then
        some (2 : Int)
      else
        if (decide ((6 : Int) < (e1.Terms.length : Int))) = true then
          some (8 : Int)
        else
          (loopO (validateEntry_b1 e1 v) (0 : Int)).bind fun e => match e with
            | (.inl rv) =>
              some rv
            | (.inr ()) =>
              validateEntry_j1 e1 v

noncomputable def validateNote (n1 : ApiCodeNote) : Option (Int) :=
  (nomLevel n1.Scope).bind fun v =>
    (if (!(v == (0 : Int))) = true then nomDescribed n1.Words else some default).bind fun v2 =>
      if (bif (v == (0 : Int)) then true else (!v2)) = true then
        some (1 : Int)
      else
        (if (!(n1.Target == ([] : Str))) = true then nomLevel n1.Target else some default).bind fun v3 =>
          if (bif (!(n1.Target == ([] : Str))) then (v3 != (4 : Int)) else false) = true then
            some (1 : Int)
          else
            some (0 : Int)

noncomputable def validateOrder (before : ApiCodeEntry) (e1 : ApiCodeEntry) : Option (Int) :=
  (versionOf before).bind fun v =>
    (versionOf e1).bind fun v2 =>
      (versionCmp v v2).bind fun v3 =>
        if (decide ((0 : Int) ≤ v3)) = true then
          some (9 : Int)
        else
          if (bif (before.Code == e1.Code) then (decide (e1.From < before.To)) else false) = true then
            some (1 : Int)
          else
            some (0 : Int)

noncomputable def hasParent_j1 (e1 : ApiCodeEntry) (day : Int) : Option (Bool) :=
  some (decide (e1.To ≤ day))
noncomputable def hasParent_j2 (b : ApiNomenclature) (e1 : ApiCodeEntry) (t25 : Int) (day6 : Int) : Option ((Int × Int) ⊕ (Int)) :=
  some (.inl ((IntKind.i64.wrap (t25 + (1 : Int))), day6))
noncomputable def hasParent_b1 (b : ApiNomenclature) (e1 : ApiCodeEntry) : (Int × Int) → Option ((Int × Int) ⊕ (Int))
  | (t25, day2) =>
    if (decide (t25 < (b.Entries.length : Int))) = true then
      if (0 ≤ t25) then
        (b.Entries[t25.toNat]?).bind fun x2 =>
          if (bif (bif (x2.Code == ((e1.Code.take (IntKind.i64.wrap ((e1.Code.length : Int) - (2 : Int))).toNat).drop (0 : Int).toNat)) then (decide (x2.From ≤ day2)) else false) then (decide (day2 < x2.To)) else false) = true then
            hasParent_j2 b e1 t25 x2.To
          else
            hasParent_j2 b e1 t25 day2
      else none
    else
      some (.inr day2)
noncomputable def hasParent (b : ApiNomenclature) (e1 : ApiCodeEntry) : Option (Bool) :=
  if ((e1.Code.length : Int) == (2 : Int)) = true then
    some true
  else
    if (0 ≤ (0 : Int) ∧ (0 : Int) ≤ (IntKind.i64.wrap ((e1.Code.length : Int) - (2 : Int))) ∧ (IntKind.i64.wrap ((e1.Code.length : Int) - (2 : Int))) ≤ (e1.Code.length : Int)) then
      (loopO (hasParent_b1 b e1) ((0 : Int), e1.From)).bind fun e => match e with
        | day5 =>
          hasParent_j1 e1 day5
    else none

noncomputable def nomValidate_j3  : Option (Int) :=
  some (0 : Int)
noncomputable def nomValidate_b1 (b : ApiNomenclature) : (Int) → Option ((Int) ⊕ ((Int) ⊕ (Unit)))
  | t64 =>
    if (decide (t64 < (b.Notes.length : Int))) = true then
      if (0 ≤ t64) then
        (b.Notes[t64.toNat]?).bind fun x2 =>
          (validateNote x2).bind fun v2 =>
            if (v2 != (0 : Int)) = true then
              some (.inr (.inl v2))
            else
              some (.inl (IntKind.i64.wrap (t64 + (1 : Int))))
      else none
    else
      some (.inr (.inr ()))
noncomputable def nomValidate_j2 (b : ApiNomenclature) : Option (Int) :=
  (loopO (nomValidate_b1 b) (0 : Int)).bind fun e => match e with
    | (.inl rv) =>
      some rv
    | (.inr ()) =>
      nomValidate_j3
noncomputable def nomValidate_b2 (b : ApiNomenclature) : (Int) → Option ((Int) ⊕ ((Int) ⊕ (Unit)))
  | t52 =>
    if (decide (t52 < (b.Entries.length : Int))) = true then
      if (0 ≤ t52) then
        (b.Entries[t52.toNat]?).bind fun x4 =>
          (hasParent b x4).bind fun v4 =>
            if (!v4) = true then
              some (.inr (.inl (6 : Int)))
            else
              some (.inl (IntKind.i64.wrap (t52 + (1 : Int))))
      else none
    else
      some (.inr (.inr ()))
noncomputable def nomValidate_j1 (b : ApiNomenclature) : Option (Int) :=
  (loopO (nomValidate_b2 b) (0 : Int)).bind fun e => match e with
    | (.inl rv) =>
      some rv
    | (.inr ()) =>
      nomValidate_j2 b
noncomputable def nomValidate_j4 (b : ApiNomenclature) (t25 : Int) : Option ((Int) ⊕ ((Int) ⊕ (Unit))) :=
  some (.inl (IntKind.i64.wrap (t25 + (1 : Int))))
noncomputable def nomValidate_b3 (b : ApiNomenclature) : (Int) → Option ((Int) ⊕ ((Int) ⊕ (Unit)))
  | t25 =>
    if (decide (t25 < (b.Entries.length : Int))) = true then
      if (0 ≤ t25) then
        (b.Entries[t25.toNat]?).bind fun x7 =>
          (validateEntry x7).bind fun v7 =>
            if (v7 != (0 : Int)) = true then
              some (.inr (.inl v7))
            else
              if (t25 == (0 : Int)) = true then
                nomValidate_j4 b t25
              else
                if (0 ≤ (IntKind.i64.wrap (t25 - (1 : Int)))) then
                  (b.Entries[(IntKind.i64.wrap (t25 - (1 : Int))).toNat]?).bind fun x8 =>
                    (validateOrder x8 x7).bind fun v8 =>
                      if (v8 != (0 : Int)) = true then
                        some (.inr (.inl v8))
                      else
                        nomValidate_j4 b t25
                else none
      else none
    else
      some (.inr (.inr ()))
noncomputable def nomValidate (b : ApiNomenclature) : Option (Int) :=
  if (bif (decide ((300 : Int) < (b.Entries.length : Int))) then true else (decide ((100 : Int) < (b.Notes.length : Int)))) = true then
    some (8 : Int)
  else
    (loopO (nomValidate_b3 b) (0 : Int)).bind fun e => match e with
      | (.inl rv) =>
        some rv
      | (.inr ()) =>
        nomValidate_j1 b

noncomputable def refWord_j1 (s : Str) : Option (Bool) :=
  some (bif (decide ((1 : Int) ≤ (s.length : Int))) then (decide ((s.length : Int) ≤ (12 : Int))) else false)
noncomputable def refWord_b1 (s : Str) : (Int) → Option ((Int) ⊕ ((Bool) ⊕ (Unit)))
  | i =>
    if (decide (i < (s.length : Int))) = true then
      if (0 ≤ i ∧ i < (s.length : Int)) then
        if (!(decide (((s.getD i.toNat 0).toNat : Int) < (97 : Int)))) = true → (0 ≤ i ∧ i < (s.length : Int)) then
          if (bif (decide (((s.getD i.toNat 0).toNat : Int) < (97 : Int))) then true else (decide ((122 : Int) < ((s.getD i.toNat 0).toNat : Int)))) = true then
            some (.inr (.inl false))
          else
            some (.inl (IntKind.i64.wrap (i + (1 : Int))))
        else none
      else none
    else
      some (.inr (.inr ()))
noncomputable def refWord (s : Str) : Option (Bool) :=
  (loopO (refWord_b1 s) (0 : Int)).bind fun e => match e with
    | (.inl rv) =>
      some rv
    | (.inr ()) =>
      refWord_j1 s

noncomputable def refWords_j1 (l : (List Str)) : Option (Bool) :=
  some (decide ((l.length : Int) ≤ (8 : Int)))
noncomputable def refWords_b1 (l : (List Str)) : (Int) → Option ((Int) ⊕ ((Bool) ⊕ (Unit)))
  | i =>
    if (decide (i < (l.length : Int))) = true then
      if (0 ≤ i) then
        (l[i.toNat]?).bind fun x2 =>
          (refWord x2).bind fun v2 =>
            if (((!(!v2)) && (decide ((0 : Int) < i))) = true → (0 ≤ (IntKind.i64.wrap (i - (1 : Int))) ∧ (IntKind.i64.wrap (i - (1 : Int))) < (l.length : Int))) then
              if (((!(!v2)) && (decide ((0 : Int) < i))) = true → (0 ≤ i ∧ i < (l.length : Int))) then
                if (bif (!v2) then true else (bif (decide ((0 : Int) < i)) then (!Op.bytesLess (l.getD (IntKind.i64.wrap (i - (1 : Int))).toNat default) (l.getD i.toNat default)) else false)) = true then
                  some (.inr (.inl false))
                else
                  some (.inl (IntKind.i64.wrap (i + (1 : Int))))
              else none
            else none
      else none
    else
      some (.inr (.inr ()))
noncomputable def refWords (l : (List Str)) : Option (Bool) :=
  (loopO (refWords_b1 l) (0 : Int)).bind fun e => match e with
    | (.inl rv) =>
      some rv
    | (.inr ()) =>
      refWords_j1 l

noncomputable def refLevel_j1 (s : Str) : Option (Int) :=
  if (bif (decide ((8 : Int) < (s.length : Int))) then true else (((s.length : Int).tmod (2 : Int)) == (1 : Int))) = true then
    some (0 : Int)
  else
    some (s.length : Int)
noncomputable def refLevel_b1 (s : Str) : (Int) → Option ((Int) ⊕ ((Int) ⊕ (Unit)))
  | i =>
    if (decide (i < (s.length : Int))) = true then
      if (0 ≤ i ∧ i < (s.length : Int)) then
        if (!(decide (((s.getD i.toNat 0).toNat : Int) < (48 : Int)))) = true → (0 ≤ i ∧ i < (s.length : Int)) then
          if (bif (decide (((s.getD i.toNat 0).toNat : Int) < (48 : Int))) then true else (decide ((57 : Int) < ((s.getD i.toNat 0).toNat : Int)))) = true then
            some (.inr (.inl (0 : Int)))
          else
            some (.inl (IntKind.i64.wrap (i + (1 : Int))))
        else none
      else none
    else
      some (.inr (.inr ()))
noncomputable def refLevel (s : Str) : Option (Int) :=
  (loopO (refLevel_b1 s) (0 : Int)).bind fun e => match e with
    | (.inl rv) =>
      some rv
    | (.inr ()) =>
      refLevel_j1 s

noncomputable def refOne_j2  : Option (Int) :=
  some (0 : Int)
noncomputable def refOne_j1 (x : ApiCodeEntry) : Option (Int) :=
  (refLevel x.Code).bind fun v2 =>
    if (v2 == (2 : Int)) = true then
      if (bif (decide ((0 : Int) < (x.Terms.length : Int))) then true else x.Other) = true then
        some (1 : Int)
      else
        refOne_j2
    else
      if (v2 == (4 : Int)) = true then
        if (bif (!(decide ((0 : Int) < (x.Terms.length : Int)))) then true else x.Other) = true then
          some (1 : Int)
        else
          refOne_j2
      else
        if ((decide ((0 : Int) < (x.Terms.length : Int))) == x.Other) = true then
          some (1 : Int)
        else
          refOne_j2
noncomputable def refOne_b1 (x : ApiCodeEntry) : (Int) → Option ((Int) ⊕ ((Int) ⊕ (Unit)))
  | i =>
    if (decide (i < (x.Terms.length : Int))) = true then
      if (0 ≤ i) then
        (x.Terms[i.toNat]?).bind fun x3 =>
          (refWords x3).bind fun v4 =>
            if ((!(!v4)) = true → (0 ≤ i ∧ i < (x.Terms.length : Int))) then
              if (bif (!v4) then true else (((x.Terms.getD i.toNat default).length : Int) == (0 : Int))) = true then
                some (.inr (.inl (1 : Int)))
              else
                some (.inl (IntKind.i64.wrap (i + (1 : Int))))
            else none
      else none
    else
      some (.inr (.inr ()))
noncomputable def refOne (x : ApiCodeEntry) : Option (Int) :=
  (refLevel x.Code).bind fun v =>
    if (v == (0 : Int)) = true then
      some (1 : Int)
    else
      if (bif (bif (decide (x.From < (0 : Int))) then true else (decide (x.To ≤ x.From))) then true else (decide ((36525 : Int) < x.To))) = true then
        some (2 : Int)
      else
        if (decide ((6 : Int) < (x.Terms.length : Int))) = true then
          some (8 : Int)
        else
          (loopO (refOne_b1 x) (0 : Int)).bind fun e => match e with
            | (.inl rv) =>
              some rv
            | (.inr ()) =>
              refOne_j1 x

noncomputable def refNote (x : ApiCodeNote) : Option (Bool) :=
  (refLevel x.Scope).bind fun v =>
    (if (decide ((0 : Int) < v)) = true then refWords x.Words else some default).bind fun v2 =>
      (if ((bif (bif (decide ((0 : Int) < v)) then v2 else false) then (decide ((0 : Int) < (x.Words.length : Int))) else false) && (!(x.Target == ([] : Str)))) = true then refLevel x.Target else some default).bind fun v3 =>
        some (bif (bif (bif (decide ((0 : Int) < v)) then v2 else false) then (decide ((0 : Int) < (x.Words.length : Int))) else false) then (bif (x.Target == ([] : Str)) then true else (v3 == (4 : Int))) else false)

noncomputable def refCovered_j1 (to_ : Int) (from_2 : Int) : Option (Bool) :=
  some (decide (to_ ≤ from_2))
noncomputable def refCovered_j2 (b : ApiNomenclature) (code : Str) (to_ : Int) (i : Int) (from_7 : Int) : Option ((Int × Int) ⊕ (Int)) :=
  some (.inl ((IntKind.i64.wrap (i + (1 : Int))), from_7))
noncomputable def refCovered_b1 (b : ApiNomenclature) (code : Str) (to_ : Int) : (Int × Int) → Option ((Int × Int) ⊕ (Int))
  | (i, from_3) =>
    if (decide (i < (b.Entries.length : Int))) = true then
      if (0 ≤ i) then
        (b.Entries[i.toNat]?).bind fun x2 =>
          if (bif (x2.Code == code) then (decide (x2.From ≤ from_3)) else false) = true then
            refCovered_j2 b code to_ i (if x2.To > from_3 then x2.To else from_3)
          else
            refCovered_j2 b code to_ i from_3
      else none
    else
      some (.inr from_3)
noncomputable def refCovered (b : ApiNomenclature) (code : Str) (from_ : Int) (to_ : Int) : Option (Bool) :=
  (loopO (refCovered_b1 b code to_) ((0 : Int), from_)).bind fun e => match e with
    | from_6 =>
      refCovered_j1 to_ from_6

noncomputable def refBook_j3  : Option (Int) :=
  some (0 : Int)
noncomputable def refBook_b1 (b : ApiNomenclature) : (Int) → Option ((Int) ⊕ ((Int) ⊕ (Unit)))
  | i =>
    if (decide (i < (b.Notes.length : Int))) = true then
      if (0 ≤ i) then
        (b.Notes[i.toNat]?).bind fun x2 =>
          (refNote x2).bind fun v2 =>
            if (!v2) = true then
              some (.inr (.inl (1 : Int)))
            else
              some (.inl (IntKind.i64.wrap (i + (1 : Int))))
      else none
    else
      some (.inr (.inr ()))
noncomputable def refBook_j2 (b : ApiNomenclature) : Option (Int) :=
  (loopO (refBook_b1 b) (0 : Int)).bind fun e => match e with
    | (.inl rv) =>
      some rv
    | (.inr ()) =>
      refBook_j3
noncomputable def refBook_b2 (b : ApiNomenclature) : (Int) → Option ((Int) ⊕ ((Int) ⊕ (Unit)))
  | i3 =>
    if (decide (i3 < (b.Entries.length : Int))) = true then
      if (0 ≤ i3) then
        (b.Entries[i3.toNat]?).bind fun x4 =>
          if (decide ((2 : Int) < (x4.Code.length : Int))) = true → (0 ≤ (0 : Int) ∧ (0 : Int) ≤ (IntKind.i64.wrap ((x4.Code.length : Int) - (2 : Int))) ∧ (IntKind.i64.wrap ((x4.Code.length : Int) - (2 : Int))) ≤ (x4.Code.length : Int)) then
            (if (decide ((2 : Int) < (x4.Code.length : Int))) = true then refCovered b ((x4.Code.take (IntKind.i64.wrap ((x4.Code.length : Int) - (2 : Int))).toNat).drop (0 : Int).toNat) x4.From x4.To else some default).bind fun v4 =>
              if (bif (decide ((2 : Int) < (x4.Code.length : Int))) then (!v4) else false) = true then
                some (.inr (.inl (6 : Int)))
              else
                some (.inl (IntKind.i64.wrap (i3 + (1 : Int))))
          else none
      else none
    else
      some (.inr (.inr ()))
noncomputable def refBook_j1 (b : ApiNomenclature) : Option (Int) :=
  (loopO (refBook_b2 b) (0 : Int)).bind fun e => match e with
    | (.inl rv) =>
      some rv
    | (.inr ()) =>
      refBook_j2 b
noncomputable def refBook_j4 (b : ApiNomenclature) (i5 : Int) : Option ((Int) ⊕ ((Int) ⊕ (Unit))) :=
  some (.inl (IntKind.i64.wrap (i5 + (1 : Int))))
noncomputable def refBook_b3 (b : ApiNomenclature) : (Int) → Option ((Int) ⊕ ((Int) ⊕ (Unit)))
  | i5 =>
    if (decide (i5 < (b.Entries.length : Int))) = true then
      if (0 ≤ i5) then
        (b.Entries[i5.toNat]?).bind fun x7 =>
          (refOne x7).bind fun v6 =>
            if (v6 != (0 : Int)) = true then
              some (.inr (.inl v6))
            else
              if (i5 == (0 : Int)) = true then
                refBook_j4 b i5
              else
                if (0 ≤ (IntKind.i64.wrap (i5 - (1 : Int)))) then
                  (b.Entries[(IntKind.i64.wrap (i5 - (1 : Int))).toNat]?).bind fun x8 =>
                    if (bif (Op.bytesLess x7.Code x8.Code) then true else (bif (x7.Code == x8.Code) then (decide (x7.From ≤ x8.From)) else false)) = true then
                      some (.inr (.inl (9 : Int)))
                    else
                      if (bif (x7.Code == x8.Code) then (decide (x7.From < x8.To)) else false) = true then
                        some (.inr (.inl (1 : Int)))
                      else
                        refBook_j4 b i5
                else none
      else none
    else
      some (.inr (.inr ()))
noncomputable def refBook (b : ApiNomenclature) : Option (Int) :=
  if (bif (decide ((300 : Int) < (b.Entries.length : Int))) then true else (decide ((100 : Int) < (b.Notes.length : Int)))) = true then
    some (8 : Int)
  else
    (loopO (refBook_b3 b) (0 : Int)).bind fun e => match e with
      | (.inl rv) =>
        some rv
      | (.inr ()) =>
        refBook_j1 b

end Go.C
