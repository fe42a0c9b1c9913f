/- Plain functions, read off the program by program (gen.py): no program in sight. -/
import Derived.Test.YtfkefolbabniaaaGreatDoorPl
import Derived.Test.YtfkefolbabniaaaGreatDoorPa
import Derived.Test.YtfkefolbabniaaaGreatDoorPb
set_option linter.unusedVariables false
namespace Go.C
open Go.V

noncomputable def sIndex_j1  : Option (Int) :=
  some (-1 : Int)
noncomputable def sIndex_b1 (s : (List Str)) (v : Str) : (Int) → Option ((Int) ⊕ ((Int) ⊕ (Unit)))
  | t8 =>
    if (decide (t8 < (s.length : Int))) = true then
      if (0 ≤ t8) then
        (s[t8.toNat]?).bind fun x2 =>
          if (v == x2) = true then
            some (.inr (.inl t8))
          else
            some (.inl (IntKind.i64.wrap (t8 + (1 : Int))))
      else none
    else
      some (.inr (.inr ()))
noncomputable def sIndex (s : (List Str)) (v : Str) : Option (Int) :=
  (loopO (sIndex_b1 s v) (0 : Int)).bind fun e => match e with
    | (.inl rv) =>
      some rv
    | (.inr ()) =>
      sIndex_j1

noncomputable def sContains (s : (List Str)) (v : Str) : Option (Bool) :=
  (sIndex s v).bind fun v2 =>
    some (decide ((0 : Int) ≤ v2))

noncomputable def memberIn (s : Str) (a1 : (List Str)) : Option (Bool) :=
  (sContains a1 s).bind fun v =>
    some v

noncomputable def member (l : (List Str)) : Option ((List Str)) :=
  if (decide ((l.length : Int) ≤ (50 : Int))) = true then
    some l
  else
    none

noncomputable def subset_j1  : Option (Bool) :=
  some true
noncomputable def subset_b1 (a : (List Str)) (v : (List Str)) : (Int) → Option ((Int) ⊕ ((Bool) ⊕ (Unit)))
  | t12 =>
    if (decide (t12 < (a.length : Int))) = true then
      if (0 ≤ t12) then
        (a[t12.toNat]?).bind fun x2 =>
          (memberIn x2 v).bind fun v3 =>
            if (!v3) = true then
              some (.inr (.inl false))
            else
              some (.inl (IntKind.i64.wrap (t12 + (1 : Int))))
      else none
    else
      some (.inr (.inr ()))
noncomputable def subset (a : (List Str)) (b : (List Str)) : Option (Bool) :=
  (member b).bind fun v =>
    (loopO (subset_b1 a v) (0 : Int)).bind fun e => match e with
      | (.inl rv) =>
        some rv
      | (.inr ()) =>
        subset_j1

noncomputable def cloneWords_j1 (result : (List (List Str))) : Option ((List (List Str))) :=
  some result
noncomputable def cloneWords_b1 (l : (List (List Str))) : (Int × (List (List Str))) → Option ((Int × (List (List Str))) ⊕ ((List (List Str))))
  | (t82, result2) =>
    if (decide (t82 < (l.length : Int))) = true then
      if (0 ≤ t82) then
        (l[t82.toNat]?).bind fun x3 =>
          (cloneS x3).bind fun v3 =>
            if (result2.length + [v3].length ≤ 137438953472) then
              some (.inl ((IntKind.i64.wrap (t82 + (1 : Int))), (result2 ++ [v3])))
            else none
      else none
    else
      some (.inr result2)
noncomputable def cloneWords (l : (List (List Str))) : Option ((List (List Str))) :=
  (loopO (cloneWords_b1 l) ((0 : Int), [])).bind fun e => match e with
    | result3 =>
      cloneWords_j1 result3

noncomputable def nomAt_j1 (l : (List ApiCodeEntry)) : Option ((List ApiCodeEntry)) :=
  some l
noncomputable def nomAt_j2 (b : ApiNomenclature) (day : Int) (t112 : Int) (l6 : (List ApiCodeEntry)) : Option ((Int × (List ApiCodeEntry)) ⊕ ((List ApiCodeEntry))) :=
  some (.inl ((IntKind.i64.wrap (t112 + (1 : Int))), l6))
noncomputable def nomAt_b1 (b : ApiNomenclature) (day : Int) : (Int × (List ApiCodeEntry)) → Option ((Int × (List ApiCodeEntry)) ⊕ ((List ApiCodeEntry)))
  | (t112, l3) =>
    if (decide (t112 < (b.Entries.length : Int))) = true then
      if (0 ≤ t112) then
        (b.Entries[t112.toNat]?).bind fun x3 =>
          if (bif (decide (x3.From ≤ day)) then (decide (day < x3.To)) else false) = true then
            (cloneWords x3.Terms).bind fun v3 =>
              if (l3.length + [(⟨x3.Code, x3.From, x3.To, v3, x3.Other⟩ : ApiCodeEntry)].length ≤ 137438953472) then
                nomAt_j2 b day t112 (l3 ++ [(⟨x3.Code, x3.From, x3.To, v3, x3.Other⟩ : ApiCodeEntry)])
              else none
          else
            nomAt_j2 b day t112 l3
      else none
    else
      some (.inr l3)
noncomputable def nomAt (b : ApiNomenclature) (day : Int) : Option ((List ApiCodeEntry)) :=
  (loopO (nomAt_b1 b day) ((0 : Int), [])).bind fun e => match e with
    | l5 =>
      nomAt_j1 l5

noncomputable def nomFind_j1  : Option (ApiCodeEntry × Bool) :=
  some ((⟨[], 0, 0, [], false⟩ : ApiCodeEntry), false)
noncomputable def nomFind_b1 (code : Str) (v : (List ApiCodeEntry)) : (Int) → Option ((Int) ⊕ ((ApiCodeEntry × Bool) ⊕ (Unit)))
  | t14 =>
    if (decide (t14 < (v.length : Int))) = true then
      if (0 ≤ t14) then
        (v[t14.toNat]?).bind fun x2 =>
          if (x2.Code == code) = true then
            some (.inr (.inl (x2, true)))
          else
            some (.inl (IntKind.i64.wrap (t14 + (1 : Int))))
      else none
    else
      some (.inr (.inr ()))
noncomputable def nomFind (b : ApiNomenclature) (day : Int) (code : Str) : Option (ApiCodeEntry × Bool) :=
  (nomAt b day).bind fun v =>
    (loopO (nomFind_b1 code v) (0 : Int)).bind fun e => match e with
      | (.inl rv) =>
        some rv
      | (.inr ()) =>
        nomFind_j1

noncomputable def nomBelow_j1 (l : (List ApiCodeEntry)) : Option ((List ApiCodeEntry)) :=
  some l
noncomputable def nomBelow_j2 (code : Str) (v : (List ApiCodeEntry)) (t152 : Int) (l6 : (List ApiCodeEntry)) : Option ((Int × (List ApiCodeEntry)) ⊕ ((List ApiCodeEntry))) :=
  some (.inl ((IntKind.i64.wrap (t152 + (1 : Int))), l6))
noncomputable def nomBelow_b1 (code : Str) (v : (List ApiCodeEntry)) : (Int × (List ApiCodeEntry)) → Option ((Int × (List ApiCodeEntry)) ⊕ ((List ApiCodeEntry)))
  | (t152, l3) =>
    if (decide (t152 < (v.length : Int))) = true then
      if (0 ≤ t152) then
        (v[t152.toNat]?).bind fun x3 =>
          if ((!(bif (code == ([] : Str)) then ((x3.Code.length : Int) == (4 : Int)) else false)) && (bif (!(code == ([] : Str))) then (decide ((2 : Int) < (x3.Code.length : Int))) else false)) = true → (0 ≤ (0 : Int) ∧ (0 : Int) ≤ (IntKind.i64.wrap ((x3.Code.length : Int) - (2 : Int))) ∧ (IntKind.i64.wrap ((x3.Code.length : Int) - (2 : Int))) ≤ (x3.Code.length : Int)) then
            if (bif (bif (code == ([] : Str)) then ((x3.Code.length : Int) == (4 : Int)) else false) then true else (bif (bif (!(code == ([] : Str))) then (decide ((2 : Int) < (x3.Code.length : Int))) else false) then (((x3.Code.take (IntKind.i64.wrap ((x3.Code.length : Int) - (2 : Int))).toNat).drop (0 : Int).toNat) == code) else false)) = true then
              if (l3.length + [x3].length ≤ 137438953472) then
                nomBelow_j2 code v t152 (l3 ++ [x3])
              else none
            else
              nomBelow_j2 code v t152 l3
          else none
      else none
    else
      some (.inr l3)
noncomputable def nomBelow (b : ApiNomenclature) (day : Int) (code : Str) : Option ((List ApiCodeEntry)) :=
  (nomAt b day).bind fun v =>
    (loopO (nomBelow_b1 code v) ((0 : Int), [])).bind fun e => match e with
      | l5 =>
        nomBelow_j1 l5

noncomputable def nomExcluded_j1  : Option (Bool) :=
  some false
noncomputable def nomExcluded_b1 (b : ApiNomenclature) (code : Str) (words : (List Str)) : (Int) → Option ((Int) ⊕ ((Bool) ⊕ (Unit)))
  | t12 =>
    if (decide (t12 < (b.Notes.length : Int))) = true then
      if (0 ≤ t12) then
        (b.Notes[t12.toNat]?).bind fun x2 =>
          (hasPrefixS code x2.Scope).bind fun v3 =>
            (if v3 = true then subset x2.Words words else some default).bind fun v4 =>
              if (bif v3 then v4 else false) = true then
                some (.inr (.inl true))
              else
                some (.inl (IntKind.i64.wrap (t12 + (1 : Int))))
      else none
    else
      some (.inr (.inr ()))
noncomputable def nomExcluded (b : ApiNomenclature) (code : Str) (words : (List Str)) : Option (Bool) :=
  (loopO (nomExcluded_b1 b code words) (0 : Int)).bind fun e => match e with
    | (.inl rv) =>
      some rv
    | (.inr ()) =>
      nomExcluded_j1

noncomputable def nomAlts_j1 (l : (List (List Str))) : Option ((List (List Str))) :=
  some l
noncomputable def nomAlts_j2 (b : ApiNomenclature) (e1 : ApiCodeEntry) (t14 : Int) (l6 : (List (List Str))) : Option ((Int × (List (List Str))) ⊕ ((List (List Str)))) :=
  some (.inl ((IntKind.i64.wrap (t14 + (1 : Int))), l6))
noncomputable def nomAlts_b1 (b : ApiNomenclature) (e1 : ApiCodeEntry) : (Int × (List (List Str))) → Option ((Int × (List (List Str))) ⊕ ((List (List Str))))
  | (t14, l2) =>
    if (decide (t14 < (b.Notes.length : Int))) = true then
      if (0 ≤ t14) then
        (b.Notes[t14.toNat]?).bind fun x2 =>
          if (x2.Target == e1.Code) = true then
            (cloneS x2.Words).bind fun v3 =>
              if (l2.length + [v3].length ≤ 137438953472) then
                nomAlts_j2 b e1 t14 (l2 ++ [v3])
              else none
          else
            nomAlts_j2 b e1 t14 l2
      else none
    else
      some (.inr l2)
noncomputable def nomAlts (b : ApiNomenclature) (e1 : ApiCodeEntry) : Option ((List (List Str))) :=
  (cloneWords e1.Terms).bind fun v =>
    (loopO (nomAlts_b1 b e1) ((0 : Int), v)).bind fun e => match e with
      | l5 =>
        nomAlts_j1 l5

noncomputable def nomScore_j1 (score : Int) : Option (Int) :=
  some score
noncomputable def nomScore_j2 (words : (List Str)) (v2 : (List (List Str))) (t19 : Int) (score6 : Int) : Option ((Int × Int) ⊕ (Int)) :=
  some (.inl ((IntKind.i64.wrap (t19 + (1 : Int))), score6))
noncomputable def nomScore_b1 (words : (List Str)) (v2 : (List (List Str))) : (Int × Int) → Option ((Int × Int) ⊕ (Int))
  | (t19, score2) =>
    if (decide (t19 < (v2.length : Int))) = true then
      if (0 ≤ t19) then
        (v2[t19.toNat]?).bind fun x2 =>
          (if (decide (score2 < (x2.length : Int))) = true then subset x2 words else some default).bind fun v4 =>
            if (bif (decide (score2 < (x2.length : Int))) then v4 else false) = true then
              nomScore_j2 words v2 t19 (x2.length : Int)
            else
              nomScore_j2 words v2 t19 score2
      else none
    else
      some (.inr score2)
noncomputable def nomScore (b : ApiNomenclature) (e1 : ApiCodeEntry) (words : (List Str)) : Option (Int) :=
  (nomExcluded b e1.Code words).bind fun v =>
    if v = true then
      some (0 : Int)
    else
      (nomAlts b e1).bind fun v2 =>
        (loopO (nomScore_b1 words v2) ((0 : Int), (0 : Int))).bind fun e => match e with
          | score5 =>
            nomScore_j1 score5

end Go.C
