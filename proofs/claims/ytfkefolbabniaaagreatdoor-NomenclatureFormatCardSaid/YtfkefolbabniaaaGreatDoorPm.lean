/- Plain functions, read off the program by program (gen.py): no program in sight. -/
import Derived.Test.YtfkefolbabniaaaGreatDoorPl
import Derived.Test.YtfkefolbabniaaaGreatDoorPa
import Derived.Test.YtfkefolbabniaaaGreatDoorPb
import Derived.Test.YtfkefolbabniaaaGreatDoorPc
import Derived.Test.YtfkefolbabniaaaGreatDoorPd
import Derived.Test.YtfkefolbabniaaaGreatDoorPe
import Derived.Test.YtfkefolbabniaaaGreatDoorPg
import Derived.Test.YtfkefolbabniaaaGreatDoorPu
import Derived.Test.YtfkefolbabniaaaGreatDoorPh
set_option linter.unusedVariables false
namespace Go.C
open Go.V

noncomputable def refParseBook_j1 (c5_0 : (List ApiCodeEntry)) (c5_1 : (List ApiCodeNote)) : Option (ApiNomenclature × Int × Int) :=
  (refBook (⟨c5_0, c5_1⟩ : ApiNomenclature)).bind fun v2 =>
    if (v2 != (0 : Int)) = true then
      some ((⟨[], []⟩ : ApiNomenclature), (0 : Int), v2)
    else
      some ((⟨c5_0, c5_1⟩ : ApiNomenclature), (IntKind.i64.wrap ((c5_0.length : Int) + (c5_1.length : Int))), (0 : Int))
noncomputable def refParseBook_j2 (v : (List Str)) (i2 : Int) (c5_016 : (List ApiCodeEntry)) (c5_116 : (List ApiCodeNote)) : Option ((Int × (List ApiCodeEntry) × (List ApiCodeNote)) ⊕ (((List ApiCodeEntry) × (List ApiCodeNote)) ⊕ (ApiNomenclature × Int × Int))) :=
  some (.inl ((IntKind.i64.wrap (i2 + (1 : Int))), c5_016, c5_116))
noncomputable def refParseBook_j3 (v : (List Str)) (i2 : Int) (ok3 : Bool) (c5_017 : (List ApiCodeEntry)) (c5_117 : (List ApiCodeNote)) : Option ((Int × (List ApiCodeEntry) × (List ApiCodeNote)) ⊕ (((List ApiCodeEntry) × (List ApiCodeNote)) ⊕ (ApiNomenclature × Int × Int))) :=
  if (!ok3) = true then
    some (.inr (.inr ((⟨[], []⟩ : ApiNomenclature), i2, (4 : Int))))
  else
    refParseBook_j2 v i2 c5_017 c5_117
noncomputable def refParseBook_j4 (v : (List Str)) (i2 : Int) (x33 : Str) (v26 : (List Str)) (c10_23 : Str) (c5_018 : (List ApiCodeEntry)) (c5_118 : (List ApiCodeNote)) : Option ((Int × (List ApiCodeEntry) × (List ApiCodeNote)) ⊕ (((List ApiCodeEntry) × (List ApiCodeNote)) ⊕ (ApiNomenclature × Int × Int))) :=
  (if (decide (i2 < (IntKind.i64.wrap ((v.length : Int) - (1 : Int))))) = true then refNote (⟨x33, v26, c10_23⟩ : ApiCodeNote) else some default).bind fun v27 =>
    (if (bif (decide (i2 < (IntKind.i64.wrap ((v.length : Int) - (1 : Int))))) then v27 else false) = true then refNoteLine (⟨x33, v26, c10_23⟩ : ApiCodeNote) else some default).bind fun v28 =>
      if ((bif (decide (i2 < (IntKind.i64.wrap ((v.length : Int) - (1 : Int))))) then v27 else false) = true → (0 ≤ i2 ∧ i2 < (v.length : Int))) then
        if (c5_118.length + [(⟨x33, v26, c10_23⟩ : ApiCodeNote)].length ≤ 137438953472) then
          refParseBook_j3 v i2 (bif (bif (decide (i2 < (IntKind.i64.wrap ((v.length : Int) - (1 : Int))))) then v27 else false) then (v28 == (v.getD i2.toNat default)) else false) c5_018 (c5_118 ++ [(⟨x33, v26, c10_23⟩ : ApiCodeNote)])
        else none
      else none
noncomputable def refParseBook_j5 (v : (List Str)) (i2 : Int) (x37 : Str) (v29 : Int) (v30 : Int) (c11_313 : (List (List Str))) (c11_415 : Bool) (c5_019 : (List ApiCodeEntry)) (c5_119 : (List ApiCodeNote)) : Option ((Int × (List ApiCodeEntry) × (List ApiCodeNote)) ⊕ (((List ApiCodeEntry) × (List ApiCodeNote)) ⊕ (ApiNomenclature × Int × Int))) :=
  (if (decide (i2 < (IntKind.i64.wrap ((v.length : Int) - (1 : Int))))) = true then refOne (⟨x37, v29, v30, c11_313, c11_415⟩ : ApiCodeEntry) else some default).bind fun v31 =>
    (if (bif (decide (i2 < (IntKind.i64.wrap ((v.length : Int) - (1 : Int))))) then (v31 == (0 : Int)) else false) = true then refEntryLine (⟨x37, v29, v30, c11_313, c11_415⟩ : ApiCodeEntry) else some default).bind fun v32 =>
      if ((bif (decide (i2 < (IntKind.i64.wrap ((v.length : Int) - (1 : Int))))) then (v31 == (0 : Int)) else false) = true → (0 ≤ i2 ∧ i2 < (v.length : Int))) then
        if (c5_019.length + [(⟨x37, v29, v30, c11_313, c11_415⟩ : ApiCodeEntry)].length ≤ 137438953472) then
          refParseBook_j3 v i2 (bif (bif (bif (decide (i2 < (IntKind.i64.wrap ((v.length : Int) - (1 : Int))))) then (v31 == (0 : Int)) else false) then (v32 == (v.getD i2.toNat default)) else false) then ((c5_119.length : Int) == (0 : Int)) else false) (c5_019 ++ [(⟨x37, v29, v30, c11_313, c11_415⟩ : ApiCodeEntry)]) c5_119
        else none
      else none
noncomputable def refParseBook_j6 (v : (List Str)) (i2 : Int) (v25 : (List Str)) (x37 : Str) (v29 : Int) (v30 : Int) (k6 : Int) (c11_318 : (List (List Str))) (c11_421 : Bool) (c5_025 : (List ApiCodeEntry)) (c5_125 : (List ApiCodeNote)) : Option ((Int × (List (List Str)) × Bool × (List ApiCodeEntry) × (List ApiCodeNote)) ⊕ ((List (List Str)) × Bool × (List ApiCodeEntry) × (List ApiCodeNote))) :=
  some (.inl ((IntKind.i64.wrap (k6 + (1 : Int))), c11_318, c11_421, c5_025, c5_125))
noncomputable def refParseBook_b2 (v : (List Str)) (i2 : Int) (v25 : (List Str)) (x37 : Str) (v29 : Int) (v30 : Int) : (Int × (List (List Str)) × Bool × (List ApiCodeEntry) × (List ApiCodeNote)) → Option ((Int × (List (List Str)) × Bool × (List ApiCodeEntry) × (List ApiCodeNote)) ⊕ ((List (List Str)) × Bool × (List ApiCodeEntry) × (List ApiCodeNote)))
  | (k6, c11_315, c11_418, c5_022, c5_122) =>
    if (decide (k6 < (v25.length : Int))) = true then
      if (0 ≤ k6) then
        (v25[k6.toNat]?).bind fun x44 =>
          if (bif (x44 == ([42] : Str)) then (k6 == (IntKind.i64.wrap ((v25.length : Int) - (1 : Int)))) else false) = true then
            refParseBook_j6 v i2 v25 x37 v29 v30 k6 c11_315 true c5_022 c5_122
          else
            if (0 ≤ k6) then
              (v25[k6.toNat]?).bind fun x45 =>
                (r08Split x45 (43 : Int)).bind fun v35 =>
                  if (c11_315.length + [v35].length ≤ 137438953472) then
                    refParseBook_j6 v i2 v25 x37 v29 v30 k6 (c11_315 ++ [v35]) c11_418 c5_022 c5_122
                  else none
            else none
      else none
    else
      some (.inr (c11_315, c11_418, c5_022, c5_122))
noncomputable def refParseBook_b1 (v : (List Str)) : (Int × (List ApiCodeEntry) × (List ApiCodeNote)) → Option ((Int × (List ApiCodeEntry) × (List ApiCodeNote)) ⊕ (((List ApiCodeEntry) × (List ApiCodeNote)) ⊕ (ApiNomenclature × Int × Int)))
  | (i2, c5_04, c5_14) =>
    if (decide (i2 < (v.length : Int))) = true then
      if ((i2 == (IntKind.i64.wrap ((v.length : Int) - (1 : Int)))) = true → (0 ≤ i2 ∧ i2 < (v.length : Int))) then
        if (bif (i2 == (IntKind.i64.wrap ((v.length : Int) - (1 : Int)))) then ((v.getD i2.toNat default) == ([] : Str)) else false) = true then
          some (.inr (.inl (c5_04, c5_14)))
        else
          if (0 ≤ i2) then
            (v[i2.toNat]?).bind fun x31 =>
              (r08Split x31 (32 : Int)).bind fun v25 =>
                (v25[0]?).bind fun x32 =>
                  if (bif (x32 == ([110, 111, 116, 101] : Str)) then ((v25.length : Int) == (4 : Int)) else false) = true then
                    (v25[1]?).bind fun x33 =>
                      (v25[2]?).bind fun x34 =>
                        (r08Split x34 (43 : Int)).bind fun v26 =>
                          (v25[3]?).bind fun x35 =>
                            (v25[3]?).bind fun x36 =>
                              if (x36 == ([45] : Str)) = true then
                                refParseBook_j4 v i2 x33 v26 ([] : Str) c5_04 c5_14
                              else
                                refParseBook_j4 v i2 x33 v26 x35 c5_04 c5_14
                  else
                    if (decide ((3 : Int) ≤ (v25.length : Int))) = true then
                      (v25[0]?).bind fun x37 =>
                        (v25[1]?).bind fun x38 =>
                          (r08Num x38).bind fun v29 =>
                            (v25[2]?).bind fun x39 =>
                              (r08Num x39).bind fun v30 =>
                                (loopO (refParseBook_b2 v i2 v25 x37 v29 v30) ((3 : Int), [], false, c5_04, c5_14)).bind fun e => match e with
                                  | (c11_317, c11_420, c5_024, c5_124) =>
                                    refParseBook_j5 v i2 x37 v29 v30 c11_317 c11_420 c5_024 c5_124
                    else
                      refParseBook_j3 v i2 false c5_04 c5_14
          else none
      else none
    else
      some (.inr (.inl (c5_04, c5_14)))
noncomputable def refParseBook (s : Str) : Option (ApiNomenclature × Int × Int) :=
  (r08Split s (10 : Int)).bind fun v =>
    (loopO (refParseBook_b1 v) ((0 : Int), [], [])).bind fun e => match e with
      | (.inl (c5_015, c5_115)) =>
        refParseBook_j1 c5_015 c5_115
      | (.inr rv) =>
        some rv

noncomputable def lawNParse_j3 (s2 : Str) (lines : (List Str)) : Option (Bool) :=
  (refJoined lines ([10] : Str)).bind fun v6 =>
    (nomParse v6).bind fun v7 =>
      (refParseBook v6).bind fun v8 =>
        (nomParse s2).bind fun v9 =>
          (refParseBook s2).bind fun v10 =>
            (if (bif (v7.2.2 == v8.2.2) then (v7.2.1 == v8.2.1) else false) = true then sameBook v7.1 v8.1 else some default).bind fun v11 =>
              (if (bif (bif (bif (bif (v7.2.2 == v8.2.2) then (v7.2.1 == v8.2.1) else false) then v11 else false) then (v9.2.2 == v10.2.2) else false) then (v9.2.1 == v10.2.1) else false) = true then sameBook v9.1 v10.1 else some default).bind fun v12 =>
                (if (bif (bif (bif (bif (bif (v7.2.2 == v8.2.2) then (v7.2.1 == v8.2.1) else false) then v11 else false) then (v9.2.2 == v10.2.2) else false) then (v9.2.1 == v10.2.1) else false) then v12 else false) = true then awake09  else some default).bind fun v13 =>
                  some (bif (bif (bif (bif (bif (bif (v7.2.2 == v8.2.2) then (v7.2.1 == v8.2.1) else false) then v11 else false) then (v9.2.2 == v10.2.2) else false) then (v9.2.1 == v10.2.1) else false) then v12 else false) then v13 else false)
noncomputable def lawNParse_j2 (from_ : Int) (to_ : Int) (s2 : Str) (b : (List Int)) : Option (Bool) :=
  (r08SplitR (bytesI b) (10 : Int)).bind fun v3 =>
    (within from_ (v3.length : Int)).bind fun v4 =>
      (within to_ (v3.length : Int)).bind fun v5 =>
        if ((IntKind.i64.wrap ((BitVec.ofInt (IntKind.i64).bits from_ &&& BitVec.ofInt (IntKind.i64).bits (64 : Int)).toNat : Int)) == (64 : Int)) = true then
          if (0 ≤ v5 ∧ v5 < (v3.length : Int)) then
            if (0 ≤ v4 ∧ v4 < (v3.length : Int)) then
              if (0 ≤ v4 ∧ v4 < (v3.length : Int)) then
                if (0 ≤ v5 ∧ v5 < ((v3.set v4.toNat (v3.getD v5.toNat default)).length : Int)) then
                  lawNParse_j3 s2 ((v3.set v4.toNat (v3.getD v5.toNat default)).set v5.toNat (v3.getD v4.toNat default))
                else none
              else none
            else none
          else none
        else
          lawNParse_j3 s2 v3
noncomputable def lawNParse_b1 (at_ : (List Int)) (by_ : (List Int)) (from_ : Int) (to_ : Int) (s2 : Str) : (Int × (List Int)) → Option ((Int × (List Int)) ⊕ ((List Int)))
  | (i, b2) =>
    if (bif (bif (decide (i < (at_.length : Int))) then (decide (i < (by_.length : Int))) else false) then (decide (i < (2 : Int))) else false) = true then
      if (0 ≤ i) then
        (at_[i.toNat]?).bind fun x3 =>
          (within x3 (b2.length : Int)).bind fun v15 =>
            if (0 ≤ i) then
              (by_[i.toNat]?).bind fun x4 =>
                if (0 ≤ v15 ∧ v15 < (b2.length : Int)) then
                  some (.inl ((IntKind.i64.wrap (i + (1 : Int))), (b2.set v15.toNat x4)))
                else none
            else none
      else none
    else
      some (.inr b2)
noncomputable def lawNParse_j1 (l : (List Int)) (at_ : (List Int)) (by_ : (List Int)) (from_ : Int) (to_ : Int) (s2 : Str) : Option (Bool) :=
  (madeNom l).bind fun v =>
    (refFormatBook v).bind fun v2 =>
      if (v2.length ≤ 9223372036854775807) then
        (loopO (lawNParse_b1 at_ by_ from_ to_ s2) ((0 : Int), (intsB v2))).bind fun e => match e with
          | b4 =>
            lawNParse_j2 from_ to_ s2 b4
      else none
noncomputable def lawNParse (s : Str) (l : (List Int)) (at_ : (List Int)) (by_ : (List Int)) (from_ : Int) (to_ : Int) : Option (Bool) :=
  if (decide ((300 : Int) < (s.length : Int))) = true then
    if (0 ≤ (0 : Int) ∧ (0 : Int) ≤ (300 : Int) ∧ (300 : Int) ≤ (s.length : Int)) then
      lawNParse_j1 l at_ by_ from_ to_ ((s.take (300 : Int).toNat).drop (0 : Int).toNat)
    else none
  else
    lawNParse_j1 l at_ by_ from_ to_ s

end Go.C
