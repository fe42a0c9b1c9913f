/- Packed by pack.py. -/
import Derived.Test.YtaeplfiaahkgpaaGreatDoorQu3
import Derived.Lib.SlicesCompact
noncomputable section zPg
set_option linter.unusedVariables false
namespace Go.C
open Go.V
def refHas_j1  : Option (Bool) := some false
def refHas_b1 (l : (List Str)) (s : Str) : (Int) → Option ((Int) ⊕ ((Bool) ⊕ (Unit)))
 | i => if (decide (i < (l.length : Int))) = true then if (0 ≤ i) then (l[i.toNat]?).bind fun x2 => if (x2 == s) = true then some (.inr (.inl true)) else some (.inl (IntKind.i64.wrap (i + (1 : Int)))) else none else some (.inr (.inr ()))
def refHas (l : (List Str)) (s : Str) : Option (Bool) := (loopO (refHas_b1 l s) (0 : Int)).bind fun e => match e with
 | (.inl rv) => some rv
 | (.inr ()) => refHas_j1
def refSubset_j1  : Option (Bool) := some true
def refSubset_b1 (a : (List Str)) (b : (List Str)) : (Int) → Option ((Int) ⊕ ((Bool) ⊕ (Unit)))
 | i => if (decide (i < (a.length : Int))) = true then if (0 ≤ i) then (a[i.toNat]?).bind fun x2 => (refHas b x2).bind fun v2 => if (!v2) = true then some (.inr (.inl false)) else some (.inl (IntKind.i64.wrap (i + (1 : Int)))) else none else some (.inr (.inr ()))
def refSubset (a : (List Str)) (b : (List Str)) : Option (Bool) := (loopO (refSubset_b1 a b) (0 : Int)).bind fun e => match e with
 | (.inl rv) => some rv
 | (.inr ()) => refSubset_j1
def refWith_j1 (l : (List Str)) (s : Str) (k : Int) : Option ((List Str)) := if ((decide (k < (l.length : Int))) = true → (0 ≤ k ∧ k < (l.length : Int))) then if (bif (decide (k < (l.length : Int))) then ((l.getD k.toNat default) == s) else false) = true then some l else if (0 ≤ (0 : Int) ∧ (0 : Int) ≤ k ∧ k ≤ (l.length : Int)) then if (0 + ((l.take k.toNat).drop (0 : Int).toNat).length ≤ 137438953472) then if (((l.take k.toNat).drop (0 : Int).toNat).length + [s].length ≤ 137438953472) then if (0 ≤ k ∧ k ≤ (l.length : Int)) then if ((((l.take k.toNat).drop (0 : Int).toNat) ++ [s]).length + (l.drop k.toNat).length ≤ 137438953472) then some ((((l.take k.toNat).drop (0 : Int).toNat) ++ [s]) ++ (l.drop k.toNat)) else none else none else none else none else none else none
def refWith_b1 (l : (List Str)) (s : Str) : (Int) → Option ((Int) ⊕ (Int))
 | k2 => if ((decide (k2 < (l.length : Int))) = true → (0 ≤ k2 ∧ k2 < (l.length : Int))) then if (bif (decide (k2 < (l.length : Int))) then (Op.bytesLess (l.getD k2.toNat default) s) else false) = true then some (.inl (IntKind.i64.wrap (k2 + (1 : Int)))) else some (.inr k2) else none
def refWith (l : (List Str)) (s : Str) : Option ((List Str)) := (loopO (refWith_b1 l s) (0 : Int)).bind fun e => match e with
 | k4 => refWith_j1 l s k4
def refUnion_j2 (out2 : (List Str)) : Option ((List Str)) := some out2
def refUnion_b1 (b : (List Str)) : (Int × (List Str)) → Option ((Int × (List Str)) ⊕ ((List Str)))
 | (i, out3) => if (decide (i < (b.length : Int))) = true then if (0 ≤ i) then (b[i.toNat]?).bind fun x2 => (refWith out3 x2).bind fun v2 => some (.inl ((IntKind.i64.wrap (i + (1 : Int))), v2)) else none else some (.inr out3)
def refUnion_j1 (b : (List Str)) (out : (List Str)) : Option ((List Str)) := (loopO (refUnion_b1 b) ((0 : Int), out)).bind fun e => match e with
 | out5 => refUnion_j2 out5
def refUnion_b2 (a : (List Str)) (b : (List Str)) : (Int × (List Str)) → Option ((Int × (List Str)) ⊕ ((List Str)))
 | (i4, out6) => if (decide (i4 < (a.length : Int))) = true then if (0 ≤ i4) then (a[i4.toNat]?).bind fun x5 => (refWith out6 x5).bind fun v5 => some (.inl ((IntKind.i64.wrap (i4 + (1 : Int))), v5)) else none else some (.inr out6)
def refUnion (a : (List Str)) (b : (List Str)) : Option ((List Str)) := (loopO (refUnion_b2 a b) ((0 : Int), [])).bind fun e => match e with
 | out7 => refUnion_j1 b out7
def sameStrings_j1  : Option (Bool) := some true
def sameStrings_b1 (a : (List Str)) (b : (List Str)) : (Int) → Option ((Int) ⊕ ((Bool) ⊕ (Unit)))
 | i => if (decide (i < (a.length : Int))) = true then if (0 ≤ i) then (a[i.toNat]?).bind fun x3 => if (0 ≤ i) then (b[i.toNat]?).bind fun x4 => if (!(x3 == x4)) = true then some (.inr (.inl false)) else some (.inl (IntKind.i64.wrap (i + (1 : Int)))) else none else none else some (.inr (.inr ()))
def sameStrings (a : (List Str)) (b : (List Str)) : Option (Bool) := if ((a.length : Int) != (b.length : Int)) = true then some false else (loopO (sameStrings_b1 a b) (0 : Int)).bind fun e => match e with
 | (.inl rv) => some rv
 | (.inr ()) => sameStrings_j1
def refPrefix (code : Str) (p : Str) : Option (Bool) := if (decide ((p.length : Int) ≤ (code.length : Int))) = true → (0 ≤ (0 : Int) ∧ (0 : Int) ≤ (p.length : Int) ∧ (p.length : Int) ≤ (code.length : Int)) then some (bif (decide ((p.length : Int) ≤ (code.length : Int))) then (((code.take (p.length : Int).toNat).drop (0 : Int).toNat) == p) else false) else none
def refAt_j1 (out : (List YB)) : Option ((List YB)) := some out
def refAt_j2 (b : YE) (day : Int) (i2 : Int) (out6 : (List YB)) : Option ((Int × (List YB)) ⊕ ((List YB))) := some (.inl ((IntKind.i64.wrap (i2 + (1 : Int))), out6))
def refAt_b1 (b : YE) (day : Int) : (Int × (List YB)) → Option ((Int × (List YB)) ⊕ ((List YB)))
 | (i2, out3) => if (decide (i2 < (b.Entries.length : Int))) = true then if (0 ≤ i2) then (b.Entries[i2.toNat]?).bind fun x5 => if ((decide (x5.From ≤ day)) = true → (0 ≤ i2 ∧ i2 < (b.Entries.length : Int))) then if (bif (decide (x5.From ≤ day)) then (decide (day < ((b.Entries.getD i2.toNat default).To))) else false) = true then if (0 ≤ i2) then (b.Entries[i2.toNat]?).bind fun x6 => if (out3.length + [x6].length ≤ 137438953472) then refAt_j2 b day i2 (out3 ++ [x6]) else none else none else refAt_j2 b day i2 out3 else none else none else some (.inr out3)
def refAt (b : YE) (day : Int) : Option ((List YB)) := (loopO (refAt_b1 b day) ((0 : Int), [])).bind fun e => match e with
 | out5 => refAt_j1 out5
def refBelow_j1 (out : (List YB)) : Option ((List YB)) := some out
def refBelow_j2 (code : Str) (v : (List YB)) (i2 : Int) (out6 : (List YB)) : Option ((Int × (List YB)) ⊕ ((List YB))) := some (.inl ((IntKind.i64.wrap (i2 + (1 : Int))), out6))
def refBelow_b1 (code : Str) (v : (List YB)) : (Int × (List YB)) → Option ((Int × (List YB)) ⊕ ((List YB)))
 | (i2, out3) => if (decide (i2 < (v.length : Int))) = true then if (0 ≤ i2) then (v[i2.toNat]?).bind fun x5 => if (((!(bif (code == ([] : Str)) then ((x5.Code.length : Int) == (4 : Int)) else false)) && (bif (!(code == ([] : Str))) then ((x5.Code.length : Int) == (IntKind.i64.wrap ((code.length : Int) + (2 : Int)))) else false)) = true → (0 ≤ i2 ∧ i2 < (v.length : Int))) then (if ((!(bif (code == ([] : Str)) then ((x5.Code.length : Int) == (4 : Int)) else false)) && (bif (!(code == ([] : Str))) then ((x5.Code.length : Int) == (IntKind.i64.wrap ((code.length : Int) + (2 : Int)))) else false)) = true then refPrefix ((v.getD i2.toNat default).Code) code else some default).bind fun v4 => if (bif (bif (code == ([] : Str)) then ((x5.Code.length : Int) == (4 : Int)) else false) then true else (bif (bif (!(code == ([] : Str))) then ((x5.Code.length : Int) == (IntKind.i64.wrap ((code.length : Int) + (2 : Int)))) else false) then v4 else false)) = true then if (0 ≤ i2) then (v[i2.toNat]?).bind fun x6 => if (out3.length + [x6].length ≤ 137438953472) then refBelow_j2 code v i2 (out3 ++ [x6]) else none else none else refBelow_j2 code v i2 out3 else none else none else some (.inr out3)
def refBelow (b : YE) (day : Int) (code : Str) : Option ((List YB)) := (refAt b day).bind fun v => (loopO (refBelow_b1 code v) ((0 : Int), [])).bind fun e => match e with
 | out5 => refBelow_j1 out5
def refExcluded_j1  : Option (Bool) := some false
def refExcluded_b1 (b : YE) (code : Str) (words : (List Str)) : (Int) → Option ((Int) ⊕ ((Bool) ⊕ (Unit)))
 | i => if (decide (i < (b.Notes.length : Int))) = true then if (0 ≤ i) then (b.Notes[i.toNat]?).bind fun x2 => (refPrefix code x2.Scope).bind fun v3 => if (v3 = true → (0 ≤ i ∧ i < (b.Notes.length : Int))) then (if v3 = true then refSubset ((b.Notes.getD i.toNat default).Words) words else some default).bind fun v4 => if (bif v3 then v4 else false) = true then some (.inr (.inl true)) else some (.inl (IntKind.i64.wrap (i + (1 : Int)))) else none else none else some (.inr (.inr ()))
def refExcluded (b : YE) (code : Str) (words : (List Str)) : Option (Bool) := (loopO (refExcluded_b1 b code words) (0 : Int)).bind fun e => match e with
 | (.inl rv) => some rv
 | (.inr ()) => refExcluded_j1
def refAlts_j1 (out : (List (List Str))) : Option ((List (List Str))) := some out
def refAlts_j2 (b : YE) (x : YB) (i : Int) (out6 : (List (List Str))) : Option ((Int × (List (List Str))) ⊕ ((List (List Str)))) := some (.inl ((IntKind.i64.wrap (i + (1 : Int))), out6))
def refAlts_b1 (b : YE) (x : YB) : (Int × (List (List Str))) → Option ((Int × (List (List Str))) ⊕ ((List (List Str))))
 | (i, out2) => if (decide (i < (b.Notes.length : Int))) = true then if (0 ≤ i) then (b.Notes[i.toNat]?).bind fun x4 => if (x4.Target == x.Code) = true then if (0 ≤ i) then (b.Notes[i.toNat]?).bind fun x5 => if (out2.length + [x5.Words].length ≤ 137438953472) then refAlts_j2 b x i (out2 ++ [x5.Words]) else none else none else refAlts_j2 b x i out2 else none else some (.inr out2)
def refAlts (b : YE) (x : YB) : Option ((List (List Str))) := if (0 + x.Terms.length ≤ 137438953472) then (loopO (refAlts_b1 b x) ((0 : Int), x.Terms)).bind fun e => match e with
 | out5 => refAlts_j1 out5 else none
def refScore_j1 (n1 : Int) : Option (Int) := some n1
def refScore_j2 (words : (List Str)) (v2 : (List (List Str))) (i : Int) (n16 : Int) : Option ((Int × Int) ⊕ (Int)) := some (.inl ((IntKind.i64.wrap (i + (1 : Int))), n16))
def refScore_b1 (words : (List Str)) (v2 : (List (List Str))) : (Int × Int) → Option ((Int × Int) ⊕ (Int))
 | (i, n12) => if (decide (i < (v2.length : Int))) = true then if (0 ≤ i) then (v2[i.toNat]?).bind fun x4 => (refSubset x4 words).bind fun v4 => if v4 = true then if (0 ≤ i) then (v2[i.toNat]?).bind fun x5 => refScore_j2 words v2 i (if (x5.length : Int) > n12 then (x5.length : Int) else n12) else none else refScore_j2 words v2 i n12 else none else some (.inr n12)
def refScore (b : YE) (x : YB) (words : (List Str)) : Option (Int) := (refExcluded b x.Code words).bind fun v => if v = true then some (0 : Int) else (refAlts b x).bind fun v2 => (loopO (refScore_b1 words v2) ((0 : Int), (0 : Int))).bind fun e => match e with
 | n15 => refScore_j1 n15
end Go.C
end zPg
noncomputable section zPn
set_option linter.unusedVariables false
namespace Go.C
open Go.V
def described (l : (List Str)) : Option (Bool) := (if (decide ((0 : Int) < (l.length : Int))) = true then validWords l else some default).bind fun v => some (bif (decide ((0 : Int) < (l.length : Int))) then v else false)
def growInt_j1 (s : (List Int)) : Option ((List Int)) := some s
def growInt (n1 : Int) : Option ((List Int)) := if (decide (n1 < (0 : Int))) = true then none else if (decide ((0 : Int) < (IntKind.i64.wrap (n1 - (IntKind.i64.wrap ((0 : Int) - (0 : Int))))))) = true then if (0 < (IntKind.i64.wrap (n1 - (IntKind.i64.wrap ((0 : Int) - (0 : Int))))) ∧ (IntKind.i64.wrap (n1 - (IntKind.i64.wrap ((0 : Int) - (0 : Int))))) ≤ 137438953472) then growInt_j1 [] else none else growInt_j1 []
def concatInt_j2 (newslice : (List Int)) : Option ((List Int)) := some newslice
def concatInt_b1 (slices : (List (List Int))) : (Int × (List Int)) → Option ((Int × (List Int)) ⊕ ((List Int)))
 | (t27, newslice2) => if (decide (t27 < (slices.length : Int))) = true then if (0 ≤ t27) then (slices[t27.toNat]?).bind fun x2 => if (newslice2.length + x2.length ≤ 137438953472) then some (.inl ((IntKind.i64.wrap (t27 + (1 : Int))), (newslice2 ++ x2))) else none else none else some (.inr newslice2)
def concatInt_j1 (slices : (List (List Int))) (size : Int) : Option ((List Int)) := (growInt size).bind fun v => (loopO (concatInt_b1 slices) ((0 : Int), v)).bind fun e => match e with
 | newslice4 => concatInt_j2 newslice4
def concatInt_b2 (slices : (List (List Int))) : (Int × Int) → Option ((Int × Int) ⊕ (Int))
 | (t11, size2) => if (decide (t11 < (slices.length : Int))) = true then if (0 ≤ t11) then (slices[t11.toNat]?).bind fun x4 => if (decide ((IntKind.i64.wrap (size2 + (x4.length : Int))) < (0 : Int))) = true then none else some (.inl ((IntKind.i64.wrap (t11 + (1 : Int))), (IntKind.i64.wrap (size2 + (x4.length : Int))))) else none else some (.inr size2)
def concatInt (slices : (List (List Int))) : Option ((List Int)) := (loopO (concatInt_b2 slices) ((0 : Int), (0 : Int))).bind fun e => match e with
 | size4 => concatInt_j1 slices size4
def complete_j1 (shares : (List Int)) (sum : Int) : Option (Bool) := some (bif ((shares.length : Int) == (0 : Int)) then true else (sum == (1000000 : Int)))
def complete_b1 (shares : (List Int)) : (Int × Int) → Option ((Int × Int) ⊕ (Int))
 | (t8, sum2) => if (decide (t8 < (shares.length : Int))) = true then if (0 ≤ t8) then (shares[t8.toNat]?).bind fun x2 => some (.inl ((IntKind.i64.wrap (t8 + (1 : Int))), (IntKind.i64.wrap (sum2 + x2)))) else none else some (.inr sum2)
def complete (shares : (List Int)) : Option (Bool) := (loopO (complete_b1 shares) ((0 : Int), (0 : Int))).bind fun e => match e with
 | sum4 => complete_j1 shares sum4
def goodsValidate_j3 (parts : (List Int)) (materials2 : (List Int)) : Option (Int) := (complete materials2).bind fun v4 => (if (!(!v4)) = true then complete parts else some default).bind fun v5 => if (bif (!v4) then true else (!v5)) = true then some (1 : Int) else some (0 : Int)
def goodsValidate_b1 (parts : (List Int)) (materials2 : (List Int)) (v3 : (List Int)) : (Int × (List Int)) → Option ((Int × (List Int)) ⊕ ((Int) ⊕ (Unit)))
 | (t69, t67) => if (decide (t69 < (v3.length : Int))) = true then if (0 ≤ t69 ∧ t69 < (t67.length : Int)) then if (bif (decide ((t67.getD t69.toNat default) < (1 : Int))) then true else (decide ((1000000 : Int) < (t67.getD t69.toNat default)))) = true then some (.inr (.inl (2 : Int))) else some (.inl ((IntKind.i64.wrap (t69 + (1 : Int))), t67)) else none else some (.inr (.inr ()))
def goodsValidate_j2 (parts : (List Int)) (materials2 : (List Int)) : Option (Int) := (concatInt [materials2, parts]).bind fun v3 => (loopO (goodsValidate_b1 parts materials2 v3) ((0 : Int), v3)).bind fun e => match e with
 | (.inl rv) => some rv
 | (.inr ()) => goodsValidate_j3 parts materials2
def goodsValidate_b2 (g : YR) : (Int × (List Int) × (List Int)) → Option ((Int × (List Int) × (List Int)) ⊕ ((Int) ⊕ ((List Int) × (List Int))))
 | (t502, parts2, materials4) => if (decide (t502 < (g.Parts.length : Int))) = true then if (0 ≤ t502) then (g.Parts[t502.toNat]?).bind fun x3 => (described x3.Words).bind fun v8 => if (!v8) = true then some (.inr (.inl (1 : Int))) else if (parts2.length + [x3.Share].length ≤ 137438953472) then some (.inl ((IntKind.i64.wrap (t502 + (1 : Int))), (parts2 ++ [x3.Share]), materials4)) else none else none else some (.inr (.inr (parts2, materials4)))
def goodsValidate_j1 (g : YR) (materials : (List Int)) (names : (List Str)) : Option (Int) := (validWords names).bind fun v2 => if (!v2) = true then some (1 : Int) else (loopO (goodsValidate_b2 g) ((0 : Int), [], materials)).bind fun e => match e with
 | (.inl rv) => some rv
 | (.inr (parts3, materials5)) => goodsValidate_j2 parts3 materials5
def goodsValidate_b3 (g : YR) : (Int × (List Int) × (List Str)) → Option ((Int × (List Int) × (List Str)) ⊕ ((List Int) × (List Str)))
 | (t292, materials6, names2) => if (decide (t292 < (g.Materials.length : Int))) = true then if (0 ≤ t292) then (g.Materials[t292.toNat]?).bind fun x6 => if (names2.length + [x6.Name].length ≤ 137438953472) then if (materials6.length + [x6.Share].length ≤ 137438953472) then some (.inl ((IntKind.i64.wrap (t292 + (1 : Int))), (materials6 ++ [x6.Share]), (names2 ++ [x6.Name]))) else none else none else none else some (.inr (materials6, names2))
def goodsValidate (g : YR) : Option (Int) := (described g.Words).bind fun v => if (!v) = true then some (1 : Int) else if (bif (decide ((8 : Int) < (g.Materials.length : Int))) then true else (decide ((6 : Int) < (g.Parts.length : Int)))) = true then some (8 : Int) else (loopO (goodsValidate_b3 g) ((0 : Int), [], [])).bind fun e => match e with
 | (materials7, names3) => goodsValidate_j1 g materials7 names3
def refGood_j5 (g : YR) (m1 : Int) (p : Int) : Option (Int) := if (bif (bif (decide ((0 : Int) < (g.Materials.length : Int))) then (m1 != (1000000 : Int)) else false) then true else (bif (decide ((0 : Int) < (g.Parts.length : Int))) then (p != (1000000 : Int)) else false)) = true then some (1 : Int) else some (0 : Int)
def refGood_b1 (g : YR) (m1 : Int) : (Int × Int) → Option ((Int × Int) ⊕ (Int))
 | (i, p2) => if (decide (i < (g.Parts.length : Int))) = true then if (0 ≤ i) then (g.Parts[i.toNat]?).bind fun x2 => some (.inl ((IntKind.i64.wrap (i + (1 : Int))), (IntKind.i64.wrap (p2 + x2.Share)))) else none else some (.inr p2)
def refGood_j4 (g : YR) (m1 : Int) : Option (Int) := (loopO (refGood_b1 g m1) ((0 : Int), (0 : Int))).bind fun e => match e with
 | p4 => refGood_j5 g m1 p4
def refGood_b2 (g : YR) : (Int × Int) → Option ((Int × Int) ⊕ (Int))
 | (i3, m12) => if (decide (i3 < (g.Materials.length : Int))) = true then if (0 ≤ i3) then (g.Materials[i3.toNat]?).bind fun x4 => some (.inl ((IntKind.i64.wrap (i3 + (1 : Int))), (IntKind.i64.wrap (m12 + x4.Share)))) else none else some (.inr m12)
def refGood_j3 (g : YR) (far2 : Bool) : Option (Int) := if far2 = true then some (2 : Int) else (loopO (refGood_b2 g) ((0 : Int), (0 : Int))).bind fun e => match e with
 | m14 => refGood_j4 g m14
def refGood_b3 (g : YR) : (Int × Bool) → Option ((Int × Bool) ⊕ (Bool))
 | (i5, far3) => if (decide (i5 < (g.Materials.length : Int))) = true then if ((!far3) = true → (0 ≤ i5 ∧ i5 < (g.Materials.length : Int))) then if ((!(bif far3 then true else (decide (((g.Materials.getD i5.toNat default).Share) < (1 : Int))))) = true → (0 ≤ i5 ∧ i5 < (g.Materials.length : Int))) then some (.inl ((IntKind.i64.wrap (i5 + (1 : Int))), (bif (bif far3 then true else (decide (((g.Materials.getD i5.toNat default).Share) < (1 : Int)))) then true else (decide ((1000000 : Int) < ((g.Materials.getD i5.toNat default).Share)))))) else none else none else some (.inr far3)
def refGood_j2 (g : YR) (far : Bool) : Option (Int) := (loopO (refGood_b3 g) ((0 : Int), far)).bind fun e => match e with
 | far5 => refGood_j3 g far5
def refGood_b4 (g : YR) : (Int × Bool) → Option ((Int × Bool) ⊕ ((Int) ⊕ (Bool)))
 | (i7, far6) => if (decide (i7 < (g.Parts.length : Int))) = true then if (0 ≤ i7) then (g.Parts[i7.toNat]?).bind fun x6 => (refWords x6.Words).bind fun v3 => if ((!(!v3)) = true → (0 ≤ i7 ∧ i7 < (g.Parts.length : Int))) then if (bif (!v3) then true else ((((g.Parts.getD i7.toNat default).Words).length : Int) == (0 : Int))) = true then some (.inr (.inl (1 : Int))) else if ((!far6) = true → (0 ≤ i7 ∧ i7 < (g.Parts.length : Int))) then if ((!(bif far6 then true else (decide (((g.Parts.getD i7.toNat default).Share) < (1 : Int))))) = true → (0 ≤ i7 ∧ i7 < (g.Parts.length : Int))) then some (.inl ((IntKind.i64.wrap (i7 + (1 : Int))), (bif (bif far6 then true else (decide (((g.Parts.getD i7.toNat default).Share) < (1 : Int)))) then true else (decide ((1000000 : Int) < ((g.Parts.getD i7.toNat default).Share)))))) else none else none else none else none else some (.inr (.inr far6))
def refGood_j1 (g : YR) : Option (Int) := (loopO (refGood_b4 g) ((0 : Int), false)).bind fun e => match e with
 | (.inl rv) => some rv
 | (.inr far8) => refGood_j2 g far8
def refGood_b5 (g : YR) : (Int) → Option ((Int) ⊕ ((Int) ⊕ (Unit)))
 | i9 => if (decide (i9 < (g.Materials.length : Int))) = true then if (0 ≤ i9) then (g.Materials[i9.toNat]?).bind fun x8 => (refWord x8.Name).bind fun v5 => if (((!(!v5)) && (decide ((0 : Int) < i9))) = true → (0 ≤ (IntKind.i64.wrap (i9 - (1 : Int))) ∧ (IntKind.i64.wrap (i9 - (1 : Int))) < (g.Materials.length : Int))) then if (bif (!v5) then true else (bif (decide ((0 : Int) < i9)) then (!Op.bytesLess ((g.Materials.getD (IntKind.i64.wrap (i9 - (1 : Int))).toNat default).Name) x8.Name) else false)) = true then some (.inr (.inl (1 : Int))) else some (.inl (IntKind.i64.wrap (i9 + (1 : Int)))) else none else none else some (.inr (.inr ()))
def refGood (g : YR) : Option (Int) := (refWords g.Words).bind fun v => if (bif (!v) then true else ((g.Words.length : Int) == (0 : Int))) = true then some (1 : Int) else if (bif (decide ((8 : Int) < (g.Materials.length : Int))) then true else (decide ((6 : Int) < (g.Parts.length : Int)))) = true then some (8 : Int) else (loopO (refGood_b5 g) (0 : Int)).bind fun e => match e with
 | (.inl rv) => some rv
 | (.inr ()) => refGood_j1 g
def charLess (a : YI) (b : YI) : Option (Int) := (cmpInt b.Share a.Share).bind fun v => some v
def insSort_j1 (a : Int) (b : Int) (i : Int) (row08 : (List YI)) : Option ((Int × (List YI)) ⊕ ((List YI))) := some (.inl ((IntKind.i64.wrap (i + (1 : Int))), row08))
def insSort_b2 (a : Int) (b : Int) (i : Int) : (Int × (List YI)) → Option ((Int × (List YI)) ⊕ ((List YI)))
 | (j3, row09) => if ((decide (a < j3)) = true → (0 ≤ j3 ∧ j3 < (row09.length : Int))) then if ((decide (a < j3)) = true → (0 ≤ (IntKind.i64.wrap (j3 - (1 : Int))) ∧ (IntKind.i64.wrap (j3 - (1 : Int))) < (row09.length : Int))) then (if (decide (a < j3)) = true then charLess (row09.getD j3.toNat default) (row09.getD (IntKind.i64.wrap (j3 - (1 : Int))).toNat default) else some default).bind fun v4 => if (bif (decide (a < j3)) then (decide (v4 < (0 : Int))) else false) = true then if (0 ≤ (IntKind.i64.wrap (j3 - (1 : Int))) ∧ (IntKind.i64.wrap (j3 - (1 : Int))) < (row09.length : Int)) then if (0 ≤ j3 ∧ j3 < (row09.length : Int)) then if (0 ≤ j3 ∧ j3 < (row09.length : Int)) then if (0 ≤ (IntKind.i64.wrap (j3 - (1 : Int))) ∧ (IntKind.i64.wrap (j3 - (1 : Int))) < ((row09.set j3.toNat (row09.getD (IntKind.i64.wrap (j3 - (1 : Int))).toNat default)).length : Int)) then some (.inl ((IntKind.i64.wrap (j3 - (1 : Int))), ((row09.set j3.toNat (row09.getD (IntKind.i64.wrap (j3 - (1 : Int))).toNat default)).set (IntKind.i64.wrap (j3 - (1 : Int))).toNat (row09.getD j3.toNat default)))) else none else none else none else none else some (.inr row09) else none else none
def insSort_b1 (a : Int) (b : Int) : (Int × (List YI)) → Option ((Int × (List YI)) ⊕ ((List YI)))
 | (i, row0) => if (decide (i < b)) = true then (loopO (insSort_b2 a b i) (i, row0)).bind fun e => match e with
 | row011 => insSort_j1 a b i row011 else some (.inr row0)
def insSort (data : (List YI)) (a : Int) (b : Int) : Option ((List YI)) := (loopO (insSort_b1 a b) ((IntKind.i64.wrap (a + (1 : Int))), data)).bind fun e => match e with
 | row07 => some row07
def stableSort_j2 (n1 : Int) (v : (List YI)) (blockSize : Int) (a6 : Int) : Option ((Int) ⊕ (Unit)) := if (decide ((IntKind.i64.wrap (a6 + blockSize)) < n1)) = true then none else some (.inl (IntKind.i64.wrap (blockSize * (2 : Int))))
def stableSort_b2 (n1 : Int) (v : (List YI)) (blockSize : Int) : (Int × Int) → Option ((Int × Int) ⊕ (Int))
 | (b3, a7) => if (decide (b3 ≤ n1)) = true then none else some (.inr a7)
def stableSort_b1 (n1 : Int) (v : (List YI)) : (Int) → Option ((Int) ⊕ (Unit))
 | blockSize => if (decide (blockSize < n1)) = true then (loopO (stableSort_b2 n1 v blockSize) ((IntKind.i64.wrap ((2 : Int) * blockSize)), (0 : Int))).bind fun e => match e with
 | a9 => stableSort_j2 n1 v blockSize a9 else some (.inr ())
def stableSort_j1 (n1 : Int) (a : Int) (row0 : (List YI)) : Option ((List YI)) := (insSort row0 a n1).bind fun v => (loopO (stableSort_b1 n1 v) (20 : Int)).bind fun e => match e with
 | () => some v
def stableSort_b3 (n1 : Int) : (Int × Int × (List YI)) → Option ((Int × Int × (List YI)) ⊕ (Int × (List YI)))
 | (b5, a10, row02) => if (decide (b5 ≤ n1)) = true then (insSort row02 a10 b5).bind fun v3 => some (.inl ((IntKind.i64.wrap (b5 + (20 : Int))), b5, v3)) else some (.inr (a10, row02))
def stableSort (data : (List YI)) (n1 : Int) : Option ((List YI)) := (loopO (stableSort_b3 n1) ((20 : Int), (0 : Int), data)).bind fun e => match e with
 | (a12, row04) => stableSort_j1 n1 a12 row04
def sortStable (x : (List YI)) : Option ((List YI)) := (stableSort x (x.length : Int)).bind fun v => some v
def goodsCharacters_j2 (l2 : (List YI)) : Option ((List YI)) := (sortStable l2).bind fun v => some v
def goodsCharacters_b1 (g : YR) : (Int × (List YI)) → Option ((Int × (List YI)) ⊕ ((List YI)))
 | (t32, l3) => if (decide (t32 < (g.Materials.length : Int))) = true then if (0 ≤ t32) then (g.Materials[t32.toNat]?).bind fun x2 => if (l3.length + [(⟨[x2.Name], x2.Share⟩ : YI)].length ≤ 137438953472) then some (.inl ((IntKind.i64.wrap (t32 + (1 : Int))), (l3 ++ [(⟨[x2.Name], x2.Share⟩ : YI)]))) else none else none else some (.inr l3)
def goodsCharacters_j1 (g : YR) (l : (List YI)) : Option ((List YI)) := if ((g.Parts.length : Int) == (0 : Int)) = true then (loopO (goodsCharacters_b1 g) ((0 : Int), l)).bind fun e => match e with
 | l5 => goodsCharacters_j2 l5 else goodsCharacters_j2 l
def goodsCharacters_b2 (g : YR) : (Int × (List YI)) → Option ((Int × (List YI)) ⊕ ((List YI)))
 | (t112, l6) => if (decide (t112 < (g.Parts.length : Int))) = true then if (0 ≤ t112) then (g.Parts[t112.toNat]?).bind fun x5 => (cloneS x5.Words).bind fun v4 => if (l6.length + [(⟨v4, x5.Share⟩ : YI)].length ≤ 137438953472) then some (.inl ((IntKind.i64.wrap (t112 + (1 : Int))), (l6 ++ [(⟨v4, x5.Share⟩ : YI)]))) else none else none else some (.inr l6)
def goodsCharacters (g : YR) : Option ((List YI)) := (loopO (goodsCharacters_b2 g) ((0 : Int), [])).bind fun e => match e with
 | l7 => goodsCharacters_j1 g l7
def refCharacters_j2 (out : (List YI)) : Option ((List YI)) := some out
def refCharacters_j3 (best13 : Int) (out10 : (List YI)) (l16 : (List YI)) : Option (((List YI) × (List YI)) ⊕ ((List YI))) := if (0 ≤ best13 ∧ best13 < (l16.length : Int)) then if (out10.length + [(l16.getD best13.toNat default)].length ≤ 137438953472) then if (0 ≤ (0 : Int) ∧ (0 : Int) ≤ best13 ∧ best13 ≤ (l16.length : Int)) then if (0 + ((l16.take best13.toNat).drop (0 : Int).toNat).length ≤ 137438953472) then if (0 ≤ (IntKind.i64.wrap (best13 + (1 : Int))) ∧ (IntKind.i64.wrap (best13 + (1 : Int))) ≤ (l16.length : Int)) then if (((l16.take best13.toNat).drop (0 : Int).toNat).length + (l16.drop (IntKind.i64.wrap (best13 + (1 : Int))).toNat).length ≤ 137438953472) then some (.inl ((out10 ++ [(l16.getD best13.toNat default)]), (((l16.take best13.toNat).drop (0 : Int).toNat) ++ (l16.drop (IntKind.i64.wrap (best13 + (1 : Int))).toNat)))) else none else none else none else none else none else none
def refCharacters_j4 (i5 : Int) (best18 : Int) (out15 : (List YI)) (l21 : (List YI)) : Option ((Int × Int × (List YI) × (List YI)) ⊕ (Int × (List YI) × (List YI))) := some (.inl ((IntKind.i64.wrap (i5 + (1 : Int))), best18, out15, l21))
def refCharacters_b2  : (Int × Int × (List YI) × (List YI)) → Option ((Int × Int × (List YI) × (List YI)) ⊕ (Int × (List YI) × (List YI)))
 | (i5, best14, out11, l17) => if (decide (i5 < (l17.length : Int))) = true then if (0 ≤ i5 ∧ i5 < (l17.length : Int)) then if (0 ≤ best14 ∧ best14 < (l17.length : Int)) then if (decide (((l17.getD best14.toNat default).Share) < ((l17.getD i5.toNat default).Share))) = true then refCharacters_j4 i5 i5 out11 l17 else refCharacters_j4 i5 best14 out11 l17 else none else none else some (.inr (best14, out11, l17))
def refCharacters_b1  : ((List YI) × (List YI)) → Option (((List YI) × (List YI)) ⊕ ((List YI)))
 | (out2, l9) => if (decide ((0 : Int) < (l9.length : Int))) = true then (loopO (refCharacters_b2) ((1 : Int), (0 : Int), out2, l9)).bind fun e => match e with
 | (best17, out14, l20) => refCharacters_j3 best17 out14 l20 else some (.inr out2)
def refCharacters_j1 (l : (List YI)) : Option ((List YI)) := (loopO (refCharacters_b1) ([], l)).bind fun e => match e with
 | out9 => refCharacters_j2 out9
def refCharacters_b3 (g : YR) : (Int × (List YI)) → Option ((Int × (List YI)) ⊕ ((List YI)))
 | (i7, l22) => if (decide (i7 < (g.Materials.length : Int))) = true then if (0 ≤ i7) then (g.Materials[i7.toNat]?).bind fun x3 => if (0 ≤ i7) then (g.Materials[i7.toNat]?).bind fun x4 => if (l22.length + [(⟨[x3.Name], x4.Share⟩ : YI)].length ≤ 137438953472) then some (.inl ((IntKind.i64.wrap (i7 + (1 : Int))), (l22 ++ [(⟨[x3.Name], x4.Share⟩ : YI)]))) else none else none else none else some (.inr l22)
def refCharacters (g : YR) : Option ((List YI)) := if (0 + g.Parts.length ≤ 137438953472) then if ((g.Parts.length : Int) == (0 : Int)) = true then (loopO (refCharacters_b3 g) ((0 : Int), g.Parts)).bind fun e => match e with
 | l24 => refCharacters_j1 l24 else refCharacters_j1 g.Parts else none
end Go.C
end zPn
noncomputable section zSp
set_option linter.unusedVariables false
namespace Go.C
def sortS (l : List Str) : Option (List Str) := if l.length < 4611686018427387904 then some (l.mergeSort fun x y => decide (x ≤ y)) else none
def compactS (l : List Str) : Option (List Str) := if l.length ≤ 9223372036854775807 then some (Lib.compact l) else none
end Go.C
end zSp
noncomputable section zPo
set_option linter.unusedVariables false
namespace Go.C
open Go.V
def setOf_j1 (keys : (List Str)) : Option ((List Str)) := some keys
def setOf_b1 (l : (List Str)) : (Int × (List Str)) → Option ((Int × (List Str)) ⊕ ((List Str)))
 | (t9, keys2) => if (decide (t9 < (l.length : Int))) = true then if (0 ≤ t9) then (l[t9.toNat]?).bind fun x2 => some (.inl ((IntKind.i64.wrap (t9 + (1 : Int))), (addKey keys2 x2))) else none else some (.inr keys2)
def setOf (l : (List Str)) : Option ((List Str)) := (loopO (setOf_b1 l) ((0 : Int), [])).bind fun e => match e with
 | keys4 => setOf_j1 keys4
def memberIn2 (s : Str) (a1 : (List Str)) : Option (Bool) := some (a1.contains s)
def memberB (l : (List Str)) : Option ((List Str)) := if (decide ((l.length : Int) ≤ (50 : Int))) = true then none else (setOf l).bind fun v => some v
def commonS_j1 (count : Int) : Option (Int) := some count
def commonS_b1 (v : (List Str)) : Str → (Int) → Option (Int)
 | kx1, count2 => (memberIn kx1 v).bind fun v4 => if v4 = true then some (IntKind.i64.wrap (count2 + (1 : Int))) else some count2
def commonS (a : (List Str)) (b : (List Str)) : Option (Int) := (member b).bind fun v => (setOf a).bind fun v2 => (setFold (commonS_b1 v) v2 (0 : Int)).bind fun e => match e with
 | count2 => commonS_j1 count2
def commonB_j1 (count : Int) : Option (Int) := some count
def commonB_b1 (v : (List Str)) : Str → (Int) → Option (Int)
 | kx1, count2 => (memberIn2 kx1 v).bind fun v4 => if v4 = true then some (IntKind.i64.wrap (count2 + (1 : Int))) else some count2
def commonB (a : (List Str)) (b : (List Str)) : Option (Int) := (memberB b).bind fun v => (setOf a).bind fun v2 => (setFold (commonB_b1 v) v2 (0 : Int)).bind fun e => match e with
 | count2 => commonB_j1 count2
def growStr_j1 (s : (List Str)) : Option ((List Str)) := some s
def growStr (n1 : Int) : Option ((List Str)) := if (decide (n1 < (0 : Int))) = true then none else if (decide ((0 : Int) < (IntKind.i64.wrap (n1 - (IntKind.i64.wrap ((0 : Int) - (0 : Int))))))) = true then if (0 < (IntKind.i64.wrap (n1 - (IntKind.i64.wrap ((0 : Int) - (0 : Int))))) ∧ (IntKind.i64.wrap (n1 - (IntKind.i64.wrap ((0 : Int) - (0 : Int))))) ≤ 137438953472) then growStr_j1 [] else none else growStr_j1 []
def concatStr_j2 (newslice : (List Str)) : Option ((List Str)) := some newslice
def concatStr_b1 (slices : (List (List Str))) : (Int × (List Str)) → Option ((Int × (List Str)) ⊕ ((List Str)))
 | (t27, newslice2) => if (decide (t27 < (slices.length : Int))) = true then if (0 ≤ t27) then (slices[t27.toNat]?).bind fun x2 => if (newslice2.length + x2.length ≤ 137438953472) then some (.inl ((IntKind.i64.wrap (t27 + (1 : Int))), (newslice2 ++ x2))) else none else none else some (.inr newslice2)
def concatStr_j1 (slices : (List (List Str))) (size : Int) : Option ((List Str)) := (growStr size).bind fun v => (loopO (concatStr_b1 slices) ((0 : Int), v)).bind fun e => match e with
 | newslice4 => concatStr_j2 newslice4
def concatStr_b2 (slices : (List (List Str))) : (Int × Int) → Option ((Int × Int) ⊕ (Int))
 | (t11, size2) => if (decide (t11 < (slices.length : Int))) = true then if (0 ≤ t11) then (slices[t11.toNat]?).bind fun x4 => if (decide ((IntKind.i64.wrap (size2 + (x4.length : Int))) < (0 : Int))) = true then none else some (.inl ((IntKind.i64.wrap (t11 + (1 : Int))), (IntKind.i64.wrap (size2 + (x4.length : Int))))) else none else some (.inr size2)
def concatStr (slices : (List (List Str))) : Option ((List Str)) := (loopO (concatStr_b2 slices) ((0 : Int), (0 : Int))).bind fun e => match e with
 | size4 => concatStr_j1 slices size4
def union (a : (List Str)) (b : (List Str)) : Option ((List Str)) := (concatStr [a, b]).bind fun v => (sortS v).bind fun v2 => (compactS v2).bind fun v3 => some v3
end Go.C
end zPo
noncomputable section zPp
set_option linter.unusedVariables false
namespace Go.C
open Go.V
def refCommon_j1 (n1 : Int) : Option (Int) := some n1
def refCommon_j2 (b : (List Str)) (v : (List Str)) (i : Int) (n16 : Int) : Option ((Int × Int) ⊕ (Int)) := some (.inl ((IntKind.i64.wrap (i + (1 : Int))), n16))
def refCommon_b1 (b : (List Str)) (v : (List Str)) : (Int × Int) → Option ((Int × Int) ⊕ (Int))
 | (i, n12) => if (decide (i < (v.length : Int))) = true then if (0 ≤ i) then (v[i.toNat]?).bind fun x2 => (refHas b x2).bind fun v3 => if v3 = true then refCommon_j2 b v i (IntKind.i64.wrap (n12 + (1 : Int))) else refCommon_j2 b v i n12 else none else some (.inr n12)
def refCommon (a : (List Str)) (b : (List Str)) : Option (Int) := (refUnion a []).bind fun v => (loopO (refCommon_b1 b v) ((0 : Int), (0 : Int))).bind fun e => match e with
 | n15 => refCommon_j1 n15
def rIncomplete (g : YR) : Option ((List Str)) := (refUnion g.Words [([112, 97, 114, 116, 115] : Str)]).bind fun v => some v
def rLikeness_j3 (n1 : Int) : Option (Int) := some n1
def rLikeness_b1 (w12 : (List Str)) (v2 : (List (List Str))) : (Int × Int) → Option ((Int × Int) ⊕ (Int))
 | (i, n12) => if (decide (i < (v2.length : Int))) = true then if (0 ≤ i) then (v2[i.toNat]?).bind fun x3 => (refCommon x3 w12).bind fun v4 => some (.inl ((IntKind.i64.wrap (i + (1 : Int))), (if v4 > n12 then v4 else n12))) else none else some (.inr n12)
def rLikeness_j2 (b : YE) (x : YB) (w12 : (List Str)) : Option (Int) := (refAlts b x).bind fun v2 => (loopO (rLikeness_b1 w12 v2) ((0 : Int), (0 : Int))).bind fun e => match e with
 | n14 => rLikeness_j3 n14
def rLikeness_b2 (b : YE) (x : YB) (g : YR) : (Int × (List Str)) → Option ((Int × (List Str)) ⊕ ((List Str)))
 | (i3, w13) => if (decide (i3 < (g.Parts.length : Int))) = true then if (0 ≤ i3) then (g.Parts[i3.toNat]?).bind fun x5 => (refUnion w13 x5.Words).bind fun v6 => some (.inl ((IntKind.i64.wrap (i3 + (1 : Int))), v6)) else none else some (.inr w13)
def rLikeness_j1 (b : YE) (x : YB) (g : YR) (w1 : (List Str)) : Option (Int) := (loopO (rLikeness_b2 b x g) ((0 : Int), w1)).bind fun e => match e with
 | w15 => rLikeness_j2 b x w15
def rLikeness_b3 (b : YE) (x : YB) (g : YR) : (Int × (List Str)) → Option ((Int × (List Str)) ⊕ ((List Str)))
 | (i5, w16) => if (decide (i5 < (g.Materials.length : Int))) = true then if (0 ≤ i5) then (g.Materials[i5.toNat]?).bind fun x7 => (refWith w16 x7.Name).bind fun v8 => some (.inl ((IntKind.i64.wrap (i5 + (1 : Int))), v8)) else none else some (.inr w16)
def rLikeness (b : YE) (x : YB) (g : YR) : Option (Int) := (refExcluded b x.Code g.Words).bind fun v => if v = true then some (0 : Int) else (loopO (rLikeness_b3 b x g) ((0 : Int), g.Words)).bind fun e => match e with
 | w18 => rLikeness_j1 b x g w18
def rAsParts_j1  : Option (Bool) := some false
def rAsParts_b1 (b : YE) (x : YB) (v : (List Str)) (v2 : (List (List Str))) : (Int) → Option ((Int) ⊕ ((Bool) ⊕ (Unit)))
 | i => if (decide (i < (v2.length : Int))) = true then if (0 ≤ i) then (v2[i.toNat]?).bind fun x3 => (refHas x3 ([112, 97, 114, 116, 115] : Str)).bind fun v6 => if (v6 = true → (0 ≤ i ∧ i < (v2.length : Int))) then (if v6 = true then refSubset (v2.getD i.toNat default) v else some default).bind fun v7 => if (bif v6 then v7 else false) = true then (refExcluded b x.Code v).bind fun v8 => some (.inr (.inl (!v8))) else some (.inl (IntKind.i64.wrap (i + (1 : Int)))) else none else none else some (.inr (.inr ()))
def rAsParts (b : YE) (x : YB) (g : YR) : Option (Bool) := (rIncomplete g).bind fun v => (refAlts b x).bind fun v2 => (loopO (rAsParts_b1 b x v v2) (0 : Int)).bind fun e => match e with
 | (.inl rv) => some rv
 | (.inr ()) => rAsParts_j1
def rByCharacter_j1  : Option (Bool) := some false
def rByCharacter_b1 (b : YE) (x : YB) (v : (List YI)) : (Int) → Option ((Int) ⊕ ((Bool) ⊕ (Unit)))
 | i => if (decide (i < (v.length : Int))) = true then if (0 ≤ i) then (v[i.toNat]?).bind fun x3 => (refScore b x x3.Words).bind fun v3 => if (decide ((0 : Int) < v3)) = true then some (.inr (.inl true)) else some (.inl (IntKind.i64.wrap (i + (1 : Int)))) else none else some (.inr (.inr ()))
def rByCharacter (b : YE) (x : YB) (g : YR) : Option (Bool) := (refCharacters g).bind fun v => (loopO (rByCharacter_b1 b x v) (0 : Int)).bind fun e => match e with
 | (.inl rv) => some rv
 | (.inr ()) => rByCharacter_j1
def rFits (b : YE) (x : YB) (g : YR) (way : Int) (top : Bool) (best : Int) : Option (Bool) := if (way == (1 : Int)) = true then if g.Incomplete = true then (rAsParts b x g).bind fun v => some v else (refScore b x g.Words).bind fun v2 => some (decide ((0 : Int) < v2)) else if (way == (2 : Int)) = true then (if g.Incomplete = true then refScore b x g.Words else some default).bind fun v3 => some (bif g.Incomplete then (decide ((0 : Int) < v3)) else false) else if (way == (3 : Int)) = true then (rByCharacter b x g).bind fun v4 => some v4 else if (way == (4 : Int)) = true then some (bif (!top) then x.Other else false) else if (way == (5 : Int)) = true then (if (decide ((0 : Int) < best)) = true then rLikeness b x g else some default).bind fun v5 => some (bif (decide ((0 : Int) < best)) then (v5 == best) else false) else some (!top)
def rBasis_j2  : Option (Int × (List YB)) := some ((0 : Int), [])
def rBasis_j3 (b : YE) (g : YR) (parent : Str) (v : (List YB)) (best : Int) (way : Int) : Option ((Int) ⊕ ((Int × (List YB)) ⊕ (Unit))) := some (.inl (IntKind.i64.wrap (way + (1 : Int))))
def rBasis_j4 (b : YE) (g : YR) (parent : Str) (v : (List YB)) (best : Int) (way : Int) (c7 : (List YB)) : Option ((Int) ⊕ ((Int × (List YB)) ⊕ (Unit))) := if (decide ((0 : Int) < (c7.length : Int))) = true then if (0 ≤ way) then ([(0 : Int), (1 : Int), (2 : Int), (3 : Int), (8 : Int), (7 : Int), (7 : Int)][way.toNat]?).bind fun x8 => some (.inr (.inl (x8, c7))) else none else rBasis_j3 b g parent v best way
def rBasis_j5 (b : YE) (g : YR) (parent : Str) (v : (List YB)) (best : Int) (way : Int) (i4 : Int) (c12 : (List YB)) : Option ((Int × (List YB)) ⊕ ((List YB))) := some (.inl ((IntKind.i64.wrap (i4 + (1 : Int))), c12))
def rBasis_b2 (b : YE) (g : YR) (parent : Str) (v : (List YB)) (best : Int) (way : Int) : (Int × (List YB)) → Option ((Int × (List YB)) ⊕ ((List YB)))
 | (i4, c9) => if (decide (i4 < (v.length : Int))) = true then if (0 ≤ i4) then (v[i4.toNat]?).bind fun x13 => (rFits b x13 g way (parent == ([] : Str)) best).bind fun v7 => if v7 = true then if (0 ≤ i4) then (v[i4.toNat]?).bind fun x14 => if (c9.length + [x14].length ≤ 137438953472) then rBasis_j5 b g parent v best way i4 (c9 ++ [x14]) else none else none else rBasis_j5 b g parent v best way i4 c9 else none else some (.inr c9)
def rBasis_b1 (b : YE) (g : YR) (parent : Str) (v : (List YB)) (best : Int) : (Int) → Option ((Int) ⊕ ((Int × (List YB)) ⊕ (Unit)))
 | way => if (decide (way ≤ (6 : Int))) = true then (loopO (rBasis_b2 b g parent v best way) ((0 : Int), [])).bind fun e => match e with
 | c11 => rBasis_j4 b g parent v best way c11 else some (.inr (.inr ()))
def rBasis_j1 (b : YE) (g : YR) (parent : Str) (v : (List YB)) (best : Int) : Option (Int × (List YB)) := (loopO (rBasis_b1 b g parent v best) (1 : Int)).bind fun e => match e with
 | (.inl rv) => some rv
 | (.inr ()) => rBasis_j2
def rBasis_b3 (b : YE) (g : YR) (parent : Str) (v : (List YB)) : (Int × Int) → Option ((Int × Int) ⊕ (Int))
 | (i5, best2) => if (decide (i5 < (v.length : Int))) = true then if (0 ≤ i5) then (v[i5.toNat]?).bind fun x16 => (rLikeness b x16 g).bind fun v9 => some (.inl ((IntKind.i64.wrap (i5 + (1 : Int))), (if v9 > best2 then v9 else best2))) else none else some (.inr best2)
def rBasis (b : YE) (day : Int) (g : YR) (parent : Str) : Option (Int × (List YB)) := (refBelow b day parent).bind fun v => (loopO (rBasis_b3 b g parent v) ((0 : Int), (0 : Int))).bind fun e => match e with
 | best4 => rBasis_j1 b g parent v best4
def rSpecific_j3 (out : (List YB)) : Option ((List YB)) := some out
def rSpecific_j4 (b : YE) (c : (List YB)) (w1 : (List Str)) (best : Int) (i2 : Int) (out6 : (List YB)) : Option ((Int × (List YB)) ⊕ ((List YB))) := some (.inl ((IntKind.i64.wrap (i2 + (1 : Int))), out6))
def rSpecific_b1 (b : YE) (c : (List YB)) (w1 : (List Str)) (best : Int) : (Int × (List YB)) → Option ((Int × (List YB)) ⊕ ((List YB)))
 | (i2, out3) => if (decide (i2 < (c.length : Int))) = true then if (0 ≤ i2) then (c[i2.toNat]?).bind fun x5 => (refScore b x5 w1).bind fun v3 => if (v3 == best) = true then if (0 ≤ i2) then (c[i2.toNat]?).bind fun x6 => if (out3.length + [x6].length ≤ 137438953472) then rSpecific_j4 b c w1 best i2 (out3 ++ [x6]) else none else none else rSpecific_j4 b c w1 best i2 out3 else none else some (.inr out3)
def rSpecific_j2 (b : YE) (c : (List YB)) (w1 : (List Str)) (best : Int) : Option ((List YB)) := (loopO (rSpecific_b1 b c w1 best) ((0 : Int), [])).bind fun e => match e with
 | out5 => rSpecific_j3 out5
def rSpecific_b2 (b : YE) (c : (List YB)) (w1 : (List Str)) : (Int × Int) → Option ((Int × Int) ⊕ (Int))
 | (i3, best2) => if (decide (i3 < (c.length : Int))) = true then if (0 ≤ i3) then (c[i3.toNat]?).bind fun x8 => (refScore b x8 w1).bind fun v5 => some (.inl ((IntKind.i64.wrap (i3 + (1 : Int))), (if v5 > best2 then v5 else best2))) else none else some (.inr best2)
def rSpecific_j1 (b : YE) (c : (List YB)) (w1 : (List Str)) : Option ((List YB)) := (loopO (rSpecific_b2 b c w1) ((0 : Int), (0 : Int))).bind fun e => match e with
 | best4 => rSpecific_j2 b c w1 best4
def rSpecific (b : YE) (g : YR) (basis : Int) (c : (List YB)) : Option ((List YB)) := if (bif (basis != (1 : Int)) then (basis != (2 : Int)) else false) = true then some c else if (bif g.Incomplete then (basis == (1 : Int)) else false) = true then (rIncomplete g).bind fun v6 => rSpecific_j1 b c v6 else rSpecific_j1 b c g.Words
def rEssential_j1 (c : (List YB)) : Option ((List YB) × Bool) := some (c, false)
def rEssential_j2 (b : YE) (c : (List YB)) (v : (List YI)) (i : Int) : Option ((Int) ⊕ (((List YB) × Bool) ⊕ (Unit))) := some (.inl (IntKind.i64.wrap (i + (1 : Int))))
def rEssential_j3 (b : YE) (c : (List YB)) (v : (List YI)) (i : Int) (out7 : (List YB)) : Option ((Int) ⊕ (((List YB) × Bool) ⊕ (Unit))) := if (decide ((0 : Int) < (out7.length : Int))) = true then some (.inr (.inl (out7, true))) else rEssential_j2 b c v i
def rEssential_j4 (b : YE) (c : (List YB)) (v : (List YI)) (i : Int) (k4 : Int) (out12 : (List YB)) : Option ((Int × (List YB)) ⊕ ((List YB))) := some (.inl ((IntKind.i64.wrap (k4 + (1 : Int))), out12))
def rEssential_b2 (b : YE) (c : (List YB)) (v : (List YI)) (i : Int) : (Int × (List YB)) → Option ((Int × (List YB)) ⊕ ((List YB)))
 | (k4, out9) => if (decide (k4 < (c.length : Int))) = true then if (0 ≤ k4) then (c[k4.toNat]?).bind fun x16 => if (0 ≤ i) then (v[i.toNat]?).bind fun x17 => (refScore b x16 x17.Words).bind fun v7 => if (decide ((0 : Int) < v7)) = true then if (0 ≤ k4) then (c[k4.toNat]?).bind fun x18 => if (out9.length + [x18].length ≤ 137438953472) then rEssential_j4 b c v i k4 (out9 ++ [x18]) else none else none else rEssential_j4 b c v i k4 out9 else none else none else some (.inr out9)
def rEssential_b1 (b : YE) (c : (List YB)) (v : (List YI)) : (Int) → Option ((Int) ⊕ (((List YB) × Bool) ⊕ (Unit)))
 | i => if (decide (i < (v.length : Int))) = true then (loopO (rEssential_b2 b c v i) ((0 : Int), [])).bind fun e => match e with
 | out11 => rEssential_j3 b c v i out11 else some (.inr (.inr ()))
def rEssential (b : YE) (g : YR) (c : (List YB)) : Option ((List YB) × Bool) := (refCharacters g).bind fun v => (loopO (rEssential_b1 b c v) (0 : Int)).bind fun e => match e with
 | (.inl rv) => some rv
 | (.inr ()) => rEssential_j1 c
def rReduce (b : YE) (g : YR) (basis : Int) (c : (List YB)) : Option (Int × YB) := if (bif (bif ((c.length : Int) == (1 : Int)) then true else (basis == (7 : Int))) then true else (basis == (8 : Int))) = true then if (0 ≤ (IntKind.i64.wrap ((c.length : Int) - (1 : Int)))) then (c[(IntKind.i64.wrap ((c.length : Int) - (1 : Int))).toNat]?).bind fun x => some (basis, x) else none else (rSpecific b g basis c).bind fun v => if (bif ((v.length : Int) == (1 : Int)) then (bif (basis == (1 : Int)) then true else (basis == (2 : Int))) else false) = true then (v[0]?).bind fun x2 => some ((4 : Int), x2) else (rEssential b g v).bind fun v2 => if (bif v2.2 then ((v2.1.length : Int) == (1 : Int)) else false) = true then (v2.1[0]?).bind fun x3 => some ((5 : Int), x3) else if (0 ≤ (IntKind.i64.wrap ((v2.1.length : Int) - (1 : Int)))) then (v2.1[(IntKind.i64.wrap ((v2.1.length : Int) - (1 : Int))).toNat]?).bind fun x4 => some ((6 : Int), x4) else none
def rCodes_j1 (out : (List Str)) : Option ((List Str)) := some out
def rCodes_b1 (l : (List YB)) : (Int × (List Str)) → Option ((Int × (List Str)) ⊕ ((List Str)))
 | (i2, out2) => if (decide (i2 < (l.length : Int))) = true then if (0 ≤ i2) then (l[i2.toNat]?).bind fun x3 => if (out2.length + [x3.Code].length ≤ 137438953472) then some (.inl ((IntKind.i64.wrap (i2 + (1 : Int))), (out2 ++ [x3.Code]))) else none else none else some (.inr out2)
def rCodes (l : (List YB)) : Option ((List Str)) := (loopO (rCodes_b1 l) ((0 : Int), [])).bind fun e => match e with
 | out3 => rCodes_j1 out3
def rClassify_j1 (steps : (List YL)) (code : Str) : Option (Str × (List YL) × Int) := if (code == ([] : Str)) = true then some (([] : Str), [], (7 : Int)) else some (code, steps, (0 : Int))
def rClassify_b1 (b : YE) (day : Int) (g : YR) : ((List YL) × Str) → Option (((List YL) × Str) ⊕ ((List YL) × Str))
 | (steps2, code3) => (rBasis b day g code3).bind fun v9 => if ((v9.2.length : Int) == (0 : Int)) = true then some (.inr (steps2, code3)) else (rReduce b g v9.1 v9.2).bind fun v10 => (rCodes v9.2).bind fun v11 => if (steps2.length + [(⟨code3, v9.1, v11, v10.1, v10.2.Code⟩ : YL)].length ≤ 137438953472) then some (.inl ((steps2 ++ [(⟨code3, v9.1, v11, v10.1, v10.2.Code⟩ : YL)]), v10.2.Code)) else none
def rClassify (b : YE) (day : Int) (g : YR) : Option (Str × (List YL) × Int) := (refBook b).bind fun v => if (v != (0 : Int)) = true then some (([] : Str), [], v) else (refGood g).bind fun v2 => if (v2 != (0 : Int)) = true then some (([] : Str), [], v2) else if (bif (decide (day < (0 : Int))) then true else (decide ((36524 : Int) < day))) = true then some (([] : Str), [], (2 : Int)) else (loopO (rClassify_b1 b day g) ([], ([] : Str))).bind fun e => match e with
 | (steps3, code4) => rClassify_j1 steps3 code4
def sameStep (a : YL) (b : YL) : Option (Bool) := (if (bif (bif (bif (a.Parent == b.Parent) then (a.Basis == b.Basis) else false) then (a.Rule == b.Rule) else false) then (a.Chosen == b.Chosen) else false) = true then sameStrings a.Candidates b.Candidates else some default).bind fun v => some (bif (bif (bif (bif (a.Parent == b.Parent) then (a.Basis == b.Basis) else false) then (a.Rule == b.Rule) else false) then (a.Chosen == b.Chosen) else false) then v else false)
def sameSteps_j1  : Option (Bool) := some true
def sameSteps_b1 (a : (List YL)) (b : (List YL)) : (Int) → Option ((Int) ⊕ ((Bool) ⊕ (Unit)))
 | i => if (decide (i < (a.length : Int))) = true then if (0 ≤ i) then (a[i.toNat]?).bind fun x3 => if (0 ≤ i) then (b[i.toNat]?).bind fun x4 => (sameStep x3 x4).bind fun v2 => if (!v2) = true then some (.inr (.inl false)) else some (.inl (IntKind.i64.wrap (i + (1 : Int)))) else none else none else some (.inr (.inr ()))
def sameSteps (a : (List YL)) (b : (List YL)) : Option (Bool) := if ((a.length : Int) != (b.length : Int)) = true then some false else (loopO (sameSteps_b1 a b) (0 : Int)).bind fun e => match e with
 | (.inl rv) => some rv
 | (.inr ()) => sameSteps_j1
end Go.C
end zPp
noncomputable section zHp
set_option linter.unusedVariables false
namespace Go.C
def commonP (a b : List Str) : Option Int := if b.length ≤ 50 then commonS a b else commonB a b
def cloneR (l : List Str) : Option (List Str) := if l.length * 16 ≤ 140737488355328 then some l else none
end Go.C
end zHp
noncomputable section zPq
set_option linter.unusedVariables false
namespace Go.C
open Go.V
def incompleteWords (g : YR) : Option ((List Str)) := (union g.Words [([112, 97, 114, 116, 115] : Str)]).bind fun v => some v
def likeness_j3 (most : Int) : Option (Int) := some most
def likeness_b1 (v3 : (List (List Str))) : (Int × Int × (List Str)) → Option ((Int × Int × (List Str)) ⊕ (Int))
 | (t532, most3, words4) => if (decide (t532 < (v3.length : Int))) = true then if (0 ≤ t532) then (v3[t532.toNat]?).bind fun x3 => (commonP x3 words4).bind fun v6 => some (.inl ((IntKind.i64.wrap (t532 + (1 : Int))), (if v6 > most3 then v6 else most3), words4)) else none else some (.inr most3)
def likeness_j2 (b : YE) (e1 : YB) (words2 : (List Str)) : Option (Int) := (nomAlts b e1).bind fun v3 => (loopO (likeness_b1 v3) ((0 : Int), (0 : Int), words2)).bind fun e => match e with
 | most4 => likeness_j3 most4
def likeness_b2 (b : YE) (e1 : YB) (g : YR) : (Int × (List Str)) → Option ((Int × (List Str)) ⊕ ((List Str)))
 | (t40, words5) => if (decide (t40 < (g.Parts.length : Int))) = true then if (0 ≤ t40) then (g.Parts[t40.toNat]?).bind fun x5 => if (words5.length + x5.Words.length ≤ 137438953472) then some (.inl ((IntKind.i64.wrap (t40 + (1 : Int))), (words5 ++ x5.Words))) else none else none else some (.inr words5)
def likeness_j1 (b : YE) (e1 : YB) (g : YR) (words : (List Str)) : Option (Int) := (loopO (likeness_b2 b e1 g) ((0 : Int), words)).bind fun e => match e with
 | words7 => likeness_j2 b e1 words7
def likeness_b3 (b : YE) (e1 : YB) (g : YR) : (Int × (List Str)) → Option ((Int × (List Str)) ⊕ ((List Str)))
 | (t27, words8) => if (decide (t27 < (g.Materials.length : Int))) = true then if (0 ≤ t27) then (g.Materials[t27.toNat]?).bind fun x7 => if (words8.length + [x7.Name].length ≤ 137438953472) then some (.inl ((IntKind.i64.wrap (t27 + (1 : Int))), (words8 ++ [x7.Name]))) else none else none else some (.inr words8)
def likeness (b : YE) (e1 : YB) (g : YR) : Option (Int) := (nomExcluded b e1.Code g.Words).bind fun v => if v = true then some (0 : Int) else (cloneR g.Words).bind fun v2 => (loopO (likeness_b3 b e1 g) ((0 : Int), v2)).bind fun e => match e with
 | words10 => likeness_j1 b e1 g words10
def scoredIn (e1 : YB) (a1 : YE) (a2 : (List Str)) : Option (Bool) := (nomScore a1 e1 a2).bind fun v => some (decide ((0 : Int) < v))
def keepScored_j1 (test0 : YE) (test1 : (List Str)) (kept : (List YB)) : Option ((List YB)) := some kept
def keepScored_j2 (l : (List YB)) (test0 : YE) (test1 : (List Str)) (t102 : Int) (kept6 : (List YB)) : Option ((Int × (List YB)) ⊕ ((List YB))) := some (.inl ((IntKind.i64.wrap (t102 + (1 : Int))), kept6))
def keepScored_b1 (l : (List YB)) (test0 : YE) (test1 : (List Str)) : (Int × (List YB)) → Option ((Int × (List YB)) ⊕ ((List YB)))
 | (t102, kept3) => if (decide (t102 < (l.length : Int))) = true then if (0 ≤ t102) then (l[t102.toNat]?).bind fun x3 => (scoredIn x3 test0 test1).bind fun v3 => if v3 = true then if (kept3.length + [x3].length ≤ 137438953472) then keepScored_j2 l test0 test1 t102 (kept3 ++ [x3]) else none else keepScored_j2 l test0 test1 t102 kept3 else none else some (.inr kept3)
def keepScored (l : (List YB)) (test0 : YE) (test1 : (List Str)) : Option ((List YB)) := (loopO (keepScored_b1 l test0 test1) ((0 : Int), [])).bind fun e => match e with
 | kept5 => keepScored_j1 test0 test1 kept5
def scored (b : YE) (l : (List YB)) (words : (List Str)) : Option ((List YB)) := (keepScored l b words).bind fun v => some v
def byTermsIn_j1 (a1 : YU) (a2 : (List Str)) : Option (Bool) := some false
def byTermsIn_b1 (a1 : YU) (a2 : (List Str)) (v2 : (List (List Str))) : (Int) → Option ((Int) ⊕ ((Bool) ⊕ (Unit)))
 | t18 => if (decide (t18 < (v2.length : Int))) = true then if (0 ≤ t18) then (v2[t18.toNat]?).bind fun x2 => (sContains x2 ([112, 97, 114, 116, 115] : Str)).bind fun v5 => (if v5 = true then subset x2 a2 else some default).bind fun v6 => if (bif v5 then v6 else false) = true then some (.inr (.inl true)) else some (.inl (IntKind.i64.wrap (t18 + (1 : Int)))) else none else some (.inr (.inr ()))
def byTermsIn (e1 : YB) (a1 : YU) (a2 : (List Str)) : Option (Bool) := (nomExcluded a1.book e1.Code a2).bind fun v => if v = true then some false else (nomAlts a1.book e1).bind fun v2 => (loopO (byTermsIn_b1 a1 a2 v2) (0 : Int)).bind fun e => match e with
 | (.inl rv) => some rv
 | (.inr ()) => byTermsIn_j1 a1 a2
def keepTerms_j1 (test0 : YU) (test1 : (List Str)) (kept : (List YB)) : Option ((List YB)) := some kept
def keepTerms_j2 (l : (List YB)) (test0 : YU) (test1 : (List Str)) (t102 : Int) (kept6 : (List YB)) : Option ((Int × (List YB)) ⊕ ((List YB))) := some (.inl ((IntKind.i64.wrap (t102 + (1 : Int))), kept6))
def keepTerms_b1 (l : (List YB)) (test0 : YU) (test1 : (List Str)) : (Int × (List YB)) → Option ((Int × (List YB)) ⊕ ((List YB)))
 | (t102, kept3) => if (decide (t102 < (l.length : Int))) = true then if (0 ≤ t102) then (l[t102.toNat]?).bind fun x3 => (byTermsIn x3 test0 test1).bind fun v3 => if v3 = true then if (kept3.length + [x3].length ≤ 137438953472) then keepTerms_j2 l test0 test1 t102 (kept3 ++ [x3]) else none else keepTerms_j2 l test0 test1 t102 kept3 else none else some (.inr kept3)
def keepTerms (l : (List YB)) (test0 : YU) (test1 : (List Str)) : Option ((List YB)) := (loopO (keepTerms_b1 l test0 test1) ((0 : Int), [])).bind fun e => match e with
 | kept5 => keepTerms_j1 test0 test1 kept5
def byTerms (v : YU) : Option ((List YB)) := if (!v.good.Incomplete) = true then (scored v.book v.entries v.good.Words).bind fun v2 => some v2 else (incompleteWords v.good).bind fun v3 => (keepTerms v.entries v v3).bind fun v4 => some v4
def asComplete (v : YU) : Option ((List YB)) := if (!v.good.Incomplete) = true then some [] else (scored v.book v.entries v.good.Words).bind fun v2 => some v2
def byCharIn2 (x : YI) (a1 : YU) (a2 : YB) : Option (Bool) := (nomScore a1.book a2 x.Words).bind fun v => some (decide ((0 : Int) < v))
def charIndex_j1 (f0 : YU) (f1 : YB) : Option (Int) := some (-1 : Int)
def charIndex_b1 (s : (List YI)) (f0 : YU) (f1 : YB) : (Int) → Option ((Int) ⊕ ((Int) ⊕ (Unit)))
 | t8 => if (decide (t8 < (s.length : Int))) = true then if (0 ≤ t8) then (s[t8.toNat]?).bind fun x2 => (byCharIn2 x2 f0 f1).bind fun v2 => if v2 = true then some (.inr (.inl t8)) else some (.inl (IntKind.i64.wrap (t8 + (1 : Int)))) else none else some (.inr (.inr ()))
def charIndex (s : (List YI)) (f0 : YU) (f1 : YB) : Option (Int) := (loopO (charIndex_b1 s f0 f1) (0 : Int)).bind fun e => match e with
 | (.inl rv) => some rv
 | (.inr ()) => charIndex_j1 f0 f1
def charContains (s : (List YI)) (f0 : YU) (f1 : YB) : Option (Bool) := (charIndex s f0 f1).bind fun v => some (decide ((0 : Int) ≤ v))
def byCharIn (e1 : YB) (a1 : (List YI)) (a2 : YU) : Option (Bool) := (charContains a1 a2 e1).bind fun v => some v
def keepChar_j1 (test0 : (List YI)) (test1 : YU) (kept : (List YB)) : Option ((List YB)) := some kept
def keepChar_j2 (l : (List YB)) (test0 : (List YI)) (test1 : YU) (t102 : Int) (kept6 : (List YB)) : Option ((Int × (List YB)) ⊕ ((List YB))) := some (.inl ((IntKind.i64.wrap (t102 + (1 : Int))), kept6))
def keepChar_b1 (l : (List YB)) (test0 : (List YI)) (test1 : YU) : (Int × (List YB)) → Option ((Int × (List YB)) ⊕ ((List YB)))
 | (t102, kept3) => if (decide (t102 < (l.length : Int))) = true then if (0 ≤ t102) then (l[t102.toNat]?).bind fun x3 => (byCharIn x3 test0 test1).bind fun v3 => if v3 = true then if (kept3.length + [x3].length ≤ 137438953472) then keepChar_j2 l test0 test1 t102 (kept3 ++ [x3]) else none else keepChar_j2 l test0 test1 t102 kept3 else none else some (.inr kept3)
def keepChar (l : (List YB)) (test0 : (List YI)) (test1 : YU) : Option ((List YB)) := (loopO (keepChar_b1 l test0 test1) ((0 : Int), [])).bind fun e => match e with
 | kept5 => keepChar_j1 test0 test1 kept5
def byCharacter (v : YU) : Option ((List YB)) := (goodsCharacters v.good).bind fun v2 => (keepChar v.entries v2 v).bind fun v3 => some v3
def residualIn (e1 : YB) : Option (Bool) := some e1.Other
def keepResidual_j1 (kept : (List YB)) : Option ((List YB)) := some kept
def keepResidual_j2 (l : (List YB)) (t102 : Int) (kept6 : (List YB)) : Option ((Int × (List YB)) ⊕ ((List YB))) := some (.inl ((IntKind.i64.wrap (t102 + (1 : Int))), kept6))
def keepResidual_b1 (l : (List YB)) : (Int × (List YB)) → Option ((Int × (List YB)) ⊕ ((List YB)))
 | (t102, kept3) => if (decide (t102 < (l.length : Int))) = true then if (0 ≤ t102) then (l[t102.toNat]?).bind fun x3 => (residualIn x3).bind fun v3 => if v3 = true then if (kept3.length + [x3].length ≤ 137438953472) then keepResidual_j2 l t102 (kept3 ++ [x3]) else none else keepResidual_j2 l t102 kept3 else none else some (.inr kept3)
def keepResidual (l : (List YB)) : Option ((List YB)) := (loopO (keepResidual_b1 l) ((0 : Int), [])).bind fun e => match e with
 | kept5 => keepResidual_j1 kept5
def residual (v : YU) : Option ((List YB)) := if (v.parent == ([] : Str)) = true then some [] else (keepResidual v.entries).bind fun v2 => some v2
def akinIn (e1 : YB) (a1 : YU) (a2 : Int) : Option (Bool) := (likeness a1.book e1 a1.good).bind fun v => some (v == a2)
def keepAkin_j1 (test0 : YU) (test1 : Int) (kept : (List YB)) : Option ((List YB)) := some kept
def keepAkin_j2 (l : (List YB)) (test0 : YU) (test1 : Int) (t102 : Int) (kept6 : (List YB)) : Option ((Int × (List YB)) ⊕ ((List YB))) := some (.inl ((IntKind.i64.wrap (t102 + (1 : Int))), kept6))
def keepAkin_b1 (l : (List YB)) (test0 : YU) (test1 : Int) : (Int × (List YB)) → Option ((Int × (List YB)) ⊕ ((List YB)))
 | (t102, kept3) => if (decide (t102 < (l.length : Int))) = true then if (0 ≤ t102) then (l[t102.toNat]?).bind fun x3 => (akinIn x3 test0 test1).bind fun v3 => if v3 = true then if (kept3.length + [x3].length ≤ 137438953472) then keepAkin_j2 l test0 test1 t102 (kept3 ++ [x3]) else none else keepAkin_j2 l test0 test1 t102 kept3 else none else some (.inr kept3)
def keepAkin (l : (List YB)) (test0 : YU) (test1 : Int) : Option ((List YB)) := (loopO (keepAkin_b1 l test0 test1) ((0 : Int), [])).bind fun e => match e with
 | kept5 => keepAkin_j1 test0 test1 kept5
def akin_j1 (v : YU) (c3_0 : Int) : Option ((List YB)) := if (c3_0 == (0 : Int)) = true then some [] else (keepAkin v.entries v c3_0).bind fun v2 => some v2
def akin_b1 (v : YU) : (Int × Int) → Option ((Int × Int) ⊕ (Int))
 | (t9, c3_02) => if (decide (t9 < (v.entries.length : Int))) = true then if (0 ≤ t9) then (v.entries[t9.toNat]?).bind fun x2 => (likeness v.book x2 v.good).bind fun v4 => some (.inl ((IntKind.i64.wrap (t9 + (1 : Int))), (if v4 > c3_02 then v4 else c3_02))) else none else some (.inr c3_02)
def akin (v : YU) : Option ((List YB)) := (loopO (akin_b1 v) ((0 : Int), (0 : Int))).bind fun e => match e with
 | c3_04 => akin_j1 v c3_04
def allBelow (v : YU) : Option ((List YB)) := if (v.parent == ([] : Str)) = true then some [] else some v.entries
def basis_j1  : Option (Int × (List YB)) := some ((0 : Int), [])
def basis (b : YE) (day : Int) (g : YR) (parent : Str) : Option (Int × (List YB)) := (nomBelow b day parent).bind fun v => (byTerms (⟨b, g, parent, v⟩ : YU)).bind fun v2 => if (decide ((0 : Int) < (v2.length : Int))) = true then some ((1 : Int), v2) else (asComplete (⟨b, g, parent, v⟩ : YU)).bind fun v3 => if (decide ((0 : Int) < (v3.length : Int))) = true then some ((2 : Int), v3) else (byCharacter (⟨b, g, parent, v⟩ : YU)).bind fun v4 => if (decide ((0 : Int) < (v4.length : Int))) = true then some ((3 : Int), v4) else (residual (⟨b, g, parent, v⟩ : YU)).bind fun v5 => if (decide ((0 : Int) < (v5.length : Int))) = true then some ((8 : Int), v5) else (akin (⟨b, g, parent, v⟩ : YU)).bind fun v6 => if (decide ((0 : Int) < (v6.length : Int))) = true then some ((7 : Int), v6) else (allBelow (⟨b, g, parent, v⟩ : YU)).bind fun v7 => if (decide ((0 : Int) < (v7.length : Int))) = true then some ((7 : Int), v7) else basis_j1
def specificIn (e1 : YB) (a1 : YE) (a2 : (List Str)) (a3 : Int) : Option (Bool) := (nomScore a1 e1 a2).bind fun v => some (v == a3)
def keepSpecific_j1 (test0 : YE) (test1 : (List Str)) (test2 : Int) (kept : (List YB)) : Option ((List YB)) := some kept
def keepSpecific_j2 (l : (List YB)) (test0 : YE) (test1 : (List Str)) (test2 : Int) (t102 : Int) (kept6 : (List YB)) : Option ((Int × (List YB)) ⊕ ((List YB))) := some (.inl ((IntKind.i64.wrap (t102 + (1 : Int))), kept6))
def keepSpecific_b1 (l : (List YB)) (test0 : YE) (test1 : (List Str)) (test2 : Int) : (Int × (List YB)) → Option ((Int × (List YB)) ⊕ ((List YB)))
 | (t102, kept3) => if (decide (t102 < (l.length : Int))) = true then if (0 ≤ t102) then (l[t102.toNat]?).bind fun x3 => (specificIn x3 test0 test1 test2).bind fun v3 => if v3 = true then if (kept3.length + [x3].length ≤ 137438953472) then keepSpecific_j2 l test0 test1 test2 t102 (kept3 ++ [x3]) else none else keepSpecific_j2 l test0 test1 test2 t102 kept3 else none else some (.inr kept3)
def keepSpecific (l : (List YB)) (test0 : YE) (test1 : (List Str)) (test2 : Int) : Option ((List YB)) := (loopO (keepSpecific_b1 l test0 test1 test2) ((0 : Int), [])).bind fun e => match e with
 | kept5 => keepSpecific_j1 test0 test1 test2 kept5
def mostSpecific_j1 (b : YE) (l : (List YB)) (words : (List Str)) (c7_0 : Int) : Option ((List YB)) := (keepSpecific l b words c7_0).bind fun v => some v
def mostSpecific_b1 (b : YE) (l : (List YB)) (words : (List Str)) : (Int × Int) → Option ((Int × Int) ⊕ (Int))
 | (t12, c7_02) => if (decide (t12 < (l.length : Int))) = true then if (0 ≤ t12) then (l[t12.toNat]?).bind fun x2 => (nomScore b x2 words).bind fun v3 => some (.inl ((IntKind.i64.wrap (t12 + (1 : Int))), (if v3 > c7_02 then v3 else c7_02))) else none else some (.inr c7_02)
def mostSpecific (b : YE) (l : (List YB)) (words : (List Str)) : Option ((List YB)) := (loopO (mostSpecific_b1 b l words) ((0 : Int), (0 : Int))).bind fun e => match e with
 | c7_04 => mostSpecific_j1 b l words c7_04
def cloneEntry_j1 (e1 : YB) (c1_3 : (List (List Str))) : Option (YB) := some (⟨e1.Code, e1.From, e1.To, c1_3, e1.Other⟩ : YB)
def cloneEntry_b1 (e1 : YB) : (Int × (List (List Str))) → Option ((Int × (List (List Str))) ⊕ ((List (List Str))))
 | (t112, c1_32) => if (decide (t112 < (e1.Terms.length : Int))) = true then if (0 ≤ t112) then (e1.Terms[t112.toNat]?).bind fun x3 => (cloneS x3).bind fun v3 => if (c1_32.length + [v3].length ≤ 137438953472) then some (.inl ((IntKind.i64.wrap (t112 + (1 : Int))), (c1_32 ++ [v3]))) else none else none else some (.inr c1_32)
def cloneEntry (e1 : YB) : Option (YB) := (loopO (cloneEntry_b1 e1) ((0 : Int), [])).bind fun e => match e with
 | c1_33 => cloneEntry_j1 e1 c1_33
def reduce_j2 (c3 : (List YB)) : Option (Int × YB) := if (0 ≤ (IntKind.i64.wrap ((c3.length : Int) - (1 : Int)))) then (c3[(IntKind.i64.wrap ((c3.length : Int) - (1 : Int))).toNat]?).bind fun x2 => (cloneEntry x2).bind fun v3 => some ((6 : Int), v3) else none
def reduce_b1 (b : YE) (v2 : (List YI)) : (Int × (List YB)) → Option ((Int × (List YB)) ⊕ ((Int × YB) ⊕ ((List YB))))
 | (t67, c4) => if (decide (t67 < (v2.length : Int))) = true then if (0 ≤ t67) then (v2[t67.toNat]?).bind fun x5 => (scored b c4 x5.Words).bind fun v6 => if ((v6.length : Int) == (1 : Int)) = true then (v6[0]?).bind fun x6 => (cloneEntry x6).bind fun v7 => some (.inr (.inl ((5 : Int), v7))) else if (decide ((1 : Int) < (v6.length : Int))) = true then some (.inr (.inr v6)) else some (.inl ((IntKind.i64.wrap (t67 + (1 : Int))), c4)) else none else some (.inr (.inr c4))
def reduce_j1 (b : YE) (g : YR) (c2 : (List YB)) : Option (Int × YB) := (goodsCharacters g).bind fun v2 => (loopO (reduce_b1 b v2) ((0 : Int), c2)).bind fun e => match e with
 | (.inl rv) => some rv
 | (.inr c6) => reduce_j2 c6
def reduce_j3 (b : YE) (g : YR) (c : (List YB)) (words : (List Str)) : Option (Int × YB) := (mostSpecific b c words).bind fun v8 => if ((v8.length : Int) == (1 : Int)) = true then (v8[0]?).bind fun x7 => (cloneEntry x7).bind fun v9 => some ((4 : Int), v9) else reduce_j1 b g v8
def reduce (b : YE) (g : YR) (basis : Int) (c : (List YB)) : Option (Int × YB) := if ((c.length : Int) == (0 : Int)) = true then some ((0 : Int), (⟨[], 0, 0, [], false⟩ : YB)) else if (bif (bif ((c.length : Int) == (1 : Int)) then true else (basis == (7 : Int))) then true else (basis == (8 : Int))) = true then if (0 ≤ (IntKind.i64.wrap ((c.length : Int) - (1 : Int)))) then (c[(IntKind.i64.wrap ((c.length : Int) - (1 : Int))).toNat]?).bind fun x => (cloneEntry x).bind fun v => some (basis, v) else none else if (bif (basis == (1 : Int)) then true else (basis == (2 : Int))) = true then if (bif g.Incomplete then (basis == (1 : Int)) else false) = true then (incompleteWords g).bind fun v10 => reduce_j3 b g c v10 else reduce_j3 b g c g.Words else reduce_j1 b g c
def classify_j1 (code : Str) (steps : (List YL)) : Option (Str × (List YL) × Int) := if ((steps.length : Int) == (0 : Int)) = true then some (([] : Str), [], (7 : Int)) else some (code, steps, (0 : Int))
def classify_j2 (b : YE) (day : Int) (g : YR) (code3 : Str) (v7 : Int × (List YB)) (v8 : Int × YB) (steps8 : (List YL)) (c17_27 : (List Str)) : Option ((Str × (List YL)) ⊕ (Str × (List YL))) := if (steps8.length + [(⟨code3, v7.1, c17_27, v8.1, v8.2.Code⟩ : YL)].length ≤ 137438953472) then some (.inl (v8.2.Code, (steps8 ++ [(⟨code3, v7.1, c17_27, v8.1, v8.2.Code⟩ : YL)]))) else none
def classify_b2 (b : YE) (day : Int) (g : YR) (code3 : Str) (v7 : Int × (List YB)) (v8 : Int × YB) : (Int × (List YL) × (List Str)) → Option ((Int × (List YL) × (List Str)) ⊕ ((List YL) × (List Str)))
 | (t636, steps10, c17_28) => if (decide (t636 < (v7.2.length : Int))) = true then if (0 ≤ t636) then (v7.2[t636.toNat]?).bind fun x9 => if (c17_28.length + [x9.Code].length ≤ 137438953472) then some (.inl ((IntKind.i64.wrap (t636 + (1 : Int))), steps10, (c17_28 ++ [x9.Code]))) else none else none else some (.inr (steps10, c17_28))
def classify_b1 (b : YE) (day : Int) (g : YR) : (Str × (List YL)) → Option ((Str × (List YL)) ⊕ (Str × (List YL)))
 | (code3, steps2) => (basis b day g code3).bind fun v7 => if ((v7.2.length : Int) == (0 : Int)) = true then some (.inr (code3, steps2)) else (reduce b g v7.1 v7.2).bind fun v8 => (loopO (classify_b2 b day g code3 v7 v8) ((0 : Int), steps2, [])).bind fun e => match e with
 | (steps11, c17_29) => classify_j2 b day g code3 v7 v8 steps11 c17_29
def classify (b : YE) (day : Int) (g : YR) : Option (Str × (List YL) × Int) := (nomValidate b).bind fun v => if (v != (0 : Int)) = true then some (([] : Str), [], v) else (goodsValidate g).bind fun v2 => if (v2 != (0 : Int)) = true then some (([] : Str), [], v2) else if (bif (decide (day < (0 : Int))) then true else (decide ((36524 : Int) < day))) = true then some (([] : Str), [], (2 : Int)) else (loopO (classify_b1 b day g) (([] : Str), [])).bind fun e => match e with
 | (code4, steps7) => classify_j1 code4 steps7
end Go.C
end zPq
noncomputable section zBp
set_option linter.unusedVariables false
namespace Go.C
open Go.V
def bCheck (b : YC1) : Option Unit := some ()
def bString (b : YC1) : Option Str := if b.buf = intsB (bytesI b.buf) then some (bytesI b.buf) else none
end Go.C
end zBp
noncomputable section zPk
set_option linter.unusedVariables false
namespace Go.C
open Go.V
def bWriteString (b : YC1) (s : Str) : Option (Int × Bool × YC1) := (bCheck b).bind fun v => if (b.buf.length + s.length ≤ 137438953472) then some ((s.length : Int), true, (⟨(), (b.buf ++ (intsB s))⟩ : YC1)) else none
end Go.C
end zPk
noncomputable section zPt
set_option linter.unusedVariables false
namespace Go.C
open Go.V
def summaryOf (s : YL) : Option (YE1) := some (⟨s.Parent, s.Chosen, s.Basis, s.Rule⟩ : YE1)
def sEqual_j1  : Option (Bool) := some true
def sEqual_b1 (s1 : (List Str)) (s2 : (List Str)) : (Int) → Option ((Int) ⊕ ((Bool) ⊕ (Unit)))
 | t13 => if (decide (t13 < (s1.length : Int))) = true then if (0 ≤ t13) then (s1[t13.toNat]?).bind fun x3 => if (0 ≤ t13) then (s2[t13.toNat]?).bind fun x4 => if (!(x3 == x4)) = true then some (.inr (.inl false)) else some (.inl (IntKind.i64.wrap (t13 + (1 : Int)))) else none else none else some (.inr (.inr ()))
def sEqual (s1 : (List Str)) (s2 : (List Str)) : Option (Bool) := if ((s1.length : Int) != (s2.length : Int)) = true then some false else (loopO (sEqual_b1 s1 s2) (0 : Int)).bind fun e => match e with
 | (.inl rv) => some rv
 | (.inr ()) => sEqual_j1
def sameC (a : YL) (b : YL) : Option (Bool) := (summaryOf a).bind fun v => (summaryOf b).bind fun v2 => (if ((v.parent == v2.parent) && ((v.chosen == v2.chosen) && ((v.basis == v2.basis) && (v.rule == v2.rule)))) = true then sEqual a.Candidates b.Candidates else some default).bind fun v3 => some (bif ((v.parent == v2.parent) && ((v.chosen == v2.chosen) && ((v.basis == v2.basis) && (v.rule == v2.rule)))) then v3 else false)
def check_j1 (code : Str) (steps : (List YL)) (v : Str × (List YL) × Int) : Option (Int × Int) := if (bif (decide ((steps.length : Int) < (v.2.1.length : Int))) then true else (!(code == v.1))) = true then some ((steps.length : Int), (10 : Int)) else some ((steps.length : Int), (0 : Int))
def check_b1 (code : Str) (steps : (List YL)) (v : Str × (List YL) × Int) : (Int) → Option ((Int) ⊕ ((Int × Int) ⊕ (Unit)))
 | t32 => if (decide (t32 < (steps.length : Int))) = true then if (0 ≤ t32) then (steps[t32.toNat]?).bind fun x2 => if ((!(decide ((v.2.1.length : Int) ≤ t32))) = true → (0 ≤ t32 ∧ t32 < (v.2.1.length : Int))) then (if (!(decide ((v.2.1.length : Int) ≤ t32))) = true then sameC x2 (v.2.1.getD t32.toNat default) else some default).bind fun v3 => if (bif (decide ((v.2.1.length : Int) ≤ t32)) then true else (!v3)) = true then some (.inr (.inl (t32, (10 : Int)))) else some (.inl (IntKind.i64.wrap (t32 + (1 : Int)))) else none else none else some (.inr (.inr ()))
def check (b : YE) (day : Int) (g : YR) (code : Str) (steps : (List YL)) : Option (Int × Int) := (classify b day g).bind fun v => if (v.2.2 == (7 : Int)) = true then some ((0 : Int), (10 : Int)) else if (v.2.2 != (0 : Int)) = true then some ((0 : Int), v.2.2) else (loopO (check_b1 code steps v) (0 : Int)).bind fun e => match e with
 | (.inl rv) => some rv
 | (.inr ()) => check_j1 code steps v
def hasIn (e1 : YB) (a1 : Str) : Option (Bool) := some (e1.Code == a1)
def hasIndex_j1 (f0 : Str) : Option (Int) := some (-1 : Int)
def hasIndex_b1 (s : (List YB)) (f0 : Str) : (Int) → Option ((Int) ⊕ ((Int) ⊕ (Unit)))
 | t8 => if (decide (t8 < (s.length : Int))) = true then if (0 ≤ t8) then (s[t8.toNat]?).bind fun x2 => (hasIn x2 f0).bind fun v2 => if v2 = true then some (.inr (.inl t8)) else some (.inl (IntKind.i64.wrap (t8 + (1 : Int)))) else none else some (.inr (.inr ()))
def hasIndex (s : (List YB)) (f0 : Str) : Option (Int) := (loopO (hasIndex_b1 s f0) (0 : Int)).bind fun e => match e with
 | (.inl rv) => some rv
 | (.inr ()) => hasIndex_j1 f0
def hasContains (s : (List YB)) (f0 : Str) : Option (Bool) := (hasIndex s f0).bind fun v => some (decide ((0 : Int) ≤ v))
def hasE (l : (List YB)) (code : Str) : Option (Bool) := (hasContains l code).bind fun v => some v
def mostSpecificC_j3 (kept : (List YB)) : Option ((List YB)) := some kept
def mostSpecificC_j4 (b : YE) (l : (List YB)) (words : (List Str)) (most : Int) (t422 : Int) (kept6 : (List YB)) : Option ((Int × (List YB)) ⊕ ((List YB))) := some (.inl ((IntKind.i64.wrap (t422 + (1 : Int))), kept6))
def mostSpecificC_b1 (b : YE) (l : (List YB)) (words : (List Str)) (most : Int) : (Int × (List YB)) → Option ((Int × (List YB)) ⊕ ((List YB)))
 | (t422, kept3) => if (decide (t422 < (l.length : Int))) = true then if (0 ≤ t422) then (l[t422.toNat]?).bind fun x3 => (nomScore b x3 words).bind fun v3 => if (v3 == most) = true then if (kept3.length + [x3].length ≤ 137438953472) then mostSpecificC_j4 b l words most t422 (kept3 ++ [x3]) else none else mostSpecificC_j4 b l words most t422 kept3 else none else some (.inr kept3)
def mostSpecificC_j2 (b : YE) (l : (List YB)) (words : (List Str)) (most : Int) : Option ((List YB)) := (loopO (mostSpecificC_b1 b l words most) ((0 : Int), [])).bind fun e => match e with
 | kept5 => mostSpecificC_j3 kept5
def mostSpecificC_b2 (b : YE) (l : (List YB)) (words : (List Str)) : (Int × Int) → Option ((Int × Int) ⊕ (Int))
 | (t29, most2) => if (decide (t29 < (l.length : Int))) = true then if (0 ≤ t29) then (l[t29.toNat]?).bind fun x5 => (nomScore b x5 words).bind fun v5 => some (.inl ((IntKind.i64.wrap (t29 + (1 : Int))), (if v5 > most2 then v5 else most2))) else none else some (.inr most2)
def mostSpecificC_j1 (b : YE) (l : (List YB)) (words : (List Str)) : Option ((List YB)) := (loopO (mostSpecificC_b2 b l words) ((0 : Int), (0 : Int))).bind fun e => match e with
 | most4 => mostSpecificC_j2 b l words most4
def mostSpecificC (b : YE) (g : YR) (basis : Int) (l : (List YB)) : Option ((List YB)) := if (bif g.Incomplete then (basis == (1 : Int)) else false) = true then (union g.Words [([112, 97, 114, 116, 115] : Str)]).bind fun v6 => mostSpecificC_j1 b l v6 else mostSpecificC_j1 b l g.Words
def reasonIn (e1 : YB) (a1 : YE) (a2 : YI) : Option (Bool) := (nomScore a1 e1 a2.Words).bind fun v => some (v == (0 : Int))
def cloneE (s : (List YB)) : Option ((List YB)) := if (0 + s.length ≤ 137438953472) then some s else none
def delIndex_j1 (s : (List YB)) (f0 : YE) (f1 : YI) : Option (Int × (List YB)) := some ((-1 : Int), s)
def delIndex_b1 (s : (List YB)) (f0 : YE) (f1 : YI) : (Int) → Option ((Int) ⊕ ((Int × (List YB)) ⊕ (Unit)))
 | t8 => if (decide (t8 < (s.length : Int))) = true then if (0 ≤ t8 ∧ t8 < (s.length : Int)) then (reasonIn (s.getD t8.toNat default) f0 f1).bind fun v2 => if v2 = true then some (.inr (.inl (t8, s))) else some (.inl (IntKind.i64.wrap (t8 + (1 : Int)))) else none else some (.inr (.inr ()))
def delIndex (s : (List YB)) (f0 : YE) (f1 : YI) : Option (Int × (List YB)) := (loopO (delIndex_b1 s f0 f1) (0 : Int)).bind fun e => match e with
 | (.inl rv) => some rv
 | (.inr ()) => delIndex_j1 s f0 f1
def deleteE_j1 (del0 : YE) (del1 : YI) (i : Int) (row0 : (List YB)) : Option ((List YB)) := if (0 ≤ i ∧ i ≤ (row0.length : Int)) then if (0 ≤ i ∧ i ≤ ((row0.take i.toNat ++ List.replicate (row0.length - i.toNat) (default : YB)).length : Int)) then some ((row0.take i.toNat ++ List.replicate (row0.length - i.toNat) (default : YB)).take i.toNat) else none else none
def deleteE_j2 (del0 : YE) (del1 : YI) (j : Int) (i6 : Int) (row06 : (List YB)) : Option ((Int × Int × (List YB)) ⊕ (Int × (List YB))) := some (.inl ((IntKind.i64.wrap (j + (1 : Int))), i6, row06))
def deleteE_b1 (del0 : YE) (del1 : YI) : (Int × Int × (List YB)) → Option ((Int × Int × (List YB)) ⊕ (Int × (List YB)))
 | (j, i2, row02) => if (decide (j < (row02.length : Int))) = true then if (0 ≤ j ∧ j < (row02.length : Int)) then (reasonIn (row02.getD j.toNat default) del0 del1).bind fun v3 => if (!v3) = true then if (0 ≤ i2 ∧ i2 < (row02.length : Int)) then deleteE_j2 del0 del1 j (IntKind.i64.wrap (i2 + (1 : Int))) (row02.set i2.toNat (row02.getD j.toNat default)) else none else deleteE_j2 del0 del1 j i2 row02 else none else some (.inr (i2, row02))
def deleteE (s : (List YB)) (del0 : YE) (del1 : YI) : Option ((List YB)) := (delIndex s del0 del1).bind fun v => if (v.1 == (-1 : Int)) = true then some v.2 else (loopO (deleteE_b1 del0 del1) ((IntKind.i64.wrap (v.1 + (1 : Int))), v.1, v.2)).bind fun e => match e with
 | (i5, row05) => deleteE_j1 del0 del1 i5 row05
def reason_j2  : Option (Int) := some (5 : Int)
def reason_b1 (b : YE) (code : Str) (left : (List YB)) (v4 : (List YI)) : (Int) → Option ((Int) ⊕ ((Int) ⊕ (Unit)))
 | t64 => if (decide (t64 < (v4.length : Int))) = true then if (0 ≤ t64) then (v4[t64.toNat]?).bind fun x2 => (cloneE left).bind fun v8 => (deleteE v8 b x2).bind fun v9 => if ((v9.length : Int) == (0 : Int)) = true then some (.inl (IntKind.i64.wrap (t64 + (1 : Int)))) else (hasE v9 code).bind fun v10 => if (!v10) = true then some (.inr (.inl (4 : Int))) else some (.inr (.inr ())) else none else some (.inr (.inr ()))
def reason_j1 (b : YE) (g : YR) (code : Str) (left : (List YB)) : Option (Int) := (goodsCharacters g).bind fun v4 => (loopO (reason_b1 b code left v4) (0 : Int)).bind fun e => match e with
 | (.inl rv) => some rv
 | (.inr ()) => reason_j2
def reason (b : YE) (day : Int) (g : YR) (s : YL) (code : Str) : Option (Int) := (nomExcluded b code g.Words).bind fun v => if v = true then some (1 : Int) else (sContains s.Candidates code).bind fun v2 => if (!v2) = true then some (2 : Int) else if (bif (s.Basis == (7 : Int)) then true else (s.Basis == (8 : Int))) = true then some (5 : Int) else (basis b day g s.Parent).bind fun v3 => if (bif (s.Basis == (1 : Int)) then true else (s.Basis == (2 : Int))) = true then (mostSpecificC b g s.Basis v3.2).bind fun v11 => (hasE v11 code).bind fun v12 => if (!v12) = true then some (3 : Int) else reason_j1 b g code v11 else reason_j1 b g code v3.2
def why_j2 (v : Str × (List YL) × Int) : Option (Int × Int × Int) := some ((v.2.1.length : Int), (6 : Int), (0 : Int))
def why_b1 (b : YE) (day : Int) (g : YR) (code : Str) (v : Str × (List YL) × Int) : (Int) → Option ((Int) ⊕ ((Int × Int × Int) ⊕ (Unit)))
 | t55 => if (decide (t55 < (v.2.1.length : Int))) = true then if (0 ≤ t55) then (v.2.1[t55.toNat]?).bind fun x2 => (if (decide ((x2.Chosen.length : Int) ≤ (code.length : Int))) = true then hasPrefixS code x2.Chosen else some default).bind fun v5 => if (bif (decide ((x2.Chosen.length : Int) ≤ (code.length : Int))) then (!v5) else false) = true then if (0 ≤ (0 : Int) ∧ (0 : Int) ≤ (x2.Chosen.length : Int) ∧ (x2.Chosen.length : Int) ≤ (code.length : Int)) then (reason b day g x2 ((code.take (x2.Chosen.length : Int).toNat).drop (0 : Int).toNat)).bind fun v6 => some (.inr (.inl (t55, v6, (0 : Int)))) else none else some (.inl (IntKind.i64.wrap (t55 + (1 : Int)))) else none else some (.inr (.inr ()))
def why_j1 (b : YE) (day : Int) (g : YR) (code : Str) (v : Str × (List YL) × Int) : Option (Int × Int × Int) := (loopO (why_b1 b day g code v) (0 : Int)).bind fun e => match e with
 | (.inl rv) => some rv
 | (.inr ()) => why_j2 v
def why_b2 (b : YE) (day : Int) (g : YR) (code : Str) (v : Str × (List YL) × Int) : (Int) → Option ((Int) ⊕ ((Int × Int × Int) ⊕ (Unit)))
 | t42 => if (decide (t42 < (v.2.1.length : Int))) = true then if (0 ≤ t42) then (v.2.1[t42.toNat]?).bind fun x4 => if (x4.Chosen == code) = true then some (.inr (.inl (t42, (0 : Int), (0 : Int)))) else some (.inl (IntKind.i64.wrap (t42 + (1 : Int)))) else none else some (.inr (.inr ()))
def why (b : YE) (day : Int) (g : YR) (code : Str) : Option (Int × Int × Int) := (classify b day g).bind fun v => if (v.2.2 != (0 : Int)) = true then some ((0 : Int), (0 : Int), v.2.2) else (nomFind b day code).bind fun v2 => if (!v2.2) = true then some ((0 : Int), (0 : Int), (6 : Int)) else (loopO (why_b2 b day g code v) (0 : Int)).bind fun e => match e with
 | (.inl rv) => some rv
 | (.inr ()) => why_j1 b day g code v
def formatC_j1 (c3_1 : (List Int)) : Option (Str) := (bString (⟨(), c3_1⟩ : YC1)).bind fun v => some v
def formatC_j2 (steps : (List YL)) (t10 : Int) (x2 : YL) (parent2 : Str) (c3_16 : (List Int)) : Option ((Int × (List Int)) ⊕ ((List Int))) := (itoa x2.Basis).bind fun v7 => (joinS x2.Candidates ([44] : Str)).bind fun v8 => (itoa x2.Rule).bind fun v9 => (joinS [parent2, v7, v8, v9, x2.Chosen] ([32] : Str)).bind fun v10 => if (v10.length + ([10] : Str).length ≤ 9223372036854775807) then (bWriteString (⟨(), c3_16⟩ : YC1) (v10 ++ ([10] : Str))).bind fun v11 => some (.inl ((IntKind.i64.wrap (t10 + (1 : Int))), v11.2.2.buf)) else none
def formatC_b1 (steps : (List YL)) : (Int × (List Int)) → Option ((Int × (List Int)) ⊕ ((List Int)))
 | (t10, c3_12) => if (decide (t10 < (steps.length : Int))) = true then if (0 ≤ t10) then (steps[t10.toNat]?).bind fun x2 => if (x2.Parent == ([] : Str)) = true then formatC_j2 steps t10 x2 ([45] : Str) c3_12 else formatC_j2 steps t10 x2 x2.Parent c3_12 else none else some (.inr c3_12)
def formatC (steps : (List YL)) : Option (Str) := (loopO (formatC_b1 steps) ((0 : Int), [])).bind fun e => match e with
 | c3_15 => formatC_j1 c3_15
end Go.C
end zPt
noncomputable section zPv
set_option linter.unusedVariables false
namespace Go.C
open Go.V
def awake11  : Option (Bool) := (why (⟨[(⟨([57, 52] : Str), 0, (100 : Int), [], false⟩ : YB), (⟨([57, 52, 48, 49] : Str), 0, (100 : Int), [[([99, 104, 97, 105, 114] : Str)]], false⟩ : YB), (⟨([57, 52, 48, 51] : Str), 0, (100 : Int), [[([102, 117, 114, 110, 105, 116, 117, 114, 101] : Str)]], false⟩ : YB)], []⟩ : YE) (5 : Int) (⟨[([99, 104, 97, 105, 114] : Str), ([102, 117, 114, 110, 105, 116, 117, 114, 101] : Str)], [], [], false⟩ : YR) ([57, 52, 48, 49] : Str)).bind fun v => (check (⟨[(⟨([57, 52] : Str), 0, (100 : Int), [], false⟩ : YB), (⟨([57, 52, 48, 49] : Str), 0, (100 : Int), [[([99, 104, 97, 105, 114] : Str)]], false⟩ : YB), (⟨([57, 52, 48, 51] : Str), 0, (100 : Int), [[([102, 117, 114, 110, 105, 116, 117, 114, 101] : Str)]], false⟩ : YB)], []⟩ : YE) (5 : Int) (⟨[([99, 104, 97, 105, 114] : Str), ([102, 117, 114, 110, 105, 116, 117, 114, 101] : Str)], [], [], false⟩ : YR) ([57, 52, 48, 51] : Str) [(⟨[], (1 : Int), [([57, 52, 48, 49] : Str), ([57, 52, 48, 51] : Str)], (6 : Int), ([57, 52, 48, 51] : Str)⟩ : YL)]).bind fun v2 => (if (bif (bif (bif (bif (v.1 == (0 : Int)) then (v.2.1 == (5 : Int)) else false) then (v.2.2 == (0 : Int)) else false) then (v2.1 == (1 : Int)) else false) then (v2.2 == (0 : Int)) else false) = true then formatC [(⟨[], (1 : Int), [([57, 52, 48, 49] : Str), ([57, 52, 48, 51] : Str)], (6 : Int), ([57, 52, 48, 51] : Str)⟩ : YL)] else some default).bind fun v3 => some (bif (bif (bif (bif (bif (v.1 == (0 : Int)) then (v.2.1 == (5 : Int)) else false) then (v.2.2 == (0 : Int)) else false) then (v2.1 == (1 : Int)) else false) then (v2.2 == (0 : Int)) else false) then (v3 == ([45, 32, 49, 32, 57, 52, 48, 49, 44, 57, 52, 48, 51, 32, 54, 32, 57, 52, 48, 51, 10] : Str)) else false)
def day11 (n1 : Int) : Option (Int) := (within n1 (16 : Int)).bind fun v => some v
def lawCheckUnique_j1 (d : Int) (v : YE) (v2 : YR) (v4 : Str × (List YL) × Int) (code2 : Str) (s2 : (List YL)) : Option (Bool) := (day11 d).bind fun v6 => (check v v6 v2 code2 s2).bind fun v7 => (if (code2 == v4.1) = true then sameSteps s2 v4.2.1 else some default).bind fun v8 => (if ((v7.2 == (0 : Int)) == (bif (code2 == v4.1) then v8 else false)) = true then awake11  else some default).bind fun v9 => some (bif ((v7.2 == (0 : Int)) == (bif (code2 == v4.1) then v8 else false)) then v9 else false)
def lawCheckUnique (l : (List Int)) (m1 : (List Int)) (d : Int) (code : Str) (s : (List YL)) (mix : Int) : Option (Bool) := (madeNom l).bind fun v => (madeGood m1).bind fun v2 => (day11 d).bind fun v3 => (rClassify v v3 v2).bind fun v4 => if (v4.2.2 != (0 : Int)) = true then (awake11 ).bind fun v5 => some v5 else if ((IntKind.i64.wrap ((BitVec.ofInt (IntKind.i64).bits mix &&& BitVec.ofInt (IntKind.i64).bits (1 : Int)).toNat : Int)) == (1 : Int)) = true then (within (mix.fdiv (2 ^ (min (1 : Int).toNat (IntKind.i64).bits))) (IntKind.i64.wrap ((v4.2.1.length : Int) + (1 : Int)))).bind fun v10 => if (0 ≤ (0 : Int) ∧ (0 : Int) ≤ v10 ∧ v10 ≤ (v4.2.1.length : Int)) then if (0 + ((v4.2.1.take v10.toNat).drop (0 : Int).toNat).length ≤ 1954687338268) then if (((v4.2.1.take v10.toNat).drop (0 : Int).toNat).length + s.length ≤ 1954687338268) then lawCheckUnique_j1 d v v2 v4 v4.1 (((v4.2.1.take v10.toNat).drop (0 : Int).toNat) ++ s) else none else none else none else lawCheckUnique_j1 d v v2 v4 code s
end Go.C
end zPv
