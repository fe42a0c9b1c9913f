/- Plain laws of chapter 9: Validate is the reference's. No program in sight. -/
import Derived.Test.YtfkefolbabniaaaGreatDoorNa
set_option linter.unusedVariables false
set_option linter.unusedSimpArgs false
namespace Go.C
open Go.V

abbrev Ent := ApiCodeEntry
def ordE (y x : Ent) : Int := if (Op.bytesLess x.Code y.Code || (decide (x.Code = y.Code) && decide (x.From ≤ y.From))) = true then 9 else if x.Code = y.Code ∧ x.From < y.To then 1 else 0

theorem bl_irrefl : ∀ a : Str, Op.bytesLess a a = false
  | [] => rfl
  | x :: a => by simp [Op.bytesLess, bl_irrefl a, UInt8.lt_irrefl]
theorem versionCmp_eq (y x : Ent) : ((versionOf y).bind fun v => (versionOf x).bind fun v2 => (versionCmp v v2).bind fun v3 => some (decide ((0 : Int) ≤ v3))) = some (Op.bytesLess x.Code y.Code || (decide (x.Code = y.Code) && decide (x.From ≤ y.From))) := by
  unfold versionOf versionCmp cmpStr cmpInt isNaNS isNaN
  simp only [Option.bind_some]
  have ht := bl_total y.Code x.Code
  by_cases h1 : y.Code = x.Code
  · have e1 : (y.Code == x.Code) = true := by simpa using h1
    have e2 : Op.bytesLess x.Code y.Code = false := by rw [h1]; exact bl_irrefl _
    by_cases h2 : y.From = x.From
    · have e3 : (y.From == x.From) = true := by simpa using h2
      simp [e1, e3, e2, h1, h2]
    · have e3 : (y.From == x.From) = false := by simpa using h2
      simp only [e1, e3, e2, h1, Bool.and_false, Bool.false_eq_true, if_false, Bool.not_true, bne_self_eq_false, decide_true, Bool.false_or, Bool.true_and]
      by_cases h3 : y.From < x.From
      · have : ¬ x.From ≤ y.From := by omega
        simp [h3, this, bl_irrefl]
      · have h4 : x.From ≤ y.From := by omega
        have h5 : x.From < y.From := by omega
        simp [h3, h4, h5, bl_irrefl]
  · have e1 : (y.Code == x.Code) = false := by simpa using h1
    have e2 : ¬ x.Code = y.Code := fun h => h1 h.symm
    simp only [e1, e2, Bool.false_and, Bool.false_eq_true, if_false, Bool.not_false, if_true, beq_self_eq_true, Bool.not_true, decide_false, Bool.or_false]
    rw [e1] at ht
    simp only [Bool.or_false] at ht
    cases hb : Op.bytesLess y.Code x.Code with
    | true => rw [hb] at ht; simp at ht; simp [ht]
    | false => rw [hb] at ht; simp at ht; simp [ht]
theorem validateOrder_eq (y x : Ent) : validateOrder y x = some (ordE y x) := by
  have h := versionCmp_eq y x
  unfold validateOrder ordE
  cases h1 : versionOf y with
  | none => rw [h1] at h; cases h
  | some v =>
    cases h2 : versionOf x with
    | none => rw [h1, h2] at h; cases h
    | some v2 =>
      rw [h1, h2] at h
      simp only [Option.bind_some] at h ⊢
      cases h3 : versionCmp v v2 with
      | none => rw [h3] at h; cases h
      | some v3 =>
        rw [h3] at h
        simp only [Option.bind_some, Option.some.injEq] at h ⊢
        rw [h]
        split
        · rfl
        · by_cases hc : x.Code = y.Code ∧ x.From < y.To
          · rw [if_pos (by simp [hc.1, hc.2]), if_pos hc]
          · rw [if_neg hc, if_neg]
            intro hh
            apply hc
            by_cases e : y.Code = x.Code
            · have e1 : (y.Code == x.Code) = true := by simpa using e
              rw [e1] at hh
              exact ⟨e.symm, by simpa using hh⟩
            · have e1 : (y.Code == x.Code) = false := by simpa using e
              rw [e1] at hh; cases hh
theorem refOrder (y x : Ent) (k : Option (Int ⊕ (Int ⊕ Unit))) : (if (bif (Op.bytesLess x.Code y.Code) then true else (bif (x.Code == y.Code) then (decide (x.From ≤ y.From)) else false)) = true then some (.inr (.inl (9 : Int))) else if (bif (x.Code == y.Code) then (decide (x.From < y.To)) else false) = true then some (.inr (.inl (1 : Int))) else k) = if ordE y x = 0 then k else some (.inr (.inl (ordE y x))) := by
  unfold ordE
  cases h1 : Op.bytesLess x.Code y.Code with
  | true => simp
  | false =>
    by_cases h2 : x.Code = y.Code
    · have e : (x.Code == y.Code) = true := by simpa using h2
      by_cases h3 : x.From ≤ y.From
      · simp [e, h2, h3]
      · by_cases h4 : x.From < y.To
        · simp [e, h2, h3, h4]
        · simp [e, h2, h3, h4]
    · have e : (x.Code == y.Code) = false := by simpa using h2
      simp [e, h2]

/-- How far the entries of a code cover the days from a day on. -/
def cov (l : List Ent) (code : Str) (day : Int) : Int := l.foldl (fun d p => if p.Code = code ∧ p.From ≤ d ∧ d < p.To then p.To else d) day
def parent (c : Str) : Str := c.take (c.length - 2)
def parOk (l : List Ent) (e : Ent) : Bool := decide (e.Code.length = 2) || decide (e.To ≤ cov l (parent e.Code) e.From)
theorem hasParent_eq {b : ApiNomenclature} {e : Ent} (hb : b.Entries.length ≤ 1000) (h2 : 2 ≤ e.Code.length) (h8 : e.Code.length ≤ 8) : hasParent b e = some (parOk b.Entries e) := by
  unfold hasParent parOk
  by_cases h : e.Code.length = 2
  · rw [if_pos (by simp [h])]; simp [h]
  have hw : IntKind.i64.wrap ((e.Code.length : Int) - 2) = ((e.Code.length - 2 : Nat) : Int) := by rw [w64 (by omega)]; omega
  rw [if_neg (by simp; omega), hw, if_pos (by omega)]
  have l1 := loop_fold (β := Int) b.Entries (hasParent_b1 b e) (fun i d => ((i : Int), d)) (fun d p => if p.Code = parent e.Code ∧ p.From ≤ d ∧ d < p.To then p.To else d) (fun d => d) (fun _ _ => True) (fun _ _ _ _ _ => trivial)
    (fun i x d _ hx => by
      have hlt := lt_of_get hx
      unfold hasParent_b1 hasParent_j2
      dsimp only
      rw [hw, Int.toNat_natCast, if_pos (by simp only [decide_eq_true_eq]; omega), if_pos (by omega), Int.toNat_natCast, hx, Option.bind_some, w64 (n := (i : Int) + 1) (by omega)]
      show (if (bif (bif (x.Code == parent e.Code) then (decide (x.From ≤ d)) else false) then (decide (d < x.To)) else false) = true then _ else _) = _
      by_cases c1 : x.Code = parent e.Code
      · have e1 : (x.Code == parent e.Code) = true := by simpa using c1
        by_cases c2 : x.From ≤ d
        · by_cases c3 : d < x.To
          · rw [if_pos (by rw [e1]; simp [c2, c3]), if_pos ⟨c1, c2, c3⟩]; rfl
          · rw [if_neg (by rw [e1]; simp [c2, c3]), if_neg (fun h => c3 h.2.2)]; rfl
        · rw [if_neg (by rw [e1]; simp [c2]), if_neg (fun h => c2 h.2.1)]; rfl
      · have e1 : (x.Code == parent e.Code) = false := by simpa using c1
        rw [if_neg (by rw [e1]; simp), if_neg (fun h => c1 h.1)]; rfl)
    (fun d _ => by unfold hasParent_b1; dsimp only; rw [if_neg (by simp)]) e.From trivial
  rw [show ((0 : Int), e.From) = (((0 : Nat) : Int), e.From) from rfl, l1, Option.bind_some]
  unfold hasParent_j1 cov
  simp [h]
theorem refCovered_eq {b : ApiNomenclature} (code : Str) (f t : Int) (hb : b.Entries.length ≤ 1000) : refCovered b code f t = some (decide (t ≤ cov b.Entries code f)) := by
  unfold refCovered
  have l1 := loop_fold (β := Int) b.Entries (refCovered_b1 b code t) (fun i d => ((i : Int), d)) (fun d p => if p.Code = code ∧ p.From ≤ d ∧ d < p.To then p.To else d) (fun d => d) (fun _ _ => True) (fun _ _ _ _ _ => trivial)
    (fun i x d _ hx => by
      have hlt := lt_of_get hx
      unfold refCovered_b1 refCovered_j2
      dsimp only
      rw [if_pos (by simp only [decide_eq_true_eq]; omega), if_pos (by omega), Int.toNat_natCast, hx, Option.bind_some, w64 (n := (i : Int) + 1) (by omega)]
      by_cases c1 : x.Code = code
      · have e1 : (x.Code == code) = true := by simpa using c1
        by_cases c2 : x.From ≤ d
        · rw [if_pos (by rw [e1]; simp [c2])]
          by_cases c3 : d < x.To
          · rw [if_pos c3, if_pos ⟨c1, c2, c3⟩]; rfl
          · rw [if_neg (by omega), if_neg (fun h => c3 h.2.2)]; rfl
        · rw [if_neg (by rw [e1]; simp [c2]), if_neg (fun h => c2 h.2.1)]; rfl
      · have e1 : (x.Code == code) = false := by simpa using c1
        rw [if_neg (by rw [e1]; simp), if_neg (fun h => c1 h.1)]; rfl)
    (fun d _ => by unfold refCovered_b1; dsimp only; rw [if_neg (by simp)]) f trivial
  rw [show ((0 : Int), f) = (((0 : Nat) : Int), f) from rfl, l1, Option.bind_some]
  rfl

def entErr (l : List Ent) (i : Nat) : Int := if oneE (l.getD i default) = 0 then (if i = 0 then 0 else ordE (l.getD (i - 1) default) (l.getD i default)) else oneE (l.getD i default)
def parErr (l : List Ent) (i : Nat) : Int := if parOk l (l.getD i default) = true then 0 else 6
def notErr (l : List ApiCodeNote) (i : Nat) : Int := if noteOk (l.getD i default) = true then 0 else 1
/-- The error of a book. -/
def nv (b : ApiNomenclature) : Int :=
  if 300 < b.Entries.length ∨ 100 < b.Notes.length then 8
  else if ferr b.Entries.length (entErr b.Entries) ≠ 0 then ferr b.Entries.length (entErr b.Entries)
  else if ferr b.Entries.length (parErr b.Entries) ≠ 0 then ferr b.Entries.length (parErr b.Entries)
  else ferr b.Notes.length (notErr b.Notes)

theorem oneE_len {e : Ent} (h : oneE e = 0) : 2 ≤ e.Code.length ∧ e.Code.length ≤ 8 ∧ lvl e.Code ≠ 0 := by
  have hl : lvl e.Code ≠ 0 := fun h0 => by unfold oneE at h; rw [if_pos h0] at h; cases h
  refine ⟨?_, ?_, hl⟩
  · unfold lvl at hl
    split at hl
    · rename_i hc; omega
    · exact absurd rfl hl
  · unfold lvl at hl
    split at hl
    · rename_i hc; omega
    · exact absurd rfl hl
theorem entErr_one {l : List Ent} {i : Nat} (h : entErr l i = 0) : oneE (l.getD i default) = 0 := by
  unfold entErr at h
  by_cases h0 : oneE (l.getD i default) = 0
  · exact h0
  · rw [if_neg h0] at h; exact h

theorem lim_eq (b : ApiNomenclature) : (bif (decide ((300 : Int) < (b.Entries.length : Int))) then true else (decide ((100 : Int) < (b.Notes.length : Int)))) = decide (300 < b.Entries.length ∨ 100 < b.Notes.length) := by
  by_cases h1 : 300 < b.Entries.length
  · have : (300 : Int) < (b.Entries.length : Int) := by omega
    simp [h1, this]
  · have e1 : ¬ (300 : Int) < (b.Entries.length : Int) := by omega
    by_cases h2 : 100 < b.Notes.length
    · have : (100 : Int) < (b.Notes.length : Int) := by omega
      simp [h1, h2, this]
    · have e2 : ¬ (100 : Int) < (b.Notes.length : Int) := by omega
      simp [h1, h2, e1, e2]
theorem nomValidate_eq (b : ApiNomenclature) : nomValidate b = some (nv b) := by
  unfold nomValidate nv
  rw [lim_eq]
  by_cases hl : 300 < b.Entries.length ∨ 100 < b.Notes.length
  · rw [if_pos (by simpa using hl), if_pos hl]
  rw [if_neg (by simpa using hl), if_neg hl]
  have l1 := loop_err b.Entries (nomValidate_b3 b) (entErr b.Entries) (fun i x hx h0 => by
    have hlt := lt_of_get hx
    unfold nomValidate_b3 nomValidate_j4 entErr
    rw [if_pos (by simp only [decide_eq_true_eq]; omega), if_pos (by omega), Int.toNat_natCast, hx, Option.bind_some, validateEntry_eq, Option.bind_some, w64 (n := (i : Int) + 1) (by omega), getD_of hx]
    by_cases h1 : oneE x = 0
    · rw [if_neg (by simp [h1]), if_pos h1]
      by_cases hi : i = 0
      · rw [if_pos (by simp [hi]), if_pos hi, if_pos rfl]; rfl
      · have hp : IntKind.i64.wrap ((i : Int) - 1) = ((i - 1 : Nat) : Int) := by rw [w64 (by omega)]; omega
        rw [if_neg (by simp; omega), hp, if_pos (by omega), Int.toNat_natCast, List.getElem?_eq_getElem (by omega : i - 1 < b.Entries.length), Option.bind_some, validateOrder_eq, Option.bind_some, if_neg hi]
        have hg : b.Entries.getD (i - 1) default = b.Entries[i - 1] := by rw [List.getD_eq_getElem?_getD, List.getElem?_eq_getElem (by omega)]; rfl
        rw [hg]
        by_cases ho : ordE b.Entries[i - 1] x = 0
        · rw [if_neg (by simp [ho]), if_pos ho]; rfl
        · rw [if_pos (by simpa using ho), if_neg ho]
    · rw [if_pos (by simpa using h1), if_neg h1, if_neg h1])
    (by unfold nomValidate_b3; rw [if_neg (by simp)])
  rw [l1, Option.bind_some]
  by_cases e1 : ¬ ferr b.Entries.length (entErr b.Entries) = 0
  · simp [e1]
  replace e1 := Decidable.not_not.1 e1
  simp only [e1, if_true, ne_eq, not_true_eq_false, if_false]
  have hall := ferr_zero.1 e1
  unfold nomValidate_j1
  have l2 := loop_err b.Entries (nomValidate_b2 b) (parErr b.Entries) (fun i x hx h0 => by
    have hlt := lt_of_get hx
    have h1 := oneE_len (entErr_one (hall i hlt))
    rw [getD_of hx] at h1
    unfold nomValidate_b2 parErr
    rw [if_pos (by simp only [decide_eq_true_eq]; omega), if_pos (by omega), Int.toNat_natCast, hx, Option.bind_some, hasParent_eq (by omega) h1.1 h1.2.1, Option.bind_some, w64 (n := (i : Int) + 1) (by omega), getD_of hx]
    cases parOk b.Entries x with
    | true => rfl
    | false => rfl)
    (by unfold nomValidate_b2; rw [if_neg (by simp)])
  rw [l2, Option.bind_some]
  by_cases e2 : ¬ ferr b.Entries.length (parErr b.Entries) = 0
  · simp [e2]
  replace e2 := Decidable.not_not.1 e2
  simp only [e2, if_true, ne_eq, not_true_eq_false, if_false]
  unfold nomValidate_j2 nomValidate_j3
  have l3 := loop_err b.Notes (nomValidate_b1 b) (notErr b.Notes) (fun i x hx h0 => by
    have hlt := lt_of_get hx
    unfold nomValidate_b1 notErr
    rw [if_pos (by simp only [decide_eq_true_eq]; omega), if_pos (by omega), Int.toNat_natCast, hx, Option.bind_some, validateNote_eq, Option.bind_some, w64 (n := (i : Int) + 1) (by omega), getD_of hx]
    cases noteOk x with
    | true => rfl
    | false => rfl)
    (by unfold nomValidate_b1; rw [if_neg (by simp)])
  rw [l3, Option.bind_some]
  by_cases h : ferr b.Notes.length (notErr b.Notes) = 0
  · simp [h]
  · simp [h]

theorem refBook_eq {b : ApiNomenclature} (hok : okApiNomenclature b) : refBook b = some (nv b) := by
  obtain ⟨⟨k1, k2⟩, k3, k4⟩ := hok
  unfold refBook nv
  rw [lim_eq]
  by_cases hl : 300 < b.Entries.length ∨ 100 < b.Notes.length
  · rw [if_pos (by simpa using hl), if_pos hl]
  rw [if_neg (by simpa using hl), if_neg hl]
  have l1 := loop_err b.Entries (refBook_b3 b) (entErr b.Entries) (fun i x hx h0 => by
    have hlt := lt_of_get hx
    unfold refBook_b3 refBook_j4 entErr
    rw [if_pos (by simp only [decide_eq_true_eq]; omega), if_pos (by omega), Int.toNat_natCast, hx, Option.bind_some, refOne_eq (k2 x (List.mem_of_getElem? hx)), Option.bind_some, w64 (n := (i : Int) + 1) (by omega), getD_of hx]
    by_cases h1 : oneE x = 0
    · rw [if_neg (by simp [h1]), if_pos h1]
      by_cases hi : i = 0
      · rw [if_pos (by simp [hi]), if_pos hi, if_pos rfl]; rfl
      · have hp : IntKind.i64.wrap ((i : Int) - 1) = ((i - 1 : Nat) : Int) := by rw [w64 (by omega)]; omega
        rw [if_neg (by simp; omega), hp, if_pos (by omega), Int.toNat_natCast, List.getElem?_eq_getElem (by omega : i - 1 < b.Entries.length), Option.bind_some, if_neg hi, refOrder]
        have hg : b.Entries.getD (i - 1) default = b.Entries[i - 1] := by rw [List.getD_eq_getElem?_getD, List.getElem?_eq_getElem (by omega)]; rfl
        rw [hg]; rfl
    · rw [if_pos (by simpa using h1), if_neg h1, if_neg h1])
    (by unfold refBook_b3; rw [if_neg (by simp)])
  rw [l1, Option.bind_some]
  by_cases e1 : ¬ ferr b.Entries.length (entErr b.Entries) = 0
  · simp [e1]
  replace e1 := Decidable.not_not.1 e1
  simp only [e1, if_true, ne_eq, not_true_eq_false, if_false]
  have hall := ferr_zero.1 e1
  unfold refBook_j1
  have l2 := loop_err b.Entries (refBook_b2 b) (parErr b.Entries) (fun i x hx h0 => by
    have hlt := lt_of_get hx
    have h1 := oneE_len (entErr_one (hall i hlt))
    rw [getD_of hx] at h1
    have hw : IntKind.i64.wrap ((x.Code.length : Int) - 2) = ((x.Code.length - 2 : Nat) : Int) := by rw [w64 (by omega)]; omega
    unfold refBook_b2 parErr
    rw [if_pos (by simp only [decide_eq_true_eq]; omega), if_pos (by omega), Int.toNat_natCast, hx, Option.bind_some, hw, if_pos (fun _ => by omega), Int.toNat_natCast, w64 (n := (i : Int) + 1) (by omega), getD_of hx, refCovered_eq _ _ _ (by omega)]
    unfold parOk
    by_cases h2 : x.Code.length = 2
    · rw [if_neg (by simp; omega), Option.bind_some, if_neg (by simp; omega), if_pos (by simp [h2])]; rfl
    · rw [if_pos (by simp; omega), Option.bind_some]
      have e2 : (2 : Int) < (x.Code.length : Int) := by omega
      show (if (bif (decide ((2 : Int) < (x.Code.length : Int))) then (!(decide (x.To ≤ cov b.Entries (parent x.Code) x.From))) else false) = true then _ else _) = _
      by_cases h3 : x.To ≤ cov b.Entries (parent x.Code) x.From
      · rw [if_neg (by simp [h3]), if_pos (by simp [h3])]; rfl
      · rw [if_pos (by simp [e2]; omega)]
        have hp : (if (decide (x.Code.length = 2) || decide (x.To ≤ cov b.Entries (parent x.Code) x.From)) = true then (0 : Int) else 6) = 6 := if_neg (by simp only [h2, decide_false, Bool.false_or, decide_eq_true_eq]; exact h3)
        rw [hp]; rfl)
    (by unfold refBook_b2; rw [if_neg (by simp)])
  rw [l2, Option.bind_some]
  by_cases e2 : ¬ ferr b.Entries.length (parErr b.Entries) = 0
  · simp [e2]
  replace e2 := Decidable.not_not.1 e2
  simp only [e2, if_true, ne_eq, not_true_eq_false, if_false]
  unfold refBook_j2 refBook_j3
  have l3 := loop_err b.Notes (refBook_b1 b) (notErr b.Notes) (fun i x hx h0 => by
    have hlt := lt_of_get hx
    unfold refBook_b1 notErr
    rw [if_pos (by simp only [decide_eq_true_eq]; omega), if_pos (by omega), Int.toNat_natCast, hx, Option.bind_some, refNote_eq (k4 x (List.mem_of_getElem? hx)), Option.bind_some, w64 (n := (i : Int) + 1) (by omega), getD_of hx]
    cases noteOk x with
    | true => rfl
    | false => rfl)
    (by unfold refBook_b1; rw [if_neg (by simp)])
  rw [l3, Option.bind_some]
  by_cases h : ferr b.Notes.length (notErr b.Notes) = 0
  · simp [h]
  · simp [h]

end Go.C
