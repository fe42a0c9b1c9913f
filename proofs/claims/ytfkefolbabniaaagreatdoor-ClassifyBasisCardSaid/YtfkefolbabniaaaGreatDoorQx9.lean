/- Packed by pack.py. -/
import Derived.Test.YtfkefolbabniaaaGreatDoorQx8
import Derived.Test.YtfkefolbabniaaaGreatDoorQx3
import Derived.Test.YtfkefolbabniaaaGreatDoorQx2
import Derived.Test.YtfkefolbabniaaaGreatDoorQx4
section
set_option linter.unusedVariables false
set_option linter.unusedSimpArgs false
namespace Go.C
open Go.V
theorem refAt_eq {b : ApiNomenclature} (h : BB b) (day : Int) : refAt b day = some (atS b day) := by
 unfold refAt atS
 have := loop_seq (f := refAt_b1 b day) b.Entries.length (fun i => ((i : Int), (b.Entries.take i).filter (onDay day))) (b.Entries.filter (onDay day)) (fun i hi => by
  have hl := h.ents.1
  have hfl := filter_len (onDay day) b.Entries i
  unfold refAt_b1 refAt_j2
  dsimp only
  rw [if_pos (by simp only [decide_eq_true_eq]; omega), if_pos (by omega), Int.toNat_natCast, List.getElem?_eq_getElem hi, Option.bind_some, if_pos (fun _ => by omega), w64 (n := (i : Int) + 1) (by omega), filter_take _ hi, getD_get hi]
  have e : (bif (decide (b.Entries[i].From ≤ day)) then (decide (day < b.Entries[i].To)) else false) = onDay day b.Entries[i] := by unfold onDay; cases decide (b.Entries[i].From ≤ day) <;> rfl
  rw [e]
  cases onDay day b.Entries[i] with
  | true => rw [if_pos rfl, if_pos (by omega), Option.bind_some, if_pos (by simp; omega), if_pos rfl]; rfl
  | false => rw [if_neg (by simp), if_neg (by simp)]; rfl) (by unfold refAt_b1; dsimp only; rw [if_neg (by simp), List.take_length])
 rw [show ((0 : Int), ([] : List Ent)) = (((0 : Nat) : Int), (b.Entries.take 0).filter (onDay day)) from rfl, this]; rfl
theorem find_any (code : Str) {l : List Ent} (hl : l.length ≤ 1000) : ∃ r, loopO (nomFind_b1 code l) (0 : Int) = some r ∧ (match r with | .inl v => v.2 = true ∧ v.1 ∈ l ∧ v.1.Code = code | .inr _ => ∀ e, e ∈ l → e.Code ≠ code) := by
 exact loop_all l (nomFind_b1 code l) (fun i (_ : Unit) => (i : Int)) (fun i _ => ∀ j, j < i → (l.getD j default).Code ≠ code) _ (fun i x b hx hI => by
  have hlt := lt_of_get hx
  unfold nomFind_b1
  rw [if_pos (by simp only [decide_eq_true_eq]; omega), if_pos (by omega), Int.toNat_natCast, hx, Option.bind_some, w64 (n := (i : Int) + 1) (by omega)]
  by_cases hv : x.Code = code
  ·exact .inr ⟨_, if_pos (by simpa using hv), rfl, List.mem_of_getElem? hx, hv⟩
  ·refine .inl ⟨(), by rw [if_neg (by simpa using hv)]; rfl, fun j hj => ?_⟩
   by_cases e : j = i
   ·subst e; rw [getD_of hx]; exact hv
   ·exact hI j (by omega))
  (fun b hI => ⟨.inr (), by unfold nomFind_b1; rw [if_neg (by simp)], fun e he => by
   obtain ⟨j, hj, rfl⟩ := List.getElem_of_mem he
   have := hI j hj
   rwa [getD_get hj] at this⟩) () (fun j hj => by omega)
def zeroE : Ent := ⟨[], 0, 0, [], false⟩
theorem atS_len {b : ApiNomenclature} (h : BB b) (day : Int) : (atS b day).length ≤ 1000 := Nat.le_trans (List.length_filter_le _ _) h.ents.1
theorem nomFind_one {b : ApiNomenclature} (h : BB b) (day : Int) (code : Str) : ∃ r : Ent × Bool, nomFind b day code = some r ∧ ((r.2 = true ∧ r.1 ∈ atS b day ∧ r.1.Code = code) ∨ (r = (zeroE, false) ∧ ∀ e, e ∈ atS b day → e.Code ≠ code)) := by
 obtain ⟨r, e, hr⟩ := find_any code (atS_len h day)
 unfold nomFind nomFind_j1
 rw [nomAt_eq h, Option.bind_some, e, Option.bind_some]
 rcases r with r | r
 ·exact ⟨r, rfl, .inl hr⟩
 ·exact ⟨_, rfl, .inr ⟨rfl, hr⟩⟩
theorem refPrefix_eq (c p : Str) (hc : c.length ≤ 9223372036854775807) : refPrefix c p = some (Lib.hasPrefix c p) := by
 unfold refPrefix Lib.hasPrefix
 by_cases h : p.length ≤ c.length
 ·have d : (p.length : Int) ≤ (c.length : Int) := by omega
  rw [if_pos (fun _ => by omega)]
  simp only [d, decide_true, cond_true, Int.toNat_natCast]
  show some ((c.take p.length) == p) = _
  congr 1
  rw [Bool.eq_iff_iff, List.isPrefixOf_iff_prefix, beq_iff_eq]
  constructor
  ·intro hh; have := List.take_append_drop p.length c; rw [hh] at this; exact ⟨_, this⟩
  ·rintro ⟨t, rfl⟩; simp
 ·have d : ¬ (p.length : Int) ≤ (c.length : Int) := by omega
  rw [if_pos (fun hh => by simp [d] at hh)]
  simp only [d, decide_false, cond_false]
  congr 1
  cases hp : p.isPrefixOf c with
  | false => rfl
  | true =>
   obtain ⟨t, ht⟩ := List.isPrefixOf_iff_prefix.1 hp
   have := congrArg List.length ht
   simp at this; omega
theorem rbelow_loop {l : List Ent} (code : Str) (hcl : code.length ≤ 9223372036854775807) (hl : l.length ≤ 1000) (hc : ∀ e, e ∈ l → e.Code.length ≤ 1000) : loopO (refBelow_b1 code l) ((0 : Int), []) = some (l.filter (below code)) := by
 have := loop_seq (f := refBelow_b1 code l) l.length (fun i => ((i : Int), (l.take i).filter (below code))) (l.filter (below code)) (fun i hi => by
  have hfl := filter_len (below code) l i
  have hxl := hc _ (List.getElem_mem hi)
  unfold refBelow_b1 refBelow_j2
  dsimp only
  rw [if_pos (by simp only [decide_eq_true_eq]; omega), if_pos (by omega), Int.toNat_natCast, List.getElem?_eq_getElem hi, Option.bind_some, if_pos (fun _ => by omega), w64 (n := (i : Int) + 1) (by omega), filter_take _ hi, getD_get hi]
  generalize l[i] = x at hxl ⊢
  rw [refPrefix_eq _ _ (by omega)]
  have fin : ∀ c : Bool, c = below code x → (if c = true then (if (0 ≤ (i : Int)) then (some x).bind fun x6 => (if (((l.take i).filter (below code)).length + [x6].length ≤ 137438953472) then some (Sum.inl (((i : Int) + 1), ((l.take i).filter (below code) ++ [x6]))) else none) else none) else some (Sum.inl (((i : Int) + 1), (l.take i).filter (below code)))) = (some (Sum.inl (((i + 1 : Nat) : Int), (if below code x = true then (l.take i).filter (below code) ++ [x] else (l.take i).filter (below code)))) : Option ((Int × List Ent) ⊕ List Ent)) := fun c hcc => by
   rw [hcc]
   cases below code x with
   | true => rw [if_pos rfl, if_pos (by omega), Option.bind_some, if_pos (by simp; omega), if_pos rfl]; rfl
   | false => rw [if_neg (by simp), if_neg (by simp)]; rfl
  by_cases h0 : code = []
  ·have e0 : (code == ([] : Str)) = true := by simpa using h0
   simp only [e0, cond_true, Bool.not_true, cond_false, Bool.and_false, Bool.false_eq_true, if_false, Option.bind_some]
   refine fin _ ?_
   unfold below
   rw [if_pos h0]
   by_cases h4 : x.Code.length = 4
   ·simp [h4]
   ·have : ((x.Code.length : Int) == 4) = false := by simp; omega
    rw [this]; simp [h4]
  ·have e0 : (code == ([] : Str)) = false := by simpa using h0
   have hpos : 0 < code.length := List.length_pos_iff.2 h0
   simp only [e0, cond_false, Bool.not_false, cond_true, Bool.true_and]
   have hw : ((x.Code.length : Int) == IntKind.i64.wrap ((code.length : Int) + 2)) = decide (x.Code.length = code.length + 2) := by
    rw [IntKind.wrap_i64, Bool.eq_iff_iff, beq_iff_eq, decide_eq_true_eq]
    omega
   rw [hw]
   by_cases h2 : x.Code.length = code.length + 2
   ·have d2 : decide (x.Code.length = code.length + 2) = true := by simpa using h2
    simp only [d2, if_true, Option.bind_some, cond_true]
    refine fin _ ?_
    unfold below Lib.hasPrefix
    rw [if_neg h0, Bool.eq_iff_iff, List.isPrefixOf_iff_prefix, decide_eq_true_eq]
    have hp : parent x.Code = x.Code.take code.length := by unfold parent; congr 1; omega
    rw [hp]
    constructor
    ·rintro ⟨t, ht⟩; exact ⟨by omega, by rw [← ht]; simp⟩
    ·rintro ⟨_, hh⟩; have := List.take_append_drop code.length x.Code; rw [hh] at this; exact ⟨_, this⟩
   ·have d2 : decide (x.Code.length = code.length + 2) = false := by simpa using h2
    simp only [d2, Bool.false_eq_true, if_false, Option.bind_some, cond_false]
    refine fin false ?_
    unfold below
    rw [if_neg h0]
    symm
    rw [decide_eq_false_iff_not]
    rintro ⟨h3, hh⟩
    have := congrArg List.length hh
    unfold parent at this
    rw [List.length_take] at this
    omega) (by unfold refBelow_b1; dsimp only; rw [if_neg (by simp), List.take_length])
 exact this
theorem refBelow_eq {b : ApiNomenclature} (h : BB b) (hc : ∀ e, e ∈ b.Entries → e.Code.length ≤ 1000) (day : Int) {code : Str} (hcl : code.length ≤ 9223372036854775807) : refBelow b day code = some (belS b day code) := by
 unfold refBelow
 rw [refAt_eq h, Option.bind_some, rbelow_loop (l := atS b day) code hcl (atS_len h day) (fun e he => hc e (List.mem_filter.1 he).1)]; rfl
theorem sameStrings_refl (l : List Str) (hl : l.length ≤ 1000) : sameStrings l l = some true := by
 unfold sameStrings
 rw [if_neg (by simp)]
 have := loop_seq (f := sameStrings_b1 l l) l.length (fun i => (i : Int)) (.inr ()) (fun i hi => by
  unfold sameStrings_b1
  rw [if_pos (by simp only [decide_eq_true_eq]; omega), if_pos (by omega), Int.toNat_natCast, List.getElem?_eq_getElem hi, Option.bind_some, if_pos (by omega), Option.bind_some, if_neg (by simp), w64 (n := (i : Int) + 1) (by omega)]
  rfl) (by unfold sameStrings_b1; rw [if_neg (by simp)])
 rw [show ((0 : Int) = ((0 : Nat) : Int)) from rfl, this]; rfl
theorem sameEntries_refl (l : List Ent) (hl : l.length ≤ 1000) (hw : ∀ x, x ∈ l → LB x.Terms) : sameEntries l l = some true := by
 unfold sameEntries
 rw [if_neg (by simp)]
 have := loop_seq (f := sameEntries_b1 l l) l.length (fun i => (i : Int)) (.inr ()) (fun i hi => by
  have hx := hw _ (List.getElem_mem hi)
  have inner := loop_seq (f := sameEntries_b2 l l (i : Int)) l[i].Terms.length (fun k => (k : Int)) (.inr ()) (fun k hk => by
   have hxl := hx.1
   unfold sameEntries_b2
   dsimp only
   rw [if_pos (by omega), Int.toNat_natCast, Int.toNat_natCast, List.getElem?_eq_getElem hi, Option.bind_some, if_pos (by simp only [decide_eq_true_eq]; omega), if_pos (by omega), Option.bind_some, if_pos (by omega), List.getElem?_eq_getElem hk, Option.bind_some, if_pos (by omega), Option.bind_some, if_pos (by omega), List.getElem?_eq_getElem hk, Option.bind_some, sameStrings_refl _ (hx.2 _ (List.getElem_mem hk)), Option.bind_some, if_neg (by simp), w64 (n := (k : Int) + 1) (by omega)]
   rfl) (by unfold sameEntries_b2; dsimp only; rw [if_pos (by omega), Int.toNat_natCast, List.getElem?_eq_getElem hi, Option.bind_some, if_neg (by simp)])
  unfold sameEntries_b1
  dsimp only
  rw [if_pos (by simp only [decide_eq_true_eq]; omega), if_pos (by omega), Int.toNat_natCast, List.getElem?_eq_getElem hi, Option.bind_some, if_pos (by omega), Option.bind_some]
  rw [if_pos (fun _ => by omega), if_pos (fun _ => by omega), if_pos (fun _ => by omega), if_pos (fun _ => by omega), if_pos (fun _ => by omega), if_pos (fun _ => by omega), if_pos (fun _ => by omega), if_pos (fun _ => by omega), if_neg (by simp), show ((0 : Int)) = ((0 : Nat) : Int) from rfl, inner, Option.bind_some]
  show sameEntries_j2 l l (i : Int) = _
  unfold sameEntries_j2
  rw [w64 (n := (i : Int) + 1) (by omega)]; rfl) (by unfold sameEntries_b1; rw [if_neg (by simp)])
 rw [show ((0 : Int) = ((0 : Nat) : Int)) from rfl, this]; rfl
theorem NMade.BB {b : ApiNomenclature} (h : NMade b) : BB b := by
 have hl := h.len
 refine ⟨⟨by omega, fun e he => ?_⟩, by have := h.notes.1; omega, fun n hn => by have := (h.notes.2 n hn).2.2.2.1; omega⟩
 have ht := (h.mem e he).1.terms
 exact ⟨by omega, fun x hx => by have := (ht.2 x hx).2.2; omega⟩
theorem NMade.code {b : ApiNomenclature} (h : NMade b) : ∀ e, e ∈ b.Entries → 2 ≤ e.Code.length ∧ e.Code.length ≤ 8 ∧ lvl e.Code ≠ 0 := fun e he => oneE_len (h.mem e he).1.one
end Go.C
end

section
set_option linter.unusedVariables false
set_option linter.unusedSimpArgs false
namespace Go.C
open Go.V
theorem refHas_eq {l : List Str} (s : Str) (h : l.length ≤ 1000) : refHas l s = some (l.contains s) := by
 unfold refHas
 have step : ∀ (i : Nat) (x : Str), l[i]? = some x → refHas_b1 l s (i : Int) = if (x == s) = true then some (.inr (.inl true)) else some (.inl ((i + 1 : Nat) : Int)) := fun i x hx => by
  have hlt := lt_of_get hx
  unfold refHas_b1
  rw [if_pos (by simp only [decide_eq_true_eq]; omega), if_pos (by omega), Int.toNat_natCast, hx, Option.bind_some, w64 (n := (i : Int) + 1) (by omega)]; rfl
 have l1 := loop_list (β := Unit) l (refHas_b1 l s) (fun i _ => (i : Int)) (fun _ _ => ()) (fun i => !(l.getD i default == s)) (.inl true) (fun _ => .inr ()) (fun _ _ => True) (fun _ _ _ _ _ => trivial)
  (fun i x _ _ hx hp => by rw [getD_of hx] at hp; rw [step i x hx, if_neg (by intro hh; rw [hh] at hp; cases hp)]) (fun i x _ _ hx hp => by rw [getD_of hx] at hp; rw [step i x hx, if_pos (by simpa using hp)]) (fun _ _ => by unfold refHas_b1; rw [if_neg (by simp)]) () trivial
 rw [show ((0 : Int)) = ((0 : Nat) : Int) from rfl, l1, range_all (fun x => !(x == s))]
 have e : (l.all fun x => !(x == s)) = !l.contains s := by
  rw [← List.not_any_eq_all_not]
  congr 1
  rw [Bool.eq_iff_iff, List.any_eq_true, List.contains_iff_mem]
  constructor
  ·rintro ⟨x, hx, he⟩; rw [← beq_iff_eq.1 he]; exact hx
  ·intro hx; exact ⟨s, hx, by simp⟩
 rw [e]
 cases l.contains s <;> rfl
theorem refSubset_eq {a b : List Str} (ha : a.length ≤ 1000) (hb : b.length ≤ 1000) : refSubset a b = some (subS a b) := by
 unfold refSubset
 have step : ∀ (i : Nat) (x : Str), a[i]? = some x → refSubset_b1 a b (i : Int) = if (!b.contains x) = true then some (.inr (.inl false)) else some (.inl ((i + 1 : Nat) : Int)) := fun i x hx => by
  have hlt := lt_of_get hx
  unfold refSubset_b1
  rw [if_pos (by simp only [decide_eq_true_eq]; omega), if_pos (by omega), Int.toNat_natCast, hx, Option.bind_some, refHas_eq x hb, Option.bind_some, w64 (n := (i : Int) + 1) (by omega)]; rfl
 have l1 := loop_list (β := Unit) a (refSubset_b1 a b) (fun i _ => (i : Int)) (fun _ _ => ()) (fun i => b.contains (a.getD i default)) (.inl false) (fun _ => .inr ()) (fun _ _ => True) (fun _ _ _ _ _ => trivial)
  (fun i x _ _ hx hp => by rw [getD_of hx] at hp; rw [step i x hx, hp]; rfl) (fun i x _ _ hx hp => by rw [getD_of hx] at hp; rw [step i x hx, hp]; rfl) (fun _ _ => by unfold refSubset_b1; rw [if_neg (by simp)]) () trivial
 rw [show ((0 : Int)) = ((0 : Nat) : Int) from rfl, l1, range_all (fun x => b.contains x)]
 unfold subS
 cases (a.all fun x => b.contains x) <;> rfl
theorem refExcluded_eq {b : ApiNomenclature} (h : BB b) {code : Str} (hc : code.length ≤ 9223372036854775807) {words : List Str} (hw : words.length ≤ 1000) : refExcluded b code words = some (exS b code words) := by
 unfold refExcluded
 have hl := h.notes.1
 have step : ∀ (i : Nat) (x : ApiCodeNote), b.Notes[i]? = some x → refExcluded_b1 b code words (i : Int) = if (Lib.hasPrefix code x.Scope && subS x.Words words) = true then some (.inr (.inl true)) else some (.inl ((i + 1 : Nat) : Int)) := fun i x hx => by
  have hlt := lt_of_get hx
  have hxl := h.notes.2 x (List.mem_of_getElem? hx)
  unfold refExcluded_b1
  rw [if_pos (by simp only [decide_eq_true_eq]; omega), if_pos (by omega), Int.toNat_natCast, hx, Option.bind_some, refPrefix_eq _ _ hc, Option.bind_some, if_pos (fun _ => by omega), w64 (n := (i : Int) + 1) (by omega), getD_of hx, refSubset_eq hxl hw]
  cases Lib.hasPrefix code x.Scope <;> cases subS x.Words words <;> rfl
 have l1 := loop_list (β := Unit) b.Notes (refExcluded_b1 b code words) (fun i _ => (i : Int)) (fun _ _ => ()) (fun i => !(Lib.hasPrefix code (b.Notes.getD i default).Scope && subS (b.Notes.getD i default).Words words)) (.inl true) (fun _ => .inr ()) (fun _ _ => True) (fun _ _ _ _ _ => trivial)
  (fun i x _ _ hx hp => by rw [getD_of hx] at hp; rw [step i x hx, if_neg (by intro hh; rw [hh] at hp; cases hp)]) (fun i x _ _ hx hp => by rw [getD_of hx] at hp; rw [step i x hx, if_pos (by simpa using hp)]) (fun _ _ => by unfold refExcluded_b1; rw [if_neg (by simp)]) () trivial
 rw [show ((0 : Int)) = ((0 : Nat) : Int) from rfl, l1, range_all (fun n : ApiCodeNote => !(Lib.hasPrefix code n.Scope && subS n.Words words))]
 unfold exS refExcluded_j1
 rw [← List.not_any_eq_all_not]
 cases (b.Notes.any fun n => Lib.hasPrefix code n.Scope && subS n.Words words) <;> rfl
theorem refAlts_eq {b : ApiNomenclature} (h : BB b) {e : Ent} (he : LB e.Terms) : refAlts b e = some (altS b e) := by
 unfold refAlts altS
 have hl := h.notes.1
 have ht := he.1
 rw [if_pos (by omega)]
 have := loop_seq (f := refAlts_b1 b e) b.Notes.length (fun i => ((i : Int), e.Terms ++ ((b.Notes.take i).filter fun n => n.Target == e.Code).map (·.Words))) (e.Terms ++ (b.Notes.filter fun n => n.Target == e.Code).map (·.Words)) (fun i hi => by
  have hfl := filter_len (fun n => n.Target == e.Code) b.Notes i
  unfold refAlts_b1 refAlts_j2
  dsimp only
  rw [if_pos (by simp only [decide_eq_true_eq]; omega), if_pos (by omega), Int.toNat_natCast, List.getElem?_eq_getElem hi, Option.bind_some, w64 (n := (i : Int) + 1) (by omega), filter_take _ hi]
  cases hc : (b.Notes[i].Target == e.Code) with
  | true => rw [if_pos rfl, if_pos (by omega), Option.bind_some, if_pos (by simp only [List.length_append, List.length_map, List.length_cons, List.length_nil]; omega), if_pos rfl, List.map_append, ← List.append_assoc]; rfl
  | false => rw [if_neg (by simp), if_neg (by simp)]; rfl) (by unfold refAlts_b1; dsimp only; rw [if_neg (by simp), List.take_length])
 have e0 : ((0 : Int), e.Terms) = (((0 : Nat) : Int), e.Terms ++ ((b.Notes.take 0).filter fun n => n.Target == e.Code).map (·.Words)) := by simp
 rw [e0, this]; rfl
theorem refScore_eq {b : ApiNomenclature} (h : BB b) {e : Ent} (he : LB e.Terms) (hc : e.Code.length ≤ 9223372036854775807) {words : List Str} (hw : words.length ≤ 1000) : refScore b e words = some (scS b e words) := by
 unfold refScore scS
 rw [refExcluded_eq h hc hw, Option.bind_some]
 cases exS b e.Code words with
 | true => rfl
 | false =>
  simp only [Bool.false_eq_true, if_false]
  obtain ⟨a1, a2⟩ := altS_LB h he
  rw [refAlts_eq h he, Option.bind_some]
  have := loop_fold (β := Int) (altS b e) (refScore_b1 words (altS b e)) (fun i n => ((i : Int), n)) (fun n a => scF words n a) (fun n => n) (fun _ _ => True) (fun _ _ _ _ _ => trivial) (fun i x n _ hx => by
   have hlt := lt_of_get hx
   unfold refScore_b1 refScore_j2 scF
   dsimp only
   rw [if_pos (by simp only [decide_eq_true_eq]; omega), if_pos (by omega), Int.toNat_natCast, hx, Option.bind_some, w64 (n := (i : Int) + 1) (by omega), refSubset_eq (a2 x (List.mem_of_getElem? hx)) hw, Option.bind_some]
   cases hs : subS x words with
   | true =>
    rw [if_pos rfl, if_pos (by omega), Option.bind_some]
    by_cases hcc : n < (x.length : Int)
    ·rw [if_pos hcc, if_pos ⟨hcc, rfl⟩]; rfl
    ·rw [if_neg (by omega), if_neg (fun hh => hcc hh.1)]; rfl
   | false => rw [if_neg (by simp), if_neg (by simp)]; rfl) (fun n _ => by unfold refScore_b1; dsimp only; rw [if_neg (by simp)]) 0 trivial
  rw [show ((0 : Int), (0 : Int)) = (((0 : Nat) : Int), (0 : Int)) from rfl, this]; rfl
theorem refWith_ok {l : List Str} (s : Str) (hl : l.length ≤ 1000) : ∃ r, refWith l s = some r ∧ (∀ x, x ∈ r ↔ x ∈ l ∨ x = s) ∧ r.length ≤ l.length + 1 := by
 unfold refWith
 obtain ⟨k, e, m, rfl, hm⟩ := loop_inv (f := refWith_b1 l s) (fun q x => ∃ k : Nat, q = l.length - k ∧ k ≤ l.length ∧ x = (k : Int)) (fun r => ∃ k : Nat, r = (k : Int) ∧ k ≤ l.length) (by
  rintro q x ⟨k, rfl, hk, rfl⟩
  unfold refWith_b1
  rw [if_pos (fun hh => by simp at hh; omega)]
  by_cases hlt : k < l.length
  ·have d : (k : Int) < (l.length : Int) := by omega
   simp only [d, decide_true, cond_true, Int.toNat_natCast]
   split
   ·refine .inl ⟨_, l.length - (k + 1), by omega, rfl, k + 1, rfl, by omega, ?_⟩
    rw [w64 (n := (k : Int) + 1) (by omega)]; rfl
   ·exact .inr ⟨_, rfl, k, rfl, hk⟩
  ·have d : ¬ (k : Int) < (l.length : Int) := by omega
   rw [if_neg (by simp [d])]
   exact .inr ⟨_, rfl, k, rfl, hk⟩) l.length (0 : Int) ⟨0, by simp, by omega, rfl⟩
 rw [e, Option.bind_some]
 show ∃ r, refWith_j1 l s (m : Int) = some r ∧ _
 unfold refWith_j1
 rw [if_pos (fun hh => by simp at hh; omega), Int.toNat_natCast]
 by_cases hc : (bif (decide ((m : Int) < (l.length : Int))) then ((l.getD m default) == s) else false) = true
 ·rw [if_pos hc]
  have hlt : m < l.length := by
   by_cases d : (m : Int) < (l.length : Int)
   ·omega
   ·simp [d] at hc
  have d : (m : Int) < (l.length : Int) := by omega
  simp only [d, decide_true, cond_true] at hc
  refine ⟨l, rfl, fun x => ⟨.inl, fun hx => ?_⟩, by omega⟩
  rcases hx with hx | hx
  ·exact hx
  ·rw [hx, ← beq_iff_eq.1 hc, getD_get hlt]; exact List.getElem_mem hlt
 ·rw [if_neg hc, if_pos (by omega)]
  have tl : ((l.take m).drop (0 : Int).toNat).length ≤ 1000 := by simp; omega
  have dl : (l.drop m).length ≤ 1000 := by simp; omega
  rw [if_pos (by omega), if_pos (by simp only [List.length_cons, List.length_nil]; omega), if_pos (by omega), if_pos (by simp only [List.length_append, List.length_cons, List.length_nil]; omega)]
  refine ⟨_, rfl, fun x => ?_, ?_⟩
  ·show x ∈ (l.take m ++ [s]) ++ l.drop m ↔ _
   have hx : x ∈ l ↔ x ∈ l.take m ∨ x ∈ l.drop m := by rw [← List.mem_append, List.take_append_drop]
   rw [List.mem_append, List.mem_append, List.mem_singleton, hx]
   constructor
   ·rintro ((h | h) | h)
    ·exact .inl (.inl h)
    ·exact .inr h
    ·exact .inl (.inr h)
   ·rintro ((h | h) | h)
    ·exact .inl (.inl h)
    ·exact .inr h
    ·exact .inl (.inr h)
  ·show ((l.take m ++ [s]) ++ l.drop m).length ≤ _
   simp; omega
end Go.C
end

section
set_option linter.unusedVariables false
set_option linter.unusedSimpArgs false
namespace Go.C
open Go.V
open Go.Lib (decDigits)
theorem take_snoc {α : Type} {l : List α} {i : Nat} (h : i < l.length) : l.take (i + 1) = l.take i ++ [l[i]] := by rw [List.take_add_one, List.getElem?_eq_getElem h]; rfl
end Go.C
end

section
set_option linter.unusedVariables false
set_option linter.unusedSimpArgs false
namespace Go.C
open Go.V
def mx (m n : Int) : Int := if n > m then n else m
theorem mx_l (m n : Int) : m ≤ mx m n := by unfold mx; split <;> omega
theorem mx_r (m n : Int) : n ≤ mx m n := by unfold mx; split <;> omega
theorem mx_or (m n : Int) : mx m n = m ∨ mx m n = n := by unfold mx; split <;> simp
def mxL {α : Type} (s : α → Int) (l : List α) : Int := l.foldl (fun m x => mx m (s x)) 0
theorem mxF_ge {α : Type} (s : α → Int) : ∀ (l : List α) (m : Int), m ≤ l.foldl (fun m x => mx m (s x)) m ∧ ∀ x, x ∈ l → s x ≤ l.foldl (fun m x => mx m (s x)) m
 | [], m => ⟨Int.le_refl _, fun x h => by cases h⟩
 | y :: l, m => by
  have h := mxF_ge s l (mx m (s y))
  have h1 := mx_l m (s y); have h2 := mx_r m (s y)
  refine ⟨Int.le_trans h1 h.1, fun x hx => ?_⟩
  rcases List.mem_cons.1 hx with rfl | hx
  ·exact Int.le_trans h2 h.1
  ·exact h.2 x hx
theorem mxF_eq {α : Type} (s : α → Int) : ∀ (l : List α) (m : Int), l.foldl (fun m x => mx m (s x)) m = m ∨ ∃ x, x ∈ l ∧ l.foldl (fun m x => mx m (s x)) m = s x
 | [], m => .inl rfl
 | y :: l, m => by
  rcases mxF_eq s l (mx m (s y)) with h | ⟨x, hx, h⟩
  ·rcases mx_or m (s y) with h1 | h1
   ·exact .inl (by rw [List.foldl_cons, h, h1])
   ·exact .inr ⟨y, by simp, by rw [List.foldl_cons, h, h1]⟩
  ·exact .inr ⟨x, List.mem_cons_of_mem _ hx, by rw [List.foldl_cons, h]⟩
theorem mxL_ge {α : Type} {s : α → Int} {l : List α} {x : α} (hx : x ∈ l) : s x ≤ mxL s l := (mxF_ge s l 0).2 x hx
theorem mxL_nonneg {α : Type} (s : α → Int) (l : List α) : 0 ≤ mxL s l := (mxF_ge s l 0).1
theorem filter_max_ne {α : Type} {s : α → Int} {l : List α} (hne : l ≠ []) (h0 : ∀ x, x ∈ l → 0 ≤ s x) : (l.filter fun x => s x == mxL s l) ≠ [] := by
 rcases mxF_eq s l 0 with h | ⟨x, hx, h⟩
 ·cases l with
  | nil => exact absurd rfl hne
  | cons y l =>
   have h1 := mxL_ge (s := s) (l := y :: l) (x := y) (by simp)
   have h2 := h0 y (by simp)
   have h3 : s y = mxL s (y :: l) := by unfold mxL at h1 ⊢; omega
   intro he
   have : y ∈ (y :: l).filter fun x => s x == mxL s (y :: l) := List.mem_filter.2 ⟨by simp, beq_iff_eq.2 h3⟩
   rw [he] at this; cases this
 ·intro he
  have : x ∈ l.filter fun x => s x == mxL s l := List.mem_filter.2 ⟨hx, beq_iff_eq.2 h.symm⟩
  rw [he] at this; cases this
theorem keep_loop {l : List Ent} (f : Int × List Ent → Option ((Int × List Ent) ⊕ List Ent)) (p : Ent → Bool)
  (hgo : ∀ (i : Nat) x kept, l[i]? = some x → kept.length ≤ i → f ((i : Int), kept) = some (.inl (((i + 1 : Nat) : Int), if p x = true then kept ++ [x] else kept)))
  (hend : ∀ kept, f ((l.length : Int), kept) = some (.inr kept)) : loopO f ((0 : Int), []) = some (l.filter p) := by
 have := loop_seq (f := f) l.length (fun i => ((i : Int), (l.take i).filter p)) (l.filter p) (fun i hi => by
  have hfl : ((l.take i).filter p).length ≤ i := Nat.le_trans (List.length_filter_le _ _) (by rw [List.length_take]; omega)
  rw [hgo i _ _ (List.getElem?_eq_getElem hi) hfl, filter_take p hi]) (by rw [hend, List.take_length])
 exact this
theorem max_loop {α : Type} {l : List α} (f : Int × Int → Option ((Int × Int) ⊕ Int)) (s : α → Int)
  (hgo : ∀ (i : Nat) x m, l[i]? = some x → f ((i : Int), m) = some (.inl (((i + 1 : Nat) : Int), mx m (s x))))
  (hend : ∀ m, f ((l.length : Int), m) = some (.inr m)) : loopO f ((0 : Int), (0 : Int)) = some (mxL s l) := by
 have := loop_seq (f := f) l.length (fun i => ((i : Int), (l.take i).foldl (fun m x => mx m (s x)) 0)) (mxL s l) (fun i hi => by
  rw [hgo i _ _ (List.getElem?_eq_getElem hi), take_snoc hi, List.foldl_append]; rfl) (by rw [hend, List.take_length]; rfl)
 exact this
def dd (a : List Str) : List Str := a.foldl addKey []
theorem addKey_mem {ks : List Str} {s x : Str} : x ∈ addKey ks s ↔ x ∈ ks ∨ x = s := by
 unfold addKey
 split
 ·rename_i h
  constructor
  ·exact .inl
  ·rintro (h1 | rfl)
   ·exact h1
   ·simpa using h
 ·simp
theorem addKey_nodup {ks : List Str} {s : Str} (h : ks.Nodup) : (addKey ks s).Nodup := by
 unfold addKey
 split
 ·exact h
 ·rename_i hc
  rw [List.nodup_append]
  refine ⟨h, by simp, fun x hx y hy => ?_⟩
  rw [List.mem_singleton] at hy
  subst hy
  intro e; subst e
  exact hc (by simpa using hx)
theorem ddF {a : List Str} : ∀ ks : List Str, ks.Nodup → (a.foldl addKey ks).Nodup ∧ ∀ x, x ∈ a.foldl addKey ks ↔ x ∈ ks ∨ x ∈ a := by
 induction a with
 | nil => intro ks h; exact ⟨h, fun x => by simp⟩
 | cons y a ih =>
  intro ks h
  have h1 := ih (addKey ks y) (addKey_nodup h)
  refine ⟨h1.1, fun x => ?_⟩
  rw [List.foldl_cons, h1.2 x, addKey_mem, List.mem_cons, or_assoc]
theorem dd_nodup (a : List Str) : (dd a).Nodup := (ddF [] List.nodup_nil).1
theorem dd_mem (a : List Str) (x : Str) : x ∈ dd a ↔ x ∈ a := by rw [dd, (ddF [] List.nodup_nil).2 x]; simp
theorem addKey_len (ks : List Str) (s : Str) : (addKey ks s).length ≤ ks.length + 1 := by unfold addKey; split <;> simp
theorem ddF_len {a : List Str} : ∀ ks : List Str, (a.foldl addKey ks).length ≤ ks.length + a.length := by
 induction a with
 | nil => intro ks; simp
 | cons y a ih => intro ks; have h1 := ih (addKey ks y); have h2 := addKey_len ks y; rw [List.foldl_cons, List.length_cons]; omega
theorem dd_len (a : List Str) : (dd a).length ≤ a.length := by have := ddF_len (a := a) []; simpa [dd] using this
theorem setOf_eq {a : List Str} (ha : a.length ≤ 1000000) : setOf a = some (dd a) := by
 unfold setOf
 have := loop_seq (f := setOf_b1 a) a.length (fun i => ((i : Int), (a.take i).foldl addKey [])) (dd a) (fun i hi => by
  unfold setOf_b1
  dsimp only
  rw [if_pos (decide_eq_true (by omega)), if_pos (by omega), Int.toNat_natCast, List.getElem?_eq_getElem hi, Option.bind_some, w64 (by omega), take_snoc hi, List.foldl_append]; rfl) (by
  unfold setOf_b1
  dsimp only
  rw [if_neg (by simp), List.take_length]; rfl)
 rw [show ((0 : Int), ([] : List Str)) = (((0 : Nat) : Int), (a.take 0).foldl addKey []) from rfl, this]; rfl
theorem perm_nodup : ∀ {l m : List Str}, l.Nodup → m.Nodup → (∀ x, x ∈ l ↔ x ∈ m) → l.Perm m
 | [], m, _, _, h => by
  have : m = [] := List.eq_nil_iff_forall_not_mem.2 fun x hx => by have := (h x).2 hx; cases this
  rw [this]
 | x :: l, m, h1, h2, h => by
  have hx : x ∈ m := (h x).1 (by simp)
  have hl := List.nodup_cons.1 h1
  have hp := List.perm_cons_erase hx
  refine ((perm_nodup hl.2 (h2.erase x) fun y => ?_).cons x).trans hp.symm
  rw [h2.mem_erase_iff]
  constructor
  ·intro hy
   exact ⟨fun e => hl.1 (e ▸ hy), (h y).1 (List.mem_cons_of_mem _ hy)⟩
  ·rintro ⟨h3, h4⟩
   rcases List.mem_cons.1 ((h y).2 h4) with h5 | h5
   ·exact absurd h5 h3
   ·exact h5
/-- How many different elements of a are elements of w. -/
def comS (a w : List Str) : Int := ((dd a).countP fun x => w.contains x : Nat)
theorem contains_congr {w u : List Str} (h : ∀ x, x ∈ w ↔ x ∈ u) (x : Str) : w.contains x = u.contains x := by
 rw [Bool.eq_iff_iff, List.contains_iff_mem, List.contains_iff_mem]; exact h x
theorem comS_congr {a w u : List Str} (h : ∀ x, x ∈ w ↔ x ∈ u) : comS a w = comS a u := by
 unfold comS
 congr 1
 congr 1
 funext x
 exact contains_congr h x
theorem comS_perm {a v w : List Str} (hv : v.Nodup) (hm : ∀ x, x ∈ v ↔ x ∈ a) : (v.countP fun x => w.contains x : Nat) = comS a w := by
 unfold comS
 rw [(perm_nodup hv (dd_nodup a) (fun x => by rw [hm, dd_mem])).countP_eq]
theorem fold_count {f : Str → Int → Option Int} {p : Str → Bool} (hf : ∀ x (n : Nat), n ≤ 2000000 → f x n = some (((n + if p x = true then 1 else 0 : Nat)) : Int)) : ∀ (o : List Str) (n : Nat), n + o.length ≤ 1000000 → foldO f o n = some ((n + o.countP p : Nat) : Int)
 | [], n, _ => by simp [foldO]
 | x :: o, n, h => by
  rw [List.length_cons] at h
  rw [foldO, hf x n (by omega), Option.bind_some, fold_count hf o _ (by split <;> omega), List.countP_cons]
  congr 2
  split <;> omega
theorem commonS_eq {a b : List Str} (ha : a.length ≤ 1000) (hb : b.length ≤ 50) : commonS a b = some (comS a b) := by
 have hm : member b = some b := by unfold member; rw [if_pos (decide_eq_true (by omega))]
 unfold commonS
 rw [hm, Option.bind_some, setOf_eq (by omega), Option.bind_some]
 have hs : setFold (commonS_b1 b) (dd a) (0 : Int) = some (comS a b) := setFold_of fun o ho => by
  have hl := ho.length_eq
  have := dd_len a
  have h1 := fold_count (f := commonS_b1 b) (p := fun x => b.contains x) (fun x n hn => by
   unfold commonS_b1
   dsimp only
   rw [memberIn_eq x (by omega), Option.bind_some]
   cases b.contains x with
   | true => simp only [if_true]; rw [w64 (by omega)]; rfl
   | false => simp) o 0 (by omega)
  rw [show ((0 : Int)) = ((0 : Nat) : Int) from rfl, h1, ho.countP_eq]
  unfold comS; simp
 rw [hs]; rfl
theorem commonB_eq {a b : List Str} (ha : a.length ≤ 1000) (hb : 50 < b.length) (hb2 : b.length ≤ 1000) : commonB a b = some (comS a b) := by
 have hm : memberB b = some (dd b) := by unfold memberB; rw [if_neg (fun h => by have := of_decide_eq_true h; omega), setOf_eq (by omega)]; rfl
 unfold commonB
 rw [hm, Option.bind_some, setOf_eq (by omega), Option.bind_some]
 have hs : setFold (commonB_b1 (dd b)) (dd a) (0 : Int) = some (comS a b) := setFold_of fun o ho => by
  have hl := ho.length_eq
  have := dd_len a
  have h1 := fold_count (f := commonB_b1 (dd b)) (p := fun x => b.contains x) (fun x n hn => by
   unfold commonB_b1 memberIn2
   dsimp only
   rw [contains_congr (dd_mem b) x, Option.bind_some]
   cases b.contains x with
   | true => simp only [if_true]; rw [w64 (by omega)]; rfl
   | false => simp) o 0 (by omega)
  rw [show ((0 : Int)) = ((0 : Nat) : Int) from rfl, h1, ho.countP_eq]
  unfold comS; simp
 rw [hs]; rfl
theorem commonP_eq {a b : List Str} (ha : a.length ≤ 1000) (hb : b.length ≤ 1000) : commonP a b = some (comS a b) := by
 unfold commonP
 split
 ·rename_i h; exact commonS_eq ha h
 ·rename_i h; exact commonB_eq ha (by omega) hb
theorem bl_trans : ∀ {a b c : Str}, Op.bytesLess a b = true → Op.bytesLess b c = true → Op.bytesLess a c = true
 | a, [], c, h, _ => by cases a <;> simp [Op.bytesLess] at h
 | a, x :: b, [], _, h => by simp [Op.bytesLess] at h
 | [], x :: b, y :: c, _, _ => by simp [Op.bytesLess]
 | z :: a, x :: b, y :: c, h1, h2 => by
  simp only [Op.bytesLess, Bool.or_eq_true, Bool.and_eq_true, decide_eq_true_eq, beq_iff_eq] at h1 h2 ⊢
  rcases h1 with h1 | ⟨rfl, h1⟩
  ·rcases h2 with h2 | ⟨rfl, h2⟩
   ·exact .inl (UInt8.lt_trans h1 h2)
   ·exact .inl h1
  ·rcases h2 with h2 | ⟨rfl, h2⟩
   ·exact .inl h2
   ·exact .inr ⟨rfl, bl_trans h1 h2⟩
def AscB (l : List Str) : Prop := l.Pairwise fun a b => Op.bytesLess a b = true
theorem AscB.nodup {l : List Str} (h : AscB l) : l.Nodup := List.Pairwise.imp (fun {a b} hab e => by subst e; rw [bl_irrefl] at hab; cases hab) h
def withS : List Str → Str → List Str
 | [], s => [s]
 | x :: l, s => if Op.bytesLess x s = true then x :: withS l s else if x = s then x :: l else s :: x :: l
theorem withS_mem : ∀ {l : List Str} {s x : Str}, x ∈ withS l s ↔ x ∈ l ∨ x = s
 | [], s, x => by simp [withS]
 | y :: l, s, x => by
  unfold withS
  split
  ·rw [List.mem_cons, withS_mem, List.mem_cons, or_assoc]
  ·split
   ·rename_i e
    subst e
    constructor
    ·exact .inl
    ·rintro (h | rfl)
     ·exact h
     ·simp
   ·simp only [List.mem_cons]
    constructor
    ·rintro (h | h | h)
     ·exact .inr h
     ·exact .inl (.inl h)
     ·exact .inl (.inr h)
    ·rintro ((h | h) | h)
     ·exact .inr (.inl h)
     ·exact .inr (.inr h)
     ·exact .inl h
theorem withS_asc : ∀ {l : List Str} {s : Str}, AscB l → AscB (withS l s)
 | [], s, _ => by simp [withS, AscB]
 | x :: l, s, h => by
  have hp := List.pairwise_cons.1 h
  unfold withS
  split
  ·rename_i h1
   refine List.pairwise_cons.2 ⟨fun y hy => ?_, withS_asc hp.2⟩
   rcases withS_mem.1 hy with hy | rfl
   ·exact hp.1 y hy
   ·exact h1
  ·rename_i h1
   split
   ·exact h
   ·rename_i h2
    have h3 : Op.bytesLess s x = true := by
     have := bl_total x s
     have h4 : Op.bytesLess x s = false := by simpa using h1
     have h5 : (x == s) = false := by rw [beq_eq_false_iff_ne]; exact h2
     rw [h4, h5] at this
     simpa using this
    refine List.pairwise_cons.2 ⟨fun y hy => ?_, h⟩
    rcases List.mem_cons.1 hy with rfl | hy
    ·exact h3
    ·exact bl_trans h3 (hp.1 y hy)
theorem withS_len : ∀ (l : List Str) (s : Str), (withS l s).length ≤ l.length + 1
 | [], s => by simp [withS]
 | x :: l, s => by
  have := withS_len l s
  unfold withS
  split
  ·simp; omega
  ·split <;> simp
/-- How far the elements are less than s. -/
def tw (l : List Str) (s : Str) : Nat := (l.takeWhile fun x => Op.bytesLess x s).length
theorem tw_le : ∀ (l : List Str) (s : Str), tw l s ≤ l.length
 | [], s => by simp [tw]
 | x :: l, s => by
  have ih := tw_le l s
  unfold tw at ih ⊢
  rw [List.takeWhile_cons]
  split <;> simp
  omega
theorem tw_lt : ∀ (l : List Str) (s : Str) (i : Nat), i < tw l s → Op.bytesLess (l.getD i default) s = true
 | [], s, i, h => by simp [tw] at h
 | x :: l, s, i, h => by
  unfold tw at h
  rw [List.takeWhile_cons] at h
  split at h
  ·rename_i hx
   cases i with
   | zero => exact hx
   | succ i => rw [List.getD_cons_succ]; exact tw_lt l s i (by simpa [tw] using h)
  ·simp at h
theorem tw_at : ∀ (l : List Str) (s : Str), tw l s < l.length → Op.bytesLess (l.getD (tw l s) default) s = false
 | [], s, h => by simp at h
 | x :: l, s, h => by
  by_cases hx : Op.bytesLess x s = true
  ·have e : tw (x :: l) s = tw l s + 1 := by unfold tw; rw [List.takeWhile_cons, if_pos hx]; rfl
   rw [e] at h ⊢
   rw [List.getD_cons_succ]
   exact tw_at l s (by simpa using h)
  ·have e : tw (x :: l) s = 0 := by unfold tw; rw [List.takeWhile_cons, if_neg hx]; rfl
   rw [e, List.getD_cons_zero]; simpa using hx
theorem withS_tw : ∀ (l : List Str) (s : Str), withS l s = if tw l s < l.length ∧ l.getD (tw l s) default = s then l else (l.take (tw l s) ++ [s]) ++ l.drop (tw l s)
 | [], s => by simp [withS, tw]
 | x :: l, s => by
  by_cases hx : Op.bytesLess x s = true
  ·have e : tw (x :: l) s = tw l s + 1 := by unfold tw; rw [List.takeWhile_cons, if_pos hx]; rfl
   rw [withS, if_pos hx, e, withS_tw l s, List.getD_cons_succ, List.length_cons]
   by_cases hc : tw l s < l.length ∧ l.getD (tw l s) default = s
   ·rw [if_pos hc, if_pos ⟨by omega, hc.2⟩]
   ·rw [if_neg hc, if_neg (fun h => hc ⟨by omega, h.2⟩)]; rfl
  ·have e : tw (x :: l) s = 0 := by unfold tw; rw [List.takeWhile_cons, if_neg hx]; rfl
   rw [withS, if_neg hx, e, List.getD_cons_zero]
   by_cases hc : x = s
   ·rw [if_pos hc, if_pos ⟨by simp, hc⟩]
   ·rw [if_neg hc, if_neg (fun h => hc h.2)]; rfl
theorem refWith_eq {l : List Str} (s : Str) (hl : l.length ≤ 100000) : refWith l s = some (withS l s) := by
 have ht := tw_le l s
 unfold refWith
 have h1 := loop_seq (f := refWith_b1 l s) (tw l s) (fun i => (i : Int)) ((tw l s : Nat) : Int) (fun i hi => by
  unfold refWith_b1
  rw [if_pos (fun _ => by omega), decide_eq_true (by omega : (i : Int) < (l.length : Int)), cond_true, Int.toNat_natCast, tw_lt l s i hi, if_pos rfl, w64 (by omega)]; rfl) (by
  unfold refWith_b1
  rw [if_pos (fun h => by have := of_decide_eq_true h; omega), Int.toNat_natCast]
  by_cases h : tw l s < l.length
  ·rw [decide_eq_true (by omega : ((tw l s : Nat) : Int) < (l.length : Int)), cond_true, tw_at l s h]; rfl
  ·rw [decide_eq_false (by omega : ¬ ((tw l s : Nat) : Int) < (l.length : Int)), cond_false]; rfl)
 rw [show ((0 : Int)) = ((0 : Nat) : Int) from rfl, h1, Option.bind_some]
 show refWith_j1 l s ((tw l s : Nat) : Int) = _
 unfold refWith_j1
 rw [if_pos (fun h => by have := of_decide_eq_true h; omega), Int.toNat_natCast, withS_tw]
 by_cases hc : tw l s < l.length ∧ l.getD (tw l s) default = s
 ·rw [if_pos hc, decide_eq_true (by omega : ((tw l s : Nat) : Int) < (l.length : Int)), cond_true, if_pos (beq_iff_eq.2 hc.2)]
 ·rw [if_neg hc]
  have hn : ¬ (bif (decide (((tw l s : Nat) : Int) < (l.length : Int))) then ((l.getD (tw l s) default) == s) else false) = true := fun h => by
   by_cases h2 : tw l s < l.length
   ·rw [decide_eq_true (by omega : ((tw l s : Nat) : Int) < (l.length : Int)), cond_true, beq_iff_eq] at h; exact hc ⟨h2, h⟩
   ·rw [decide_eq_false (by omega : ¬ ((tw l s : Nat) : Int) < (l.length : Int)), cond_false] at h; cases h
  rw [if_neg hn, if_pos (by omega), if_pos (by simp only [List.length_drop, List.length_take]; omega), if_pos (by simp only [List.length_drop, List.length_take, List.length_cons, List.length_nil]; omega), if_pos (by omega), if_pos (by simp only [List.length_append, List.length_drop, List.length_take, List.length_cons, List.length_nil]; omega)]
  rfl
def uniS (a b : List Str) : List Str := b.foldl withS (a.foldl withS [])
theorem withF : ∀ {b : List Str} (l : List Str), AscB l → AscB (b.foldl withS l) ∧ (∀ x, x ∈ b.foldl withS l ↔ x ∈ l ∨ x ∈ b) ∧ (b.foldl withS l).length ≤ l.length + b.length
 | [], l, h => ⟨h, fun x => by simp, by simp⟩
 | y :: b, l, h => by
  have h1 := withF (b := b) (withS l y) (withS_asc h)
  have h2 := withS_len l y
  refine ⟨h1.1, fun x => ?_, ?_⟩
  ·rw [List.foldl_cons, h1.2.1 x, withS_mem, List.mem_cons, or_assoc]
  ·rw [List.foldl_cons, List.length_cons]; have := h1.2.2; omega
theorem uniS_asc (a b : List Str) : AscB (uniS a b) := (withF _ (withF [] (by simp [AscB])).1).1
theorem uniS_mem (a b : List Str) (x : Str) : x ∈ uniS a b ↔ x ∈ a ∨ x ∈ b := by
 rw [uniS, (withF _ (withF [] (by simp [AscB])).1).2.1 x, (withF [] (by simp [AscB])).2.1 x]; simp
theorem uniS_len (a b : List Str) : (uniS a b).length ≤ a.length + b.length := by
 have h1 := (withF (b := a) [] (by simp [AscB])).2.2
 have h2 := (withF (b := b) _ (withF (b := a) [] (by simp [AscB])).1).2.2
 unfold uniS
 simp only [List.length_nil] at h1
 omega
theorem refUnion_eq {a b : List Str} (ha : a.length ≤ 10000) (hb : b.length ≤ 10000) : refUnion a b = some (uniS a b) := by
 have hlen : ∀ i, ((a.take i).foldl withS []).length ≤ 10000 := fun i => by
  have := (withF (b := a.take i) [] (by simp [AscB])).2.2
  rw [List.length_take] at this
  simp only [List.length_nil] at this
  omega
 unfold refUnion
 have h1 := loop_seq (f := refUnion_b2 a b) a.length (fun i => ((i : Int), (a.take i).foldl withS [])) (a.foldl withS []) (fun i hi => by
  unfold refUnion_b2
  dsimp only
  rw [if_pos (decide_eq_true (by omega)), if_pos (by omega), Int.toNat_natCast, List.getElem?_eq_getElem hi, Option.bind_some, refWith_eq _ (by have := hlen i; omega), Option.bind_some, w64 (by omega), take_snoc hi, List.foldl_append]; rfl) (by
  unfold refUnion_b2
  dsimp only
  rw [if_neg (by simp), List.take_length])
 rw [show ((0 : Int), ([] : List Str)) = (((0 : Nat) : Int), (a.take 0).foldl withS []) from rfl, h1, Option.bind_some]
 show refUnion_j1 b (a.foldl withS []) = _
 unfold refUnion_j1
 have ha2 := (withF (b := a) [] (by simp [AscB]))
 have h2 := loop_seq (f := refUnion_b1 b) b.length (fun i => ((i : Int), (b.take i).foldl withS (a.foldl withS []))) (uniS a b) (fun i hi => by
  have h3 := (withF (b := b.take i) _ ha2.1).2.2
  rw [List.length_take] at h3
  have h4 := ha2.2.2
  simp only [List.length_nil] at h4
  unfold refUnion_b1
  dsimp only
  rw [if_pos (decide_eq_true (by omega)), if_pos (by omega), Int.toNat_natCast, List.getElem?_eq_getElem hi, Option.bind_some, refWith_eq _ (by omega), Option.bind_some, w64 (by omega), take_snoc hi, List.foldl_append]; rfl) (by
  unfold refUnion_b1
  dsimp only
  rw [if_neg (by simp), List.take_length]; rfl)
 rw [show ((0 : Int), a.foldl withS []) = (((0 : Nat) : Int), (b.take 0).foldl withS (a.foldl withS [])) from rfl, h2]; rfl
theorem refCommon_eq {a b : List Str} (ha : a.length ≤ 1000) (hb : b.length ≤ 1000) : refCommon a b = some (comS a b) := by
 have hul := uniS_len a []
 simp only [List.length_nil] at hul
 unfold refCommon
 rw [refUnion_eq (by omega) (by simp), Option.bind_some]
 have h1 := loop_seq (f := refCommon_b1 b (uniS a [])) (uniS a []).length (fun i => ((i : Int), ((((uniS a []).take i).countP fun x => b.contains x : Nat) : Int))) (comS a b) (fun i hi => by
  have h2 := List.countP_le_length (p := fun x => b.contains x) (l := (uniS a []).take i)
  rw [List.length_take] at h2
  unfold refCommon_b1 refCommon_j2
  dsimp only
  rw [if_pos (decide_eq_true (by omega)), if_pos (by omega), Int.toNat_natCast, List.getElem?_eq_getElem hi, Option.bind_some, refHas_eq _ hb, Option.bind_some, take_snoc hi, List.countP_append, List.countP_singleton, w64 (n := (i : Int) + 1) (by omega)]
  cases b.contains (uniS a [])[i] with
  | true => simp only [if_true]; rw [w64 (by omega)]; rfl
  | false => simp) (by
  unfold refCommon_b1
  dsimp only
  rw [if_neg (by simp), List.take_length, comS_perm (a := a) (uniS_asc a []).nodup (fun x => by rw [uniS_mem]; simp)])
 rw [show ((0 : Int), (0 : Int)) = (((0 : Nat) : Int), ((((uniS a []).take 0).countP fun x => b.contains x : Nat) : Int)) from rfl, h1]; rfl
theorem compact_mem {l : List Str} {x : Str} : x ∈ Lib.compact l ↔ x ∈ l := by
 unfold Lib.compact Lib.compactUpTo
 constructor
 ·intro h
  obtain ⟨j, hj, rfl⟩ := List.mem_map.1 h
  have hjl : j < l.length := by simpa using (List.mem_filter.1 hj).1
  simp [hjl]
 ·intro h
  obtain ⟨i, hi, rfl⟩ := List.getElem_of_mem h
  have key : ∀ i, ∀ hi : i < l.length, ∃ j, j ≤ i ∧ ∃ hj : j < l.length, l[j] = l[i] ∧ Lib.keeps l.toArray j = true := by
   intro i
   induction i with
   | zero => intro hi; exact ⟨0, Nat.le_refl _, hi, rfl, by simp [Lib.keeps]⟩
   | succ i ih =>
    intro hi
    by_cases he : l[i + 1] = l[i]
    ·obtain ⟨j, h1, h2, h3, h4⟩ := ih (by omega)
     exact ⟨j, by omega, h2, by rw [h3, he], h4⟩
    ·refine ⟨i + 1, Nat.le_refl _, hi, rfl, ?_⟩
     unfold Lib.keeps
     simp [hi, (by omega : i < l.length), he]
  obtain ⟨j, h1, h2, h3, h4⟩ := key i hi
  refine List.mem_map.2 ⟨j, List.mem_filter.2 ⟨by simpa using h2, h4⟩, ?_⟩
  simp [h2, h3]
theorem compact_len (l : List Str) : (Lib.compact l).length ≤ l.length := by
 unfold Lib.compact Lib.compactUpTo
 rw [List.length_map]
 exact Nat.le_trans (List.length_filter_le _ _) (by simp)
theorem concat2 {a b : List Str} (ha : a.length ≤ 1000000) (hb : b.length ≤ 1000000) : concatStr [a, b] = some (a ++ b) := by
 have hn : ∀ k n : Nat, k + n ≤ 3000000 → IntKind.i64.wrap ((k : Int) + (n : Int)) = ((k + n : Nat) : Int) := fun k n h => by rw [w64 (by omega)]; omega
 unfold concatStr
 have h1 : loopO (concatStr_b2 [a, b]) ((0 : Int), (0 : Int)) = some (((a.length + b.length : Nat)) : Int) := by
  have e := hn 0 a.length (by omega)
  simp only [Nat.zero_add] at e
  rw [loop_step (x := ((1 : Int), (a.length : Int))), loop_step (x := ((2 : Int), (((a.length + b.length : Nat)) : Int))), loop_stop]
  ·unfold concatStr_b2
   dsimp only
   rw [if_neg (by simp)]
  ·unfold concatStr_b2
   dsimp only
   rw [if_pos (by rfl), if_pos (by decide), show ([a, b][(1 : Int).toNat]?) = some b from rfl, Option.bind_some, hn _ _ (by omega), if_neg (fun h => by have := of_decide_eq_true h; omega)]; rfl
  ·unfold concatStr_b2
   dsimp only
   rw [if_pos (by rfl), if_pos (by decide), show ([a, b][(0 : Int).toNat]?) = some a from rfl, Option.bind_some, show (0 : Int) + (a.length : Int) = ((0 : Nat) : Int) + (a.length : Int) from rfl, e, if_neg (fun h => by have := of_decide_eq_true h; omega)]; rfl
 rw [h1, Option.bind_some]
 show concatStr_j1 [a, b] (((a.length + b.length : Nat)) : Int) = _
 have hg : growStr (((a.length + b.length : Nat)) : Int) = some [] := by
  have e0 : IntKind.i64.wrap ((0 : Int) - 0) = 0 := rfl
  unfold growStr growStr_j1
  rw [if_neg (fun h => by have := of_decide_eq_true h; omega), e0, w64 (by omega), Int.sub_zero]
  split
  ·rename_i h
   rw [if_pos ⟨of_decide_eq_true h, by omega⟩]
  ·rfl
 unfold concatStr_j1
 rw [hg, Option.bind_some]
 have h2 : loopO (concatStr_b1 [a, b]) ((0 : Int), ([] : List Str)) = some (a ++ b) := by
  rw [loop_step (x := ((1 : Int), a)), loop_step (x := ((2 : Int), a ++ b)), loop_stop]
  ·unfold concatStr_b1
   dsimp only
   rw [if_neg (by simp)]
  ·unfold concatStr_b1
   dsimp only
   rw [if_pos (by rfl), if_pos (by decide), show ([a, b][(1 : Int).toNat]?) = some b from rfl, Option.bind_some, if_pos (by omega)]; rfl
  ·unfold concatStr_b1
   dsimp only
   rw [if_pos (by rfl), if_pos (by decide), show ([a, b][(0 : Int).toNat]?) = some a from rfl, Option.bind_some, if_pos (by simp; omega)]; rfl
 rw [h2]; rfl
theorem union_ok {a b : List Str} (ha : a.length ≤ 1000) (hb : b.length ≤ 1000) : ∃ r, union a b = some r ∧ (∀ x, x ∈ r ↔ x ∈ a ∨ x ∈ b) ∧ r.length ≤ a.length + b.length := by
 unfold union sortS compactS
 rw [concat2 (by omega) (by omega), Option.bind_some, if_pos (by simp only [List.length_append]; omega), Option.bind_some, if_pos (by rw [List.length_mergeSort]; simp only [List.length_append]; omega), Option.bind_some]
 refine ⟨_, rfl, fun x => ?_, ?_⟩
 ·rw [compact_mem, List.mem_mergeSort, List.mem_append]
 ·have := compact_len ((a ++ b).mergeSort fun x y => decide (x ≤ y))
  rw [List.length_mergeSort, List.length_append] at this
  exact this
end Go.C
end

section
set_option linter.unusedVariables false
set_option linter.unusedSimpArgs false
namespace Go.C
open Go.V
open Go.Lib (decDigits)
theorem lvl_len {s : Str} (h : lvl s ≠ 0) : s.length ≤ 8 := by
 unfold lvl at h
 split at h
 ·omega
 ·exact absurd rfl h
theorem neI {a b : Int} (h : a ≠ b) : (a != b) = true := by simpa using h
theorem eqI {a b : Int} (h : a = b) : (a != b) = false := by simpa using h
/-- All its lines hold. -/
structure BVal (b : ApiNomenclature) : Prop where
  ents : ∀ e, e ∈ b.Entries → EVal e
  notes : ∀ n, n ∈ b.Notes → NVal n
end Go.C
end

section
set_option linter.unusedVariables false
set_option linter.unusedSimpArgs false
namespace Go.C
open Go.V
open Go.Lib (decDigits)
theorem EVal.okE {e : Ent} (h : EVal e) : okApiCodeEntry e := by
 have h1 := lvl_len h.lvl; have h2 := h.days; have h3 := h.few
 refine ⟨by omega, ⟨by omega, by omega⟩, ⟨by omega, by omega⟩, by omega, fun t ht => ?_⟩
 have h4 := h.terms t ht
 exact ⟨by have := h4.2.1; omega, fun w hw => by have := (isW_len (h4.2.2 w hw)).2; omega⟩
theorem NVal.okN {n : ApiCodeNote} (h : NVal n) : okApiCodeNote n := by
 have h1 := lvl_len h.scope
 refine ⟨by omega, ⟨by have := h.words.2.1; omega, fun w hw => by have := (isW_len (h.words.2.2 w hw)).2; omega⟩, ?_⟩
 rcases h.target with ht | ht
 ·rw [ht]; simp
 ·have := lvl_len (s := n.Target) (by omega); omega
theorem BVal.ok {b : ApiNomenclature} (h : BVal b) (hl : b.Entries.length + b.Notes.length ≤ 1000000) : okApiNomenclature b :=
 ⟨⟨by omega, fun e he => (h.ents e he).okE⟩, by omega, fun n hn => (h.notes n hn).okN⟩
theorem BVal.empty : BVal ⟨[], []⟩ := ⟨fun e he => by (simp only at he; cases he), fun e he => by (simp only at he; cases he)⟩
theorem nv_len {b : ApiNomenclature} (h : nv b = 0) : b.Entries.length ≤ 300 ∧ b.Notes.length ≤ 100 := by
 unfold nv at h
 split at h
 ·cases h
 ·omega
theorem EVal.LB {e : Ent} (h : EVal e) : LB e.Terms := ⟨by have := h.few; omega, fun t ht => by have := (h.terms t ht).2.1; omega⟩
theorem entErr_zero {l : List Ent} (h : ferr l.length (entErr l) = 0) : ∀ e, e ∈ l → EVal e := fun e he => by
 obtain ⟨i, hi, rfl⟩ := List.getElem_of_mem he
 have h1 := entErr_one (ferr_zero.1 h i hi)
 rw [getD_of (List.getElem?_eq_getElem hi)] at h1
 exact EVal.of h1
theorem nv_BVal {b : ApiNomenclature} (h : nv b = 0) : BVal b := by
 unfold nv at h
 split at h
 ·cases h
 ·split at h
  ·rename_i h1; exact absurd h h1
  ·rename_i h1
   split at h
   ·rename_i h2; exact absurd h h2
   ·refine ⟨entErr_zero (Classical.not_not.1 h1), fun n hn => ?_⟩
    obtain ⟨i, hi, rfl⟩ := List.getElem_of_mem hn
    have h4 := ferr_zero.1 h i hi
    unfold notErr at h4
    rw [getD_of (List.getElem?_eq_getElem hi)] at h4
    split at h4
    ·rename_i h5; exact NVal.of h5
    ·cases h4
end Go.C
end

section
set_option linter.unusedVariables false
set_option linter.unusedSimpArgs false
namespace Go.C
open Go.V
/-- A nomenclature whose parts are of bounded length. -/
structure VB (b : ApiNomenclature) : Prop where
  bb : BB b
  code : ∀ e, e ∈ b.Entries → 2 ≤ e.Code.length ∧ e.Code.length ≤ 8
theorem nv_VB {b : ApiNomenclature} (h : nv b = 0) : VB b := by
 have hv := nv_BVal h
 have hl := nv_len h
 refine ⟨⟨⟨by omega, fun e he => (hv.ents e he).LB⟩, ⟨by omega, fun n hn => by have := (hv.notes n hn).words.2.1; omega⟩⟩, fun e he => ?_⟩
 have := oneE_len (hv.ents e he).one
 exact ⟨this.1, this.2.1⟩
def allW (g : ApiGood) : List Str := g.Words ++ g.Materials.map (·.Name) ++ (g.Parts.map (·.Words)).flatten
def likS (b : ApiNomenclature) (e : Ent) (g : ApiGood) : Int := if exS b e.Code g.Words = true then 0 else mxL (fun a => comS a (allW g)) (altS b e)
theorem flatW_len {l : List ApiComponent} {k : Nat} (h : ∀ p, p ∈ l → p.Words.length ≤ k) : ((l.map (·.Words)).flatten).length ≤ k * l.length := by
 induction l with
 | nil => simp
 | cons p l ih =>
  have h1 := ih (fun q hq => h q (List.mem_cons_of_mem _ hq))
  have h2 := h p (by simp)
  simp only [List.map_cons, List.flatten_cons, List.length_append, List.length_cons]
  rw [Nat.mul_add]; omega
theorem flatW_take {l : List ApiComponent} (h : ∀ p, p ∈ l → p.Words.length ≤ 8) (i : Nat) : (((l.take i).map (·.Words)).flatten).length ≤ 8 * l.length := by
 have h1 := flatW_len (l := l.take i) (k := 8) (fun p hp => h p (List.mem_of_mem_take hp))
 rw [List.length_take] at h1
 omega
theorem allW_len {g : ApiGood} (h : GB g) : (allW g).length ≤ 64 := by
 have h1 := flatW_len h.parts.2; have h2 := h.words; have h3 := h.mats; have h4 := h.parts.1
 unfold allW
 simp only [List.length_append, List.length_map]; omega
theorem likeness_eq {b : ApiNomenclature} (hb : BB b) {e : Ent} (he : LB e.Terms) {g : ApiGood} (hg : GB g) : likeness b e g = some (likS b e g) := by
 have g1 := hg.words; have g2 := hg.mats; have g3 := hg.parts.1
 have hal := allW_len hg
 unfold likeness likS
 rw [nomExcluded_eq hb _ (by omega), Option.bind_some]
 cases hx : exS b e.Code g.Words with
 | true => rw [if_pos rfl, if_pos rfl]
 | false =>
  rw [if_neg (by simp), if_neg (by simp)]
  unfold cloneR
  rw [if_pos (by omega), Option.bind_some]
  have h1 := loop_seq (f := likeness_b3 b e g) g.Materials.length (fun i => ((i : Int), g.Words ++ (g.Materials.take i).map (·.Name))) (g.Words ++ g.Materials.map (·.Name)) (fun i hi => by
   unfold likeness_b3
   dsimp only
   rw [if_pos (decide_eq_true (by omega)), if_pos (by omega), Int.toNat_natCast, List.getElem?_eq_getElem hi, Option.bind_some, if_pos (by simp only [List.length_append, List.length_map, List.length_take, List.length_cons, List.length_nil]; omega), w64 (by omega), take_snoc hi, List.map_append, List.append_assoc]; rfl) (by
   unfold likeness_b3
   dsimp only
   rw [if_neg (by simp), List.take_length])
  have h1' : loopO (likeness_b3 b e g) ((0 : Int), g.Words) = some (g.Words ++ g.Materials.map (·.Name)) := by
   have h0 : ((0 : Int), g.Words) = (((0 : Nat) : Int), g.Words ++ (g.Materials.take 0).map (·.Name)) := by simp
   rw [h0]; exact h1
  rw [h1', Option.bind_some]
  show likeness_j1 b e g (g.Words ++ g.Materials.map (·.Name)) = _
  unfold likeness_j1
  have hbase : (g.Words ++ g.Materials.map (·.Name)).length ≤ 16 := by simp only [List.length_append, List.length_map]; omega
  have h2 := loop_seq (f := likeness_b2 b e g) g.Parts.length (fun i => ((i : Int), (g.Words ++ g.Materials.map (·.Name)) ++ ((g.Parts.take i).map (·.Words)).flatten)) (allW g) (fun i hi => by
   have hfl := flatW_take hg.parts.2 i
   have hw := hg.parts.2 _ (List.getElem_mem hi)
   unfold likeness_b2
   dsimp only
   rw [if_pos (decide_eq_true (by omega)), if_pos (by omega), Int.toNat_natCast, List.getElem?_eq_getElem hi, Option.bind_some, if_pos (by rw [List.length_append]; omega), w64 (by omega), take_snoc hi, List.map_append, List.flatten_append, List.append_assoc]
   simp) (by
   unfold likeness_b2
   dsimp only
   rw [if_neg (by simp), List.take_length]; rfl)
  have h2' : loopO (likeness_b2 b e g) ((0 : Int), g.Words ++ g.Materials.map (·.Name)) = some (allW g) := by
   have h0 : ((0 : Int), g.Words ++ g.Materials.map (·.Name)) = (((0 : Nat) : Int), (g.Words ++ g.Materials.map (·.Name)) ++ ((g.Parts.take 0).map (·.Words)).flatten) := by simp
   rw [h0]; exact h2
  rw [h2', Option.bind_some]
  show likeness_j2 b e (allW g) = _
  unfold likeness_j2
  have hal2 := altS_LB hb he
  rw [nomAlts_eq hb he, Option.bind_some]
  have h3 := loop_seq (f := likeness_b1 (altS b e)) (altS b e).length (fun i => ((i : Int), ((altS b e).take i).foldl (fun m a => mx m (comS a (allW g))) 0, allW g)) (mxL (fun a => comS a (allW g)) (altS b e)) (fun i hi => by
   unfold likeness_b1
   dsimp only
   rw [if_pos (decide_eq_true (by omega)), if_pos (by omega), Int.toNat_natCast, List.getElem?_eq_getElem hi, Option.bind_some, commonP_eq (hal2.2 _ (List.getElem_mem hi)) (by omega), Option.bind_some, w64 (by omega), take_snoc hi, List.foldl_append]; rfl) (by
   unfold likeness_b1
   dsimp only
   rw [if_neg (by simp), List.take_length]; rfl)
  rw [show ((0 : Int), (0 : Int), allW g) = (((0 : Nat) : Int), ((altS b e).take 0).foldl (fun m a => mx m (comS a (allW g))) 0, allW g) from rfl, h3]; rfl
theorem rLikeness_eq {b : ApiNomenclature} (hb : BB b) {e : Ent} (he : LB e.Terms) (hc : e.Code.length ≤ 9223372036854775807) {g : ApiGood} (hg : GB g) : rLikeness b e g = some (likS b e g) := by
 have g1 := hg.words; have g2 := hg.mats; have g3 := hg.parts.1
 unfold rLikeness likS
 rw [refExcluded_eq hb hc (by omega), Option.bind_some]
 cases hx : exS b e.Code g.Words with
 | true => rw [if_pos rfl, if_pos rfl]
 | false =>
  rw [if_neg (by simp), if_neg (by simp)]
  obtain ⟨w1, e1, m1, l1⟩ := loop_all g.Materials (rLikeness_b3 b e g) (fun i (q : List Str) => ((i : Int), q)) (fun i q => (∀ x, x ∈ q ↔ x ∈ g.Words ++ (g.Materials.take i).map (·.Name)) ∧ q.length ≤ 8 + i) (fun r => (∀ x, x ∈ r ↔ x ∈ g.Words ++ g.Materials.map (·.Name)) ∧ r.length ≤ 16) (fun i x q hx hq => by
   have hlt := lt_of_get hx
   obtain ⟨r, er, hr, hrl⟩ := refWith_ok (l := q) x.Name (by omega)
   refine .inl ⟨r, ?_, fun y => ?_, by omega⟩
   ·unfold rLikeness_b3
    dsimp only
    rw [if_pos (decide_eq_true (by omega)), if_pos (by omega), Int.toNat_natCast, hx, Option.bind_some, er, Option.bind_some, w64 (by omega)]; rfl
   ·rw [hr, hq.1, List.take_add_one, hx]; simp [or_assoc]) (fun q hq => ⟨q, by unfold rLikeness_b3; dsimp only; rw [if_neg (by simp)], fun x => by rw [hq.1, List.take_length], by omega⟩) g.Words ⟨fun x => by simp, by omega⟩
  rw [show ((0 : Int), g.Words) = (((0 : Nat) : Int), g.Words) from rfl, e1, Option.bind_some]
  show rLikeness_j1 b e g w1 = _
  unfold rLikeness_j1
  obtain ⟨w2, e2, m2, l2⟩ := loop_all g.Parts (rLikeness_b2 b e g) (fun i (q : List Str) => ((i : Int), q)) (fun i q => (∀ x, x ∈ q ↔ x ∈ (g.Words ++ g.Materials.map (·.Name)) ++ ((g.Parts.take i).map (·.Words)).flatten) ∧ q.length ≤ 16 + 8 * i) (fun r => (∀ x, x ∈ r ↔ x ∈ allW g) ∧ r.length ≤ 100) (fun i x q hx hq => by
   have hlt := lt_of_get hx
   have hw := hg.parts.2 x (List.mem_of_getElem? hx)
   have hul := uniS_len q x.Words
   refine .inl ⟨uniS q x.Words, ?_, fun y => ?_, by omega⟩
   ·unfold rLikeness_b2
    dsimp only
    rw [if_pos (decide_eq_true (by omega)), if_pos (by omega), Int.toNat_natCast, hx, Option.bind_some, refUnion_eq (by omega) (by omega), Option.bind_some, w64 (by omega)]; rfl
   ·rw [uniS_mem, hq.1, List.take_add_one, hx]; simp [or_assoc]) (fun q hq => ⟨q, by unfold rLikeness_b2; dsimp only; rw [if_neg (by simp)], fun x => by rw [hq.1, List.take_length]; rfl, by omega⟩) w1 ⟨fun x => by rw [m1]; simp, by omega⟩
  rw [show ((0 : Int), w1) = (((0 : Nat) : Int), w1) from rfl, e2, Option.bind_some]
  show rLikeness_j2 b e w2 = _
  unfold rLikeness_j2
  have hal2 := altS_LB hb he
  rw [refAlts_eq hb he, Option.bind_some]
  rw [max_loop (l := altS b e) (rLikeness_b1 w2 (altS b e)) (fun a => comS a (allW g)) (fun i x m hx => by
   have hlt := lt_of_get hx
   unfold rLikeness_b1
   dsimp only
   rw [if_pos (decide_eq_true (by omega)), if_pos (by omega), Int.toNat_natCast, hx, Option.bind_some, refCommon_eq (hal2.2 _ (List.mem_of_getElem? hx)) (by omega), Option.bind_some, w64 (by omega), comS_congr m2]; rfl) (fun m => by
   unfold rLikeness_b1
   dsimp only
   rw [if_neg (by simp)])]
  rfl
abbrev partsW : Str := [112, 97, 114, 116, 115]
def incW (g : ApiGood) : List Str := g.Words ++ [partsW]
theorem subS_congr {a w u : List Str} (h : ∀ x, x ∈ w ↔ x ∈ u) : subS a w = subS a u := by
 unfold subS
 congr 1
 funext x
 exact contains_congr h x
theorem exS_congr (b : ApiNomenclature) (c : Str) {w u : List Str} (h : ∀ x, x ∈ w ↔ x ∈ u) : exS b c w = exS b c u := by
 unfold exS
 congr 1
 funext n
 rw [subS_congr h]
theorem scS_congr (b : ApiNomenclature) (e : Ent) {w u : List Str} (h : ∀ x, x ∈ w ↔ x ∈ u) : scS b e w = scS b e u := by
 unfold scS
 rw [exS_congr b _ h]
 have : scF w = scF u := by funext n a; unfold scF; rw [subS_congr h]
 rw [this]
theorem incompleteWords_ok {g : ApiGood} (hg : GB g) : ∃ r, incompleteWords g = some r ∧ (∀ x, x ∈ r ↔ x ∈ incW g) ∧ r.length ≤ 9 := by
 have g1 := hg.words
 obtain ⟨r, e, hm, hl⟩ := union_ok (a := g.Words) (b := [partsW]) (by omega) (by simp)
 unfold incompleteWords
 rw [e]
 exact ⟨r, rfl, fun x => by rw [hm]; unfold incW; simp, by simp only [List.length_cons, List.length_nil] at hl; omega⟩
theorem rIncomplete_ok {g : ApiGood} (hg : GB g) : ∃ r, rIncomplete g = some r ∧ (∀ x, x ∈ r ↔ x ∈ incW g) ∧ r.length ≤ 9 := by
 have g1 := hg.words
 have hl := uniS_len g.Words [partsW]
 unfold rIncomplete
 rw [refUnion_eq (by omega) (by simp)]
 simp only [List.length_cons, List.length_nil] at hl
 exact ⟨uniS g.Words [partsW], rfl, fun x => by rw [uniS_mem]; unfold incW; simp, by omega⟩
def scored1 (b : ApiNomenclature) (w : List Str) (e : Ent) : Bool := decide (0 < scS b e w)
def termsS (b : ApiNomenclature) (g : ApiGood) (e : Ent) : Bool := if g.Incomplete = true then !exS b e.Code (incW g) && (altS b e).any (fun a => a.contains partsW && subS a (incW g)) else scored1 b g.Words e
def charS (b : ApiNomenclature) (g : ApiGood) (e : Ent) : Bool := (isort (chars g)).any fun x => scored1 b x.Words e
def fitS (b : ApiNomenclature) (g : ApiGood) (top : Bool) (best : Int) (way : Nat) (e : Ent) : Bool :=
 match way with
 | 1 => termsS b g e
 | 2 => g.Incomplete && scored1 b g.Words e
 | 3 => charS b g e
 | 4 => !top && e.Other
 | 5 => decide (0 < best) && (likS b e g == best)
 | _ => !top
def bestS (b : ApiNomenclature) (g : ApiGood) (level : List Ent) : Int := mxL (fun e => likS b e g) level
def candS (b : ApiNomenclature) (g : ApiGood) (top : Bool) (level : List Ent) (way : Nat) : List Ent := level.filter (fitS b g top (bestS b g level) way)
def basisL (b : ApiNomenclature) (g : ApiGood) (top : Bool) (level : List Ent) : Int × List Ent :=
 if candS b g top level 1 ≠ [] then (1, candS b g top level 1)
 else if candS b g top level 2 ≠ [] then (2, candS b g top level 2)
 else if candS b g top level 3 ≠ [] then (3, candS b g top level 3)
 else if candS b g top level 4 ≠ [] then (8, candS b g top level 4)
 else if candS b g top level 5 ≠ [] then (7, candS b g top level 5)
 else if candS b g top level 6 ≠ [] then (7, candS b g top level 6)
 else (0, [])
def basisS (b : ApiNomenclature) (day : Int) (g : ApiGood) (parent : Str) : Int × List Ent := basisL b g (decide (parent = [])) (belS b day parent)
theorem char_words {g : ApiGood} (hg : GB g) : (isort (chars g)).length ≤ 8 ∧ ∀ x, x ∈ isort (chars g) → x.Words.length ≤ 8 := by
  have g2 := hg.mats; have g3 := hg.parts
  rw [isort_len]
  unfold chars
  refine ⟨by split
             · rw [List.length_map]; exact g2
             · omega, fun x hx => ?_⟩
  have hx := isort_mem _ _ hx
  split at hx
  · obtain ⟨m, _, rfl⟩ := List.mem_map.1 hx; simp
  · exact g3.2 x hx
variable {b : ApiNomenclature} {g : ApiGood}
/-- A level: entries whose terms are of bounded length. -/
def LV (l : List Ent) : Prop := l.length ≤ 1000 ∧ ∀ e, e ∈ l → LB e.Terms ∧ e.Code.length ≤ 8
theorem LV.filter {l : List Ent} (h : LV l) (p : Ent → Bool) : LV (l.filter p) := ⟨Nat.le_trans (List.length_filter_le _ _) h.1, fun e he => h.2 e (List.mem_filter.1 he).1⟩
theorem scored_eq (hb : BB b) {l : List Ent} (hl : LV l) {w : List Str} (hw : w.length ≤ 50) : scored b l w = some (l.filter (scored1 b w)) := by
 have h1 := hl.1
 unfold scored keepScored
 rw [keep_loop (l := l) (keepScored_b1 l b w) (scored1 b w) (fun i x kept hx hk => by
  have hlt := lt_of_get hx
  unfold keepScored_b1 keepScored_j2 scoredIn
  dsimp only
  rw [if_pos (decide_eq_true (by omega)), if_pos (by omega), Int.toNat_natCast, hx, Option.bind_some, nomScore_eq hb (hl.2 x (List.mem_of_getElem? hx)).1 hw, Option.bind_some, Option.bind_some, w64 (by omega)]
  unfold scored1
  by_cases hs : 0 < scS b x w
  ·rw [decide_eq_true hs, if_pos rfl, if_pos rfl, if_pos (by simp only [List.length_cons, List.length_nil]; omega)]; rfl
  ·rw [decide_eq_false hs, if_neg (by simp), if_neg (by simp)]; rfl) (fun kept => by
  unfold keepScored_b1
  dsimp only
  rw [if_neg (by simp)])]
 rfl
theorem byTermsIn_eq (hb : BB b) {e : Ent} (he : LB e.Terms) {par : Str} {ents : List Ent} {w : List Str} (hw : w.length ≤ 50) : byTermsIn e ⟨b, g, par, ents⟩ w = some (!exS b e.Code w && (altS b e).any (fun a => a.contains partsW && subS a w)) := by
 have hal := altS_LB hb he
 unfold byTermsIn
 dsimp only
 rw [nomExcluded_eq hb _ hw, Option.bind_some]
 cases hx : exS b e.Code w with
 | true => rw [if_pos rfl]; rfl
 | false =>
  rw [if_neg (by simp), nomAlts_eq hb he, Option.bind_some]
  have hcon : ∀ x : List Str, x.length ≤ 1000 → sContains x partsW = some (x.contains partsW) := fun x hx => by
   unfold sContains
   obtain ⟨n, e1, e2⟩ := sIndex_eq (s := x) partsW hx
   rw [e1, Option.bind_some, e2]
  have step : ∀ (i : Nat) (x : List Str), (altS b e)[i]? = some x → byTermsIn_b1 ⟨b, g, par, ents⟩ w (altS b e) (i : Int) = if (x.contains partsW && subS x w) = true then some (.inr (.inl true)) else some (.inl ((i + 1 : Nat) : Int)) := fun i x hx => by
   have hlt := lt_of_get hx
   have hxl := hal.2 x (List.mem_of_getElem? hx)
   unfold byTermsIn_b1
   rw [if_pos (decide_eq_true (by omega)), if_pos (by omega), Int.toNat_natCast, hx, Option.bind_some, hcon x hxl, Option.bind_some, w64 (by omega)]
   cases x.contains partsW with
   | true => rw [if_pos rfl, subset_eq hxl hw, Option.bind_some]; simp only [cond_true, Bool.true_and]; rfl
   | false => rw [if_neg (by simp), Option.bind_some]; simp only [cond_false, Bool.false_and]; rfl
  have l1 := loop_list (β := Unit) (altS b e) (byTermsIn_b1 ⟨b, g, par, ents⟩ w (altS b e)) (fun i _ => (i : Int)) (fun _ _ => ()) (fun i => !(((altS b e).getD i default).contains partsW && subS ((altS b e).getD i default) w)) (.inl true) (fun _ => .inr ()) (fun _ _ => True) (fun _ _ _ _ _ => trivial)
   (fun i x _ _ hx hp => by rw [getD_of hx] at hp; rw [step i x hx, if_neg (by intro hh; rw [hh] at hp; cases hp)]) (fun i x _ _ hx hp => by rw [getD_of hx] at hp; rw [step i x hx, if_pos (by simpa using hp)]) (fun _ _ => by unfold byTermsIn_b1; rw [if_neg (by simp)]) () trivial
  rw [show ((0 : Int)) = ((0 : Nat) : Int) from rfl, l1, range_all (fun x : List Str => !(x.contains partsW && subS x w))]
  have e2 : ((altS b e).all fun x => !(x.contains partsW && subS x w)) = !((altS b e).any fun x => x.contains partsW && subS x w) := by rw [← List.not_any_eq_all_not]
  rw [e2]
  cases ((altS b e).any fun x => x.contains partsW && subS x w) <;> rfl
theorem byTerms_eq (hb : BB b) (hg : GB g) {par : Str} {l : List Ent} (hl : LV l) : byTerms ⟨b, g, par, l⟩ = some (l.filter (termsS b g)) := by
 have g1 := hg.words
 have h1 := hl.1
 unfold byTerms
 dsimp only
 cases hi : g.Incomplete with
 | false =>
  rw [if_pos (by rfl), scored_eq hb hl (by omega), Option.bind_some]
  have : termsS b g = scored1 b g.Words := by funext e; unfold termsS; rw [hi, if_neg (by simp)]
  rw [this]
 | true =>
  rw [if_neg (by simp)]
  obtain ⟨r, er, hm, hrl⟩ := incompleteWords_ok hg
  rw [er, Option.bind_some]
  unfold keepTerms
  rw [keep_loop (l := l) (keepTerms_b1 l ⟨b, g, par, l⟩ r) (termsS b g) (fun i x kept hx hk => by
   have hlt := lt_of_get hx
   unfold keepTerms_b1 keepTerms_j2
   dsimp only
   rw [if_pos (decide_eq_true (by omega)), if_pos (by omega), Int.toNat_natCast, hx, Option.bind_some, byTermsIn_eq hb (hl.2 x (List.mem_of_getElem? hx)).1 (by omega), Option.bind_some, w64 (by omega)]
   have : (!exS b x.Code r && (altS b x).any fun a => a.contains partsW && subS a r) = termsS b g x := by
    unfold termsS
    rw [hi, if_pos rfl, exS_congr b _ hm]
    congr 2
    funext a
    rw [subS_congr hm]
   rw [this]
   cases termsS b g x with
   | true => rw [if_pos rfl, if_pos rfl, if_pos (by simp only [List.length_cons, List.length_nil]; omega)]; rfl
   | false => rw [if_neg (by simp), if_neg (by simp)]; rfl) (fun kept => by
   unfold keepTerms_b1
   dsimp only
   rw [if_neg (by simp)])]
  rfl
theorem asComplete_eq (hb : BB b) (hg : GB g) {par : Str} {l : List Ent} (hl : LV l) : asComplete ⟨b, g, par, l⟩ = some (l.filter fun e => g.Incomplete && scored1 b g.Words e) := by
 have g1 := hg.words
 unfold asComplete
 dsimp only
 cases hi : g.Incomplete with
 | false => rw [if_pos (by rfl)]; simp
 | true => rw [if_neg (by simp), scored_eq hb hl (by omega)]; rfl
theorem char_index (hb : BB b) {e : Ent} (he : LB e.Terms) {par : Str} {l : List Ent} {cs : List Cp} (hc : cs.length ≤ 1000) (hw : ∀ x, x ∈ cs → x.Words.length ≤ 50) : byCharIn e cs ⟨b, g, par, l⟩ = some (cs.any fun x => scored1 b x.Words e) := by
 unfold byCharIn charContains charIndex
 have step : ∀ (i : Nat) (x : Cp), cs[i]? = some x → charIndex_b1 cs ⟨b, g, par, l⟩ e (i : Int) = if scored1 b x.Words e = true then some (.inr (.inl (i : Int))) else some (.inl ((i + 1 : Nat) : Int)) := fun i x hx => by
  have hlt := lt_of_get hx
  unfold charIndex_b1 byCharIn2
  dsimp only
  rw [if_pos (decide_eq_true (by omega)), if_pos (by omega), Int.toNat_natCast, hx, Option.bind_some, nomScore_eq hb he (hw x (List.mem_of_getElem? hx)), Option.bind_some, Option.bind_some, w64 (by omega)]; rfl
 obtain ⟨r, hr, hR⟩ := loop_all cs (charIndex_b1 cs ⟨b, g, par, l⟩ e) (fun i (_ : Unit) => (i : Int)) (fun i _ => ∀ j, j < i → scored1 b (cs.getD j default).Words e = false) (fun r => match r with | .inl n => 0 ≤ n ∧ (cs.any fun x => scored1 b x.Words e) = true | .inr _ => (cs.any fun x => scored1 b x.Words e) = false) (fun i x _ hx hI => by
   rw [step i x hx]
   cases hs : scored1 b x.Words e with
   | true => exact .inr ⟨_, if_pos rfl, by omega, List.any_eq_true.2 ⟨x, List.mem_of_getElem? hx, hs⟩⟩
   | false =>
    refine .inl ⟨(), by rw [if_neg (by simp)], fun j hj => ?_⟩
    by_cases e1 : j = i
    ·subst e1; rw [getD_of hx]; exact hs
    ·exact hI j (by omega))
  (fun _ hI => ⟨.inr (), by unfold charIndex_b1; rw [if_neg (by simp)], by
   rw [List.any_eq_false]
   intro x hx
   obtain ⟨j, hj, rfl⟩ := List.getElem_of_mem hx
   have := hI j hj
   rw [getD_of (List.getElem?_eq_getElem hj)] at this
   simp [this]⟩) () (fun j hj => by omega)
 rw [show ((0 : Int)) = ((0 : Nat) : Int) from rfl, hr, Option.bind_some]
 rcases r with n | u
 ·dsimp only
  rw [Option.bind_some, Option.bind_some, hR.2, decide_eq_true (by have := hR.1; omega)]
 ·dsimp only
  unfold charIndex_j1
  rw [Option.bind_some, Option.bind_some, hR]; rfl
theorem byCharacter_eq (hb : BB b) (hg : GB g) {par : Str} {l : List Ent} (hl : LV l) : byCharacter ⟨b, g, par, l⟩ = some (l.filter (charS b g)) := by
 have h1 := hl.1
 have hcw := char_words hg
 unfold byCharacter
 dsimp only
 rw [goodsCharacters_eq hg, Option.bind_some]
 unfold keepChar
 rw [keep_loop (l := l) (keepChar_b1 l (isort (chars g)) ⟨b, g, par, l⟩) (charS b g) (fun i x kept hx hk => by
  have hlt := lt_of_get hx
  unfold keepChar_b1 keepChar_j2
  dsimp only
  rw [if_pos (decide_eq_true (by omega)), if_pos (by omega), Int.toNat_natCast, hx, Option.bind_some, char_index hb (hl.2 x (List.mem_of_getElem? hx)).1 (by omega) (fun y hy => by have := hcw.2 y hy; omega), Option.bind_some, w64 (by omega)]
  show (if charS b g x = true then _ else _) = _
  cases charS b g x with
  | true => rw [if_pos rfl, if_pos rfl, if_pos (by simp only [List.length_cons, List.length_nil]; omega)]; rfl
  | false => rw [if_neg (by simp), if_neg (by simp)]; rfl) (fun kept => by
  unfold keepChar_b1
  dsimp only
  rw [if_neg (by simp)])]
 rfl
theorem residual_eq {par : Str} {l : List Ent} (hl : LV l) : residual ⟨b, g, par, l⟩ = some (l.filter fun e => !decide (par = []) && e.Other) := by
 have h1 := hl.1
 unfold residual
 dsimp only
 by_cases hp : par = []
 ·rw [if_pos (by rw [hp]; rfl), decide_eq_true hp]; simp
 ·rw [if_neg (by rw [beq_iff_eq]; exact hp), decide_eq_false hp]
  simp only [Bool.not_false, Bool.true_and]
  unfold keepResidual
  rw [keep_loop (l := l) (keepResidual_b1 l) (fun e => e.Other) (fun i x kept hx hk => by
   have hlt := lt_of_get hx
   unfold keepResidual_b1 keepResidual_j2 residualIn
   dsimp only
   rw [if_pos (decide_eq_true (by omega)), if_pos (by omega), Int.toNat_natCast, hx, Option.bind_some, Option.bind_some, w64 (by omega)]
   cases x.Other with
   | true => rw [if_pos rfl, if_pos rfl, if_pos (by simp only [List.length_cons, List.length_nil]; omega)]; rfl
   | false => rw [if_neg (by simp), if_neg (by simp)]; rfl) (fun kept => by
   unfold keepResidual_b1
   dsimp only
   rw [if_neg (by simp)])]
  rfl
theorem akin_eq (hb : BB b) (hg : GB g) {par : Str} {l : List Ent} (hl : LV l) : akin ⟨b, g, par, l⟩ = some (l.filter fun e => decide (0 < bestS b g l) && (likS b e g == bestS b g l)) := by
 have h1 := hl.1
 unfold akin
 rw [max_loop (l := l) (akin_b1 ⟨b, g, par, l⟩) (fun e => likS b e g) (fun i x m hx => by
  have hlt := lt_of_get hx
  unfold akin_b1
  dsimp only
  rw [if_pos (decide_eq_true (by omega)), if_pos (by omega), Int.toNat_natCast, hx, Option.bind_some, likeness_eq hb (hl.2 x (List.mem_of_getElem? hx)).1 hg, Option.bind_some, w64 (by omega)]; rfl) (fun m => by
  unfold akin_b1
  dsimp only
  rw [if_neg (by simp)]), Option.bind_some]
 show akin_j1 ⟨b, g, par, l⟩ (bestS b g l) = _
 have hn : 0 ≤ bestS b g l := mxL_nonneg _ _
 unfold akin_j1
 dsimp only
 by_cases h0 : bestS b g l = 0
 ·rw [if_pos (beq_iff_eq.2 h0), decide_eq_false (by omega)]; simp
 ·rw [if_neg (fun h => h0 (beq_iff_eq.1 h)), decide_eq_true (by omega)]
  simp only [Bool.true_and]
  unfold keepAkin
  rw [keep_loop (l := l) (keepAkin_b1 l ⟨b, g, par, l⟩ (bestS b g l)) (fun e => likS b e g == bestS b g l) (fun i x kept hx hk => by
   have hlt := lt_of_get hx
   unfold keepAkin_b1 keepAkin_j2 akinIn
   dsimp only
   rw [if_pos (decide_eq_true (by omega)), if_pos (by omega), Int.toNat_natCast, hx, Option.bind_some, likeness_eq hb (hl.2 x (List.mem_of_getElem? hx)).1 hg, Option.bind_some, Option.bind_some, w64 (by omega)]
   cases (likS b x g == bestS b g l) with
   | true => rw [if_pos rfl, if_pos rfl, if_pos (by simp only [List.length_cons, List.length_nil]; omega)]; rfl
   | false => rw [if_neg (by simp), if_neg (by simp)]; rfl) (fun kept => by
   unfold keepAkin_b1
   dsimp only
   rw [if_neg (by simp)])]
  rfl
theorem allBelow_eq {par : Str} {l : List Ent} : allBelow ⟨b, g, par, l⟩ = some (l.filter fun _ => !decide (par = [])) := by
 unfold allBelow
 dsimp only
 by_cases hp : par = []
 ·rw [if_pos (by rw [hp]; rfl), decide_eq_true hp]; simp
 ·rw [if_neg (by rw [beq_iff_eq]; exact hp), decide_eq_false hp]
  show some l = some (l.filter fun _ => true)
  rw [List.filter_eq_self.2 (fun _ _ => rfl)]
theorem belS_LV (hb : VB b) (day : Int) (c : Str) : LV (belS b day c) := by
 have h1 := atS_len hb.bb day
 have hm : ∀ e, e ∈ belS b day c → e ∈ b.Entries := fun e he => (List.mem_filter.1 (List.mem_filter.1 he).1).1
 exact ⟨Nat.le_trans (List.length_filter_le _ _) h1, fun e he => ⟨hb.bb.ents.2 e (hm e he), (hb.code e (hm e he)).2⟩⟩
theorem pos_iff {α : Type} (l : List α) : decide ((0 : Int) < (l.length : Int)) = decide (l ≠ []) := pos_ne l
theorem basis_eq (hb : VB b) (hg : GB g) (day : Int) (par : Str) : basis b day g par = some (basisS b day g par) := by
 have hl := belS_LV hb day par
 unfold basis basisS basisL
 rw [nomBelow_eq hb.bb (fun e he => by have := hb.code e he; omega) day par, Option.bind_some]
 generalize belS b day par = l at hl
 have c1 : candS b g (decide (par = [])) l 1 = l.filter (termsS b g) := rfl
 have c2 : candS b g (decide (par = [])) l 2 = l.filter fun e => g.Incomplete && scored1 b g.Words e := rfl
 have c3 : candS b g (decide (par = [])) l 3 = l.filter (charS b g) := rfl
 have c4 : candS b g (decide (par = [])) l 4 = l.filter fun e => !decide (par = []) && e.Other := rfl
 have c5 : candS b g (decide (par = [])) l 5 = l.filter fun e => decide (0 < bestS b g l) && (likS b e g == bestS b g l) := rfl
 have c6 : candS b g (decide (par = [])) l 6 = l.filter fun _ => !decide (par = []) := rfl
 rw [byTerms_eq hb.bb hg hl, ← c1, Option.bind_some]
 simp only [pos_iff, decide_eq_true_eq]
 by_cases h1 : candS b g (decide (par = [])) l 1 ≠ []
 ·rw [if_pos h1, if_pos h1]
 rw [if_neg h1, if_neg h1, asComplete_eq hb.bb hg hl, ← c2, Option.bind_some]
 by_cases h2 : candS b g (decide (par = [])) l 2 ≠ []
 ·rw [if_pos h2, if_pos h2]
 rw [if_neg h2, if_neg h2, byCharacter_eq hb.bb hg hl, ← c3, Option.bind_some]
 by_cases h3 : candS b g (decide (par = [])) l 3 ≠ []
 ·rw [if_pos h3, if_pos h3]
 rw [if_neg h3, if_neg h3, residual_eq hl, ← c4, Option.bind_some]
 by_cases h4 : candS b g (decide (par = [])) l 4 ≠ []
 ·rw [if_pos h4, if_pos h4]
 rw [if_neg h4, if_neg h4, akin_eq hb.bb hg hl, ← c5, Option.bind_some]
 by_cases h5 : candS b g (decide (par = [])) l 5 ≠ []
 ·rw [if_pos h5, if_pos h5]
 rw [if_neg h5, if_neg h5, allBelow_eq, ← c6, Option.bind_some]
 by_cases h6 : candS b g (decide (par = [])) l 6 ≠ []
 ·rw [if_pos h6, if_pos h6]
 rw [if_neg h6, if_neg h6]; rfl
end Go.C
end

section
set_option linter.unusedVariables false
set_option linter.unusedSimpArgs false
namespace Go.C
open Go.V
variable {b : ApiNomenclature} {g : ApiGood}
theorem rAsParts_eq (hb : BB b) (hg : GB g) (hi : g.Incomplete = true) {e : Ent} (he : LB e.Terms) (hc : e.Code.length ≤ 8) : rAsParts b e g = some (termsS b g e) := by
 have hal := altS_LB hb he
 obtain ⟨w, ew, hm, hwl⟩ := rIncomplete_ok hg
 unfold rAsParts
 rw [ew, Option.bind_some, refAlts_eq hb he, Option.bind_some]
 have step : ∀ (i : Nat) (x : List Str), (altS b e)[i]? = some x → rAsParts_b1 b e w (altS b e) (i : Int) = if (x.contains partsW && subS x w) = true then some (.inr (.inl (!exS b e.Code w))) else some (.inl ((i + 1 : Nat) : Int)) := fun i x hx => by
  have hlt := lt_of_get hx
  have hxl := hal.2 x (List.mem_of_getElem? hx)
  unfold rAsParts_b1
  rw [if_pos (decide_eq_true (by omega)), if_pos (by omega), Int.toNat_natCast, hx, Option.bind_some, refHas_eq partsW hxl, Option.bind_some, if_pos (fun _ => by omega), getD_of hx, w64 (by omega)]
  cases x.contains partsW with
  | true => rw [if_pos rfl, refSubset_eq hxl (by omega), Option.bind_some, refExcluded_eq hb (by omega) (by omega)]; simp only [cond_true, Bool.true_and]; rfl
  | false => rw [if_neg (by simp), Option.bind_some]; simp only [cond_false, Bool.false_and]; rfl
 have l1 := loop_list (β := Unit) (altS b e) (rAsParts_b1 b e w (altS b e)) (fun i _ => (i : Int)) (fun _ _ => ()) (fun i => !(((altS b e).getD i default).contains partsW && subS ((altS b e).getD i default) w)) (.inl (!exS b e.Code w)) (fun _ => .inr ()) (fun _ _ => True) (fun _ _ _ _ _ => trivial)
  (fun i x _ _ hx hp => by rw [getD_of hx] at hp; rw [step i x hx, if_neg (by intro hh; rw [hh] at hp; cases hp)]) (fun i x _ _ hx hp => by rw [getD_of hx] at hp; rw [step i x hx, if_pos (by simpa using hp)]) (fun _ _ => by unfold rAsParts_b1; rw [if_neg (by simp)]) () trivial
 rw [show ((0 : Int)) = ((0 : Nat) : Int) from rfl, l1, range_all (fun x : List Str => !(x.contains partsW && subS x w))]
 have e2 : ((altS b e).all fun x => !(x.contains partsW && subS x w)) = !((altS b e).any fun x => x.contains partsW && subS x w) := by rw [← List.not_any_eq_all_not]
 have e3 : ((altS b e).any fun x => x.contains partsW && subS x w) = (altS b e).any fun a => a.contains partsW && subS a (incW g) := by
  congr 1; funext a; rw [subS_congr hm]
 rw [e2, e3]
 unfold termsS
 rw [if_pos hi, exS_congr b _ hm]
 cases ((altS b e).any fun a => a.contains partsW && subS a (incW g)) with
 | true => simp
 | false => simp [rAsParts_j1]
theorem rByCharacter_eq (hb : BB b) (hg : GB g) {e : Ent} (he : LB e.Terms) (hc : e.Code.length ≤ 8) : rByCharacter b e g = some (charS b g e) := by
 have hcw := char_words hg
 unfold rByCharacter
 rw [refCharacters_eq hg, Option.bind_some]
 have step : ∀ (i : Nat) (x : Cp), (isort (chars g))[i]? = some x → rByCharacter_b1 b e (isort (chars g)) (i : Int) = if scored1 b x.Words e = true then some (.inr (.inl true)) else some (.inl ((i + 1 : Nat) : Int)) := fun i x hx => by
  have hlt := lt_of_get hx
  have hw := hcw.2 x (List.mem_of_getElem? hx)
  unfold rByCharacter_b1
  rw [if_pos (decide_eq_true (by omega)), if_pos (by omega), Int.toNat_natCast, hx, Option.bind_some, refScore_eq hb he (by omega) (by omega), Option.bind_some, w64 (by omega)]; rfl
 have l1 := loop_list (β := Unit) (isort (chars g)) (rByCharacter_b1 b e (isort (chars g))) (fun i _ => (i : Int)) (fun _ _ => ()) (fun i => !(scored1 b ((isort (chars g)).getD i default).Words e)) (.inl true) (fun _ => .inr ()) (fun _ _ => True) (fun _ _ _ _ _ => trivial)
  (fun i x _ _ hx hp => by rw [getD_of hx] at hp; rw [step i x hx, if_neg (by intro hh; rw [hh] at hp; cases hp)]) (fun i x _ _ hx hp => by rw [getD_of hx] at hp; rw [step i x hx, if_pos (by simpa using hp)]) (fun _ _ => by unfold rByCharacter_b1; rw [if_neg (by simp)]) () trivial
 rw [show ((0 : Int)) = ((0 : Nat) : Int) from rfl, l1, range_all (fun x : Cp => !(scored1 b x.Words e))]
 have e2 : ((isort (chars g)).all fun x => !(scored1 b x.Words e)) = !charS b g e := by rw [← List.not_any_eq_all_not]; rfl
 rw [e2]
 cases charS b g e <;> rfl
theorem rFits_eq (hb : BB b) (hg : GB g) {e : Ent} (he : LB e.Terms) (hc : e.Code.length ≤ 8) (top : Bool) (best : Int) {way : Nat} (h1 : 1 ≤ way) (h6 : way ≤ 6) : rFits b e g (way : Int) top best = some (fitS b g top best way e) := by
 have g1 := hg.words
 have hs : refScore b e g.Words = some (scS b e g.Words) := refScore_eq hb he (by omega) (by omega)
 unfold rFits
 match way, h1, h6 with
 | 1, _, _ =>
  rw [if_pos (by rfl)]
  show _ = some (termsS b g e)
  cases hi : g.Incomplete with
  | true => rw [if_pos rfl, rAsParts_eq hb hg hi he hc]; rfl
  | false => rw [if_neg (by simp), hs, Option.bind_some]; unfold termsS; rw [hi, if_neg (by simp)]; rfl
 | 2, _, _ =>
  rw [if_neg (by decide), if_pos (by rfl)]
  show _ = some (g.Incomplete && scored1 b g.Words e)
  cases hi : g.Incomplete with
  | true => rw [if_pos rfl, hs]; rfl
  | false => rw [if_neg (by simp)]; rfl
 | 3, _, _ =>
  rw [if_neg (by decide), if_neg (by decide), if_pos (by rfl), rByCharacter_eq hb hg he hc]; rfl
 | 4, _, _ =>
  rw [if_neg (by decide), if_neg (by decide), if_neg (by decide), if_pos (by rfl)]
  show _ = some (!top && e.Other)
  cases top <;> rfl
 | 5, _, _ =>
  rw [if_neg (by decide), if_neg (by decide), if_neg (by decide), if_neg (by decide), if_pos (by rfl)]
  show _ = some (decide (0 < best) && (likS b e g == best))
  cases decide ((0 : Int) < best) with
  | true => rw [if_pos rfl, rLikeness_eq hb he (by omega) hg]; rfl
  | false => rw [if_neg (by simp)]; rfl
 | 6, _, _ =>
  rw [if_neg (by decide), if_neg (by decide), if_neg (by decide), if_neg (by decide), if_neg (by decide)]; rfl
def wayB (way : Nat) : Int := match way with | 1 => 1 | 2 => 2 | 3 => 3 | 4 => 8 | _ => 7
theorem rBasis_way (hb : BB b) (hg : GB g) {l : List Ent} (hl : LV l) (par : Str) {way : Nat} (h1 : 1 ≤ way) (h6 : way ≤ 6) :
  rBasis_b1 b g par l (bestS b g l) (way : Int) = some (if candS b g (decide (par = [])) l way ≠ [] then .inr (.inl (wayB way, candS b g (decide (par = [])) l way)) else .inl ((way + 1 : Nat) : Int)) := by
 have hll := hl.1
 have htop : (par == ([] : Str)) = decide (par = []) := by rw [Bool.eq_iff_iff]; simp
 unfold rBasis_b1
 rw [if_pos (decide_eq_true (by omega)), keep_loop (l := l) (rBasis_b2 b g par l (bestS b g l) (way : Int)) (fitS b g (decide (par = [])) (bestS b g l) way) (fun i x kept hx hk => by
  have hlt := lt_of_get hx
  have hxl := hl.2 x (List.mem_of_getElem? hx)
  unfold rBasis_b2 rBasis_j5
  dsimp only
  rw [if_pos (decide_eq_true (by omega)), if_pos (by omega), Int.toNat_natCast, hx, Option.bind_some, htop, rFits_eq hb hg hxl.1 hxl.2 _ _ h1 h6, Option.bind_some, w64 (by omega)]
  cases fitS b g (decide (par = [])) (bestS b g l) way x with
  | true => rw [if_pos rfl, if_pos rfl, if_pos (by omega), Option.bind_some, if_pos (by simp only [List.length_cons, List.length_nil]; omega)]; rfl
  | false => rw [if_neg (by simp), if_neg (by simp)]; rfl) (fun kept => by
  unfold rBasis_b2
  dsimp only
  rw [if_neg (by simp)]), Option.bind_some]
 show rBasis_j4 b g par l (bestS b g l) (way : Int) (candS b g (decide (par = [])) l way) = _
 unfold rBasis_j4 rBasis_j3
 rw [pos_iff]
 by_cases hc : candS b g (decide (par = [])) l way ≠ []
 ·rw [if_pos (decide_eq_true hc), if_pos hc, if_pos (by omega)]
  match way, h1, h6 with
  | 1, _, _ => rfl
  | 2, _, _ => rfl
  | 3, _, _ => rfl
  | 4, _, _ => rfl
  | 5, _, _ => rfl
  | 6, _, _ => rfl
 ·rw [if_neg (fun h => hc (of_decide_eq_true h)), if_neg hc, w64 (by omega)]; rfl
theorem rBasis_eq (hb : VB b) (hg : GB g) (day : Int) {par : Str} (hp : par.length ≤ 9223372036854775807) : rBasis b day g par = some (basisS b day g par) := by
 have hl := belS_LV hb day par
 unfold rBasis basisS basisL
 rw [refBelow_eq hb.bb (fun e he => by have := hb.code e he; omega) day hp, Option.bind_some]
 generalize belS b day par = l at hl
 have hll := hl.1
 rw [max_loop (l := l) (rBasis_b3 b g par l) (fun e => likS b e g) (fun i x m hx => by
  have hlt := lt_of_get hx
  have hxl := hl.2 x (List.mem_of_getElem? hx)
  unfold rBasis_b3
  dsimp only
  rw [if_pos (decide_eq_true (by omega)), if_pos (by omega), Int.toNat_natCast, hx, Option.bind_some, rLikeness_eq hb.bb hxl.1 (by omega) hg, Option.bind_some, w64 (by omega)]; rfl) (fun m => by
  unfold rBasis_b3
  dsimp only
  rw [if_neg (by simp)]), Option.bind_some]
 show rBasis_j1 b g par l (bestS b g l) = _
 unfold rBasis_j1
 have w := fun (k : Nat) (h1 : 1 ≤ k) (h6 : k ≤ 6) => rBasis_way hb.bb hg hl par h1 h6
 have yes : ∀ k : Nat, 1 ≤ k → k ≤ 6 → candS b g (decide (par = [])) l k ≠ [] → loopO (rBasis_b1 b g par l (bestS b g l)) (k : Int) = some (.inl (wayB k, candS b g (decide (par = [])) l k)) := fun k h1 h6 hc => loop_stop (by rw [w k h1 h6, if_pos hc])
 have no : ∀ k : Nat, 1 ≤ k → k ≤ 6 → ¬ candS b g (decide (par = [])) l k ≠ [] → loopO (rBasis_b1 b g par l (bestS b g l)) (k : Int) = loopO (rBasis_b1 b g par l (bestS b g l)) ((k + 1 : Nat) : Int) := fun k h1 h6 hc => loop_step (by rw [w k h1 h6, if_neg hc])
 have e1 : ((1 : Int)) = ((1 : Nat) : Int) := rfl
 rw [e1]
 by_cases h1 : candS b g (decide (par = [])) l 1 ≠ []
 ·rw [if_pos h1, yes 1 (by omega) (by omega) h1]; rfl
 rw [if_neg h1, no 1 (by omega) (by omega) h1]
 by_cases h2 : candS b g (decide (par = [])) l 2 ≠ []
 ·rw [if_pos h2, yes 2 (by omega) (by omega) h2]; rfl
 rw [if_neg h2, no 2 (by omega) (by omega) h2]
 by_cases h3 : candS b g (decide (par = [])) l 3 ≠ []
 ·rw [if_pos h3, yes 3 (by omega) (by omega) h3]; rfl
 rw [if_neg h3, no 3 (by omega) (by omega) h3]
 by_cases h4 : candS b g (decide (par = [])) l 4 ≠ []
 ·rw [if_pos h4, yes 4 (by omega) (by omega) h4]; rfl
 rw [if_neg h4, no 4 (by omega) (by omega) h4]
 by_cases h5 : candS b g (decide (par = [])) l 5 ≠ []
 ·rw [if_pos h5, yes 5 (by omega) (by omega) h5]; rfl
 rw [if_neg h5, no 5 (by omega) (by omega) h5]
 by_cases h6 : candS b g (decide (par = [])) l 6 ≠ []
 ·rw [if_pos h6, yes 6 (by omega) (by omega) h6]; rfl
 rw [if_neg h6, no 6 (by omega) (by omega) h6, loop_stop (r := .inr ()) (by unfold rBasis_b1; rw [if_neg (by decide)])]
 rfl
def lastD (c : List Ent) : Ent := c.getD (c.length - 1) default
def specS (b : ApiNomenclature) (w : List Str) (c : List Ent) : List Ent := c.filter fun e => scS b e w == mxL (fun e => scS b e w) c
def essS (b : ApiNomenclature) : List Cp → List Ent → List Ent × Bool
 | [], c => (c, false)
 | x :: r, c => if c.filter (scored1 b x.Words) ≠ [] then (c.filter (scored1 b x.Words), true) else essS b r c
def tailS (b : ApiNomenclature) (g : ApiGood) (c : List Ent) : Int × Ent :=
 if (essS b (isort (chars g)) c).2 = true ∧ (essS b (isort (chars g)) c).1.length = 1 then (5, (essS b (isort (chars g)) c).1.getD 0 default) else (6, lastD (essS b (isort (chars g)) c).1)
def specW (g : ApiGood) (basis : Int) : List Str := if g.Incomplete = true ∧ basis = 1 then incW g else g.Words
def reduceS (b : ApiNomenclature) (g : ApiGood) (basis : Int) (c : List Ent) : Int × Ent :=
 if c.length = 1 ∨ basis = 7 ∨ basis = 8 then (basis, lastD c)
 else if basis = 1 ∨ basis = 2 then (if (specS b (specW g basis) c).length = 1 then (4, (specS b (specW g basis) c).getD 0 default) else tailS b g (specS b (specW g basis) c))
 else tailS b g c
theorem cloneEntry_eq {e : Ent} (he : LB e.Terms) : cloneEntry e = some e := by
 have h1 := he.1
 unfold cloneEntry
 have hl := loop_seq (f := cloneEntry_b1 e) e.Terms.length (fun i => ((i : Int), e.Terms.take i)) e.Terms (fun i hi => by
  have hx := he.2 _ (List.getElem_mem hi)
  unfold cloneEntry_b1 cloneS
  dsimp only
  rw [if_pos (decide_eq_true (by omega)), if_pos (by omega), Int.toNat_natCast, List.getElem?_eq_getElem hi, Option.bind_some, if_pos (by omega), Option.bind_some, if_pos (by simp only [List.length_take, List.length_cons, List.length_nil]; omega), w64 (by omega), take_snoc hi]; rfl) (by
  unfold cloneEntry_b1
  dsimp only
  rw [if_neg (by simp), List.take_length])
 have hl' : loopO (cloneEntry_b1 e) ((0 : Int), ([] : List (List Str))) = some e.Terms := hl
 rw [hl']; rfl
theorem lastD_get {c : List Ent} (hne : c ≠ []) (hl : c.length ≤ 1000) : c[(IntKind.i64.wrap ((c.length : Int) - 1)).toNat]? = some (lastD c) ∧ 0 ≤ IntKind.i64.wrap ((c.length : Int) - 1) ∧ lastD c ∈ c := by
 have hp := List.length_pos_iff.2 hne
 rw [w64 (by omega)]
 have e : ((c.length : Int) - 1).toNat = c.length - 1 := by omega
 rw [e, List.getElem?_eq_getElem (by omega)]
 unfold lastD
 rw [getD_of (List.getElem?_eq_getElem (by omega : c.length - 1 < c.length))]
 exact ⟨rfl, by omega, List.getElem_mem _⟩
theorem first_get {c : List Ent} (h : c.length = 1) : c[0]? = some (c.getD 0 default) ∧ c.getD 0 default ∈ c := by
 have h0 : 0 < c.length := by omega
 rw [getD_of (List.getElem?_eq_getElem h0), List.getElem?_eq_getElem h0]
 exact ⟨rfl, List.getElem_mem _⟩
theorem mostSpecific_eq (hb : BB b) {c : List Ent} (hc : LV c) {w u : List Str} (hw : w.length ≤ 50) (hm : ∀ x, x ∈ w ↔ x ∈ u) : mostSpecific b c w = some (specS b u c) := by
 have hcl := hc.1
 have hsc : ∀ e, scS b e w = scS b e u := fun e => scS_congr b e hm
 unfold mostSpecific
 rw [max_loop (l := c) (mostSpecific_b1 b c w) (fun e => scS b e u) (fun i x m hx => by
  have hlt := lt_of_get hx
  unfold mostSpecific_b1
  dsimp only
  rw [if_pos (decide_eq_true (by omega)), if_pos (by omega), Int.toNat_natCast, hx, Option.bind_some, nomScore_eq hb (hc.2 x (List.mem_of_getElem? hx)).1 hw, Option.bind_some, w64 (by omega), hsc]; rfl) (fun m => by
  unfold mostSpecific_b1
  dsimp only
  rw [if_neg (by simp)]), Option.bind_some]
 show mostSpecific_j1 b c w (mxL (fun e => scS b e u) c) = _
 unfold mostSpecific_j1 keepSpecific
 rw [keep_loop (l := c) (keepSpecific_b1 c b w (mxL (fun e => scS b e u) c)) (fun e => scS b e u == mxL (fun e => scS b e u) c) (fun i x kept hx hk => by
  have hlt := lt_of_get hx
  unfold keepSpecific_b1 keepSpecific_j2 specificIn
  dsimp only
  rw [if_pos (decide_eq_true (by omega)), if_pos (by omega), Int.toNat_natCast, hx, Option.bind_some, nomScore_eq hb (hc.2 x (List.mem_of_getElem? hx)).1 hw, Option.bind_some, Option.bind_some, w64 (by omega), hsc]
  cases (scS b x u == mxL (fun e => scS b e u) c) with
  | true => rw [if_pos rfl, if_pos rfl, if_pos (by simp only [List.length_cons, List.length_nil]; omega)]; rfl
  | false => rw [if_neg (by simp), if_neg (by simp)]; rfl) (fun kept => by
  unfold keepSpecific_b1
  dsimp only
  rw [if_neg (by simp)])]
 rfl
theorem scS_nonneg (b : ApiNomenclature) (e : Ent) (w : List Str) : 0 ≤ scS b e w := by
 unfold scS
 split
 ·omega
 ·have : ∀ (l : List (List Str)) (n : Int), 0 ≤ n → 0 ≤ l.foldl (scF w) n := by
   intro l
   induction l with
   | nil => intro n h; exact h
   | cons a l ih =>
    intro n h
    refine ih _ ?_
    unfold scF
    split <;> omega
  exact this _ 0 (by omega)
theorem specS_ne {c : List Ent} (hne : c ≠ []) (w : List Str) : specS b w c ≠ [] := filter_max_ne hne (fun e _ => scS_nonneg b e w)
theorem specS_LV {c : List Ent} (hc : LV c) (w : List Str) : LV (specS b w c) := hc.filter _
theorem essS_ok : ∀ (cs : List Cp) {c : List Ent}, c ≠ [] → (essS b cs c).1 ≠ [] ∧ (∀ e, e ∈ (essS b cs c).1 → e ∈ c) ∧ (essS b cs c).1.length ≤ c.length
 | [], c, h => ⟨h, fun e he => he, Nat.le_refl _⟩
 | x :: r, c, h => by
  unfold essS
  split
  ·rename_i h1
   exact ⟨h1, fun e he => (List.mem_filter.1 he).1, List.length_filter_le _ _⟩
  ·exact essS_ok r h
theorem essS_LV {cs : List Cp} {c : List Ent} (hc : LV c) (hne : c ≠ []) : LV (essS b cs c).1 := by
 have h := essS_ok (b := b) cs hne
 exact ⟨Nat.le_trans h.2.2 hc.1, fun e he => hc.2 e (h.2.1 e he)⟩
theorem red_loop (hb : BB b) {c : List Ent} (hc : LV c) {cs : List Cp} (hl : cs.length ≤ 1000) (hw : ∀ x, x ∈ cs → x.Words.length ≤ 50) : ∀ (m k : Nat), k + m = cs.length →
    loopO (reduce_b1 b cs) ((k : Int), c) = some (if (essS b (cs.drop k) c).2 = true ∧ (essS b (cs.drop k) c).1.length = 1 then .inl (5, (essS b (cs.drop k) c).1.getD 0 default) else .inr (essS b (cs.drop k) c).1) := by
  intro m
  induction m with
  | zero =>
    intro k hk
    have : k = cs.length := by omega
    subst this
    rw [List.drop_length]
    refine loop_stop ?_
    unfold reduce_b1
    dsimp only
    rw [if_neg (by simp), if_neg (by simp [essS])]; rfl
  | succ m ih =>
    intro k hk
    have hlt : k < cs.length := by omega
    have hsc := scored_eq hb hc (hw _ (List.getElem_mem hlt))
    rw [List.drop_eq_getElem_cons hlt]
    have hfl := hc.filter (scored1 b cs[k].Words)
    have hbody : reduce_b1 b cs ((k : Int), c) = (if (((c.filter (scored1 b cs[k].Words)).length : Int) == (1 : Int)) = true then
              ((c.filter (scored1 b cs[k].Words))[0]?).bind fun x6 =>
                (cloneEntry x6).bind fun v7 =>
                  some (.inr (.inl ((5 : Int), v7)))
            else
              if (decide ((1 : Int) < ((c.filter (scored1 b cs[k].Words)).length : Int))) = true then
                some (.inr (.inr (c.filter (scored1 b cs[k].Words))))
              else
                some (.inl (((k + 1 : Nat) : Int), c))) := by
      unfold reduce_b1
      dsimp only
      rw [if_pos (decide_eq_true (by omega)), if_pos (by omega), Int.toNat_natCast, List.getElem?_eq_getElem hlt, Option.bind_some, hsc, Option.bind_some, w64 (by omega)]; rfl
    unfold essS
    generalize hf : c.filter (scored1 b cs[k].Words) = f at hbody hfl
    by_cases h1 : f.length = 1
    · have hne : f ≠ [] := fun e => by rw [e] at h1; simp at h1
      obtain ⟨q1, q2⟩ := first_get h1
      rw [if_pos hne]
      rw [if_pos (by rw [beq_iff_eq]; omega), q1, Option.bind_some, cloneEntry_eq (hfl.2 _ q2).1, Option.bind_some] at hbody
      rw [loop_stop hbody, if_pos ⟨rfl, h1⟩]
    · rw [if_neg (by rw [beq_iff_eq]; omega)] at hbody
      by_cases h2 : 1 < f.length
      · have hne : f ≠ [] := fun e => by rw [e] at h2; simp at h2
        rw [if_pos hne]
        rw [if_pos (decide_eq_true (by omega))] at hbody
        rw [loop_stop hbody, if_neg (fun h => h1 h.2)]
      · have he : f = [] := List.eq_nil_of_length_eq_zero (by omega)
        rw [if_neg (show ¬ f ≠ [] from fun h => h he)]
        rw [if_neg (fun h => h2 (by have := of_decide_eq_true h; omega))] at hbody
        rw [loop_step hbody]
        exact ih (k + 1) (by omega)
theorem reduce_tail (hb : BB b) (hg : GB g) {c : List Ent} (hc : LV c) (hne : c ≠ []) : reduce_j1 b g c = some (tailS b g c) := by
 have hcw := char_words hg
 have ho := essS_ok (b := b) (isort (chars g)) hne
 have hlv := essS_LV (b := b) (cs := isort (chars g)) hc hne
 unfold reduce_j1 tailS
 rw [goodsCharacters_eq hg, Option.bind_some]
 have h1 := red_loop hb hc (cs := isort (chars g)) (by omega) (fun x hx => by have := hcw.2 x hx; omega) (isort (chars g)).length 0 (by omega)
 rw [List.drop_zero, show (((0 : Nat)) : Int) = (0 : Int) from rfl] at h1
 rw [h1, Option.bind_some]
 by_cases hcond : (essS b (isort (chars g)) c).2 = true ∧ (essS b (isort (chars g)) c).1.length = 1
 ·rw [if_pos hcond, if_pos hcond]
 ·rw [if_neg hcond, if_neg hcond]
  show reduce_j2 (essS b (isort (chars g)) c).1 = _
  obtain ⟨q1, q2, q3⟩ := lastD_get ho.1 hlv.1
  unfold reduce_j2
  rw [if_pos q2, q1, Option.bind_some, cloneEntry_eq (hlv.2 _ q3).1]; rfl
theorem b1eq {basis : Int} : (bif (basis == (1 : Int)) then true else (basis == (2 : Int))) = decide (basis = 1 ∨ basis = 2) := by
 by_cases h1 : basis = 1
 ·rw [beq_iff_eq.2 h1, decide_eq_true (.inl h1)]; rfl
 ·rw [beq_eq_false_iff_ne.2 h1, cond_false]
  by_cases h2 : basis = 2
  ·rw [beq_iff_eq.2 h2, decide_eq_true (.inr h2)]
  ·rw [beq_eq_false_iff_ne.2 h2, decide_eq_false (by omega)]
theorem b78eq {n : Nat} {basis : Int} : (bif (bif ((n : Int) == (1 : Int)) then true else (basis == (7 : Int))) then true else (basis == (8 : Int))) = decide (n = 1 ∨ basis = 7 ∨ basis = 8) := by
 by_cases h1 : n = 1
 ·rw [beq_iff_eq.2 (by omega : (n : Int) = 1), decide_eq_true (.inl h1)]; rfl
 ·rw [beq_eq_false_iff_ne.2 (by omega : (n : Int) ≠ 1), cond_false]
  by_cases h2 : basis = 7
  ·rw [beq_iff_eq.2 h2, decide_eq_true (.inr (.inl h2))]; rfl
  ·rw [beq_eq_false_iff_ne.2 h2, cond_false]
   by_cases h3 : basis = 8
   ·rw [beq_iff_eq.2 h3, decide_eq_true (.inr (.inr h3))]
   ·rw [beq_eq_false_iff_ne.2 h3, decide_eq_false (by omega)]
theorem inceq {i : Bool} {basis : Int} : (bif i then (basis == (1 : Int)) else false) = decide (i = true ∧ basis = 1) := by
 cases i with
 | false => simp
 | true =>
  by_cases h1 : basis = 1
  ·rw [beq_iff_eq.2 h1, decide_eq_true ⟨rfl, h1⟩]; rfl
  ·rw [beq_eq_false_iff_ne.2 h1, decide_eq_false (fun h => h1 h.2)]; rfl
theorem reduce_eq (hb : BB b) (hg : GB g) (basis : Int) {c : List Ent} (hc : LV c) (hne : c ≠ []) : reduce b g basis c = some (reduceS b g basis c) := by
 have hp := List.length_pos_iff.2 hne
 have g1 := hg.words
 unfold reduce reduceS
 rw [if_neg (by rw [beq_iff_eq]; omega), b78eq]
 by_cases h1 : c.length = 1 ∨ basis = 7 ∨ basis = 8
 ·obtain ⟨q1, q2, q3⟩ := lastD_get hne hc.1
  rw [if_pos (decide_eq_true h1), if_pos h1, if_pos q2, q1, Option.bind_some, cloneEntry_eq (hc.2 _ q3).1]; rfl
 ·rw [if_neg (fun h => h1 (of_decide_eq_true h)), if_neg h1, b1eq]
  by_cases h2 : basis = 1 ∨ basis = 2
  ·rw [if_pos (decide_eq_true h2), if_pos h2, inceq]
   have fin : ∀ w, w.length ≤ 50 → (∀ x, x ∈ w ↔ x ∈ specW g basis) → reduce_j3 b g c w = some (if (specS b (specW g basis) c).length = 1 then (4, (specS b (specW g basis) c).getD 0 default) else tailS b g (specS b (specW g basis) c)) := fun w hw hm => by
    have hlv := specS_LV (b := b) hc (specW g basis)
    unfold reduce_j3
    rw [mostSpecific_eq hb hc hw hm, Option.bind_some]
    by_cases h3 : (specS b (specW g basis) c).length = 1
    ·obtain ⟨q1, q2⟩ := first_get h3
     rw [if_pos (by rw [beq_iff_eq]; omega), if_pos h3, q1, Option.bind_some, cloneEntry_eq (hlv.2 _ q2).1]; rfl
    ·rw [if_neg (by rw [beq_iff_eq]; omega), if_neg h3, reduce_tail hb hg hlv (specS_ne hne _)]
   by_cases h3 : g.Incomplete = true ∧ basis = 1
   ·obtain ⟨r, er, hm, hrl⟩ := incompleteWords_ok hg
    rw [if_pos (decide_eq_true h3), er, Option.bind_some]
    exact fin r (by omega) (fun x => by rw [hm]; unfold specW; rw [if_pos h3])
   ·rw [if_neg (fun h => h3 (of_decide_eq_true h))]
    exact fin g.Words (by omega) (fun x => by unfold specW; rw [if_neg h3])
  ·rw [if_neg (fun h => h2 (of_decide_eq_true h)), if_neg h2, reduce_tail hb hg hc hne]
theorem rSpecific_eq (hb : BB b) (hg : GB g) (basis : Int) {c : List Ent} (hc : LV c) : rSpecific b g basis c = some (if basis = 1 ∨ basis = 2 then specS b (specW g basis) c else c) := by
 have hcl := hc.1
 have g1 := hg.words
 have hn : (bif (basis != (1 : Int)) then (basis != (2 : Int)) else false) = !decide (basis = 1 ∨ basis = 2) := by
  rw [← b1eq]
  cases h1 : (basis == (1 : Int)) <;> cases h2 : (basis == (2 : Int)) <;> simp [bne, h1, h2]
 unfold rSpecific
 rw [hn]
 by_cases h2 : basis = 1 ∨ basis = 2
 ·rw [decide_eq_true h2, if_neg (by simp), if_pos h2, inceq]
  have fin : ∀ w, w.length ≤ 50 → (∀ x, x ∈ w ↔ x ∈ specW g basis) → rSpecific_j1 b c w = some (specS b (specW g basis) c) := fun w hw hm => by
   have hsc : ∀ e, scS b e w = scS b e (specW g basis) := fun e => scS_congr b e hm
   unfold rSpecific_j1
   rw [max_loop (l := c) (rSpecific_b2 b c w) (fun e => scS b e (specW g basis)) (fun i x m hx => by
    have hlt := lt_of_get hx
    have hxl := hc.2 x (List.mem_of_getElem? hx)
    unfold rSpecific_b2
    dsimp only
    rw [if_pos (decide_eq_true (by omega)), if_pos (by omega), Int.toNat_natCast, hx, Option.bind_some, refScore_eq hb hxl.1 (by omega) (by omega), Option.bind_some, w64 (by omega), hsc]; rfl) (fun m => by
    unfold rSpecific_b2
    dsimp only
    rw [if_neg (by simp)]), Option.bind_some]
   show rSpecific_j2 b c w (mxL (fun e => scS b e (specW g basis)) c) = _
   unfold rSpecific_j2
   rw [keep_loop (l := c) (rSpecific_b1 b c w (mxL (fun e => scS b e (specW g basis)) c)) (fun e => scS b e (specW g basis) == mxL (fun e => scS b e (specW g basis)) c) (fun i x kept hx hk => by
    have hlt := lt_of_get hx
    have hxl := hc.2 x (List.mem_of_getElem? hx)
    unfold rSpecific_b1 rSpecific_j4
    dsimp only
    rw [if_pos (decide_eq_true (by omega)), if_pos (by omega), Int.toNat_natCast, hx, Option.bind_some, refScore_eq hb hxl.1 (by omega) (by omega), Option.bind_some, w64 (by omega), hsc]
    cases (scS b x (specW g basis) == mxL (fun e => scS b e (specW g basis)) c) with
    | true => rw [if_pos rfl, if_pos rfl, if_pos (by omega), Option.bind_some, if_pos (by simp only [List.length_cons, List.length_nil]; omega)]; rfl
    | false => rw [if_neg (by simp), if_neg (by simp)]; rfl) (fun kept => by
    unfold rSpecific_b1
    dsimp only
    rw [if_neg (by simp)])]
   rfl
  by_cases h3 : g.Incomplete = true ∧ basis = 1
  ·obtain ⟨r, er, hm, hrl⟩ := rIncomplete_ok hg
   rw [if_pos (decide_eq_true h3), er, Option.bind_some]
   exact fin r (by omega) (fun x => by rw [hm]; unfold specW; rw [if_pos h3])
  ·rw [if_neg (fun h => h3 (of_decide_eq_true h))]
   exact fin g.Words (by omega) (fun x => by unfold specW; rw [if_neg h3])
 ·rw [decide_eq_false h2, if_pos (by rfl), if_neg h2]
theorem ess_loop (hb : BB b) {c : List Ent} (hc : LV c) {cs : List Cp} (hl : cs.length ≤ 1000) (hw : ∀ x, x ∈ cs → x.Words.length ≤ 50) : ∀ (m k : Nat), k + m = cs.length →
  loopO (rEssential_b1 b c cs) (k : Int) = some (if (essS b (cs.drop k) c).2 = true then .inl ((essS b (cs.drop k) c).1, true) else .inr ()) := by
 have hcl := hc.1
 intro m
 induction m with
 | zero =>
  intro k hk
  have : k = cs.length := by omega
  subst this
  rw [List.drop_length]
  refine loop_stop ?_
  unfold rEssential_b1
  rw [if_neg (by simp), if_neg (by simp [essS])]
 | succ m ih =>
  intro k hk
  have hlt : k < cs.length := by omega
  have hwk := hw _ (List.getElem_mem hlt)
  rw [List.drop_eq_getElem_cons hlt]
  have hbody : rEssential_b1 b c cs (k : Int) = rEssential_j3 b c cs (k : Int) (c.filter (scored1 b cs[k].Words)) := by
   unfold rEssential_b1
   rw [if_pos (decide_eq_true (by omega)), keep_loop (l := c) (rEssential_b2 b c cs (k : Int)) (scored1 b cs[k].Words) (fun i x kept hx hk2 => by
    have hlt2 := lt_of_get hx
    have hxl := hc.2 x (List.mem_of_getElem? hx)
    unfold rEssential_b2 rEssential_j4
    dsimp only
    rw [if_pos (decide_eq_true (by omega)), if_pos (by omega), Int.toNat_natCast, hx, Option.bind_some, if_pos (by omega), Int.toNat_natCast, List.getElem?_eq_getElem hlt, Option.bind_some, refScore_eq hb hxl.1 (by omega) (by omega), Option.bind_some, w64 (by omega)]
    unfold scored1
    by_cases hs : 0 < scS b x cs[k].Words
    ·rw [decide_eq_true hs, if_pos rfl, if_pos rfl, if_pos (by omega), Option.bind_some, if_pos (by simp only [List.length_cons, List.length_nil]; omega)]; rfl
    ·rw [decide_eq_false hs, if_neg (by simp), if_neg (by simp)]; rfl) (fun kept => by
    unfold rEssential_b2
    dsimp only
    rw [if_neg (by simp)])]
   rfl
  unfold rEssential_j3 rEssential_j2 at hbody
  rw [pos_iff] at hbody
  unfold essS
  by_cases h1 : c.filter (scored1 b cs[k].Words) ≠ []
  ·rw [if_pos (decide_eq_true h1)] at hbody
   rw [if_pos h1, loop_stop hbody, if_pos rfl]
  ·rw [if_neg (fun h => h1 (of_decide_eq_true h)), w64 (by omega)] at hbody
   rw [if_neg h1, loop_step (x := ((k + 1 : Nat) : Int)) hbody]
   exact ih (k + 1) (by omega)
theorem essS_none : ∀ (cs : List Cp) (c : List Ent), (essS b cs c).2 = false → (essS b cs c).1 = c
 | [], c, _ => rfl
 | x :: r, c, h => by
  unfold essS at h ⊢
  split at h
  ·cases h
  ·rename_i h1
   rw [if_neg h1]
   exact essS_none r c h
theorem rEssential_eq (hb : BB b) (hg : GB g) {c : List Ent} (hc : LV c) : rEssential b g c = some (essS b (isort (chars g)) c) := by
 have hcw := char_words hg
 unfold rEssential
 rw [refCharacters_eq hg, Option.bind_some]
 have h1 := ess_loop hb hc (cs := isort (chars g)) (by omega) (fun x hx => by have := hcw.2 x hx; omega) (isort (chars g)).length 0 (by omega)
 rw [List.drop_zero, show (((0 : Nat)) : Int) = (0 : Int) from rfl] at h1
 rw [h1, Option.bind_some]
 cases h2 : (essS b (isort (chars g)) c).2 with
 | true =>
  rw [if_pos rfl]
  show some ((essS b (isort (chars g)) c).1, true) = _
  rw [← h2]
 | false =>
  rw [if_neg (by simp)]
  show some (c, false) = _
  exact congrArg some (Prod.ext (essS_none (b := b) (isort (chars g)) c h2).symm h2.symm)
theorem rReduce_eq (hb : BB b) (hg : GB g) (basis : Int) {c : List Ent} (hc : LV c) (hne : c ≠ []) : rReduce b g basis c = some (reduceS b g basis c) := by
  unfold rReduce reduceS
  rw [b78eq]
  by_cases h1 : c.length = 1 ∨ basis = 7 ∨ basis = 8
  · obtain ⟨q1, q2, q3⟩ := lastD_get hne hc.1
    rw [if_pos (decide_eq_true h1), if_pos h1, if_pos q2, q1]; rfl
  · rw [if_neg (fun h => h1 (of_decide_eq_true h)), if_neg h1, rSpecific_eq hb hg basis hc, Option.bind_some, b1eq]
    have fin : ∀ s : List Ent, LV s → s ≠ [] → ((rEssential b g s).bind fun v2 =>
          if (bif v2.2 then ((v2.1.length : Int) == (1 : Int)) else false) = true then
            (v2.1[0]?).bind fun x3 =>
              some ((5 : Int), x3)
          else
            if (0 ≤ (IntKind.i64.wrap ((v2.1.length : Int) - (1 : Int)))) then
              (v2.1[(IntKind.i64.wrap ((v2.1.length : Int) - (1 : Int))).toNat]?).bind fun x4 =>
                some ((6 : Int), x4)
            else none) = some (tailS b g s) := fun s hs hsne => by
      have ho := essS_ok (b := b) (isort (chars g)) hsne
      have hlv := essS_LV (b := b) (cs := isort (chars g)) hs hsne
      rw [rEssential_eq hb hg hs, Option.bind_some]
      unfold tailS
      have hcnd : (bif (essS b (isort (chars g)) s).2 then (((essS b (isort (chars g)) s).1.length : Int) == (1 : Int)) else false) = decide ((essS b (isort (chars g)) s).2 = true ∧ (essS b (isort (chars g)) s).1.length = 1) := by
        cases (essS b (isort (chars g)) s).2 with
        | false => simp
        | true =>
          by_cases h3 : (essS b (isort (chars g)) s).1.length = 1
          · rw [decide_eq_true ⟨rfl, h3⟩, cond_true, beq_iff_eq]; omega
          · rw [decide_eq_false (fun h => h3 h.2), cond_true, beq_eq_false_iff_ne]; omega
      rw [hcnd]
      by_cases h3 : (essS b (isort (chars g)) s).2 = true ∧ (essS b (isort (chars g)) s).1.length = 1
      · obtain ⟨q1, q2⟩ := first_get h3.2
        rw [if_pos (decide_eq_true h3), if_pos h3, q1]; rfl
      · obtain ⟨q1, q2, q3⟩ := lastD_get ho.1 hlv.1
        rw [if_neg (fun h => h3 (of_decide_eq_true h)), if_neg h3, if_pos q2, q1]; rfl
    by_cases h2 : basis = 1 ∨ basis = 2
    · rw [if_pos h2, if_pos h2, decide_eq_true h2]
      by_cases h3 : (specS b (specW g basis) c).length = 1
      · obtain ⟨q1, q2⟩ := first_get h3
        rw [beq_iff_eq.2 (by omega : ((specS b (specW g basis) c).length : Int) = 1), if_pos (by rfl), if_pos h3, q1]; rfl
      · rw [beq_eq_false_iff_ne.2 (by omega : ((specS b (specW g basis) c).length : Int) ≠ 1), if_neg (by simp), if_neg h3]
        exact fin _ (specS_LV hc _) (specS_ne hne _)
    · rw [if_neg h2, if_neg h2, decide_eq_false h2, if_neg (by cases ((c.length : Int) == (1 : Int)) <;> simp)]
      exact fin c hc hne
theorem reduceS_mem {basis : Int} {c : List Ent} (hl : c.length ≤ 1000) (hne : c ≠ []) : (reduceS b g basis c).2 ∈ c := by
 have tl : ∀ s : List Ent, s.length ≤ 1000 → s ≠ [] → (tailS b g s).2 ∈ s := fun s hs hsne => by
  have ho := essS_ok (b := b) (isort (chars g)) hsne
  unfold tailS
  split
  ·rename_i h; exact ho.2.1 _ (first_get h.2).2
  ·exact ho.2.1 _ (lastD_get ho.1 (Nat.le_trans ho.2.2 hs)).2.2
 unfold reduceS
 split
 ·exact (lastD_get hne hl).2.2
 ·split
  ·have hm : ∀ e, e ∈ specS b (specW g basis) c → e ∈ c := fun e he => (List.mem_filter.1 he).1
   split
   ·rename_i h; exact hm _ (first_get h).2
   ·exact hm _ (tl _ (Nat.le_trans (List.length_filter_le _ _) hl) (specS_ne hne _))
  ·exact tl c hl hne
end Go.C
end

section
set_option linter.unusedVariables false
set_option linter.unusedSimpArgs false
namespace Go.C
open Go.V
variable {b : ApiNomenclature} {g : ApiGood}
abbrev Stp := ApiClassStep
theorem below_len {code : Str} {e : Ent} (h : below code e = true) : code.length + 2 ≤ e.Code.length ∧ 4 ≤ e.Code.length ∨ (code ≠ [] ∧ e.Code.length = code.length + 2) := by
 unfold below at h
 split at h
 ·rename_i hc
  have := of_decide_eq_true h
  subst hc
  left; simp; omega
 ·rename_i hc
  have h2 := of_decide_eq_true h
  right
  refine ⟨hc, ?_⟩
  have := congrArg List.length h2.2
  unfold parent at this
  rw [List.length_take] at this
  omega
theorem basisL_sub (top : Bool) (l : List Ent) : ∀ e, e ∈ (basisL b g top l).2 → e ∈ l := fun e he => by
 unfold basisL at he
 repeat' split at he
 all_goals first | exact (List.mem_filter.1 he).1 | cases he
theorem basisL_len (top : Bool) (l : List Ent) : (basisL b g top l).2.length ≤ l.length := by
 unfold basisL
 repeat' split
 all_goals first | exact List.length_filter_le _ _ | simp
theorem basisS_mem {day : Int} {code : Str} {e : Ent} (he : e ∈ (basisS b day g code).2) : e ∈ b.Entries ∧ onDay day e = true ∧ below code e = true := by
 have h1 := basisL_sub _ _ e he
 have h2 := List.mem_filter.1 h1
 have h3 := List.mem_filter.1 h2.1
 exact ⟨h3.1, h3.2, h2.2⟩
theorem basisS_LV (hb : VB b) (day : Int) (code : Str) : LV (basisS b day g code).2 := by
 have hl := belS_LV hb day code
 exact ⟨Nat.le_trans (basisL_len _ _) hl.1, fun e he => hl.2 e (basisL_sub _ _ e he)⟩
def stepS (b : ApiNomenclature) (day : Int) (g : ApiGood) (code : Str) : Stp :=
 ⟨code, (basisS b day g code).1, (basisS b day g code).2.map (·.Code), (reduceS b g (basisS b day g code).1 (basisS b day g code).2).1, (reduceS b g (basisS b day g code).1 (basisS b day g code).2).2.Code⟩
def clsS (b : ApiNomenclature) (day : Int) (g : ApiGood) : Nat → Str → List Stp → Str × List Stp
 | 0, c, s => (c, s)
 | n + 1, c, s => if (basisS b day g c).2 = [] then (c, s) else clsS b day g n (stepS b day g c).Chosen (s ++ [stepS b day g c])
theorem chosen_len (hb : VB b) {day : Int} {code : Str} (hne : (basisS b day g code).2 ≠ []) : code.length + 2 ≤ (stepS b day g code).Chosen.length ∧ 4 ≤ (stepS b day g code).Chosen.length ∨ (code ≠ [] ∧ (stepS b day g code).Chosen.length = code.length + 2) :=
 below_len (basisS_mem (reduceS_mem (b := b) (g := g) (basis := (basisS b day g code).1) (basisS_LV hb day code).1 hne)).2.2
theorem chosen_two (hb : VB b) {day : Int} {code : Str} (hne : (basisS b day g code).2 ≠ []) : code.length + 2 ≤ (stepS b day g code).Chosen.length := by
 rcases chosen_len (g := g) hb hne with h | h <;> omega
theorem basis_far (hb : VB b) {day : Int} {code : Str} (h : 8 < code.length) : (basisS b day g code).2 = [] := by
 apply List.eq_nil_iff_forall_not_mem.2
 intro e he
 have h1 := basisS_mem he
 have h2 := (hb.code e h1.1).2
 rcases below_len h1.2.2 with h3 | h3 <;> omega
theorem cls_loops (hb : VB b) (hg : GB g) (day : Int) : ∀ (n : Nat) (code : Str) (steps : List Stp), 8 < code.length + 2 * n → code.length ≤ 1000 → steps.length + n ≤ 100 →
  loopO (classify_b1 b day g) (code, steps) = some (clsS b day g n code steps) ∧ loopO (rClassify_b1 b day g) (steps, code) = some ((clsS b day g n code steps).2, (clsS b day g n code steps).1) := by
 intro n
 have stop : ∀ (code : Str) (steps : List Stp), code.length ≤ 1000 → (basisS b day g code).2 = [] → classify_b1 b day g (code, steps) = some (.inr (code, steps)) ∧ rClassify_b1 b day g (steps, code) = some (.inr (steps, code)) := fun code steps hc h0 => by
  unfold classify_b1 rClassify_b1
  dsimp only
  rw [basis_eq hb hg day code, Option.bind_some, rBasis_eq hb hg day (by omega), Option.bind_some, if_pos (by rw [h0]; rfl), if_pos (by rw [h0]; rfl)]
  exact ⟨rfl, rfl⟩
 induction n with
 | zero =>
  intro code steps h8 hc hs
  obtain ⟨h1, h2⟩ := stop code steps hc (basis_far hb (by omega))
  exact ⟨loop_stop h1, loop_stop h2⟩
 | succ n ih =>
  intro code steps h8 hc hs
  unfold clsS
  by_cases h0 : (basisS b day g code).2 = []
  ·obtain ⟨h1, h2⟩ := stop code steps hc h0
   rw [if_pos h0]
   exact ⟨loop_stop h1, loop_stop h2⟩
  ·rw [if_neg h0]
   have hlv := basisS_LV (g := g) hb day code
   have hlen := List.length_pos_iff.2 h0
   have hch := chosen_two (g := g) hb h0
   have hmem := basisS_mem (reduceS_mem (b := b) (g := g) (basis := (basisS b day g code).1) hlv.1 h0)
   have hc8 : (stepS b day g code).Chosen.length ≤ 8 := (hb.code _ hmem.1).2
   obtain ⟨i1, i2⟩ := ih (stepS b day g code).Chosen (steps ++ [stepS b day g code]) (by omega) (by omega) (by simp only [List.length_append, List.length_cons, List.length_nil]; omega)
   have hb1 : classify_b1 b day g (code, steps) = some (.inl ((stepS b day g code).Chosen, steps ++ [stepS b day g code])) := by
    unfold classify_b1
    dsimp only
    rw [basis_eq hb hg day code, Option.bind_some, if_neg (by rw [beq_iff_eq]; omega), reduce_eq hb.bb hg _ hlv h0, Option.bind_some]
    have hl := loop_seq (f := classify_b2 b day g code (basisS b day g code) (reduceS b g (basisS b day g code).1 (basisS b day g code).2)) (basisS b day g code).2.length (fun i => ((i : Int), steps, ((basisS b day g code).2.take i).map (·.Code))) (steps, (basisS b day g code).2.map (·.Code)) (fun i hi => by
     have := hlv.1
     unfold classify_b2
     dsimp only
     rw [if_pos (decide_eq_true (by omega)), if_pos (by omega), Int.toNat_natCast, List.getElem?_eq_getElem hi, Option.bind_some, if_pos (by simp only [List.length_map, List.length_take, List.length_cons, List.length_nil]; omega), w64 (by omega), take_snoc hi, List.map_append]; rfl) (by
     unfold classify_b2
     dsimp only
     rw [if_neg (by simp), List.take_length])
    have hl' : loopO (classify_b2 b day g code (basisS b day g code) (reduceS b g (basisS b day g code).1 (basisS b day g code).2)) ((0 : Int), steps, ([] : List Str)) = some (steps, (basisS b day g code).2.map (·.Code)) := hl
    rw [hl', Option.bind_some]
    show classify_j2 b day g code (basisS b day g code) (reduceS b g (basisS b day g code).1 (basisS b day g code).2) steps ((basisS b day g code).2.map (·.Code)) = _
    unfold classify_j2
    rw [if_pos (by simp only [List.length_cons, List.length_nil]; omega)]; rfl
   have hb2 : rClassify_b1 b day g (steps, code) = some (.inl (steps ++ [stepS b day g code], (stepS b day g code).Chosen)) := by
    unfold rClassify_b1
    dsimp only
    rw [rBasis_eq hb hg day (by omega), Option.bind_some, if_neg (by rw [beq_iff_eq]; omega), rReduce_eq hb.bb hg _ hlv h0, Option.bind_some]
    have hl := loop_seq (f := rCodes_b1 (basisS b day g code).2) (basisS b day g code).2.length (fun i => ((i : Int), ((basisS b day g code).2.take i).map (·.Code))) ((basisS b day g code).2.map (·.Code)) (fun i hi => by
     have := hlv.1
     unfold rCodes_b1
     dsimp only
     rw [if_pos (decide_eq_true (by omega)), if_pos (by omega), Int.toNat_natCast, List.getElem?_eq_getElem hi, Option.bind_some, if_pos (by simp only [List.length_map, List.length_take, List.length_cons, List.length_nil]; omega), w64 (by omega), take_snoc hi, List.map_append]; rfl) (by
     unfold rCodes_b1
     dsimp only
     rw [if_neg (by simp), List.take_length])
    have hl' : rCodes (basisS b day g code).2 = some ((basisS b day g code).2.map (·.Code)) := by
     unfold rCodes
     have hl2 : loopO (rCodes_b1 (basisS b day g code).2) ((0 : Int), ([] : List Str)) = some ((basisS b day g code).2.map (·.Code)) := hl
     rw [hl2]; rfl
    rw [hl', Option.bind_some, if_pos (by simp only [List.length_cons, List.length_nil]; omega)]; rfl
   exact ⟨by rw [loop_step hb1]; exact i1, by rw [loop_step hb2]; exact i2⟩
/-- What Classify answers. -/
def classR (b : ApiNomenclature) (day : Int) (g : ApiGood) : Str × List Stp × Int :=
  if nv b ≠ 0 then ([], [], nv b) else if gv g ≠ 0 then ([], [], gv g) else if day < 0 ∨ 36524 < day then ([], [], 2)
  else if (clsS b day g 5 [] []).2 = [] then ([], [], 7) else ((clsS b day g 5 [] []).1, (clsS b day g 5 [] []).2, 0)
theorem dayeq {day : Int} : (bif (decide (day < (0 : Int))) then true else (decide ((36524 : Int) < day))) = decide (day < 0 ∨ 36524 < day) := by
 by_cases h1 : day < 0 <;> by_cases h2 : 36524 < day <;> simp [h1, h2]
theorem classR_1 {b : ApiNomenclature} {day : Int} {g : ApiGood} (h1 : nv b ≠ 0) : classR b day g = ([], [], nv b) := by
 unfold classR; rw [if_pos h1]
theorem classR_2 {b : ApiNomenclature} {day : Int} {g : ApiGood} (h1 : nv b = 0) (h2 : gv g ≠ 0) : classR b day g = ([], [], gv g) := by
 unfold classR; rw [if_neg (fun h => h h1), if_pos h2]
theorem classR_3 {b : ApiNomenclature} {day : Int} {g : ApiGood} (h1 : nv b = 0) (h2 : gv g = 0) (h3 : day < 0 ∨ 36524 < day) : classR b day g = ([], [], 2) := by
 unfold classR; rw [if_neg (fun h => h h1), if_neg (fun h => h h2), if_pos h3]
theorem classR_4 {b : ApiNomenclature} {day : Int} {g : ApiGood} (h1 : nv b = 0) (h2 : gv g = 0) (h3 : ¬ (day < 0 ∨ 36524 < day)) : classR b day g = if (clsS b day g 5 [] []).2 = [] then ([], [], 7) else ((clsS b day g 5 [] []).1, (clsS b day g 5 [] []).2, 0) := by
 unfold classR; rw [if_neg (fun h => h h1), if_neg (fun h => h h2), if_neg h3]
theorem classify_eq (b : ApiNomenclature) (day : Int) (g : ApiGood) : classify b day g = some (classR b day g) := by
 unfold classify
 rw [nomValidate_eq, Option.bind_some]
 by_cases h1 : nv b = 0
 ·rw [if_neg (by rw [eqI h1]; simp), goodsValidate_eq, Option.bind_some]
  by_cases h2 : gv g = 0
  ·rw [if_neg (by rw [eqI h2]; simp), dayeq]
   by_cases h3 : day < 0 ∨ 36524 < day
   ·rw [if_pos (decide_eq_true h3), classR_3 h1 h2 h3]
   ·rw [if_neg (fun h => h3 (of_decide_eq_true h)), classR_4 h1 h2 h3]
    have hl := (cls_loops (nv_VB h1) (gv_gok h2).GB day 5 [] [] (by simp) (by simp) (by simp)).1
    rw [hl, Option.bind_some]
    show classify_j1 (clsS b day g 5 [] []).1 (clsS b day g 5 [] []).2 = _
    unfold classify_j1
    by_cases h4 : (clsS b day g 5 [] []).2 = []
    ·rw [if_pos (by rw [h4]; rfl), if_pos h4]
    ·have := List.length_pos_iff.2 h4
     rw [if_neg (by rw [beq_iff_eq]; omega), if_neg h4]
  ·rw [if_pos (neI h2), classR_2 h1 h2]
 ·rw [if_pos (neI h1), classR_1 h1]
def SB (s : List Stp) : Prop := s.length ≤ 1000 ∧ ∀ x, x ∈ s → x.Candidates.length ≤ 1000
theorem clsS_SB (hb : VB b) {day : Int} : ∀ (n : Nat) (c : Str) (s : List Stp), s.length + n ≤ 1000 → (∀ x, x ∈ s → x.Candidates.length ≤ 1000) → SB (clsS b day g n c s).2
 | 0, c, s, h1, h2 => ⟨by simpa [clsS] using h1, by simpa [clsS] using h2⟩
 | n + 1, c, s, h1, h2 => by
  unfold clsS
  split
  ·exact ⟨by simp only; omega, h2⟩
  ·refine clsS_SB hb n _ _ (by simp only [List.length_append, List.length_cons, List.length_nil]; omega) (fun x hx => ?_)
   rcases List.mem_append.1 hx with hx | hx
   ·exact h2 x hx
   ·rw [List.mem_singleton.1 hx]
    show ((basisS b day g c).2.map (·.Code)).length ≤ 1000
    rw [List.length_map]; exact (basisS_LV hb day c).1
theorem classR_SB (b : ApiNomenclature) (day : Int) (g : ApiGood) : SB (classR b day g).2.1 := by
 have h0 : SB [] := ⟨by simp, fun x hx => by cases hx⟩
 unfold classR
 split
 ·exact h0
 ·rename_i h1
  split
  ·exact h0
  ·split
   ·exact h0
   ·split
    ·exact h0
    ·exact clsS_SB (nv_VB (Classical.not_not.1 h1)) 5 [] [] (by simp) (fun x hx => by cases hx)
theorem sameSteps_refl {s : List Stp} (hs : SB s) : sameSteps s s = some true := by
 have hl := hs.1
 unfold sameSteps
 rw [if_neg (by simp)]
 have hloop := loop_seq (f := sameSteps_b1 s s) s.length (fun i => (i : Int)) (.inr ()) (fun i hi => by
  unfold sameSteps_b1 sameStep
  rw [if_pos (decide_eq_true (by omega)), if_pos (by omega), Int.toNat_natCast, List.getElem?_eq_getElem hi, Option.bind_some, if_pos (by omega), Option.bind_some]
  simp only [beq_self_eq_true, cond_true, if_true]
  rw [sameStrings_refl _ (hs.2 _ (List.getElem_mem hi)), Option.bind_some]
  simp only [Option.bind_some, cond_true, Bool.not_true, Bool.false_eq_true, if_false]
  rw [w64 (by omega)]; rfl) (by
  unfold sameSteps_b1
  rw [if_neg (by simp)])
 rw [show ((0 : Int)) = ((0 : Nat) : Int) from rfl, hloop]; rfl
theorem awake10_true : awake10 = some true := by
 unfold awake10 book10
 simp only [Option.bind_some, classify_eq]
 decide +kernel
theorem day_eq {d : Int} : day10 d = some (d % 16) := by
 unfold day10
 rw [within_eq (by omega) (by omega)]; rfl
theorem same_tail {x : Str × List Stp × Int} (hs : SB x.2.1) : ((if (bif (x.1 == x.1) then (x.2.2 == x.2.2) else false) = true then sameSteps x.2.1 x.2.1 else some default).bind fun v7 =>
                (if (bif (bif (x.1 == x.1) then (x.2.2 == x.2.2) else false) then v7 else false) = true then awake10  else some default).bind fun v8 =>
                  some (bif (bif (bif (x.1 == x.1) then (x.2.2 == x.2.2) else false) then v7 else false) then v8 else false)) = some true := by
  simp only [beq_self_eq_true, cond_true, if_true]
  rw [sameSteps_refl hs, Option.bind_some]
  simp only [cond_true, if_true]
  rw [awake10_true]; rfl
theorem basis_tail {b : ApiNomenclature} (hb : VB b) {g : ApiGood} (hg : GB g) (d : Int) {par : Str} (hp : par.length ≤ 1000) : lawBasis_j1 d b g par = some true := by
 unfold lawBasis_j1
 have hlv := basisS_LV (g := g) hb (d % 16) par
 rw [day_eq, Option.bind_some, basis_eq hb hg, Option.bind_some, Option.bind_some, rBasis_eq hb hg _ (by omega), Option.bind_some]
 simp only [bne_self_eq_false, Bool.not_false, if_true, cond_false]
 rw [sameEntries_refl _ hlv.1 (fun x hx => (hlv.2 x hx).1), Option.bind_some]
 simp only [Bool.not_true, Bool.false_eq_true, if_false]
 by_cases h0 : (basisS b (d % 16) g par).2 = []
 ·have h1 : (basisS b (d % 16) g par).1 = 0 := by
   unfold basisS basisL at h0 ⊢
   repeat' split at h0
   all_goals first | (exfalso; rename_i h; exact h h0) | skip
   repeat' split
   all_goals first | rfl | (rename_i h _; exact absurd ‹_› h) | simp_all
  rw [if_pos (by rw [h0]; rfl), h1]
  simp only [beq_self_eq_true, if_true, cond_true]
  rw [awake10_true]; rfl
 ·have hlen := List.length_pos_iff.2 h0
  rw [if_neg (by rw [beq_iff_eq]; omega), reduce_eq hb.bb hg _ hlv h0, Option.bind_some, rReduce_eq hb.bb hg _ hlv h0, Option.bind_some]
  have hm := reduceS_mem (b := b) (g := g) (basis := (basisS b (d % 16) g par).1) hlv.1 h0
  simp only [beq_self_eq_true, if_true, cond_true]
  rw [sameEntries_refl _ (by simp) (fun x hx => by rw [List.mem_singleton.1 hx]; exact (hlv.2 _ hm).1), Option.bind_some]
  simp only [cond_true, if_true]
  rw [awake10_true]; rfl
theorem NMade.VB {b : ApiNomenclature} (h : NMade b) : VB b := nv_VB h.nv
theorem lawBasis_true {l m : List Int} {d at_ : Int} {top : Bool} (hl : l.length ≤ 9223372036854775807 ∧ ∀ x, x ∈ l → okI_i64 x) (hm : m.length ≤ 9223372036854775807 ∧ ∀ x, x ∈ m → okI_i64 x) (hd : okI_i64 d) (ha : okI_i64 at_) : lawBasis l m d at_ top = some true := by
 unfold lawBasis
 obtain ⟨b, e1, hb⟩ := madeNom_ok l
 obtain ⟨g, e2, hg⟩ := madeGood_ok m
 have hlen := hb.len
 rw [e1, Option.bind_some, e2, Option.bind_some]
 cases top with
 | true => exact basis_tail hb.VB hg.GB d (by simp)
 | false =>
  have p1 := Int.emod_nonneg at_ (by omega : (b.Entries.length : Int) ≠ 0)
  have p2 := Int.emod_lt_of_pos at_ (by omega : (0 : Int) < (b.Entries.length : Int))
  simp only [Bool.not_false, if_true]
  rw [within_eq (by omega) (by omega), Option.bind_some, if_pos p1, List.getElem?_eq_getElem (by omega), Option.bind_some]
  exact basis_tail hb.VB hg.GB d (by have := (hb.VB.code _ (List.getElem_mem (by omega : (at_ % (b.Entries.length : Int)).toNat < b.Entries.length))).2; omega)
end Go.C
end

section
set_option linter.unusedVariables false
set_option linter.unusedSimpArgs false
namespace Go.C
open Go.V
variable {b : ApiNomenclature} {g : ApiGood}
theorem basis_none {level : List Ent} (h : (basisL b g false level).2 = []) : level = [] := by
 have h6 : candS b g false level 6 = level := by
  unfold candS
  exact List.filter_eq_self.2 (fun e _ => rfl)
 unfold basisL at h
 by_cases c1 : candS b g false level 1 ≠ []
 ·rw [if_pos c1] at h; exact absurd h c1
 rw [if_neg c1] at h
 by_cases c2 : candS b g false level 2 ≠ []
 ·rw [if_pos c2] at h; exact absurd h c2
 rw [if_neg c2] at h
 by_cases c3 : candS b g false level 3 ≠ []
 ·rw [if_pos c3] at h; exact absurd h c3
 rw [if_neg c3] at h
 by_cases c4 : candS b g false level 4 ≠ []
 ·rw [if_pos c4] at h; exact absurd h c4
 rw [if_neg c4] at h
 by_cases c5 : candS b g false level 5 ≠ []
 ·rw [if_pos c5] at h; exact absurd h c5
 rw [if_neg c5] at h
 by_cases c6 : candS b g false level 6 ≠ []
 ·rw [if_pos c6] at h; exact absurd h c6
 rw [← h6]; exact Classical.not_not.1 c6
theorem subS_up {a w u : List Str} (h : ∀ x, x ∈ w → x ∈ u) (hs : subS a w = true) : subS a u = true := by
 unfold subS at hs ⊢
 rw [List.all_eq_true] at hs ⊢
 exact fun x hx => List.contains_iff_mem.2 (h x (List.contains_iff_mem.1 (hs x hx)))
theorem exS_down {c : Str} {w u : List Str} (h : ∀ x, x ∈ w → x ∈ u) (hs : exS b c u = false) : exS b c w = false := by
 cases h1 : exS b c w with
 | false => rfl
 | true =>
  have h2 : exS b c u = true := by
   unfold exS at h1 ⊢
   rw [List.any_eq_true] at h1 ⊢
   obtain ⟨n, hn, h3⟩ := h1
   rw [Bool.and_eq_true] at h3
   exact ⟨n, hn, by rw [Bool.and_eq_true]; exact ⟨h3.1, subS_up h h3.2⟩⟩
  rw [h2] at hs; cases hs
theorem scored_ex {w : List Str} {e : Ent} (h : scored1 b w e = true) : exS b e.Code w = false := by
 unfold scored1 scS at h
 cases hx : exS b e.Code w with
 | false => rfl
 | true => rw [hx, if_pos rfl] at h; simp at h
theorem lik_ex {e : Ent} (h : 0 < likS b e g) : exS b e.Code g.Words = false := by
 unfold likS at h
 cases hx : exS b e.Code g.Words with
 | false => rfl
 | true => rw [hx, if_pos rfl] at h; simp at h
theorem cand_ex {top : Bool} {level : List Ent} {e : Ent} (he : e ∈ (basisL b g top level).2) (h3 : (basisL b g top level).1 ≠ 3) (h8 : (basisL b g top level).1 ≠ 8) (h7 : (basisL b g top level).1 = 7 → top = true) : exS b e.Code g.Words = false := by
 unfold basisL at he h3 h8 h7
 by_cases c1 : candS b g top level 1 ≠ []
 ·rw [if_pos c1] at he
  have h := (List.mem_filter.1 he).2
  have h' : termsS b g e = true := h
  unfold termsS at h'
  split at h'
  ·rw [Bool.and_eq_true] at h'
   exact exS_down (u := incW g) (fun x hx => by unfold incW; simp [hx]) (by simpa using h'.1)
  ·exact scored_ex h'
 rw [if_neg c1] at he h3 h8 h7
 by_cases c2 : candS b g top level 2 ≠ []
 ·rw [if_pos c2] at he
  have h : (g.Incomplete && scored1 b g.Words e) = true := (List.mem_filter.1 he).2
  rw [Bool.and_eq_true] at h
  exact scored_ex h.2
 rw [if_neg c2] at he h3 h8 h7
 by_cases c3 : candS b g top level 3 ≠ []
 ·rw [if_pos c3] at h3; exact absurd rfl h3
 rw [if_neg c3] at he h3 h8 h7
 by_cases c4 : candS b g top level 4 ≠ []
 ·rw [if_pos c4] at h8; exact absurd rfl h8
 rw [if_neg c4] at he h3 h8 h7
 by_cases c5 : candS b g top level 5 ≠ []
 ·rw [if_pos c5] at he
  have h : (decide (0 < bestS b g level) && (likS b e g == bestS b g level)) = true := (List.mem_filter.1 he).2
  rw [Bool.and_eq_true, decide_eq_true_eq, beq_iff_eq] at h
  exact lik_ex (by omega)
 rw [if_neg c5] at he h3 h8 h7
 by_cases c6 : candS b g top level 6 ≠ []
 ·rw [if_pos c6] at he h7
  have ht := h7 rfl
  have h : (!top) = true := (List.mem_filter.1 he).2
  rw [ht] at h; cases h
 ·rw [if_neg c6] at he; cases he
def lastC (s : List Stp) : Str := match s.getLast? with | some x => x.Chosen | none => []
theorem lastC_snoc (s : List Stp) (x : Stp) : lastC (s ++ [x]) = x.Chosen := by
 unfold lastC; rw [List.getLast?_append]; rfl
def StpOk (b : ApiNomenclature) (day : Int) (g : ApiGood) (s : List Stp) (i : Nat) (x : Stp) : Prop :=
 x.Parent = lastC (s.take i) ∧ x.Chosen ∈ x.Candidates ∧ (∃ e, e ∈ atS b day ∧ e.Code = x.Chosen) ∧ x.Chosen.length = 4 + 2 * i ∧ (x.Basis ≠ 3 → x.Basis ≠ 8 → (x.Basis = 7 → i = 0) → exS b x.Chosen g.Words = false)
def Chain (b : ApiNomenclature) (day : Int) (g : ApiGood) (s : List Stp) : Prop := ∀ i x, s[i]? = some x → StpOk b day g s i x
theorem Chain.step (hb : VB b) {day : Int} {s : List Stp} (hs : Chain b day g s) (hl : (lastC s).length = if s = [] then 0 else 2 + 2 * s.length) (hne : (basisS b day g (lastC s)).2 ≠ []) : Chain b day g (s ++ [stepS b day g (lastC s)]) ∧ (lastC (s ++ [stepS b day g (lastC s)])).length = 2 + 2 * (s ++ [stepS b day g (lastC s)]).length := by
 have hlv := basisS_LV (g := g) hb day (lastC s)
 have hm := reduceS_mem (b := b) (g := g) (basis := (basisS b day g (lastC s)).1) hlv.1 hne
 have hmem := basisS_mem hm
 have hchl : (stepS b day g (lastC s)).Chosen.length = 4 + 2 * s.length := by
  have h5 := hmem.2.2
  unfold below at h5
  by_cases h0 : s = []
  ·rw [if_pos h0] at hl
   have hc : lastC s = [] := List.eq_nil_of_length_eq_zero hl
   rw [if_pos hc] at h5
   have := of_decide_eq_true h5
   rw [h0]; rw [h0] at this; exact this
  ·rw [if_neg h0] at hl
   have hc : lastC s ≠ [] := fun e => by rw [e] at hl; simp at hl; omega
   rw [if_neg hc] at h5
   have h6 := of_decide_eq_true h5
   have h7 := congrArg List.length h6.2
   unfold parent at h7
   rw [List.length_take] at h7
   show (reduceS b g (basisS b day g (lastC s)).1 (basisS b day g (lastC s)).2).2.Code.length = _
   omega
 have hnew : StpOk b day g s s.length (stepS b day g (lastC s)) := by
  refine ⟨by rw [List.take_length]; rfl, List.mem_map.2 ⟨_, hm, rfl⟩, ⟨_, List.mem_filter.2 ⟨hmem.1, hmem.2.1⟩, rfl⟩, hchl, fun h3 h8 h7 => ?_⟩
  refine cand_ex (top := decide (lastC s = [])) hm h3 h8 (fun h => ?_)
  have h0 := h7 h
  have h1 : s = [] := List.eq_nil_of_length_eq_zero h0
  rw [h1]; rfl
 refine ⟨fun i x hx => ?_, by rw [lastC_snoc, hchl]; simp only [List.length_append, List.length_cons, List.length_nil]; omega⟩
 rcases Nat.lt_trichotomy i s.length with h | h | h
 ·rw [List.getElem?_append_left h] at hx
  have h1 := hs i x hx
  unfold StpOk at h1 ⊢
  rw [List.take_append_of_le_length (by omega)]
  exact h1
 ·subst h
  rw [List.getElem?_append_right (Nat.le_refl _), Nat.sub_self] at hx
  cases hx
  unfold StpOk at hnew ⊢
  rw [List.take_append_of_le_length (Nat.le_refl _)]
  exact hnew
 ·have := lt_of_get hx
  simp only [List.length_append, List.length_cons, List.length_nil] at this
  omega
theorem clsS_chain (hb : VB b) {day : Int} : ∀ (n : Nat) (s : List Stp), Chain b day g s → ((lastC s).length = if s = [] then 0 else 2 + 2 * s.length) → 8 < (lastC s).length + 2 * n →
  Chain b day g (clsS b day g n (lastC s) s).2 ∧ (clsS b day g n (lastC s) s).1 = lastC (clsS b day g n (lastC s) s).2 ∧ (basisS b day g (clsS b day g n (lastC s) s).1).2 = []
 | 0, s, hs, hl, h8 => ⟨hs, rfl, basis_far hb (show 8 < (lastC s).length by omega)⟩
 | n + 1, s, hs, hl, h8 => by
  unfold clsS
  by_cases h0 : (basisS b day g (lastC s)).2 = []
  ·rw [if_pos h0]; exact ⟨hs, rfl, h0⟩
  ·rw [if_neg h0]
   obtain ⟨h1, h2⟩ := Chain.step hb hs hl h0
   have h3 := chosen_two (g := g) hb h0
   have h4 := clsS_chain hb n (s ++ [stepS b day g (lastC s)]) h1 (by rw [if_neg (by simp)]; exact h2) (by rw [lastC_snoc]; omega)
   rw [lastC_snoc] at h4
   exact h4
theorem cls_path (hb : VB b) (day : Int) : Chain b day g (clsS b day g 5 [] []).2 ∧ (clsS b day g 5 [] []).1 = lastC (clsS b day g 5 [] []).2 ∧ (basisS b day g (clsS b day g 5 [] []).1).2 = [] :=
 clsS_chain hb 5 [] (fun i x hx => by simp at hx) rfl (by decide)
theorem chain_len (hb : VB b) {day : Int} {s : List Stp} (h : Chain b day g s) : s.length ≤ 3 := by
 by_cases h0 : s.length = 0
 ·omega
 ·have hi : s.length - 1 < s.length := by omega
  obtain ⟨_, _, ⟨e, he, hc⟩, hl, _⟩ := h (s.length - 1) _ (List.getElem?_eq_getElem hi)
  have := (hb.code e (List.mem_filter.1 he).1).2
  rw [hc, hl] at this
  omega
/-- What Classify answers over made data. -/
theorem classR_made {b : ApiNomenclature} (hb : NMade b) {g : ApiGood} (hg : gv g = 0) (d : Int) : classR b (d % 16) g = ([], [], 7) ∨ (classR b (d % 16) g = ((clsS b (d % 16) g 5 [] []).1, (clsS b (d % 16) g 5 [] []).2, 0) ∧ (clsS b (d % 16) g 5 [] []).2 ≠ []) := by
  rw [classR_4 hb.nv hg (by omega)]
  by_cases h : (clsS b (d % 16) g 5 [] []).2 = []
  · rw [if_pos h]; exact .inl rfl
  · rw [if_neg h]; exact .inr ⟨rfl, h⟩
theorem lawPath_true {l m : List Int} {d : Int} (hl : l.length ≤ 9223372036854775807 ∧ ∀ x, x ∈ l → okI_i64 x) (hm : m.length ≤ 9223372036854775807 ∧ ∀ x, x ∈ m → okI_i64 x) (hd : okI_i64 d) : lawPath l m d = some true := by
 unfold lawPath
 obtain ⟨b, e1, hb⟩ := madeNom_ok l
 obtain ⟨g, e2, hg⟩ := madeGood_ok m
 have hvb := hb.VB
 have hbb := hvb.bb
 rw [e1, Option.bind_some, e2, Option.bind_some, day_eq, Option.bind_some, classify_eq, Option.bind_some]
 rcases classR_made hb hg.gv d with h | ⟨h, hne⟩
 ·rw [h, if_pos (by rfl)]
  simp only [beq_self_eq_true, if_true, cond_true]
  rw [awake10_true]; rfl
 ·rw [h, if_neg (by simp)]
  obtain ⟨hc, hlast, hnone⟩ := cls_path (g := g) hvb (d % 16)
  have h3 := chain_len hvb hc
  have hpos := List.length_pos_iff.2 hne
  have hsb := clsS_SB (g := g) hvb (day := d % 16) 5 [] [] (by simp) (fun x hx => by cases hx)
  clear h
  generalize (clsS b (d % 16) g 5 [] []).2 = s at *
  generalize (clsS b (d % 16) g 5 [] []).1 = c at *
  have hloop := loop_seq (f := lawPath_b1 d b (c, s, 0)) s.length (fun i => ((i : Int), lastC (s.take i))) (.inr (lastC s)) (fun i hi => by
   obtain ⟨p1, p2, ⟨e, he, hec⟩, p4, _⟩ := hc i _ (List.getElem?_eq_getElem hi)
   obtain ⟨r, er, hr⟩ := nomFind_one hbb (d % 16) s[i].Chosen
   have hr2 : r.2 = true := by
    rcases hr with hr | hr
    ·exact hr.1
    ·exact absurd hec (hr.2 e he)
   have hcand : s[i].Candidates.length ≤ 1000 := hsb.2 _ (List.getElem_mem hi)
   unfold lawPath_b1
   dsimp only
   rw [if_pos (decide_eq_true (by omega)), day_eq, Option.bind_some, if_pos (by omega), Int.toNat_natCast, List.getElem?_eq_getElem hi, Option.bind_some, er, Option.bind_some, if_pos (by omega), Option.bind_some, if_pos (fun _ => by omega), if_pos (fun _ => by omega), getD_get hi, beq_iff_eq.2 p1]
   simp only [Bool.not_true, Bool.not_false, if_true]
   rw [refHas_eq _ hcand, List.contains_iff_mem.2 p2, Option.bind_some, if_pos (fun _ => by omega), hr2, w64 (n := 2 * (i : Int)) (by omega), w64 (by omega), w64 (n := (i : Int) + 1) (by omega), if_neg (by simp; omega), if_pos (by omega), Option.bind_some, take_snoc hi, lastC_snoc]; rfl) (by
   unfold lawPath_b1
   dsimp only
   rw [if_neg (by simp), List.take_length])
  have hloop' : loopO (lawPath_b1 d b (c, s, 0)) ((0 : Int), ([] : Str)) = some (.inr (lastC s)) := hloop
  rw [hloop', Option.bind_some]
  show lawPath_j1 d b (c, s, 0) (lastC s) = _
  unfold lawPath_j1
  have hcne : c ≠ [] := fun e => by
   have hi : s.length - 1 < s.length := by omega
   obtain ⟨_, _, _, p4, _⟩ := hc (s.length - 1) _ (List.getElem?_eq_getElem hi)
   have hl2 : c = s[s.length - 1].Chosen := by
    rw [hlast]; unfold lastC
    rw [List.getLast?_eq_getElem?, List.getElem?_eq_getElem hi]
   rw [← hl2, e] at p4
   simp at p4
   omega
  have hbel : belS b (d % 16) c = [] := by
   unfold basisS at hnone
   rw [decide_eq_false hcne] at hnone
   exact basis_none hnone
  dsimp only
  rw [decide_eq_true (by omega : (1 : Int) ≤ (s.length : Int)), decide_eq_true (by omega : (s.length : Int) ≤ 3), beq_iff_eq.2 hlast.symm]
  simp only [cond_true, if_true]
  rw [day_eq, Option.bind_some, nomBelow_eq hbb (fun e he => by have := (hvb.code e he).2; omega), Option.bind_some, hbel]
  simp only [List.length_nil, Int.natCast_zero, beq_self_eq_true, cond_true, if_true]
  rw [awake10_true]; rfl
theorem lawExcluded_true {l m : List Int} {d : Int} (hl : l.length ≤ 9223372036854775807 ∧ ∀ x, x ∈ l → okI_i64 x) (hm : m.length ≤ 9223372036854775807 ∧ ∀ x, x ∈ m → okI_i64 x) (hd : okI_i64 d) : lawExcluded l m d = some true := by
 unfold lawExcluded
 obtain ⟨b, e1, hb⟩ := madeNom_ok l
 obtain ⟨g, e2, hg⟩ := madeGood_ok m
 have hvb := hb.VB
 have hbb := hvb.bb
 have hgw := hg.GB.words
 rw [e1, Option.bind_some, e2, Option.bind_some, day_eq, Option.bind_some, classify_eq, Option.bind_some]
 rcases classR_made hb hg.gv d with h | ⟨h, hne⟩
 ·rw [h, if_pos (by rfl), awake10_true]; rfl
 ·rw [h, if_neg (by simp)]
  obtain ⟨hc, hlast, hnone⟩ := cls_path (g := g) hvb (d % 16)
  have h3 := chain_len hvb hc
  have hpos := List.length_pos_iff.2 hne
  clear h
  generalize (clsS b (d % 16) g 5 [] []).2 = s at *
  generalize (clsS b (d % 16) g 5 [] []).1 = c at *
  have hcond : ∀ i (hi : i < s.length), (bif (bif (s[i].Basis == (3 : Int)) then true else (s[i].Basis == (8 : Int))) then true else (bif (s[i].Basis == (7 : Int)) then (decide ((0 : Int) < (i : Int))) else false)) = decide (s[i].Basis = 3 ∨ s[i].Basis = 8 ∨ (s[i].Basis = 7 ∧ 0 < i)) := fun i hi => by
   generalize s[i].Basis = w
   by_cases q3 : w = 3
   ·subst q3; simp
   by_cases q8 : w = 8
   ·subst q8; simp
   by_cases q7 : w = 7
   ·subst q7; by_cases q0 : 0 < i <;> simp [q0]
   rw [beq_eq_false_iff_ne.2 q3, beq_eq_false_iff_ne.2 q8, beq_eq_false_iff_ne.2 q7]
   simp [q3, q8, q7]
  obtain ⟨r, er, hr⟩ := loop_all s (lawExcluded_b1 b g (c, s, 0)) (fun i (_ : Unit) => (i : Int)) (fun i _ => ∀ j (hj : j < s.length), j < i → ¬ (s[j].Basis = 3 ∨ s[j].Basis = 8 ∨ (s[j].Basis = 7 ∧ 0 < j))) (fun r => match r with | .inl v => v = true | .inr _ => ∀ j (hj : j < s.length), ¬ (s[j].Basis = 3 ∨ s[j].Basis = 8 ∨ (s[j].Basis = 7 ∧ 0 < j))) (fun i x _ hx hI => by
   have hlt := lt_of_get hx
   have hx' : s[i] = x := by rw [List.getElem?_eq_getElem hlt] at hx; exact Option.some.inj hx
   have hcd := hcond i hlt
   unfold lawExcluded_b1
   dsimp only
   rw [if_pos (decide_eq_true (by omega)), if_pos (by omega), Int.toNat_natCast, List.getElem?_eq_getElem hlt, Option.bind_some, if_pos (fun _ => by omega), if_pos (fun _ => by omega), getD_get hlt, hcd]
   by_cases hq : s[i].Basis = 3 ∨ s[i].Basis = 8 ∨ (s[i].Basis = 7 ∧ 0 < i)
   ·rw [if_pos (decide_eq_true hq), awake10_true]
    exact .inr ⟨_, rfl, rfl⟩
   ·rw [if_neg (fun h => hq (of_decide_eq_true h)), w64 (by omega)]
    refine .inl ⟨(), rfl, fun j hj hji => ?_⟩
    by_cases e : j = i
    ·subst e; exact hq
    ·exact hI j hj (by omega)) (fun _ hI => ⟨.inr (), by unfold lawExcluded_b1; rw [if_neg (by simp)], fun j hj => hI j hj hj⟩) () (fun j hj h0 => by omega)
  have er' : loopO (lawExcluded_b1 b g (c, s, 0)) (0 : Int) = some r := er
  rw [er', Option.bind_some]
  rcases r with v | u
  ·exact congrArg some hr
  ·show lawExcluded_j1 b g (c, s, 0) = _
   unfold lawExcluded_j1
   have hi : s.length - 1 < s.length := by omega
   have hno := hr (s.length - 1) hi
   obtain ⟨_, _, _, _, p5⟩ := hc (s.length - 1) _ (List.getElem?_eq_getElem hi)
   have hl2 : c = s[s.length - 1].Chosen := by
    rw [hlast]; unfold lastC
    rw [List.getLast?_eq_getElem?, List.getElem?_eq_getElem hi]
   have hex : exS b c g.Words = false := by
    rw [hl2]
    exact p5 (fun h => hno (.inl h)) (fun h => hno (.inr (.inl h))) (fun h => by
     by_cases h0 : s.length - 1 = 0
     ·exact h0
     ·exact absurd (.inr (.inr ⟨h, by omega⟩)) hno)
   rw [nomExcluded_eq hbb _ (by omega), Option.bind_some, hex]
   simp only [Bool.not_false, if_true, cond_true]
   rw [awake10_true]; rfl
section
variable {E E2 : List Ent} {Nn : List ApiCodeNote}
theorem scored_notes (w : List Str) : scored1 ⟨E, Nn⟩ w = scored1 ⟨E2, Nn⟩ w := rfl
theorem basisL_notes (g : ApiGood) (top : Bool) (l : List Ent) : basisL ⟨E, Nn⟩ g top l = basisL ⟨E2, Nn⟩ g top l := rfl
theorem ess_notes : ∀ (cs : List Cp) (c : List Ent), essS ⟨E, Nn⟩ cs c = essS ⟨E2, Nn⟩ cs c
 | [], c => rfl
 | x :: r, c => by unfold essS; rw [scored_notes (E2 := E2), ess_notes r c]
theorem tail_notes (g : ApiGood) (c : List Ent) : tailS ⟨E, Nn⟩ g c = tailS ⟨E2, Nn⟩ g c := by
 unfold tailS; rw [ess_notes (E2 := E2)]
theorem spec_notes (w : List Str) (c : List Ent) : specS ⟨E, Nn⟩ w c = specS ⟨E2, Nn⟩ w c := rfl
theorem reduce_notes (g : ApiGood) (k : Int) (c : List Ent) : reduceS ⟨E, Nn⟩ g k c = reduceS ⟨E2, Nn⟩ g k c := by
 have ht : tailS ⟨E, Nn⟩ g = tailS ⟨E2, Nn⟩ g := funext (tail_notes g)
 unfold reduceS; rw [spec_notes (E2 := E2), ht]
theorem basis_notes {day : Int} (h : E.filter (onDay day) = E2.filter (onDay day)) (g : ApiGood) (c : Str) : basisS ⟨E, Nn⟩ day g c = basisS ⟨E2, Nn⟩ day g c := by
 have hb : belS ⟨E, Nn⟩ day c = belS ⟨E2, Nn⟩ day c := by unfold belS atS; exact congrArg (List.filter (below c)) h
 unfold basisS; rw [hb, basisL_notes (E2 := E2)]
theorem step_notes {day : Int} (h : E.filter (onDay day) = E2.filter (onDay day)) (g : ApiGood) (c : Str) : stepS ⟨E, Nn⟩ day g c = stepS ⟨E2, Nn⟩ day g c := by
 unfold stepS; rw [basis_notes h, reduce_notes (E2 := E2)]
theorem cls_notes {day : Int} (h : E.filter (onDay day) = E2.filter (onDay day)) (g : ApiGood) : ∀ (n : Nat) (c : Str) (s : List Stp), clsS ⟨E, Nn⟩ day g n c s = clsS ⟨E2, Nn⟩ day g n c s
 | 0, c, s => rfl
 | n + 1, c, s => by unfold clsS; rw [basis_notes h, step_notes h, cls_notes h g n]
end
theorem lawOtherDays_true {l m : List Int} {d at_ : Int} (hl : l.length ≤ 9223372036854775807 ∧ ∀ x, x ∈ l → okI_i64 x) (hm : m.length ≤ 9223372036854775807 ∧ ∀ x, x ∈ m → okI_i64 x) (hd : okI_i64 d) (ha : okI_i64 at_) : lawOtherDays l m d at_ = some true := by
  unfold lawOtherDays
  obtain ⟨b, e1, hb⟩ := madeNom_ok l
  obtain ⟨g, e2, hg⟩ := madeGood_ok m
  have hlen := hb.len
  obtain ⟨k, hk⟩ : ∃ k : Nat, (k : Int) = at_ % (b.Entries.length : Int) := ⟨(at_ % (b.Entries.length : Int)).toNat, by have := Int.emod_nonneg at_ (by omega : (b.Entries.length : Int) ≠ 0); omega⟩
  have hkl : k < b.Entries.length := by have := Int.emod_lt_of_pos at_ (by omega : (0 : Int) < (b.Entries.length : Int)); omega
  rw [e1, Option.bind_some, e2, Option.bind_some, within_eq (by omega) (by omega), Option.bind_some, ← hk, if_pos (by omega), Int.toNat_natCast, List.getElem?_eq_getElem hkl, Option.bind_some, day_eq, Option.bind_some, getD_get hkl]
  have tail : onDay (d % 16) b.Entries[k] = false → (if (0 ≤ (0 : Int) ∧ (0 : Int) ≤ (k : Int) ∧ (k : Int) ≤ (b.Entries.length : Int)) then
                      if (0 + ((b.Entries.take k).drop (0 : Int).toNat).length ≤ 137438953472) then
                        if (0 ≤ (IntKind.i64.wrap ((k : Int) + (1 : Int))) ∧ (IntKind.i64.wrap ((k : Int) + (1 : Int))) ≤ (b.Entries.length : Int)) then
                          if (((b.Entries.take k).drop (0 : Int).toNat).length + (b.Entries.drop (IntKind.i64.wrap ((k : Int) + (1 : Int))).toNat).length ≤ 137438953472) then
                            (nomValidate (⟨(((b.Entries.take k).drop (0 : Int).toNat) ++ (b.Entries.drop (IntKind.i64.wrap ((k : Int) + (1 : Int))).toNat)), b.Notes⟩ : ApiNomenclature)).bind fun v7 =>
                              if (v7 != (0 : Int)) = true then
                                (awake10 ).bind fun v8 =>
                                  some v8
                              else
                                (some (d % 16)).bind fun v9 =>
                                  (classify b v9 g).bind fun v10 =>
                                    (some (d % 16)).bind fun v11 =>
                                      (classify (⟨(((b.Entries.take k).drop (0 : Int).toNat) ++ (b.Entries.drop (IntKind.i64.wrap ((k : Int) + (1 : Int))).toNat)), b.Notes⟩ : ApiNomenclature) v11 g).bind fun v12 =>
                                        (if (bif (v10.1 == v12.1) then (v10.2.2 == v12.2.2) else false) = true then sameSteps v10.2.1 v12.2.1 else some default).bind fun v13 =>
                                          (if (bif (bif (v10.1 == v12.1) then (v10.2.2 == v12.2.2) else false) then v13 else false) = true then awake10  else some default).bind fun v14 =>
                                            some (bif (bif (bif (v10.1 == v12.1) then (v10.2.2 == v12.2.2) else false) then v13 else false) then v14 else false)
                          else none
                        else none
                      else none
                    else none) = some true := fun hoff => by
    have hw : (IntKind.i64.wrap ((k : Int) + (1 : Int))) = ((k + 1 : Nat) : Int) := by rw [w64 (by omega)]; omega
    rw [if_pos ⟨by omega, by omega, by omega⟩, hw, Int.toNat_natCast, show ((0 : Int)).toNat = 0 from rfl, List.drop_zero, if_pos (by rw [List.length_take]; omega), if_pos ⟨by omega, by omega⟩, if_pos (by rw [List.length_take, List.length_drop]; omega), nomValidate_eq, Option.bind_some]
    by_cases hv : nv (⟨b.Entries.take k ++ b.Entries.drop (k + 1), b.Notes⟩ : ApiNomenclature) = 0
    · rw [if_neg (by rw [eqI hv]; simp), Option.bind_some, classify_eq, Option.bind_some, Option.bind_some, classify_eq, Option.bind_some]
      have hfe : (b.Entries.take k ++ b.Entries.drop (k + 1)).filter (onDay (d % 16)) = b.Entries.filter (onDay (d % 16)) := by
        have h1 : b.Entries = b.Entries.take k ++ b.Entries[k] :: b.Entries.drop (k + 1) := by rw [← List.drop_eq_getElem_cons hkl, List.take_append_drop]
        conv => rhs; rw [h1]
        rw [List.filter_append, List.filter_append, List.filter_cons_of_neg (by rw [hoff]; simp)]
      have hcr : classR (⟨b.Entries.take k ++ b.Entries.drop (k + 1), b.Notes⟩ : ApiNomenclature) (d % 16) g = classR b (d % 16) g := by
        rw [classR_4 hv hg.gv (by omega), classR_4 hb.nv hg.gv (by omega)]
        have := cls_notes (Nn := b.Notes) hfe g 5 [] []
        rw [this]
      rw [hcr]
      exact same_tail (classR_SB _ _ _)
    · rw [if_pos (neI hv), awake10_true]; rfl
  by_cases hf : b.Entries[k].From ≤ d % 16
  · rw [if_pos (decide_eq_true hf), Option.bind_some, if_pos (fun _ => by omega)]
    by_cases ht : d % 16 < b.Entries[k].To
    · rw [decide_eq_true hf, decide_eq_true ht, cond_true, if_pos rfl, awake10_true]; rfl
    · rw [decide_eq_true hf, decide_eq_false ht, cond_true, if_neg (by simp)]
      exact tail (by unfold onDay; rw [decide_eq_false ht, Bool.and_false])
  · rw [if_neg (fun h => hf (of_decide_eq_true h)), Option.bind_some, if_pos (fun h => by omega), decide_eq_false hf, cond_false, if_neg (by simp)]
    exact tail (by unfold onDay; rw [decide_eq_false hf, Bool.false_and])
end Go.C
end
