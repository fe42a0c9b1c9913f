/- Plain laws of chapter 9: the days of entries; the tree of codes. No program in sight. -/
import Derived.Test.YtfkefolbabniaaaGreatDoorNf
import Derived.Test.YtfkefolbabniaaaGreatDoorPg
set_option linter.unusedVariables false
set_option linter.unusedSimpArgs false
namespace Go.C
open Go.V

theorem refAt_eq {b : ApiNomenclature} (h : BB b) (day : Int) : refAt b day = some (atS b day) := by
  unfold refAt atS
  have := loop_seq (f := refAt_b1 b day) b.Entries.length (fun i => ((i : Int), (b.Entries.take i).filter (onDay day))) (b.Entries.filter (onDay day)) (fun i hi => by
    have hl := h.ents.1
    have hfl := filter_len (onDay day) b.Entries i
    unfold refAt_b1 refAt_j2
    dsimp only
    rw [if_pos (by simp only [decide_eq_true_eq]; omega), if_pos (by omega), Int.toNat_natCast, List.getElem?_eq_getElem hi, Option.bind_some, if_pos (fun _ => by omega), w64 (n := (i : Int) + 1) (by omega), filter_take _ hi, getD_get hi]
    have e : (bif (decide (b.Entries[i].From ≤ day)) then (decide (day < b.Entries[i].To)) else false) = onDay day b.Entries[i] := by unfold onDay; cases decide (b.Entries[i].From ≤ day) <;> rfl
    rw [e]
    cases onDay day b.Entries[i] with
    | true => rw [if_pos rfl, if_pos (by omega), Option.bind_some, if_pos (by simp; omega), if_pos rfl]; rfl
    | false => rw [if_neg (by simp), if_neg (by simp)]; rfl) (by unfold refAt_b1; dsimp only; rw [if_neg (by simp), List.take_length])
  rw [show ((0 : Int), ([] : List Ent)) = (((0 : Nat) : Int), (b.Entries.take 0).filter (onDay day)) from rfl, this]; rfl

theorem find_any (code : Str) {l : List Ent} (hl : l.length ≤ 1000) : ∃ r, loopO (nomFind_b1 code l) (0 : Int) = some r ∧ (match r with | .inl v => v.2 = true ∧ v.1 ∈ l ∧ v.1.Code = code | .inr _ => ∀ e, e ∈ l → e.Code ≠ code) := by
  exact loop_all l (nomFind_b1 code l) (fun i (_ : Unit) => (i : Int)) (fun i _ => ∀ j, j < i → (l.getD j default).Code ≠ code) _ (fun i x b hx hI => by
    have hlt := lt_of_get hx
    unfold nomFind_b1
    rw [if_pos (by simp only [decide_eq_true_eq]; omega), if_pos (by omega), Int.toNat_natCast, hx, Option.bind_some, w64 (n := (i : Int) + 1) (by omega)]
    by_cases hv : x.Code = code
    · exact .inr ⟨_, if_pos (by simpa using hv), rfl, List.mem_of_getElem? hx, hv⟩
    · refine .inl ⟨(), by rw [if_neg (by simpa using hv)]; rfl, fun j hj => ?_⟩
      by_cases e : j = i
      · subst e; rw [getD_of hx]; exact hv
      · exact hI j (by omega))
    (fun b hI => ⟨.inr (), by unfold nomFind_b1; rw [if_neg (by simp)], fun e he => by
      obtain ⟨j, hj, rfl⟩ := List.getElem_of_mem he
      have := hI j hj
      rwa [getD_get hj] at this⟩) () (fun j hj => by omega)
def zeroE : Ent := ⟨[], 0, 0, [], false⟩
theorem atS_len {b : ApiNomenclature} (h : BB b) (day : Int) : (atS b day).length ≤ 1000 := Nat.le_trans (List.length_filter_le _ _) h.ents.1
theorem nomFind_one {b : ApiNomenclature} (h : BB b) (day : Int) (code : Str) : ∃ r : Ent × Bool, nomFind b day code = some r ∧ ((r.2 = true ∧ r.1 ∈ atS b day ∧ r.1.Code = code) ∨ (r = (zeroE, false) ∧ ∀ e, e ∈ atS b day → e.Code ≠ code)) := by
  obtain ⟨r, e, hr⟩ := find_any code (atS_len h day)
  unfold nomFind nomFind_j1
  rw [nomAt_eq h, Option.bind_some, e, Option.bind_some]
  rcases r with r | r
  · exact ⟨r, rfl, .inl hr⟩
  · exact ⟨_, rfl, .inr ⟨rfl, hr⟩⟩

theorem refPrefix_eq (c p : Str) (hc : c.length ≤ 9223372036854775807) : refPrefix c p = some (Lib.hasPrefix c p) := by
  unfold refPrefix Lib.hasPrefix
  by_cases h : p.length ≤ c.length
  · have d : (p.length : Int) ≤ (c.length : Int) := by omega
    rw [if_pos (fun _ => by omega)]
    simp only [d, decide_true, cond_true, Int.toNat_natCast]
    show some ((c.take p.length) == p) = _
    congr 1
    rw [Bool.eq_iff_iff, List.isPrefixOf_iff_prefix, beq_iff_eq]
    constructor
    · intro hh; have := List.take_append_drop p.length c; rw [hh] at this; exact ⟨_, this⟩
    · rintro ⟨t, rfl⟩; simp
  · have d : ¬ (p.length : Int) ≤ (c.length : Int) := by omega
    rw [if_pos (fun hh => by simp [d] at hh)]
    simp only [d, decide_false, cond_false]
    congr 1
    cases hp : p.isPrefixOf c with
    | false => rfl
    | true =>
      obtain ⟨t, ht⟩ := List.isPrefixOf_iff_prefix.1 hp
      have := congrArg List.length ht
      simp at this; omega

theorem rbelow_loop {l : List Ent} (code : Str) (hcl : code.length ≤ 9223372036854775807) (hl : l.length ≤ 1000) (hc : ∀ e, e ∈ l → e.Code.length ≤ 1000) : loopO (refBelow_b1 code l) ((0 : Int), []) = some (l.filter (below code)) := by
  have := loop_seq (f := refBelow_b1 code l) l.length (fun i => ((i : Int), (l.take i).filter (below code))) (l.filter (below code)) (fun i hi => by
    have hfl := filter_len (below code) l i
    have hxl := hc _ (List.getElem_mem hi)
    unfold refBelow_b1 refBelow_j2
    dsimp only
    rw [if_pos (by simp only [decide_eq_true_eq]; omega), if_pos (by omega), Int.toNat_natCast, List.getElem?_eq_getElem hi, Option.bind_some, if_pos (fun _ => by omega), w64 (n := (i : Int) + 1) (by omega), filter_take _ hi, getD_get hi]
    generalize l[i] = x at hxl ⊢
    rw [refPrefix_eq _ _ (by omega)]
    have fin : ∀ c : Bool, c = below code x → (if c = true then (if (0 ≤ (i : Int)) then (some x).bind fun x6 => (if (((l.take i).filter (below code)).length + [x6].length ≤ 137438953472) then some (Sum.inl (((i : Int) + 1), ((l.take i).filter (below code) ++ [x6]))) else none) else none) else some (Sum.inl (((i : Int) + 1), (l.take i).filter (below code)))) = (some (Sum.inl (((i + 1 : Nat) : Int), (if below code x = true then (l.take i).filter (below code) ++ [x] else (l.take i).filter (below code)))) : Option ((Int × List Ent) ⊕ List Ent)) := fun c hcc => by
      rw [hcc]
      cases below code x with
      | true => rw [if_pos rfl, if_pos (by omega), Option.bind_some, if_pos (by simp; omega), if_pos rfl]; rfl
      | false => rw [if_neg (by simp), if_neg (by simp)]; rfl
    by_cases h0 : code = []
    · have e0 : (code == ([] : Str)) = true := by simpa using h0
      simp only [e0, cond_true, Bool.not_true, cond_false, Bool.and_false, Bool.false_eq_true, if_false, Option.bind_some]
      refine fin _ ?_
      unfold below
      rw [if_pos h0]
      by_cases h4 : x.Code.length = 4
      · simp [h4]
      · have : ((x.Code.length : Int) == 4) = false := by simp; omega
        rw [this]; simp [h4]
    · have e0 : (code == ([] : Str)) = false := by simpa using h0
      have hpos : 0 < code.length := List.length_pos_iff.2 h0
      simp only [e0, cond_false, Bool.not_false, cond_true, Bool.true_and]
      have hw : ((x.Code.length : Int) == IntKind.i64.wrap ((code.length : Int) + 2)) = decide (x.Code.length = code.length + 2) := by
        rw [IntKind.wrap_i64, Bool.eq_iff_iff, beq_iff_eq, decide_eq_true_eq]
        omega
      rw [hw]
      by_cases h2 : x.Code.length = code.length + 2
      · have d2 : decide (x.Code.length = code.length + 2) = true := by simpa using h2
        simp only [d2, if_true, Option.bind_some, cond_true]
        refine fin _ ?_
        unfold below Lib.hasPrefix
        rw [if_neg h0, Bool.eq_iff_iff, List.isPrefixOf_iff_prefix, decide_eq_true_eq]
        have hp : parent x.Code = x.Code.take code.length := by unfold parent; congr 1; omega
        rw [hp]
        constructor
        · rintro ⟨t, ht⟩; exact ⟨by omega, by rw [← ht]; simp⟩
        · rintro ⟨_, hh⟩; have := List.take_append_drop code.length x.Code; rw [hh] at this; exact ⟨_, this⟩
      · have d2 : decide (x.Code.length = code.length + 2) = false := by simpa using h2
        simp only [d2, Bool.false_eq_true, if_false, Option.bind_some, cond_false]
        refine fin false ?_
        unfold below
        rw [if_neg h0]
        symm
        rw [decide_eq_false_iff_not]
        rintro ⟨h3, hh⟩
        have := congrArg List.length hh
        unfold parent at this
        rw [List.length_take] at this
        omega) (by unfold refBelow_b1; dsimp only; rw [if_neg (by simp), List.take_length])
  exact this
theorem refBelow_eq {b : ApiNomenclature} (h : BB b) (hc : ∀ e, e ∈ b.Entries → e.Code.length ≤ 1000) (day : Int) {code : Str} (hcl : code.length ≤ 9223372036854775807) : refBelow b day code = some (belS b day code) := by
  unfold refBelow
  rw [refAt_eq h, Option.bind_some, rbelow_loop (l := atS b day) code hcl (atS_len h day) (fun e he => hc e (List.mem_filter.1 he).1)]; rfl

theorem sameStrings_refl (l : List Str) (hl : l.length ≤ 1000) : sameStrings l l = some true := by
  unfold sameStrings
  rw [if_neg (by simp)]
  have := loop_seq (f := sameStrings_b1 l l) l.length (fun i => (i : Int)) (.inr ()) (fun i hi => by
    unfold sameStrings_b1
    rw [if_pos (by simp only [decide_eq_true_eq]; omega), if_pos (by omega), Int.toNat_natCast, List.getElem?_eq_getElem hi, Option.bind_some, if_pos (by omega), Option.bind_some, if_neg (by simp), w64 (n := (i : Int) + 1) (by omega)]
    rfl) (by unfold sameStrings_b1; rw [if_neg (by simp)])
  rw [show ((0 : Int) = ((0 : Nat) : Int)) from rfl, this]; rfl
theorem sameEntries_refl (l : List Ent) (hl : l.length ≤ 1000) (hw : ∀ x, x ∈ l → LB x.Terms) : sameEntries l l = some true := by
  unfold sameEntries
  rw [if_neg (by simp)]
  have := loop_seq (f := sameEntries_b1 l l) l.length (fun i => (i : Int)) (.inr ()) (fun i hi => by
    have hx := hw _ (List.getElem_mem hi)
    have inner := loop_seq (f := sameEntries_b2 l l (i : Int)) l[i].Terms.length (fun k => (k : Int)) (.inr ()) (fun k hk => by
      have hxl := hx.1
      unfold sameEntries_b2
      dsimp only
      rw [if_pos (by omega), Int.toNat_natCast, Int.toNat_natCast, List.getElem?_eq_getElem hi, Option.bind_some, if_pos (by simp only [decide_eq_true_eq]; omega), if_pos (by omega), Option.bind_some, if_pos (by omega), List.getElem?_eq_getElem hk, Option.bind_some, if_pos (by omega), Option.bind_some, if_pos (by omega), List.getElem?_eq_getElem hk, Option.bind_some, sameStrings_refl _ (hx.2 _ (List.getElem_mem hk)), Option.bind_some, if_neg (by simp), w64 (n := (k : Int) + 1) (by omega)]
      rfl) (by unfold sameEntries_b2; dsimp only; rw [if_pos (by omega), Int.toNat_natCast, List.getElem?_eq_getElem hi, Option.bind_some, if_neg (by simp)])
    unfold sameEntries_b1
    dsimp only
    rw [if_pos (by simp only [decide_eq_true_eq]; omega), if_pos (by omega), Int.toNat_natCast, List.getElem?_eq_getElem hi, Option.bind_some, if_pos (by omega), Option.bind_some]
    rw [if_pos (fun _ => by omega), if_pos (fun _ => by omega), if_pos (fun _ => by omega), if_pos (fun _ => by omega), if_pos (fun _ => by omega), if_pos (fun _ => by omega), if_pos (fun _ => by omega), if_pos (fun _ => by omega), if_neg (by simp), show ((0 : Int)) = ((0 : Nat) : Int) from rfl, inner, Option.bind_some]
    show sameEntries_j2 l l (i : Int) = _
    unfold sameEntries_j2
    rw [w64 (n := (i : Int) + 1) (by omega)]; rfl) (by unfold sameEntries_b1; rw [if_neg (by simp)])
  rw [show ((0 : Int) = ((0 : Nat) : Int)) from rfl, this]; rfl

theorem NMade.BB {b : ApiNomenclature} (h : NMade b) : BB b := by
  have hl := h.len
  refine ⟨⟨by omega, fun e he => ?_⟩, by have := h.notes.1; omega, fun n hn => by have := (h.notes.2 n hn).2.2.2.1; omega⟩
  have ht := (h.mem e he).1.terms
  exact ⟨by omega, fun x hx => by have := (ht.2 x hx).2.2; omega⟩
theorem NMade.code {b : ApiNomenclature} (h : NMade b) : ∀ e, e ∈ b.Entries → 2 ≤ e.Code.length ∧ e.Code.length ≤ 8 ∧ lvl e.Code ≠ 0 := fun e he => oneE_len (h.mem e he).1.one


end Go.C
