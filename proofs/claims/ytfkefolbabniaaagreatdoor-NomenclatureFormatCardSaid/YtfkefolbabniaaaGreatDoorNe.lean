/- Plain laws of chapter 9: what is valid on a day, what is excluded, scores. No program in sight. -/
import Derived.Test.YtfkefolbabniaaaGreatDoorNd
import Derived.Test.YtfkefolbabniaaaGreatDoorPc
set_option linter.unusedVariables false
set_option linter.unusedSimpArgs false
namespace Go.C
open Go.V

/-- Lists of words that are not too long. -/
def LB (l : List (List Str)) : Prop := l.length ≤ 1000 ∧ ∀ x, x ∈ l → x.length ≤ 1000
/-- A book that is not too long. -/
structure BB (b : ApiNomenclature) : Prop where
  ents : b.Entries.length ≤ 1000 ∧ ∀ e, e ∈ b.Entries → LB e.Terms
  notes : b.Notes.length ≤ 1000 ∧ ∀ n, n ∈ b.Notes → n.Words.length ≤ 1000

theorem cloneWords_eq {l : List (List Str)} (h : LB l) : cloneWords l = some l := by
  unfold cloneWords
  have := loop_seq (f := cloneWords_b1 l) l.length (fun i => ((i : Int), l.take i)) l (fun i hi => by
    have hl := h.1
    have hx := h.2 _ (List.getElem_mem hi)
    unfold cloneWords_b1 cloneS
    dsimp only
    rw [if_pos (by simp only [decide_eq_true_eq]; omega), if_pos (by omega), Int.toNat_natCast, List.getElem?_eq_getElem hi, Option.bind_some, if_pos (by omega), Option.bind_some, if_pos (by simp; omega), w64 (n := (i : Int) + 1) (by omega), List.take_add_one, List.getElem?_eq_getElem hi]
    rfl) (by unfold cloneWords_b1; dsimp only; rw [if_neg (by simp), List.take_length])
  rw [show ((0 : Int), ([] : List (List Str))) = (((0 : Nat) : Int), l.take 0) from rfl, this]; rfl

theorem filter_take {α : Type} (p : α → Bool) {l : List α} {i : Nat} (h : i < l.length) : (l.take (i + 1)).filter p = if p l[i] = true then (l.take i).filter p ++ [l[i]] else (l.take i).filter p := by
  rw [List.take_add_one, List.getElem?_eq_getElem h, List.filter_append]
  show (l.take i).filter p ++ List.filter p [l[i]] = _
  rw [List.filter_cons]
  split <;> simp
theorem filter_len {α : Type} (p : α → Bool) (l : List α) (i : Nat) : ((l.take i).filter p).length ≤ l.length := Nat.le_trans (List.length_filter_le _ _) (by rw [List.length_take]; omega)

def onDay (day : Int) (e : Ent) : Bool := decide (e.From ≤ day) && decide (day < e.To)
def atS (b : ApiNomenclature) (day : Int) : List Ent := b.Entries.filter (onDay day)
theorem nomAt_eq {b : ApiNomenclature} (h : BB b) (day : Int) : nomAt b day = some (atS b day) := by
  unfold nomAt atS
  have := loop_seq (f := nomAt_b1 b day) b.Entries.length (fun i => ((i : Int), (b.Entries.take i).filter (onDay day))) (b.Entries.filter (onDay day)) (fun i hi => by
    have hl := h.ents.1
    have hx := h.ents.2 _ (List.getElem_mem hi)
    have hfl := filter_len (onDay day) b.Entries i
    unfold nomAt_b1 nomAt_j2
    dsimp only
    rw [if_pos (by simp only [decide_eq_true_eq]; omega), if_pos (by omega), Int.toNat_natCast, List.getElem?_eq_getElem hi, Option.bind_some, cloneWords_eq hx, Option.bind_some, w64 (n := (i : Int) + 1) (by omega), filter_take _ hi]
    have e : (bif (decide (b.Entries[i].From ≤ day)) then (decide (day < b.Entries[i].To)) else false) = onDay day b.Entries[i] := by unfold onDay; cases decide (b.Entries[i].From ≤ day) <;> rfl
    rw [e]
    cases onDay day b.Entries[i] with
    | true => rw [if_pos rfl, if_pos (by simp; omega), if_pos rfl]; rfl
    | false => rw [if_neg (by simp), if_neg (by simp)]; rfl) (by unfold nomAt_b1; dsimp only; rw [if_neg (by simp), List.take_length])
  rw [show ((0 : Int), ([] : List Ent)) = (((0 : Nat) : Int), (b.Entries.take 0).filter (onDay day)) from rfl, this]; rfl

def below (code : Str) (e : Ent) : Bool := if code = [] then decide (e.Code.length = 4) else decide (2 < e.Code.length ∧ parent e.Code = code)
def belS (b : ApiNomenclature) (day : Int) (code : Str) : List Ent := (atS b day).filter (below code)
theorem below_loop {l : List Ent} (code : Str) (hl : l.length ≤ 1000) (hc : ∀ e, e ∈ l → e.Code.length ≤ 9223372036854775807) : loopO (nomBelow_b1 code l) ((0 : Int), []) = some (l.filter (below code)) := by
  have := loop_seq (f := nomBelow_b1 code l) l.length (fun i => ((i : Int), (l.take i).filter (below code))) (l.filter (below code)) (fun i hi => by
    have hfl := filter_len (below code) l i
    have hcl := hc _ (List.getElem_mem hi)
    unfold nomBelow_b1 nomBelow_j2
    dsimp only
    rw [if_pos (by simp only [decide_eq_true_eq]; omega), if_pos (by omega), Int.toNat_natCast, List.getElem?_eq_getElem hi, Option.bind_some, w64 (n := (i : Int) + 1) (by omega), filter_take _ hi]
    generalize l[i] = x at hcl ⊢
    by_cases h0 : code = []
    · have e0 : (code == ([] : Str)) = true := by simpa using h0
      simp only [e0, cond_true, Bool.not_true, cond_false, Bool.and_false, Bool.false_eq_true, false_implies, if_true]
      have e1 : (bif ((x.Code.length : Int) == (4 : Int)) then true else false) = below code x := by
        unfold below
        rw [if_pos h0]
        by_cases h4 : x.Code.length = 4
        · simp [h4]
        · have : ((x.Code.length : Int) == 4) = false := by simp; omega
          rw [this]; simp [h4]
      rw [e1]
      cases below code x with
      | true => rw [if_pos rfl, if_pos (by simp; omega), if_pos rfl]; rfl
      | false => rw [if_neg (by simp), if_neg (by simp)]; rfl
    · have e0 : (code == ([] : Str)) = false := by simpa using h0
      simp only [e0, cond_false, Bool.not_false, cond_true, Bool.true_and]
      by_cases h2 : 2 < x.Code.length
      · have d2 : (2 : Int) < (x.Code.length : Int) := by omega
        have hw : IntKind.i64.wrap ((x.Code.length : Int) - 2) = ((x.Code.length - 2 : Nat) : Int) := by rw [w64 (by omega)]; omega
        simp only [d2, decide_true, cond_true, hw]
        rw [if_pos (fun _ => by omega), Int.toNat_natCast]
        have e1 : (((x.Code.take (x.Code.length - 2)).drop (0 : Int).toNat) == code) = below code x := by
          unfold below
          rw [if_neg h0]
          show (parent x.Code == code) = _
          by_cases hp : parent x.Code = code
          · simp [hp, h2]
          · simp [hp]
        rw [e1]
        cases below code x with
        | true => rw [if_pos rfl, if_pos (by simp; omega), if_pos rfl]; rfl
        | false => rw [if_neg (by simp), if_neg (by simp)]; rfl
      · have d2 : ¬ (2 : Int) < (x.Code.length : Int) := by omega
        simp only [d2, decide_false, cond_false, Bool.false_eq_true, false_implies, if_true, if_false]
        have e1 : below code x = false := by unfold below; rw [if_neg h0]; simp; omega
        rw [e1, if_neg (by simp)]; rfl) (by unfold nomBelow_b1; dsimp only; rw [if_neg (by simp), List.take_length])
  exact this
theorem nomBelow_eq {b : ApiNomenclature} (h : BB b) (hc : ∀ e, e ∈ b.Entries → e.Code.length ≤ 9223372036854775807) (day : Int) (code : Str) : nomBelow b day code = some (belS b day code) := by
  unfold nomBelow
  rw [nomAt_eq h, Option.bind_some, below_loop (l := atS b day) code (Nat.le_trans (List.length_filter_le _ _) h.ents.1) (fun e he => hc e ((List.mem_filter.1 he).1))]; rfl

/-! ### Sets of words -/
def subS (a b : List Str) : Bool := a.all fun x => b.contains x
theorem sIndex_eq {s : List Str} (v : Str) (h : s.length ≤ 1000) : ∃ n, sIndex s v = some n ∧ (decide ((0 : Int) ≤ n) = s.contains v) := by
  unfold sIndex
  obtain ⟨r, e, hr⟩ := loop_all s (sIndex_b1 s v) (fun i (_ : Unit) => (i : Int)) (fun i _ => ∀ j, j < i → s.getD j default ≠ v) (fun r => match r with | .inl n => 0 ≤ n ∧ s.contains v = true | .inr _ => s.contains v = false) (fun i x b hx hI => by
    have hlt := lt_of_get hx
    unfold sIndex_b1
    rw [if_pos (by simp only [decide_eq_true_eq]; omega), if_pos (by omega), Int.toNat_natCast, hx, Option.bind_some, w64 (n := (i : Int) + 1) (by omega)]
    by_cases hv : v = x
    · refine .inr ⟨_, if_pos (by simpa using hv), Int.natCast_nonneg _, ?_⟩
      rw [List.contains_iff_mem, hv]; exact List.mem_of_getElem? hx
    · refine .inl ⟨(), by rw [if_neg (by simpa using hv)]; rfl, fun j hj => ?_⟩
      by_cases e : j = i
      · subst e; rw [getD_of hx]; exact fun h => hv h.symm
      · exact hI j (by omega))
    (fun b hI => ⟨.inr (), by unfold sIndex_b1; rw [if_neg (by simp)], by
      rw [Bool.eq_false_iff]
      intro hc
      have hm := List.contains_iff_mem.1 hc
      obtain ⟨j, hj, he⟩ := List.getElem_of_mem hm
      exact hI j hj (by rw [getD_get hj]; exact he)⟩) () (fun j hj => by omega)
  rw [show ((0 : Int)) = ((0 : Nat) : Int) from rfl, e, Option.bind_some]
  cases r with
  | inl n => exact ⟨n, rfl, by rw [hr.2]; simpa using hr.1⟩
  | inr _ => exact ⟨-1, rfl, by rw [hr]; decide⟩
theorem memberIn_eq {l : List Str} (v : Str) (h : l.length ≤ 1000) : memberIn v l = some (l.contains v) := by
  obtain ⟨n, e, hn⟩ := sIndex_eq v h
  unfold memberIn sContains
  rw [e, Option.bind_some, Option.bind_some, hn]
theorem subset_eq {a b : List Str} (ha : a.length ≤ 1000) (hb : b.length ≤ 50) : subset a b = some (subS a b) := by
  unfold subset member
  rw [if_pos (by simp only [decide_eq_true_eq]; omega), Option.bind_some]
  have step : ∀ (i : Nat) (x : Str), a[i]? = some x → subset_b1 a b (i : Int) = if (!b.contains x) = true then some (.inr (.inl false)) else some (.inl ((i + 1 : Nat) : Int)) := fun i x hx => by
    have hlt := lt_of_get hx
    unfold subset_b1
    rw [if_pos (by simp only [decide_eq_true_eq]; omega), if_pos (by omega), Int.toNat_natCast, hx, Option.bind_some, memberIn_eq x (by omega), Option.bind_some, w64 (n := (i : Int) + 1) (by omega)]; rfl
  have l1 := loop_list (β := Unit) a (subset_b1 a b) (fun i _ => (i : Int)) (fun _ _ => ()) (fun i => b.contains (a.getD i default)) (.inl false) (fun _ => .inr ()) (fun _ _ => True) (fun _ _ _ _ _ => trivial)
    (fun i x _ _ hx hp => by rw [getD_of hx] at hp; rw [step i x hx, hp]; rfl) (fun i x _ _ hx hp => by rw [getD_of hx] at hp; rw [step i x hx, hp]; rfl) (fun _ _ => by unfold subset_b1; rw [if_neg (by simp)]) () trivial
  rw [show ((0 : Int)) = ((0 : Nat) : Int) from rfl, l1, range_all (fun x => b.contains x)]
  unfold subS
  cases (a.all fun x => b.contains x) <;> rfl

def exS (b : ApiNomenclature) (code : Str) (words : List Str) : Bool := b.Notes.any fun n => Lib.hasPrefix code n.Scope && subS n.Words words
theorem nomExcluded_eq {b : ApiNomenclature} (h : BB b) (code : Str) {words : List Str} (hw : words.length ≤ 50) : nomExcluded b code words = some (exS b code words) := by
  unfold nomExcluded
  have hl := h.notes.1
  have step : ∀ (i : Nat) (x : ApiCodeNote), b.Notes[i]? = some x → nomExcluded_b1 b code words (i : Int) = if (Lib.hasPrefix code x.Scope && subS x.Words words) = true then some (.inr (.inl true)) else some (.inl ((i + 1 : Nat) : Int)) := fun i x hx => by
    have hlt := lt_of_get hx
    have hxl := h.notes.2 x (List.mem_of_getElem? hx)
    unfold nomExcluded_b1 hasPrefixS
    rw [if_pos (by simp only [decide_eq_true_eq]; omega), if_pos (by omega), Int.toNat_natCast, hx, Option.bind_some, Option.bind_some, w64 (n := (i : Int) + 1) (by omega), subset_eq hxl hw]
    cases Lib.hasPrefix code x.Scope <;> cases subS x.Words words <;> rfl
  have l1 := loop_list (β := Unit) b.Notes (nomExcluded_b1 b code words) (fun i _ => (i : Int)) (fun _ _ => ()) (fun i => !(Lib.hasPrefix code (b.Notes.getD i default).Scope && subS (b.Notes.getD i default).Words words)) (.inl true) (fun _ => .inr ()) (fun _ _ => True) (fun _ _ _ _ _ => trivial)
    (fun i x _ _ hx hp => by rw [getD_of hx] at hp; rw [step i x hx, if_neg (by intro hh; rw [hh] at hp; cases hp)]) (fun i x _ _ hx hp => by rw [getD_of hx] at hp; rw [step i x hx, if_pos (by simpa using hp)]) (fun _ _ => by unfold nomExcluded_b1; rw [if_neg (by simp)]) () trivial
  rw [show ((0 : Int)) = ((0 : Nat) : Int) from rfl, l1, range_all (fun n : ApiCodeNote => !(Lib.hasPrefix code n.Scope && subS n.Words words))]
  unfold exS nomExcluded_j1
  rw [← List.not_any_eq_all_not]
  cases (b.Notes.any fun n => Lib.hasPrefix code n.Scope && subS n.Words words) <;> rfl

def altS (b : ApiNomenclature) (e : Ent) : List (List Str) := e.Terms ++ (b.Notes.filter fun n => n.Target == e.Code).map (·.Words)
theorem nomAlts_eq {b : ApiNomenclature} (h : BB b) {e : Ent} (he : LB e.Terms) : nomAlts b e = some (altS b e) := by
  unfold nomAlts altS
  have hl := h.notes.1
  have ht := he.1
  rw [cloneWords_eq he, Option.bind_some]
  have := loop_seq (f := nomAlts_b1 b e) b.Notes.length (fun i => ((i : Int), e.Terms ++ ((b.Notes.take i).filter fun n => n.Target == e.Code).map (·.Words))) (e.Terms ++ (b.Notes.filter fun n => n.Target == e.Code).map (·.Words)) (fun i hi => by
    have hx := h.notes.2 _ (List.getElem_mem hi)
    have hfl := filter_len (fun n => n.Target == e.Code) b.Notes i
    unfold nomAlts_b1 nomAlts_j2 cloneS
    dsimp only
    rw [if_pos (by simp only [decide_eq_true_eq]; omega), if_pos (by omega), Int.toNat_natCast, List.getElem?_eq_getElem hi, Option.bind_some, w64 (n := (i : Int) + 1) (by omega), filter_take _ hi]
    cases hc : (b.Notes[i].Target == e.Code) with
    | true => rw [if_pos rfl, if_pos (by omega), Option.bind_some, if_pos (by simp only [List.length_append, List.length_map, List.length_cons, List.length_nil]; omega), if_pos rfl, List.map_append, ← List.append_assoc]; rfl
    | false => rw [if_neg (by simp), if_neg (by simp)]; rfl) (by unfold nomAlts_b1; dsimp only; rw [if_neg (by simp), List.take_length])
  have e0 : ((0 : Int), e.Terms) = (((0 : Nat) : Int), e.Terms ++ ((b.Notes.take 0).filter fun n => n.Target == e.Code).map (·.Words)) := by simp
  rw [e0, this]; rfl

def scF (words : List Str) (n : Int) (a : List Str) : Int := if n < (a.length : Int) ∧ subS a words = true then (a.length : Int) else n
def scS (b : ApiNomenclature) (e : Ent) (words : List Str) : Int := if exS b e.Code words = true then 0 else (altS b e).foldl (scF words) 0
theorem altS_LB {b : ApiNomenclature} (h : BB b) {e : Ent} (he : LB e.Terms) : (altS b e).length ≤ 2000 ∧ ∀ x, x ∈ altS b e → x.length ≤ 1000 := by
  unfold altS
  refine ⟨?_, fun x hx => ?_⟩
  · have h1 := he.1; have h2 := h.notes.1
    have h3 := List.length_filter_le (fun n : ApiCodeNote => n.Target == e.Code) b.Notes
    simp only [List.length_append, List.length_map]; omega
  · rcases List.mem_append.1 hx with hx | hx
    · exact he.2 x hx
    · obtain ⟨n, hn, rfl⟩ := List.mem_map.1 hx
      exact h.notes.2 n ((List.mem_filter.1 hn).1)
theorem nomScore_eq {b : ApiNomenclature} (h : BB b) {e : Ent} (he : LB e.Terms) {words : List Str} (hw : words.length ≤ 50) : nomScore b e words = some (scS b e words) := by
  unfold nomScore scS
  rw [nomExcluded_eq h _ hw, Option.bind_some]
  cases exS b e.Code words with
  | true => rfl
  | false =>
    simp only [Bool.false_eq_true, if_false]
    obtain ⟨a1, a2⟩ := altS_LB h he
    rw [nomAlts_eq h he, Option.bind_some]
    have := loop_fold (β := Int) (altS b e) (nomScore_b1 words (altS b e)) (fun i n => ((i : Int), n)) (fun n a => scF words n a) (fun n => n) (fun _ _ => True) (fun _ _ _ _ _ => trivial) (fun i x n _ hx => by
      have hlt := lt_of_get hx
      unfold nomScore_b1 nomScore_j2 scF
      dsimp only
      rw [if_pos (by simp only [decide_eq_true_eq]; omega), if_pos (by omega), Int.toNat_natCast, hx, Option.bind_some, w64 (n := (i : Int) + 1) (by omega), subset_eq (a2 x (List.mem_of_getElem? hx)) hw]
      by_cases hc : n < (x.length : Int)
      · rw [if_pos (by simpa using hc), Option.bind_some]
        cases hs : subS x words with
        | true => rw [if_pos (by simp [hc]), if_pos ⟨hc, rfl⟩]; rfl
        | false => rw [if_neg (by simp), if_neg (by simp)]; rfl
      · rw [if_neg (by simpa using hc), Option.bind_some, if_neg (by simp [hc]), if_neg (fun hh => hc hh.1)]; rfl) (fun n _ => by unfold nomScore_b1; dsimp only; rw [if_neg (by simp)]) 0 trivial
    rw [show ((0 : Int), (0 : Int)) = (((0 : Nat) : Int), (0 : Int)) from rfl, this]; rfl

end Go.C
