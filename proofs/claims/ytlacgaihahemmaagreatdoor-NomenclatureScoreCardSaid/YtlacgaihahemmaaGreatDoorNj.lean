/- Plain laws of chapter 9: NomenclatureScore. No program in sight. -/
import Derived.Test.YtlacgaihahemmaaGreatDoorNh
import Derived.Test.YtlacgaihahemmaaGreatDoorGn
set_option linter.unusedVariables false
set_option linter.unusedSimpArgs false
namespace Go.C
open Go.V

theorem refHas_eq {l : List Str} (s : Str) (h : l.length ≤ 1000) : refHas l s = some (l.contains s) := by
  unfold refHas
  have step : ∀ (i : Nat) (x : Str), l[i]? = some x → refHas_b1 l s (i : Int) = if (x == s) = true then some (.inr (.inl true)) else some (.inl ((i + 1 : Nat) : Int)) := fun i x hx => by
    have hlt := lt_of_get hx
    unfold refHas_b1
    rw [if_pos (by simp only [decide_eq_true_eq]; omega), if_pos (by omega), Int.toNat_natCast, hx, Option.bind_some, w64 (n := (i : Int) + 1) (by omega)]; rfl
  have l1 := loop_list (β := Unit) l (refHas_b1 l s) (fun i _ => (i : Int)) (fun _ _ => ()) (fun i => !(l.getD i default == s)) (.inl true) (fun _ => .inr ()) (fun _ _ => True) (fun _ _ _ _ _ => trivial)
    (fun i x _ _ hx hp => by rw [getD_of hx] at hp; rw [step i x hx, if_neg (by intro hh; rw [hh] at hp; cases hp)]) (fun i x _ _ hx hp => by rw [getD_of hx] at hp; rw [step i x hx, if_pos (by simpa using hp)]) (fun _ _ => by unfold refHas_b1; rw [if_neg (by simp)]) () trivial
  rw [show ((0 : Int)) = ((0 : Nat) : Int) from rfl, l1, range_all (fun x => !(x == s))]
  have e : (l.all fun x => !(x == s)) = !l.contains s := by
    rw [← List.not_any_eq_all_not]
    congr 1
    rw [Bool.eq_iff_iff, List.any_eq_true, List.contains_iff_mem]
    constructor
    · rintro ⟨x, hx, he⟩; rw [← beq_iff_eq.1 he]; exact hx
    · intro hx; exact ⟨s, hx, by simp⟩
  rw [e]
  cases l.contains s <;> rfl
theorem refSubset_eq {a b : List Str} (ha : a.length ≤ 1000) (hb : b.length ≤ 1000) : refSubset a b = some (subS a b) := by
  unfold refSubset
  have step : ∀ (i : Nat) (x : Str), a[i]? = some x → refSubset_b1 a b (i : Int) = if (!b.contains x) = true then some (.inr (.inl false)) else some (.inl ((i + 1 : Nat) : Int)) := fun i x hx => by
    have hlt := lt_of_get hx
    unfold refSubset_b1
    rw [if_pos (by simp only [decide_eq_true_eq]; omega), if_pos (by omega), Int.toNat_natCast, hx, Option.bind_some, refHas_eq x hb, Option.bind_some, w64 (n := (i : Int) + 1) (by omega)]; rfl
  have l1 := loop_list (β := Unit) a (refSubset_b1 a b) (fun i _ => (i : Int)) (fun _ _ => ()) (fun i => b.contains (a.getD i default)) (.inl false) (fun _ => .inr ()) (fun _ _ => True) (fun _ _ _ _ _ => trivial)
    (fun i x _ _ hx hp => by rw [getD_of hx] at hp; rw [step i x hx, hp]; rfl) (fun i x _ _ hx hp => by rw [getD_of hx] at hp; rw [step i x hx, hp]; rfl) (fun _ _ => by unfold refSubset_b1; rw [if_neg (by simp)]) () trivial
  rw [show ((0 : Int)) = ((0 : Nat) : Int) from rfl, l1, range_all (fun x => b.contains x)]
  unfold subS
  cases (a.all fun x => b.contains x) <;> rfl
theorem refExcluded_eq {b : ApiNomenclature} (h : BB b) {code : Str} (hc : code.length ≤ 9223372036854775807) {words : List Str} (hw : words.length ≤ 1000) : refExcluded b code words = some (exS b code words) := by
  unfold refExcluded
  have hl := h.notes.1
  have step : ∀ (i : Nat) (x : ApiCodeNote), b.Notes[i]? = some x → refExcluded_b1 b code words (i : Int) = if (Lib.hasPrefix code x.Scope && subS x.Words words) = true then some (.inr (.inl true)) else some (.inl ((i + 1 : Nat) : Int)) := fun i x hx => by
    have hlt := lt_of_get hx
    have hxl := h.notes.2 x (List.mem_of_getElem? hx)
    unfold refExcluded_b1
    rw [if_pos (by simp only [decide_eq_true_eq]; omega), if_pos (by omega), Int.toNat_natCast, hx, Option.bind_some, refPrefix_eq _ _ hc, Option.bind_some, if_pos (fun _ => by omega), w64 (n := (i : Int) + 1) (by omega), getD_of hx, refSubset_eq hxl hw]
    cases Lib.hasPrefix code x.Scope <;> cases subS x.Words words <;> rfl
  have l1 := loop_list (β := Unit) b.Notes (refExcluded_b1 b code words) (fun i _ => (i : Int)) (fun _ _ => ()) (fun i => !(Lib.hasPrefix code (b.Notes.getD i default).Scope && subS (b.Notes.getD i default).Words words)) (.inl true) (fun _ => .inr ()) (fun _ _ => True) (fun _ _ _ _ _ => trivial)
    (fun i x _ _ hx hp => by rw [getD_of hx] at hp; rw [step i x hx, if_neg (by intro hh; rw [hh] at hp; cases hp)]) (fun i x _ _ hx hp => by rw [getD_of hx] at hp; rw [step i x hx, if_pos (by simpa using hp)]) (fun _ _ => by unfold refExcluded_b1; rw [if_neg (by simp)]) () trivial
  rw [show ((0 : Int)) = ((0 : Nat) : Int) from rfl, l1, range_all (fun n : ApiCodeNote => !(Lib.hasPrefix code n.Scope && subS n.Words words))]
  unfold exS refExcluded_j1
  rw [← List.not_any_eq_all_not]
  cases (b.Notes.any fun n => Lib.hasPrefix code n.Scope && subS n.Words words) <;> rfl
theorem refAlts_eq {b : ApiNomenclature} (h : BB b) {e : Ent} (he : LB e.Terms) : refAlts b e = some (altS b e) := by
  unfold refAlts altS
  have hl := h.notes.1
  have ht := he.1
  rw [if_pos (by omega)]
  have := loop_seq (f := refAlts_b1 b e) b.Notes.length (fun i => ((i : Int), e.Terms ++ ((b.Notes.take i).filter fun n => n.Target == e.Code).map (·.Words))) (e.Terms ++ (b.Notes.filter fun n => n.Target == e.Code).map (·.Words)) (fun i hi => by
    have hfl := filter_len (fun n => n.Target == e.Code) b.Notes i
    unfold refAlts_b1 refAlts_j2
    dsimp only
    rw [if_pos (by simp only [decide_eq_true_eq]; omega), if_pos (by omega), Int.toNat_natCast, List.getElem?_eq_getElem hi, Option.bind_some, w64 (n := (i : Int) + 1) (by omega), filter_take _ hi]
    cases hc : (b.Notes[i].Target == e.Code) with
    | true => rw [if_pos rfl, if_pos (by omega), Option.bind_some, if_pos (by simp only [List.length_append, List.length_map, List.length_cons, List.length_nil]; omega), if_pos rfl, List.map_append, ← List.append_assoc]; rfl
    | false => rw [if_neg (by simp), if_neg (by simp)]; rfl) (by unfold refAlts_b1; dsimp only; rw [if_neg (by simp), List.take_length])
  have e0 : ((0 : Int), e.Terms) = (((0 : Nat) : Int), e.Terms ++ ((b.Notes.take 0).filter fun n => n.Target == e.Code).map (·.Words)) := by simp
  rw [e0, this]; rfl
theorem refScore_eq {b : ApiNomenclature} (h : BB b) {e : Ent} (he : LB e.Terms) (hc : e.Code.length ≤ 9223372036854775807) {words : List Str} (hw : words.length ≤ 1000) : refScore b e words = some (scS b e words) := by
  unfold refScore scS
  rw [refExcluded_eq h hc hw, Option.bind_some]
  cases exS b e.Code words with
  | true => rfl
  | false =>
    simp only [Bool.false_eq_true, if_false]
    obtain ⟨a1, a2⟩ := altS_LB h he
    rw [refAlts_eq h he, Option.bind_some]
    have := loop_fold (β := Int) (altS b e) (refScore_b1 words (altS b e)) (fun i n => ((i : Int), n)) (fun n a => scF words n a) (fun n => n) (fun _ _ => True) (fun _ _ _ _ _ => trivial) (fun i x n _ hx => by
      have hlt := lt_of_get hx
      unfold refScore_b1 refScore_j2 scF
      dsimp only
      rw [if_pos (by simp only [decide_eq_true_eq]; omega), if_pos (by omega), Int.toNat_natCast, hx, Option.bind_some, w64 (n := (i : Int) + 1) (by omega), refSubset_eq (a2 x (List.mem_of_getElem? hx)) hw, Option.bind_some]
      cases hs : subS x words with
      | true =>
        rw [if_pos rfl, if_pos (by omega), Option.bind_some]
        by_cases hcc : n < (x.length : Int)
        · rw [if_pos hcc, if_pos ⟨hcc, rfl⟩]; rfl
        · rw [if_neg (by omega), if_neg (fun hh => hcc hh.1)]; rfl
      | false => rw [if_neg (by simp), if_neg (by simp)]; rfl) (fun n _ => by unfold refScore_b1; dsimp only; rw [if_neg (by simp)]) 0 trivial
    rw [show ((0 : Int), (0 : Int)) = (((0 : Nat) : Int), (0 : Int)) from rfl, this]; rfl

theorem refWith_ok {l : List Str} (s : Str) (hl : l.length ≤ 1000) : ∃ r, refWith l s = some r ∧ (∀ x, x ∈ r ↔ x ∈ l ∨ x = s) ∧ r.length ≤ l.length + 1 := by
  unfold refWith
  obtain ⟨k, e, m, rfl, hm⟩ := loop_inv (f := refWith_b1 l s) (fun q x => ∃ k : Nat, q = l.length - k ∧ k ≤ l.length ∧ x = (k : Int)) (fun r => ∃ k : Nat, r = (k : Int) ∧ k ≤ l.length) (by
    rintro q x ⟨k, rfl, hk, rfl⟩
    unfold refWith_b1
    rw [if_pos (fun hh => by simp at hh; omega)]
    by_cases hlt : k < l.length
    · have d : (k : Int) < (l.length : Int) := by omega
      simp only [d, decide_true, cond_true, Int.toNat_natCast]
      split
      · refine .inl ⟨_, l.length - (k + 1), by omega, rfl, k + 1, rfl, by omega, ?_⟩
        rw [w64 (n := (k : Int) + 1) (by omega)]; rfl
      · exact .inr ⟨_, rfl, k, rfl, hk⟩
    · have d : ¬ (k : Int) < (l.length : Int) := by omega
      rw [if_neg (by simp [d])]
      exact .inr ⟨_, rfl, k, rfl, hk⟩) l.length (0 : Int) ⟨0, by simp, by omega, rfl⟩
  rw [e, Option.bind_some]
  show ∃ r, refWith_j1 l s (m : Int) = some r ∧ _
  unfold refWith_j1
  rw [if_pos (fun hh => by simp at hh; omega), Int.toNat_natCast]
  by_cases hc : (bif (decide ((m : Int) < (l.length : Int))) then ((l.getD m default) == s) else false) = true
  · rw [if_pos hc]
    have hlt : m < l.length := by
      by_cases d : (m : Int) < (l.length : Int)
      · omega
      · simp [d] at hc
    have d : (m : Int) < (l.length : Int) := by omega
    simp only [d, decide_true, cond_true] at hc
    refine ⟨l, rfl, fun x => ⟨.inl, fun hx => ?_⟩, by omega⟩
    rcases hx with hx | hx
    · exact hx
    · rw [hx, ← beq_iff_eq.1 hc, getD_get hlt]; exact List.getElem_mem hlt
  · rw [if_neg hc, if_pos (by omega)]
    have tl : ((l.take m).drop (0 : Int).toNat).length ≤ 1000 := by simp; omega
    have dl : (l.drop m).length ≤ 1000 := by simp; omega
    rw [if_pos (by omega), if_pos (by simp only [List.length_cons, List.length_nil]; omega), if_pos (by omega), if_pos (by simp only [List.length_append, List.length_cons, List.length_nil]; omega)]
    refine ⟨_, rfl, fun x => ?_, ?_⟩
    · show x ∈ (l.take m ++ [s]) ++ l.drop m ↔ _
      have hx : x ∈ l ↔ x ∈ l.take m ∨ x ∈ l.drop m := by rw [← List.mem_append, List.take_append_drop]
      rw [List.mem_append, List.mem_append, List.mem_singleton, hx]
      constructor
      · rintro ((h | h) | h)
        · exact .inl (.inl h)
        · exact .inr h
        · exact .inl (.inr h)
      · rintro ((h | h) | h)
        · exact .inl (.inl h)
        · exact .inr h
        · exact .inl (.inr h)
    · show ((l.take m ++ [s]) ++ l.drop m).length ≤ _
      simp; omega
theorem refUnion_ok {a b : List Str} (ha : a.length ≤ 100) (hb : b.length ≤ 100) : ∃ r, refUnion a b = some r ∧ (∀ x, x ∈ r ↔ x ∈ a ∨ x ∈ b) ∧ r.length ≤ a.length + b.length := by
  unfold refUnion
  obtain ⟨r1, e1, h1, h2⟩ := loop_all a (refUnion_b2 a b) (fun i (q : List Str) => ((i : Int), q)) (fun i q => (∀ x, x ∈ q ↔ x ∈ a.take i) ∧ q.length ≤ i) (fun r => (∀ x, x ∈ r ↔ x ∈ a) ∧ r.length ≤ a.length) (fun i x q hx hq => by
    have hlt := lt_of_get hx
    obtain ⟨r, er, hr, hrl⟩ := refWith_ok (l := q) x (by omega)
    refine .inl ⟨r, ?_, fun y => ?_, by omega⟩
    · unfold refUnion_b2
      dsimp only
      rw [if_pos (by simp only [decide_eq_true_eq]; omega), if_pos (by omega), Int.toNat_natCast, hx, Option.bind_some, er, Option.bind_some, w64 (n := (i : Int) + 1) (by omega)]; rfl
    · rw [hr, hq.1, List.take_add_one, hx]; simp) (fun q hq => ⟨q, by unfold refUnion_b2; dsimp only; rw [if_neg (by simp)], fun x => by rw [hq.1, List.take_length], hq.2⟩) [] (by simp)
  rw [show ((0 : Int), ([] : List Str)) = (((0 : Nat) : Int), ([] : List Str)) from rfl, e1, Option.bind_some]
  show ∃ r, refUnion_j1 b r1 = some r ∧ _
  unfold refUnion_j1
  obtain ⟨r2, e2, h3, h4⟩ := loop_all b (refUnion_b1 b) (fun i (q : List Str) => ((i : Int), q)) (fun i q => (∀ x, x ∈ q ↔ x ∈ a ∨ x ∈ b.take i) ∧ q.length ≤ a.length + i) (fun r => (∀ x, x ∈ r ↔ x ∈ a ∨ x ∈ b) ∧ r.length ≤ a.length + b.length) (fun i x q hx hq => by
    have hlt := lt_of_get hx
    obtain ⟨r, er, hr, hrl⟩ := refWith_ok (l := q) x (by omega)
    refine .inl ⟨r, ?_, fun y => ?_, by omega⟩
    · unfold refUnion_b1
      dsimp only
      rw [if_pos (by simp only [decide_eq_true_eq]; omega), if_pos (by omega), Int.toNat_natCast, hx, Option.bind_some, er, Option.bind_some, w64 (n := (i : Int) + 1) (by omega)]; rfl
    · rw [hr, hq.1, List.take_add_one, hx]; simp [or_assoc]) (fun q hq => ⟨q, by unfold refUnion_b1; dsimp only; rw [if_neg (by simp)], fun x => by rw [hq.1, List.take_length], hq.2⟩) r1 (by simp only [List.take_zero, List.not_mem_nil, or_false]; exact ⟨h1, by omega⟩)
  rw [show ((0 : Int), r1) = (((0 : Nat) : Int), r1) from rfl, e2, Option.bind_some]
  exact ⟨_, rfl, h3, h4⟩

theorem subS_mono {a w u : List Str} (h : ∀ x, x ∈ w → x ∈ u) (hs : subS a w = true) : subS a u = true := by
  unfold subS at *
  rw [List.all_eq_true] at *
  intro x hx
  exact List.contains_iff_mem.2 (h x (List.contains_iff_mem.1 (hs x hx)))
theorem exS_mono {b : ApiNomenclature} {c : Str} {w u : List Str} (h : ∀ x, x ∈ w → x ∈ u) (hs : exS b c w = true) : exS b c u = true := by
  unfold exS at *
  rw [List.any_eq_true] at *
  obtain ⟨n, hn, h1⟩ := hs
  simp only [Bool.and_eq_true] at h1
  exact ⟨n, hn, by simp [h1.1, subS_mono h h1.2]⟩
theorem scF_mono {w u : List Str} (h : ∀ x, x ∈ w → x ∈ u) {n m : Int} (hnm : n ≤ m) (a : List Str) : scF w n a ≤ scF u m a := by
  unfold scF
  by_cases h1 : n < (a.length : Int) ∧ subS a w = true
  · rw [if_pos h1]
    have := subS_mono h h1.2
    by_cases h2 : m < (a.length : Int)
    · rw [if_pos ⟨h2, this⟩]; exact Int.le_refl _
    · rw [if_neg (fun hh => h2 hh.1)]; omega
  · rw [if_neg h1]
    split
    · omega
    · exact hnm
theorem fold_mono {w u : List Str} (h : ∀ x, x ∈ w → x ∈ u) : ∀ (l : List (List Str)) {n m : Int}, n ≤ m → l.foldl (scF w) n ≤ l.foldl (scF u) m
  | [], _, _, hnm => hnm
  | a :: l, _, _, hnm => fold_mono h l (scF_mono h hnm a)
theorem scS_mono {b : ApiNomenclature} {e : Ent} {w u : List Str} (h : ∀ x, x ∈ w → x ∈ u) (hx : exS b e.Code u = false) : scS b e w ≤ scS b e u := by
  have hw : exS b e.Code w = false := by
    rw [Bool.eq_false_iff]
    intro hh
    rw [exS_mono h hh] at hx; cases hx
  unfold scS
  rw [hw, hx]
  exact fold_mono h _ (Int.le_refl _)

theorem lawScore_true {l m : List Int} {at_ : Int} {more : Bool} (hl : l.length ≤ 9223372036854775807 ∧ ∀ x, x ∈ l → okI_i64 x) (hm : m.length ≤ 9223372036854775807 ∧ ∀ x, x ∈ m → okI_i64 x) (ha : okI_i64 at_) : lawScore l m at_ more = some true := by
  unfold lawScore
  obtain ⟨b, e1, hb⟩ := madeNom_ok l
  obtain ⟨g, e2, hg⟩ := madeGood_ok m
  have hlen := hb.len
  have hBB := hb.BB
  have hwl := hg.words.2.2
  rw [e1, Option.bind_some, e2, Option.bind_some]
  have hpos : (0 : Int) < (b.Entries.length : Int) := by omega
  have m1 := Int.emod_nonneg at_ (by omega : (b.Entries.length : Int) ≠ 0)
  have m2 := Int.emod_lt_of_pos at_ hpos
  have hk : (at_ % (b.Entries.length : Int)).toNat < b.Entries.length := by omega
  rw [within_eq hpos (by omega), Option.bind_some, if_pos m1, List.getElem?_eq_getElem hk, Option.bind_some]
  have hx := List.getElem_mem hk
  generalize b.Entries[(at_ % (b.Entries.length : Int)).toNat] = x at hx
  have hLB := hBB.ents.2 x hx
  have hcl := (hb.code x hx).2.1
  obtain ⟨a1, a2⟩ := altS_LB hBB hLB
  rw [nomAlts_eq hBB hLB, Option.bind_some, refAlts_eq hBB hLB, Option.bind_some, if_pos (by simp), nomExcluded_eq hBB _ (by omega), Option.bind_some, if_pos (by simp), refExcluded_eq hBB (by omega) (by omega), Option.bind_some, if_pos (by simp), nomScore_eq hBB hLB (by omega), Option.bind_some, if_pos (by simp), refScore_eq hBB hLB (by omega) (by omega), Option.bind_some, if_neg (by simp)]
  have l1 := loop_seq (f := lawScore_b1 more b g x (altS b x) (altS b x)) (altS b x).length (fun i => (i : Int)) (.inr ()) (fun i hi => by
    unfold lawScore_b1
    rw [if_pos (by simp only [decide_eq_true_eq]; omega), if_pos (by omega), Int.toNat_natCast, List.getElem?_eq_getElem hi, Option.bind_some, if_pos (by omega), Option.bind_some, sameStrings_refl _ (a2 _ (List.getElem_mem hi)), Option.bind_some, if_neg (by simp), w64 (n := (i : Int) + 1) (by omega)]
    rfl) (by unfold lawScore_b1; rw [if_neg (by simp)])
  rw [show ((0 : Int)) = ((0 : Nat) : Int) from rfl, l1, Option.bind_some]
  show lawScore_j1 more b g x = some true
  unfold lawScore_j1
  obtain ⟨u, e3, hu, hul⟩ := refUnion_ok (a := g.Words) (b := [([99, 104, 97, 105, 114] : Str), ([100, 101, 115, 107] : Str)]) (by omega) (by simp)
  simp only [List.length_cons, List.length_nil] at hul
  have hsub : ∀ y, y ∈ g.Words → y ∈ u := fun y hy => (hu y).2 (.inl hy)
  rw [e3, Option.bind_some, nomExcluded_eq hBB x.Code (words := u) (by omega), nomExcluded_eq hBB x.Code (words := g.Words) (by omega), nomScore_eq hBB hLB (words := u) (by omega), nomScore_eq hBB hLB (words := g.Words) (by omega)]
  have mono := @exS_mono b x.Code g.Words u hsub
  have smono := @scS_mono b x g.Words u hsub
  cases more with
  | false =>
    simp only [Bool.false_eq_true, if_false, Option.bind_some, cond_false]
    cases hw : exS b x.Code g.Words with
    | false => simp [awake_true]
    | true => rw [mono hw]; simp [awake_true]
  | true =>
    simp only [if_true, Option.bind_some, cond_true]
    cases hue : exS b x.Code u with
    | true =>
      simp only [Bool.not_true, Bool.false_eq_true, if_false, Option.bind_some, cond_false]
      cases hw : exS b x.Code g.Words <;> simp [awake_true]
    | false =>
      have hs := smono hue
      have hwf : exS b x.Code g.Words = false := by
        rw [Bool.eq_false_iff]; intro hh; rw [mono hh] at hue; cases hue
      have hlt : ¬ scS b x u < scS b x g.Words := by omega
      simp [hwf, hlt, awake_true]

end Go.C
