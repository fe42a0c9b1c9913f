/- Packed by pack.py. -/
import Derived.Test.YtaeplfiaahkgpaaGreatDoorQu10
import Derived.Test.YtaeplfiaahkgpaaGreatDoorQu4
import Derived.Test.YtaeplfiaahkgpaaGreatDoorQu3
import Derived.SizedLaws
noncomputable section zWd
section
set_option linter.unusedVariables false
set_option linter.unusedSimpArgs false
namespace Go.C
open Go.V
structure VB (b : YE) : Prop where
  bb : BB b
  code : ∀ e, e ∈ b.Entries → 2 ≤ e.Code.length ∧ e.Code.length ≤ 8
theorem nv_VB {b : YE} (h : nv b = 0) : VB b := by
 have hv := nv_BVal h
 have hl := nv_len h
 refine ⟨⟨⟨by omega, fun e he => (hv.ents e he).LB⟩, ⟨by omega, fun n hn => by have := (hv.notes n hn).words.2.1; omega⟩⟩, fun e he => ?_⟩
 have := oneE_len (hv.ents e he).one
 exact ⟨this.1, this.2.1⟩
def allW (g : YR) : List Str := g.Words ++ g.Materials.map (·.Name) ++ (g.Parts.map (·.Words)).flatten
def likS (b : YE) (e : Ent) (g : YR) : Int := if exS b e.Code g.Words = true then 0 else mxL (fun a => comS a (allW g)) (altS b e)
theorem flatW_len {l : List YI} {k : Nat} (h : ∀ p, p ∈ l → p.Words.length ≤ k) : ((l.map (·.Words)).flatten).length ≤ k * l.length := by
 induction l with
 | nil => simp
 | cons p l ih =>
  have h1 := ih (fun q hq => h q (List.mem_cons_of_mem _ hq))
  have h2 := h p (by simp)
  simp only [List.map_cons, List.flatten_cons, List.length_append, List.length_cons]
  rw [Nat.mul_add]; omega
theorem flatW_take {l : List YI} (h : ∀ p, p ∈ l → p.Words.length ≤ 8) (i : Nat) : (((l.take i).map (·.Words)).flatten).length ≤ 8 * l.length := by
 have h1 := flatW_len (l := l.take i) (k := 8) (fun p hp => h p (List.mem_of_mem_take hp))
 rw [List.length_take] at h1
 omega
theorem allW_len {g : YR} (h : GB g) : (allW g).length ≤ 64 := by
 have h1 := flatW_len h.parts.2; have h2 := h.words; have h3 := h.mats; have h4 := h.parts.1
 unfold allW
 simp only [List.length_append, List.length_map]; omega
theorem likeness_eq {b : YE} (hb : BB b) {e : Ent} (he : LB e.Terms) {g : YR} (hg : GB g) : likeness b e g = some (likS b e g) := by
 have g1 := hg.words; have g2 := hg.mats; have g3 := hg.parts.1
 have hal := allW_len hg
 unfold likeness likS
 rw [nomExcluded_eq hb _ (by omega), obs]
 cases hx : exS b e.Code g.Words with
 | true => rw [if_pos rfl, if_pos rfl]
 | false =>
  rw [if_neg (by simp), if_neg (by simp)]
  unfold cloneR
  rw [if_pos (by omega), obs]
  have h1 := loop_seq (f := likeness_b3 b e g) g.Materials.length (fun i => ((i : Int), g.Words ++ (g.Materials.take i).map (·.Name))) (g.Words ++ g.Materials.map (·.Name)) (fun i hi => by
   unfold likeness_b3
   dsimp only
   rw [if_pos (decide_eq_true (by omega)), if_pos (by omega), itn, geq hi, obs, if_pos (by simp only [List.length_append, List.length_map, List.length_take, List.length_cons, List.length_nil]; omega), w64 (by omega), take_snoc hi, List.map_append, List.append_assoc]; rfl) (by
   unfold likeness_b3
   dsimp only
   rw [if_neg (by simp), List.take_length])
  have h1' : loopO (likeness_b3 b e g) ((0 : Int), g.Words) = some (g.Words ++ g.Materials.map (·.Name)) := by
   have h0 : ((0 : Int), g.Words) = (((0 : Nat) : Int), g.Words ++ (g.Materials.take 0).map (·.Name)) := by simp
   rw [h0]; exact h1
  rw [h1', obs]
  show likeness_j1 b e g (g.Words ++ g.Materials.map (·.Name)) = _
  unfold likeness_j1
  have hbase : (g.Words ++ g.Materials.map (·.Name)).length ≤ 16 := by simp only [List.length_append, List.length_map]; omega
  have h2 := loop_seq (f := likeness_b2 b e g) g.Parts.length (fun i => ((i : Int), (g.Words ++ g.Materials.map (·.Name)) ++ ((g.Parts.take i).map (·.Words)).flatten)) (allW g) (fun i hi => by
   have hfl := flatW_take hg.parts.2 i
   have hw := hg.parts.2 _ (List.getElem_mem hi)
   unfold likeness_b2
   dsimp only
   rw [if_pos (decide_eq_true (by omega)), if_pos (by omega), itn, geq hi, obs, if_pos (by rw [List.length_append]; omega), w64 (by omega), take_snoc hi, List.map_append, List.flatten_append, List.append_assoc]
   simp) (by
   unfold likeness_b2
   dsimp only
   rw [if_neg (by simp), List.take_length]; rfl)
  have h2' : loopO (likeness_b2 b e g) ((0 : Int), g.Words ++ g.Materials.map (·.Name)) = some (allW g) := by
   have h0 : ((0 : Int), g.Words ++ g.Materials.map (·.Name)) = (((0 : Nat) : Int), (g.Words ++ g.Materials.map (·.Name)) ++ ((g.Parts.take 0).map (·.Words)).flatten) := by simp
   rw [h0]; exact h2
  rw [h2', obs]
  show likeness_j2 b e (allW g) = _
  unfold likeness_j2
  have hal2 := altS_LB hb he
  rw [nomAlts_eq hb he, obs]
  have h3 := loop_seq (f := likeness_b1 (altS b e)) (altS b e).length (fun i => ((i : Int), ((altS b e).take i).foldl (fun m a => mx m (comS a (allW g))) 0, allW g)) (mxL (fun a => comS a (allW g)) (altS b e)) (fun i hi => by
   unfold likeness_b1
   dsimp only
   rw [if_pos (decide_eq_true (by omega)), if_pos (by omega), itn, geq hi, obs, commonP_eq (hal2.2 _ (List.getElem_mem hi)) (by omega), obs, w64 (by omega), take_snoc hi, List.foldl_append]; rfl) (by
   unfold likeness_b1
   dsimp only
   rw [if_neg (by simp), List.take_length]; rfl)
  rw [show ((0 : Int), (0 : Int), allW g) = (((0 : Nat) : Int), ((altS b e).take 0).foldl (fun m a => mx m (comS a (allW g))) 0, allW g) from rfl, h3]; rfl
theorem rLikeness_eq {b : YE} (hb : BB b) {e : Ent} (he : LB e.Terms) (hc : e.Code.length ≤ 9223372036854775807) {g : YR} (hg : GB g) : rLikeness b e g = some (likS b e g) := by
 have g1 := hg.words; have g2 := hg.mats; have g3 := hg.parts.1
 unfold rLikeness likS
 rw [refExcluded_eq hb hc (by omega), obs]
 cases hx : exS b e.Code g.Words with
 | true => rw [if_pos rfl, if_pos rfl]
 | false =>
  rw [if_neg (by simp), if_neg (by simp)]
  obtain ⟨w1, e1, m1, l1⟩ := loop_all g.Materials (rLikeness_b3 b e g) (fun i (q : List Str) => ((i : Int), q)) (fun i q => (∀ x, x ∈ q ↔ x ∈ g.Words ++ (g.Materials.take i).map (·.Name)) ∧ q.length ≤ 8 + i) (fun r => (∀ x, x ∈ r ↔ x ∈ g.Words ++ g.Materials.map (·.Name)) ∧ r.length ≤ 16) (fun i x q hx hq => by
   have hlt := zK1 hx
   obtain ⟨r, er, hr, hrl⟩ := refWith_ok (l := q) x.Name (by omega)
   refine .inl ⟨r, ?_, fun y => ?_, by omega⟩
   ·unfold rLikeness_b3
    dsimp only
    rw [if_pos (decide_eq_true (by omega)), if_pos (by omega), itn, hx, obs, er, obs, w64 (by omega)]; rfl
   ·rw [hr, hq.1, List.take_add_one, hx]; simp [or_assoc]) (fun q hq => ⟨q, by unfold rLikeness_b3; dsimp only; rw [if_neg (by simp)], fun x => by rw [hq.1, List.take_length], by omega⟩) g.Words ⟨fun x => by simp, by omega⟩
  rw [show ((0 : Int), g.Words) = (((0 : Nat) : Int), g.Words) from rfl, e1, obs]
  show rLikeness_j1 b e g w1 = _
  unfold rLikeness_j1
  obtain ⟨w2, e2, m2, l2⟩ := loop_all g.Parts (rLikeness_b2 b e g) (fun i (q : List Str) => ((i : Int), q)) (fun i q => (∀ x, x ∈ q ↔ x ∈ (g.Words ++ g.Materials.map (·.Name)) ++ ((g.Parts.take i).map (·.Words)).flatten) ∧ q.length ≤ 16 + 8 * i) (fun r => (∀ x, x ∈ r ↔ x ∈ allW g) ∧ r.length ≤ 100) (fun i x q hx hq => by
   have hlt := zK1 hx
   have hw := hg.parts.2 x (List.mem_of_getElem? hx)
   have hul := uniS_len q x.Words
   refine .inl ⟨uniS q x.Words, ?_, fun y => ?_, by omega⟩
   ·unfold rLikeness_b2
    dsimp only
    rw [if_pos (decide_eq_true (by omega)), if_pos (by omega), itn, hx, obs, refUnion_eq (by omega) (by omega), obs, w64 (by omega)]; rfl
   ·rw [uniS_mem, hq.1, List.take_add_one, hx]; simp [or_assoc]) (fun q hq => ⟨q, by unfold rLikeness_b2; dsimp only; rw [if_neg (by simp)], fun x => by rw [hq.1, List.take_length]; rfl, by omega⟩) w1 ⟨fun x => by rw [m1]; simp, by omega⟩
  rw [show ((0 : Int), w1) = (((0 : Nat) : Int), w1) from rfl, e2, obs]
  show rLikeness_j2 b e w2 = _
  unfold rLikeness_j2
  have hal2 := altS_LB hb he
  rw [refAlts_eq hb he, obs]
  rw [max_loop (l := altS b e) (rLikeness_b1 w2 (altS b e)) (fun a => comS a (allW g)) (fun i x m hx => by
   have hlt := zK1 hx
   unfold rLikeness_b1
   dsimp only
   rw [if_pos (decide_eq_true (by omega)), if_pos (by omega), itn, hx, obs, refCommon_eq (hal2.2 _ (List.mem_of_getElem? hx)) (by omega), obs, w64 (by omega), comS_congr m2]; rfl) (fun m => by
   unfold rLikeness_b1
   dsimp only
   rw [if_neg (by simp)])]
  rfl
abbrev partsW : Str := [112, 97, 114, 116, 115]
def incW (g : YR) : List Str := g.Words ++ [partsW]
theorem subS_congr {a w u : List Str} (h : ∀ x, x ∈ w ↔ x ∈ u) : subS a w = subS a u := by
 unfold subS
 congr 1
 funext x
 exact contains_congr h x
theorem exS_congr (b : YE) (c : Str) {w u : List Str} (h : ∀ x, x ∈ w ↔ x ∈ u) : exS b c w = exS b c u := by
 unfold exS
 congr 1
 funext n
 rw [subS_congr h]
theorem scS_congr (b : YE) (e : Ent) {w u : List Str} (h : ∀ x, x ∈ w ↔ x ∈ u) : scS b e w = scS b e u := by
 unfold scS
 rw [exS_congr b _ h]
 have : scF w = scF u := by funext n a; unfold scF; rw [subS_congr h]
 rw [this]
theorem incompleteWords_ok {g : YR} (hg : GB g) : ∃ r, incompleteWords g = some r ∧ (∀ x, x ∈ r ↔ x ∈ incW g) ∧ r.length ≤ 9 := by
 have g1 := hg.words
 obtain ⟨r, e, hm, hl⟩ := union_ok (a := g.Words) (b := [partsW]) (by omega) (by simp)
 unfold incompleteWords
 rw [e]
 exact ⟨r, rfl, fun x => by rw [hm]; unfold incW; simp, by simp only [List.length_cons, List.length_nil] at hl; omega⟩
theorem rIncomplete_ok {g : YR} (hg : GB g) : ∃ r, rIncomplete g = some r ∧ (∀ x, x ∈ r ↔ x ∈ incW g) ∧ r.length ≤ 9 := by
 have g1 := hg.words
 have hl := uniS_len g.Words [partsW]
 unfold rIncomplete
 rw [refUnion_eq (by omega) (by simp)]
 simp only [List.length_cons, List.length_nil] at hl
 exact ⟨uniS g.Words [partsW], rfl, fun x => by rw [uniS_mem]; unfold incW; simp, by omega⟩
def scored1 (b : YE) (w : List Str) (e : Ent) : Bool := decide (0 < scS b e w)
def termsS (b : YE) (g : YR) (e : Ent) : Bool := if g.Incomplete = true then !exS b e.Code (incW g) && (altS b e).any (fun a => a.contains partsW && subS a (incW g)) else scored1 b g.Words e
def charS (b : YE) (g : YR) (e : Ent) : Bool := (isort (chars g)).any fun x => scored1 b x.Words e
def fitS (b : YE) (g : YR) (top : Bool) (best : Int) (way : Nat) (e : Ent) : Bool :=
 match way with
 | 1 => termsS b g e
 | 2 => g.Incomplete && scored1 b g.Words e
 | 3 => charS b g e
 | 4 => !top && e.Other
 | 5 => decide (0 < best) && (likS b e g == best)
 | _ => !top
def bestS (b : YE) (g : YR) (level : List Ent) : Int := mxL (fun e => likS b e g) level
def candS (b : YE) (g : YR) (top : Bool) (level : List Ent) (way : Nat) : List Ent := level.filter (fitS b g top (bestS b g level) way)
def basisL (b : YE) (g : YR) (top : Bool) (level : List Ent) : Int × List Ent :=
 if candS b g top level 1 ≠ [] then (1, candS b g top level 1)
 else if candS b g top level 2 ≠ [] then (2, candS b g top level 2)
 else if candS b g top level 3 ≠ [] then (3, candS b g top level 3)
 else if candS b g top level 4 ≠ [] then (8, candS b g top level 4)
 else if candS b g top level 5 ≠ [] then (7, candS b g top level 5)
 else if candS b g top level 6 ≠ [] then (7, candS b g top level 6)
 else (0, [])
def basisS (b : YE) (day : Int) (g : YR) (parent : Str) : Int × List Ent := basisL b g (decide (parent = [])) (belS b day parent)
theorem char_words {g : YR} (hg : GB g) : (isort (chars g)).length ≤ 8 ∧ ∀ x, x ∈ isort (chars g) → x.Words.length ≤ 8 := by
  have g2 := hg.mats; have g3 := hg.parts
  rw [isort_len]
  unfold chars
  refine ⟨by split
             · rw [List.length_map]; exact g2
             · omega, fun x hx => ?_⟩
  have hx := isort_mem _ _ hx
  split at hx
  · obtain ⟨m, _, rfl⟩ := List.mem_map.1 hx; simp
  · exact g3.2 x hx
variable {b : YE} {g : YR}
def LV (l : List Ent) : Prop := l.length ≤ 1000 ∧ ∀ e, e ∈ l → LB e.Terms ∧ e.Code.length ≤ 8
theorem LV.filter {l : List Ent} (h : LV l) (p : Ent → Bool) : LV (l.filter p) := ⟨Nat.le_trans (List.length_filter_le _ _) h.1, fun e he => h.2 e (List.mem_filter.1 he).1⟩
theorem scored_eq (hb : BB b) {l : List Ent} (hl : LV l) {w : List Str} (hw : w.length ≤ 50) : scored b l w = some (l.filter (scored1 b w)) := by
 have h1 := hl.1
 unfold scored keepScored
 rw [keep_loop (l := l) (keepScored_b1 l b w) (scored1 b w) (fun i x kept hx hk => by
  have hlt := zK1 hx
  unfold keepScored_b1 keepScored_j2 scoredIn
  dsimp only
  rw [if_pos (decide_eq_true (by omega)), if_pos (by omega), itn, hx, obs, nomScore_eq hb (hl.2 x (List.mem_of_getElem? hx)).1 hw, obs, obs, w64 (by omega)]
  unfold scored1
  by_cases hs : 0 < scS b x w
  ·rw [decide_eq_true hs, if_pos rfl, if_pos rfl, if_pos (by simp only [List.length_cons, List.length_nil]; omega)]; rfl
  ·rw [decide_eq_false hs, if_neg (by simp), if_neg (by simp)]; rfl) (fun kept => by
  unfold keepScored_b1
  dsimp only
  rw [if_neg (by simp)])]
 rfl
theorem byTermsIn_eq (hb : BB b) {e : Ent} (he : LB e.Terms) {par : Str} {ents : List Ent} {w : List Str} (hw : w.length ≤ 50) : byTermsIn e ⟨b, g, par, ents⟩ w = some (!exS b e.Code w && (altS b e).any (fun a => a.contains partsW && subS a w)) := by
 have hal := altS_LB hb he
 unfold byTermsIn
 dsimp only
 rw [nomExcluded_eq hb _ hw, obs]
 cases hx : exS b e.Code w with
 | true => rw [if_pos rfl]; rfl
 | false =>
  rw [if_neg (by simp), nomAlts_eq hb he, obs]
  have hcon : ∀ x : List Str, x.length ≤ 1000 → sContains x partsW = some (x.contains partsW) := fun x hx => by
   unfold sContains
   obtain ⟨n, e1, e2⟩ := sIndex_eq (s := x) partsW hx
   rw [e1, obs, e2]
  have step : ∀ (i : Nat) (x : List Str), (altS b e)[i]? = some x → byTermsIn_b1 ⟨b, g, par, ents⟩ w (altS b e) (i : Int) = if (x.contains partsW && subS x w) = true then some (.inr (.inl true)) else some (.inl ((i + 1 : Nat) : Int)) := fun i x hx => by
   have hlt := zK1 hx
   have hxl := hal.2 x (List.mem_of_getElem? hx)
   unfold byTermsIn_b1
   rw [if_pos (decide_eq_true (by omega)), if_pos (by omega), itn, hx, obs, hcon x hxl, obs, w64 (by omega)]
   cases x.contains partsW with
   | true => rw [if_pos rfl, subset_eq hxl hw, obs]; simp only [cond_true, Bool.true_and]; rfl
   | false => rw [if_neg (by simp), obs]; simp only [cond_false, Bool.false_and]; rfl
  have l1 := loop_list (β := Unit) (altS b e) (byTermsIn_b1 ⟨b, g, par, ents⟩ w (altS b e)) (fun i _ => (i : Int)) (fun _ _ => ()) (fun i => !(((altS b e).getD i default).contains partsW && subS ((altS b e).getD i default) w)) (.inl true) (fun _ => .inr ()) (fun _ _ => True) (fun _ _ _ _ _ => trivial)
   (fun i x _ _ hx hp => by rw [getD_of hx] at hp; rw [step i x hx, if_neg (by intro hh; rw [hh] at hp; cases hp)]) (fun i x _ _ hx hp => by rw [getD_of hx] at hp; rw [step i x hx, if_pos (by simpa using hp)]) (fun _ _ => by unfold byTermsIn_b1; rw [if_neg (by simp)]) () trivial
  rw [show ((0 : Int)) = ((0 : Nat) : Int) from rfl, l1, range_all (fun x : List Str => !(x.contains partsW && subS x w))]
  have e2 : ((altS b e).all fun x => !(x.contains partsW && subS x w)) = !((altS b e).any fun x => x.contains partsW && subS x w) := by rw [← List.not_any_eq_all_not]
  rw [e2]
  cases ((altS b e).any fun x => x.contains partsW && subS x w) <;> rfl
theorem byTerms_eq (hb : BB b) (hg : GB g) {par : Str} {l : List Ent} (hl : LV l) : byTerms ⟨b, g, par, l⟩ = some (l.filter (termsS b g)) := by
 have g1 := hg.words
 have h1 := hl.1
 unfold byTerms
 dsimp only
 cases hi : g.Incomplete with
 | false =>
  rw [if_pos (by rfl), scored_eq hb hl (by omega), obs]
  have : termsS b g = scored1 b g.Words := by funext e; unfold termsS; rw [hi, if_neg (by simp)]
  rw [this]
 | true =>
  rw [if_neg (by simp)]
  obtain ⟨r, er, hm, hrl⟩ := incompleteWords_ok hg
  rw [er, obs]
  unfold keepTerms
  rw [keep_loop (l := l) (keepTerms_b1 l ⟨b, g, par, l⟩ r) (termsS b g) (fun i x kept hx hk => by
   have hlt := zK1 hx
   unfold keepTerms_b1 keepTerms_j2
   dsimp only
   rw [if_pos (decide_eq_true (by omega)), if_pos (by omega), itn, hx, obs, byTermsIn_eq hb (hl.2 x (List.mem_of_getElem? hx)).1 (by omega), obs, w64 (by omega)]
   have : (!exS b x.Code r && (altS b x).any fun a => a.contains partsW && subS a r) = termsS b g x := by
    unfold termsS
    rw [hi, if_pos rfl, exS_congr b _ hm]
    congr 2
    funext a
    rw [subS_congr hm]
   rw [this]
   cases termsS b g x with
   | true => rw [if_pos rfl, if_pos rfl, if_pos (by simp only [List.length_cons, List.length_nil]; omega)]; rfl
   | false => rw [if_neg (by simp), if_neg (by simp)]; rfl) (fun kept => by
   unfold keepTerms_b1
   dsimp only
   rw [if_neg (by simp)])]
  rfl
theorem asComplete_eq (hb : BB b) (hg : GB g) {par : Str} {l : List Ent} (hl : LV l) : asComplete ⟨b, g, par, l⟩ = some (l.filter fun e => g.Incomplete && scored1 b g.Words e) := by
 have g1 := hg.words
 unfold asComplete
 dsimp only
 cases hi : g.Incomplete with
 | false => rw [if_pos (by rfl)]; simp
 | true => rw [if_neg (by simp), scored_eq hb hl (by omega)]; rfl
theorem char_index (hb : BB b) {e : Ent} (he : LB e.Terms) {par : Str} {l : List Ent} {cs : List Cp} (hc : cs.length ≤ 1000) (hw : ∀ x, x ∈ cs → x.Words.length ≤ 50) : byCharIn e cs ⟨b, g, par, l⟩ = some (cs.any fun x => scored1 b x.Words e) := by
 unfold byCharIn charContains charIndex
 have step : ∀ (i : Nat) (x : Cp), cs[i]? = some x → charIndex_b1 cs ⟨b, g, par, l⟩ e (i : Int) = if scored1 b x.Words e = true then some (.inr (.inl (i : Int))) else some (.inl ((i + 1 : Nat) : Int)) := fun i x hx => by
  have hlt := zK1 hx
  unfold charIndex_b1 byCharIn2
  dsimp only
  rw [if_pos (decide_eq_true (by omega)), if_pos (by omega), itn, hx, obs, nomScore_eq hb he (hw x (List.mem_of_getElem? hx)), obs, obs, w64 (by omega)]; rfl
 obtain ⟨r, hr, hR⟩ := loop_all cs (charIndex_b1 cs ⟨b, g, par, l⟩ e) (fun i (_ : Unit) => (i : Int)) (fun i _ => ∀ j, j < i → scored1 b (cs.getD j default).Words e = false) (fun r => match r with | .inl n => 0 ≤ n ∧ (cs.any fun x => scored1 b x.Words e) = true | .inr _ => (cs.any fun x => scored1 b x.Words e) = false) (fun i x _ hx hI => by
   rw [step i x hx]
   cases hs : scored1 b x.Words e with
   | true => exact .inr ⟨_, if_pos rfl, by omega, List.any_eq_true.2 ⟨x, List.mem_of_getElem? hx, hs⟩⟩
   | false =>
    refine .inl ⟨(), by rw [if_neg (by simp)], fun j hj => ?_⟩
    by_cases e1 : j = i
    ·subst e1; rw [getD_of hx]; exact hs
    ·exact hI j (by omega))
  (fun _ hI => ⟨.inr (), by unfold charIndex_b1; rw [if_neg (by simp)], by
   rw [List.any_eq_false]
   intro x hx
   obtain ⟨j, hj, rfl⟩ := List.getElem_of_mem hx
   have := hI j hj
   rw [getD_of (geq hj)] at this
   simp [this]⟩) () (fun j hj => by omega)
 rw [show ((0 : Int)) = ((0 : Nat) : Int) from rfl, hr, obs]
 rcases r with n | u
 ·dsimp only
  rw [obs, obs, hR.2, decide_eq_true (by have := hR.1; omega)]
 ·dsimp only
  unfold charIndex_j1
  rw [obs, obs, hR]; rfl
theorem byCharacter_eq (hb : BB b) (hg : GB g) {par : Str} {l : List Ent} (hl : LV l) : byCharacter ⟨b, g, par, l⟩ = some (l.filter (charS b g)) := by
 have h1 := hl.1
 have hcw := char_words hg
 unfold byCharacter
 dsimp only
 rw [goodsCharacters_eq hg, obs]
 unfold keepChar
 rw [keep_loop (l := l) (keepChar_b1 l (isort (chars g)) ⟨b, g, par, l⟩) (charS b g) (fun i x kept hx hk => by
  have hlt := zK1 hx
  unfold keepChar_b1 keepChar_j2
  dsimp only
  rw [if_pos (decide_eq_true (by omega)), if_pos (by omega), itn, hx, obs, char_index hb (hl.2 x (List.mem_of_getElem? hx)).1 (by omega) (fun y hy => by have := hcw.2 y hy; omega), obs, w64 (by omega)]
  show (if charS b g x = true then _ else _) = _
  cases charS b g x with
  | true => rw [if_pos rfl, if_pos rfl, if_pos (by simp only [List.length_cons, List.length_nil]; omega)]; rfl
  | false => rw [if_neg (by simp), if_neg (by simp)]; rfl) (fun kept => by
  unfold keepChar_b1
  dsimp only
  rw [if_neg (by simp)])]
 rfl
theorem residual_eq {par : Str} {l : List Ent} (hl : LV l) : residual ⟨b, g, par, l⟩ = some (l.filter fun e => !decide (par = []) && e.Other) := by
 have h1 := hl.1
 unfold residual
 dsimp only
 by_cases hp : par = []
 ·rw [if_pos (by rw [hp]; rfl), decide_eq_true hp]; simp
 ·rw [if_neg (by rw [beq_iff_eq]; exact hp), decide_eq_false hp]
  simp only [Bool.not_false, Bool.true_and]
  unfold keepResidual
  rw [keep_loop (l := l) (keepResidual_b1 l) (fun e => e.Other) (fun i x kept hx hk => by
   have hlt := zK1 hx
   unfold keepResidual_b1 keepResidual_j2 residualIn
   dsimp only
   rw [if_pos (decide_eq_true (by omega)), if_pos (by omega), itn, hx, obs, obs, w64 (by omega)]
   cases x.Other with
   | true => rw [if_pos rfl, if_pos rfl, if_pos (by simp only [List.length_cons, List.length_nil]; omega)]; rfl
   | false => rw [if_neg (by simp), if_neg (by simp)]; rfl) (fun kept => by
   unfold keepResidual_b1
   dsimp only
   rw [if_neg (by simp)])]
  rfl
theorem akin_eq (hb : BB b) (hg : GB g) {par : Str} {l : List Ent} (hl : LV l) : akin ⟨b, g, par, l⟩ = some (l.filter fun e => decide (0 < bestS b g l) && (likS b e g == bestS b g l)) := by
 have h1 := hl.1
 unfold akin
 rw [max_loop (l := l) (akin_b1 ⟨b, g, par, l⟩) (fun e => likS b e g) (fun i x m hx => by
  have hlt := zK1 hx
  unfold akin_b1
  dsimp only
  rw [if_pos (decide_eq_true (by omega)), if_pos (by omega), itn, hx, obs, likeness_eq hb (hl.2 x (List.mem_of_getElem? hx)).1 hg, obs, w64 (by omega)]; rfl) (fun m => by
  unfold akin_b1
  dsimp only
  rw [if_neg (by simp)]), obs]
 show akin_j1 ⟨b, g, par, l⟩ (bestS b g l) = _
 have hn : 0 ≤ bestS b g l := mxL_nonneg _ _
 unfold akin_j1
 dsimp only
 by_cases h0 : bestS b g l = 0
 ·rw [if_pos (beq_iff_eq.2 h0), decide_eq_false (by omega)]; simp
 ·rw [if_neg (fun h => h0 (beq_iff_eq.1 h)), decide_eq_true (by omega)]
  simp only [Bool.true_and]
  unfold keepAkin
  rw [keep_loop (l := l) (keepAkin_b1 l ⟨b, g, par, l⟩ (bestS b g l)) (fun e => likS b e g == bestS b g l) (fun i x kept hx hk => by
   have hlt := zK1 hx
   unfold keepAkin_b1 keepAkin_j2 akinIn
   dsimp only
   rw [if_pos (decide_eq_true (by omega)), if_pos (by omega), itn, hx, obs, likeness_eq hb (hl.2 x (List.mem_of_getElem? hx)).1 hg, obs, obs, w64 (by omega)]
   cases (likS b x g == bestS b g l) with
   | true => rw [if_pos rfl, if_pos rfl, if_pos (by simp only [List.length_cons, List.length_nil]; omega)]; rfl
   | false => rw [if_neg (by simp), if_neg (by simp)]; rfl) (fun kept => by
   unfold keepAkin_b1
   dsimp only
   rw [if_neg (by simp)])]
  rfl
theorem allBelow_eq {par : Str} {l : List Ent} : allBelow ⟨b, g, par, l⟩ = some (l.filter fun _ => !decide (par = [])) := by
 unfold allBelow
 dsimp only
 by_cases hp : par = []
 ·rw [if_pos (by rw [hp]; rfl), decide_eq_true hp]; simp
 ·rw [if_neg (by rw [beq_iff_eq]; exact hp), decide_eq_false hp]
  show some l = some (l.filter fun _ => true)
  rw [List.filter_eq_self.2 (fun _ _ => rfl)]
theorem belS_LV (hb : VB b) (day : Int) (c : Str) : LV (belS b day c) := by
 have h1 := atS_len hb.bb day
 have hm : ∀ e, e ∈ belS b day c → e ∈ b.Entries := fun e he => (List.mem_filter.1 (List.mem_filter.1 he).1).1
 exact ⟨Nat.le_trans (List.length_filter_le _ _) h1, fun e he => ⟨hb.bb.ents.2 e (hm e he), (hb.code e (hm e he)).2⟩⟩
theorem pos_iff {α : Type} (l : List α) : decide ((0 : Int) < (l.length : Int)) = decide (l ≠ []) := pos_ne l
theorem basis_eq (hb : VB b) (hg : GB g) (day : Int) (par : Str) : basis b day g par = some (basisS b day g par) := by
 have hl := belS_LV hb day par
 unfold basis basisS basisL
 rw [nomBelow_eq hb.bb (fun e he => by have := hb.code e he; omega) day par, obs]
 generalize belS b day par = l at hl
 have c1 : candS b g (decide (par = [])) l 1 = l.filter (termsS b g) := rfl
 have c2 : candS b g (decide (par = [])) l 2 = l.filter fun e => g.Incomplete && scored1 b g.Words e := rfl
 have c3 : candS b g (decide (par = [])) l 3 = l.filter (charS b g) := rfl
 have c4 : candS b g (decide (par = [])) l 4 = l.filter fun e => !decide (par = []) && e.Other := rfl
 have c5 : candS b g (decide (par = [])) l 5 = l.filter fun e => decide (0 < bestS b g l) && (likS b e g == bestS b g l) := rfl
 have c6 : candS b g (decide (par = [])) l 6 = l.filter fun _ => !decide (par = []) := rfl
 rw [byTerms_eq hb.bb hg hl, ← c1, obs]
 simp only [pos_iff, decide_eq_true_eq]
 by_cases h1 : candS b g (decide (par = [])) l 1 ≠ []
 ·rw [if_pos h1, if_pos h1]
 rw [if_neg h1, if_neg h1, asComplete_eq hb.bb hg hl, ← c2, obs]
 by_cases h2 : candS b g (decide (par = [])) l 2 ≠ []
 ·rw [if_pos h2, if_pos h2]
 rw [if_neg h2, if_neg h2, byCharacter_eq hb.bb hg hl, ← c3, obs]
 by_cases h3 : candS b g (decide (par = [])) l 3 ≠ []
 ·rw [if_pos h3, if_pos h3]
 rw [if_neg h3, if_neg h3, residual_eq hl, ← c4, obs]
 by_cases h4 : candS b g (decide (par = [])) l 4 ≠ []
 ·rw [if_pos h4, if_pos h4]
 rw [if_neg h4, if_neg h4, akin_eq hb.bb hg hl, ← c5, obs]
 by_cases h5 : candS b g (decide (par = [])) l 5 ≠ []
 ·rw [if_pos h5, if_pos h5]
 rw [if_neg h5, if_neg h5, allBelow_eq, ← c6, obs]
 by_cases h6 : candS b g (decide (par = [])) l 6 ≠ []
 ·rw [if_pos h6, if_pos h6]
 rw [if_neg h6, if_neg h6]; rfl
end Go.C
end
section
set_option linter.unusedVariables false
set_option linter.unusedSimpArgs false
namespace Go.C
open Go.V
variable {b : YE} {g : YR}
theorem rAsParts_eq (hb : BB b) (hg : GB g) (hi : g.Incomplete = true) {e : Ent} (he : LB e.Terms) (hc : e.Code.length ≤ 8) : rAsParts b e g = some (termsS b g e) := by
 have hal := altS_LB hb he
 obtain ⟨w, ew, hm, hwl⟩ := rIncomplete_ok hg
 unfold rAsParts
 rw [ew, obs, refAlts_eq hb he, obs]
 have step : ∀ (i : Nat) (x : List Str), (altS b e)[i]? = some x → rAsParts_b1 b e w (altS b e) (i : Int) = if (x.contains partsW && subS x w) = true then some (.inr (.inl (!exS b e.Code w))) else some (.inl ((i + 1 : Nat) : Int)) := fun i x hx => by
  have hlt := zK1 hx
  have hxl := hal.2 x (List.mem_of_getElem? hx)
  unfold rAsParts_b1
  rw [if_pos (decide_eq_true (by omega)), if_pos (by omega), itn, hx, obs, refHas_eq partsW hxl, obs, if_pos (fun _ => by omega), getD_of hx, w64 (by omega)]
  cases x.contains partsW with
  | true => rw [if_pos rfl, refSubset_eq hxl (by omega), obs, refExcluded_eq hb (by omega) (by omega)]; simp only [cond_true, Bool.true_and]; rfl
  | false => rw [if_neg (by simp), obs]; simp only [cond_false, Bool.false_and]; rfl
 have l1 := loop_list (β := Unit) (altS b e) (rAsParts_b1 b e w (altS b e)) (fun i _ => (i : Int)) (fun _ _ => ()) (fun i => !(((altS b e).getD i default).contains partsW && subS ((altS b e).getD i default) w)) (.inl (!exS b e.Code w)) (fun _ => .inr ()) (fun _ _ => True) (fun _ _ _ _ _ => trivial)
  (fun i x _ _ hx hp => by rw [getD_of hx] at hp; rw [step i x hx, if_neg (by intro hh; rw [hh] at hp; cases hp)]) (fun i x _ _ hx hp => by rw [getD_of hx] at hp; rw [step i x hx, if_pos (by simpa using hp)]) (fun _ _ => by unfold rAsParts_b1; rw [if_neg (by simp)]) () trivial
 rw [show ((0 : Int)) = ((0 : Nat) : Int) from rfl, l1, range_all (fun x : List Str => !(x.contains partsW && subS x w))]
 have e2 : ((altS b e).all fun x => !(x.contains partsW && subS x w)) = !((altS b e).any fun x => x.contains partsW && subS x w) := by rw [← List.not_any_eq_all_not]
 have e3 : ((altS b e).any fun x => x.contains partsW && subS x w) = (altS b e).any fun a => a.contains partsW && subS a (incW g) := by
  congr 1; funext a; rw [subS_congr hm]
 rw [e2, e3]
 unfold termsS
 rw [if_pos hi, exS_congr b _ hm]
 cases ((altS b e).any fun a => a.contains partsW && subS a (incW g)) with
 | true => simp
 | false => simp [rAsParts_j1]
theorem rByCharacter_eq (hb : BB b) (hg : GB g) {e : Ent} (he : LB e.Terms) (hc : e.Code.length ≤ 8) : rByCharacter b e g = some (charS b g e) := by
 have hcw := char_words hg
 unfold rByCharacter
 rw [refCharacters_eq hg, obs]
 have step : ∀ (i : Nat) (x : Cp), (isort (chars g))[i]? = some x → rByCharacter_b1 b e (isort (chars g)) (i : Int) = if scored1 b x.Words e = true then some (.inr (.inl true)) else some (.inl ((i + 1 : Nat) : Int)) := fun i x hx => by
  have hlt := zK1 hx
  have hw := hcw.2 x (List.mem_of_getElem? hx)
  unfold rByCharacter_b1
  rw [if_pos (decide_eq_true (by omega)), if_pos (by omega), itn, hx, obs, refScore_eq hb he (by omega) (by omega), obs, w64 (by omega)]; rfl
 have l1 := loop_list (β := Unit) (isort (chars g)) (rByCharacter_b1 b e (isort (chars g))) (fun i _ => (i : Int)) (fun _ _ => ()) (fun i => !(scored1 b ((isort (chars g)).getD i default).Words e)) (.inl true) (fun _ => .inr ()) (fun _ _ => True) (fun _ _ _ _ _ => trivial)
  (fun i x _ _ hx hp => by rw [getD_of hx] at hp; rw [step i x hx, if_neg (by intro hh; rw [hh] at hp; cases hp)]) (fun i x _ _ hx hp => by rw [getD_of hx] at hp; rw [step i x hx, if_pos (by simpa using hp)]) (fun _ _ => by unfold rByCharacter_b1; rw [if_neg (by simp)]) () trivial
 rw [show ((0 : Int)) = ((0 : Nat) : Int) from rfl, l1, range_all (fun x : Cp => !(scored1 b x.Words e))]
 have e2 : ((isort (chars g)).all fun x => !(scored1 b x.Words e)) = !charS b g e := by rw [← List.not_any_eq_all_not]; rfl
 rw [e2]
 cases charS b g e <;> rfl
theorem rFits_eq (hb : BB b) (hg : GB g) {e : Ent} (he : LB e.Terms) (hc : e.Code.length ≤ 8) (top : Bool) (best : Int) {way : Nat} (h1 : 1 ≤ way) (h6 : way ≤ 6) : rFits b e g (way : Int) top best = some (fitS b g top best way e) := by
 have g1 := hg.words
 have hs : refScore b e g.Words = some (scS b e g.Words) := refScore_eq hb he (by omega) (by omega)
 unfold rFits
 match way, h1, h6 with
 | 1, _, _ =>
  rw [if_pos (by rfl)]
  show _ = some (termsS b g e)
  cases hi : g.Incomplete with
  | true => rw [if_pos rfl, rAsParts_eq hb hg hi he hc]; rfl
  | false => rw [if_neg (by simp), hs, obs]; unfold termsS; rw [hi, if_neg (by simp)]; rfl
 | 2, _, _ =>
  rw [if_neg (by decide), if_pos (by rfl)]
  show _ = some (g.Incomplete && scored1 b g.Words e)
  cases hi : g.Incomplete with
  | true => rw [if_pos rfl, hs]; rfl
  | false => rw [if_neg (by simp)]; rfl
 | 3, _, _ =>
  rw [if_neg (by decide), if_neg (by decide), if_pos (by rfl), rByCharacter_eq hb hg he hc]; rfl
 | 4, _, _ =>
  rw [if_neg (by decide), if_neg (by decide), if_neg (by decide), if_pos (by rfl)]
  show _ = some (!top && e.Other)
  cases top <;> rfl
 | 5, _, _ =>
  rw [if_neg (by decide), if_neg (by decide), if_neg (by decide), if_neg (by decide), if_pos (by rfl)]
  show _ = some (decide (0 < best) && (likS b e g == best))
  cases decide ((0 : Int) < best) with
  | true => rw [if_pos rfl, rLikeness_eq hb he (by omega) hg]; rfl
  | false => rw [if_neg (by simp)]; rfl
 | 6, _, _ =>
  rw [if_neg (by decide), if_neg (by decide), if_neg (by decide), if_neg (by decide), if_neg (by decide)]; rfl
def wayB (way : Nat) : Int := match way with | 1 => 1 | 2 => 2 | 3 => 3 | 4 => 8 | _ => 7
theorem rBasis_way (hb : BB b) (hg : GB g) {l : List Ent} (hl : LV l) (par : Str) {way : Nat} (h1 : 1 ≤ way) (h6 : way ≤ 6) :
  rBasis_b1 b g par l (bestS b g l) (way : Int) = some (if candS b g (decide (par = [])) l way ≠ [] then .inr (.inl (wayB way, candS b g (decide (par = [])) l way)) else .inl ((way + 1 : Nat) : Int)) := by
 have hll := hl.1
 have htop : (par == ([] : Str)) = decide (par = []) := by rw [Bool.eq_iff_iff]; simp
 unfold rBasis_b1
 rw [if_pos (decide_eq_true (by omega)), keep_loop (l := l) (rBasis_b2 b g par l (bestS b g l) (way : Int)) (fitS b g (decide (par = [])) (bestS b g l) way) (fun i x kept hx hk => by
  have hlt := zK1 hx
  have hxl := hl.2 x (List.mem_of_getElem? hx)
  unfold rBasis_b2 rBasis_j5
  dsimp only
  rw [if_pos (decide_eq_true (by omega)), if_pos (by omega), itn, hx, obs, htop, rFits_eq hb hg hxl.1 hxl.2 _ _ h1 h6, obs, w64 (by omega)]
  cases fitS b g (decide (par = [])) (bestS b g l) way x with
  | true => rw [if_pos rfl, if_pos rfl, if_pos (by omega), obs, if_pos (by simp only [List.length_cons, List.length_nil]; omega)]; rfl
  | false => rw [if_neg (by simp), if_neg (by simp)]; rfl) (fun kept => by
  unfold rBasis_b2
  dsimp only
  rw [if_neg (by simp)]), obs]
 show rBasis_j4 b g par l (bestS b g l) (way : Int) (candS b g (decide (par = [])) l way) = _
 unfold rBasis_j4 rBasis_j3
 rw [pos_iff]
 by_cases hc : candS b g (decide (par = [])) l way ≠ []
 ·rw [if_pos (decide_eq_true hc), if_pos hc, if_pos (by omega)]
  match way, h1, h6 with
  | 1, _, _ => rfl
  | 2, _, _ => rfl
  | 3, _, _ => rfl
  | 4, _, _ => rfl
  | 5, _, _ => rfl
  | 6, _, _ => rfl
 ·rw [if_neg (fun h => hc (of_decide_eq_true h)), if_neg hc, w64 (by omega)]; rfl
theorem rBasis_eq (hb : VB b) (hg : GB g) (day : Int) {par : Str} (hp : par.length ≤ 9223372036854775807) : rBasis b day g par = some (basisS b day g par) := by
 have hl := belS_LV hb day par
 unfold rBasis basisS basisL
 rw [refBelow_eq hb.bb (fun e he => by have := hb.code e he; omega) day hp, obs]
 generalize belS b day par = l at hl
 have hll := hl.1
 rw [max_loop (l := l) (rBasis_b3 b g par l) (fun e => likS b e g) (fun i x m hx => by
  have hlt := zK1 hx
  have hxl := hl.2 x (List.mem_of_getElem? hx)
  unfold rBasis_b3
  dsimp only
  rw [if_pos (decide_eq_true (by omega)), if_pos (by omega), itn, hx, obs, rLikeness_eq hb.bb hxl.1 (by omega) hg, obs, w64 (by omega)]; rfl) (fun m => by
  unfold rBasis_b3
  dsimp only
  rw [if_neg (by simp)]), obs]
 show rBasis_j1 b g par l (bestS b g l) = _
 unfold rBasis_j1
 have w := fun (k : Nat) (h1 : 1 ≤ k) (h6 : k ≤ 6) => rBasis_way hb.bb hg hl par h1 h6
 have yes : ∀ k : Nat, 1 ≤ k → k ≤ 6 → candS b g (decide (par = [])) l k ≠ [] → loopO (rBasis_b1 b g par l (bestS b g l)) (k : Int) = some (.inl (wayB k, candS b g (decide (par = [])) l k)) := fun k h1 h6 hc => loop_stop (by rw [w k h1 h6, if_pos hc])
 have no : ∀ k : Nat, 1 ≤ k → k ≤ 6 → ¬ candS b g (decide (par = [])) l k ≠ [] → loopO (rBasis_b1 b g par l (bestS b g l)) (k : Int) = loopO (rBasis_b1 b g par l (bestS b g l)) ((k + 1 : Nat) : Int) := fun k h1 h6 hc => loop_step (by rw [w k h1 h6, if_neg hc])
 have e1 : ((1 : Int)) = ((1 : Nat) : Int) := rfl
 rw [e1]
 by_cases h1 : candS b g (decide (par = [])) l 1 ≠ []
 ·rw [if_pos h1, yes 1 (by omega) (by omega) h1]; rfl
 rw [if_neg h1, no 1 (by omega) (by omega) h1]
 by_cases h2 : candS b g (decide (par = [])) l 2 ≠ []
 ·rw [if_pos h2, yes 2 (by omega) (by omega) h2]; rfl
 rw [if_neg h2, no 2 (by omega) (by omega) h2]
 by_cases h3 : candS b g (decide (par = [])) l 3 ≠ []
 ·rw [if_pos h3, yes 3 (by omega) (by omega) h3]; rfl
 rw [if_neg h3, no 3 (by omega) (by omega) h3]
 by_cases h4 : candS b g (decide (par = [])) l 4 ≠ []
 ·rw [if_pos h4, yes 4 (by omega) (by omega) h4]; rfl
 rw [if_neg h4, no 4 (by omega) (by omega) h4]
 by_cases h5 : candS b g (decide (par = [])) l 5 ≠ []
 ·rw [if_pos h5, yes 5 (by omega) (by omega) h5]; rfl
 rw [if_neg h5, no 5 (by omega) (by omega) h5]
 by_cases h6 : candS b g (decide (par = [])) l 6 ≠ []
 ·rw [if_pos h6, yes 6 (by omega) (by omega) h6]; rfl
 rw [if_neg h6, no 6 (by omega) (by omega) h6, loop_stop (r := .inr ()) (by unfold rBasis_b1; rw [if_neg (by decide)])]
 rfl
def lastD (c : List Ent) : Ent := c.getD (c.length - 1) default
def specS (b : YE) (w : List Str) (c : List Ent) : List Ent := c.filter fun e => scS b e w == mxL (fun e => scS b e w) c
def essS (b : YE) : List Cp → List Ent → List Ent × Bool
 | [], c => (c, false)
 | x :: r, c => if c.filter (scored1 b x.Words) ≠ [] then (c.filter (scored1 b x.Words), true) else essS b r c
def tailS (b : YE) (g : YR) (c : List Ent) : Int × Ent :=
 if (essS b (isort (chars g)) c).2 = true ∧ (essS b (isort (chars g)) c).1.length = 1 then (5, (essS b (isort (chars g)) c).1.getD 0 default) else (6, lastD (essS b (isort (chars g)) c).1)
def specW (g : YR) (basis : Int) : List Str := if g.Incomplete = true ∧ basis = 1 then incW g else g.Words
def reduceS (b : YE) (g : YR) (basis : Int) (c : List Ent) : Int × Ent :=
 if c.length = 1 ∨ basis = 7 ∨ basis = 8 then (basis, lastD c)
 else if basis = 1 ∨ basis = 2 then (if (specS b (specW g basis) c).length = 1 then (4, (specS b (specW g basis) c).getD 0 default) else tailS b g (specS b (specW g basis) c))
 else tailS b g c
theorem cloneEntry_eq {e : Ent} (he : LB e.Terms) : cloneEntry e = some e := by
 have h1 := he.1
 unfold cloneEntry
 have hl := loop_seq (f := cloneEntry_b1 e) e.Terms.length (fun i => ((i : Int), e.Terms.take i)) e.Terms (fun i hi => by
  have hx := he.2 _ (List.getElem_mem hi)
  unfold cloneEntry_b1 cloneS
  dsimp only
  rw [if_pos (decide_eq_true (by omega)), if_pos (by omega), itn, geq hi, obs, if_pos (by omega), obs, if_pos (by simp only [List.length_take, List.length_cons, List.length_nil]; omega), w64 (by omega), take_snoc hi]; rfl) (by
  unfold cloneEntry_b1
  dsimp only
  rw [if_neg (by simp), List.take_length])
 have hl' : loopO (cloneEntry_b1 e) ((0 : Int), ([] : List (List Str))) = some e.Terms := hl
 rw [hl']; rfl
theorem lastD_get {c : List Ent} (hne : c ≠ []) (hl : c.length ≤ 1000) : c[(IntKind.i64.wrap ((c.length : Int) - 1)).toNat]? = some (lastD c) ∧ 0 ≤ IntKind.i64.wrap ((c.length : Int) - 1) ∧ lastD c ∈ c := by
 have hp := List.length_pos_iff.2 hne
 rw [w64 (by omega)]
 have e : ((c.length : Int) - 1).toNat = c.length - 1 := by omega
 rw [e, geq (by omega)]
 unfold lastD
 rw [getD_of (geq (by omega : c.length - 1 < c.length))]
 exact ⟨rfl, by omega, List.getElem_mem _⟩
theorem first_get {c : List Ent} (h : c.length = 1) : c[0]? = some (c.getD 0 default) ∧ c.getD 0 default ∈ c := by
 have h0 : 0 < c.length := by omega
 rw [getD_of (geq h0), geq h0]
 exact ⟨rfl, List.getElem_mem _⟩
theorem mostSpecific_eq (hb : BB b) {c : List Ent} (hc : LV c) {w u : List Str} (hw : w.length ≤ 50) (hm : ∀ x, x ∈ w ↔ x ∈ u) : mostSpecific b c w = some (specS b u c) := by
 have hcl := hc.1
 have hsc : ∀ e, scS b e w = scS b e u := fun e => scS_congr b e hm
 unfold mostSpecific
 rw [max_loop (l := c) (mostSpecific_b1 b c w) (fun e => scS b e u) (fun i x m hx => by
  have hlt := zK1 hx
  unfold mostSpecific_b1
  dsimp only
  rw [if_pos (decide_eq_true (by omega)), if_pos (by omega), itn, hx, obs, nomScore_eq hb (hc.2 x (List.mem_of_getElem? hx)).1 hw, obs, w64 (by omega), hsc]; rfl) (fun m => by
  unfold mostSpecific_b1
  dsimp only
  rw [if_neg (by simp)]), obs]
 show mostSpecific_j1 b c w (mxL (fun e => scS b e u) c) = _
 unfold mostSpecific_j1 keepSpecific
 rw [keep_loop (l := c) (keepSpecific_b1 c b w (mxL (fun e => scS b e u) c)) (fun e => scS b e u == mxL (fun e => scS b e u) c) (fun i x kept hx hk => by
  have hlt := zK1 hx
  unfold keepSpecific_b1 keepSpecific_j2 specificIn
  dsimp only
  rw [if_pos (decide_eq_true (by omega)), if_pos (by omega), itn, hx, obs, nomScore_eq hb (hc.2 x (List.mem_of_getElem? hx)).1 hw, obs, obs, w64 (by omega), hsc]
  cases (scS b x u == mxL (fun e => scS b e u) c) with
  | true => rw [if_pos rfl, if_pos rfl, if_pos (by simp only [List.length_cons, List.length_nil]; omega)]; rfl
  | false => rw [if_neg (by simp), if_neg (by simp)]; rfl) (fun kept => by
  unfold keepSpecific_b1
  dsimp only
  rw [if_neg (by simp)])]
 rfl
theorem scS_nonneg (b : YE) (e : Ent) (w : List Str) : 0 ≤ scS b e w := by
 unfold scS
 split
 ·omega
 ·have : ∀ (l : List (List Str)) (n : Int), 0 ≤ n → 0 ≤ l.foldl (scF w) n := by
   intro l
   induction l with
   | nil => intro n h; exact h
   | cons a l ih =>
    intro n h
    refine ih _ ?_
    unfold scF
    split <;> omega
  exact this _ 0 (by omega)
theorem specS_ne {c : List Ent} (hne : c ≠ []) (w : List Str) : specS b w c ≠ [] := filter_max_ne hne (fun e _ => scS_nonneg b e w)
theorem specS_LV {c : List Ent} (hc : LV c) (w : List Str) : LV (specS b w c) := hc.filter _
theorem essS_ok : ∀ (cs : List Cp) {c : List Ent}, c ≠ [] → (essS b cs c).1 ≠ [] ∧ (∀ e, e ∈ (essS b cs c).1 → e ∈ c) ∧ (essS b cs c).1.length ≤ c.length
 | [], c, h => ⟨h, fun e he => he, Nat.le_refl _⟩
 | x :: r, c, h => by
  unfold essS
  split
  ·rename_i h1
   exact ⟨h1, fun e he => (List.mem_filter.1 he).1, List.length_filter_le _ _⟩
  ·exact essS_ok r h
theorem essS_LV {cs : List Cp} {c : List Ent} (hc : LV c) (hne : c ≠ []) : LV (essS b cs c).1 := by
 have h := essS_ok (b := b) cs hne
 exact ⟨Nat.le_trans h.2.2 hc.1, fun e he => hc.2 e (h.2.1 e he)⟩
theorem red_loop (hb : BB b) {c : List Ent} (hc : LV c) {cs : List Cp} (hl : cs.length ≤ 1000) (hw : ∀ x, x ∈ cs → x.Words.length ≤ 50) : ∀ (m k : Nat), k + m = cs.length →
    loopO (reduce_b1 b cs) ((k : Int), c) = some (if (essS b (cs.drop k) c).2 = true ∧ (essS b (cs.drop k) c).1.length = 1 then .inl (5, (essS b (cs.drop k) c).1.getD 0 default) else .inr (essS b (cs.drop k) c).1) := by
  intro m
  induction m with
  | zero =>
    intro k hk
    have : k = cs.length := by omega
    subst this
    rw [List.drop_length]
    refine loop_stop ?_
    unfold reduce_b1
    dsimp only
    rw [if_neg (by simp), if_neg (by simp [essS])]; rfl
  | succ m ih =>
    intro k hk
    have hlt : k < cs.length := by omega
    have hsc := scored_eq hb hc (hw _ (List.getElem_mem hlt))
    rw [List.drop_eq_getElem_cons hlt]
    have hfl := hc.filter (scored1 b cs[k].Words)
    have hbody : reduce_b1 b cs ((k : Int), c) = (if (((c.filter (scored1 b cs[k].Words)).length : Int) == (1 : Int)) = true then
              ((c.filter (scored1 b cs[k].Words))[0]?).bind fun x6 =>
                (cloneEntry x6).bind fun v7 =>
                  some (.inr (.inl ((5 : Int), v7)))
            else
              if (decide ((1 : Int) < ((c.filter (scored1 b cs[k].Words)).length : Int))) = true then
                some (.inr (.inr (c.filter (scored1 b cs[k].Words))))
              else
                some (.inl (((k + 1 : Nat) : Int), c))) := by
      unfold reduce_b1
      dsimp only
      rw [if_pos (decide_eq_true (by omega)), if_pos (by omega), itn, geq hlt, obs, hsc, obs, w64 (by omega)]; rfl
    unfold essS
    generalize hf : c.filter (scored1 b cs[k].Words) = f at hbody hfl
    by_cases h1 : f.length = 1
    · have hne : f ≠ [] := fun e => by rw [e] at h1; simp at h1
      obtain ⟨q1, q2⟩ := first_get h1
      rw [if_pos hne]
      rw [if_pos (by rw [beq_iff_eq]; omega), q1, obs, cloneEntry_eq (hfl.2 _ q2).1, obs] at hbody
      rw [loop_stop hbody, if_pos ⟨rfl, h1⟩]
    · rw [if_neg (by rw [beq_iff_eq]; omega)] at hbody
      by_cases h2 : 1 < f.length
      · have hne : f ≠ [] := fun e => by rw [e] at h2; simp at h2
        rw [if_pos hne]
        rw [if_pos (decide_eq_true (by omega))] at hbody
        rw [loop_stop hbody, if_neg (fun h => h1 h.2)]
      · have he : f = [] := List.eq_nil_of_length_eq_zero (by omega)
        rw [if_neg (show ¬ f ≠ [] from fun h => h he)]
        rw [if_neg (fun h => h2 (by have := of_decide_eq_true h; omega))] at hbody
        rw [loop_step hbody]
        exact ih (k + 1) (by omega)
theorem reduce_tail (hb : BB b) (hg : GB g) {c : List Ent} (hc : LV c) (hne : c ≠ []) : reduce_j1 b g c = some (tailS b g c) := by
 have hcw := char_words hg
 have ho := essS_ok (b := b) (isort (chars g)) hne
 have hlv := essS_LV (b := b) (cs := isort (chars g)) hc hne
 unfold reduce_j1 tailS
 rw [goodsCharacters_eq hg, obs]
 have h1 := red_loop hb hc (cs := isort (chars g)) (by omega) (fun x hx => by have := hcw.2 x hx; omega) (isort (chars g)).length 0 (by omega)
 rw [List.drop_zero, show (((0 : Nat)) : Int) = (0 : Int) from rfl] at h1
 rw [h1, obs]
 by_cases hcond : (essS b (isort (chars g)) c).2 = true ∧ (essS b (isort (chars g)) c).1.length = 1
 ·rw [if_pos hcond, if_pos hcond]
 ·rw [if_neg hcond, if_neg hcond]
  show reduce_j2 (essS b (isort (chars g)) c).1 = _
  obtain ⟨q1, q2, q3⟩ := lastD_get ho.1 hlv.1
  unfold reduce_j2
  rw [if_pos q2, q1, obs, cloneEntry_eq (hlv.2 _ q3).1]; rfl
theorem b1eq {basis : Int} : (bif (basis == (1 : Int)) then true else (basis == (2 : Int))) = decide (basis = 1 ∨ basis = 2) := by
 by_cases h1 : basis = 1
 ·rw [beq_iff_eq.2 h1, decide_eq_true (.inl h1)]; rfl
 ·rw [beq_eq_false_iff_ne.2 h1, cond_false]
  by_cases h2 : basis = 2
  ·rw [beq_iff_eq.2 h2, decide_eq_true (.inr h2)]
  ·rw [beq_eq_false_iff_ne.2 h2, decide_eq_false (by omega)]
theorem b78eq {n : Nat} {basis : Int} : (bif (bif ((n : Int) == (1 : Int)) then true else (basis == (7 : Int))) then true else (basis == (8 : Int))) = decide (n = 1 ∨ basis = 7 ∨ basis = 8) := by
 by_cases h1 : n = 1
 ·rw [beq_iff_eq.2 (by omega : (n : Int) = 1), decide_eq_true (.inl h1)]; rfl
 ·rw [beq_eq_false_iff_ne.2 (by omega : (n : Int) ≠ 1), cond_false]
  by_cases h2 : basis = 7
  ·rw [beq_iff_eq.2 h2, decide_eq_true (.inr (.inl h2))]; rfl
  ·rw [beq_eq_false_iff_ne.2 h2, cond_false]
   by_cases h3 : basis = 8
   ·rw [beq_iff_eq.2 h3, decide_eq_true (.inr (.inr h3))]
   ·rw [beq_eq_false_iff_ne.2 h3, decide_eq_false (by omega)]
theorem inceq {i : Bool} {basis : Int} : (bif i then (basis == (1 : Int)) else false) = decide (i = true ∧ basis = 1) := by
 cases i with
 | false => simp
 | true =>
  by_cases h1 : basis = 1
  ·rw [beq_iff_eq.2 h1, decide_eq_true ⟨rfl, h1⟩]; rfl
  ·rw [beq_eq_false_iff_ne.2 h1, decide_eq_false (fun h => h1 h.2)]; rfl
theorem reduce_eq (hb : BB b) (hg : GB g) (basis : Int) {c : List Ent} (hc : LV c) (hne : c ≠ []) : reduce b g basis c = some (reduceS b g basis c) := by
 have hp := List.length_pos_iff.2 hne
 have g1 := hg.words
 unfold reduce reduceS
 rw [if_neg (by rw [beq_iff_eq]; omega), b78eq]
 by_cases h1 : c.length = 1 ∨ basis = 7 ∨ basis = 8
 ·obtain ⟨q1, q2, q3⟩ := lastD_get hne hc.1
  rw [if_pos (decide_eq_true h1), if_pos h1, if_pos q2, q1, obs, cloneEntry_eq (hc.2 _ q3).1]; rfl
 ·rw [if_neg (fun h => h1 (of_decide_eq_true h)), if_neg h1, b1eq]
  by_cases h2 : basis = 1 ∨ basis = 2
  ·rw [if_pos (decide_eq_true h2), if_pos h2, inceq]
   have fin : ∀ w, w.length ≤ 50 → (∀ x, x ∈ w ↔ x ∈ specW g basis) → reduce_j3 b g c w = some (if (specS b (specW g basis) c).length = 1 then (4, (specS b (specW g basis) c).getD 0 default) else tailS b g (specS b (specW g basis) c)) := fun w hw hm => by
    have hlv := specS_LV (b := b) hc (specW g basis)
    unfold reduce_j3
    rw [mostSpecific_eq hb hc hw hm, obs]
    by_cases h3 : (specS b (specW g basis) c).length = 1
    ·obtain ⟨q1, q2⟩ := first_get h3
     rw [if_pos (by rw [beq_iff_eq]; omega), if_pos h3, q1, obs, cloneEntry_eq (hlv.2 _ q2).1]; rfl
    ·rw [if_neg (by rw [beq_iff_eq]; omega), if_neg h3, reduce_tail hb hg hlv (specS_ne hne _)]
   by_cases h3 : g.Incomplete = true ∧ basis = 1
   ·obtain ⟨r, er, hm, hrl⟩ := incompleteWords_ok hg
    rw [if_pos (decide_eq_true h3), er, obs]
    exact fin r (by omega) (fun x => by rw [hm]; unfold specW; rw [if_pos h3])
   ·rw [if_neg (fun h => h3 (of_decide_eq_true h))]
    exact fin g.Words (by omega) (fun x => by unfold specW; rw [if_neg h3])
  ·rw [if_neg (fun h => h2 (of_decide_eq_true h)), if_neg h2, reduce_tail hb hg hc hne]
theorem rSpecific_eq (hb : BB b) (hg : GB g) (basis : Int) {c : List Ent} (hc : LV c) : rSpecific b g basis c = some (if basis = 1 ∨ basis = 2 then specS b (specW g basis) c else c) := by
 have hcl := hc.1
 have g1 := hg.words
 have hn : (bif (basis != (1 : Int)) then (basis != (2 : Int)) else false) = !decide (basis = 1 ∨ basis = 2) := by
  rw [← b1eq]
  cases h1 : (basis == (1 : Int)) <;> cases h2 : (basis == (2 : Int)) <;> simp [bne, h1, h2]
 unfold rSpecific
 rw [hn]
 by_cases h2 : basis = 1 ∨ basis = 2
 ·rw [decide_eq_true h2, if_neg (by simp), if_pos h2, inceq]
  have fin : ∀ w, w.length ≤ 50 → (∀ x, x ∈ w ↔ x ∈ specW g basis) → rSpecific_j1 b c w = some (specS b (specW g basis) c) := fun w hw hm => by
   have hsc : ∀ e, scS b e w = scS b e (specW g basis) := fun e => scS_congr b e hm
   unfold rSpecific_j1
   rw [max_loop (l := c) (rSpecific_b2 b c w) (fun e => scS b e (specW g basis)) (fun i x m hx => by
    have hlt := zK1 hx
    have hxl := hc.2 x (List.mem_of_getElem? hx)
    unfold rSpecific_b2
    dsimp only
    rw [if_pos (decide_eq_true (by omega)), if_pos (by omega), itn, hx, obs, refScore_eq hb hxl.1 (by omega) (by omega), obs, w64 (by omega), hsc]; rfl) (fun m => by
    unfold rSpecific_b2
    dsimp only
    rw [if_neg (by simp)]), obs]
   show rSpecific_j2 b c w (mxL (fun e => scS b e (specW g basis)) c) = _
   unfold rSpecific_j2
   rw [keep_loop (l := c) (rSpecific_b1 b c w (mxL (fun e => scS b e (specW g basis)) c)) (fun e => scS b e (specW g basis) == mxL (fun e => scS b e (specW g basis)) c) (fun i x kept hx hk => by
    have hlt := zK1 hx
    have hxl := hc.2 x (List.mem_of_getElem? hx)
    unfold rSpecific_b1 rSpecific_j4
    dsimp only
    rw [if_pos (decide_eq_true (by omega)), if_pos (by omega), itn, hx, obs, refScore_eq hb hxl.1 (by omega) (by omega), obs, w64 (by omega), hsc]
    cases (scS b x (specW g basis) == mxL (fun e => scS b e (specW g basis)) c) with
    | true => rw [if_pos rfl, if_pos rfl, if_pos (by omega), obs, if_pos (by simp only [List.length_cons, List.length_nil]; omega)]; rfl
    | false => rw [if_neg (by simp), if_neg (by simp)]; rfl) (fun kept => by
    unfold rSpecific_b1
    dsimp only
    rw [if_neg (by simp)])]
   rfl
  by_cases h3 : g.Incomplete = true ∧ basis = 1
  ·obtain ⟨r, er, hm, hrl⟩ := rIncomplete_ok hg
   rw [if_pos (decide_eq_true h3), er, obs]
   exact fin r (by omega) (fun x => by rw [hm]; unfold specW; rw [if_pos h3])
  ·rw [if_neg (fun h => h3 (of_decide_eq_true h))]
   exact fin g.Words (by omega) (fun x => by unfold specW; rw [if_neg h3])
 ·rw [decide_eq_false h2, if_pos (by rfl), if_neg h2]
theorem ess_loop (hb : BB b) {c : List Ent} (hc : LV c) {cs : List Cp} (hl : cs.length ≤ 1000) (hw : ∀ x, x ∈ cs → x.Words.length ≤ 50) : ∀ (m k : Nat), k + m = cs.length →
  loopO (rEssential_b1 b c cs) (k : Int) = some (if (essS b (cs.drop k) c).2 = true then .inl ((essS b (cs.drop k) c).1, true) else .inr ()) := by
 have hcl := hc.1
 intro m
 induction m with
 | zero =>
  intro k hk
  have : k = cs.length := by omega
  subst this
  rw [List.drop_length]
  refine loop_stop ?_
  unfold rEssential_b1
  rw [if_neg (by simp), if_neg (by simp [essS])]
 | succ m ih =>
  intro k hk
  have hlt : k < cs.length := by omega
  have hwk := hw _ (List.getElem_mem hlt)
  rw [List.drop_eq_getElem_cons hlt]
  have hbody : rEssential_b1 b c cs (k : Int) = rEssential_j3 b c cs (k : Int) (c.filter (scored1 b cs[k].Words)) := by
   unfold rEssential_b1
   rw [if_pos (decide_eq_true (by omega)), keep_loop (l := c) (rEssential_b2 b c cs (k : Int)) (scored1 b cs[k].Words) (fun i x kept hx hk2 => by
    have hlt2 := zK1 hx
    have hxl := hc.2 x (List.mem_of_getElem? hx)
    unfold rEssential_b2 rEssential_j4
    dsimp only
    rw [if_pos (decide_eq_true (by omega)), if_pos (by omega), itn, hx, obs, if_pos (by omega), itn, geq hlt, obs, refScore_eq hb hxl.1 (by omega) (by omega), obs, w64 (by omega)]
    unfold scored1
    by_cases hs : 0 < scS b x cs[k].Words
    ·rw [decide_eq_true hs, if_pos rfl, if_pos rfl, if_pos (by omega), obs, if_pos (by simp only [List.length_cons, List.length_nil]; omega)]; rfl
    ·rw [decide_eq_false hs, if_neg (by simp), if_neg (by simp)]; rfl) (fun kept => by
    unfold rEssential_b2
    dsimp only
    rw [if_neg (by simp)])]
   rfl
  unfold rEssential_j3 rEssential_j2 at hbody
  rw [pos_iff] at hbody
  unfold essS
  by_cases h1 : c.filter (scored1 b cs[k].Words) ≠ []
  ·rw [if_pos (decide_eq_true h1)] at hbody
   rw [if_pos h1, loop_stop hbody, if_pos rfl]
  ·rw [if_neg (fun h => h1 (of_decide_eq_true h)), w64 (by omega)] at hbody
   rw [if_neg h1, loop_step (x := ((k + 1 : Nat) : Int)) hbody]
   exact ih (k + 1) (by omega)
theorem essS_none : ∀ (cs : List Cp) (c : List Ent), (essS b cs c).2 = false → (essS b cs c).1 = c
 | [], c, _ => rfl
 | x :: r, c, h => by
  unfold essS at h ⊢
  split at h
  ·cases h
  ·rename_i h1
   rw [if_neg h1]
   exact essS_none r c h
theorem rEssential_eq (hb : BB b) (hg : GB g) {c : List Ent} (hc : LV c) : rEssential b g c = some (essS b (isort (chars g)) c) := by
 have hcw := char_words hg
 unfold rEssential
 rw [refCharacters_eq hg, obs]
 have h1 := ess_loop hb hc (cs := isort (chars g)) (by omega) (fun x hx => by have := hcw.2 x hx; omega) (isort (chars g)).length 0 (by omega)
 rw [List.drop_zero, show (((0 : Nat)) : Int) = (0 : Int) from rfl] at h1
 rw [h1, obs]
 cases h2 : (essS b (isort (chars g)) c).2 with
 | true =>
  rw [if_pos rfl]
  show some ((essS b (isort (chars g)) c).1, true) = _
  rw [← h2]
 | false =>
  rw [if_neg (by simp)]
  show some (c, false) = _
  exact congrArg some (Prod.ext (essS_none (b := b) (isort (chars g)) c h2).symm h2.symm)
theorem rReduce_eq (hb : BB b) (hg : GB g) (basis : Int) {c : List Ent} (hc : LV c) (hne : c ≠ []) : rReduce b g basis c = some (reduceS b g basis c) := by
  unfold rReduce reduceS
  rw [b78eq]
  by_cases h1 : c.length = 1 ∨ basis = 7 ∨ basis = 8
  · obtain ⟨q1, q2, q3⟩ := lastD_get hne hc.1
    rw [if_pos (decide_eq_true h1), if_pos h1, if_pos q2, q1]; rfl
  · rw [if_neg (fun h => h1 (of_decide_eq_true h)), if_neg h1, rSpecific_eq hb hg basis hc, obs, b1eq]
    have fin : ∀ s : List Ent, LV s → s ≠ [] → ((rEssential b g s).bind fun v2 =>
          if (bif v2.2 then ((v2.1.length : Int) == (1 : Int)) else false) = true then
            (v2.1[0]?).bind fun x3 =>
              some ((5 : Int), x3)
          else
            if (0 ≤ (IntKind.i64.wrap ((v2.1.length : Int) - (1 : Int)))) then
              (v2.1[(IntKind.i64.wrap ((v2.1.length : Int) - (1 : Int))).toNat]?).bind fun x4 =>
                some ((6 : Int), x4)
            else none) = some (tailS b g s) := fun s hs hsne => by
      have ho := essS_ok (b := b) (isort (chars g)) hsne
      have hlv := essS_LV (b := b) (cs := isort (chars g)) hs hsne
      rw [rEssential_eq hb hg hs, obs]
      unfold tailS
      have hcnd : (bif (essS b (isort (chars g)) s).2 then (((essS b (isort (chars g)) s).1.length : Int) == (1 : Int)) else false) = decide ((essS b (isort (chars g)) s).2 = true ∧ (essS b (isort (chars g)) s).1.length = 1) := by
        cases (essS b (isort (chars g)) s).2 with
        | false => simp
        | true =>
          by_cases h3 : (essS b (isort (chars g)) s).1.length = 1
          · rw [decide_eq_true ⟨rfl, h3⟩, cond_true, beq_iff_eq]; omega
          · rw [decide_eq_false (fun h => h3 h.2), cond_true, beq_eq_false_iff_ne]; omega
      rw [hcnd]
      by_cases h3 : (essS b (isort (chars g)) s).2 = true ∧ (essS b (isort (chars g)) s).1.length = 1
      · obtain ⟨q1, q2⟩ := first_get h3.2
        rw [if_pos (decide_eq_true h3), if_pos h3, q1]; rfl
      · obtain ⟨q1, q2, q3⟩ := lastD_get ho.1 hlv.1
        rw [if_neg (fun h => h3 (of_decide_eq_true h)), if_neg h3, if_pos q2, q1]; rfl
    by_cases h2 : basis = 1 ∨ basis = 2
    · rw [if_pos h2, if_pos h2, decide_eq_true h2]
      by_cases h3 : (specS b (specW g basis) c).length = 1
      · obtain ⟨q1, q2⟩ := first_get h3
        rw [beq_iff_eq.2 (by omega : ((specS b (specW g basis) c).length : Int) = 1), if_pos (by rfl), if_pos h3, q1]; rfl
      · rw [beq_eq_false_iff_ne.2 (by omega : ((specS b (specW g basis) c).length : Int) ≠ 1), if_neg (by simp), if_neg h3]
        exact fin _ (specS_LV hc _) (specS_ne hne _)
    · rw [if_neg h2, if_neg h2, decide_eq_false h2, if_neg (by cases ((c.length : Int) == (1 : Int)) <;> simp)]
      exact fin c hc hne
theorem reduceS_mem {basis : Int} {c : List Ent} (hl : c.length ≤ 1000) (hne : c ≠ []) : (reduceS b g basis c).2 ∈ c := by
 have tl : ∀ s : List Ent, s.length ≤ 1000 → s ≠ [] → (tailS b g s).2 ∈ s := fun s hs hsne => by
  have ho := essS_ok (b := b) (isort (chars g)) hsne
  unfold tailS
  split
  ·rename_i h; exact ho.2.1 _ (first_get h.2).2
  ·exact ho.2.1 _ (lastD_get ho.1 (Nat.le_trans ho.2.2 hs)).2.2
 unfold reduceS
 split
 ·exact (lastD_get hne hl).2.2
 ·split
  ·have hm : ∀ e, e ∈ specS b (specW g basis) c → e ∈ c := fun e he => (List.mem_filter.1 he).1
   split
   ·rename_i h; exact hm _ (first_get h).2
   ·exact hm _ (tl _ (Nat.le_trans (List.length_filter_le _ _) hl) (specS_ne hne _))
  ·exact tl c hl hne
end Go.C
end
section
set_option linter.unusedVariables false
set_option linter.unusedSimpArgs false
namespace Go.C
open Go.V
variable {b : YE} {g : YR}
abbrev Stp := YL
theorem below_len {code : Str} {e : Ent} (h : below code e = true) : code.length + 2 ≤ e.Code.length ∧ 4 ≤ e.Code.length ∨ (code ≠ [] ∧ e.Code.length = code.length + 2) := by
 unfold below at h
 split at h
 ·rename_i hc
  have := of_decide_eq_true h
  subst hc
  left; simp; omega
 ·rename_i hc
  have h2 := of_decide_eq_true h
  right
  refine ⟨hc, ?_⟩
  have := congrArg List.length h2.2
  unfold parent at this
  rw [List.length_take] at this
  omega
theorem basisL_sub (top : Bool) (l : List Ent) : ∀ e, e ∈ (basisL b g top l).2 → e ∈ l := fun e he => by
 unfold basisL at he
 repeat' split at he
 all_goals first | exact (List.mem_filter.1 he).1 | cases he
theorem basisL_len (top : Bool) (l : List Ent) : (basisL b g top l).2.length ≤ l.length := by
 unfold basisL
 repeat' split
 all_goals first | exact List.length_filter_le _ _ | simp
theorem basisS_mem {day : Int} {code : Str} {e : Ent} (he : e ∈ (basisS b day g code).2) : e ∈ b.Entries ∧ onDay day e = true ∧ below code e = true := by
 have h1 := basisL_sub _ _ e he
 have h2 := List.mem_filter.1 h1
 have h3 := List.mem_filter.1 h2.1
 exact ⟨h3.1, h3.2, h2.2⟩
theorem basisS_LV (hb : VB b) (day : Int) (code : Str) : LV (basisS b day g code).2 := by
 have hl := belS_LV hb day code
 exact ⟨Nat.le_trans (basisL_len _ _) hl.1, fun e he => hl.2 e (basisL_sub _ _ e he)⟩
def stepS (b : YE) (day : Int) (g : YR) (code : Str) : Stp :=
 ⟨code, (basisS b day g code).1, (basisS b day g code).2.map (·.Code), (reduceS b g (basisS b day g code).1 (basisS b day g code).2).1, (reduceS b g (basisS b day g code).1 (basisS b day g code).2).2.Code⟩
def clsS (b : YE) (day : Int) (g : YR) : Nat → Str → List Stp → Str × List Stp
 | 0, c, s => (c, s)
 | n + 1, c, s => if (basisS b day g c).2 = [] then (c, s) else clsS b day g n (stepS b day g c).Chosen (s ++ [stepS b day g c])
theorem chosen_len (hb : VB b) {day : Int} {code : Str} (hne : (basisS b day g code).2 ≠ []) : code.length + 2 ≤ (stepS b day g code).Chosen.length ∧ 4 ≤ (stepS b day g code).Chosen.length ∨ (code ≠ [] ∧ (stepS b day g code).Chosen.length = code.length + 2) :=
 below_len (basisS_mem (reduceS_mem (b := b) (g := g) (basis := (basisS b day g code).1) (basisS_LV hb day code).1 hne)).2.2
theorem chosen_two (hb : VB b) {day : Int} {code : Str} (hne : (basisS b day g code).2 ≠ []) : code.length + 2 ≤ (stepS b day g code).Chosen.length := by
 rcases chosen_len (g := g) hb hne with h | h <;> omega
theorem basis_far (hb : VB b) {day : Int} {code : Str} (h : 8 < code.length) : (basisS b day g code).2 = [] := by
 apply List.eq_nil_iff_forall_not_mem.2
 intro e he
 have h1 := basisS_mem he
 have h2 := (hb.code e h1.1).2
 rcases below_len h1.2.2 with h3 | h3 <;> omega
theorem cls_loops (hb : VB b) (hg : GB g) (day : Int) : ∀ (n : Nat) (code : Str) (steps : List Stp), 8 < code.length + 2 * n → code.length ≤ 1000 → steps.length + n ≤ 100 →
  loopO (classify_b1 b day g) (code, steps) = some (clsS b day g n code steps) ∧ loopO (rClassify_b1 b day g) (steps, code) = some ((clsS b day g n code steps).2, (clsS b day g n code steps).1) := by
 intro n
 have stop : ∀ (code : Str) (steps : List Stp), code.length ≤ 1000 → (basisS b day g code).2 = [] → classify_b1 b day g (code, steps) = some (.inr (code, steps)) ∧ rClassify_b1 b day g (steps, code) = some (.inr (steps, code)) := fun code steps hc h0 => by
  unfold classify_b1 rClassify_b1
  dsimp only
  rw [basis_eq hb hg day code, obs, rBasis_eq hb hg day (by omega), obs, if_pos (by rw [h0]; rfl), if_pos (by rw [h0]; rfl)]
  exact ⟨rfl, rfl⟩
 induction n with
 | zero =>
  intro code steps h8 hc hs
  obtain ⟨h1, h2⟩ := stop code steps hc (basis_far hb (by omega))
  exact ⟨loop_stop h1, loop_stop h2⟩
 | succ n ih =>
  intro code steps h8 hc hs
  unfold clsS
  by_cases h0 : (basisS b day g code).2 = []
  ·obtain ⟨h1, h2⟩ := stop code steps hc h0
   rw [if_pos h0]
   exact ⟨loop_stop h1, loop_stop h2⟩
  ·rw [if_neg h0]
   have hlv := basisS_LV (g := g) hb day code
   have hlen := List.length_pos_iff.2 h0
   have hch := chosen_two (g := g) hb h0
   have hmem := basisS_mem (reduceS_mem (b := b) (g := g) (basis := (basisS b day g code).1) hlv.1 h0)
   have hc8 : (stepS b day g code).Chosen.length ≤ 8 := (hb.code _ hmem.1).2
   obtain ⟨i1, i2⟩ := ih (stepS b day g code).Chosen (steps ++ [stepS b day g code]) (by omega) (by omega) (by simp only [List.length_append, List.length_cons, List.length_nil]; omega)
   have hb1 : classify_b1 b day g (code, steps) = some (.inl ((stepS b day g code).Chosen, steps ++ [stepS b day g code])) := by
    unfold classify_b1
    dsimp only
    rw [basis_eq hb hg day code, obs, if_neg (by rw [beq_iff_eq]; omega), reduce_eq hb.bb hg _ hlv h0, obs]
    have hl := loop_seq (f := classify_b2 b day g code (basisS b day g code) (reduceS b g (basisS b day g code).1 (basisS b day g code).2)) (basisS b day g code).2.length (fun i => ((i : Int), steps, ((basisS b day g code).2.take i).map (·.Code))) (steps, (basisS b day g code).2.map (·.Code)) (fun i hi => by
     have := hlv.1
     unfold classify_b2
     dsimp only
     rw [if_pos (decide_eq_true (by omega)), if_pos (by omega), itn, geq hi, obs, if_pos (by simp only [List.length_map, List.length_take, List.length_cons, List.length_nil]; omega), w64 (by omega), take_snoc hi, List.map_append]; rfl) (by
     unfold classify_b2
     dsimp only
     rw [if_neg (by simp), List.take_length])
    have hl' : loopO (classify_b2 b day g code (basisS b day g code) (reduceS b g (basisS b day g code).1 (basisS b day g code).2)) ((0 : Int), steps, ([] : List Str)) = some (steps, (basisS b day g code).2.map (·.Code)) := hl
    rw [hl', obs]
    show classify_j2 b day g code (basisS b day g code) (reduceS b g (basisS b day g code).1 (basisS b day g code).2) steps ((basisS b day g code).2.map (·.Code)) = _
    unfold classify_j2
    rw [if_pos (by simp only [List.length_cons, List.length_nil]; omega)]; rfl
   have hb2 : rClassify_b1 b day g (steps, code) = some (.inl (steps ++ [stepS b day g code], (stepS b day g code).Chosen)) := by
    unfold rClassify_b1
    dsimp only
    rw [rBasis_eq hb hg day (by omega), obs, if_neg (by rw [beq_iff_eq]; omega), rReduce_eq hb.bb hg _ hlv h0, obs]
    have hl := loop_seq (f := rCodes_b1 (basisS b day g code).2) (basisS b day g code).2.length (fun i => ((i : Int), ((basisS b day g code).2.take i).map (·.Code))) ((basisS b day g code).2.map (·.Code)) (fun i hi => by
     have := hlv.1
     unfold rCodes_b1
     dsimp only
     rw [if_pos (decide_eq_true (by omega)), if_pos (by omega), itn, geq hi, obs, if_pos (by simp only [List.length_map, List.length_take, List.length_cons, List.length_nil]; omega), w64 (by omega), take_snoc hi, List.map_append]; rfl) (by
     unfold rCodes_b1
     dsimp only
     rw [if_neg (by simp), List.take_length])
    have hl' : rCodes (basisS b day g code).2 = some ((basisS b day g code).2.map (·.Code)) := by
     unfold rCodes
     have hl2 : loopO (rCodes_b1 (basisS b day g code).2) ((0 : Int), ([] : List Str)) = some ((basisS b day g code).2.map (·.Code)) := hl
     rw [hl2]; rfl
    rw [hl', obs, if_pos (by simp only [List.length_cons, List.length_nil]; omega)]; rfl
   exact ⟨by rw [loop_step hb1]; exact i1, by rw [loop_step hb2]; exact i2⟩
theorem clsS_end (hb : VB b) {day : Int} : ∀ (n : Nat) (c : Str) (s : List Stp), (clsS b day g n c s = (c, s)) ∨ (2 ≤ (clsS b day g n c s).1.length ∧ (clsS b day g n c s).2 ≠ [])
 | 0, c, s => .inl rfl
 | n + 1, c, s => by
  unfold clsS
  split
  ·exact .inl rfl
  ·rename_i h0
   rcases clsS_end hb n (stepS b day g c).Chosen (s ++ [stepS b day g c]) with h | h
   ·right
    rw [h]
    have h1 := chosen_two (g := g) hb h0
    exact ⟨by show 2 ≤ (stepS b day g c).Chosen.length; omega, by simp⟩
   ·exact .inr h
def classR (b : YE) (day : Int) (g : YR) : Str × List Stp × Int :=
  if nv b ≠ 0 then ([], [], nv b) else if gv g ≠ 0 then ([], [], gv g) else if day < 0 ∨ 36524 < day then ([], [], 2)
  else if (clsS b day g 5 [] []).2 = [] then ([], [], 7) else ((clsS b day g 5 [] []).1, (clsS b day g 5 [] []).2, 0)
theorem dayeq {day : Int} : (bif (decide (day < (0 : Int))) then true else (decide ((36524 : Int) < day))) = decide (day < 0 ∨ 36524 < day) := by
 by_cases h1 : day < 0 <;> by_cases h2 : 36524 < day <;> simp [h1, h2]
theorem classR_1 {b : YE} {day : Int} {g : YR} (h1 : nv b ≠ 0) : classR b day g = ([], [], nv b) := by
 unfold classR; rw [if_pos h1]
theorem classR_2 {b : YE} {day : Int} {g : YR} (h1 : nv b = 0) (h2 : gv g ≠ 0) : classR b day g = ([], [], gv g) := by
 unfold classR; rw [if_neg (fun h => h h1), if_pos h2]
theorem classR_3 {b : YE} {day : Int} {g : YR} (h1 : nv b = 0) (h2 : gv g = 0) (h3 : day < 0 ∨ 36524 < day) : classR b day g = ([], [], 2) := by
 unfold classR; rw [if_neg (fun h => h h1), if_neg (fun h => h h2), if_pos h3]
theorem classR_4 {b : YE} {day : Int} {g : YR} (h1 : nv b = 0) (h2 : gv g = 0) (h3 : ¬ (day < 0 ∨ 36524 < day)) : classR b day g = if (clsS b day g 5 [] []).2 = [] then ([], [], 7) else ((clsS b day g 5 [] []).1, (clsS b day g 5 [] []).2, 0) := by
 unfold classR; rw [if_neg (fun h => h h1), if_neg (fun h => h h2), if_neg h3]
theorem classify_eq (b : YE) (day : Int) (g : YR) : classify b day g = some (classR b day g) := by
 unfold classify
 rw [nomValidate_eq, obs]
 by_cases h1 : nv b = 0
 ·rw [if_neg (by rw [eqI h1]; simp), goodsValidate_eq, obs]
  by_cases h2 : gv g = 0
  ·rw [if_neg (by rw [eqI h2]; simp), dayeq]
   by_cases h3 : day < 0 ∨ 36524 < day
   ·rw [if_pos (decide_eq_true h3), classR_3 h1 h2 h3]
   ·rw [if_neg (fun h => h3 (of_decide_eq_true h)), classR_4 h1 h2 h3]
    have hl := (cls_loops (nv_VB h1) (gv_gok h2).GB day 5 [] [] (by simp) (by simp) (by simp)).1
    rw [hl, obs]
    show classify_j1 (clsS b day g 5 [] []).1 (clsS b day g 5 [] []).2 = _
    unfold classify_j1
    by_cases h4 : (clsS b day g 5 [] []).2 = []
    ·rw [if_pos (by rw [h4]; rfl), if_pos h4]
    ·have := List.length_pos_iff.2 h4
     rw [if_neg (by rw [beq_iff_eq]; omega), if_neg h4]
  ·rw [if_pos (neI h2), classR_2 h1 h2]
 ·rw [if_pos (neI h1), classR_1 h1]
theorem rClassify_eq {b : YE} (hok : okG b) (day : Int) {g : YR} (hgk : okT g) : rClassify b day g = some (classR b day g) := by
 unfold rClassify
 rw [refBook_eq hok, obs]
 by_cases h1 : nv b = 0
 ·rw [if_neg (by rw [eqI h1]; simp), refGood_eq g hgk, obs]
  by_cases h2 : gv g = 0
  ·rw [if_neg (by rw [eqI h2]; simp), dayeq]
   by_cases h3 : day < 0 ∨ 36524 < day
   ·rw [if_pos (decide_eq_true h3), classR_3 h1 h2 h3]
   ·rw [if_neg (fun h => h3 (of_decide_eq_true h)), classR_4 h1 h2 h3]
    have hl := (cls_loops (nv_VB h1) (gv_gok h2).GB day 5 [] [] (by simp) (by simp) (by simp)).2
    rw [hl, obs]
    show rClassify_j1 (clsS b day g 5 [] []).2 (clsS b day g 5 [] []).1 = _
    unfold rClassify_j1
    rcases clsS_end (g := g) (nv_VB h1) (day := day) 5 [] [] with h4 | ⟨h4, h5⟩
    ·rw [h4]; rfl
    ·have h6 : (clsS b day g 5 [] []).1 ≠ [] := fun e => by rw [e] at h4; simp at h4
     rw [if_neg (fun h => h6 (beq_iff_eq.1 h)), if_neg h5]
  ·rw [if_pos (neI h2), classR_2 h1 h2]
 ·rw [if_pos (neI h1), classR_1 h1]
def SB (s : List Stp) : Prop := s.length ≤ 1000 ∧ ∀ x, x ∈ s → x.Candidates.length ≤ 1000
theorem clsS_SB (hb : VB b) {day : Int} : ∀ (n : Nat) (c : Str) (s : List Stp), s.length + n ≤ 1000 → (∀ x, x ∈ s → x.Candidates.length ≤ 1000) → SB (clsS b day g n c s).2
 | 0, c, s, h1, h2 => ⟨by simpa [clsS] using h1, by simpa [clsS] using h2⟩
 | n + 1, c, s, h1, h2 => by
  unfold clsS
  split
  ·exact ⟨by simp only; omega, h2⟩
  ·refine clsS_SB hb n _ _ (by simp only [List.length_append, List.length_cons, List.length_nil]; omega) (fun x hx => ?_)
   rcases List.mem_append.1 hx with hx | hx
   ·exact h2 x hx
   ·rw [List.mem_singleton.1 hx]
    show ((basisS b day g c).2.map (·.Code)).length ≤ 1000
    rw [List.length_map]; exact (basisS_LV hb day c).1
theorem classR_SB (b : YE) (day : Int) (g : YR) : SB (classR b day g).2.1 := by
 have h0 : SB [] := ⟨by simp, fun x hx => by cases hx⟩
 unfold classR
 split
 ·exact h0
 ·rename_i h1
  split
  ·exact h0
  ·split
   ·exact h0
   ·split
    ·exact h0
    ·exact clsS_SB (nv_VB (Classical.not_not.1 h1)) 5 [] [] (by simp) (fun x hx => by cases hx)
theorem NMade.VB {b : YE} (h : NMade b) : VB b := nv_VB h.nv
end Go.C
end
section
set_option linter.unusedVariables false
set_option linter.unusedSimpArgs false
namespace Go.C
open Go.V
variable {b : YE} {g : YR}
theorem subS_up {a w u : List Str} (h : ∀ x, x ∈ w → x ∈ u) (hs : subS a w = true) : subS a u = true := by
 unfold subS at hs ⊢
 rw [List.all_eq_true] at hs ⊢
 exact fun x hx => List.contains_iff_mem.2 (h x (List.contains_iff_mem.1 (hs x hx)))
theorem exS_down {c : Str} {w u : List Str} (h : ∀ x, x ∈ w → x ∈ u) (hs : exS b c u = false) : exS b c w = false := by
 cases h1 : exS b c w with
 | false => rfl
 | true =>
  have h2 : exS b c u = true := by
   unfold exS at h1 ⊢
   rw [List.any_eq_true] at h1 ⊢
   obtain ⟨n, hn, h3⟩ := h1
   rw [Bool.and_eq_true] at h3
   exact ⟨n, hn, by rw [Bool.and_eq_true]; exact ⟨h3.1, subS_up h h3.2⟩⟩
  rw [h2] at hs; cases hs
theorem scored_ex {w : List Str} {e : Ent} (h : scored1 b w e = true) : exS b e.Code w = false := by
 unfold scored1 scS at h
 cases hx : exS b e.Code w with
 | false => rfl
 | true => rw [hx, if_pos rfl] at h; simp at h
theorem lik_ex {e : Ent} (h : 0 < likS b e g) : exS b e.Code g.Words = false := by
 unfold likS at h
 cases hx : exS b e.Code g.Words with
 | false => rfl
 | true => rw [hx, if_pos rfl] at h; simp at h
theorem cand_ex {top : Bool} {level : List Ent} {e : Ent} (he : e ∈ (basisL b g top level).2) (h3 : (basisL b g top level).1 ≠ 3) (h8 : (basisL b g top level).1 ≠ 8) (h7 : (basisL b g top level).1 = 7 → top = true) : exS b e.Code g.Words = false := by
 unfold basisL at he h3 h8 h7
 by_cases c1 : candS b g top level 1 ≠ []
 ·rw [if_pos c1] at he
  have h := (List.mem_filter.1 he).2
  have h' : termsS b g e = true := h
  unfold termsS at h'
  split at h'
  ·rw [Bool.and_eq_true] at h'
   exact exS_down (u := incW g) (fun x hx => by unfold incW; simp [hx]) (by simpa using h'.1)
  ·exact scored_ex h'
 rw [if_neg c1] at he h3 h8 h7
 by_cases c2 : candS b g top level 2 ≠ []
 ·rw [if_pos c2] at he
  have h : (g.Incomplete && scored1 b g.Words e) = true := (List.mem_filter.1 he).2
  rw [Bool.and_eq_true] at h
  exact scored_ex h.2
 rw [if_neg c2] at he h3 h8 h7
 by_cases c3 : candS b g top level 3 ≠ []
 ·rw [if_pos c3] at h3; exact absurd rfl h3
 rw [if_neg c3] at he h3 h8 h7
 by_cases c4 : candS b g top level 4 ≠ []
 ·rw [if_pos c4] at h8; exact absurd rfl h8
 rw [if_neg c4] at he h3 h8 h7
 by_cases c5 : candS b g top level 5 ≠ []
 ·rw [if_pos c5] at he
  have h : (decide (0 < bestS b g level) && (likS b e g == bestS b g level)) = true := (List.mem_filter.1 he).2
  rw [Bool.and_eq_true, decide_eq_true_eq, beq_iff_eq] at h
  exact lik_ex (by omega)
 rw [if_neg c5] at he h3 h8 h7
 by_cases c6 : candS b g top level 6 ≠ []
 ·rw [if_pos c6] at he h7
  have ht := h7 rfl
  have h : (!top) = true := (List.mem_filter.1 he).2
  rw [ht] at h; cases h
 ·rw [if_neg c6] at he; cases he
def lastC (s : List Stp) : Str := match s.getLast? with | some x => x.Chosen | none => []
theorem lastC_snoc (s : List Stp) (x : Stp) : lastC (s ++ [x]) = x.Chosen := by
 unfold lastC; rw [List.getLast?_append]; rfl
def StpOk (b : YE) (day : Int) (g : YR) (s : List Stp) (i : Nat) (x : Stp) : Prop :=
 x.Parent = lastC (s.take i) ∧ x.Chosen ∈ x.Candidates ∧ (∃ e, e ∈ atS b day ∧ e.Code = x.Chosen) ∧ x.Chosen.length = 4 + 2 * i ∧ (x.Basis ≠ 3 → x.Basis ≠ 8 → (x.Basis = 7 → i = 0) → exS b x.Chosen g.Words = false)
def Chain (b : YE) (day : Int) (g : YR) (s : List Stp) : Prop := ∀ i x, s[i]? = some x → StpOk b day g s i x
theorem Chain.step (hb : VB b) {day : Int} {s : List Stp} (hs : Chain b day g s) (hl : (lastC s).length = if s = [] then 0 else 2 + 2 * s.length) (hne : (basisS b day g (lastC s)).2 ≠ []) : Chain b day g (s ++ [stepS b day g (lastC s)]) ∧ (lastC (s ++ [stepS b day g (lastC s)])).length = 2 + 2 * (s ++ [stepS b day g (lastC s)]).length := by
 have hlv := basisS_LV (g := g) hb day (lastC s)
 have hm := reduceS_mem (b := b) (g := g) (basis := (basisS b day g (lastC s)).1) hlv.1 hne
 have hmem := basisS_mem hm
 have hchl : (stepS b day g (lastC s)).Chosen.length = 4 + 2 * s.length := by
  have h5 := hmem.2.2
  unfold below at h5
  by_cases h0 : s = []
  ·rw [if_pos h0] at hl
   have hc : lastC s = [] := List.eq_nil_of_length_eq_zero hl
   rw [if_pos hc] at h5
   have := of_decide_eq_true h5
   rw [h0]; rw [h0] at this; exact this
  ·rw [if_neg h0] at hl
   have hc : lastC s ≠ [] := fun e => by rw [e] at hl; simp at hl; omega
   rw [if_neg hc] at h5
   have h6 := of_decide_eq_true h5
   have h7 := congrArg List.length h6.2
   unfold parent at h7
   rw [List.length_take] at h7
   show (reduceS b g (basisS b day g (lastC s)).1 (basisS b day g (lastC s)).2).2.Code.length = _
   omega
 have hnew : StpOk b day g s s.length (stepS b day g (lastC s)) := by
  refine ⟨by rw [List.take_length]; rfl, List.mem_map.2 ⟨_, hm, rfl⟩, ⟨_, List.mem_filter.2 ⟨hmem.1, hmem.2.1⟩, rfl⟩, hchl, fun h3 h8 h7 => ?_⟩
  refine cand_ex (top := decide (lastC s = [])) hm h3 h8 (fun h => ?_)
  have h0 := h7 h
  have h1 : s = [] := List.eq_nil_of_length_eq_zero h0
  rw [h1]; rfl
 refine ⟨fun i x hx => ?_, by rw [lastC_snoc, hchl]; simp only [List.length_append, List.length_cons, List.length_nil]; omega⟩
 rcases Nat.lt_trichotomy i s.length with h | h | h
 ·rw [List.getElem?_append_left h] at hx
  have h1 := hs i x hx
  unfold StpOk at h1 ⊢
  rw [List.take_append_of_le_length (by omega)]
  exact h1
 ·subst h
  rw [List.getElem?_append_right (Nat.le_refl _), Nat.sub_self] at hx
  cases hx
  unfold StpOk at hnew ⊢
  rw [List.take_append_of_le_length (Nat.le_refl _)]
  exact hnew
 ·have := zK1 hx
  simp only [List.length_append, List.length_cons, List.length_nil] at this
  omega
theorem classR_made {b : YE} (hb : NMade b) {g : YR} (hg : gv g = 0) (d : Int) : classR b (d % 16) g = ([], [], 7) ∨ (classR b (d % 16) g = ((clsS b (d % 16) g 5 [] []).1, (clsS b (d % 16) g 5 [] []).2, 0) ∧ (clsS b (d % 16) g 5 [] []).2 ≠ []) := by
  rw [classR_4 hb.nv hg (by omega)]
  by_cases h : (clsS b (d % 16) g 5 [] []).2 = []
  · rw [if_pos h]; exact .inl rfl
  · rw [if_neg h]; exact .inr ⟨rfl, h⟩
section
variable {E E2 : List Ent} {Nn : List YW}
end
end Go.C
end
end zWd
noncomputable section zTi
set_option linter.unusedVariables false
set_option linter.unusedSimpArgs false
namespace Go.C
open Go.V
variable {b : YE} {g : YR}
def eqSt (x y : Stp) : Bool := x.Parent == y.Parent && x.Basis == y.Basis && x.Rule == y.Rule && x.Chosen == y.Chosen && x.Candidates == y.Candidates
theorem eqSt_iff {x y : Stp} : eqSt x y = true ↔ x = y := by
 unfold eqSt
 simp only [Bool.and_eq_true, beq_iff_eq]
 constructor
 ·rintro ⟨⟨⟨⟨h1, h2⟩, h3⟩, h4⟩, h5⟩
  cases x; cases y
  simp only at h1 h2 h3 h4 h5
  subst h1; subst h2; subst h3; subst h4; subst h5; rfl
 ·rintro rfl; exact ⟨⟨⟨⟨rfl, rfl⟩, rfl⟩, rfl⟩, rfl⟩
abbrev BL (n : Nat) : Prop := n ≤ 9223372036854775807
theorem cmp_loop {α τ : Type} {s1 s2 : List α} (q : α → α → Bool) (hq : ∀ x y, q x y = true ↔ x = y) (hl : s1.length = s2.length) (f : Int → Option (Int ⊕ τ)) (bad good : τ)
    (hgo : ∀ (i : Nat) x y, s1[i]? = some x → s2[i]? = some y → f (i : Int) = if q x y = true then some (.inl ((i + 1 : Nat) : Int)) else some (.inr bad)) (hend : f (s1.length : Int) = some (.inr good)) :
    ∃ r, loopO f (0 : Int) = some r ∧ ((r = good ∧ s1 = s2) ∨ (r = bad ∧ s1 ≠ s2)) := by
  have key : ∀ m k, k + m = s1.length → ∃ r, loopO f (k : Int) = some r ∧ ((r = good ∧ s1.drop k = s2.drop k) ∨ (r = bad ∧ s1.drop k ≠ s2.drop k)) := by
    intro m
    induction m with
    | zero =>
      intro k hk
      have : k = s1.length := by omega
      subst this
      exact ⟨good, loop_stop hend, .inl ⟨rfl, by rw [List.drop_length, hl, List.drop_length]⟩⟩
    | succ m ih =>
      intro k hk
      have h1 : k < s1.length := by omega
      have h2 : k < s2.length := by omega
      have hb := hgo k _ _ (geq h1) (geq h2)
      rw [List.drop_eq_getElem_cons h1, List.drop_eq_getElem_cons h2]
      by_cases he : q s1[k] s2[k] = true
      · rw [if_pos he] at hb
        have he2 := (hq _ _).1 he
        obtain ⟨r, hr, h3⟩ := ih (k + 1) (by omega)
        refine ⟨r, by rw [loop_step hb]; exact hr, ?_⟩
        rcases h3 with ⟨h3, h4⟩ | ⟨h3, h4⟩
        · exact .inl ⟨h3, by rw [he2, h4]⟩
        · exact .inr ⟨h3, fun e => h4 (List.cons.inj e).2⟩
      · rw [if_neg he] at hb
        exact ⟨bad, loop_stop hb, .inr ⟨rfl, fun e => he ((hq _ _).2 (List.cons.inj e).1)⟩⟩
  obtain ⟨r, hr, h⟩ := key s1.length 0 (by omega)
  exact ⟨r, hr, h⟩
theorem sEqual_eq {s1 s2 : List Str} (h1 : BL s1.length) (h2 : BL s2.length) : sEqual s1 s2 = some (s1 == s2) := by
 unfold sEqual
 by_cases hl : s1.length = s2.length
 ·rw [if_neg (by rw [eqI (by omega)]; simp)]
  obtain ⟨r, hr, h3⟩ := cmp_loop (s1 := s1) (s2 := s2) (fun x y => x == y) (fun x y => beq_iff_eq) hl (sEqual_b1 s1 s2) (.inl false) (.inr ()) (fun i x y hx hy => by
   have hlt := zK1 hx
   unfold sEqual_b1
   rw [if_pos (decide_eq_true (by omega)), if_pos (by omega), itn, hx, obs, if_pos (by omega), hy, obs, w64 (by omega)]
   cases (x == y) <;> rfl) (by unfold sEqual_b1; rw [if_neg (by simp)])
  rw [hr, obs]
  rcases h3 with ⟨rfl, h4⟩ | ⟨rfl, h4⟩
  ·rw [beq_iff_eq.2 h4]; rfl
  ·rw [beq_eq_false_iff_ne.2 h4]
 ·rw [if_pos (neI (by omega)), beq_eq_false_iff_ne.2 (fun e => hl (by rw [e]))]
theorem sameStrings_eq {s1 s2 : List Str} (h1 : BL s1.length) (h2 : BL s2.length) : sameStrings s1 s2 = some (s1 == s2) := by
 unfold sameStrings
 by_cases hl : s1.length = s2.length
 ·rw [if_neg (by rw [eqI (by omega)]; simp)]
  obtain ⟨r, hr, h3⟩ := cmp_loop (s1 := s1) (s2 := s2) (fun x y => x == y) (fun x y => beq_iff_eq) hl (sameStrings_b1 s1 s2) (.inl false) (.inr ()) (fun i x y hx hy => by
   have hlt := zK1 hx
   unfold sameStrings_b1
   rw [if_pos (decide_eq_true (by omega)), if_pos (by omega), itn, hx, obs, if_pos (by omega), hy, obs, w64 (by omega)]
   cases (x == y) <;> rfl) (by unfold sameStrings_b1; rw [if_neg (by simp)])
  rw [hr, obs]
  rcases h3 with ⟨rfl, h4⟩ | ⟨rfl, h4⟩
  ·rw [beq_iff_eq.2 h4]; rfl
  ·rw [beq_eq_false_iff_ne.2 h4]
 ·rw [if_pos (neI (by omega)), beq_eq_false_iff_ne.2 (fun e => hl (by rw [e]))]
def CB (s : List Stp) : Prop := BL s.length ∧ ∀ x, x ∈ s → BL x.Candidates.length
theorem sameC_eq {x y : Stp} (h1 : BL x.Candidates.length) (h2 : BL y.Candidates.length) : sameC x y = some (eqSt x y) := by
 unfold sameC summaryOf eqSt
 simp only [obs]
 rw [sEqual_eq h1 h2]
 cases (x.Parent == y.Parent) <;> cases (x.Chosen == y.Chosen) <;> cases (x.Basis == y.Basis) <;> cases (x.Rule == y.Rule) <;> rfl
theorem sameStep_eq {x y : Stp} (h1 : BL x.Candidates.length) (h2 : BL y.Candidates.length) : sameStep x y = some (eqSt x y) := by
 unfold sameStep eqSt
 rw [sameStrings_eq h1 h2]
 cases (x.Parent == y.Parent) <;> cases (x.Chosen == y.Chosen) <;> cases (x.Basis == y.Basis) <;> cases (x.Rule == y.Rule) <;> rfl
theorem sameSteps_eq {s t : List Stp} (hs : CB s) (ht : CB t) : ∃ r : Bool, sameSteps s t = some r ∧ (r = true ↔ s = t) := by
 have hl1 := hs.1; have hl2 := ht.1
 unfold sameSteps
 by_cases hl : s.length = t.length
 ·rw [if_neg (by rw [eqI (by omega)]; simp)]
  obtain ⟨r, hr, h3⟩ := cmp_loop (s1 := s) (s2 := t) eqSt (fun x y => eqSt_iff) hl (sameSteps_b1 s t) (.inl false) (.inr ()) (fun i x y hx hy => by
   have hlt := zK1 hx
   unfold sameSteps_b1
   rw [if_pos (decide_eq_true (by omega)), if_pos (by omega), itn, hx, obs, if_pos (by omega), hy, obs, sameStep_eq (hs.2 x (List.mem_of_getElem? hx)) (ht.2 y (List.mem_of_getElem? hy)), obs, w64 (by omega)]
   cases (eqSt x y) <;> rfl) (by unfold sameSteps_b1; rw [if_neg (by simp)])
  rw [hr, obs]
  rcases h3 with ⟨rfl, h4⟩ | ⟨rfl, h4⟩
  ·exact ⟨true, rfl, fun _ => h4, fun _ => rfl⟩
  ·exact ⟨false, rfl, ⟨(fun h => by cases h), fun h => absurd h h4⟩⟩
 ·rw [if_pos (neI (by omega))]
  exact ⟨false, rfl, ⟨(fun h => by cases h), fun e => absurd (congrArg List.length e) hl⟩⟩
def pm : List Stp → List Stp → Nat
  | x :: s, y :: t => if eqSt x y = true then pm s t + 1 else 0
  | _, _ => 0
theorem pm_le : ∀ s t : List Stp, pm s t ≤ s.length ∧ pm s t ≤ t.length
 | [], t => by simp [pm]
 | x :: s, [] => by simp [pm]
 | x :: s, y :: t => by
  have := pm_le s t
  unfold pm
  split <;> simp <;> omega
theorem pm_all : ∀ {s t : List Stp}, pm s t = s.length → s.length = t.length → s = t
 | [], [], _, _ => rfl
 | [], y :: t, _, h => by simp at h
 | x :: s, [], _, h => by simp at h
 | x :: s, y :: t, h1, h2 => by
  unfold pm at h1
  split at h1
  ·rename_i he
   have e := pm_all (s := s) (t := t) (by simpa using h1) (by simpa using h2)
   rw [eqSt_iff.1 he, e]
  ·simp at h1
theorem pm_self : ∀ s : List Stp, pm s s = s.length
 | [] => rfl
 | x :: s => by unfold pm; rw [if_pos (eqSt_iff.2 rfl), pm_self s]; rfl
theorem pm_loop {s t : List Stp} (f : Int → Option (Int ⊕ ((Int × Int) ⊕ Unit)))
  (hgo : ∀ (i : Nat) x, s[i]? = some x → f (i : Int) = match t[i]? with | some y => if eqSt x y = true then some (.inl ((i + 1 : Nat) : Int)) else some (.inr (.inl ((i : Int), 10))) | none => some (.inr (.inl ((i : Int), 10))))
  (hend : f (s.length : Int) = some (.inr (.inr ()))) : loopO f (0 : Int) = some (if pm s t < s.length then .inl ((pm s t : Int), 10) else .inr ()) := by
 have key : ∀ m k, k + m = s.length → k ≤ t.length → loopO f (k : Int) = some (if pm (s.drop k) (t.drop k) + k < s.length then .inl ((pm (s.drop k) (t.drop k) + k : Nat), 10) else .inr ()) := by
  intro m
  induction m with
  | zero =>
   intro k hk ht
   have : k = s.length := by omega
   subst this
   rw [loop_stop hend, if_neg (by omega)]
  | succ m ih =>
   intro k hk ht
   have h1 : k < s.length := by omega
   have hb := hgo k _ (geq h1)
   rw [List.drop_eq_getElem_cons h1]
   by_cases h2 : k < t.length
   ·rw [geq h2] at hb
    rw [List.drop_eq_getElem_cons h2]
    unfold pm
    by_cases he : eqSt s[k] t[k] = true
    ·simp only [he, if_true] at hb
     rw [loop_step hb, ih (k + 1) (by omega) (by omega), if_pos he]
     have e1 : pm (s.drop (k + 1)) (t.drop (k + 1)) + 1 + k = pm (s.drop (k + 1)) (t.drop (k + 1)) + (k + 1) := by omega
     rw [e1]
    ·simp only [he, if_false, Bool.false_eq_true] at hb
     rw [loop_stop hb, if_neg he, if_pos (by omega), Nat.zero_add]
   ·have hn : t[k]? = none := List.getElem?_eq_none (by omega)
    rw [hn] at hb
    rw [loop_stop hb, List.drop_eq_nil_of_le (by omega : t.length ≤ k)]
    have : pm (s[k] :: s.drop (k + 1)) [] = 0 := by simp [pm]
    rw [this, if_pos (by omega), Nat.zero_add]
 have := key s.length 0 (by omega) (by omega)
 simpa using this
def checkS (code : Str) (s : List Stp) (c : Str) (t : List Stp) : Int × Int :=
 if pm s t < s.length then ((pm s t : Int), 10) else if s.length < t.length ∨ code ≠ c then ((s.length : Int), 10) else ((s.length : Int), 0)
def checkR (code : Str) (s : List Stp) (v : Str × List Stp × Int) : Int × Int :=
 if v.2.2 = 7 then (0, 10) else if v.2.2 ≠ 0 then (0, v.2.2) else checkS code s v.1 v.2.1
theorem tail_cond (code c : Str) (n m : Nat) : (bif (decide ((n : Int) < (m : Int))) then true else (!(code == c))) = decide (n < m ∨ code ≠ c) := by
 by_cases h1 : n < m
 ·rw [decide_eq_true (by omega : (n : Int) < (m : Int)), decide_eq_true (.inl h1)]; rfl
 ·rw [decide_eq_false (by omega : ¬ (n : Int) < (m : Int))]
  by_cases h2 : code = c
  ·rw [beq_iff_eq.2 h2, decide_eq_false (fun h => by rcases h with h | h; exact h1 h; exact h h2)]; rfl
  ·rw [beq_eq_false_iff_ne.2 h2, decide_eq_true (.inr h2)]; rfl
theorem check_fin (code c : Str) (s t : List Stp) (n : Int) : (if (bif (decide ((s.length : Int) < (t.length : Int))) then true else (!(code == c))) = true then some ((s.length : Int), (10 : Int)) else some ((s.length : Int), (0 : Int))) = some (if s.length < t.length ∨ code ≠ c then ((s.length : Int), (10 : Int)) else ((s.length : Int), 0)) := by
 rw [tail_cond]
 by_cases h : s.length < t.length ∨ code ≠ c
 ·rw [if_pos (decide_eq_true h), if_pos h]
 ·rw [if_neg (fun e => h (of_decide_eq_true e)), if_neg h]
theorem SB.CB {s : List Stp} (h : SB s) : CB s := ⟨by have := h.1; unfold BL; omega, fun x hx => by have := h.2 x hx; unfold BL; omega⟩
theorem check_eq (b : YE) (day : Int) (g : YR) (code : Str) {s : List Stp} (hs : CB s) : check b day g code s = some (checkR code s (classR b day g)) := by
 have hsb := (classR_SB b day g).CB
 have hl := hs.1; have hl2 := hsb.1
 unfold check checkR
 rw [classify_eq, obs]
 generalize classR b day g = v at *
 by_cases h7 : v.2.2 = 7
 ·rw [if_pos (by rw [beq_iff_eq]; exact h7), if_pos h7]
 rw [if_neg (by rw [beq_iff_eq]; exact h7), if_neg h7]
 by_cases h0 : v.2.2 = 0
 ·rw [if_neg (by rw [eqI h0]; simp), if_neg (fun h => h h0)]
  have h1 := pm_loop (s := s) (t := v.2.1) (check_b1 code s v) (fun i x hx => by
   have hlt := zK1 hx
   unfold check_b1
   rw [if_pos (decide_eq_true (by omega)), if_pos (by omega), itn, hx, obs]
   by_cases h2 : i < v.2.1.length
   ·have hy := geq h2
    rw [decide_eq_false (by omega : ¬ (v.2.1.length : Int) ≤ (i : Int)), hy]
    simp only [Bool.not_false, if_true, cond_false, forall_const]
    rw [if_pos (by omega), getD_get h2, sameC_eq (hs.2 x (List.mem_of_getElem? hx)) (hsb.2 _ (List.getElem_mem h2)), obs, w64 (by omega)]
    cases (eqSt x v.2.1[i]) <;> rfl
   ·have hy : v.2.1[i]? = none := List.getElem?_eq_none (by omega)
    rw [decide_eq_true (by omega : (v.2.1.length : Int) ≤ (i : Int)), hy]
    simp) (by unfold check_b1; rw [if_neg (by simp)])
  rw [h1, obs]
  unfold checkS
  by_cases h3 : pm s v.2.1 < s.length
  ·rw [if_pos h3, if_pos h3]
  ·rw [if_neg h3, if_neg h3]
   exact check_fin code v.1 s v.2.1 0
 ·rw [if_pos (neI h0), if_pos h0]
theorem checkS_ok {code c : Str} {s t : List Stp} : (checkS code s c t).2 = 0 ↔ code = c ∧ s = t := by
 have h := pm_le s t
 unfold checkS
 by_cases h1 : pm s t < s.length
 ·rw [if_pos h1]
  refine ⟨fun h => by simp at h, fun ⟨_, e⟩ => ?_⟩
  subst e
  rw [pm_self] at h1
  omega
 ·rw [if_neg h1]
  by_cases h2 : s.length < t.length ∨ code ≠ c
  ·rw [if_pos h2]
   refine ⟨fun h => by simp at h, fun ⟨e1, e⟩ => ?_⟩
   subst e
   rcases h2 with h2 | h2
   ·omega
   ·exact absurd e1 h2
  ·rw [if_neg h2]
   have h3 : code = c := Classical.byContradiction fun h => h2 (.inr h)
   exact ⟨fun _ => ⟨h3, pm_all (by omega) (by have : ¬ s.length < t.length := fun h => h2 (.inl h); omega)⟩, fun _ => rfl⟩
end Go.C
end zTi
noncomputable section zTj
set_option linter.unusedVariables false
set_option linter.unusedSimpArgs false
namespace Go.C
open Go.V
variable {b : YE} {g : YR}
def fi {α : Type} (p : α → Bool) : List α → Option Nat
 | [] => none
 | x :: l => if p x = true then some 0 else (fi p l).map (· + 1)
theorem fi_some {α : Type} {p : α → Bool} : ∀ {l : List α} {i : Nat}, fi p l = some i → ∃ x, l[i]? = some x ∧ p x = true ∧ ∀ j y, j < i → l[j]? = some y → p y = false
 | [], i, h => by cases h
 | x :: l, i, h => by
  unfold fi at h
  by_cases hp : p x = true
  ·rw [if_pos hp] at h; cases h
   exact ⟨x, rfl, hp, fun j y hj => by omega⟩
  ·rw [if_neg hp] at h
   cases hf : fi p l with
   | none => rw [hf] at h; cases h
   | some k =>
    rw [hf] at h; cases h
    obtain ⟨y, h1, h2, h3⟩ := fi_some hf
    refine ⟨y, by simpa using h1, h2, fun j z hj hz => ?_⟩
    cases j with
    | zero => simp only [List.getElem?_cons_zero, Option.some.injEq] at hz; subst hz; simpa using hp
    | succ j => exact h3 j z (by have : j + 1 < k + 1 := hj; omega) (by simpa using hz)
theorem fi_none {α : Type} {p : α → Bool} : ∀ {l : List α}, fi p l = none ↔ ∀ x, x ∈ l → p x = false
 | [] => by simp [fi]
 | x :: l => by
  unfold fi
  by_cases hp : p x = true
  ·rw [if_pos hp]
   exact ⟨(fun h => by cases h), fun h => by rw [h x (by simp)] at hp; cases hp⟩
  ·rw [if_neg hp, Option.map_eq_none_iff, fi_none]
   constructor
   ·intro h y hy
    rcases List.mem_cons.1 hy with rfl | hy
    ·simpa using hp
    ·exact h y hy
   ·exact fun h y hy => h y (List.mem_cons_of_mem _ hy)
theorem idx_loop {α τ : Type} {l : List α} (p : α → Bool) (f : Int → Option (Int ⊕ (τ ⊕ Unit))) (val : Nat → τ)
  (hgo : ∀ (i : Nat) x, l[i]? = some x → f (i : Int) = if p x = true then some (.inr (.inl (val i))) else some (.inl ((i + 1 : Nat) : Int)))
  (hend : f (l.length : Int) = some (.inr (.inr ()))) : loopO f (0 : Int) = some (match fi p l with | some i => .inl (val i) | none => .inr ()) := by
 have key : ∀ m k, k + m = l.length → loopO f (k : Int) = some (match fi p (l.drop k) with | some i => .inl (val (i + k)) | none => .inr ()) := by
  intro m
  induction m with
  | zero =>
   intro k hk
   have : k = l.length := by omega
   subst this
   rw [loop_stop hend, List.drop_length]; rfl
  | succ m ih =>
   intro k hk
   have h1 : k < l.length := by omega
   have hb := hgo k _ (geq h1)
   rw [List.drop_eq_getElem_cons h1]
   unfold fi
   by_cases hp : p l[k] = true
   ·rw [if_pos hp] at hb
    rw [loop_stop hb, if_pos hp]
    show some (Sum.inl (val k)) = some (Sum.inl (val (0 + k)))
    rw [Nat.zero_add]
   ·rw [if_neg hp] at hb
    rw [loop_step hb, ih (k + 1) (by omega), if_neg hp]
    cases fi p (l.drop (k + 1)) with
    | none => rfl
    | some i => show some (Sum.inl (val (i + (k + 1)))) = some (Sum.inl (val (i + 1 + k))); congr 3; omega
 have := key l.length 0 (by omega)
 rw [List.drop_zero] at this
 exact this
def hasc (l : List Ent) (code : Str) : Bool := l.any fun e => e.Code == code
theorem hasE_eq {l : List Ent} (code : Str) (hl : l.length ≤ 1000) : hasE l code = some (hasc l code) := by
 unfold hasE hasContains hasIndex
 rw [idx_loop (l := l) (fun e => e.Code == code) (hasIndex_b1 l code) (fun i => (i : Int)) (fun i x hx => by
  have hlt := zK1 hx
  unfold hasIndex_b1 hasIn
  rw [if_pos (decide_eq_true (by omega)), if_pos (by omega), itn, hx, obs, obs, w64 (by omega)]; rfl) (by unfold hasIndex_b1; rw [if_neg (by simp)])]
 cases h : fi (fun e : Ent => e.Code == code) l with
 | none =>
  have h1 : hasc l code = false := by unfold hasc; rw [List.any_eq_false]; intro x hx; rw [fi_none.1 h x hx]; simp
  rw [h1]; rfl
 | some i =>
  obtain ⟨x, h2, h3, _⟩ := fi_some h
  have h1 : hasc l code = true := by unfold hasc; rw [List.any_eq_true]; exact ⟨x, List.mem_of_getElem? h2, h3⟩
  rw [h1]
  show some (decide ((0 : Int) ≤ (i : Int))) = some true
  rw [decide_eq_true (by omega)]
theorem contains_hasc (l : List Ent) (code : Str) : (l.map (·.Code)).contains code = hasc l code := by
 unfold hasc
 rw [Bool.eq_iff_iff, List.contains_iff_mem, List.any_eq_true]
 constructor
 ·intro h
  obtain ⟨x, h1, h2⟩ := List.mem_map.1 h
  exact ⟨x, h1, beq_iff_eq.2 h2⟩
 ·rintro ⟨x, h1, h2⟩
  exact List.mem_map.2 ⟨x, h1, beq_iff_eq.1 h2⟩
theorem sContains_eq {s : List Str} (v : Str) (h : s.length ≤ 1000) : sContains s v = some (s.contains v) := by
 obtain ⟨n, e, h2⟩ := sIndex_eq v h
 unfold sContains
 rw [e, obs, h2]
theorem reasonIn_eq (hb : BB b) {x : Ent} (hx : LB x.Terms) {y : Cp} (hy : y.Words.length ≤ 50) : reasonIn x b y = some (!scored1 b y.Words x) := by
 have h0 := scS_nonneg b x y.Words
 unfold reasonIn scored1
 rw [nomScore_eq hb hx hy, obs]
 congr 1
 by_cases h : scS b x y.Words = 0
 ·rw [beq_iff_eq.2 h, decide_eq_false (by omega)]; rfl
 ·rw [beq_eq_false_iff_ne.2 h, decide_eq_true (by omega)]; rfl
theorem deleteE_eq (hb : BB b) {s : List Ent} (hs : LV s) {y : Cp} (hy : y.Words.length ≤ 50) : deleteE s b y = some (s.filter (scored1 b y.Words)) := by
 have hl := hs.1
 have hin : ∀ x, x ∈ s → reasonIn x b y = some (!scored1 b y.Words x) := fun x hx => reasonIn_eq hb (hs.2 x hx).1 hy
 unfold deleteE delIndex
 rw [idx_loop (l := s) (fun x => !scored1 b y.Words x) (delIndex_b1 s b y) (fun i => ((i : Int), s)) (fun i x hx => by
  have hlt := zK1 hx
  unfold delIndex_b1
  rw [if_pos (decide_eq_true (by omega)), if_pos (by omega), itn, getD_of hx, hin x (List.mem_of_getElem? hx), obs, w64 (by omega)]; rfl) (by unfold delIndex_b1; rw [if_neg (by simp)])]
 cases h : fi (fun x => !scored1 b y.Words x) s with
 | none =>
  have h1 : s.filter (scored1 b y.Words) = s := List.filter_eq_self.2 fun x hx => by have := fi_none.1 h x hx; simpa using this
  rw [h1]; rfl
 | some k =>
  obtain ⟨x, h2, h3, h4⟩ := fi_some h
  have hk := zK1 h2
  rw [obs]
  show (if ((k : Int) == (-1 : Int)) = true then some s else _) = _
  rw [if_neg (by rw [beq_iff_eq]; omega)]
  have h0 : (s.take (k + 1)).filter (scored1 b y.Words) = s.take k := by
   rw [take_snoc hk, List.filter_append]
   have e1 : (s.take k).filter (scored1 b y.Words) = s.take k := List.filter_eq_self.2 fun z hz => by
    obtain ⟨j, hj⟩ := List.getElem?_of_mem hz
    have hjk : j < k := by have := zK1 hj; rw [List.length_take] at this; omega
    rw [List.getElem?_take, if_pos hjk] at hj
    have := h4 j z hjk hj
    simpa using this
   have e2 : s[k] = x := by rw [geq hk] at h2; exact Option.some.inj h2
   rw [e1, e2, List.filter_cons_of_neg (by simpa using h3)]
   simp
  obtain ⟨r, hr, m, h5, h6, h7, h8⟩ := loop_all (s.drop (k + 1)) (deleteE_b1 b y) (fun i (w : Int × List Ent) => (((k + 1 + i : Nat) : Int), w.1, w.2)) (fun i w => w.2.length = s.length ∧ ∃ m : Nat, w.1 = (m : Int) ∧ m < k + 1 + i ∧ w.2.take m = (s.take (k + 1 + i)).filter (scored1 b y.Words) ∧ w.2.drop (k + 1 + i) = s.drop (k + 1 + i))
   (fun r : Int × List Ent => ∃ m : Nat, r.1 = (m : Int) ∧ r.2.length = s.length ∧ m ≤ s.length ∧ r.2.take m = s.filter (scored1 b y.Words)) (fun i x w hx hI => by
    obtain ⟨n, row⟩ := w
    obtain ⟨hrl, m, hm, hmj, ht, hd⟩ := hI
    dsimp only at hrl hm ht hd
    subst hm
    rw [List.getElem?_drop] at hx
    have hj := zK1 hx
    have hsj : s[k + 1 + i] = x := by rw [geq hj] at hx; exact Option.some.inj hx
    have hrj : row[k + 1 + i]? = some x := by
     have e1 : (row.drop (k + 1 + i))[0]? = (s.drop (k + 1 + i))[0]? := by rw [hd]
     rw [List.getElem?_drop, List.getElem?_drop, Nat.add_zero] at e1
     rw [e1]; exact hx
    have hd2 : row.drop (k + 1 + i + 1) = s.drop (k + 1 + i + 1) := by
     have e1 : (row.drop (k + 1 + i)).drop 1 = (s.drop (k + 1 + i)).drop 1 := by rw [hd]
     rwa [List.drop_drop, List.drop_drop] at e1
    have hf : (s.take (k + 1 + (i + 1))).filter (scored1 b y.Words) = (s.take (k + 1 + i)).filter (scored1 b y.Words) ++ if scored1 b y.Words x = true then [x] else [] := by
     rw [show k + 1 + (i + 1) = k + 1 + i + 1 by omega, take_snoc hj, List.filter_append, hsj]
     congr 1
     by_cases hq : scored1 b y.Words x = true
     ·rw [if_pos hq, List.filter_cons_of_pos hq]; rfl
     ·rw [if_neg hq, List.filter_cons_of_neg hq]; rfl
    left
    unfold deleteE_b1 deleteE_j2
    dsimp only
    rw [if_pos (decide_eq_true (by omega)), if_pos (by omega), itn, getD_of hrj, hin x (List.mem_of_getElem? hx), obs, w64 (n := ((k + 1 + i : Nat) : Int) + 1) (by omega)]
    cases hq : scored1 b y.Words x with
    | true =>
     simp only [Bool.not_true, Bool.not_false, if_true]
     rw [if_pos (by omega), w64 (by omega), itn]
     refine ⟨(((m + 1 : Nat) : Int), row.set m x), by rw [show k + 1 + (i + 1) = k + 1 + i + 1 by omega]; rfl, by simp only [List.length_set]; exact hrl, m + 1, rfl, by omega, ?_, ?_⟩
     ·rw [hf, if_pos hq, ← ht]
      have hml : m < (row.set m x).length := by rw [List.length_set]; omega
      rw [take_snoc hml, List.getElem_set_self, List.take_set_of_le (Nat.le_refl m)]
     ·show (row.set m x).drop (k + 1 + (i + 1)) = _
      rw [List.drop_set_of_lt (by omega), show k + 1 + (i + 1) = k + 1 + i + 1 by omega, hd2]
    | false =>
     simp only [Bool.not_true, Bool.not_false, Bool.false_eq_true, if_false]
     refine ⟨((m : Int), row), by rw [show k + 1 + (i + 1) = k + 1 + i + 1 by omega]; rfl, hrl, m, rfl, by omega, ?_, ?_⟩
     ·rw [hf, if_neg (by rw [hq]; simp), List.append_nil]; exact ht
     ·rw [show k + 1 + (i + 1) = k + 1 + i + 1 by omega]; exact hd2) (fun w hI => by
    obtain ⟨n, row⟩ := w
    obtain ⟨hrl, m, hm, hmj, ht, hd⟩ := hI
    dsimp only at hrl hm ht hd
    subst hm
    have he : k + 1 + (s.drop (k + 1)).length = s.length := by rw [List.length_drop]; omega
    rw [he] at ht hmj ⊢
    rw [List.take_length] at ht
    refine ⟨((m : Int), row), ?_, m, rfl, hrl, by omega, ht⟩
    unfold deleteE_b1
    dsimp only
    rw [if_neg (by rw [hrl]; simp)]) ((k : Int), s) ⟨rfl, k, rfl, by omega, by rw [Nat.add_zero]; exact h0.symm, rfl⟩
  have hr' : loopO (deleteE_b1 b y) ((IntKind.i64.wrap ((k : Int) + 1)), (k : Int), s) = some r := by rw [w64 (by omega)]; exact hr
  rw [hr', obs]
  obtain ⟨n, row⟩ := r
  dsimp only at h5 h6 h8
  subst h5
  show deleteE_j1 b y (m : Int) row = _
  unfold deleteE_j1
  rw [if_pos (by omega), itn, if_pos (by simp only [List.length_append, List.length_take, List.length_replicate]; omega), List.take_append_of_le_length (by rw [List.length_take]; omega), List.take_take, Nat.min_self, h8]
def c1S (b : YE) (day : Int) (g : YR) (x : Stp) : List Ent := if x.Basis = 1 ∨ x.Basis = 2 then specS b (specW g x.Basis) (basisS b day g x.Parent).2 else (basisS b day g x.Parent).2
def reasonS (b : YE) (day : Int) (g : YR) (x : Stp) (code : Str) : Int :=
 if exS b code g.Words = true then 1 else if x.Candidates.contains code = false then 2 else if x.Basis = 7 ∨ x.Basis = 8 then 5
 else if hasc (c1S b day g x) code = false then 3 else if hasc (essS b (isort (chars g)) (c1S b day g x)).1 code = false then 4 else 5
def StpM (b : YE) (day : Int) (g : YR) (x : Stp) : Prop := x = stepS b day g x.Parent ∧ (basisS b day g x.Parent).2 ≠ [] ∧ x.Parent.length ≤ 1000
theorem cls_made (hb : VB b) {day : Int} : ∀ (n : Nat) (c : Str) (s : List Stp), c.length ≤ 1000 → (∀ x, x ∈ s → StpM b day g x) → ∀ x, x ∈ (clsS b day g n c s).2 → StpM b day g x
 | 0, c, s, hc, h, x, hx => h x hx
 | n + 1, c, s, hc, h, x, hx => by
  unfold clsS at hx
  split at hx
  ·exact h x hx
  ·rename_i h0
   have hmem := basisS_mem (reduceS_mem (b := b) (g := g) (basis := (basisS b day g c).1) (basisS_LV hb day c).1 h0)
   have hc8 : (stepS b day g c).Chosen.length ≤ 8 := (hb.code _ hmem.1).2
   refine cls_made hb n _ _ (by omega) (fun y hy => ?_) x hx
   rcases List.mem_append.1 hy with hy | hy
   ·exact h y hy
   ·rw [List.mem_singleton.1 hy]; exact ⟨rfl, h0, hc⟩
theorem StpM.cand {day : Int} {x : Stp} (hx : StpM b day g x) : x.Candidates = (basisS b day g x.Parent).2.map (·.Code) := by
 have := hx.1
 exact congrArg YL.Candidates this
theorem StpM.basis {day : Int} {x : Stp} (hx : StpM b day g x) : x.Basis = (basisS b day g x.Parent).1 := congrArg YL.Basis hx.1
theorem mostSpecificC_eq (hb : BB b) (hg : GB g) (basis : Int) {c : List Ent} (hc : LV c) : mostSpecificC b g basis c = some (specS b (specW g basis) c) := by
 have hcl := hc.1
 have g1 := hg.words
 have fin : ∀ w, w.length ≤ 50 → (∀ x, x ∈ w ↔ x ∈ specW g basis) → mostSpecificC_j1 b c w = some (specS b (specW g basis) c) := fun w hw hm => by
  have hsc : ∀ e, scS b e w = scS b e (specW g basis) := fun e => scS_congr b e hm
  unfold mostSpecificC_j1
  rw [max_loop (l := c) (mostSpecificC_b2 b c w) (fun e => scS b e (specW g basis)) (fun i x m hx => by
   have hlt := zK1 hx
   have hxl := hc.2 x (List.mem_of_getElem? hx)
   unfold mostSpecificC_b2
   dsimp only
   rw [if_pos (decide_eq_true (by omega)), if_pos (by omega), itn, hx, obs, nomScore_eq hb hxl.1 hw, obs, w64 (by omega), hsc]; rfl) (fun m => by
   unfold mostSpecificC_b2
   dsimp only
   rw [if_neg (by simp)]), obs]
  show mostSpecificC_j2 b c w (mxL (fun e => scS b e (specW g basis)) c) = _
  unfold mostSpecificC_j2
  rw [keep_loop (l := c) (mostSpecificC_b1 b c w (mxL (fun e => scS b e (specW g basis)) c)) (fun e => scS b e (specW g basis) == mxL (fun e => scS b e (specW g basis)) c) (fun i x kept hx hk => by
   have hlt := zK1 hx
   have hxl := hc.2 x (List.mem_of_getElem? hx)
   unfold mostSpecificC_b1 mostSpecificC_j4
   dsimp only
   rw [if_pos (decide_eq_true (by omega)), if_pos (by omega), itn, hx, obs, nomScore_eq hb hxl.1 hw, obs, w64 (by omega), hsc]
   cases (scS b x (specW g basis) == mxL (fun e => scS b e (specW g basis)) c) with
   | true => rw [if_pos rfl, if_pos rfl, if_pos (by simp only [List.length_cons, List.length_nil]; omega)]; rfl
   | false => rw [if_neg (by simp), if_neg (by simp)]; rfl) (fun kept => by
   unfold mostSpecificC_b1
   dsimp only
   rw [if_neg (by simp)])]
  rfl
 unfold mostSpecificC
 rw [inceq]
 by_cases h3 : g.Incomplete = true ∧ basis = 1
 ·obtain ⟨r, er, hm, hrl⟩ := incompleteWords_ok hg
  unfold incompleteWords at er
  cases hu : union g.Words [([112, 97, 114, 116, 115] : Str)] with
  | none => rw [hu] at er; cases er
  | some u =>
   rw [hu] at er
   have : u = r := Option.some.inj er
   subst this
   rw [if_pos (decide_eq_true h3), obs]
   exact fin u (by omega) (fun x => by rw [hm]; unfold specW; rw [if_pos h3])
 ·rw [if_neg (fun h => h3 (of_decide_eq_true h))]
  exact fin g.Words (by omega) (fun x => by unfold specW; rw [if_neg h3])
theorem reason_loop (hb : BB b) (code : Str) {c : List Ent} (hc : LV c) {cs : List Cp} (hl : cs.length ≤ 1000) (hw : ∀ x, x ∈ cs → x.Words.length ≤ 50) : ∀ (m k : Nat), k + m = cs.length →
  loopO (reason_b1 b code c cs) (k : Int) = some (if (essS b (cs.drop k) c).2 = true ∧ hasc (essS b (cs.drop k) c).1 code = false then .inl 4 else .inr ()) := by
 have hcl := hc.1
 intro m
 induction m with
 | zero =>
  intro k hk
  have : k = cs.length := by omega
  subst this
  rw [List.drop_length]
  refine loop_stop ?_
  unfold reason_b1
  rw [if_neg (by simp), if_neg (by simp [essS])]
 | succ m ih =>
  intro k hk
  have hlt : k < cs.length := by omega
  have hwk := hw _ (List.getElem_mem hlt)
  rw [List.drop_eq_getElem_cons hlt]
  have hfl := hc.filter (scored1 b cs[k].Words)
  have hbody : reason_b1 b code c cs (k : Int) = if c.filter (scored1 b cs[k].Words) = [] then some (.inl ((k + 1 : Nat) : Int)) else some (.inr (if hasc (c.filter (scored1 b cs[k].Words)) code = false then .inl 4 else .inr ())) := by
   unfold reason_b1 cloneE
   rw [if_pos (decide_eq_true (by omega)), if_pos (by omega), itn, geq hlt, obs, if_pos (by omega), obs, deleteE_eq hb hc hwk, obs]
   by_cases h0 : c.filter (scored1 b cs[k].Words) = []
   ·rw [if_pos h0, h0, if_pos (by rfl), w64 (by omega)]; rfl
   ·have := List.length_pos_iff.2 h0
    rw [if_neg h0, if_neg (by rw [beq_iff_eq]; omega), hasE_eq code hfl.1, obs]
    cases hasc (c.filter (scored1 b cs[k].Words)) code <;> rfl
  unfold essS
  by_cases h0 : c.filter (scored1 b cs[k].Words) = []
  ·rw [if_pos h0] at hbody
   rw [loop_step hbody, if_neg (show ¬ (c.filter (scored1 b cs[k].Words) ≠ []) from fun h => h h0)]
   exact ih (k + 1) (by omega)
  ·rw [if_neg h0] at hbody
   rw [loop_stop hbody, if_pos (show c.filter (scored1 b cs[k].Words) ≠ [] from h0)]
   simp only [true_and]
theorem reason_eq (hb : VB b) (hg : GB g) {day : Int} {x : Stp} (hx : StpM b day g x) (code : Str) : reason b day g x code = some (reasonS b day g x code) := by
 have hlv := basisS_LV (g := g) hb day x.Parent
 have hcl := hlv.1
 have hcand := hx.cand
 have g1 := hg.words
 have hcw := char_words hg
 unfold reason reasonS
 rw [nomExcluded_eq hb.bb code (by omega), obs]
 by_cases h1 : exS b code g.Words = true
 ·rw [if_pos h1, if_pos h1]
 rw [if_neg h1, if_neg h1, sContains_eq code (by rw [hcand, List.length_map]; exact hcl), obs]
 cases h2 : x.Candidates.contains code with
 | false => rfl
 | true =>
  simp only [Bool.not_true, Bool.false_eq_true, Bool.true_eq_false, reduceCtorEq, if_false]
  have hh : hasc (basisS b day g x.Parent).2 code = true := by rw [← contains_hasc, ← hcand]; exact h2
  by_cases h3 : x.Basis = 7 ∨ x.Basis = 8
  ·have h3b : (bif (x.Basis == (7 : Int)) then true else (x.Basis == (8 : Int))) = true := by
    rcases h3 with h3 | h3 <;> rw [h3] <;> rfl
   rw [if_pos h3b, if_pos h3]
  ·have h3b : (bif (x.Basis == (7 : Int)) then true else (x.Basis == (8 : Int))) = false := by
    rw [beq_eq_false_iff_ne.2 (fun h => h3 (.inl h)), beq_eq_false_iff_ne.2 (fun h => h3 (.inr h))]; rfl
   rw [h3b, if_neg (by simp), if_neg h3, basis_eq hb hg, obs, b1eq]
   have fin : ∀ c : List Ent, LV c → hasc c code = true → reason_j1 b g code c = some (if hasc (essS b (isort (chars g)) c).1 code = false then 4 else 5) := fun c hc hhc => by
    unfold reason_j1
    have h4 := reason_loop hb.bb code hc (cs := isort (chars g)) (by omega) (fun x hx => by have := hcw.2 x hx; omega) (isort (chars g)).length 0 (by omega)
    rw [List.drop_zero] at h4
    have h5 : loopO (reason_b1 b code c (isort (chars g))) (0 : Int) = _ := h4
    rw [goodsCharacters_eq hg, obs, h5, obs]
    cases h6 : (essS b (isort (chars g)) c).2 with
    | false =>
     rw [if_neg (by simp), essS_none _ _ h6, if_neg (by rw [hhc]; simp)]; rfl
    | true =>
     by_cases h7 : hasc (essS b (isort (chars g)) c).1 code = false
     ·rw [if_pos ⟨rfl, h7⟩, if_pos h7]
     ·rw [if_neg (fun h => h7 h.2), if_neg h7]; rfl
   unfold c1S
   by_cases h4 : x.Basis = 1 ∨ x.Basis = 2
   ·have hlv2 := specS_LV (b := b) hlv (specW g x.Basis)
    rw [if_pos (decide_eq_true h4), if_pos h4, mostSpecificC_eq hb.bb hg _ hlv, obs, hasE_eq code hlv2.1, obs]
    cases h5 : hasc (specS b (specW g x.Basis) (basisS b day g x.Parent).2) code with
    | false => rfl
    | true =>
     simp only [Bool.not_true, Bool.false_eq_true, Bool.true_eq_false, reduceCtorEq, if_false]
     exact fin _ hlv2 h5
   ·rw [if_neg (fun h => h4 (of_decide_eq_true h)), if_neg h4, if_neg (by rw [hh]; simp)]
    exact fin _ hlv hh
theorem pre_take (s p : Str) : Lib.hasPrefix s p = (s.take p.length == p) := by
 unfold Lib.hasPrefix
 rw [Bool.eq_iff_iff, List.isPrefixOf_iff_prefix, List.prefix_iff_eq_take, beq_iff_eq]
 exact ⟨fun h => h.symm, fun h => h.symm⟩
def offS (code : Str) (x : Stp) : Bool := decide (x.Chosen.length ≤ code.length) && !(code.take x.Chosen.length == x.Chosen)
def whyS (b : YE) (day : Int) (g : YR) (code : Str) (s : List Stp) : Int × Int × Int :=
 match fi (fun x : Stp => x.Chosen == code) s with
 | some i => ((i : Int), 0, 0)
 | none => match fi (offS code) s with
  | some i => ((i : Int), reasonS b day g (s.getD i default) (code.take (s.getD i default).Chosen.length), 0)
  | none => ((s.length : Int), 6, 0)
def whyR (b : YE) (day : Int) (g : YR) (code : Str) : Int × Int × Int :=
 if (classR b day g).2.2 ≠ 0 then (0, 0, (classR b day g).2.2) else if hasc (atS b day) code = false then (0, 0, 6) else whyS b day g code (classR b day g).2.1
theorem classR_ok {day : Int} (h : (classR b day g).2.2 = 0) : VB b ∧ GB g ∧ classR b day g = ((clsS b day g 5 [] []).1, (clsS b day g 5 [] []).2, 0) ∧ (clsS b day g 5 [] []).2 ≠ [] := by
 by_cases h1 : nv b = 0
 ·by_cases h2 : gv g = 0
  ·by_cases h3 : day < 0 ∨ 36524 < day
   ·rw [classR_3 h1 h2 h3] at h; cases h
   ·have h4 := classR_4 h1 h2 h3
    by_cases h5 : (clsS b day g 5 [] []).2 = []
    ·rw [h4, if_pos h5] at h; cases h
    ·rw [if_neg h5] at h4
     exact ⟨nv_VB h1, (gv_gok h2).GB, h4, h5⟩
  ·rw [classR_2 h1 h2] at h; exact absurd h h2
 ·rw [classR_1 h1] at h; exact absurd h h1
theorem find_hasc (hb : BB b) (day : Int) (code : Str) : ∃ r : Ent × Bool, nomFind b day code = some r ∧ r.2 = hasc (atS b day) code := by
 obtain ⟨r, er, hr⟩ := nomFind_one hb day code
 refine ⟨r, er, ?_⟩
 unfold hasc
 rcases hr with ⟨h1, h2, h3⟩ | ⟨h1, h2⟩
 ·rw [h1]; symm; rw [List.any_eq_true]; exact ⟨r.1, h2, beq_iff_eq.2 h3⟩
 ·rw [h1]; symm; rw [List.any_eq_false]; intro e he; rw [beq_iff_eq]; exact h2 e he
theorem why_eq (b : YE) (day : Int) (g : YR) {code : Str} (hcode : code.length ≤ 9223372036854775807) : why b day g code = some (whyR b day g code) := by
 unfold why whyR
 rw [classify_eq, obs]
 by_cases h0 : (classR b day g).2.2 = 0
 ·obtain ⟨hb, hg, hcl, hne⟩ := classR_ok h0
  have hsb := clsS_SB (g := g) hb (day := day) 5 [] [] (by simp) (fun x hx => by cases hx)
  have hmd := cls_made (g := g) hb (day := day) 5 [] [] (by simp) (fun x hx => by cases hx)
  rw [if_neg (by rw [eqI h0]; simp), if_neg (fun h => h h0)]
  obtain ⟨r, er, hr⟩ := find_hasc hb.bb day code
  rw [er, obs, hr, hcl]
  generalize (clsS b day g 5 [] []).2 = s at *
  generalize (clsS b day g 5 [] []).1 = c at *
  have hsl := hsb.1
  cases h1 : hasc (atS b day) code with
  | false => rfl
  | true =>
   simp only [Bool.not_true, Bool.false_eq_true, Bool.true_eq_false, reduceCtorEq, if_false]
   unfold whyS
   rw [idx_loop (l := s) (fun x => x.Chosen == code) (why_b2 b day g code (c, s, 0)) (fun i => ((i : Int), 0, 0)) (fun i x hx => by
    have hlt := zK1 hx
    unfold why_b2
    dsimp only
    rw [if_pos (decide_eq_true (by omega)), if_pos (by omega), itn, hx, obs, w64 (by omega)]; rfl) (by unfold why_b2; dsimp only; rw [if_neg (by simp)]), obs]
   cases h2 : fi (fun x : Stp => x.Chosen == code) s with
   | some i => rfl
   | none =>
    show why_j1 b day g code (c, s, 0) = _
    unfold why_j1
    rw [idx_loop (l := s) (offS code) (why_b1 b day g code (c, s, 0)) (fun i => ((i : Int), reasonS b day g (s.getD i default) (code.take (s.getD i default).Chosen.length), 0)) (fun i x hx => by
     have hlt := zK1 hx
     have hxm := List.mem_of_getElem? hx
     unfold why_b1 hasPrefixS offS
     dsimp only
     rw [if_pos (decide_eq_true (by omega)), if_pos (by omega), itn, hx, obs, getD_of hx, pre_take]
     by_cases h3 : x.Chosen.length ≤ code.length
     ·rw [decide_eq_true (by omega : (x.Chosen.length : Int) ≤ (code.length : Int)), decide_eq_true h3, if_pos rfl, obs]
      by_cases h4 : code.take x.Chosen.length = x.Chosen
      ·rw [beq_iff_eq.2 h4]
       simp only [Bool.not_true, cond_true, Bool.false_eq_true, if_false, Bool.and_false]
       rw [w64 (by omega)]; rfl
      ·rw [beq_eq_false_iff_ne.2 h4]
       simp only [Bool.not_false, cond_true, if_true, Bool.and_true]
       rw [if_pos (by omega), show ((0 : Int)).toNat = 0 from rfl, List.drop_zero, itn, reason_eq hb hg (hmd x hxm)]; rfl
     ·rw [decide_eq_false (by omega : ¬ (x.Chosen.length : Int) ≤ (code.length : Int)), decide_eq_false h3]
      simp only [Bool.false_eq_true, if_false, obs, cond_false, Bool.false_and]
      rw [w64 (by omega)]; rfl) (by unfold why_b1; dsimp only; rw [if_neg (by simp)]), obs]
    cases fi (offS code) s <;> rfl
 ·rw [if_pos (neI h0), if_pos h0]
end Go.C
end zTj
noncomputable section zTk
set_option linter.unusedVariables false
set_option linter.unusedSimpArgs false
namespace Go.C
open Go.V
open Go.Lib (decDigits)
variable {b : YE} {g : YR}
structure StpW (x : Stp) : Prop where
 par : x.Parent.all isD = true ∧ x.Parent.length ≤ 8
 cho : x.Chosen.all isD = true ∧ x.Chosen.length ≤ 8
 bas : 0 ≤ x.Basis ∧ x.Basis ≤ 8
 rul : 0 ≤ x.Rule ∧ x.Rule ≤ 8
 cne : x.Candidates ≠ []
 cle : x.Candidates.length ≤ 1000
 cok : ∀ c, c ∈ x.Candidates → c.all isD = true ∧ c.length ≤ 8
def parS (x : Stp) : Str := if x.Parent = [] then [45] else x.Parent
def flds (x : Stp) : List Str := [parS x, decDigits x.Basis.toNat, Lib.join x.Candidates [44], decDigits x.Rule.toNat, x.Chosen]
def sline (x : Stp) : Str := Lib.join (flds x) [32]
def fmtS (l : List Stp) : Str := (l.map fun x => sline x ++ [10]).flatten
theorem fmtS_snoc (l : List Stp) (x : Stp) : fmtS (l ++ [x]) = fmtS l ++ (sline x ++ [10]) := by
 unfold fmtS; simp
theorem par_len {x : Stp} (h : StpW x) : (parS x).length ≤ 8 := by
 unfold parS; split
 ·simp
 ·exact h.par.2
theorem dec1 {n : Int} (h : 0 ≤ n ∧ n ≤ 8) : (decDigits n.toNat).length ≤ 1 := dec_len 0 _ (by omega)
theorem cand_len {x : Stp} (h : StpW x) : [44].length * x.Candidates.length + Lib.lens x.Candidates ≤ 9000 := by
 have h1 := lens_le (k := 8) (fun c hc => (h.cok c hc).2)
 have h2 := h.cle
 simp only [List.length_cons, List.length_nil]; omega
theorem cj_len {x : Stp} (h : StpW x) : (Lib.join x.Candidates [44]).length ≤ 9000 := Nat.le_trans (join_len _ _) (cand_len h)
theorem flds_lens {x : Stp} (h : StpW x) : Lib.lens (flds x) ≤ 9018 := by
 have h1 := par_len h; have h2 := dec1 h.bas; have h3 := cj_len h; have h4 := dec1 h.rul; have h5 := h.cho.2
 unfold flds Lib.lens
 simp only [List.map_cons, List.map_nil, List.sum_cons, List.sum_nil]
 omega
theorem sline_len {x : Stp} (h : StpW x) : (sline x).length ≤ 9023 := by
 have h1 := join_len (flds x) [32]; have h2 := flds_lens h
 have h3 : (flds x).length = 5 := rfl
 simp only [List.length_cons, List.length_nil] at h1
 unfold sline; omega
theorem fmtS_len : ∀ {l : List Stp}, (∀ x, x ∈ l → StpW x) → (fmtS l).length ≤ 9024 * l.length
 | [], _ => by simp [fmtS]
 | m :: l, h => by
  have h1 := sline_len (h m List.mem_cons_self)
  have h2 := fmtS_len (l := l) (fun x hx => h x (List.mem_cons_of_mem _ hx))
  have e : fmtS (m :: l) = sline m ++ 10 :: fmtS l := by unfold fmtS; simp
  rw [e, List.length_append, List.length_cons, List.length_cons]; omega
theorem tk_app (a b : Str) : intsB (a ++ b) = intsB a ++ intsB b := by unfold intsB; simp
theorem tk_len (s : Str) : (intsB s).length = s.length := by unfold intsB; simp
theorem tk_bytes (s : Str) : bytesI (intsB s) = s := by
 unfold bytesI intsB
 rw [List.map_map]
 conv => rhs; rw [← List.map_id s]
 exact List.map_congr_left fun b _ => by simp
theorem tk_string (t : Str) (u : Unit) : bString ⟨u, intsB t⟩ = some t := by
 unfold bString
 show (if intsB t = intsB (bytesI (intsB t)) then some (bytesI (intsB t)) else none) = _
 rw [tk_bytes, if_pos rfl]
theorem join_one (x sep : Str) : Lib.join [x] sep = x := by rw [Lib.join_cons]; simp [Lib.joinTail]
theorem formatC_eq {s : List Stp} (h : ∀ x, x ∈ s → StpW x) (hl : s.length ≤ 1000) : formatC s = some (fmtS s) := by
 have hm := fmtS_len h
 unfold formatC
 have hloop := loop_seq (f := formatC_b1 s) s.length (fun i => ((i : Int), intsB (fmtS (s.take i)))) (intsB (fmtS s)) (fun i hi => by
  have hx := h _ (List.getElem_mem hi)
  have m1 := sline_len hx
  have m2 := fmtS_len (l := s.take i) (fun x hx => h x (List.mem_of_mem_take hx))
  rw [List.length_take] at m2
  have hb := hx.bas; have hr := hx.rul
  have hcj := cj_len hx
  have hcl := hx.cle
  have hj1 : joinS s[i].Candidates [44] = some (Lib.join s[i].Candidates [44]) := by unfold joinS; rw [if_pos ⟨by omega, by omega⟩]
  have hj2 : joinS [parS s[i], decDigits s[i].Basis.toNat, Lib.join s[i].Candidates [44], decDigits s[i].Rule.toNat, s[i].Chosen] [32] = some (sline s[i]) := by
   unfold joinS
   have e : Lib.join [parS s[i], decDigits s[i].Basis.toNat, Lib.join s[i].Candidates [44], decDigits s[i].Rule.toNat, s[i].Chosen] [32] = sline s[i] := rfl
   rw [e, if_pos ⟨by simp, by omega⟩]
  have hfin : formatC_j2 s (i : Int) s[i] (parS s[i]) (intsB (fmtS (s.take i))) = some (.inl (((i + 1 : Nat) : Int), intsB (fmtS (s.take (i + 1))))) := by
   unfold formatC_j2
   rw [itoa_ok hb.1 (by omega), obs, hj1, obs, itoa_ok hr.1 (by omega), obs, hj2, obs, if_pos (by simp only [List.length_cons, List.length_nil]; omega)]
   unfold bWriteString bCheck
   simp only [obs, tk_len, List.length_append, List.length_cons, List.length_nil]
   rw [if_pos (by omega), obs, w64 (by omega), take_snoc hi, fmtS_snoc]
   simp only [tk_app, List.append_assoc]
   rfl
  unfold formatC_b1
  dsimp only
  rw [if_pos (decide_eq_true (by omega)), if_pos (by omega), itn, geq hi, obs]
  by_cases h0 : s[i].Parent = []
  ·have hp : parS s[i] = [45] := if_pos h0
   rw [hp] at hfin
   rw [if_pos (beq_iff_eq.2 h0)]; exact hfin
  ·have hp : parS s[i] = s[i].Parent := if_neg h0
   rw [hp] at hfin
   rw [if_neg (fun e => h0 (beq_iff_eq.1 e))]; exact hfin) (by
  unfold formatC_b1
  dsimp only
  rw [if_neg (by simp), List.take_length])
 have hloop' : loopO (formatC_b1 s) ((0 : Int), ([] : List Int)) = some (intsB (fmtS s)) := hloop
 rw [hloop', obs]
 show formatC_j1 (intsB (fmtS s)) = _
 unfold formatC_j1
 rw [tk_string]; rfl
end Go.C
end zTk
noncomputable section zTl
set_option linter.unusedVariables false
set_option linter.unusedSimpArgs false
set_option maxHeartbeats 1000000
namespace Go.C
open Go.V
open Go.Lib (decDigits)
variable {b : YE} {g : YR}
theorem day11_eq {d : Int} : day11 d = some (d % 16) := by
 unfold day11
 rw [within_eq (by omega) (by omega)]; rfl
theorem awake11_true : awake11 = some true := by
 unfold awake11
 have hs : CB [(⟨[], (1 : Int), [([57, 52, 48, 49] : Str), ([57, 52, 48, 51] : Str)], (6 : Int), ([57, 52, 48, 51] : Str)⟩ : YL)] := ⟨by decide, fun x hx => by rw [List.mem_singleton.1 hx]; decide⟩
 have hw : ∀ x, x ∈ [(⟨[], (1 : Int), [([57, 52, 48, 49] : Str), ([57, 52, 48, 51] : Str)], (6 : Int), ([57, 52, 48, 51] : Str)⟩ : YL)] → StpW x := fun x hx => by
  rw [List.mem_singleton.1 hx]
  exact ⟨⟨by decide, by decide⟩, ⟨by decide, by decide⟩, by decide, by decide, by decide, by decide, fun c hc => by
   simp only [List.mem_cons, List.not_mem_nil, or_false] at hc
   rcases hc with rfl | rfl <;> decide⟩
 rw [why_eq _ _ _ (by decide), obs, check_eq _ _ _ _ hs, obs, formatC_eq hw (by decide)]
 decide +kernel
theorem CB.set {s : List Stp} (hs : CB s) (k : Nat) {y : Stp} (hy : BL y.Candidates.length) : CB (s.set k y) := ⟨by rw [List.length_set]; exact hs.1, fun x hx => by
 rcases List.mem_or_eq_of_mem_set hx with h | h
 ·exact hs.2 x h
 ·rw [h]; exact hy⟩
end Go.C
end zTl
noncomputable section zTn
set_option linter.unusedVariables false
set_option linter.unusedSimpArgs false
set_option maxHeartbeats 1000000
namespace Go.C
open Go.V
variable {b : YE} {g : YR}
theorem clsS_len (b : YE) (day : Int) (g : YR) : ∀ (n : Nat) (c : Str) (s : List Stp), (clsS b day g n c s).2.length ≤ s.length + n
 | 0, c, s => by simp [clsS]
 | n + 1, c, s => by
  unfold clsS
  split
  ·dsimp only; omega
  ·have := clsS_len b day g n (stepS b day g c).Chosen (s ++ [stepS b day g c])
   simp only [List.length_append, List.length_cons, List.length_nil] at this
   omega
theorem checkUnique_j1 (d : Int) {c : Str} {t : List Stp} (ht : CB t) (hcl : classR b (d % 16) g = (c, t, 0)) (code : Str) {s : List Stp} (hs : CB s) : lawCheckUnique_j1 d b g (c, t, 0) code s = some true := by
 unfold lawCheckUnique_j1
 rw [day11_eq, obs, check_eq _ _ _ _ hs, obs, hcl]
 have hr : checkR code s (c, t, 0) = checkS code s c t := by
  unfold checkR
  dsimp only
  rw [if_neg (by decide), if_neg (by simp)]
 rw [hr]
 have hok := checkS_ok (code := code) (c := c) (s := s) (t := t)
 dsimp only
 by_cases h1 : code = c
 ·have e1 : (code == c) = true := beq_iff_eq.2 h1
  obtain ⟨r, er, hr2⟩ := sameSteps_eq hs ht
  have e2 : ((checkS code s c t).2 == (0 : Int)) = r := by
   rw [Bool.eq_iff_iff, beq_iff_eq, hok, hr2]
   exact ⟨fun h => h.2, fun h => ⟨h1, h⟩⟩
  rw [e1, if_pos rfl, er, obs, e2]
  simp only [cond_true, beq_self_eq_true, if_true]
  rw [awake11_true]; rfl
 ·have e1 : (code == c) = false := beq_eq_false_iff_ne.2 h1
  have e2 : ((checkS code s c t).2 == (0 : Int)) = false := by
   rw [beq_eq_false_iff_ne]
   exact fun h => h1 (hok.1 h).1
  rw [e1, if_neg (by simp), obs, e2]
  simp only [cond_false, beq_self_eq_true, if_true]
  rw [awake11_true]; rfl
theorem lawCheckUnique_true {l m : List Int} {d : Int} {code : Str} {s : List Stp} {mix : Int} (hl : l.length ≤ 9223372036854775807 ∧ ∀ x, x ∈ l → okI_i64 x) (hm : m.length ≤ 9223372036854775807 ∧ ∀ x, x ∈ m → okI_i64 x) (hd : okI_i64 d) (hcode : code.length ≤ 9223372036854775807) (hs : s.length ≤ 9223372036854775807 ∧ ∀ x, x ∈ s → okQ x) (hmix : okI_i64 mix) (hb : s.length ≤ 1954687338211) : lawCheckUnique l m d code s mix = some true := by
 have hcb : CB s := ⟨hs.1, fun x hx => (hs.2 x hx).2.2.1.1⟩
 unfold lawCheckUnique
 obtain ⟨b, e1, hb⟩ := madeNom_ok l
 obtain ⟨g, e2, hg⟩ := madeGood_ok m
 have hgk : okT g := ⟨hg.okW, hg.okM, hg.okP⟩
 rw [e1, obs, e2, obs, day11_eq, obs, rClassify_eq hb.ok _ hgk, obs]
 have hsb := classR_SB b (d % 16) g
 rcases classR_made hb hg.gv d with h | ⟨h, hne⟩
 ·rw [h, if_pos (by decide), awake11_true]; rfl
 ·have hcl := h
  rw [h] at hsb ⊢
  rw [if_neg (by simp)]
  have htl5 : (clsS b (d % 16) g 5 [] []).2.length ≤ 5 := by simpa using clsS_len b (d % 16) g 5 [] []
  generalize (clsS b (d % 16) g 5 [] []).2 = t at *
  generalize (clsS b (d % 16) g 5 [] []).1 = c at *
  have htl := hsb.1
  have ht : CB t := hsb.CB
  dsimp only at htl ⊢
  by_cases hq : ((IntKind.i64.wrap ((BitVec.ofInt (IntKind.i64).bits mix &&& BitVec.ofInt (IntKind.i64).bits (1 : Int)).toNat : Int)) == (1 : Int)) = true
  ·rw [if_pos hq, w64 (by omega), within_eq (by omega) (by omega), obs]
   generalize (mix.fdiv (2 ^ (min (1 : Int).toNat (IntKind.i64).bits))) = x
   have q1 := Int.emod_nonneg x (by omega : (t.length : Int) + 1 ≠ 0)
   have q2 := Int.emod_lt_of_pos x (by omega : (0 : Int) < (t.length : Int) + 1)
   generalize x % ((t.length : Int) + 1) = k at *
   have hlen : (List.drop (0 : Int).toNat (t.take k.toNat)).length ≤ 50 := by
    rw [show ((0 : Int)).toNat = 0 from rfl, List.drop_zero, List.length_take]; omega
   rw [if_pos ⟨by omega, q1, by omega⟩, if_pos (by omega), if_pos (by omega)]
   refine checkUnique_j1 d ht hcl c ⟨?_, fun y hy => ?_⟩
   ·unfold BL; rw [List.length_append]; omega
   ·rcases List.mem_append.1 hy with hy | hy
    ·exact ht.2 y (List.mem_of_mem_take (List.mem_of_mem_drop hy))
    ·exact hcb.2 y hy
  ·rw [if_neg hq]
   exact checkUnique_j1 d ht hcl code hcb
end Go.C
end zTn
noncomputable section zSized
namespace Go.Proofs.YtaeplfiaahkgpaaGreatDoor.sized
open Go.V Go.C Go.ChangeShapes Go.WideShapes Go.ChangeAt Go.RowKit
theorem slice_bytes {H : Type} {enc : TypeId × Value → H} {P : Program} {W : World} {sp : Nat → Bool} {held : Bool} {t e n cap j : Nat} {ad : Option Addr} {d : DataW H} {ps : List MemPlace} {ts : List TypeId} {ds : List (DataW H)} (hz : (DataW.weightsEach P ts ds).all (· ≤ reachBytes) = true) (hj : ts[j]? = some t) (hd : ds[j]? = some d) (ht : P.underlying t = some (.slice e)) (h : DataW.Trod enc P W 0 sp held t (.slice ad n cap) d ps) : n * P.bytesOf e ≤ reachBytes := by
  obtain ⟨fuel, h⟩ := h
  rcases DataW.trod_slice ht h with ⟨h1, _⟩ | ⟨a, len, cap', elems, rest, k, _, h1, h2, _, _, _, hlen, _⟩
  · cases h1; rw [Nat.zero_mul]; exact Nat.zero_le _
  · cases h1
    cases h2
    have h3 := sized_slice hz hj hd ht
    rw [List.length_map] at h3
    exact Nat.le_trans (Nat.mul_le_mul_right _ (by omega)) h3
end Go.Proofs.YtaeplfiaahkgpaaGreatDoor.sized
end zSized
