/- Plain laws of chapter 9: the text of a nomenclature; NomenclatureParse. No program in sight. -/
import Derived.Test.YtfkefolbabniaaaGreatDoorNl
set_option linter.unusedVariables false
set_option linter.unusedSimpArgs false
namespace Go.C
open Go.V
open Go.Lib (decDigits)

theorem fmtB_len {b : ApiNomenclature} (h : BVal b) (h1 : b.Entries.length ≤ 300) (h2 : b.Notes.length ≤ 100) : (fmtB b).length ≤ 711 * b.Entries.length + 201 * b.Notes.length := by
  have e1 := fmtE_len h.ents; have e2 := fmtN_len h.notes
  unfold fmtB
  rw [List.length_append]; omega
theorem refFormatBook_any {b : ApiNomenclature} (h : okApiNomenclature b) : refFormatBook b = some (if nv b = 0 then fmtB b else []) := by
  unfold refFormatBook
  rw [refBook_eq h, Option.bind_some]
  by_cases h0 : nv b = 0
  · have hv := nv_BVal h0
    obtain ⟨l1, l2⟩ := nv_len h0
    rw [if_neg (by rw [h0]; decide), if_pos h0]
    have q1 := fmtE_len hv.ents
    have hloop := loop_seq (f := refFormatBook_b2 b) b.Entries.length (fun i => ((i : Int), fmtE (b.Entries.take i))) (fmtE b.Entries) (fun i hi => by
      have hv1 := hv.ents _ (List.getElem_mem hi)
      have m1 := eline_len hv1
      have m2 := fmtE_len (l := b.Entries.take i) (fun x hx => hv.ents x (List.mem_of_mem_take hx))
      rw [List.length_take] at m2
      unfold refFormatBook_b2
      dsimp only
      rw [if_pos (decide_eq_true (by omega)), if_pos (by omega), Int.toNat_natCast, List.getElem?_eq_getElem hi, Option.bind_some, refEntryLine_eq hv1, Option.bind_some, if_pos (by omega), if_pos (by simp only [List.length_append, List.length_cons, List.length_nil]; omega), w64 (by omega), take_snoc hi, fmtE_snoc]
      rfl) (by
      unfold refFormatBook_b2
      dsimp only
      rw [if_neg (by simp), List.take_length])
    have hloop' : loopO (refFormatBook_b2 b) ((0 : Int), ([] : Str)) = some (fmtE b.Entries) := hloop
    rw [hloop', Option.bind_some]
    unfold refFormatBook_j1
    have hloop2 := loop_seq (f := refFormatBook_b1 b) b.Notes.length (fun i => ((i : Int), fmtE b.Entries ++ fmtN (b.Notes.take i))) (fmtB b) (fun i hi => by
      have hv1 := hv.notes _ (List.getElem_mem hi)
      have m1 := nline_len hv1
      have m2 := fmtN_len (l := b.Notes.take i) (fun x hx => hv.notes x (List.mem_of_mem_take hx))
      rw [List.length_take] at m2
      unfold refFormatBook_b1
      dsimp only
      rw [if_pos (decide_eq_true (by omega)), if_pos (by omega), Int.toNat_natCast, List.getElem?_eq_getElem hi, Option.bind_some, refNoteLine_eq hv1, Option.bind_some, if_pos (by simp only [List.length_append]; omega), if_pos (by simp only [List.length_append, List.length_cons, List.length_nil]; omega), w64 (by omega), take_snoc hi, fmtN_snoc]
      simp only [List.append_assoc]
      rfl) (by
      unfold refFormatBook_b1
      dsimp only
      rw [if_neg (by simp), List.take_length]; rfl)
    have h00 : (((0 : Nat) : Int), fmtE b.Entries ++ fmtN (b.Notes.take 0)) = ((0 : Int), fmtE b.Entries) := by simp [fmtN]
    have hloop2 : loopO (refFormatBook_b1 b) (((0 : Nat) : Int), fmtE b.Entries ++ fmtN (b.Notes.take 0)) = some (fmtB b) := hloop2
    rw [h00] at hloop2
    show (loopO (refFormatBook_b1 b) ((0 : Int), fmtE b.Entries)).bind _ = _
    rw [hloop2]; rfl
  · rw [if_pos (by simpa using h0), if_neg h0]

theorem lens_set {l : List Str} {i : Nat} (hi : i < l.length) (a : Str) : Lib.lens (l.set i a) + l[i].length = Lib.lens l + a.length := by
  induction l generalizing i with
  | nil => simp at hi
  | cons x l ih =>
    cases i with
    | zero => simp [Lib.lens]; omega
    | succ i =>
      have := ih (i := i) (by simpa using hi)
      simp only [List.set_cons_succ, List.getElem_cons_succ, Lib.lens, List.map_cons, List.sum_cons] at this ⊢
      omega
theorem lens_swap {l : List Str} {p q : Nat} (hp : p < l.length) (hq : q < l.length) : Lib.lens ((l.set p (l.getD q default)).set q (l.getD p default)) = Lib.lens l := by
  have e1 : l.getD q default = l[q] := getD_of (List.getElem?_eq_getElem hq)
  have e2 : l.getD p default = l[p] := getD_of (List.getElem?_eq_getElem hp)
  rw [e1, e2]
  have h1 := lens_set hp l[q]
  have h2 := lens_set (l := l.set p l[q]) (i := q) (by simpa using hq) l[p]
  have h3 : (l.set p l[q])[q]'(by simpa using hq) = l[q] := by
    rw [List.getElem_set]
    split
    · rfl
    · rfl
  rw [h3] at h2
  omega
theorem law_j3 {s2 : Str} {lines : List Str} (hs : s2.length ≤ 300) (hl : lines.length + Lib.lens lines ≤ 200000) : lawNParse_j3 s2 lines = some true := by
  unfold lawNParse_j3
  have hj := join_len lines [10]
  simp only [List.length_cons, List.length_nil] at hj
  have h1 : (Lib.join lines [10]).length ≤ 400000 := by omega
  rw [refJoined_eq (by simp only [List.length_cons, List.length_nil]; omega) (by omega), Option.bind_some, nomParse_eq h1, Option.bind_some, refParseBook_eq h1, Option.bind_some, nomParse_eq (by omega), Option.bind_some, refParseBook_eq (by omega), Option.bind_some]
  have o1 := readB_ok (Lib.join lines [10])
  have o2 := readB_ok s2
  simp only [beq_self_eq_true, cond_true, if_true]
  rw [sameBook_refl o1.1 o1.2.1 o1.2.2, Option.bind_some]
  simp only [cond_true, if_true]
  rw [sameBook_refl o2.1 o2.2.1 o2.2.2, Option.bind_some]
  simp only [cond_true, if_true]
  rw [awake_true]; rfl
theorem splitR_eq (s : Str) (c : Int) : r08SplitR s c = r08Split s c := rfl
theorem bytesI_len (l : List Int) : (bytesI l).length = l.length := by unfold bytesI; simp
theorem intsB_len (l : Str) : (intsB l).length = l.length := by unfold intsB; simp
theorem law_j2 {from_ to_ : Int} {s2 : Str} {b : List Int} (hs : s2.length ≤ 300) (hb : b.length ≤ 150000) : lawNParse_j2 from_ to_ s2 b = some true := by
  unfold lawNParse_j2
  have hbl := bytesI_len b
  have hs10 := split32 (s := bytesI b) (by omega) 10
  rw [show (((10 : UInt8).toNat : Nat) : Int) = (10 : Int) from rfl] at hs10
  have hsl := spl_len 10 (bytesI b)
  have hpos := List.length_pos_iff.2 (spl_ne 10 (bytesI b))
  rw [splitR_eq, hs10, Option.bind_some]
  generalize spl 10 (bytesI b) = v at *
  have p1 := Int.emod_nonneg from_ (by omega : (v.length : Int) ≠ 0)
  have p2 := Int.emod_lt_of_pos from_ (by omega : (0 : Int) < (v.length : Int))
  have q1 := Int.emod_nonneg to_ (by omega : (v.length : Int) ≠ 0)
  have q2 := Int.emod_lt_of_pos to_ (by omega : (0 : Int) < (v.length : Int))
  rw [within_eq (by omega) (by omega), Option.bind_some, within_eq (by omega) (by omega), Option.bind_some]
  generalize from_ % (v.length : Int) = p at p1 p2
  generalize to_ % (v.length : Int) = q at q1 q2
  split
  · rw [if_pos ⟨q1, q2⟩, if_pos ⟨p1, p2⟩, if_pos ⟨p1, p2⟩, if_pos ⟨q1, by simpa using q2⟩]
    refine law_j3 hs ?_
    rw [lens_swap (by omega) (by omega)]
    simp only [List.length_set]
    omega
  · exact law_j3 hs (by omega)
theorem NMade.nlen {b : ApiNomenclature} (h : NMade b) : (fmtB b).length ≤ 120000 := by
  have h1 := h.len; have h2 := h.notes.1
  have := fmtB_len (nv_BVal h.nv) (by omega) (by omega)
  omega
theorem awk_ne {e : Ent} : 0 < (eline e ++ [10]).length := by simp
theorem NMade.npos {b : ApiNomenclature} (h : NMade b) : 0 < (fmtB b).length := by
  have h1 := h.len.2
  unfold fmtB fmtE
  cases hb : b.Entries with
  | nil => rw [hb] at h1; simp at h1
  | cons e l => simp only [List.map_cons, List.flatten_cons, List.length_append, List.length_cons, List.length_nil]; omega
theorem law_j1 {l at_ by_ : List Int} {from_ to_ : Int} {s2 : Str} (hs : s2.length ≤ 300) (ha : at_.length ≤ 9223372036854775807) (hby : by_.length ≤ 9223372036854775807) : lawNParse_j1 l at_ by_ from_ to_ s2 = some true := by
  unfold lawNParse_j1
  obtain ⟨m, e1, hb⟩ := madeNom_ok l
  have hfl := hb.nlen
  have hfp := hb.npos
  have hil := intsB_len (fmtB m)
  rw [e1, Option.bind_some, refFormatBook_any hb.ok, if_pos hb.nv, Option.bind_some, if_pos (by omega)]
  obtain ⟨b, e2, h2⟩ := loop_inv (f := lawNParse_b1 at_ by_ from_ to_ s2)
    (fun k (x : Int × List Int) => ∃ i : Nat, x.1 = (i : Int) ∧ k = 3 - i ∧ i ≤ 2 ∧ x.2.length = (fmtB m).length)
    (fun (x : List Int) => x.length ≤ 150000)
    (fun k x hx => by
      obtain ⟨i0, b⟩ := x
      obtain ⟨i, h1, h2, h3, h4⟩ := hx
      simp only at h1 h4
      subst h1
      unfold lawNParse_b1
      dsimp only
      by_cases hc : (bif (bif (decide ((i : Int) < (at_.length : Int))) then (decide ((i : Int) < (by_.length : Int))) else false) then (decide ((i : Int) < (2 : Int))) else false) = true
      · left
        have hcc : i < at_.length ∧ i < by_.length ∧ i < 2 := by
          simp only [Bool.cond_false_right, Bool.and_eq_true, decide_eq_true_eq] at hc
          omega
        obtain ⟨c1, c2, c3⟩ := hcc
        rw [if_pos hc, if_pos (by omega), Int.toNat_natCast, List.getElem?_eq_getElem c1, Option.bind_some, within_eq (by omega) (by omega), Option.bind_some, if_pos (by omega), List.getElem?_eq_getElem c2, Option.bind_some,
          if_pos ⟨Int.emod_nonneg _ (by omega), Int.emod_lt_of_pos _ (by omega)⟩, w64 (by omega)]
        exact ⟨_, 3 - (i + 1), by omega, rfl, i + 1, rfl, rfl, by omega, by simp only [List.length_set]; exact h4⟩
      · right
        rw [if_neg hc]
        exact ⟨_, rfl, by omega⟩)
    3 ((0 : Int), intsB (fmtB m)) ⟨0, rfl, rfl, by omega, hil⟩
  rw [e2, Option.bind_some]
  exact law_j2 hs h2
theorem lawNParse_true {s : Str} {l at_ by_ : List Int} {from_ to_ : Int} (hs : s.length ≤ 9223372036854775807) (hl : l.length ≤ 9223372036854775807 ∧ ∀ x, x ∈ l → okI_i64 x) (ha : at_.length ≤ 9223372036854775807 ∧ ∀ x, x ∈ at_ → okI_i64 x) (hby : by_.length ≤ 9223372036854775807 ∧ ∀ x, x ∈ by_ → okI_u8 x) (hf : okI_i64 from_) (ht : okI_i64 to_) : lawNParse s l at_ by_ from_ to_ = some true := by
  unfold lawNParse
  split
  · rename_i hc
    have hc := of_decide_eq_true hc
    rw [if_pos (by omega)]
    exact law_j1 (by simp; omega) ha.1 hby.1
  · rename_i hc
    have hc : ¬ (300 : Int) < (s.length : Int) := fun h => hc (decide_eq_true h)
    exact law_j1 (by omega) ha.1 hby.1
end Go.C
