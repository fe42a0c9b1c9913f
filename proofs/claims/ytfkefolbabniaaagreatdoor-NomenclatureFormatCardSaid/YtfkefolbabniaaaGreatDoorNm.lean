/- Plain laws of chapter 9: NomenclatureFormat. No program in sight. -/
import Derived.Test.YtfkefolbabniaaaGreatDoorNs
import Derived.Test.YtfkefolbabniaaaGreatDoorPk
set_option linter.unusedVariables false
set_option linter.unusedSimpArgs false
namespace Go.C
open Go.V
open Go.Lib (decDigits)

theorem few_ok {b : ApiNomenclature} (h : okApiNomenclature b) : ∃ v, few09 b = some v ∧ okApiNomenclature v := by
  obtain ⟨⟨h1, h2⟩, h3, h4⟩ := h
  have fin : ∀ es : List Ent, (es.length ≤ 9223372036854775807 ∧ ∀ x, x ∈ es → okApiCodeEntry x) → ∃ v, few09_j1 b es = some v ∧ okApiNomenclature v := fun es hes => by
    unfold few09_j1 few09_j2
    split
    · rename_i c
      simp only [decide_eq_true_eq] at c
      rw [if_pos (by omega)]
      exact ⟨_, rfl, hes, by simp; omega, fun x hx => h4 x (List.mem_of_mem_take (List.mem_of_mem_drop hx))⟩
    · exact ⟨_, rfl, hes, h3, h4⟩
  unfold few09
  split
  · rename_i c
    simp only [decide_eq_true_eq] at c
    rw [if_pos (by omega)]
    exact fin _ ⟨by simp; omega, fun x hx => h2 x (List.mem_of_mem_take (List.mem_of_mem_drop hx))⟩
  · exact fin _ ⟨h1, h2⟩
theorem intsB_append (a b : Str) : intsB (a ++ b) = intsB a ++ intsB b := by unfold intsB; simp
theorem bytes_ints (s : Str) : bytesI (intsB s) = s := by
  unfold bytesI intsB
  rw [List.map_map]
  conv => rhs; rw [← List.map_id s]
  exact List.map_congr_left fun b _ => by simp
theorem bString_ints (t : Str) (u : Unit) : bString ⟨u, intsB t⟩ = some t := by
  unfold bString
  show (if intsB t = intsB (bytesI (intsB t)) then some (bytesI (intsB t)) else none) = _
  rw [bytes_ints, if_pos rfl]
theorem nomFormat_eq (b : ApiNomenclature) : nomFormat b = some (if nv b = 0 then fmtB b else []) := by
  unfold nomFormat
  rw [nomValidate_eq, Option.bind_some]
  by_cases h0 : nv b = 0
  · have hv := nv_BVal h0
    obtain ⟨l1, l2⟩ := nv_len h0
    rw [if_neg (by rw [h0]; decide), if_pos h0]
    have q1 := fmtE_len hv.ents
    have hloop := loop_seq (f := nomFormat_b2 b) b.Entries.length (fun i => ((i : Int), intsB (fmtE (b.Entries.take i)))) (intsB (fmtE b.Entries)) (fun i hi => by
      have hv1 := hv.ents _ (List.getElem_mem hi)
      have m1 := eline_len hv1
      have m2 := fmtE_len (l := b.Entries.take i) (fun x hx => hv.ents x (List.mem_of_mem_take hx))
      rw [List.length_take] at m2
      unfold nomFormat_b2
      dsimp only
      rw [if_pos (decide_eq_true (by omega)), if_pos (by omega), Int.toNat_natCast, List.getElem?_eq_getElem hi, Option.bind_some, entryLine_eq hv1, Option.bind_some, if_pos (by simp only [List.length_cons, List.length_nil]; omega)]
      unfold bWriteString bCheck
      simp only [Option.bind_some, intsB_len, List.length_append, List.length_cons, List.length_nil]
      rw [if_pos (by omega), Option.bind_some, w64 (by omega), take_snoc hi, fmtE_snoc]
      simp only [intsB_append, List.append_assoc]
      rfl) (by
      unfold nomFormat_b2
      dsimp only
      rw [if_neg (by simp), List.take_length])
    have hloop' : loopO (nomFormat_b2 b) ((0 : Int), ([] : List Int)) = some (intsB (fmtE b.Entries)) := hloop
    rw [hloop', Option.bind_some]
    unfold nomFormat_j1
    have hloop2 := loop_seq (f := nomFormat_b1 b) b.Notes.length (fun i => ((i : Int), intsB (fmtE b.Entries ++ fmtN (b.Notes.take i)))) (intsB (fmtB b)) (fun i hi => by
      have hv1 := hv.notes _ (List.getElem_mem hi)
      have m1 := nline_len hv1
      have m2 := fmtN_len (l := b.Notes.take i) (fun x hx => hv.notes x (List.mem_of_mem_take hx))
      rw [List.length_take] at m2
      unfold nomFormat_b1
      dsimp only
      rw [if_pos (decide_eq_true (by omega)), if_pos (by omega), Int.toNat_natCast, List.getElem?_eq_getElem hi, Option.bind_some, noteLine_eq hv1, Option.bind_some, if_pos (by simp only [List.length_cons, List.length_nil]; omega)]
      unfold bWriteString bCheck
      simp only [Option.bind_some, intsB_len, List.length_append, List.length_cons, List.length_nil]
      rw [if_pos (by omega), Option.bind_some, w64 (by omega), take_snoc hi, fmtN_snoc]
      simp only [intsB_append, List.append_assoc]
      rfl) (by
      unfold nomFormat_b1
      dsimp only
      rw [if_neg (by simp), List.take_length]; rfl)
    have h00 : (((0 : Nat) : Int), intsB (fmtE b.Entries ++ fmtN (b.Notes.take 0))) = ((0 : Int), intsB (fmtE b.Entries)) := by simp [fmtN]
    have hloop2 : loopO (nomFormat_b1 b) (((0 : Nat) : Int), intsB (fmtE b.Entries ++ fmtN (b.Notes.take 0))) = some (intsB (fmtB b)) := hloop2
    rw [h00] at hloop2
    show (loopO (nomFormat_b1 b) ((0 : Int), intsB (fmtE b.Entries))).bind _ = _
    rw [hloop2, Option.bind_some]
    unfold nomFormat_j2
    show (bString ⟨(), intsB (fmtB b)⟩).bind _ = _
    rw [bString_ints]; rfl
  · rw [if_pos (by simpa using h0), if_neg h0]

/-! ### Written and read -/
theorem spl_fmtN : ∀ {l : List ApiCodeNote}, (∀ x, x ∈ l → NVal x) → spl 10 (fmtN l) = l.map nline ++ [[]]
  | [], _ => by simp [fmtN, spl]
  | m :: l, h => by
    have e : fmtN (m :: l) = nline m ++ 10 :: fmtN l := by unfold fmtN; simp
    rw [e, spl_at (nline_no10 (h m List.mem_cons_self)), spl_fmtN (fun x hx => h x (List.mem_cons_of_mem _ hx))]
    rfl
theorem spl_fmtE {ns : List ApiCodeNote} (hn : ∀ x, x ∈ ns → NVal x) : ∀ {l : List Ent}, (∀ x, x ∈ l → EVal x) → spl 10 (fmtE l ++ fmtN ns) = l.map eline ++ (ns.map nline ++ [[]])
  | [], _ => by rw [show fmtE [] = [] from rfl, List.nil_append, spl_fmtN hn]; rfl
  | m :: l, h => by
    have e : fmtE (m :: l) ++ fmtN ns = eline m ++ 10 :: (fmtE l ++ fmtN ns) := by unfold fmtE; simp
    rw [e, spl_at (eline_no10 (h m List.mem_cons_self)), spl_fmtE hn (fun x hx => h x (List.mem_cons_of_mem _ hx))]
    rfl
theorem addB_note {n : ApiCodeNote} (h : NVal n) (b : ApiNomenclature) : addB b (nline n) = some ⟨b.Entries, b.Notes ++ [n]⟩ := by
  unfold addB; rw [gn_some h]
theorem addB_ent {e : Ent} (h : EVal e) (es : List Ent) : addB ⟨es, []⟩ (eline e) = some ⟨es ++ [e], []⟩ := by
  unfold addB; rw [gn_none (fun n hn he => line_ne h hn he.symm), ge_some h]; rfl
theorem scan_notes : ∀ (l : List ApiCodeNote) (k : Nat) (es : List Ent) (ns : List ApiCodeNote), (∀ x, x ∈ l → NVal x) → scanB (l.map nline) k ⟨es, ns⟩ = .inr ⟨es, ns ++ l⟩
  | [], k, es, ns, _ => by simp [scanB]
  | m :: l, k, es, ns, h => by
    rw [List.map_cons]
    unfold scanB
    rw [addB_note (h m List.mem_cons_self)]
    show scanB (l.map nline) (k + 1) ⟨es, ns ++ [m]⟩ = _
    rw [scan_notes l (k + 1) _ _ (fun x hx => h x (List.mem_cons_of_mem _ hx))]
    simp
theorem scan_ents (ns : List ApiCodeNote) (hn : ∀ x, x ∈ ns → NVal x) : ∀ (l : List Ent) (k : Nat) (es : List Ent), (∀ x, x ∈ l → EVal x) → scanB (l.map eline ++ ns.map nline) k ⟨es, []⟩ = .inr ⟨es ++ l, ns⟩
  | [], k, es, _ => by rw [List.map_nil, List.nil_append, scan_notes ns k es [] hn]; simp
  | m :: l, k, es, h => by
    rw [List.map_cons, List.cons_append]
    unfold scanB
    rw [addB_ent (h m List.mem_cons_self)]
    show scanB (l.map eline ++ ns.map nline) (k + 1) ⟨es ++ [m], []⟩ = _
    rw [scan_ents ns hn l (k + 1) _ (fun x hx => h x (List.mem_cons_of_mem _ hx))]
    simp
theorem readB_fmtB {b : ApiNomenclature} (h0 : nv b = 0) : readB (fmtB b) = (b, ((b.Entries.length + b.Notes.length : Nat) : Int), 0) := by
  have hv := nv_BVal h0
  unfold readB fmtB
  rw [spl_fmtE hv.notes hv.ents, ← List.append_assoc]
  have hlen : ((b.Entries.map eline ++ b.Notes.map nline) ++ [([] : Str)]).length - 1 = (b.Entries.map eline ++ b.Notes.map nline).length := by simp only [List.length_append, List.length_cons, List.length_nil]; omega
  rw [hlen, List.take_left, scan_ents b.Notes hv.notes b.Entries 0 [] hv.ents]
  have hd : ((b.Entries.map eline ++ b.Notes.map nline) ++ [([] : Str)]).getD (b.Entries.map eline ++ b.Notes.map nline).length default = [] := by
    rw [List.getD_eq_getElem?_getD, List.getElem?_append_right (Nat.le_refl _)]; simp
  have hb : (⟨[] ++ b.Entries, b.Notes⟩ : ApiNomenclature) = b := rfl
  simp only [hd, if_true, hb, h0]
  simp
theorem lawNFormat_true {l : List Int} {raw : ApiNomenclature} (hl : l.length ≤ 9223372036854775807 ∧ ∀ x, x ∈ l → okI_i64 x) (hraw : okApiNomenclature raw) : lawNFormat l raw = some true := by
  unfold lawNFormat
  obtain ⟨m, e1, hb⟩ := madeNom_ok l
  obtain ⟨v, e2, hv⟩ := few_ok hraw
  have hz := hb.nv
  have hfl := hb.nlen
  have hlen := hb.len
  have hnl := hb.notes.1
  rw [e1, Option.bind_some, nomFormat_eq, Option.bind_some, refFormatBook_any hb.ok, Option.bind_some, if_pos hz]
  simp only [beq_self_eq_true, Bool.not_true, Bool.not_false, if_true, e2, Option.bind_some, nomFormat_eq, refFormatBook_any hv, cond_false, Bool.false_eq_true, if_false]
  rw [nomParse_eq (by omega), Option.bind_some, readB_fmtB hz, w64 (by omega)]
  simp only [beq_self_eq_true, cond_true]
  rw [show (((m.Entries.length + m.Notes.length : Nat) : Int) == (m.Entries.length : Int) + (m.Notes.length : Int)) = true by rw [beq_iff_eq]; omega]
  simp only [if_true]
  rw [sameBook_refl (nv_BVal hz) (by omega) (by omega), Option.bind_some]
  simp only [cond_true, if_true]
  rw [awake_true]; rfl
end Go.C
