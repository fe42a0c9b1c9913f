/- Plain laws of chapter 19: MeasureFormat. No program in sight. -/
import Derived.Test.YtbilobjddflpeaaGreatDoorMn
import Derived.Test.YtbilobjddflpeaaGreatDoorPk
set_option linter.unusedVariables false
set_option linter.unusedSimpArgs false
namespace Go.C
open Go.V
open Go.Lib (decDigits)

theorem okL_of {m : Mea} (h : okApiMeasure m) : okL m := ⟨h.2.2.1, h.2.2.2.1.1⟩
theorem few_ok {l : List Mea} (h : ∀ x, x ∈ l → okL x) : ∃ v, few19 l = some v ∧ ∀ x, x ∈ v → okL x := by
  unfold few19
  have hc : (0 : Int) ≤ (0 : Int) ∧ (0 : Int) ≤ (if (310 : Int) < (l.length : Int) then (310 : Int) else (l.length : Int)) ∧ (if (310 : Int) < (l.length : Int) then (310 : Int) else (l.length : Int)) ≤ (l.length : Int) := by split <;> omega
  rw [if_pos hc]
  generalize ht : (l.take (if (310 : Int) < (l.length : Int) then (310 : Int) else (l.length : Int)).toNat).drop (0 : Int).toNat = t
  have hlen : t.length ≤ 310 := by
    rw [← ht, List.length_drop, List.length_take]
    split <;> omega
  have hok : ∀ x, x ∈ t → okL x := fun x hx => h x (by rw [← ht] at hx; exact List.mem_of_mem_take (List.mem_of_mem_drop hx))
  rw [if_pos (by omega)]
  obtain ⟨v, e, hv⟩ := loop_inv (f := few19_b1)
    (fun m (x : Int × List Mea) => ∃ i : Nat, m = x.2.length - i ∧ i ≤ x.2.length ∧ x.2.length ≤ 310 ∧ x.1 = (i : Int) ∧ ∀ y, y ∈ x.2 → okL y)
    (fun v => ∀ x, x ∈ v → okL x)
    (fun m x hx => by
      obtain ⟨i0, r⟩ := x
      obtain ⟨i, q1, q2, q3, q4, q5⟩ := hx
      simp only at q1 q2 q3 q4 q5
      subst q4
      unfold few19_b1
      dsimp only
      by_cases hi : i < r.length
      · left
        have hg := q5 _ (List.getElem_mem hi)
        rw [Int.toNat_natCast, getD_in hi]
        have hc2 : (0 : Int) ≤ (0 : Int) ∧ (0 : Int) ≤ (if (22 : Int) < (r[i].Origins.length : Int) then (22 : Int) else (r[i].Origins.length : Int)) ∧ (if (22 : Int) < (r[i].Origins.length : Int) then (22 : Int) else (r[i].Origins.length : Int)) ≤ (r[i].Origins.length : Int) := by split <;> omega
        rw [if_pos (decide_eq_true (by omega)), if_pos (by omega), if_pos (by omega), if_pos hc2, if_pos (by omega), w64 (by omega)]
        refine ⟨_, r.length - (i + 1), by omega, rfl, i + 1, by simp, by simp; omega, by simp; omega, rfl, fun y hy => ?_⟩
        rcases List.mem_or_eq_of_mem_set hy with h | rfl
        · exact q5 y h
        · exact ⟨hg.1, by have := hg.2; simp only [List.length_drop, List.length_take]; omega⟩
      · right
        rw [if_neg (fun h => by have := of_decide_eq_true h; omega)]
        exact ⟨_, rfl, q5⟩)
    t.length ((0 : Int), t) ⟨0, rfl, by omega, hlen, rfl, hok⟩
  rw [e]
  exact ⟨v, rfl, hv⟩


/-! ### No line feed in a line -/
theorem fmt_no10 (d : ApiDuty) : (10 : UInt8) ∉ fmt d := by
  have h10 : (10 : UInt8).toNat < 48 ∨ 57 < (10 : UInt8).toNat := .inl (by decide)
  have p : ∀ u, (10 : UInt8) ∉ pct u := fun u => pct_no h10 (by decide) (by decide)
  have a : (10 : UInt8) ∉ amt d := amt_no h10 (by decide) (by decide)
  unfold fmt terms bnds
  simp only [List.mem_append, not_or]
  refine ⟨?_, ?_, ?_⟩
  · split
    · exact p _
    · split
      · exact a
      · simp only [List.mem_append, not_or]
        exact ⟨⟨p _, by decide⟩, a⟩
  · split
    · simp only [List.mem_append, not_or]
      exact ⟨by decide, p _⟩
    · exact List.not_mem_nil
  · split
    · simp only [List.mem_append, not_or]
      exact ⟨by decide, p _⟩
    · exact List.not_mem_nil
theorem flds_no10 {m : Mea} (h : MVal m) : ∀ x, x ∈ flds m → (10 : UInt8) ∉ x := by
  intro x hx
  unfold flds at hx
  simp only [List.mem_cons, List.not_mem_nil, or_false] at hx
  have h10 : (10 : UInt8).toNat < 48 ∨ 57 < (10 : UInt8).toNat := .inl (by decide)
  rcases hx with rfl | rfl | rfl | rfl | rfl | rfl | rfl | rfl
  · exact dec_no _ h10
  · exact dec_no _ h10
  · exact digs_no (lvl_digs h.lvl) h10
  · unfold orgT
    split
    · decide
    · exact join_no (by decide) (fun y hy => org_no h hy (.inl (by decide)))
  · exact dec_no _ h10
  · exact dec_no _ h10
  · exact dec_no _ h10
  · unfold regT
    split
    · decide
    · exact dec_no _ h10
theorem line_no10 {m : Mea} (h : MVal m) : (10 : UInt8) ∉ lineS m := by
  unfold lineS
  refine join_no (by decide) (fun x hx => ?_)
  rcases List.mem_append.1 hx with hx | hx
  · exact flds_no10 h x hx
  · rw [List.mem_singleton.1 hx]; exact fmt_no10 _

/-! ### Written and read -/
theorem fmtL_cons (m : Mea) (l : List Mea) : fmtL (m :: l) = lineS m ++ 10 :: fmtL l := by unfold fmtL; simp
theorem spl_fmtL : ∀ {l : List Mea}, (∀ x, x ∈ l → MVal x) → spl 10 (fmtL l) = l.map lineS ++ [[]]
  | [], _ => by simp [fmtL, spl]
  | m :: l, h => by
    rw [fmtL_cons, spl_at (line_no10 (h m List.mem_cons_self)), spl_fmtL (fun x hx => h x (List.mem_cons_of_mem _ hx))]
    rfl
theorem scan_lines : ∀ (l : List Mea) (k : Nat) (r : List Mea), (∀ x, x ∈ l → MVal x) → scan (l.map lineS) k r = .inr (r ++ l)
  | [], k, r, _ => by simp [scan]
  | m :: l, k, r, h => by
    rw [List.map_cons]
    unfold scan
    rw [gl_some (h m List.mem_cons_self)]
    show scan (l.map lineS) (k + 1) (r ++ [m]) = _
    rw [scan_lines l (k + 1) _ (fun x hx => h x (List.mem_cons_of_mem _ hx))]
    simp
theorem readS_fmtL {l : List Mea} (hv : ∀ x, x ∈ l → MVal x) (hm : ms l = 0) : readS (fmtL l) = (l, (l.length : Int), 0) := by
  unfold readS
  rw [spl_fmtL hv]
  have hlen : (l.map lineS ++ [([] : Str)]).length - 1 = (l.map lineS).length := by simp
  rw [hlen, List.take_left, scan_lines l 0 [] hv]
  have hd : (l.map lineS ++ [([] : Str)]).getD (l.map lineS).length default = [] := by
    rw [List.getD_eq_getElem?_getD, List.getElem?_append_right (Nat.le_refl _)]; simp
  simp only [List.nil_append, hd, if_true, hm]

theorem intsB_append (a b : Str) : intsB (a ++ b) = intsB a ++ intsB b := by unfold intsB; simp
theorem bytes_ints (s : Str) : bytesI (intsB s) = s := by
  unfold bytesI intsB
  rw [List.map_map]
  conv => rhs; rw [← List.map_id s]
  exact List.map_congr_left fun b _ => by simp
theorem bString_ints (t : Str) (u : Unit) : bString ⟨u, intsB t⟩ = some t := by
  unfold bString
  show (if intsB t = intsB (bytesI (intsB t)) then some (bytesI (intsB t)) else none) = _
  rw [bytes_ints, if_pos rfl]
theorem intsBl (l : Str) : (intsB l).length = l.length := by unfold intsB; simp

theorem meFormat_eq {l : List Mea} (h : ∀ x, x ∈ l → okL x) : meFormat l = some (if ms l = 0 then fmtL l else []) := by
  unfold meFormat
  rw [meV h, Option.bind_some]
  by_cases hm : ms l = 0
  · obtain ⟨hl, ha⟩ := ms_zero.1 hm
    have hv : ∀ x, x ∈ l → MVal x := fun x hx => ha.val hx
    rw [if_neg (by rw [hm]; decide), if_pos hm]
    have hfold := loop_seq (f := meFormat_b1 l) l.length (fun i => ((i : Int), intsB (fmtL (l.take i)))) (intsB (fmtL l)) (fun i hi => by
      have hb := fmtL_len (l := l.take i) (fun x hx => hv x (List.mem_of_mem_take hx))
      rw [List.length_take] at hb
      have hml := line_len (hv _ (List.getElem_mem hi))
      unfold meFormat_b1
      dsimp only
      rw [if_pos (decide_eq_true (by omega)), if_pos (by omega), Int.toNat_natCast, List.getElem?_eq_getElem hi, Option.bind_some, formatMeasure_eq (hv _ (List.getElem_mem hi)), Option.bind_some]
      unfold bWriteString bWriteByte bCheck
      simp only [Option.bind_some, intsBl, List.length_append, List.length_cons, List.length_nil]
      rw [if_pos (by omega), Option.bind_some, if_pos (by simp only [List.length_append, intsBl]; omega), Option.bind_some, w64 (by omega), take_snoc hi, fmtL_snoc, intsB_append, intsB_append, List.append_assoc]
      rfl) (by
      unfold meFormat_b1
      dsimp only
      rw [if_neg (by simp), List.take_length])
    have hfold' : loopO (meFormat_b1 l) ((0 : Int), ([] : List Int)) = some (intsB (fmtL l)) := hfold
    rw [hfold', Option.bind_some]
    unfold meFormat_j1
    show (bString ⟨(), intsB (fmtL l)⟩).bind _ = _
    rw [bString_ints]; rfl
  · rw [if_pos (by simpa using hm), if_neg hm]
theorem refFormat_any {l : List Mea} (h : ∀ x, x ∈ l → okL x) : refFormat l = some (if ms l = 0 then fmtL l else []) := by
  by_cases hm : ms l = 0
  · obtain ⟨hl, ha⟩ := ms_zero.1 hm
    rw [if_pos hm, refFormat_eq ha hl]
  · rw [if_neg hm]
    unfold refFormat
    rw [refMeasures_eq h, Option.bind_some, if_pos (by simpa using hm)]

theorem lawFormat_true {l : List Int} {raw : List Mea} (hl : l.length ≤ 9223372036854775807 ∧ ∀ x, x ∈ l → okI_i64 x) (hraw : raw.length ≤ 9223372036854775807 ∧ ∀ x, x ∈ raw → okApiMeasure x) : lawFormat l raw = some true := by
  unfold lawFormat
  obtain ⟨m, e1, hb⟩ := madeMeasures_ok l
  obtain ⟨v, e2, hv⟩ := few_ok (l := raw) (fun x hx => okL_of (hraw.2 x hx))
  have hlen := hb.len
  have hz : ms m = 0 := ms_zero.2 ⟨by omega, hb.asc⟩
  have hfl := fmtL_len hb.vals
  rw [e1, Option.bind_some, meFormat_eq (fun x hx => (hb.vals x hx).okL), Option.bind_some, refFormat_any (fun x hx => (hb.vals x hx).okL), Option.bind_some]
  simp only [if_pos hz, beq_self_eq_true, Bool.not_true, Bool.not_false, if_true, e2, Option.bind_some, meFormat_eq hv, refFormat_any hv, cond_false, Bool.false_eq_true, if_false]
  rw [meParse_eq (by omega), Option.bind_some, readS_fmtL hb.vals hz]
  simp only [beq_self_eq_true, cond_true, if_true]
  rw [sameMeasures_refl (by omega) (fun x hx => by have := (hb.vals x hx).origins; omega), Option.bind_some]
  simp only [cond_true, if_true]
  rw [awake_true]; rfl

end Go.C
