/- Plain laws of chapter 9: the reference reads nomenclatures as the program does; NomenclatureParse. No program in sight. -/
import Derived.Test.YtfkefolbabniaaaGreatDoorNo
import Derived.Test.YtfkefolbabniaaaGreatDoorNh
import Derived.Test.YtfkefolbabniaaaGreatDoorPm
set_option linter.unusedVariables false
set_option linter.unusedSimpArgs false
namespace Go.C
open Go.V
open Go.Lib (decDigits)

theorem split32 {s : Str} (h : s.length ≤ 1000000) (c : UInt8) : r08Split s (c.toNat : Int) = some (spl c s) := r08Split_eq c (by omega)
theorem split43 {s : Str} (h : s.length ≤ 1000000) : r08Split s (43 : Int) = some (spl 43 s) := split32 h 43

/-- A term's list, when a line is read. -/
abbrev TSo (r : List (List Str) × Bool × List Ent × List ApiCodeNote) (es : List Ent) (ns : List ApiCodeNote) : Prop :=
  r.2.2 = (es, ns) ∧ r.1.length ≤ 1000000 ∧ ∀ t, t ∈ r.1 → t.length ≤ 1000001 ∧ ∀ w, w ∈ t → w.length ≤ 1000000
theorem b2_step {v : List Str} {i2 : Int} {v25 : List Str} {x37 : Str} {v29 v30 : Int} {k : Nat} {x : Str} (hv : v25.length ≤ 1000000) (hx : v25[k]? = some x) (hl : x.length ≤ 1000000) {ts : List (List Str)} (o : Bool) {es : List Ent} {ns : List ApiCodeNote} (ht : ts.length ≤ 1000000) :
    refParseBook_b2 v i2 v25 x37 v29 v30 ((k : Int), ts, o, es, ns) = some (.inl (if x = [42] ∧ k + 1 = v25.length then (((k + 1 : Nat) : Int), ts, true, es, ns) else (((k + 1 : Nat) : Int), ts ++ [spl 43 x], o, es, ns))) := by
  have hlt := lt_of_get hx
  unfold refParseBook_b2 refParseBook_j6
  dsimp only
  rw [if_pos (decide_eq_true (by omega)), if_pos (by omega), Int.toNat_natCast, hx, Option.bind_some, w64 (n := (v25.length : Int) - 1) (by omega), w64 (n := (k : Int) + 1) (by omega)]
  by_cases h : x = [42] ∧ k + 1 = v25.length
  · rw [if_pos h]
    have : (bif (x == ([42] : Str)) then ((k : Int) == (v25.length : Int) - 1) else false) = true := by
      rw [beq_iff_eq.2 h.1, cond_true, beq_iff_eq]; omega
    rw [if_pos this]; rfl
  · rw [if_neg h]
    have : ¬ (bif (x == ([42] : Str)) then ((k : Int) == (v25.length : Int) - 1) else false) = true := fun hh => by
      by_cases h1 : x = [42]
      · rw [beq_iff_eq.2 h1, cond_true, beq_iff_eq] at hh; exact h ⟨h1, by omega⟩
      · rw [beq_eq_false_iff_ne.2 h1, cond_false] at hh; cases hh
    rw [if_neg this, if_pos (by omega), Option.bind_some, split43 hl, Option.bind_some, if_pos (by simp only [List.length_cons, List.length_nil]; omega)]; rfl
theorem b2_end {v : List Str} {i2 : Int} {v25 : List Str} {x37 : Str} {v29 v30 : Int} {ts : List (List Str)} {o : Bool} {es : List Ent} {ns : List ApiCodeNote} : refParseBook_b2 v i2 v25 x37 v29 v30 ((v25.length : Int), ts, o, es, ns) = some (.inr (ts, o, es, ns)) := by
  unfold refParseBook_b2
  dsimp only
  rw [if_neg (by simp)]
theorem b2_any {v : List Str} {i2 : Int} {v25 : List Str} {x37 : Str} {v29 v30 : Int} (h3 : 3 ≤ v25.length) (hv : v25.length ≤ 1000000) (hl : ∀ x, x ∈ v25 → x.length ≤ 1000000) (es : List Ent) (ns : List ApiCodeNote) :
    ∃ r, loopO (refParseBook_b2 v i2 v25 x37 v29 v30) ((3 : Int), [], false, es, ns) = some r ∧ TSo r es ns := by
  have := loop_all (v25.drop 3) (refParseBook_b2 v i2 v25 x37 v29 v30) (fun i (b : List (List Str) × Bool) => (((3 + i : Nat) : Int), b.1, b.2, es, ns))
    (fun i b => b.1.length ≤ i ∧ ∀ t, t ∈ b.1 → t.length ≤ 1000001 ∧ ∀ w, w ∈ t → w.length ≤ 1000000) (fun r => TSo r es ns) (fun i x b hx hI => by
      have hlt := lt_of_get hx
      rw [List.length_drop] at hlt
      have hx2 : v25[3 + i]? = some x := by rw [← hx, List.getElem?_drop]
      have hxm := hl x (List.mem_of_getElem? hx2)
      left
      rw [b2_step hv hx2 hxm _ (by omega)]
      split
      · exact ⟨(b.1, true), rfl, by simp only; omega, hI.2⟩
      · refine ⟨(b.1 ++ [spl 43 x], b.2), rfl, by simp only [List.length_append, List.length_cons, List.length_nil]; omega, fun t ht => ?_⟩
        rcases List.mem_append.1 ht with ht | ht
        · exact hI.2 t ht
        · rw [List.mem_singleton.1 ht]
          have hs := spl_len 43 x
          exact ⟨by omega, fun w hw => by have := (hs.2.1 w hw).1; omega⟩)
    (fun b hb => ⟨(b.1, b.2, es, ns), by
      rw [List.length_drop, show 3 + (v25.length - 3) = v25.length by omega]; exact b2_end, rfl, by have := hb.1; rw [List.length_drop] at this; simp only; omega, hb.2⟩) ([], false) ⟨by simp, fun t ht => by cases ht⟩
  exact this
theorem b2_line {v : List Str} {i2 : Int} {x37 : Str} {v29 v30 : Int} {e : Ent} (h : EVal e) (es : List Ent) (ns : List ApiCodeNote) :
    loopO (refParseBook_b2 v i2 (eflds e) x37 v29 v30) ((3 : Int), [], false, es, ns) = some (e.Terms, e.Other, es, ns) := by
  have hfl := eflds_lens h
  have hf := h.few
  have hl := tfl_len e
  have hel : (eflds e).length = 3 + (tfl e).length := by rw [eflds_tfl]; simp only [List.length_cons]; omega
  have hget : ∀ i, (eflds e)[3 + i]? = (tfl e)[i]? := fun i => by rw [eflds_tfl, show 3 + i = i + 1 + 1 + 1 by omega]; rfl
  have hloop := loop_seq (f := refParseBook_b2 v i2 (eflds e) x37 v29 v30) (tfl e).length (fun i => (((3 + i : Nat) : Int), e.Terms.take i, decide (e.Terms.length < i), es, ns)) (e.Terms, e.Other, es, ns) (fun i hi => by
    have hx := List.getElem?_eq_getElem hi
    have hx2 := (hget i).trans hx
    rcases tfl_get hx with ⟨h1, h2⟩ | ⟨h1, h2, h3⟩
    · have hw := h.terms _ (List.getElem_mem h1)
      have hwl := hw.len
      rw [b2_step (by omega) hx2 (by rw [h2]; unfold trm; omega) _ (by rw [List.length_take]; omega), if_neg (fun hh => trm_ne hw (by rw [← h2]; exact hh.1)), h2, trm_spl hw, take_snoc h1, decide_eq_false (by omega), decide_eq_false (by omega)]
      rfl
    · rw [b2_step (by omega) hx2 (by rw [h3]; simp) _ (by rw [List.length_take]; omega), if_pos ⟨h3, by rw [h2, if_pos rfl] at hl; omega⟩, decide_eq_true (by omega), List.take_of_length_le (by omega), List.take_of_length_le (by omega)]
      rfl) (by
    rw [← hel, b2_end, List.take_of_length_le (by omega)]
    have : decide (e.Terms.length < (tfl e).length) = e.Other := by rw [hl]; cases e.Other <;> simp
    rw [this])
  exact hloop

/-- One line, not the last. -/
theorem ref_round {v : List Str} {i : Nat} {es : List Ent} {ns : List ApiCodeNote} {line : Str} (hv : v.length ≤ 1000000) (hi : v[i]? = some line) (hn : i + 1 < v.length) (hes : es.length + ns.length ≤ 1000000) (hl : line.length ≤ 400000) :
    refParseBook_b1 v ((i : Int), es, ns) = some (match addB ⟨es, ns⟩ line with | some b' => .inl (((i + 1 : Nat) : Int), b'.Entries, b'.Notes) | none => .inr (.inr (⟨[], []⟩, (i : Int), 4))) := by
  have hlt := lt_of_get hi
  have hgd : v.getD i default = line := getD_of hi
  have hw : IntKind.i64.wrap ((v.length : Int) - 1) = (v.length : Int) - 1 := w64 (by omega)
  have hne : ((i : Int) == (v.length : Int) - 1) = false := by rw [beq_eq_false_iff_ne]; omega
  have hlt2 : decide ((i : Int) < (v.length : Int) - 1) = true := decide_eq_true (by omega)
  have hsl := spl_len 32 line
  have hxl : ∀ x, x ∈ spl 32 line → x.length ≤ 400000 := fun x hx => by have := (hsl.2.1 x hx).1; omega
  have hs32 := split32 (s := line) (by omega) 32
  rw [show (((32 : UInt8).toNat : Nat) : Int) = (32 : Int) from rfl] at hs32
  have hj3f : ∀ es' ns', refParseBook_j3 v (i : Int) false es' ns' = some (.inr (.inr (⟨[], []⟩, (i : Int), 4))) := fun es' ns' => by unfold refParseBook_j3; rw [if_pos (show (!false) = true from rfl)]
  have hj3t : ∀ es' ns', refParseBook_j3 v (i : Int) true es' ns' = some (.inl (((i + 1 : Nat) : Int), es', ns')) := fun es' ns' => by unfold refParseBook_j3 refParseBook_j2; rw [if_neg (by simp), w64 (by omega)]; rfl
  unfold refParseBook_b1
  dsimp only
  rw [if_pos (decide_eq_true (by omega)), hw, hne, if_pos (fun h => by cases h), cond_false, if_neg (by simp), if_pos (by omega), Int.toNat_natCast, hi, Option.bind_some, hs32, Option.bind_some]
  have hpos := List.length_pos_iff.2 (spl_ne 32 line)
  have hvl := hsl.1
  -- who may have written the line
  have fromN : ∀ n, NVal n → nline n = line → spl 32 line = nflds n := fun n h1 h2 => by rw [← h2]; exact spl_nline h1
  have fromE : ∀ e, EVal e → eline e = line → spl 32 line = eflds e := fun e h1 h2 => by rw [← h2]; exact spl_eline h1
  generalize hf : spl 32 line = f at *
  rw [List.getElem?_eq_getElem hpos, Option.bind_some]
  have hw0 : lvl noteW = 0 := by decide
  by_cases hA : f[0] = noteW ∧ f.length = 4
  · have hc : (bif (f[0] == ([110, 111, 116, 101] : Str)) then ((f.length : Int) == (4 : Int)) else false) = true := by
      rw [beq_iff_eq.2 hA.1, cond_true, beq_iff_eq]; omega
    rw [if_pos hc]
    have hge : ge line = none := ge_none fun e h1 h2 => by
      have h3 := fromE e h1 h2
      have h4 : f[0]? = some e.Code := by rw [h3, eflds_tfl]; rfl
      rw [List.getElem?_eq_getElem hpos, hA.1] at h4
      have h5 := h1.lvl
      rw [← Option.some.inj h4] at h5
      exact h5 hw0
    have l1 := hxl _ (List.getElem_mem (by omega : 1 < f.length)); have l2 := hxl _ (List.getElem_mem (by omega : 2 < f.length)); have l3 := hxl _ (List.getElem_mem (by omega : 3 < f.length))
    rw [List.getElem?_eq_getElem (by omega : 1 < f.length), Option.bind_some, List.getElem?_eq_getElem (by omega : 2 < f.length), Option.bind_some, split43 (by omega), Option.bind_some, List.getElem?_eq_getElem (by omega : 3 < f.length), Option.bind_some, Option.bind_some]
    have hs2 := spl_len 43 f[2]
    have fin : ∀ t : Str, t.length ≤ 400000 → (∀ n, NVal n → nline n = line → n.Target = t) →
        refParseBook_j4 v (i : Int) f[1] (spl 43 f[2]) t es ns = some (match addB ⟨es, ns⟩ line with | some b' => .inl (((i + 1 : Nat) : Int), b'.Entries, b'.Notes) | none => .inr (.inr (⟨[], []⟩, (i : Int), 4))) := by
      intro t htl htt
      have hx : ∀ n, NVal n → nline n = line → n = ⟨f[1], spl 43 f[2], t⟩ := fun n h1 h2 => by
        have h3 := fromN n h1 h2
        have e1 : f[1]? = some n.Scope := by rw [h3]; rfl
        have e2 : f[2]? = some (Lib.join n.Words [43]) := by rw [h3]; rfl
        rw [List.getElem?_eq_getElem (by omega : 1 < f.length)] at e1
        rw [List.getElem?_eq_getElem (by omega : 2 < f.length)] at e2
        rw [Option.some.inj e1, Option.some.inj e2, words_spl h1.words, ← htt n h1 h2]
      unfold refParseBook_j4 addB
      rw [hw, hlt2, if_pos rfl, refNote_eq ⟨by simp only; omega, ⟨by simp only; omega, fun w hw => by simp only at hw; have := (hs2.2.1 w hw).1; omega⟩, by simp only; omega⟩, Option.bind_some, hge]
      cases hok : noteOk ⟨f[1], spl 43 f[2], t⟩ with
      | false =>
        have hgn : gn line = none := gn_none fun n h1 h2 => by have := h1.ok; rw [hx n h1 h2, hok] at this; cases this
        rw [hgn]
        simp only [cond_true, Bool.false_eq_true, if_false, Option.bind_some, cond_false, false_implies, if_true]
        rw [if_pos (by simp only [List.length_cons, List.length_nil]; omega), hj3f]
      | true =>
        have hv2 := NVal.of hok
        simp only [cond_true, if_true]
        rw [refNoteLine_eq hv2, Option.bind_some, if_pos (fun _ => by omega), Int.toNat_natCast, hgd, if_pos (by simp only [List.length_cons, List.length_nil]; omega)]
        by_cases he : nline ⟨f[1], spl 43 f[2], t⟩ = line
        · have hgn : gn line = some ⟨f[1], spl 43 f[2], t⟩ := by rw [← he]; exact gn_some hv2
          rw [beq_iff_eq.2 he, hj3t, hgn]
        · have hgn : gn line = none := gn_none fun n h1 h2 => he (by rw [← hx n h1 h2]; exact h2)
          rw [beq_eq_false_iff_ne.2 he, hj3f, hgn]
    have htn : ∀ n, NVal n → nline n = line → f[3] = tgt n := fun n h1 h2 => by
      have h3 := fromN n h1 h2
      have e3 : f[3]? = some (tgt n) := by rw [h3]; rfl
      rw [List.getElem?_eq_getElem (by omega : 3 < f.length)] at e3
      exact Option.some.inj e3
    by_cases hd : f[3] = [45]
    · rw [if_pos (beq_iff_eq.2 hd)]
      exact fin [] (by simp) (fun n h1 h2 => by
        by_cases ht : n.Target = []
        · exact ht
        · exact absurd ((htn n h1 h2).symm.trans hd) (tgt_dash h1 ht))
    · rw [if_neg (fun h => hd (beq_iff_eq.1 h))]
      exact fin f[3] (by omega) (fun n h1 h2 => by
        rw [htn n h1 h2]
        unfold tgt
        split
        · rename_i ht
          exact absurd ((htn n h1 h2).trans (if_pos ht)) hd
        · rfl)
  · have hc : ¬ (bif (f[0] == ([110, 111, 116, 101] : Str)) then ((f.length : Int) == (4 : Int)) else false) = true := fun hh => by
      by_cases h1 : f[0] = noteW
      · rw [beq_iff_eq.2 h1, cond_true, beq_iff_eq] at hh; exact hA ⟨h1, by omega⟩
      · rw [beq_eq_false_iff_ne.2 h1, cond_false] at hh; cases hh
    rw [if_neg hc]
    have hgn : gn line = none := gn_none fun n h1 h2 => by
      have h3 := fromN n h1 h2
      have h4 : f[0]? = some noteW := by rw [h3]; rfl
      rw [List.getElem?_eq_getElem hpos] at h4
      exact hA ⟨Option.some.inj h4, by rw [h3]; rfl⟩
    unfold addB
    rw [hgn]
    by_cases h3 : 3 ≤ f.length
    · rw [if_pos (decide_eq_true (by omega)), Option.bind_some]
      have l1 := hxl _ (List.getElem_mem (by omega : 1 < f.length)); have l2 := hxl _ (List.getElem_mem (by omega : 2 < f.length)); have l0 := hxl _ (List.getElem_mem hpos)
      obtain ⟨n1, e1, b1⟩ := r08Num_any (s := f[1]) (by omega)
      obtain ⟨n2, e2, b2⟩ := r08Num_any (s := f[2]) (by omega)
      rw [List.getElem?_eq_getElem (by omega : 1 < f.length), Option.bind_some, e1, Option.bind_some, List.getElem?_eq_getElem (by omega : 2 < f.length), Option.bind_some, e2, Option.bind_some]
      obtain ⟨⟨ts, o, es', ns'⟩, hr, hq, q1, q2⟩ := b2_any (v := v) (i2 := (i : Int)) (x37 := f[0]) (v29 := n1) (v30 := n2) h3 (by omega) (fun x hx => by have := hxl x hx; omega) es ns
      replace q1 : ts.length ≤ 1000000 := q1
      replace q2 : ∀ t, t ∈ ts → t.length ≤ 1000001 ∧ ∀ w, w ∈ t → w.length ≤ 1000000 := q2
      simp only [Prod.mk.injEq] at hq
      obtain ⟨rfl, rfl⟩ := hq
      have hx : ∀ e, EVal e → eline e = line → e = ⟨f[0], n1, n2, ts, o⟩ := fun e g1 g2 => by
        have g3 := fromE e g1 g2
        have hd := g1.days
        have k0 : f[0]? = some e.Code := by rw [g3, eflds_tfl]; rfl
        have k1 : f[1]? = some (decDigits e.From.toNat) := by rw [g3, eflds_tfl]; rfl
        have k2 : f[2]? = some (decDigits e.To.toNat) := by rw [g3, eflds_tfl]; rfl
        rw [List.getElem?_eq_getElem (by omega)] at k0 k1 k2
        have m1 : r08Num f[1] = some e.From := by rw [Option.some.inj k1]; exact r08Num_dec (by omega) (by omega)
        have m2 : r08Num f[2] = some e.To := by rw [Option.some.inj k2]; exact r08Num_dec (by omega) (by omega)
        rw [e1] at m1; rw [e2] at m2
        have hb := b2_line (v := v) (i2 := (i : Int)) (x37 := f[0]) (v29 := n1) (v30 := n2) g1 es' ns'
        rw [← g3, hr] at hb
        have hb := Option.some.inj hb
        simp only [Prod.mk.injEq] at hb
        rw [Option.some.inj k0, Option.some.inj m1, Option.some.inj m2, hb.1, hb.2.1]
      rw [hr, Option.bind_some]
      show refParseBook_j5 v (i : Int) f[0] n1 n2 ts o es' ns' = _
      unfold refParseBook_j5
      rw [hw, hlt2, if_pos rfl, refOne_eq ⟨by simp only; omega, ⟨by simp only; omega, by simp only; omega⟩, ⟨by simp only; omega, by simp only; omega⟩, by simp only; omega, fun x hx => ⟨by have := (q2 x hx).1; omega, fun w hw => by have := (q2 x hx).2 w hw; omega⟩⟩, Option.bind_some]
      by_cases h0 : oneE ⟨f[0], n1, n2, ts, o⟩ = 0
      · have hv2 := EVal.of h0
        rw [beq_iff_eq.2 h0]
        simp only [cond_true, if_true]
        rw [refEntryLine_eq hv2, Option.bind_some, if_pos (fun _ => by omega), Int.toNat_natCast, hgd, if_pos (by simp only [List.length_cons, List.length_nil]; omega)]
        by_cases he : eline ⟨f[0], n1, n2, ts, o⟩ = line
        · have hgn : ge line = some ⟨f[0], n1, n2, ts, o⟩ := by rw [← he]; exact ge_some hv2
          rw [beq_iff_eq.2 he, cond_true, hgn]
          by_cases hns : ns' = []
          · subst hns
            rw [show ((([] : List ApiCodeNote).length : Int) == (0 : Int)) = true from rfl, hj3t]; rfl
          · have := List.length_pos_iff.2 hns
            rw [show ((ns'.length : Int) == (0 : Int)) = false by rw [beq_eq_false_iff_ne]; omega, hj3f]
            dsimp only
            rw [if_neg hns]
        · have hgn : ge line = none := ge_none fun e g1 g2 => he (by rw [← hx e g1 g2]; exact g2)
          rw [beq_eq_false_iff_ne.2 he, cond_false, hj3f, hgn]
      · have hgn : ge line = none := ge_none fun e g1 g2 => h0 (by rw [← hx e g1 g2]; exact g1.one)
        rw [beq_eq_false_iff_ne.2 h0, hgn]
        simp only [cond_true, cond_false, Bool.false_eq_true, if_false, Option.bind_some, false_implies, if_true]
        rw [if_pos (by simp only [List.length_cons, List.length_nil]; omega), hj3f]
    · rw [if_neg (fun hh => h3 (by have := of_decide_eq_true hh; omega)), hj3f]
      have hgn : ge line = none := ge_none fun e g1 g2 => h3 (by rw [fromE e g1 g2, eflds_tfl]; simp only [List.length_cons]; omega)
      rw [hgn]

theorem refLoop {v : List Str} {n : Nat} (hn : v.length = n + 1) (hv : n ≤ 500000) (hl : ∀ x, x ∈ v → x.length ≤ 400000) : ∀ (m k : Nat) (b : ApiNomenclature), k + m = n → b.Entries.length + b.Notes.length = k → BVal b →
    loopO (refParseBook_b1 v) ((k : Int), b.Entries, b.Notes) = some (match scanB ((v.take n).drop k) k b with | .inl e => .inr e | .inr r => if v.getD n default = [] then .inl (r.Entries, r.Notes) else .inr (⟨[], []⟩, (n : Int), 4)) := by
  have hw : IntKind.i64.wrap ((v.length : Int) - 1) = (n : Int) := by rw [w64 (by omega)]; omega
  have htl : (v.take n).length = n := by rw [List.length_take]; omega
  intro m
  induction m with
  | zero =>
    intro k b hk hlk hbv
    have : k = n := by omega
    subst this
    have hkv : k < v.length := by omega
    rw [List.drop_eq_nil_of_le (by omega)]
    show _ = some (if v.getD k default = [] then Sum.inl (b.Entries, b.Notes) else Sum.inr ((⟨[], []⟩ : ApiNomenclature), (k : Int), (4 : Int)))
    have hlast := hl _ (List.getElem_mem hkv)
    have hgd : v.getD k default = v[k] := getD_of (List.getElem?_eq_getElem hkv)
    refine loop_stop ?_
    unfold refParseBook_b1
    dsimp only
    rw [if_pos (decide_eq_true (by omega)), hw, beq_self_eq_true, if_pos (fun _ => by omega), cond_true, Int.toNat_natCast, hgd]
    by_cases he : v[k] = []
    · rw [if_pos (beq_iff_eq.2 he), if_pos he]
    · rw [if_neg (fun h => he (beq_iff_eq.1 h)), if_neg he, if_pos (by omega), List.getElem?_eq_getElem hkv, Option.bind_some]
      have hs32 := split32 (s := v[k]) (by omega) 32
      rw [show (((32 : UInt8).toNat : Nat) : Int) = (32 : Int) from rfl] at hs32
      rw [hs32, Option.bind_some]
      have hsl := spl_len 32 v[k]
      have hxl : ∀ x, x ∈ spl 32 v[k] → x.length ≤ 400000 := fun x hx => by have := (hsl.2.1 x hx).1; omega
      have hpos := List.length_pos_iff.2 (spl_ne 32 v[k])
      have hvl := hsl.1
      have hj3f : ∀ es' ns', refParseBook_j3 v (k : Int) false es' ns' = some (.inr (.inr (⟨[], []⟩, (k : Int), 4))) := fun es' ns' => by unfold refParseBook_j3; rw [if_pos (show (!false) = true from rfl)]
      have hlt2 : decide ((k : Int) < (k : Int)) = false := decide_eq_false (by omega)
      generalize spl 32 v[k] = f at *
      rw [List.getElem?_eq_getElem hpos, Option.bind_some]
      split
      · rename_i hc
        have h4 : f.length = 4 := by
          cases hh : (f[0] == ([110, 111, 116, 101] : Str)) with
          | true => rw [hh, cond_true, beq_iff_eq] at hc; omega
          | false => rw [hh, cond_false] at hc; cases hc
        have l2 := hxl _ (List.getElem_mem (by omega : 2 < f.length))
        rw [List.getElem?_eq_getElem (by omega : 1 < f.length), Option.bind_some, List.getElem?_eq_getElem (by omega : 2 < f.length), Option.bind_some, split43 (by omega), Option.bind_some, List.getElem?_eq_getElem (by omega : 3 < f.length), Option.bind_some, Option.bind_some]
        have fin : ∀ t : Str, refParseBook_j4 v (k : Int) f[1] (spl 43 f[2]) t b.Entries b.Notes = some (.inr (.inr (⟨[], []⟩, (k : Int), 4))) := fun t => by
          unfold refParseBook_j4
          rw [hw, hlt2]
          simp only [Bool.false_eq_true, if_false, Option.bind_some, cond_false, false_implies, if_true]
          rw [if_pos (by simp only [List.length_cons, List.length_nil]; omega), hj3f]
        split
        · exact fin _
        · exact fin _
      · split
        · rename_i h3
          have h3 := of_decide_eq_true h3
          have l1 := hxl _ (List.getElem_mem (by omega : 1 < f.length)); have l2 := hxl _ (List.getElem_mem (by omega : 2 < f.length))
          obtain ⟨n1, e1, _⟩ := r08Num_any (s := f[1]) (by omega)
          obtain ⟨n2, e2, _⟩ := r08Num_any (s := f[2]) (by omega)
          rw [Option.bind_some, List.getElem?_eq_getElem (by omega : 1 < f.length), Option.bind_some, e1, Option.bind_some, List.getElem?_eq_getElem (by omega : 2 < f.length), Option.bind_some, e2, Option.bind_some]
          obtain ⟨⟨ts, o, es', ns'⟩, hr, hq, q1, q2⟩ := b2_any (v25 := f) (v := v) (i2 := (k : Int)) (x37 := f[0]) (v29 := n1) (v30 := n2) (by omega) (by omega) (fun x hx => by have := hxl x hx; omega) b.Entries b.Notes
          replace q1 : ts.length ≤ 1000000 := q1
          simp only [Prod.mk.injEq] at hq
          rw [hr, Option.bind_some]
          show refParseBook_j5 v (k : Int) f[0] n1 n2 ts o es' ns' = _
          obtain ⟨rfl, rfl⟩ := hq
          unfold refParseBook_j5
          rw [hw, hlt2]
          simp only [Bool.false_eq_true, if_false, Option.bind_some, cond_false, false_implies, if_true]
          rw [if_pos (by simp only [List.length_cons, List.length_nil]; omega), hj3f]
        · exact hj3f _ _
  | succ m ih =>
    intro k b hk hlk hbv
    have hkl : k < (v.take n).length := by omega
    have hkv : k < v.length := by omega
    have hmem : (v.take n)[k] ∈ v := List.mem_of_mem_take (List.getElem_mem hkl)
    have hlen := hl _ hmem
    have hx : v[k]? = some (v.take n)[k] := by rw [List.getElem?_eq_getElem hkv]; simp
    have hr := ref_round (v := v) (i := k) (es := b.Entries) (ns := b.Notes) (line := (v.take n)[k]) (by omega) hx (by omega) (by omega) hlen
    rw [List.drop_eq_getElem_cons hkl]
    unfold scanB
    cases ha : addB b (v.take n)[k] with
    | none =>
      rw [show addB ⟨b.Entries, b.Notes⟩ (v.take n)[k] = none from ha] at hr
      exact loop_stop hr
    | some b' =>
      rw [show addB ⟨b.Entries, b.Notes⟩ (v.take n)[k] = some b' from ha] at hr
      have hb2 := addB_ok hbv ha
      rw [loop_step hr]
      exact ih (k + 1) b' (by omega) (by omega) hb2.1

theorem EVal.okE {e : Ent} (h : EVal e) : okApiCodeEntry e := by
  have h1 := lvl_len h.lvl; have h2 := h.days; have h3 := h.few
  refine ⟨by omega, ⟨by omega, by omega⟩, ⟨by omega, by omega⟩, by omega, fun t ht => ?_⟩
  have h4 := h.terms t ht
  exact ⟨by have := h4.2.1; omega, fun w hw => by have := (isW_len (h4.2.2 w hw)).2; omega⟩
theorem NVal.okN {n : ApiCodeNote} (h : NVal n) : okApiCodeNote n := by
  have h1 := lvl_len h.scope
  refine ⟨by omega, ⟨by have := h.words.2.1; omega, fun w hw => by have := (isW_len (h.words.2.2 w hw)).2; omega⟩, ?_⟩
  rcases h.target with ht | ht
  · rw [ht]; simp
  · have := lvl_len (s := n.Target) (by omega); omega
theorem BVal.ok {b : ApiNomenclature} (h : BVal b) (hl : b.Entries.length + b.Notes.length ≤ 1000000) : okApiNomenclature b :=
  ⟨⟨by omega, fun e he => (h.ents e he).okE⟩, by omega, fun n hn => (h.notes n hn).okN⟩
theorem BVal.empty : BVal ⟨[], []⟩ := ⟨fun e he => by (simp only at he; cases he), fun e he => by (simp only at he; cases he)⟩
theorem refParseBook_eq {s : Str} (h : s.length ≤ 400000) : refParseBook s = some (readB s) := by
  have hsl := spl_len 10 s
  have hpos := List.length_pos_iff.2 (spl_ne 10 s)
  have hl : ∀ x, x ∈ spl 10 s → x.length ≤ 400000 := fun x hx => by have := (hsl.2.1 x hx).1; omega
  unfold refParseBook readB
  have hs10 := split32 (s := s) (by omega) 10
  rw [show (((10 : UInt8).toNat : Nat) : Int) = (10 : Int) from rfl] at hs10
  rw [hs10, Option.bind_some]
  generalize spl 10 s = v at *
  obtain ⟨n, hn⟩ : ∃ n, v.length = n + 1 := ⟨v.length - 1, by omega⟩
  have hn1 : v.length - 1 = n := by omega
  rw [hn1]
  have hloop := refLoop hn (by omega) hl n 0 ⟨[], []⟩ (by omega) rfl BVal.empty
  rw [show (((0 : Nat) : Int)) = (0 : Int) from rfl, List.drop_zero] at hloop
  rw [hloop, Option.bind_some]
  cases hs : scanB (v.take n) 0 ⟨[], []⟩ with
  | inl e => rfl
  | inr r =>
    obtain ⟨hv, hrl⟩ := scanB_ok _ _ _ BVal.empty _ hs
    simp only [List.length_nil, List.length_take] at hrl
    dsimp only
    by_cases he : v.getD n default = []
    · rw [if_pos he, if_pos he]
      show refParseBook_j1 r.Entries r.Notes = _
      unfold refParseBook_j1
      rw [refBook_eq (b := ⟨r.Entries, r.Notes⟩) (hv.ok (by omega)), Option.bind_some]
      show (if (nv r != 0) = true then _ else _) = _
      by_cases hm : nv r = 0
      · rw [if_neg (by rw [eqI hm]; simp), if_pos hm, w64 (by omega)]
        have : (r.Entries.length : Int) + (r.Notes.length : Int) = (n : Int) := by omega
        rw [this]
      · rw [if_pos (neI hm), if_neg hm]
    · rw [if_neg he, if_neg he]

/-! ### Books that are the same -/
theorem nv_len {b : ApiNomenclature} (h : nv b = 0) : b.Entries.length ≤ 300 ∧ b.Notes.length ≤ 100 := by
  unfold nv at h
  split at h
  · cases h
  · omega
theorem EVal.LB {e : Ent} (h : EVal e) : LB e.Terms := ⟨by have := h.few; omega, fun t ht => by have := (h.terms t ht).2.1; omega⟩
theorem sameBook_refl {b : ApiNomenclature} (hv : BVal b) (h1 : b.Entries.length ≤ 1000) (h2 : b.Notes.length ≤ 1000) : sameBook b b = some true := by
  unfold sameBook
  rw [sameEntries_refl _ h1 (fun x hx => (hv.ents x hx).LB), Option.bind_some, if_neg (by simp)]
  have hloop := loop_seq (f := sameBook_b1 b b) b.Notes.length (fun i => (i : Int)) (.inr ()) (fun i hi => by
    have hw := (hv.notes _ (List.getElem_mem hi)).words.2.1
    unfold sameBook_b1
    dsimp only
    rw [if_pos (decide_eq_true (by omega)), if_pos (by omega), Int.toNat_natCast, List.getElem?_eq_getElem hi, Option.bind_some, if_pos (by omega), Option.bind_some, if_pos (fun _ => by omega), if_pos (fun _ => by omega), if_pos (fun _ => by omega), if_pos (fun _ => by omega)]
    simp only [beq_self_eq_true, Bool.not_true, cond_false, Bool.not_false, if_true]
    rw [getD_of (List.getElem?_eq_getElem hi), sameStrings_refl _ (by omega), Option.bind_some]
    simp only [Bool.not_true, cond_false, Bool.false_eq_true, if_false]
    rw [w64 (by omega)]; rfl) (by
    unfold sameBook_b1
    rw [if_neg (by simp)])
  rw [show ((0 : Int)) = ((0 : Nat) : Int) from rfl, hloop]; rfl
theorem readB_ok (s : Str) : BVal (readB s).1 ∧ (readB s).1.Entries.length ≤ 1000 ∧ (readB s).1.Notes.length ≤ 1000 := by
  have hemp : BVal (⟨[], []⟩ : ApiNomenclature) ∧ (⟨[], []⟩ : ApiNomenclature).Entries.length ≤ 1000 ∧ (⟨[], []⟩ : ApiNomenclature).Notes.length ≤ 1000 := ⟨BVal.empty, by simp, by simp⟩
  unfold readB
  cases hs : scanB ((spl 10 s).take ((spl 10 s).length - 1)) 0 ⟨[], []⟩ with
  | inl e =>
    have : ∀ (xs : List Str) (k : Nat) (b : ApiNomenclature) e, scanB xs k b = .inl e → e.1 = ⟨[], []⟩ := by
      intro xs
      induction xs with
      | nil => intro k b e h; cases h
      | cons x xs ih =>
        intro k b e h
        unfold scanB at h
        cases hg : addB b x with
        | none => rw [hg] at h; cases h; rfl
        | some m => rw [hg] at h; exact ih _ _ _ h
    dsimp only
    rw [this _ _ _ _ hs]
    exact hemp
  | inr r =>
    obtain ⟨hv, hrl⟩ := scanB_ok _ _ _ BVal.empty _ hs
    dsimp only
    split
    · split
      · rename_i h0
        have := nv_len h0
        exact ⟨hv, by simp only; omega, by simp only; omega⟩
      · exact hemp
    · exact hemp

/-! ### The text of a nomenclature -/
def fmtE (l : List Ent) : Str := (l.map fun m => eline m ++ [10]).flatten
def fmtN (l : List ApiCodeNote) : Str := (l.map fun m => nline m ++ [10]).flatten
def fmtB (b : ApiNomenclature) : Str := fmtE b.Entries ++ fmtN b.Notes
theorem fmtE_snoc (l : List Ent) (m : Ent) : fmtE (l ++ [m]) = fmtE l ++ eline m ++ [10] := by unfold fmtE; simp
theorem fmtN_snoc (l : List ApiCodeNote) (m : ApiCodeNote) : fmtN (l ++ [m]) = fmtN l ++ nline m ++ [10] := by unfold fmtN; simp
theorem fmtE_len {l : List Ent} (h : ∀ x, x ∈ l → EVal x) : (fmtE l).length ≤ 711 * l.length := by
  induction l with
  | nil => simp [fmtE]
  | cons m l ih =>
    have h1 := eline_len (h m List.mem_cons_self)
    have h2 := ih (fun x hx => h x (List.mem_cons_of_mem _ hx))
    have e : fmtE (m :: l) = (eline m ++ [10]) ++ fmtE l := by unfold fmtE; simp
    rw [e]
    simp only [List.length_append, List.length_cons, List.length_nil]
    omega
theorem fmtN_len {l : List ApiCodeNote} (h : ∀ x, x ∈ l → NVal x) : (fmtN l).length ≤ 201 * l.length := by
  induction l with
  | nil => simp [fmtN]
  | cons m l ih =>
    have h1 := nline_len (h m List.mem_cons_self)
    have h2 := ih (fun x hx => h x (List.mem_cons_of_mem _ hx))
    have e : fmtN (m :: l) = (nline m ++ [10]) ++ fmtN l := by unfold fmtN; simp
    rw [e]
    simp only [List.length_append, List.length_cons, List.length_nil]
    omega
theorem entErr_zero {l : List Ent} (h : ferr l.length (entErr l) = 0) : ∀ e, e ∈ l → EVal e := fun e he => by
  obtain ⟨i, hi, rfl⟩ := List.getElem_of_mem he
  have h1 := entErr_one (ferr_zero.1 h i hi)
  rw [getD_of (List.getElem?_eq_getElem hi)] at h1
  exact EVal.of h1
theorem nv_BVal {b : ApiNomenclature} (h : nv b = 0) : BVal b := by
  unfold nv at h
  split at h
  · cases h
  · split at h
    · rename_i h1; exact absurd h h1
    · rename_i h1
      split at h
      · rename_i h2; exact absurd h h2
      · refine ⟨entErr_zero (Classical.not_not.1 h1), fun n hn => ?_⟩
        obtain ⟨i, hi, rfl⟩ := List.getElem_of_mem hn
        have h4 := ferr_zero.1 h i hi
        unfold notErr at h4
        rw [getD_of (List.getElem?_eq_getElem hi)] at h4
        split at h4
        · rename_i h5; exact NVal.of h5
        · cases h4
end Go.C
