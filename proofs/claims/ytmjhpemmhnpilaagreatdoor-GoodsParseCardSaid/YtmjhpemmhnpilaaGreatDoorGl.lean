/- Plain laws of chapter 8: what is written is read back, by the reference; the two agree. No program in sight. -/
import Derived.Test.YtmjhpemmhnpilaaGreatDoorGk
set_option linter.unusedVariables false
set_option linter.unusedSimpArgs false
namespace Go.C
open Go.V
open Go.Lib (decDigits)

theorem sp32 {s : Str} (h : s.length ≤ 4294967281) : r08Split s 32 = some (spl 32 s) := r08Split_eq 32 h
theorem sp43 {s : Str} (h : s.length ≤ 4294967281) : r08Split s 43 = some (spl 43 s) := r08Split_eq 43 h
theorem sp44 {s : Str} (h : s.length ≤ 4294967281) : r08Split s 44 = some (spl 44 s) := r08Split_eq 44 h
theorem sp58 {s : Str} (h : s.length ≤ 4294967281) : r08Split s 58 = some (spl 58 s) := r08Split_eq 58 h

theorem spl_mline {m : ApiMaterial} (h : isW m.Name = true) : spl 58 (mline m) = [m.Name, share m.Share] := by
  rw [show mline m = m.Name ++ 58 :: share m.Share by simp [mline], spl_at (isW_no h (by decide)), spl_miss (share_no _ (by decide))]
theorem spl_pline {p : ApiComponent} (h : WOk p.Words) : spl 58 (pline p) = [Lib.join p.Words [43], share p.Share] := by
  rw [show pline p = Lib.join p.Words [43] ++ 58 :: share p.Share by simp [pline], spl_at (h.no (by decide) (by decide)), spl_miss (share_no _ (by decide))]

theorem ref_mats {g : ApiGood} (h : GOk g) (a0 : Str) (v v2 : List Str) (t : Nat) (b : Bool) (c2 : List ApiComponent) (hv : v[t]? = some (mfield g.Materials)) : loopO (refParseGood_b2 a0 v v2 (t : Int) b (g.Materials.map mline)) ((0 : Int), [], c2) = some (.inr (g.Materials, c2)) := by
  have hm := h.mats.1
  have := loop_seq (f := refParseGood_b2 a0 v v2 (t : Int) b (g.Materials.map mline)) g.Materials.length (fun i => ((i : Int), g.Materials.take i, c2)) (.inr (g.Materials, c2)) (fun i hi => by
    obtain ⟨h1, h2, h3⟩ := h.mats.2 _ (List.getElem_mem hi)
    have hl := h.mlen _ (List.getElem_mem hi)
    unfold refParseGood_b2 refParseGood_j3
    dsimp only
    rw [if_pos (by simp only [decide_eq_true_eq, List.length_map]; omega), if_pos (by omega), Int.toNat_natCast, Int.toNat_natCast, List.getElem?_map, List.getElem?_eq_getElem hi]
    simp only [Option.map_some, Option.bind_some]
    rw [sp58 (by omega), spl_mline h1, Option.bind_some, if_neg (by simp), if_pos (by omega), hv, Option.bind_some]
    rw [if_pos (by simp [mfield]; omega), if_pos (by rfl)]
    show Option.bind (some _) _ = _
    rw [Option.bind_some]
    show Option.bind (some _) _ = _
    rw [Option.bind_some]
    unfold share
    rw [r08Num_dec (by omega) (by omega), Option.bind_some, if_pos (by simp; omega), w64 (n := (i : Int) + 1) (by omega), take_snoc hi]; rfl)
    (by unfold refParseGood_b2; dsimp only; rw [if_neg (by simp), List.take_length])
  exact this
theorem ref_parts {g : ApiGood} (h : GOk g) (a0 : Str) (v v2 : List Str) (t : Nat) (b : Bool) (c1 : List ApiMaterial) (hv : v[t]? = some (pfield g.Parts)) : loopO (refParseGood_b2 a0 v v2 (t : Int) b (g.Parts.map pline)) ((0 : Int), c1, []) = some (.inr (c1, g.Parts)) := by
  have hm := h.parts.1
  have := loop_seq (f := refParseGood_b2 a0 v v2 (t : Int) b (g.Parts.map pline)) g.Parts.length (fun i => ((i : Int), c1, g.Parts.take i)) (.inr (c1, g.Parts)) (fun i hi => by
    obtain ⟨h1, h2, h3⟩ := h.parts.2 _ (List.getElem_mem hi)
    have hl := h.plen _ (List.getElem_mem hi)
    have hwl := h1.len
    unfold refParseGood_b2 refParseGood_j3
    dsimp only
    rw [if_pos (by simp only [decide_eq_true_eq, List.length_map]; omega), if_pos (by omega), Int.toNat_natCast, Int.toNat_natCast, List.getElem?_map, List.getElem?_eq_getElem hi]
    simp only [Option.map_some, Option.bind_some]
    rw [sp58 (by omega), spl_pline h1, Option.bind_some, if_neg (by simp), if_pos (by omega), hv, Option.bind_some]
    rw [if_pos (by simp [pfield]; omega), if_neg (by intro hh; revert hh; show ¬ ((((112 : UInt8).toNat : Int) == 109) = true); decide)]
    show Option.bind (some _) _ = _
    rw [Option.bind_some, sp43 (by omega), h1.spl, Option.bind_some]
    show Option.bind (some _) _ = _
    rw [Option.bind_some]
    unfold share
    rw [r08Num_dec (by omega) (by omega), Option.bind_some, if_pos (by simp; omega), w64 (n := (i : Int) + 1) (by omega), take_snoc hi]; rfl)
    (by unfold refParseGood_b2; dsimp only; rw [if_neg (by simp), List.take_length])
  exact this

abbrev RS := (ApiGood × Int) ⊕ PS
noncomputable def rstep (a0 : Str) (v v2 : List Str) (i : Nat) (x : Str) (b : PS) : Option (PS ⊕ RS) :=
  if (x == ([105, 110, 99, 111, 109, 112, 108, 101, 116, 101] : Str)) = true then some (.inl (b.1, b.2.1, true))
  else if x.length < 2 then some (.inr (.inl (zeroG, 4)))
  else (r08Split (x.drop 2) (44 : Int)).bind fun v26 =>
    (loopO (refParseGood_b2 a0 v v2 ((i + 1 : Nat) : Int) b.2.2 v26) ((0 : Int), b.1, b.2.1)).bind fun e => match e with
      | (.inl rv) => some (.inr (.inl rv))
      | (.inr (c1, c2)) => some (.inl (c1, c2, b.2.2))
theorem ref_fold (a0 : Str) (v v2 : List Str) (hv : v.length ≤ 100000) (b : PS) : loopO (refParseGood_b1 a0 v v2) ((1 : Int), b.1, b.2.1, b.2.2) = foldE (rstep a0 v v2) (fun b => .inr b) 0 (v.drop 1) b := by
  by_cases h1 : 1 ≤ v.length
  · have := loop_foldE (v.drop 1) (refParseGood_b1 a0 v v2) (fun i (b : PS) => (((i + 1 : Nat) : Int), b.1, b.2.1, b.2.2)) (rstep a0 v v2) (fun b => .inr (b.1, b.2.1, b.2.2)) (fun i x b hx => by
      have hi := lt_of_get hx
      simp only [List.length_drop] at hi
      rw [List.getElem?_drop, show 1 + i = i + 1 by omega] at hx
      unfold refParseGood_b1 refParseGood_j2 rstep
      dsimp only
      rw [if_pos (by simp only [decide_eq_true_eq]; omega), if_pos (by omega), Int.toNat_natCast, hx, Option.bind_some, w64 (n := ((i + 1 : Nat) : Int) + 1) (by omega)]
      split
      · rfl
      · rw [if_pos (by omega), Option.bind_some]
        by_cases hl : x.length < 2
        · rw [if_pos (by simp only [decide_eq_true_eq]; omega), if_pos hl]; rfl
        · rw [if_neg (by simp only [decide_eq_true_eq]; omega), if_neg hl, if_pos (by omega), Option.bind_some, if_pos (by omega), show (2 : Int).toNat = 2 from rfl]
          simp only [mapL_bind]
          congr 1
          funext v26
          congr 1
          funext e
          rcases e with e | ⟨e1, e2⟩ <;> rfl) (fun b => by unfold refParseGood_b1; dsimp only; rw [if_neg (by simp only [List.length_drop, decide_eq_true_eq]; omega)]) b
    exact this
  · have : v = [] := List.eq_nil_of_length_eq_zero (by omega)
    subst this
    rw [loop_stop (r := .inr (b.1, b.2.1, b.2.2))]
    · rfl
    · unfold refParseGood_b1; rfl

theorem rstep_m {g : ApiGood} (h : GOk g) (hn : g.Materials ≠ []) (a0 : Str) (v v2 : List Str) (i : Nat) (c2 : List ApiComponent) (b : Bool) (hv : v[i + 1]? = some (mfield g.Materials)) : rstep a0 v v2 i (mfield g.Materials) ([], c2, b) = some (.inl (g.Materials, c2, b)) := by
  have := h.mtl
  unfold rstep
  rw [if_neg (by simp [mfield]), if_neg (by simp [mfield]), show (mfield g.Materials).drop 2 = mtext g.Materials from rfl, sp44 (by omega), h.mspl hn, Option.bind_some, ref_mats h _ _ _ _ _ _ hv]; rfl
theorem rstep_p {g : ApiGood} (h : GOk g) (hn : g.Parts ≠ []) (a0 : Str) (v v2 : List Str) (i : Nat) (c1 : List ApiMaterial) (b : Bool) (hv : v[i + 1]? = some (pfield g.Parts)) : rstep a0 v v2 i (pfield g.Parts) (c1, [], b) = some (.inl (c1, g.Parts, b)) := by
  have := h.ptl
  unfold rstep
  rw [if_neg (by simp [pfield]), if_neg (by simp [pfield]), show (pfield g.Parts).drop 2 = ptext g.Parts from rfl, sp44 (by omega), h.pspl hn, Option.bind_some, ref_parts h _ _ _ _ _ _ hv]; rfl
theorem rstep_i (a0 : Str) (v v2 : List Str) (i : Nat) (b : PS) : rstep a0 v v2 i incW b = some (.inl (b.1, b.2.1, true)) := rfl

theorem ref_fields {g : ApiGood} (h : GOk g) (a0 x : Str) (v2 : List Str) : foldE (rstep a0 (x :: fields g) v2) (fun b => .inr b) 0 (fields g) ([], [], false) = some (.inr (g.Materials, g.Parts, g.Incomplete)) := by
  unfold fields
  by_cases hm : g.Materials = [] <;> by_cases hp : g.Parts = [] <;> cases hi : g.Incomplete
  · simp [hm, hp, foldE]
  · simp only [hm, hp, if_true, List.nil_append, foldE, rstep_i]
  · simp only [hm, hp, if_true, if_false, Bool.false_eq_true, List.nil_append, List.append_nil, foldE]
    rw [rstep_p h hp _ _ _ _ _ _ (by rfl)]
  · simp only [hm, hp, if_true, if_false, List.nil_append, List.cons_append, foldE]
    rw [rstep_p h hp _ _ _ _ _ _ (by rfl)]
    simp only [rstep_i]
  · simp only [hm, hp, if_true, if_false, Bool.false_eq_true, List.nil_append, List.append_nil, foldE]
    rw [rstep_m h hm _ _ _ _ _ _ (by rfl)]
  · simp only [hm, hp, if_true, if_false, List.nil_append, List.cons_append, foldE]
    rw [rstep_m h hm _ _ _ _ _ _ (by rfl)]
    simp only [rstep_i]
  · simp only [hm, hp, if_true, if_false, Bool.false_eq_true, List.nil_append, List.append_nil, List.cons_append, foldE]
    rw [rstep_m h hm _ _ _ _ _ _ (by rfl)]
    simp only
    rw [rstep_p h hp _ _ _ _ _ _ (by rfl)]
  · simp only [hm, hp, if_true, if_false, List.nil_append, List.cons_append, foldE]
    rw [rstep_m h hm _ _ _ _ _ _ (by rfl)]
    simp only
    rw [rstep_p h hp _ _ _ _ _ _ (by rfl)]
    simp only [rstep_i]

theorem okW_of {l : List Str} (h : WOk l) : l.length ≤ 9223372036854775807 ∧ ∀ x, x ∈ l → x.length ≤ 9223372036854775807 := ⟨by have := h.2.1; omega, fun x hx => by have := (isW_len (h.2.2 x hx)).2; omega⟩
theorem GOk.ok {g : ApiGood} (h : GOk g) : okApiGood g := ⟨okW_of h.words, ⟨by have := h.mats.1; omega, fun m hm => by
  obtain ⟨h1, h2, h3⟩ := h.mats.2 m hm
  exact ⟨by have := (isW_len h1).2; omega, by unfold okI_i64; omega⟩⟩, ⟨by have := h.parts.1; omega, fun p hp => by
  obtain ⟨h1, h2, h3⟩ := h.parts.2 p hp
  exact ⟨okW_of h1, by unfold okI_i64; omega⟩⟩⟩

theorem ref_end {g : ApiGood} (a0 : Str) (hv : gv g = 0) (hf : fmtG g = a0) : refParseGood_j1 a0 g.Words g.Materials g.Parts g.Incomplete = some (g, 0) := by
  have h := gv_gok hv
  have l := h.flen
  have hne : a0 ≠ [] := fun e => by rw [← hf] at e; rw [e] at l; simp at l
  unfold refParseGood_j1
  show (if (!(a0 == ([] : Str))) = true then refFormatGood g else _).bind _ = _
  rw [if_pos (by simp [hne]), refFormat_ok h.ok hv, Option.bind_some, if_neg (by simp [hf, hne])]
theorem refParse_fmt {g : ApiGood} (hv : gv g = 0) : refParseGood (fmtG g) = some (g, 0) := by
  have h := gv_gok hv
  have l := h.flen
  have l2 := h.words.len
  have hsl : (C.spl 32 (fmtG g)).length ≤ 1001 := by have := (spl_len 32 (fmtG g)).1; omega
  unfold refParseGood
  rw [sp32 (by omega), h.spl, Option.bind_some]
  rw [h.spl] at hsl
  show Option.bind (some (Lib.join g.Words [43])) _ = _
  rw [Option.bind_some, sp43 (by omega), h.words.spl, Option.bind_some]
  have := ref_fold (fmtG g) (Lib.join g.Words [43] :: fields g) g.Words (by omega) ([], [], false)
  simp only [List.drop_succ_cons, List.drop_zero] at this
  rw [this, ref_fields h, Option.bind_some]
  exact ref_end _ hv rfl

theorem refParse_any {s : Str} (hs : s.length ≤ 1000) : (∃ g, gv g = 0 ∧ fmtG g = s ∧ refParseGood s = some (g, 0)) ∨ refParseGood s = some (zeroG, 4) := by
  obtain ⟨a1, a2, a3⟩ := spl_len 32 s
  obtain ⟨x, r, hx⟩ : ∃ x r, C.spl 32 s = x :: r := by
    cases h : C.spl 32 s with
    | nil => exact absurd h (spl_ne 32 s)
    | cons x r => exact ⟨x, r, rfl⟩
  have hxl := (a2 x (by rw [hx]; simp)).1
  unfold refParseGood
  rw [sp32 (by omega), Option.bind_some, hx]
  rw [hx] at a1 a2
  show (∃ g, gv g = 0 ∧ fmtG g = s ∧ (Option.bind (some x) _) = some (g, 0)) ∨ (Option.bind (some x) _) = _
  rw [Option.bind_some, sp43 (by omega), Option.bind_some]
  let okM := fun (l : List ApiMaterial) => ∀ m, m ∈ l → okApiMaterial m
  let okP := fun (l : List ApiComponent) => ∀ p, p ∈ l → okApiComponent p
  obtain ⟨b, e, hb⟩ := loop_all ((x :: r).drop 1) (refParseGood_b1 s (x :: r) (C.spl 43 x)) (fun i (b : PS) => (((i + 1 : Nat) : Int), b.1, b.2.1, b.2.2)) (fun i b => (b.1.length ≤ i * 1001 ∧ okM b.1) ∧ (b.2.1.length ≤ i * 1001 ∧ okP b.2.1)) (fun q => match q with | .inl v => v = (zeroG, 4) | .inr b => (b.1.length ≤ 9223372036854775807 ∧ okM b.1) ∧ (b.2.1.length ≤ 9223372036854775807 ∧ okP b.2.1)) (fun i y b hy hb => by
    have hi := lt_of_get hy
    simp only [List.length_drop] at hi
    have hym : y ∈ x :: r := List.mem_of_mem_drop (List.mem_of_getElem? hy)
    have hyl := (a2 y hym).1
    rw [List.getElem?_drop, show 1 + i = i + 1 by omega] at hy
    unfold refParseGood_b1 refParseGood_j2
    dsimp only
    rw [if_pos (by simp only [decide_eq_true_eq]; omega), if_pos (by omega), Int.toNat_natCast, hy, Option.bind_some, w64 (n := ((i + 1 : Nat) : Int) + 1) (by omega)]
    split
    · exact .inl ⟨(b.1, b.2.1, true), rfl, ⟨by simp only; omega, hb.1.2⟩, ⟨by simp only; omega, hb.2.2⟩⟩
    · rw [if_pos (by omega), Option.bind_some]
      split
      · exact .inr ⟨_, rfl, rfl⟩
      · rename_i hl2
        simp only [decide_eq_true_eq] at hl2
        rw [if_pos (by omega), Option.bind_some, if_pos (by omega), sp44 (by simp; omega), Option.bind_some]
        obtain ⟨k1, k2, _⟩ := spl_len 44 (y.drop (2 : Int).toNat)
        simp only [List.length_drop] at k1 k2
        obtain ⟨q, eq, hq⟩ := loop_all (C.spl 44 (y.drop (2 : Int).toNat)) (refParseGood_b2 s (x :: r) (C.spl 43 x) ((i + 1 : Nat) : Int) b.2.2 (C.spl 44 (y.drop (2 : Int).toNat))) (fun k (q : List ApiMaterial × List ApiComponent) => ((k : Int), q.1, q.2)) (fun k q => (q.1.length ≤ b.1.length + k ∧ okM q.1) ∧ (q.2.length ≤ b.2.1.length + k ∧ okP q.2)) (fun q => match q with | .inl v => v = (zeroG, 4) | .inr q => (q.1.length ≤ (i + 1) * 1001 ∧ okM q.1) ∧ (q.2.length ≤ (i + 1) * 1001 ∧ okP q.2)) (fun k w q hw hq => by
          have hk := lt_of_get hw
          have hwl := (k2 w (List.mem_of_getElem? hw)).1
          obtain ⟨m1, m2, _⟩ := spl_len 58 w
          unfold refParseGood_b2 refParseGood_j3
          dsimp only
          rw [if_pos (by simp only [decide_eq_true_eq]; omega), if_pos (by omega), Int.toNat_natCast, Int.toNat_natCast, hw, Option.bind_some, sp58 (by omega), Option.bind_some]
          split
          · exact .inr ⟨_, rfl, rfl⟩
          · rename_i hne
            obtain ⟨u1, u2, hu⟩ : ∃ u1 u2, C.spl 58 w = [u1, u2] := by
              simp at hne
              match hsp : C.spl 58 w with
              | [] => rw [hsp] at hne; simp at hne
              | [_] => rw [hsp] at hne; simp at hne
              | [a, b] => exact ⟨a, b, rfl⟩
              | _ :: _ :: _ :: _ => rw [hsp] at hne; simp at hne; omega
            rw [hu] at m2 ⊢
            have n1 := (m2 u1 (by simp)).1
            have n2 := (m2 u2 (by simp)).1
            obtain ⟨nn, en, hn1, hn2⟩ := r08Num_any (s := u2) (by omega)
            rw [if_pos (by omega), hy, Option.bind_some, if_pos (by omega), w64 (n := (k : Int) + 1) (by omega)]
            refine .inl ?_
            split
            · show ∃ b', (Option.bind (some u1) _) = _ ∧ _
              rw [Option.bind_some]
              show ∃ b', (Option.bind (some u2) _) = _ ∧ _
              rw [Option.bind_some, en, Option.bind_some, if_pos (by simp; omega)]
              refine ⟨(q.1 ++ [⟨u1, nn⟩], q.2), rfl, ⟨by simp; omega, fun m hm => ?_⟩, ⟨by simp only; omega, hq.2.2⟩⟩
              rcases List.mem_append.1 hm with h | h
              · exact hq.1.2 m h
              · simp at h; subst h; exact ⟨by simp only; omega, by unfold okI_i64; simp only; omega⟩
            · show ∃ b', (Option.bind (some u1) _) = _ ∧ _
              rw [Option.bind_some, sp43 (by omega), Option.bind_some]
              show ∃ b', (Option.bind (some u2) _) = _ ∧ _
              rw [Option.bind_some, en, Option.bind_some, if_pos (by simp; omega)]
              refine ⟨(q.1, q.2 ++ [⟨C.spl 43 u1, nn⟩]), rfl, ⟨by simp only; omega, hq.1.2⟩, ⟨by simp; omega, fun m hm => ?_⟩⟩
              rcases List.mem_append.1 hm with h | h
              · exact hq.2.2 m h
              · simp at h; subst h
                obtain ⟨w1, w2, _⟩ := spl_len 43 u1
                exact ⟨⟨by simp only; omega, fun z hz => by have := (w2 z hz).1; omega⟩, by unfold okI_i64; simp only; omega⟩)
          (fun q hq => ⟨.inr (q.1, q.2), by unfold refParseGood_b2; dsimp only; rw [if_neg (by simp)], ⟨by simp only; omega, hq.1.2⟩, ⟨by simp only; omega, hq.2.2⟩⟩) (b.1, b.2.1) ⟨⟨by simp, hb.1.2⟩, ⟨by simp, hb.2.2⟩⟩
        dsimp only at eq
        rw [show ((0 : Int), b.1, b.2.1) = (((0 : Nat) : Int), b.1, b.2.1) from rfl, eq, Option.bind_some]
        rcases q with q | q
        · exact .inr ⟨_, rfl, hq⟩
        · exact .inl ⟨(q.1, q.2, b.2.2), rfl, hq.1, hq.2⟩)
    (fun b hb => ⟨.inr (b.1, b.2.1, b.2.2), by unfold refParseGood_b1; dsimp only; rw [if_neg (by simp)], ⟨by have := hb.1.1; simp only [List.length_drop, List.length_cons] at this a1; simp only; omega, hb.1.2⟩, ⟨by have := hb.2.1; simp only [List.length_drop, List.length_cons] at this a1; simp only; omega, hb.2.2⟩⟩) ([], [], false) (by simp [okM, okP])
  rw [show ((1 : Int), ([] : List ApiMaterial), ([] : List ApiComponent), false) = (((0 + 1 : Nat) : Int), (([], [], false) : PS).1, (([], [], false) : PS).2.1, (([], [], false) : PS).2.2) from rfl, e, Option.bind_some]
  rcases b with b | ⟨b1, b2, b3⟩
  · simp only at hb; subst hb; exact .inr rfl
  dsimp only at hb ⊢
  have hok : okApiGood ⟨C.spl 43 x, b1, b2, b3⟩ := by
    obtain ⟨w1, w2, _⟩ := spl_len 43 x
    exact ⟨⟨by simp only; omega, fun z hz => by have := (w2 z hz).1; omega⟩, hb.1, hb.2⟩
  by_cases hv : gv ⟨C.spl 43 x, b1, b2, b3⟩ = 0 ∧ fmtG ⟨C.spl 43 x, b1, b2, b3⟩ = s
  · exact .inl ⟨_, hv.1, hv.2, ref_end (g := ⟨C.spl 43 x, b1, b2, b3⟩) s hv.1 hv.2⟩
  · refine .inr ?_
    unfold refParseGood_j1
    by_cases h0 : s = []
    · rw [if_neg (by simp [h0]), Option.bind_some, if_pos (by simp [h0])]
    · rw [if_pos (by simp [h0])]
      by_cases hg : gv ⟨C.spl 43 x, b1, b2, b3⟩ = 0
      · have hf : ¬ fmtG ⟨C.spl 43 x, b1, b2, b3⟩ = s := fun h => hv ⟨hg, h⟩
        rw [refFormat_ok hok hg, Option.bind_some, if_pos (by simp [hf])]
      · have : ¬ ([] : Str) = s := fun h => h0 h.symm
        rw [refFormat_bad hok hg, Option.bind_some, if_pos (by simp [this])]

/-- The program and the reference read the same, from any text. -/
theorem parse_same {s : Str} (hs : s.length ≤ 1000) : ∃ g e, goodsParse s = some (g, e) ∧ refParseGood s = some (g, e) ∧ ((e = 0 ∧ gv g = 0 ∧ fmtG g = s) ∨ (g = zeroG ∧ e = 4)) := by
  rcases goodsParse_any hs with ⟨g, h1, h2, h3⟩ | h3
  · exact ⟨g, 0, h3, by rw [← h2]; exact refParse_fmt h1, .inl ⟨rfl, h1, h2⟩⟩
  · rcases refParse_any hs with ⟨g, h1, h2, h4⟩ | h4
    · exact ⟨g, 0, by rw [← h2]; exact goodsParse_fmt h1, h4, .inl ⟨rfl, h1, h2⟩⟩
    · exact ⟨zeroG, 4, h3, h4, .inr ⟨rfl, rfl⟩⟩

end Go.C
