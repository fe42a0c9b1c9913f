/- Plain laws of chapter 8: what is written is read back, by the program. No program in sight. -/
import Derived.Test.YtmjhpemmhnpilaaGreatDoorGj
set_option linter.unusedVariables false
set_option linter.unusedSimpArgs false
namespace Go.C
open Go.V
open Go.Lib (decDigits)

abbrev zeroG : ApiGood := ⟨[], [], [], false⟩

theorem GOk.m58 {g : ApiGood} (h : GOk g) {m : ApiMaterial} (hm : m ∈ g.Materials) : (58 : UInt8) ∉ m.Name := isW_no (h.mats.2 m hm).1 (by decide)
theorem mline_no {m : ApiMaterial} (h : isW m.Name = true) {c : UInt8} (hc : c.toNat < 48 ∨ (57 < c.toNat ∧ c.toNat < 97)) (h58 : c ≠ 58) : c ∉ mline m := fun hm => by
  unfold mline at hm
  rcases List.mem_append.1 hm with hm | hm
  · rcases List.mem_append.1 hm with hm | hm
    · exact isW_no h (by omega) hm
    · simp at hm; exact h58 hm
  · exact share_no _ (by omega) hm
theorem pline_no {p : ApiComponent} (h : WOk p.Words) {c : UInt8} (hc : c.toNat < 48 ∨ (57 < c.toNat ∧ c.toNat < 97)) (h58 : c ≠ 58) (h43 : c ≠ 43) : c ∉ pline p := fun hm => by
  unfold pline at hm
  rcases List.mem_append.1 hm with hm | hm
  · rcases List.mem_append.1 hm with hm | hm
    · exact h.no (by omega) h43 hm
    · simp at hm; exact h58 hm
  · exact share_no _ (by omega) hm
theorem GOk.mno {g : ApiGood} (h : GOk g) {c : UInt8} (hc : c.toNat < 48 ∨ (57 < c.toNat ∧ c.toNat < 97)) (h58 : c ≠ 58) : ∀ x, x ∈ g.Materials.map mline → c ∉ x := fun x hx => by
  obtain ⟨m, hm, rfl⟩ := List.mem_map.1 hx
  exact mline_no (h.mats.2 m hm).1 hc h58
theorem GOk.pno {g : ApiGood} (h : GOk g) {c : UInt8} (hc : c.toNat < 48 ∨ (57 < c.toNat ∧ c.toNat < 97)) (h58 : c ≠ 58) (h43 : c ≠ 43) : ∀ x, x ∈ g.Parts.map pline → c ∉ x := fun x hx => by
  obtain ⟨p, hp, rfl⟩ := List.mem_map.1 hx
  exact pline_no (h.parts.2 p hp).1 hc h58 h43
theorem GOk.fno {g : ApiGood} (h : GOk g) : ∀ x, x ∈ Lib.join g.Words [43] :: fields g → (32 : UInt8) ∉ x := fun x hx => by
  rcases List.mem_cons.1 hx with rfl | hx
  · exact h.words.no (by decide) (by decide)
  · unfold fields at hx
    rcases List.mem_append.1 hx with hx | hx
    · split at hx
      · cases hx
      · have := List.mem_singleton.1 hx
        subst this
        intro hc
        unfold mfield at hc
        rcases List.mem_append.1 hc with hc | hc
        · revert hc; decide
        · rcases join_mem hc with hc | ⟨y, h1, h2⟩
          · revert hc; decide
          · exact h.mno (by decide) (by decide) y h1 h2
    · rcases List.mem_append.1 hx with hx | hx
      · split at hx
        · cases hx
        · have := List.mem_singleton.1 hx
          subst this
          intro hc
          unfold pfield at hc
          rcases List.mem_append.1 hc with hc | hc
          · revert hc; decide
          · rcases join_mem hc with hc | ⟨y, h1, h2⟩
            · revert hc; decide
            · exact h.pno (by decide) (by decide) (by decide) y h1 h2
      · split at hx
        · have := List.mem_singleton.1 hx
          subst this
          decide
        · cases hx
theorem GOk.spl {g : ApiGood} (h : GOk g) : spl 32 (fmtG g) = Lib.join g.Words [43] :: fields g := spl_join (by simp) h.fno
theorem WOk.spl {l : List Str} (h : WOk l) : spl 43 (Lib.join l [43]) = l := spl_join h.1 (fun x hx => isW_no (h.2.2 x hx) (by decide))
theorem GOk.mspl {g : ApiGood} (h : GOk g) (hn : g.Materials ≠ []) : C.spl 44 (mtext g.Materials) = g.Materials.map mline := spl_join (fun e => hn (List.map_eq_nil_iff.1 e)) (h.mno (by decide) (by decide))
theorem GOk.pspl {g : ApiGood} (h : GOk g) (hn : g.Parts ≠ []) : C.spl 44 (ptext g.Parts) = g.Parts.map pline := spl_join (fun e => hn (List.map_eq_nil_iff.1 e)) (h.pno (by decide) (by decide) (by decide))

theorem share_m {m : ApiMaterial} (h : isW m.Name = true) (h1 : 1 ≤ m.Share) (h2 : m.Share ≤ 1000000) : goodsShare (mline m) = some (m.Name, m.Share) := by
  have l1 := isW_len h; have l2 := share_len h2
  unfold goodsShare cutS
  rw [if_pos (by unfold mline; simp; omega), show mline m = m.Name ++ 58 :: share m.Share by simp [mline], cut_at (isW_no h (by decide)), Option.bind_some]
  dsimp only
  unfold share
  rw [atoi_dec (by omega) (by omega), Option.bind_some]; rfl
theorem share_p {p : ApiComponent} (h : WOk p.Words) (h1 : 1 ≤ p.Share) (h2 : p.Share ≤ 1000000) : goodsShare (pline p) = some (Lib.join p.Words [43], p.Share) := by
  have l1 := h.len; have l2 := share_len h2
  unfold goodsShare cutS
  rw [if_pos (by unfold pline; simp; omega), show pline p = Lib.join p.Words [43] ++ 58 :: share p.Share by simp [pline], cut_at (h.no (by decide) (by decide)), Option.bind_some]
  dsimp only
  unfold share
  rw [atoi_dec (by omega) (by omega), Option.bind_some]; rfl

theorem parse_mats {g : ApiGood} (h : GOk g) (a0 : Str) (v v2 : List Str) (t : Int) (b : Bool) (c2 : List ApiComponent) : loopO (goodsParse_b2 a0 v v2 t b (g.Materials.map mline)) ((0 : Int), [], c2) = some (g.Materials, c2) := by
  have hm := h.mats.1
  have := loop_seq (f := goodsParse_b2 a0 v v2 t b (g.Materials.map mline)) g.Materials.length (fun i => ((i : Int), g.Materials.take i, c2)) (g.Materials, c2) (fun i hi => by
    obtain ⟨h1, h2, h3⟩ := h.mats.2 _ (List.getElem_mem hi)
    unfold goodsParse_b2
    dsimp only
    rw [if_pos (by simp only [decide_eq_true_eq, List.length_map]; omega), if_pos (by omega), Int.toNat_natCast, List.getElem?_map, List.getElem?_eq_getElem hi]
    simp only [Option.map_some, Option.bind_some]
    rw [share_m h1 h2 h3, Option.bind_some, if_pos (by simp; omega), w64 (n := (i : Int) + 1) (by omega), take_snoc hi]; rfl)
    (by unfold goodsParse_b2; dsimp only; rw [if_neg (by simp), List.take_length])
  exact this
theorem parse_parts {g : ApiGood} (h : GOk g) (a0 : Str) (v v2 : List Str) (t : Int) (b : Bool) (c1 : List ApiMaterial) : loopO (goodsParse_b3 a0 v v2 t b (g.Parts.map pline)) ((0 : Int), c1, []) = some (c1, g.Parts) := by
  have hm := h.parts.1
  have := loop_seq (f := goodsParse_b3 a0 v v2 t b (g.Parts.map pline)) g.Parts.length (fun i => ((i : Int), c1, g.Parts.take i)) (c1, g.Parts) (fun i hi => by
    obtain ⟨h1, h2, h3⟩ := h.parts.2 _ (List.getElem_mem hi)
    unfold goodsParse_b3
    dsimp only
    rw [if_pos (by simp only [decide_eq_true_eq, List.length_map]; omega), if_pos (by omega), Int.toNat_natCast, List.getElem?_map, List.getElem?_eq_getElem hi]
    simp only [Option.map_some, Option.bind_some]
    rw [share_p h1 h2 h3, Option.bind_some]
    dsimp only
    have := h1.len
    rw [splitS_eq (by omega), h1.spl, Option.bind_some, if_pos (by simp; omega), w64 (n := (i : Int) + 1) (by omega), take_snoc hi]; rfl)
    (by unfold goodsParse_b3; dsimp only; rw [if_neg (by simp), List.take_length])
  exact this

abbrev PS := List ApiMaterial × List ApiComponent × Bool
/-- What one field does to what was read. -/
noncomputable def pstep (a0 : Str) (v v2 : List Str) (i : Nat) (x : Str) (b : PS) : Option (PS ⊕ PS) :=
  (cutPrefixS x ([109, 58] : Str)).bind fun v28 =>
    if v28.2 = true then
      (splitS v28.1 ([44] : Str)).bind fun v29 => (loopO (goodsParse_b2 a0 v v2 (i : Int) b.2.2 v29) ((0 : Int), b.1, b.2.1)).bind fun e => some (.inl (e.1, e.2, b.2.2))
    else
      (cutPrefixS x ([112, 58] : Str)).bind fun v32 =>
        if v32.2 = true then
          (splitS v32.1 ([44] : Str)).bind fun v33 => (loopO (goodsParse_b3 a0 v v2 (i : Int) b.2.2 v33) ((0 : Int), b.1, b.2.1)).bind fun e => some (.inl (e.1, e.2, b.2.2))
        else some (.inl (b.1, b.2.1, true))
theorem mapL_bind {α β σ τ : Type} (m : β → σ) (o : Option α) (k : α → Option (β ⊕ τ)) : mapL m (o.bind k) = o.bind fun a => mapL m (k a) := by cases o <;> rfl
theorem parse_fold (a0 : Str) (v v2 : List Str) (hv : v.length ≤ 100000) (b : PS) : loopO (goodsParse_b1 a0 v v2) ((0 : Int), b.1, b.2.1, b.2.2) = foldE (pstep a0 v v2) (fun b => b) 0 (v.drop 1) b := by
  have := loop_foldE (v.drop 1) (goodsParse_b1 a0 v v2) (fun i (b : PS) => ((i : Int), b.1, b.2.1, b.2.2)) (pstep a0 v v2) (fun b => (b.1, b.2.1, b.2.2)) (fun i x b hx => by
    have hi := lt_of_get hx
    simp only [List.length_drop] at hi
    unfold goodsParse_b1 goodsParse_j2 pstep
    dsimp only
    rw [if_pos (by simp only [decide_eq_true_eq, List.length_drop]; omega), if_pos (by omega), Int.toNat_natCast, show (1 : Int).toNat = 1 from rfl, hx, Option.bind_some, w64 (n := (i : Int) + 1) (by omega)]
    unfold cutPrefixS
    simp only [Option.bind_some]
    split
    · simp only [mapL_bind]; rfl
    · split
      · simp only [mapL_bind]; rfl
      · rfl) (fun b => by unfold goodsParse_b1; dsimp only; rw [if_neg (by simp)]) b
  exact this

theorem pre_yes (p x : Str) : cutPrefixS (p ++ x) p = some (x, true) := by
  unfold cutPrefixS Lib.trimPrefix Lib.hasPrefix
  have : p.isPrefixOf (p ++ x) = true := by rw [List.isPrefixOf_iff_prefix]; exact List.prefix_append _ _
  rw [this]; simp
theorem step_m {g : ApiGood} (h : GOk g) (hn : g.Materials ≠ []) (a0 : Str) (v v2 : List Str) (i : Nat) (c2 : List ApiComponent) (b : Bool) : pstep a0 v v2 i (mfield g.Materials) ([], c2, b) = some (.inl (g.Materials, c2, b)) := by
  have := h.mtl
  unfold pstep mfield
  rw [pre_yes, Option.bind_some, if_pos rfl]
  dsimp only
  rw [splitS_eq (by omega), h.mspl hn, Option.bind_some, parse_mats h, Option.bind_some]
theorem step_p {g : ApiGood} (h : GOk g) (hn : g.Parts ≠ []) (a0 : Str) (v v2 : List Str) (i : Nat) (c1 : List ApiMaterial) (b : Bool) : pstep a0 v v2 i (pfield g.Parts) (c1, [], b) = some (.inl (c1, g.Parts, b)) := by
  have := h.ptl
  unfold pstep pfield
  have e : cutPrefixS ([112, 58] ++ ptext g.Parts) [109, 58] = some ([112, 58] ++ ptext g.Parts, false) := rfl
  rw [e, Option.bind_some, if_neg (by simp), pre_yes, Option.bind_some, if_pos rfl]
  dsimp only
  rw [splitS_eq (by omega), h.pspl hn, Option.bind_some, parse_parts h, Option.bind_some]
theorem step_i (a0 : Str) (v v2 : List Str) (i : Nat) (b : PS) : pstep a0 v v2 i incW b = some (.inl (b.1, b.2.1, true)) := rfl

theorem parse_fields {g : ApiGood} (h : GOk g) (a0 : Str) (v v2 : List Str) : foldE (pstep a0 v v2) (fun b => b) 0 (fields g) ([], [], false) = some (g.Materials, g.Parts, g.Incomplete) := by
  unfold fields
  by_cases hm : g.Materials = [] <;> by_cases hp : g.Parts = [] <;> cases hi : g.Incomplete
  · simp [hm, hp, foldE]
  · simp only [hm, hp, if_true, List.nil_append, foldE, step_i]
  · simp only [hm, hp, if_true, if_false, Bool.false_eq_true, List.nil_append, List.append_nil, foldE, step_p h hp]
  · simp only [hm, hp, if_true, if_false, List.nil_append, List.cons_append, foldE, step_p h hp, step_i]
  · simp only [hm, hp, if_true, if_false, Bool.false_eq_true, List.nil_append, List.append_nil, foldE, step_m h hm]
  · simp only [hm, hp, if_true, if_false, List.nil_append, List.cons_append, foldE, step_m h hm, step_i]
  · simp only [hm, hp, if_true, if_false, Bool.false_eq_true, List.nil_append, List.append_nil, List.cons_append, foldE, step_m h hm, step_p h hp]
  · simp only [hm, hp, if_true, if_false, List.nil_append, List.cons_append, foldE, step_m h hm, step_p h hp, step_i]

theorem parse_end {g : ApiGood} (a0 : Str) : gv g = 0 → fmtG g = a0 → goodsParse_j1 a0 g.Words g.Materials g.Parts g.Incomplete = some (g, 0) := fun hv hf => by
  unfold goodsParse_j1
  show (goodsValidate g).bind _ = _
  rw [goodsValidate_eq, hv, Option.bind_some]
  show (if (!((0 : Int) != 0)) = true then goodsFormat g else _).bind _ = _
  rw [if_pos (by decide), goodsFormat_ok hv, Option.bind_some, if_neg (by simp [hf])]
/-- What is written is read back. -/
theorem goodsParse_fmt {g : ApiGood} (hv : gv g = 0) : goodsParse (fmtG g) = some (g, 0) := by
  have h := gv_gok hv
  have l := h.flen
  have l2 := h.words.len
  have hsl : (C.spl 32 (fmtG g)).length ≤ 1001 := by have := (spl_len 32 (fmtG g)).1; omega
  unfold goodsParse
  rw [splitS_eq (by omega), h.spl, Option.bind_some]
  rw [h.spl] at hsl
  show Option.bind (some (Lib.join g.Words [43])) _ = _
  rw [Option.bind_some, splitS_eq (by omega), h.words.spl, Option.bind_some, if_pos (by simp only [List.length_cons]; omega)]
  have := parse_fold (fmtG g) (Lib.join g.Words [43] :: fields g) g.Words (by omega) ([], [], false)
  simp only [List.drop_succ_cons, List.drop_zero] at this
  rw [this, parse_fields h, Option.bind_some]
  exact parse_end _ hv rfl

/-- Whatever the text: it is that of a description that holds, or it is refused. -/
theorem goodsParse_any {s : Str} (hs : s.length ≤ 1000) : (∃ g, gv g = 0 ∧ fmtG g = s ∧ goodsParse s = some (g, 0)) ∨ goodsParse s = some (zeroG, 4) := by
  obtain ⟨a1, a2, a3⟩ := spl_len 32 s
  obtain ⟨x, r, hx⟩ : ∃ x r, C.spl 32 s = x :: r := by
    cases h : C.spl 32 s with
    | nil => exact absurd h (spl_ne 32 s)
    | cons x r => exact ⟨x, r, rfl⟩
  have hxl := (a2 x (by rw [hx]; simp)).1
  unfold goodsParse
  rw [splitS_eq (by omega), Option.bind_some, hx]
  rw [hx] at a1 a2
  show (∃ g, gv g = 0 ∧ fmtG g = s ∧ (Option.bind (some x) _) = some (g, 0)) ∨ (Option.bind (some x) _) = _
  rw [Option.bind_some, splitS_eq (by omega), Option.bind_some, if_pos (by simp only [List.length_cons]; omega)]
  have share_any : ∀ y : Str, y.length ≤ 1000 → ∃ a b, goodsShare y = some (a, b) ∧ a.length ≤ 1000 := fun y hy => by
    unfold goodsShare cutS
    rw [if_pos (by omega), Option.bind_some]
    have h1 : (Lib.cut y [58]).1.length ≤ 1000 ∧ (Lib.cut y [58]).2.1.length ≤ 1000 := by
      rcases spl_cases 58 y with h | ⟨w, r, rfl, hw⟩
      · rw [cut_miss h]; simp; omega
      · rw [cut_at hw]; simp at hy ⊢; omega
    obtain ⟨n, b, e, _⟩ := atoi_any (s := (Lib.cut y [58]).2.1) (by omega)
    rw [e, Option.bind_some]
    unfold goodsShare_j1
    split
    · exact ⟨_, _, rfl, h1.1⟩
    · exact ⟨_, _, rfl, h1.1⟩
  obtain ⟨b, e, _⟩ := loop_all ((x :: r).drop 1) (goodsParse_b1 s (x :: r) (C.spl 43 x)) (fun i (b : PS) => ((i : Int), b.1, b.2.1, b.2.2)) (fun i b => b.1.length ≤ i * 1001 ∧ b.2.1.length ≤ i * 1001) (fun _ => True) (fun i y b hy hb => by
    have hi := lt_of_get hy
    simp only [List.length_drop] at hi
    have hym : y ∈ x :: r := List.mem_of_mem_drop (List.mem_of_getElem? hy)
    have hyl := (a2 y hym).1
    unfold goodsParse_b1 goodsParse_j2
    dsimp only
    rw [if_pos (by simp only [decide_eq_true_eq, List.length_drop]; omega), if_pos (by omega), Int.toNat_natCast, show (1 : Int).toNat = 1 from rfl, hy, Option.bind_some, w64 (n := (i : Int) + 1) (by omega)]
    have hcp : ∀ p, ∃ z c, cutPrefixS y p = some (z, c) ∧ z.length ≤ 1000 := fun p => by
      unfold cutPrefixS Lib.trimPrefix
      split
      · exact ⟨_, _, rfl, by simp; omega⟩
      · exact ⟨_, _, rfl, by omega⟩
    obtain ⟨z, c, e1, hz⟩ := hcp [109, 58]
    obtain ⟨z2, c2, e2, hz2⟩ := hcp [112, 58]
    rw [e1, Option.bind_some]
    refine .inl ?_
    split
    · obtain ⟨k1, k2, _⟩ := spl_len 44 z
      rw [splitS_eq (by dsimp only; omega), Option.bind_some]
      dsimp only
      obtain ⟨rr, er, hr⟩ := loop_all (C.spl 44 z) (goodsParse_b2 s (x :: r) (C.spl 43 x) (i : Int) b.2.2 (C.spl 44 z)) (fun k (q : List ApiMaterial) => ((k : Int), q, b.2.1)) (fun k q => q.length = b.1.length + k) (fun rr => rr.1.length ≤ (i + 1) * 1001 ∧ rr.2 = b.2.1) (fun k w q hw hq => by
        have hk := lt_of_get hw
        obtain ⟨aa, bb, ea, hla⟩ := share_any w (by have := (k2 w (List.mem_of_getElem? hw)).1; omega)
        refine .inl ⟨q ++ [⟨aa, bb⟩], ?_, by simp; omega⟩
        unfold goodsParse_b2
        dsimp only
        rw [if_pos (by simp only [decide_eq_true_eq]; omega), if_pos (by omega), Int.toNat_natCast, hw, Option.bind_some, ea, Option.bind_some, if_pos (by simp; omega), w64 (n := (k : Int) + 1) (by omega)]; rfl)
        (fun q hq => ⟨(q, b.2.1), by unfold goodsParse_b2; dsimp only; rw [if_neg (by simp)], by simp only; omega, rfl⟩) b.1 rfl
      rw [show ((0 : Int), b.1, b.2.1) = (((0 : Nat) : Int), b.1, b.2.1) from rfl, er, Option.bind_some]
      exact ⟨(rr.1, rr.2, b.2.2), rfl, hr.1, by simp only; rw [hr.2]; omega⟩
    · rw [e2, Option.bind_some]
      split
      · obtain ⟨k1, k2, _⟩ := spl_len 44 z2
        rw [splitS_eq (by dsimp only; omega), Option.bind_some]
        dsimp only
        obtain ⟨rr, er, hr⟩ := loop_all (C.spl 44 z2) (goodsParse_b3 s (x :: r) (C.spl 43 x) (i : Int) b.2.2 (C.spl 44 z2)) (fun k (q : List ApiComponent) => ((k : Int), b.1, q)) (fun k q => q.length = b.2.1.length + k) (fun rr => rr.2.length ≤ (i + 1) * 1001 ∧ rr.1 = b.1) (fun k w q hw hq => by
          have hk := lt_of_get hw
          obtain ⟨aa, bb, ea, hla⟩ := share_any w (by have := (k2 w (List.mem_of_getElem? hw)).1; omega)
          refine .inl ⟨q ++ [⟨C.spl 43 aa, bb⟩], ?_, by simp; omega⟩
          unfold goodsParse_b3
          dsimp only
          rw [if_pos (by simp only [decide_eq_true_eq]; omega), if_pos (by omega), Int.toNat_natCast, hw, Option.bind_some, ea, Option.bind_some, splitS_eq (by dsimp only; omega), Option.bind_some, if_pos (by simp; omega), w64 (n := (k : Int) + 1) (by omega)]; rfl)
          (fun q hq => ⟨(b.1, q), by unfold goodsParse_b3; dsimp only; rw [if_neg (by simp)], by simp only; omega, rfl⟩) b.2.1 rfl
        rw [show ((0 : Int), b.1, b.2.1) = (((0 : Nat) : Int), b.1, b.2.1) from rfl, er, Option.bind_some]
        exact ⟨(rr.1, rr.2, b.2.2), rfl, by simp only; rw [hr.2]; omega, hr.1⟩
      · exact ⟨(b.1, b.2.1, true), rfl, by simp only; omega, by simp only; omega⟩)
    (fun b hb => ⟨(b.1, b.2.1, b.2.2), by unfold goodsParse_b1; dsimp only; rw [if_neg (by simp)], trivial⟩) ([], [], false) (by simp)
  rw [show ((0 : Int), ([] : List ApiMaterial), ([] : List ApiComponent), false) = (((0 : Nat) : Int), (([], [], false) : PS).1, (([], [], false) : PS).2.1, (([], [], false) : PS).2.2) from rfl, e, Option.bind_some]
  obtain ⟨b1, b2, b3⟩ := b
  dsimp only
  by_cases hv : gv ⟨C.spl 43 x, b1, b2, b3⟩ = 0 ∧ fmtG ⟨C.spl 43 x, b1, b2, b3⟩ = s
  · exact .inl ⟨_, hv.1, hv.2, parse_end (g := ⟨C.spl 43 x, b1, b2, b3⟩) s hv.1 hv.2⟩
  · refine .inr ?_
    unfold goodsParse_j1
    rw [goodsValidate_eq, Option.bind_some]
    by_cases h0 : gv ⟨C.spl 43 x, b1, b2, b3⟩ = 0
    · have hf : ¬ fmtG ⟨C.spl 43 x, b1, b2, b3⟩ = s := fun h => hv ⟨h0, h⟩
      rw [h0, if_pos (by decide), goodsFormat_ok h0, Option.bind_some, if_pos (by simp [hf])]
    · rw [if_neg (by simpa using h0), Option.bind_some, if_pos (by simp [h0])]

end Go.C
