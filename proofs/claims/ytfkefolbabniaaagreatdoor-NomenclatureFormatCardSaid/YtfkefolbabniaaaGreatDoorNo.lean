/- Plain laws of chapter 9: the lines of entries and notes, written by both and read by the program. No program in sight. -/
import Derived.Test.YtfkefolbabniaaaGreatDoorNk
import Derived.Test.YtfkefolbabniaaaGreatDoorUb
set_option linter.unusedVariables false
set_option linter.unusedSimpArgs false
namespace Go.C
open Go.V
open Go.Lib (decDigits)

theorem lvl_len {s : Str} (h : lvl s ≠ 0) : s.length ≤ 8 := by
  unfold lvl at h
  split at h
  · omega
  · exact absurd rfl h
theorem neI {a b : Int} (h : a ≠ b) : (a != b) = true := by simpa using h
theorem eqI {a b : Int} (h : a = b) : (a != b) = false := by simpa using h
theorem lens_app (a b : List Str) : Lib.lens (a ++ b) = Lib.lens a + Lib.lens b := by simp [Lib.lens]
theorem eflds_lens {e : Ent} (h : EVal e) : (eflds e).length ≤ 10 ∧ Lib.lens (eflds e) ≤ 700 := by
  have h1 := lvl_len h.lvl; have h2 := h.days; have h3 := h.few
  have d1 := dec_len19 (u := e.From.toNat) (by omega)
  have d2 := dec_len19 (u := e.To.toNat) (by omega)
  have h4 := lens_le (l := e.Terms.map trm) (k := 104) (fun x hx => by
    obtain ⟨t, ht, rfl⟩ := List.mem_map.1 hx
    exact (h.terms t ht).len)
  rw [List.length_map] at h4
  unfold eflds
  rw [lens_app, lens_app]
  have e1 : Lib.lens [e.Code, decDigits e.From.toNat, decDigits e.To.toNat] = e.Code.length + ((decDigits e.From.toNat).length + (decDigits e.To.toNat).length) := by simp [Lib.lens]
  rw [e1]
  cases e.Other with
  | true => simp only [if_true, List.length_append, List.length_map, List.length_cons, List.length_nil]; have : Lib.lens [([42] : Str)] = 1 := rfl; omega
  | false => simp only [Bool.false_eq_true, if_false, List.length_append, List.length_map, List.length_cons, List.length_nil]; have : Lib.lens ([] : List Str) = 0 := rfl; omega
theorem eline_len {e : Ent} (h : EVal e) : (eline e).length ≤ 710 := by
  have h1 := eflds_lens h
  have h2 := join_len (eflds e) [32]
  simp only [List.length_cons, List.length_nil] at h2
  unfold eline; omega
theorem tgt_len {n : ApiCodeNote} (h : NVal n) : (tgt n).length ≤ 8 := by
  unfold tgt
  split
  · simp
  · rename_i hne
    rcases h.target with ht | ht
    · exact absurd ht hne
    · exact lvl_len (by omega)
theorem nline_len {n : ApiCodeNote} (h : NVal n) : (nline n).length ≤ 200 := by
  have h1 := lvl_len h.scope; have h2 := h.words.len; have h3 := tgt_len h
  have h4 := join_len (nflds n) [32]
  have e1 : Lib.lens (nflds n) = 4 + (n.Scope.length + ((Lib.join n.Words [43]).length + (tgt n).length)) := by simp [nflds, Lib.lens]
  have e2 : (nflds n).length = 4 := rfl
  rw [e1, e2] at h4
  simp only [List.length_cons, List.length_nil] at h4
  unfold nline; omega

/-! ### Written -/
theorem trm_join {t : List Str} (h : WOk t) : joinS t [43] = some (trm t) := by
  have h1 := h.len; have h2 := h.2.1
  unfold joinS trm
  rw [if_pos ⟨by omega, by omega⟩]
theorem entryLine_eq {e : Ent} (h : EVal e) : entryLine e = some (eline e) := by
  have hd := h.days; have hf := h.few; have hl := eline_len h; have hfl := eflds_lens h
  have fin : entryLine_j2 (eflds e) = some (eline e) := by
    unfold entryLine_j2 joinS
    rw [if_pos ⟨by omega, by show (eline e).length ≤ _; omega⟩]; rfl
  unfold entryLine
  rw [itoa_ok (by omega) (by omega), Option.bind_some, itoa_ok (by omega) (by omega), Option.bind_some]
  have hloop := loop_seq (f := entryLine_b1 e) e.Terms.length (fun i => ((i : Int), [e.Code, decDigits e.From.toNat, decDigits e.To.toNat] ++ (e.Terms.take i).map trm)) ([e.Code, decDigits e.From.toNat, decDigits e.To.toNat] ++ e.Terms.map trm) (fun i hi => by
    unfold entryLine_b1
    dsimp only
    rw [if_pos (decide_eq_true (by omega)), if_pos (by omega), Int.toNat_natCast, List.getElem?_eq_getElem hi, Option.bind_some, trm_join (h.terms _ (List.getElem_mem hi)), Option.bind_some,
      if_pos (by simp only [List.length_append, List.length_map, List.length_take, List.length_cons, List.length_nil]; omega), w64 (by omega), take_snoc hi, List.map_append, List.append_assoc]
    rfl) (by
    unfold entryLine_b1
    dsimp only
    rw [if_neg (by simp), List.take_length])
  have hloop' : loopO (entryLine_b1 e) ((0 : Int), [e.Code, decDigits e.From.toNat, decDigits e.To.toNat]) = some ([e.Code, decDigits e.From.toNat, decDigits e.To.toNat] ++ e.Terms.map trm) := hloop
  rw [hloop', Option.bind_some]
  unfold entryLine_j1
  have hef : eflds e = ([e.Code, decDigits e.From.toNat, decDigits e.To.toNat] ++ e.Terms.map trm) ++ (if e.Other = true then [[42]] else []) := rfl
  cases ho : e.Other with
  | true =>
    rw [ho, if_pos rfl] at hef
    simp only [if_true]
    rw [if_pos (by simp only [List.length_append, List.length_map, List.length_cons, List.length_nil]; omega), ← hef]
    exact fin
  | false =>
    rw [ho, if_neg (by simp), List.append_nil] at hef
    simp only [Bool.false_eq_true, if_false]
    rw [← hef]; exact fin
theorem noteLine_eq {n : ApiCodeNote} (h : NVal n) : noteLine n = some (nline n) := by
  have hl := nline_len h
  have fin : noteLine_j1 n (tgt n) = some (nline n) := by
    unfold noteLine_j1
    rw [trm_join h.words, Option.bind_some]
    unfold joinS
    rw [if_pos ⟨by show (4 : Nat) ≤ _; omega, by show (nline n).length ≤ _; omega⟩]; rfl
  unfold noteLine
  by_cases ht : n.Target = []
  · rw [if_pos (by rw [ht]; rfl)]
    have : tgt n = [45] := if_pos ht
    rw [← this]; exact fin
  · rw [if_neg (by rw [beq_iff_eq]; exact ht)]
    have : tgt n = n.Target := if_neg ht
    rw [← this]; rw [← this] at ht
    exact fin
theorem catK {a b : Str} {β : Type} {k : Option β} (h : a.length + b.length ≤ 100000) : (if a.length + b.length ≤ 9223372036854775807 then k else none) = k := if_pos (by omega)
theorem number_ok {n : Int} (h : 0 ≤ n) (h2 : n ≤ 9223372036854775807) : r02Number n = some (decDigits n.toNat) := by
  unfold r02Number
  rw [if_neg (fun hh => by have := of_decide_eq_true hh; omega), digits_ok h h2]; rfl
theorem join_one32 (x : Str) (l : List Str) : Lib.join (x :: l) [32] = x ++ (l.map fun y => (32 : UInt8) :: y).flatten := by
  induction l generalizing x with
  | nil => rw [Lib.join_one]; simp
  | cons y l ih => rw [join_cons2, ih]; simp
theorem wjoin {l : List Str} (h : WOk l) : refJoined l [43] = some (Lib.join l [43]) := by
  have h1 := h.lens; have h2 := h.2.1
  exact refJoined_eq (by omega) (by omega)
theorem refEntryLine_eq {e : Ent} (h : EVal e) : refEntryLine e = some (eline e) := by
  have hd := h.days; have hf := h.few; have hc := lvl_len h.lvl
  have d1 := dec_len19 (u := e.From.toNat) (by omega)
  have d2 := dec_len19 (u := e.To.toNat) (by omega)
  unfold refEntryLine
  rw [catK (by simp only [List.length_cons, List.length_nil]; omega), number_ok (by omega) (by omega), Option.bind_some, catK (by simp only [List.length_append, List.length_cons, List.length_nil]; omega), catK (by simp only [List.length_append, List.length_cons, List.length_nil]; omega), number_ok (by omega) (by omega), Option.bind_some, catK (by simp only [List.length_append, List.length_cons, List.length_nil]; omega)]
  let pre : Str := (((e.Code ++ [32]) ++ decDigits e.From.toNat) ++ [32]) ++ decDigits e.To.toNat
  let cat : List (List Str) → Str := fun l => ((l.map trm).map fun y => (32 : UInt8) :: y).flatten
  have hpre : pre.length ≤ 50 := by simp only [pre, List.length_append, List.length_cons, List.length_nil]; omega
  have hcat : ∀ l : List (List Str), (∀ t, t ∈ l → WOk t) → (cat l).length ≤ 105 * l.length := by
    intro l
    induction l with
    | nil => intro _; simp [cat]
    | cons t l ih =>
      intro hl
      have h1 := (hl t List.mem_cons_self).len
      have h2 := ih (fun x hx => hl x (List.mem_cons_of_mem _ hx))
      have e1 : cat (t :: l) = (32 : UInt8) :: trm t ++ cat l := by simp [cat]
      rw [e1]
      simp only [List.length_append, List.length_cons]
      unfold trm; omega
  have hsnoc : ∀ (l : List (List Str)) (t : List Str), cat (l ++ [t]) = cat l ++ ([32] ++ trm t) := fun l t => by simp [cat]
  have hloop := loop_seq (f := refEntryLine_b1 e) e.Terms.length (fun i => ((i : Int), pre ++ cat (e.Terms.take i))) (pre ++ cat e.Terms) (fun i hi => by
    have hw := h.terms _ (List.getElem_mem hi)
    have h1 := hw.len
    have h2 := hcat (e.Terms.take i) (fun t ht => h.terms t (List.mem_of_mem_take ht))
    rw [List.length_take] at h2
    unfold refEntryLine_b1
    dsimp only
    rw [if_pos (decide_eq_true (by omega)), catK (by simp only [List.length_append, List.length_cons, List.length_nil]; omega), if_pos (by omega), Int.toNat_natCast, List.getElem?_eq_getElem hi, Option.bind_some, wjoin hw, Option.bind_some,
      catK (by simp only [List.length_append, List.length_cons, List.length_nil]; omega), w64 (by omega), take_snoc hi, hsnoc]
    simp only [List.append_assoc]
    rfl) (by
    unfold refEntryLine_b1
    dsimp only
    rw [if_neg (by simp), List.take_length])
  have hloop' : loopO (refEntryLine_b1 e) ((0 : Int), pre) = some (pre ++ cat e.Terms) := by
    have h0 : (fun i : Nat => ((i : Int), pre ++ cat (e.Terms.take i))) 0 = ((0 : Int), pre) := by simp [cat]
    rw [← h0]; exact hloop
  rw [show ((((e.Code ++ [32]) ++ decDigits e.From.toNat) ++ [32]) ++ decDigits e.To.toNat) = pre from rfl, hloop', Option.bind_some]
  have hfin : eline e = pre ++ cat e.Terms ++ (if e.Other = true then [32, 42] else []) := by
    unfold eline eflds
    rw [List.append_assoc, List.cons_append, join_one32]
    simp only [pre, cat]
    cases e.Other <;> simp
  have h2 := hcat e.Terms h.terms
  unfold refEntryLine_j1 refEntryLine_j2
  cases ho : e.Other with
  | true =>
    rw [ho, if_pos rfl] at hfin
    simp only [if_true]
    rw [catK (by simp only [List.length_append, List.length_cons, List.length_nil]; omega), hfin]
  | false =>
    rw [ho, if_neg (by simp), List.append_nil] at hfin
    simp only [Bool.false_eq_true, if_false]
    rw [hfin]
theorem refNoteLine_eq {n : ApiCodeNote} (h : NVal n) : refNoteLine n = some (nline n) := by
  have h1 := lvl_len h.scope; have h2 := h.words.len; have h3 := tgt_len h
  unfold refNoteLine
  have hfin : nline n = (((([110, 111, 116, 101, 32] : Str) ++ n.Scope) ++ [32]) ++ Lib.join n.Words [43]) ++ [32] ++ tgt n := by
    unfold nline nflds
    rw [join_one32]; simp
  rw [catK (by simp only [List.length_append, List.length_cons, List.length_nil]; omega), catK (by simp only [List.length_append, List.length_cons, List.length_nil]; omega), wjoin h.words, Option.bind_some, catK (by simp only [List.length_append, List.length_cons, List.length_nil]; omega), hfin]
  unfold tgt at h3 ⊢
  by_cases ht : n.Target = []
  · rw [if_pos ht, if_pos (by rw [ht]; rfl), catK (by simp only [List.length_append, List.length_cons, List.length_nil]; omega)]; simp
  · rw [if_neg ht] at h3 ⊢
    rw [if_neg (by rw [beq_iff_eq]; exact ht), catK (by simp only [List.length_append, List.length_cons, List.length_nil]; omega), catK (by simp only [List.length_append, List.length_cons, List.length_nil]; omega)]

/-! ### Read by the program -/
theorem trm_ne {t : List Str} (h : WOk t) : trm t ≠ [42] := fun he => h.no (c := 42) (.inl (by decide)) (by decide) (by unfold trm at he; rw [he]; simp)
theorem trm_spl {t : List Str} (h : WOk t) : spl 43 (trm t) = t := spl_join h.1 (fun x hx => isW_no (h.2.2 x hx) (.inl (by decide)))
/-- The terms' part of a line. -/
def tfl (e : Ent) : List Str := e.Terms.map trm ++ (if e.Other = true then [[42]] else [])
theorem eflds_tfl (e : Ent) : eflds e = e.Code :: decDigits e.From.toNat :: decDigits e.To.toNat :: tfl e := by unfold eflds tfl; simp
theorem tfl_get {e : Ent} {i : Nat} {x : Str} (h : (tfl e)[i]? = some x) : (∃ hi : i < e.Terms.length, x = trm e.Terms[i]) ∨ (i = e.Terms.length ∧ e.Other = true ∧ x = [42]) := by
  unfold tfl at h
  by_cases hi : i < e.Terms.length
  · rw [List.getElem?_append_left (by simpa using hi), List.getElem?_map, List.getElem?_eq_getElem hi] at h
    exact .inl ⟨hi, (Option.some.inj h).symm⟩
  · rw [List.getElem?_append_right (by simpa using hi)] at h
    split at h
    · rename_i ho
      have h2 := (List.getElem?_eq_some_iff.1 h).1
      simp only [List.length_map, List.length_cons, List.length_nil] at h2
      have hie : i = e.Terms.length := by omega
      subst hie
      simp at h
      exact .inr ⟨rfl, ho, h.symm⟩
    · simp at h
theorem tfl_len (e : Ent) : (tfl e).length = e.Terms.length + (if e.Other = true then 1 else 0) := by
  unfold tfl; cases e.Other <;> simp
theorem eline_terms {e : Ent} (h : EVal e) (line : Str) (v : List Str) (v2 v3 : Int × Bool) (x3 : Str) (hv : v.drop 3 = tfl e) : loopO (parseEntry_b1 line v v2 v3 x3) ((0 : Int), [], false) = some (e.Terms, e.Other) := by
  have hf := h.few
  have hl := tfl_len e
  have hloop := loop_seq (f := parseEntry_b1 line v v2 v3 x3) (tfl e).length (fun i => ((i : Int), e.Terms.take i, decide (e.Terms.length < i))) (e.Terms, e.Other) (fun i hi => by
    unfold parseEntry_b1 parseEntry_j2
    dsimp only
    rw [show (3 : Int).toNat = 3 from rfl, hv, if_pos (decide_eq_true (by omega)), if_pos (by omega), Int.toNat_natCast, List.getElem?_eq_getElem hi, Option.bind_some, w64 (by split at hl <;> omega)]
    rcases tfl_get (List.getElem?_eq_getElem hi) with ⟨h1, h2⟩ | ⟨h1, h2, h3⟩
    · have hw := h.terms _ (List.getElem_mem h1)
      have hwl := hw.len
      rw [h2, if_neg (by rw [beq_iff_eq]; exact trm_ne hw), splitS_eq (by unfold trm; omega), Option.bind_some, trm_spl hw, if_pos (by simp only [List.length_take, List.length_cons, List.length_nil]; omega), take_snoc h1, decide_eq_false (by omega), decide_eq_false (by omega)]
      rfl
    · rw [h3, if_pos (by rfl), decide_eq_true (by omega), List.take_of_length_le (by omega), List.take_of_length_le (by omega)]
      rfl) (by
    unfold parseEntry_b1
    dsimp only
    rw [show (3 : Int).toNat = 3 from rfl, hv, if_neg (by simp), List.take_of_length_le (by omega)]
    have : decide (e.Terms.length < (tfl e).length) = e.Other := by rw [hl]; cases e.Other <;> simp
    rw [this])
  exact hloop
theorem parseEntry_line {e : Ent} (h : EVal e) : parseEntry (eline e) = some (e, true) := by
  have hd := h.days; have hl := eline_len h
  unfold parseEntry
  rw [splitS_eq (by omega), Option.bind_some, spl_eline h, eflds_tfl]
  rw [if_neg (fun hh => by have := of_decide_eq_true hh; simp only [List.length_cons] at this; omega)]
  rw [show (e.Code :: decDigits e.From.toNat :: decDigits e.To.toNat :: tfl e)[1]? = some (decDigits e.From.toNat) from rfl, Option.bind_some, atoi_dec (by omega) (by omega), Option.bind_some]
  simp only [Bool.not_true, Bool.false_eq_true, if_false]
  rw [show (e.Code :: decDigits e.From.toNat :: decDigits e.To.toNat :: tfl e)[2]? = some (decDigits e.To.toNat) from rfl, Option.bind_some, atoi_dec (by omega) (by omega), Option.bind_some]
  simp only [Bool.not_true, Bool.false_eq_true, if_false]
  rw [show (e.Code :: decDigits e.From.toNat :: decDigits e.To.toNat :: tfl e)[0]? = some e.Code from rfl, Option.bind_some, if_pos ⟨by decide, by simp only [List.length_cons]; omega⟩, eline_terms h _ _ _ _ _ rfl, Option.bind_some]
  show parseEntry_j1 (eline e) (e.From, true) (e.To, true) e.Code e.Terms e.Other = _
  unfold parseEntry_j1
  rw [validateEntry_eq, Option.bind_some]
  have h0 : oneE e = 0 := h.one
  show (if ((oneE e) == (0 : Int)) = true then entryLine e else some default).bind _ = _
  rw [h0]
  simp only [beq_self_eq_true, if_true, cond_true]
  rw [entryLine_eq h, Option.bind_some, beq_self_eq_true]
theorem parseEntry_any {line : Str} (hl : line.length ≤ 1000000) : (∃ e, EVal e ∧ eline e = line ∧ parseEntry line = some (e, true)) ∨ ((∀ e, EVal e → eline e ≠ line) ∧ ∃ e, parseEntry line = some (e, false)) := by
  by_cases hd : ∃ e, EVal e ∧ eline e = line
  · obtain ⟨e, h1, rfl⟩ := hd
    exact .inl ⟨e, h1, rfl, parseEntry_line h1⟩
  right
  refine ⟨fun e h1 h2 => hd ⟨e, h1, h2⟩, ?_⟩
  have hsl := spl_len 32 line
  unfold parseEntry
  rw [splitS_eq (by omega), Option.bind_some]
  have hxl : ∀ x, x ∈ spl 32 line → x.length ≤ 1000000 := fun x hx => by have := (hsl.2.1 x hx).1; omega
  have hvl := hsl.1
  generalize spl 32 line = v at hxl hvl
  by_cases h3 : (v.length : Int) < 3
  · rw [if_pos (decide_eq_true h3)]; exact ⟨_, rfl⟩
  rw [if_neg (fun hh => h3 (of_decide_eq_true hh)), List.getElem?_eq_getElem (by omega : 1 < v.length), Option.bind_some]
  obtain ⟨n1, b1, e1, _⟩ := atoi_any (s := v[1]) (by have := hxl _ (List.getElem_mem (by omega : 1 < v.length)); omega)
  obtain ⟨n2, b2, e2, _⟩ := atoi_any (s := v[2]) (by have := hxl _ (List.getElem_mem (by omega : 2 < v.length)); omega)
  rw [e1, Option.bind_some]
  cases b1 with
  | false => exact ⟨_, rfl⟩
  | true =>
    simp only [Bool.not_true, Bool.false_eq_true, if_false]
    rw [List.getElem?_eq_getElem (by omega : 2 < v.length), Option.bind_some, e2, Option.bind_some]
    cases b2 with
    | false => exact ⟨_, rfl⟩
    | true =>
      simp only [Bool.not_true, Bool.false_eq_true, if_false]
      rw [List.getElem?_eq_getElem (by omega : 0 < v.length), Option.bind_some, if_pos ⟨by decide, by omega⟩]
      obtain ⟨r, hr, _⟩ := loop_all (v.drop 3) (parseEntry_b1 line v (n1, true) (n2, true) v[0]) (fun i (b : List (List Str) × Bool) => ((i : Int), b.1, b.2)) (fun i b => b.1.length ≤ i) (fun _ => True) (fun i x b hx hI => by
          have hlt := lt_of_get hx
          have hxm := hxl x (List.mem_of_mem_drop (List.mem_of_getElem? hx))
          rw [List.length_drop] at hlt
          left
          unfold parseEntry_b1 parseEntry_j2
          dsimp only
          rw [show (3 : Int).toNat = 3 from rfl, if_pos (decide_eq_true (by rw [List.length_drop]; omega)), if_pos (by omega), Int.toNat_natCast, hx, Option.bind_some, w64 (by omega)]
          by_cases hs : x = [42]
          · rw [if_pos (by rw [hs]; rfl)]
            exact ⟨(b.1, true), rfl, by simp only; omega⟩
          · rw [if_neg (by rw [beq_iff_eq]; exact hs), splitS_eq (by omega), Option.bind_some, if_pos (by simp only [List.length_cons, List.length_nil]; omega)]
            exact ⟨(b.1 ++ [_], b.2), rfl, by simp only [List.length_append, List.length_cons, List.length_nil]; omega⟩)
        (fun b hb => ⟨(b.1, b.2), by
          unfold parseEntry_b1
          dsimp only
          rw [show (3 : Int).toNat = 3 from rfl, if_neg (by simp)], trivial⟩) ([], false) (by simp)
      rw [show ((0 : Int), ([] : List (List Str)), false) = (((0 : Nat) : Int), (([] : List (List Str)), false).1, (([] : List (List Str)), false).2) from rfl, hr, Option.bind_some]
      obtain ⟨ts, o⟩ := r
      show ∃ e, parseEntry_j1 line (n1, true) (n2, true) v[0] ts o = some (e, false)
      unfold parseEntry_j1
      rw [validateEntry_eq, Option.bind_some]
      by_cases h0 : oneE ⟨v[0], n1, n2, ts, o⟩ = 0
      · have hv := EVal.of h0
        have hne : (eline ⟨v[0], n1, n2, ts, o⟩ == line) = false := by rw [beq_eq_false_iff_ne]; exact fun he => hd ⟨_, hv, he⟩
        simp only [h0, beq_self_eq_true, if_true, cond_true]
        rw [entryLine_eq hv, Option.bind_some, hne]
        exact ⟨_, rfl⟩
      · have hne : (oneE ⟨v[0], n1, n2, ts, o⟩ == (0 : Int)) = false := by rw [beq_eq_false_iff_ne]; exact h0
        simp only [hne, Bool.false_eq_true, if_false, cond_false, Option.bind_some]
        exact ⟨_, rfl⟩

theorem dash_lvl {t : Str} (h : lvl t = 4) : t ≠ [45] := fun e => by rw [e] at h; revert h; decide
theorem tgt_dash {n : ApiCodeNote} (h : NVal n) (hne : n.Target ≠ []) : tgt n ≠ [45] := by
  have : tgt n = n.Target := if_neg hne
  rw [this]
  rcases h.target with h1 | h1
  · exact absurd h1 hne
  · exact dash_lvl h1
theorem words_spl {l : List Str} (h : WOk l) : spl 43 (Lib.join l [43]) = l := trm_spl h
theorem parseNote_line {n : ApiCodeNote} (h : NVal n) : parseNote (nline n) = some (n, true) := by
  have hl := nline_len h; have hw := h.words.len
  have fin : parseNote_j1 (nline n) n.Scope n.Words n.Target = some (n, true) := by
    unfold parseNote_j1
    rw [validateNote_eq, Option.bind_some]
    have h0 : noteOk ⟨n.Scope, n.Words, n.Target⟩ = true := h.ok
    rw [h0]
    simp only [if_true, beq_self_eq_true, cond_true]
    rw [noteLine_eq h, Option.bind_some, beq_self_eq_true]
  unfold parseNote
  rw [splitS_eq (by omega), Option.bind_some, spl_nline h]
  unfold nflds
  rw [if_neg (by simp)]
  simp only [List.getElem?_cons_succ, List.getElem?_cons_zero, Option.bind_some]
  rw [splitS_eq (by omega), Option.bind_some, words_spl h.words]
  by_cases ht : n.Target = []
  · have e : tgt n = [45] := if_pos ht
    rw [if_pos (by rw [e]; rfl)]
    rw [ht] at fin; exact fin
  · have e : tgt n = n.Target := if_neg ht
    rw [if_neg (by rw [beq_iff_eq]; exact tgt_dash h ht), e]
    exact fin
theorem parseNote_any {line : Str} (hl : line.length ≤ 1000000) : (∃ n, NVal n ∧ nline n = line ∧ parseNote line = some (n, true)) ∨ ((∀ n, NVal n → nline n ≠ line) ∧ ∃ n, parseNote line = some (n, false)) := by
  by_cases hd : ∃ n, NVal n ∧ nline n = line
  · obtain ⟨n, h1, rfl⟩ := hd
    exact .inl ⟨n, h1, rfl, parseNote_line h1⟩
  right
  refine ⟨fun n h1 h2 => hd ⟨n, h1, h2⟩, ?_⟩
  have hsl := spl_len 32 line
  unfold parseNote
  rw [splitS_eq (by omega), Option.bind_some]
  have hxl : ∀ x, x ∈ spl 32 line → x.length ≤ 1000000 := fun x hx => by have := (hsl.2.1 x hx).1; omega
  generalize spl 32 line = v at hxl
  by_cases h4 : v.length = 4
  · rw [if_neg (by rw [eqI (by omega)]; simp)]
    rw [List.getElem?_eq_getElem (by omega : 1 < v.length), Option.bind_some, List.getElem?_eq_getElem (by omega : 2 < v.length), Option.bind_some, splitS_eq (by have := hxl _ (List.getElem_mem (by omega : 2 < v.length)); omega), Option.bind_some, List.getElem?_eq_getElem (by omega : 3 < v.length), Option.bind_some]
    have fin : ∀ (sc : Str) (ws : List Str) (t : Str), ∃ n, parseNote_j1 line sc ws t = some (n, false) := by
      intro sc ws t
      unfold parseNote_j1
      rw [validateNote_eq, Option.bind_some]
      cases h0 : noteOk ⟨sc, ws, t⟩ with
      | true =>
        have hv := NVal.of h0
        have hne : (nline ⟨sc, ws, t⟩ == line) = false := by rw [beq_eq_false_iff_ne]; exact fun he => hd ⟨_, hv, he⟩
        simp only [if_true, beq_self_eq_true, cond_true]
        rw [noteLine_eq hv, Option.bind_some, hne]
        exact ⟨_, rfl⟩
      | false => exact ⟨_, rfl⟩
    split
    · exact fin _ _ _
    · exact fin _ _ _
  · rw [if_pos (neI (by omega))]
    exact ⟨_, rfl⟩

/-! ### A line of a nomenclature -/
open Classical in
noncomputable def gn (line : Str) : Option ApiCodeNote := if h : ∃ m, NVal m ∧ nline m = line then some (Classical.choose h) else none
open Classical in
noncomputable def ge (line : Str) : Option Ent := if h : ∃ m, EVal m ∧ eline m = line then some (Classical.choose h) else none
theorem nline_inj {m n : ApiCodeNote} (hm : NVal m) (hn : NVal n) (h : nline m = nline n) : m = n := by
  have h1 := parseNote_line hm
  rw [h, parseNote_line hn] at h1
  exact (congrArg Prod.fst (Option.some.inj h1)).symm
theorem eline_inj {m n : Ent} (hm : EVal m) (hn : EVal n) (h : eline m = eline n) : m = n := by
  have h1 := parseEntry_line hm
  rw [h, parseEntry_line hn] at h1
  exact (congrArg Prod.fst (Option.some.inj h1)).symm
theorem gn_some {m : ApiCodeNote} (hm : NVal m) : gn (nline m) = some m := by
  have hex : ∃ n, NVal n ∧ nline n = nline m := ⟨m, hm, rfl⟩
  unfold gn
  rw [dif_pos hex]
  have := Classical.choose_spec hex
  rw [nline_inj this.1 hm this.2]
theorem ge_some {m : Ent} (hm : EVal m) : ge (eline m) = some m := by
  have hex : ∃ n, EVal n ∧ eline n = eline m := ⟨m, hm, rfl⟩
  unfold ge
  rw [dif_pos hex]
  have := Classical.choose_spec hex
  rw [eline_inj this.1 hm this.2]
theorem gn_none {line : Str} (h : ∀ m, NVal m → nline m ≠ line) : gn line = none := by
  unfold gn
  rw [dif_neg (fun ⟨m, h1, h2⟩ => h m h1 h2)]
theorem ge_none {line : Str} (h : ∀ m, EVal m → eline m ≠ line) : ge line = none := by
  unfold ge
  rw [dif_neg (fun ⟨m, h1, h2⟩ => h m h1 h2)]
theorem gn_val {line : Str} {m : ApiCodeNote} (h : gn line = some m) : NVal m := by
  unfold gn at h
  split at h
  · rename_i hex
    cases h
    exact (Classical.choose_spec hex).1
  · cases h
theorem ge_val {line : Str} {m : Ent} (h : ge line = some m) : EVal m := by
  unfold ge at h
  split at h
  · rename_i hex
    cases h
    exact (Classical.choose_spec hex).1
  · cases h
/-- A line more. -/
noncomputable def addB (b : ApiNomenclature) (line : Str) : Option ApiNomenclature :=
  match gn line with
  | some n => some ⟨b.Entries, b.Notes ++ [n]⟩
  | none => match ge line with
    | some e => if b.Notes = [] then some ⟨b.Entries ++ [e], b.Notes⟩ else none
    | none => none
/-- All its lines hold. -/
structure BVal (b : ApiNomenclature) : Prop where
  ents : ∀ e, e ∈ b.Entries → EVal e
  notes : ∀ n, n ∈ b.Notes → NVal n
theorem addB_ok {b b' : ApiNomenclature} {line : Str} (hb : BVal b) (h : addB b line = some b') : BVal b' ∧ b'.Entries.length + b'.Notes.length = b.Entries.length + b.Notes.length + 1 := by
  unfold addB at h
  cases hn : gn line with
  | some n =>
    rw [hn] at h; cases h
    refine ⟨⟨hb.ents, fun x hx => ?_⟩, by simp only [List.length_append, List.length_cons, List.length_nil]; omega⟩
    rcases List.mem_append.1 hx with hx | hx
    · exact hb.notes x hx
    · simp at hx; subst hx; exact gn_val hn
  | none =>
    rw [hn] at h
    cases he : ge line with
    | none => rw [he] at h; cases h
    | some e =>
      rw [he] at h
      dsimp only at h
      split at h
      · cases h
        refine ⟨⟨fun x hx => ?_, hb.notes⟩, by simp only [List.length_append, List.length_cons, List.length_nil]; omega⟩
        rcases List.mem_append.1 hx with hx | hx
        · exact hb.ents x hx
        · simp at hx; subst hx; exact ge_val he
      · cases h
theorem addLine_eq {b : ApiNomenclature} {line : Str} (hb : b.Entries.length + b.Notes.length ≤ 1000000) (hl : line.length ≤ 1000000) : (∃ b', addB b line = some b' ∧ addLine b line = some (true, b')) ∨ (addB b line = none ∧ ∃ b', addLine b line = some (false, b')) := by
  unfold addLine addB
  rcases parseNote_any hl with ⟨n, h1, h2, h3⟩ | ⟨h1, n, h3⟩
  · left
    rw [← h2, gn_some h1, h2, h3, Option.bind_some]
    simp only [if_true]
    rw [if_pos (by simp only [List.length_cons, List.length_nil]; omega)]
    exact ⟨_, rfl, rfl⟩
  · rw [gn_none h1, h3, Option.bind_some]
    simp only [Bool.false_eq_true, if_false]
    rcases parseEntry_any hl with ⟨e, g1, g2, g3⟩ | ⟨g1, e, g3⟩
    · rw [g3, ← g2, ge_some g1, Option.bind_some]
      simp only [Bool.not_true, cond_false]
      by_cases hn : b.Notes = []
      · left
        rw [if_pos hn, if_neg (by rw [hn]; simp), if_pos (by simp only [List.length_cons, List.length_nil]; omega)]
        exact ⟨_, rfl, rfl⟩
      · right
        have := List.length_pos_iff.2 hn
        rw [if_neg hn, if_pos (decide_eq_true (by omega))]
        exact ⟨rfl, _, rfl⟩
    · right
      rw [g3, ge_none g1, Option.bind_some]
      exact ⟨rfl, _, rfl⟩
/-- Lines, one after the other. -/
noncomputable def scanB : List Str → Nat → ApiNomenclature → (ApiNomenclature × Int × Int) ⊕ ApiNomenclature
  | [], _, b => .inr b
  | x :: r, k, b => match addB b x with | none => .inl (⟨[], []⟩, (k : Int), 4) | some b' => scanB r (k + 1) b'
theorem scanB_ok : ∀ (xs : List Str) (k : Nat) (b : ApiNomenclature), BVal b → ∀ r, scanB xs k b = .inr r → BVal r ∧ r.Entries.length + r.Notes.length = b.Entries.length + b.Notes.length + xs.length
  | [], k, b, hb, r, h => by cases h; exact ⟨hb, by simp⟩
  | x :: xs, k, b, hb, r, h => by
    unfold scanB at h
    cases hg : addB b x with
    | none => rw [hg] at h; cases h
    | some b' =>
      rw [hg] at h
      have h1 := addB_ok hb hg
      have := scanB_ok xs (k + 1) b' h1.1 r h
      exact ⟨this.1, by rw [this.2, h1.2]; simp; omega⟩
/-- What a text is read as. -/
noncomputable def readB (s : Str) : ApiNomenclature × Int × Int :=
  match scanB ((spl 10 s).take ((spl 10 s).length - 1)) 0 ⟨[], []⟩ with
  | .inl e => e
  | .inr r => if (spl 10 s).getD ((spl 10 s).length - 1) default = [] then (if nv r = 0 then (r, (((spl 10 s).length - 1 : Nat) : Int), 0) else (⟨[], []⟩, 0, nv r)) else (⟨[], []⟩, (((spl 10 s).length - 1 : Nat) : Int), 4)

theorem nomLoop : ∀ (m : Nat) (s : Str) (k : Nat) (b : ApiNomenclature), s.length ≤ m → s.length ≤ 400000 → k + s.length ≤ 400000 → b.Entries.length + b.Notes.length ≤ k → BVal b →
    loopO nomParse_b1 ((k : Int), s, b.Entries, b.Notes) = some (match scanB ((spl 10 s).take ((spl 10 s).length - 1)) k b with
      | .inl e => .inl e
      | .inr r => if (spl 10 s).getD ((spl 10 s).length - 1) default = [] then .inr (((k + ((spl 10 s).length - 1) : Nat) : Int), r.Entries, r.Notes) else .inl (⟨[], []⟩, ((k + ((spl 10 s).length - 1) : Nat) : Int), 4))
  | m, s, k, b, hm, hs, hk, hb, hv => by
    by_cases he : s = []
    · subst he
      rw [show spl 10 ([] : Str) = [[]] from rfl]
      refine loop_stop ?_
      unfold nomParse_b1
      dsimp only
      rw [if_neg (by simp)]
      rfl
    · have hpos := List.length_pos_iff.2 he
      rcases spl_cases 10 s with hno | ⟨w, r, rfl, hw⟩
      · rw [spl_miss hno]
        refine loop_stop ?_
        unfold nomParse_b1
        dsimp only
        rw [if_pos (by rw [beq_eq_false_iff_ne.2 he]; rfl)]
        unfold cutS
        rw [if_pos (by omega), Option.bind_some, cut_miss hno]
        simp only [Bool.not_false, Bool.not_true, Bool.false_eq_true, if_false, if_true, cond_true]
        simp only [List.length_cons, List.length_nil, Nat.zero_add, Nat.sub_self, List.take_zero, scanB]
        simp only [List.getD_cons_zero, he, if_false, Nat.add_zero]
      · have hlen : (w ++ 10 :: r).length = w.length + r.length + 1 := by simp; omega
        rw [hlen] at hs hm hk
        have hsn := spl_ne 10 r
        have hsp := List.length_pos_iff.2 hsn
        rw [spl_at hw]
        have e1 : (w :: spl 10 r).length - 1 = ((spl 10 r).length - 1) + 1 := by simp only [List.length_cons]; omega
        rw [e1, List.take_succ_cons, List.getD_cons_succ]
        unfold scanB
        have hbody : nomParse_b1 ((k : Int), w ++ 10 :: r, b.Entries, b.Notes) = (addLine b w).bind fun v7 => if (bif (!true) then true else (!v7.1)) = true then some (.inr (.inl ((⟨[], []⟩ : ApiNomenclature), (k : Int), (4 : Int)))) else some (.inl ((IntKind.i64.wrap ((k : Int) + (1 : Int))), r, v7.2.Entries, v7.2.Notes)) := by
          unfold nomParse_b1
          dsimp only
          rw [if_pos (by rw [beq_eq_false_iff_ne.2 he]; rfl)]
          unfold cutS
          rw [if_pos (by omega), Option.bind_some, cut_at hw]
          rfl
        rcases addLine_eq (b := b) (line := w) (by omega) (by omega) with ⟨b', h1, h2⟩ | ⟨h1, b', h2⟩
        · rw [h2, Option.bind_some] at hbody
          simp only [Bool.not_true, cond_false, Bool.false_eq_true, if_false] at hbody
          rw [w64 (by omega)] at hbody
          rw [h1]
          dsimp only
          have hb2 := addB_ok hv h1
          rw [loop_step (x := (((k + 1 : Nat) : Int), r, b'.Entries, b'.Notes)) hbody, nomLoop (m - 1) r (k + 1) b' (by omega) (by omega) (by omega) (by omega) hb2.1]
          rw [show k + 1 + ((spl 10 r).length - 1) = k + ((spl 10 r).length - 1 + 1) by omega]
        · rw [h2, Option.bind_some] at hbody
          rw [h1]
          exact loop_stop hbody
termination_by m => m
decreasing_by omega
theorem nomParse_eq {s : Str} (h : s.length ≤ 400000) : nomParse s = some (readB s) := by
  unfold nomParse readB
  have hloop := nomLoop s.length s 0 ⟨[], []⟩ (Nat.le_refl _) h (by omega) (by simp) ⟨fun e he => by (simp only at he; cases he), fun e he => by (simp only at he; cases he)⟩
  rw [show (((0 : Nat) : Int)) = (0 : Int) from rfl] at hloop
  rw [hloop, Option.bind_some]
  cases hs : scanB ((spl 10 s).take ((spl 10 s).length - 1)) 0 ⟨[], []⟩ with
  | inl e => rfl
  | inr r =>
    dsimp only
    by_cases he : (spl 10 s).getD ((spl 10 s).length - 1) default = []
    · rw [if_pos he, if_pos he]
      show nomParse_j1 _ r.Entries r.Notes = _
      unfold nomParse_j1
      rw [nomValidate_eq, Option.bind_some]
      show (if (nv r != 0) = true then _ else _) = _
      by_cases hm : nv r = 0
      · rw [if_neg (by rw [eqI hm]; simp), if_pos hm, Nat.zero_add]
      · rw [if_pos (neI hm), if_neg hm]
    · rw [if_neg he, if_neg he, Nat.zero_add]
end Go.C
