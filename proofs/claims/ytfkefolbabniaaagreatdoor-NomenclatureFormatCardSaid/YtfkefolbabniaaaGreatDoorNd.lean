/- Plain laws of chapter 9: a nomenclature that is made holds. No program in sight. -/
import Derived.Test.YtfkefolbabniaaaGreatDoorNc
set_option linter.unusedVariables false
set_option linter.unusedSimpArgs false
namespace Go.C
open Go.V

theorem bl_ext : ∀ (p : Str) {s : Str}, s ≠ [] → Op.bytesLess p (p ++ s) = true
  | [], c :: s, _ => rfl
  | [], [], h => absurd rfl h
  | x :: p, s, h => by simp [Op.bytesLess, UInt8.lt_irrefl, bl_ext p h]
theorem bl_diff {a b : UInt8} (hab : a < b) (u v : Str) : ∀ p : Str, Op.bytesLess (p ++ a :: u) (p ++ b :: v) = true
  | [] => by simp [Op.bytesLess, hab]
  | x :: p => by simp [Op.bytesLess, UInt8.lt_irrefl, bl_diff hab u v p]
theorem bl_asymm {a b : Str} (h : Op.bytesLess a b = true) : Op.bytesLess b a = false ∧ a ≠ b := by
  have := bl_total a b
  rw [h] at this
  refine ⟨by simpa using this.symm, fun e => ?_⟩
  rw [e, bl_irrefl] at h; cases h

theorem digit_lt {i j : Nat} (h : i < j) (hj : j < 3) : UInt8.ofNat (49 + i) < UInt8.ofNat (49 + j) := by
  have : (i = 0 ∧ j = 1) ∨ (i = 0 ∧ j = 2) ∨ (i = 1 ∧ j = 2) := by omega
  rcases this with ⟨rfl, rfl⟩ | ⟨rfl, rfl⟩ | ⟨rfl, rfl⟩ <;> decide
theorem child_len (code : Str) (i : Nat) : (child code i).length = code.length + 2 := by simp [child]
theorem child_not {code c : Str} {i j : Nat} (hi : i < 3) (hj : j < 3) (h1 : child code i <+: c) (h2 : child code j <+: c) : i = j := by
  have h3 : child code i = child code j := by
    obtain ⟨s, rfl⟩ := h1
    obtain ⟨t, ht⟩ := h2
    have := congrArg (List.take (code.length + 2)) ht
    rw [List.take_append_of_le_length (by rw [child_len]; omega), List.take_append_of_le_length (by rw [child_len]; omega), List.take_of_length_le (by rw [child_len]; omega), List.take_of_length_le (by rw [child_len]; omega)] at this
    exact this.symm
  unfold child at h3
  have := List.append_cancel_left h3
  simp at this
  have e1 : i = 0 ∨ i = 1 ∨ i = 2 := by omega
  have e2 : j = 0 ∨ j = 1 ∨ j = 2 := by omega
  rcases e1 with rfl | rfl | rfl <;> rcases e2 with rfl | rfl | rfl <;> first | rfl | (revert this; decide)
theorem child_pre (code : Str) (i : Nat) : code <+: child code i := List.prefix_append _ _

theorem Vers.mem {code : Str} {T : Int} {vs : List Ent} (h : Vers code T vs) : ∀ e, e ∈ vs → EOk code e ∧ e.To ≤ T := by
  intro e he
  rcases h with ⟨x, rfl, h1, h2, h3⟩ | ⟨y, x, rfl, h1, h2, h3, h4, h5, h6⟩
  · simp at he; subst he; exact ⟨h1, by omega⟩
  · simp at he
    have := h2.days
    rcases he with rfl | rfl
    · exact ⟨h1, by omega⟩
    · exact ⟨h2, by omega⟩
theorem Made.mem : ∀ {n : Nat} {code : Str} {stop : Int} {out : List Ent}, Made n code stop out → ∀ e, e ∈ out → code <+: e.Code ∧ EOk e.Code e ∧ e.To ≤ stop
  | 0, _, _, _, h => h.elim
  | n + 1, code, stop, out, h => by
    obtain ⟨T, vs, ks, hv, hT, rfl, hk, hk8, hm⟩ := h
    intro e he
    rcases List.mem_append.1 he with he | he
    · obtain ⟨h1, h2⟩ := hv.mem e he
      rw [h1.code]
      exact ⟨List.prefix_rfl, h1, by omega⟩
    · obtain ⟨k, hk1, hk2⟩ := List.mem_flatten.1 he
      obtain ⟨i, hi, rfl⟩ := List.getElem_of_mem hk1
      obtain ⟨h1, h2, h3⟩ := (hm i _ (List.getElem?_eq_getElem hi)).mem e hk2
      exact ⟨(child_pre code i).trans h1, h2, by omega⟩

/-- The order of entries. -/
def Ord (y x : Ent) : Prop := Op.bytesLess y.Code x.Code = true ∨ (y.Code = x.Code ∧ y.From < x.From ∧ y.To ≤ x.From)
theorem Ord.zero {y x : Ent} (h : Ord y x) : ordE y x = 0 := by
  unfold ordE
  rcases h with h | ⟨h1, h2, h3⟩
  · obtain ⟨h1, h2⟩ := bl_asymm h
    have h3 : ¬ x.Code = y.Code := fun e => h2 e.symm
    simp [h1, h3]
  · have e1 : ¬ x.From ≤ y.From := by omega
    have e2 : ¬ x.From < y.To := by omega
    simp [h1, bl_irrefl, e1, e2]
theorem Vers.pw {code : Str} {T : Int} {vs : List Ent} (h : Vers code T vs) : vs.Pairwise Ord := by
  rcases h with ⟨x, rfl, _⟩ | ⟨y, x, rfl, h1, h2, h3, h4, h5, h6⟩
  · simp
  · simp only [List.pairwise_cons, List.mem_singleton, forall_eq, List.not_mem_nil, false_implies, implies_true, List.Pairwise.nil, and_true]
    exact .inr ⟨by rw [h1.code, h2.code], by omega, by omega⟩
theorem Made.pw : ∀ {n : Nat} {code : Str} {stop : Int} {out : List Ent}, Made n code stop out → out.Pairwise Ord
  | 0, _, _, _, h => h.elim
  | n + 1, code, stop, out, h => by
    obtain ⟨T, vs, ks, hv, hT, rfl, hk, hk8, hm⟩ := h
    rw [List.pairwise_append]
    refine ⟨hv.pw, ?_, fun y hy x hx => ?_⟩
    · rw [List.pairwise_flatten]
      refine ⟨fun k hk1 => ?_, ?_⟩
      · obtain ⟨i, hi, rfl⟩ := List.getElem_of_mem hk1
        exact (hm i _ (List.getElem?_eq_getElem hi)).pw
      · rw [List.pairwise_iff_getElem]
        intro i j hi hj hij y hy x hx
        obtain ⟨⟨s, h1⟩, _, _⟩ := (hm i _ (List.getElem?_eq_getElem hi)).mem y hy
        obtain ⟨⟨t, h2⟩, _, _⟩ := (hm j _ (List.getElem?_eq_getElem hj)).mem x hx
        refine .inl ?_
        have := bl_diff (digit_lt hij (by omega)) s t (code ++ [48])
        rw [← h1, ← h2]
        simpa [child] using this
    · have h1 := (hv.mem y hy).1
      obtain ⟨k, hk1, hk2⟩ := List.mem_flatten.1 hx
      obtain ⟨i, hi, rfl⟩ := List.getElem_of_mem hk1
      obtain ⟨⟨s, h2⟩, _, _⟩ := (hm i _ (List.getElem?_eq_getElem hi)).mem x hk2
      refine .inl ?_
      rw [h1.code, ← h2]
      have := bl_ext code (s := [48, UInt8.ofNat (49 + i)] ++ s) (by simp)
      simpa [child] using this

theorem cov_append (A B : List Ent) (c : Str) (d : Int) : cov (A ++ B) c d = cov B c (cov A c d) := by unfold cov; rw [List.foldl_append]
theorem cov_none {A : List Ent} {c : Str} : ∀ {d : Int}, (∀ e, e ∈ A → e.Code ≠ c) → cov A c d = d := by
  induction A with
  | nil => intro d _; rfl
  | cons a A ih =>
    intro d h
    show cov A c (if a.Code = c ∧ a.From ≤ d ∧ d < a.To then a.To else d) = d
    rw [if_neg (fun hh => h a (by simp) hh.1)]
    exact ih (fun e he => h e (by simp [he]))
theorem cov_vers {code : Str} {T : Int} {vs : List Ent} (h : Vers code T vs) {d : Int} (h0 : 0 ≤ d) (h1 : d < T) : cov vs code d = T := by
  rcases h with ⟨x, rfl, k1, k2, k3⟩ | ⟨y, x, rfl, k1, k2, k3, k4, k5, k6⟩
  · show (if x.Code = code ∧ x.From ≤ d ∧ d < x.To then x.To else d) = T
    rw [if_pos ⟨k1.code, by omega, by omega⟩]; omega
  · have := k2.days
    show (if x.Code = code ∧ x.From ≤ (if y.Code = code ∧ y.From ≤ d ∧ d < y.To then y.To else d) ∧ (if y.Code = code ∧ y.From ≤ d ∧ d < y.To then y.To else d) < x.To then x.To else (if y.Code = code ∧ y.From ≤ d ∧ d < y.To then y.To else d)) = T
    by_cases c : d < 10
    · rw [if_pos (⟨k1.code, by omega, by omega⟩ : y.Code = code ∧ y.From ≤ d ∧ d < y.To), if_pos ⟨k2.code, by omega, by omega⟩]; omega
    · rw [if_neg (fun (hh : y.Code = code ∧ y.From ≤ d ∧ d < y.To) => by omega), if_pos ⟨k2.code, by omega, by omega⟩]; omega

def NP (p : Str) (A : List Ent) : Prop := ∀ e, e ∈ A → ¬ p <+: e.Code
theorem NP.ne {p : Str} {A : List Ent} (h : NP p A) : ∀ e, e ∈ A → e.Code ≠ p := fun e he hh => h e he (by rw [hh]; exact List.prefix_rfl)
theorem flat_split {ks : List (List Ent)} {i : Nat} (hi : i < ks.length) : ks.flatten = (ks.take i).flatten ++ (ks[i] ++ (ks.drop (i + 1)).flatten) := by
  conv => lhs; rw [← List.take_append_drop i ks]
  rw [List.flatten_append, List.drop_eq_getElem_cons hi, List.flatten_cons]
theorem Made.cov : ∀ {n : Nat} {code : Str} {stop : Int} {out : List Ent}, Made n code stop out → ∀ A B : List Ent, NP code A → NP code B → ∀ e, e ∈ out → e.Code ≠ code → e.To ≤ cov (A ++ (out ++ B)) (parent e.Code) e.From
  | 0, _, _, _, h => h.elim
  | n + 1, code, stop, out, h => by
    obtain ⟨T, vs, ks, hv, hT, rfl, hk, hk8, hm⟩ := h
    intro A B hA hB e he hne
    rcases List.mem_append.1 he with he | he
    · exact absurd (hv.mem e he).1.code hne
    obtain ⟨k, hk1, hk2⟩ := List.mem_flatten.1 he
    obtain ⟨i, hi, rfl⟩ := List.getElem_of_mem hk1
    have hmi := hm i _ (List.getElem?_eq_getElem hi)
    obtain ⟨h1, h2, h3⟩ := hmi.mem e hk2
    have hd := h2.days
    have hks : ∀ x, x ∈ ks.flatten → x.Code ≠ code := fun x hx hh => by
      obtain ⟨k', hx1, hx2⟩ := List.mem_flatten.1 hx
      obtain ⟨j, hj, rfl⟩ := List.getElem_of_mem hx1
      obtain ⟨⟨s, g1⟩, _, _⟩ := (hm j _ (List.getElem?_eq_getElem hj)).mem x hx2
      have := congrArg List.length g1
      rw [List.length_append, child_len, hh] at this
      omega
    by_cases hc : e.Code = child code i
    · have hp : parent e.Code = code := by
        unfold parent
        rw [hc, child_len, show code.length + 2 - 2 = code.length by omega]
        unfold child
        rw [List.take_append_of_le_length (Nat.le_refl _), List.take_length]
      rw [hp, cov_append, cov_append, cov_append, cov_none hA.ne, cov_vers hv (by omega) (by omega), cov_none hks, cov_none hB.ne]
      omega
    · have := hmi.cov (A ++ (vs ++ (ks.take i).flatten)) ((ks.drop (i + 1)).flatten ++ B) (fun x hx hh => ?_) (fun x hx hh => ?_) e hk2 hc
      · rw [flat_split hi]
        simpa [List.append_assoc] using this
      · rcases List.mem_append.1 hx with hx | hx
        · exact hA x hx ((child_pre code i).trans hh)
        · rcases List.mem_append.1 hx with hx | hx
          · rw [(hv.mem x hx).1.code] at hh
            have := hh.length_le
            rw [child_len] at this; omega
          · obtain ⟨k', hx1, hx2⟩ := List.mem_flatten.1 hx
            obtain ⟨j, hj, rfl⟩ := List.getElem_of_mem hx1
            have hj' := hj
            rw [List.length_take] at hj'
            rw [List.getElem_take] at hx2
            obtain ⟨g1, _, _⟩ := (hm j _ (List.getElem?_eq_getElem (by omega))).mem x hx2
            have := child_not (by omega) (by omega) g1 hh
            omega
      · rcases List.mem_append.1 hx with hx | hx
        · obtain ⟨k', hx1, hx2⟩ := List.mem_flatten.1 hx
          obtain ⟨j, hj, rfl⟩ := List.getElem_of_mem hx1
          have hj' := hj
          rw [List.length_drop] at hj'
          rw [List.getElem_drop] at hx2
          obtain ⟨g1, _, _⟩ := (hm (i + 1 + j) _ (List.getElem?_eq_getElem (by omega))).mem x hx2
          have := child_not (by omega) (by omega) g1 hh
          omega
        · exact hB x hx ((child_pre code i).trans hh)

theorem getD_get {α : Type} [Inhabited α] {l : List α} {i : Nat} (h : i < l.length) : l.getD i default = l[i] := by rw [List.getD_eq_getElem?_getD, List.getElem?_eq_getElem h]; rfl

/-- A nomenclature that was made. -/
structure NMade (b : ApiNomenclature) : Prop where
  ents : ∃ x y, b.Entries = x ++ y ∧ Made 6 [57, 52] 36525 x ∧ Made 5 [57, 53] 36525 y
  notes : b.Notes.length ≤ 3 ∧ ∀ n, n ∈ b.Notes → noteOk n = true ∧ Asc n.Words ∧ n.Words ≠ [] ∧ n.Words.length ≤ 2 ∧ n.Scope.length ≤ 8 ∧ n.Target.length ≤ 8
theorem NMade.mem {b : ApiNomenclature} (h : NMade b) : ∀ e, e ∈ b.Entries → EOk e.Code e ∧ ([57, 52] <+: e.Code ∨ [57, 53] <+: e.Code) := fun e he => by
  obtain ⟨x, y, hxy, hx, hy⟩ := h.ents
  rw [hxy] at he
  rcases List.mem_append.1 he with he | he
  · have := hx.mem e he; exact ⟨this.2.1, .inl this.1⟩
  · have := hy.mem e he; exact ⟨this.2.1, .inr this.1⟩
theorem NMade.len {b : ApiNomenclature} (h : NMade b) : b.Entries.length ≤ 160 ∧ 0 < b.Entries.length := by
  obtain ⟨x, y, hxy, hx, hy⟩ := h.ents
  have h1 := hx.len2 (.inl rfl); have h2 := hy.len2 (.inl rfl)
  have e : maxL ((10 - ([57, 52] : Str).length) / 2) = 80 := by decide
  have e' : maxL ((10 - ([57, 53] : Str).length) / 2) = 80 := by decide
  rw [e] at h1
  rw [e'] at h2
  refine ⟨by rw [hxy, List.length_append]; omega, ?_⟩
  obtain ⟨T, vs, ks, hv, _, rfl, _, _, _⟩ := hx
  rw [hxy]
  rcases hv with ⟨x, rfl, _⟩ | ⟨y, x, rfl, _⟩ <;> (simp only [List.length_append, List.length_cons]; omega)
theorem NMade.pw {b : ApiNomenclature} (h : NMade b) : b.Entries.Pairwise Ord := by
  obtain ⟨x, y, hxy, hx, hy⟩ := h.ents
  rw [hxy, List.pairwise_append]
  refine ⟨hx.pw, hy.pw, fun a ha c hc => ?_⟩
  obtain ⟨s, h1⟩ := (hx.mem a ha).1
  obtain ⟨t, h2⟩ := (hy.mem c hc).1
  refine .inl ?_
  rw [← h1, ← h2]
  exact bl_diff (a := 52) (b := 53) (by decide) s t [57]

theorem NMade.nv {b : ApiNomenclature} (h : NMade b) : nv b = 0 := by
  have hl := h.len
  have hn := h.notes
  have hpw := List.pairwise_iff_getElem.1 h.pw
  have e1 : ferr b.Entries.length (entErr b.Entries) = 0 := ferr_zero.2 fun i hi => by
    unfold entErr
    rw [getD_get hi, (h.mem _ (List.getElem_mem hi)).1.one, if_pos rfl]
    by_cases h0 : i = 0
    · rw [if_pos h0]
    · rw [if_neg h0, getD_get (by omega)]
      exact (hpw (i - 1) i (by omega) hi (by omega)).zero
  have e2 : ferr b.Entries.length (parErr b.Entries) = 0 := ferr_zero.2 fun i hi => by
    unfold parErr
    rw [getD_get hi, if_pos]
    unfold parOk
    by_cases h2 : b.Entries[i].Code.length = 2
    · simp [h2]
    · simp only [h2, decide_false, Bool.false_or, decide_eq_true_eq]
      obtain ⟨x, y, hxy, hx, hy⟩ := h.ents
      have hm := List.getElem_mem hi
      have n1 : NP [57, 52] y := fun e he hp => by
        have := (hy.mem e he).1
        obtain ⟨s, h1⟩ := hp; obtain ⟨t, h2⟩ := this
        rw [← h2] at h1; simp at h1
      have n2 : NP [57, 53] x := fun e he hp => by
        have := (hx.mem e he).1
        obtain ⟨s, h1⟩ := hp; obtain ⟨t, h2⟩ := this
        rw [← h2] at h1; simp at h1
      generalize b.Entries[i] = e at hm h2 ⊢
      rw [hxy] at hm
      rcases List.mem_append.1 hm with hm | hm
      · have := hx.cov [] y (fun e he => by cases he) n1 _ hm (fun e => h2 (by rw [e]; rfl))
        rw [List.nil_append, ← hxy] at this; exact this
      · have := hy.cov x [] n2 (fun e he => by cases he) _ hm (fun e => h2 (by rw [e]; rfl))
        rw [List.append_nil, ← hxy] at this; exact this
  have e3 : ferr b.Notes.length (notErr b.Notes) = 0 := ferr_zero.2 fun i hi => by
    unfold notErr
    rw [getD_get hi, if_pos (hn.2 _ (List.getElem_mem hi)).1]
  unfold C.nv
  rw [if_neg (by omega), e1, if_neg (by simp), e2, if_neg (by simp), e3]

theorem asc_ok {l : List Str} (h : Asc l) (hl : l.length ≤ 1000) : l.length ≤ 9223372036854775807 ∧ ∀ x, x ∈ l → x.length ≤ 9223372036854775807 := ⟨by omega, fun x hx => by
  have := h.2 x hx
  unfold isW at this
  simp only [Bool.and_eq_true, decide_eq_true_eq] at this
  omega⟩
theorem EOk.ok {c : Str} {e : Ent} (h : EOk c e) : okApiCodeEntry e := by
  have h1 := oneE_len h.one
  have h2 := h.days
  refine ⟨by omega, by unfold okI_i64; omega, by unfold okI_i64; omega, by have := h.terms.1; omega, fun t ht => ?_⟩
  obtain ⟨a1, a2, a3⟩ := h.terms.2 t ht
  exact asc_ok a1 (by omega)
theorem NMade.ok {b : ApiNomenclature} (h : NMade b) : okApiNomenclature b := by
  have hl := h.len
  refine ⟨⟨by omega, fun e he => (h.mem e he).1.ok⟩, by have := h.notes.1; omega, fun n hn => ?_⟩
  obtain ⟨a1, a2, a3, a4, a5, a6⟩ := h.notes.2 n hn
  exact ⟨by omega, asc_ok a2 (by omega), by omega⟩

theorem madeNom_ok (l : List Int) : ∃ b, madeNom l = some b ∧ NMade b := by
  unfold madeNom
  obtain ⟨v, e0, hv⟩ := cut_ok l 300 (by omega)
  rw [show (300 : Int) = ((300 : Nat) : Int) from rfl, e0, Option.bind_some]
  obtain ⟨r, s1, e1, b1, b2, k1⟩ := next_ok (s := ⟨v, 0⟩) (n := 4) ⟨by simp only; omega, by simp only; omega, by simp only; omega⟩ (by omega) (by omega)
  rw [e1, Option.bind_some]
  obtain ⟨m, rfl⟩ : ∃ m : Nat, r = (m : Int) := ⟨r.toNat, by omega⟩
  obtain ⟨⟨L, I, ns⟩, er, hn1, hn2, hso⟩ := loop_inv (f := madeNom_b1) (fun q x => ∃ k : Nat, q = k ∧ k ≤ m ∧ x.1 = (k : Int) ∧ x.2.2.2.length = m - k ∧ (∀ n, n ∈ x.2.2.2 → noteOk n = true ∧ Asc n.Words ∧ n.Words ≠ [] ∧ n.Words.length ≤ 2 ∧ n.Scope.length ≤ 8 ∧ n.Target.length ≤ 8) ∧ SOk ⟨x.2.1, x.2.2.1⟩)
    (fun r => r.2.2.length ≤ 3 ∧ (∀ n, n ∈ r.2.2 → noteOk n = true ∧ Asc n.Words ∧ n.Words ≠ [] ∧ n.Words.length ≤ 2 ∧ n.Scope.length ≤ 8 ∧ n.Target.length ≤ 8) ∧ SOk ⟨r.1, r.2.1⟩) (by
    rintro q ⟨i, cL, cI, ns⟩ ⟨k, rfl, hk, hi, hl, hns, hso⟩
    simp only at hi hl hns hso
    subst hi
    unfold madeNom_b1
    dsimp only
    by_cases hpos : 0 < q
    · refine .inl ?_
      rw [if_pos (by simp only [decide_eq_true_eq]; omega)]
      obtain ⟨r5, s2, e2, c1, c2, k2⟩ := next_ok (n := 5) hso (by omega) (by omega)
      rw [e2, Option.bind_some, if_pos c1]
      have hsc : ∃ sc, ([([57, 52] : Str), ([57, 53] : Str), ([57, 52, 48, 49] : Str), ([57, 52, 48, 50] : Str), ([57, 52, 48, 49, 48, 49] : Str)][r5.toNat]?) = some sc ∧ lvl sc ≠ 0 ∧ sc.length ≤ 8 := by
        have : r5 = 0 ∨ r5 = 1 ∨ r5 = 2 ∨ r5 = 3 ∨ r5 = 4 := by omega
        rcases this with rfl | rfl | rfl | rfl | rfl <;> exact ⟨_, rfl, by decide, by decide⟩
      obtain ⟨sc, e3, hsc1, hsc2⟩ := hsc
      dsimp only
      rw [e3, Option.bind_some]
      obtain ⟨ws, s3, e4, w1, w2, w3, k3⟩ := words_ok k2 2 (by omega) (by omega)
      rw [show (2 : Int) = ((2 : Nat) : Int) from rfl, e4, Option.bind_some]
      obtain ⟨r2, s4, e5, d1, d2, k4⟩ := next_ok (n := ((2 : Nat) : Int)) k3 (by omega) (by omega)
      dsimp only
      rw [e5, Option.bind_some]
      have fin : ∀ (L : List Int) (I : Int) (t : Str), SOk ⟨L, I⟩ → (t = [] ∨ lvl t = 4) → t.length ≤ 8 → ∃ s' m', m' < q ∧ madeNom_j2 (q : Int) sc (ws, s3) L I ns t = some (.inl s') ∧ ∃ k' : Nat, m' = k' ∧ k' ≤ m ∧ s'.1 = (k' : Int) ∧ s'.2.2.2.length = m - k' ∧ (∀ n, n ∈ s'.2.2.2 → noteOk n = true ∧ Asc n.Words ∧ n.Words ≠ [] ∧ n.Words.length ≤ 2 ∧ n.Scope.length ≤ 8 ∧ n.Target.length ≤ 8) ∧ SOk ⟨s'.2.1, s'.2.2.1⟩ := fun L I t hLI ht htl => by
        unfold madeNom_j2
        rw [if_pos (by simp; omega), w64 (n := (q : Int) - 1) (by omega)]
        refine ⟨_, q - 1, by omega, rfl, q - 1, rfl, by omega, by simp only; omega, by simp; omega, fun n hn => ?_, hLI⟩
        rcases List.mem_append.1 hn with h | h
        · exact hns n h
        · simp at h; subst h
          refine ⟨?_, w1, w2, w3, hsc2, htl⟩
          unfold noteOk
          rw [w1.some1 w2 (by omega)]
          rcases ht with h | h <;> simp [hsc1, h]
      split
      · obtain ⟨r3, s5, e6, f1, f2, k5⟩ := next_ok (n := 3) k4 (by omega) (by omega)
        rw [e6, Option.bind_some, if_pos f1]
        have htg : ∃ tg, ([([57, 52, 48, 49] : Str), ([57, 52, 48, 50] : Str), ([57, 53, 48, 49] : Str)][r3.toNat]?) = some tg ∧ lvl tg = 4 ∧ tg.length ≤ 8 := by
          have : r3 = 0 ∨ r3 = 1 ∨ r3 = 2 := by omega
          rcases this with rfl | rfl | rfl <;> exact ⟨_, rfl, by decide, by decide⟩
        obtain ⟨tg, e7, htg1, htg2⟩ := htg
        dsimp only
        rw [e7, Option.bind_some]
        exact fin _ _ _ k5 (.inr htg1) htg2
      · exact fin _ _ _ k4 (.inl rfl) (by simp)
    · refine .inr ?_
      rw [if_neg (by simp only [decide_eq_true_eq]; omega)]
      exact ⟨_, rfl, by simp only; omega, hns, hso⟩) m ((m : Int), s1.L, s1.I, []) ⟨m, rfl, by omega, rfl, by simp, fun n hn => by simp at hn, k1⟩
  rw [er, Option.bind_some]
  simp only at hn1 hn2 hso
  dsimp only
  unfold madeNom_j1
  obtain ⟨x, s2, e2, k2, hx⟩ := entry_F (code := [57, 52]) ⟨by decide, .inl rfl⟩ (n := 5) (F := srcEntry) (fun h8 s i T hi hs h0 h1 => by
    have hc : Cd (child [57, 52] i) := Cd.child ⟨by decide, .inl rfl⟩ (by decide) hi
    obtain ⟨o, s', e, k, hm⟩ := entry_n 4 hc (by omega) (by rw [child_len]; decide) hs h0 h1
    refine ⟨o, s', e, k, hm, ?_⟩
    have := hm.len2 (.inr (.inl (by rw [child_len]; rfl)))
    rw [child_len] at this
    have e : maxL ((10 - (([57, 52] : Str).length + 2)) / 2) = 26 := by decide
    omega) hso (stop := 36525) (by omega) (by omega)
  rw [entryR_eq, e2, Option.bind_some]
  obtain ⟨y, s3, e3, k3, hy⟩ := entry_ok (code := [57, 53]) ⟨by decide, .inl rfl⟩ rfl k2
  dsimp only
  rw [e3, Option.bind_some]
  have l1 := hx.len2 (.inl rfl); have l2 := hy.len2 (.inl rfl)
  have e4 : maxL ((10 - ([57, 52] : Str).length) / 2) = 80 := by decide
  have e5 : maxL ((10 - ([57, 53] : Str).length) / 2) = 80 := by decide
  rw [if_pos (by simp only; omega)]
  exact ⟨_, rfl, ⟨x, y, rfl, hx, hy⟩, hn1, hn2⟩

end Go.C
