/- Packed by pack.py. -/
import Derived.Test.YtaeplfiaahkgpaaGreatDoorQu9
noncomputable section zWb
section
set_option linter.unusedVariables false
set_option linter.unusedSimpArgs false
namespace Go.C
open Go.V
theorem bl_ext : ∀ (p : Str) {s : Str}, s ≠ [] → Op.bytesLess p (p ++ s) = true
 | [], c :: s, _ => rfl
 | [], [], h => absurd rfl h
 | x :: p, s, h => by simp [Op.bytesLess, UInt8.lt_irrefl, bl_ext p h]
theorem bl_diff {a b : UInt8} (hab : a < b) (u v : Str) : ∀ p : Str, Op.bytesLess (p ++ a :: u) (p ++ b :: v) = true
 | [] => by simp [Op.bytesLess, hab]
 | x :: p => by simp [Op.bytesLess, UInt8.lt_irrefl, bl_diff hab u v p]
theorem bl_asymm {a b : Str} (h : Op.bytesLess a b = true) : Op.bytesLess b a = false ∧ a ≠ b := by
 have := bl_total a b
 rw [h] at this
 refine ⟨by simpa using this.symm, fun e => ?_⟩
 rw [e, bl_irrefl] at h; cases h
theorem digit_lt {i j : Nat} (h : i < j) (hj : j < 3) : UInt8.ofNat (49 + i) < UInt8.ofNat (49 + j) := by
 have : (i = 0 ∧ j = 1) ∨ (i = 0 ∧ j = 2) ∨ (i = 1 ∧ j = 2) := by omega
 rcases this with ⟨rfl, rfl⟩ | ⟨rfl, rfl⟩ | ⟨rfl, rfl⟩ <;> decide
theorem child_len (code : Str) (i : Nat) : (child code i).length = code.length + 2 := by simp [child]
theorem child_not {code c : Str} {i j : Nat} (hi : i < 3) (hj : j < 3) (h1 : child code i <+: c) (h2 : child code j <+: c) : i = j := by
 have h3 : child code i = child code j := by
  obtain ⟨s, rfl⟩ := h1
  obtain ⟨t, ht⟩ := h2
  have := congrArg (List.take (code.length + 2)) ht
  rw [List.take_append_of_le_length (by rw [child_len]; omega), List.take_append_of_le_length (by rw [child_len]; omega), List.take_of_length_le (by rw [child_len]; omega), List.take_of_length_le (by rw [child_len]; omega)] at this
  exact this.symm
 unfold child at h3
 have := List.append_cancel_left h3
 simp at this
 have e1 : i = 0 ∨ i = 1 ∨ i = 2 := by omega
 have e2 : j = 0 ∨ j = 1 ∨ j = 2 := by omega
 rcases e1 with rfl | rfl | rfl <;> rcases e2 with rfl | rfl | rfl <;> first | rfl | (revert this; decide)
theorem child_pre (code : Str) (i : Nat) : code <+: child code i := List.prefix_append _ _
theorem Vers.mem {code : Str} {T : Int} {vs : List Ent} (h : Vers code T vs) : ∀ e, e ∈ vs → EOk code e ∧ e.To ≤ T := by
 intro e he
 rcases h with ⟨x, rfl, h1, h2, h3⟩ | ⟨y, x, rfl, h1, h2, h3, h4, h5, h6⟩
 ·simp at he; subst he; exact ⟨h1, by omega⟩
 ·simp at he
  have := h2.days
  rcases he with rfl | rfl
  ·exact ⟨h1, by omega⟩
  ·exact ⟨h2, by omega⟩
theorem Made.mem : ∀ {n : Nat} {code : Str} {stop : Int} {out : List Ent}, Made n code stop out → ∀ e, e ∈ out → code <+: e.Code ∧ EOk e.Code e ∧ e.To ≤ stop
 | 0, _, _, _, h => h.elim
 | n + 1, code, stop, out, h => by
  obtain ⟨T, vs, ks, hv, hT, rfl, hk, hk8, hm⟩ := h
  intro e he
  rcases List.mem_append.1 he with he | he
  ·obtain ⟨h1, h2⟩ := hv.mem e he
   rw [h1.code]
   exact ⟨List.prefix_rfl, h1, by omega⟩
  ·obtain ⟨k, hk1, hk2⟩ := List.mem_flatten.1 he
   obtain ⟨i, hi, rfl⟩ := List.getElem_of_mem hk1
   obtain ⟨h1, h2, h3⟩ := (hm i _ (geq hi)).mem e hk2
   exact ⟨(child_pre code i).trans h1, h2, by omega⟩
def Ord (y x : Ent) : Prop := Op.bytesLess y.Code x.Code = true ∨ (y.Code = x.Code ∧ y.From < x.From ∧ y.To ≤ x.From)
theorem Ord.zero {y x : Ent} (h : Ord y x) : ordE y x = 0 := by
 unfold ordE
 rcases h with h | ⟨h1, h2, h3⟩
 ·obtain ⟨h1, h2⟩ := bl_asymm h
  have h3 : ¬ x.Code = y.Code := fun e => h2 e.symm
  simp [h1, h3]
 ·have e1 : ¬ x.From ≤ y.From := by omega
  have e2 : ¬ x.From < y.To := by omega
  simp [h1, bl_irrefl, e1, e2]
theorem Vers.pw {code : Str} {T : Int} {vs : List Ent} (h : Vers code T vs) : vs.Pairwise Ord := by
 rcases h with ⟨x, rfl, _⟩ | ⟨y, x, rfl, h1, h2, h3, h4, h5, h6⟩
 ·simp
 ·simp only [List.pairwise_cons, List.mem_singleton, forall_eq, List.not_mem_nil, false_implies, implies_true, List.Pairwise.nil, and_true]
  exact .inr ⟨by rw [h1.code, h2.code], by omega, by omega⟩
theorem Made.pw : ∀ {n : Nat} {code : Str} {stop : Int} {out : List Ent}, Made n code stop out → out.Pairwise Ord
 | 0, _, _, _, h => h.elim
 | n + 1, code, stop, out, h => by
  obtain ⟨T, vs, ks, hv, hT, rfl, hk, hk8, hm⟩ := h
  rw [List.pairwise_append]
  refine ⟨hv.pw, ?_, fun y hy x hx => ?_⟩
  ·rw [List.pairwise_flatten]
   refine ⟨fun k hk1 => ?_, ?_⟩
   ·obtain ⟨i, hi, rfl⟩ := List.getElem_of_mem hk1
    exact (hm i _ (geq hi)).pw
   ·rw [List.pairwise_iff_getElem]
    intro i j hi hj hij y hy x hx
    obtain ⟨⟨s, h1⟩, _, _⟩ := (hm i _ (geq hi)).mem y hy
    obtain ⟨⟨t, h2⟩, _, _⟩ := (hm j _ (geq hj)).mem x hx
    refine .inl ?_
    have := bl_diff (digit_lt hij (by omega)) s t (code ++ [48])
    rw [← h1, ← h2]
    simpa [child] using this
  ·have h1 := (hv.mem y hy).1
   obtain ⟨k, hk1, hk2⟩ := List.mem_flatten.1 hx
   obtain ⟨i, hi, rfl⟩ := List.getElem_of_mem hk1
   obtain ⟨⟨s, h2⟩, _, _⟩ := (hm i _ (geq hi)).mem x hk2
   refine .inl ?_
   rw [h1.code, ← h2]
   have := bl_ext code (s := [48, UInt8.ofNat (49 + i)] ++ s) (by simp)
   simpa [child] using this
theorem cov_append (A B : List Ent) (c : Str) (d : Int) : cov (A ++ B) c d = cov B c (cov A c d) := by unfold cov; rw [List.foldl_append]
theorem cov_none {A : List Ent} {c : Str} : ∀ {d : Int}, (∀ e, e ∈ A → e.Code ≠ c) → cov A c d = d := by
 induction A with
 | nil => intro d _; rfl
 | cons a A ih =>
  intro d h
  show cov A c (if a.Code = c ∧ a.From ≤ d ∧ d < a.To then a.To else d) = d
  rw [if_neg (fun hh => h a (by simp) hh.1)]
  exact ih (fun e he => h e (by simp [he]))
theorem cov_vers {code : Str} {T : Int} {vs : List Ent} (h : Vers code T vs) {d : Int} (h0 : 0 ≤ d) (h1 : d < T) : cov vs code d = T := by
 rcases h with ⟨x, rfl, k1, k2, k3⟩ | ⟨y, x, rfl, k1, k2, k3, k4, k5, k6⟩
 ·show (if x.Code = code ∧ x.From ≤ d ∧ d < x.To then x.To else d) = T
  rw [if_pos ⟨k1.code, by omega, by omega⟩]; omega
 ·have := k2.days
  show (if x.Code = code ∧ x.From ≤ (if y.Code = code ∧ y.From ≤ d ∧ d < y.To then y.To else d) ∧ (if y.Code = code ∧ y.From ≤ d ∧ d < y.To then y.To else d) < x.To then x.To else (if y.Code = code ∧ y.From ≤ d ∧ d < y.To then y.To else d)) = T
  by_cases c : d < 10
  ·rw [if_pos (⟨k1.code, by omega, by omega⟩ : y.Code = code ∧ y.From ≤ d ∧ d < y.To), if_pos ⟨k2.code, by omega, by omega⟩]; omega
  ·rw [if_neg (fun (hh : y.Code = code ∧ y.From ≤ d ∧ d < y.To) => by omega), if_pos ⟨k2.code, by omega, by omega⟩]; omega
def NP (p : Str) (A : List Ent) : Prop := ∀ e, e ∈ A → ¬ p <+: e.Code
theorem NP.ne {p : Str} {A : List Ent} (h : NP p A) : ∀ e, e ∈ A → e.Code ≠ p := fun e he hh => h e he (by rw [hh]; exact List.prefix_rfl)
theorem flat_split {ks : List (List Ent)} {i : Nat} (hi : i < ks.length) : ks.flatten = (ks.take i).flatten ++ (ks[i] ++ (ks.drop (i + 1)).flatten) := by
 conv => lhs; rw [← List.take_append_drop i ks]
 rw [List.flatten_append, List.drop_eq_getElem_cons hi, List.flatten_cons]
theorem Made.cov : ∀ {n : Nat} {code : Str} {stop : Int} {out : List Ent}, Made n code stop out → ∀ A B : List Ent, NP code A → NP code B → ∀ e, e ∈ out → e.Code ≠ code → e.To ≤ cov (A ++ (out ++ B)) (parent e.Code) e.From
 | 0, _, _, _, h => h.elim
 | n + 1, code, stop, out, h => by
  obtain ⟨T, vs, ks, hv, hT, rfl, hk, hk8, hm⟩ := h
  intro A B hA hB e he hne
  rcases List.mem_append.1 he with he | he
  ·exact absurd (hv.mem e he).1.code hne
  obtain ⟨k, hk1, hk2⟩ := List.mem_flatten.1 he
  obtain ⟨i, hi, rfl⟩ := List.getElem_of_mem hk1
  have hmi := hm i _ (geq hi)
  obtain ⟨h1, h2, h3⟩ := hmi.mem e hk2
  have hd := h2.days
  have hks : ∀ x, x ∈ ks.flatten → x.Code ≠ code := fun x hx hh => by
   obtain ⟨k', hx1, hx2⟩ := List.mem_flatten.1 hx
   obtain ⟨j, hj, rfl⟩ := List.getElem_of_mem hx1
   obtain ⟨⟨s, g1⟩, _, _⟩ := (hm j _ (geq hj)).mem x hx2
   have := congrArg List.length g1
   rw [List.length_append, child_len, hh] at this
   omega
  by_cases hc : e.Code = child code i
  ·have hp : parent e.Code = code := by
    unfold parent
    rw [hc, child_len, show code.length + 2 - 2 = code.length by omega]
    unfold child
    rw [List.take_append_of_le_length (Nat.le_refl _), List.take_length]
   rw [hp, cov_append, cov_append, cov_append, cov_none hA.ne, cov_vers hv (by omega) (by omega), cov_none hks, cov_none hB.ne]
   omega
  ·have := hmi.cov (A ++ (vs ++ (ks.take i).flatten)) ((ks.drop (i + 1)).flatten ++ B) (fun x hx hh => ?_) (fun x hx hh => ?_) e hk2 hc
   ·rw [flat_split hi]
    simpa [List.append_assoc] using this
   ·rcases List.mem_append.1 hx with hx | hx
    ·exact hA x hx ((child_pre code i).trans hh)
    ·rcases List.mem_append.1 hx with hx | hx
     ·rw [(hv.mem x hx).1.code] at hh
      have := hh.length_le
      rw [child_len] at this; omega
     ·obtain ⟨k', hx1, hx2⟩ := List.mem_flatten.1 hx
      obtain ⟨j, hj, rfl⟩ := List.getElem_of_mem hx1
      have hj' := hj
      rw [List.length_take] at hj'
      rw [List.getElem_take] at hx2
      obtain ⟨g1, _, _⟩ := (hm j _ (geq (by omega))).mem x hx2
      have := child_not (by omega) (by omega) g1 hh
      omega
   ·rcases List.mem_append.1 hx with hx | hx
    ·obtain ⟨k', hx1, hx2⟩ := List.mem_flatten.1 hx
     obtain ⟨j, hj, rfl⟩ := List.getElem_of_mem hx1
     have hj' := hj
     rw [List.length_drop] at hj'
     rw [List.getElem_drop] at hx2
     obtain ⟨g1, _, _⟩ := (hm (i + 1 + j) _ (geq (by omega))).mem x hx2
     have := child_not (by omega) (by omega) g1 hh
     omega
    ·exact hB x hx ((child_pre code i).trans hh)
theorem getD_get {α : Type} [Inhabited α] {l : List α} {i : Nat} (h : i < l.length) : l.getD i default = l[i] := by rw [List.getD_eq_getElem?_getD, geq h]; rfl
structure NMade (b : YE) : Prop where
  ents : ∃ x y, b.Entries = x ++ y ∧ Made 6 [57, 52] 36525 x ∧ Made 5 [57, 53] 36525 y
  notes : b.Notes.length ≤ 3 ∧ ∀ n, n ∈ b.Notes → noteOk n = true ∧ Asc n.Words ∧ n.Words ≠ [] ∧ n.Words.length ≤ 2 ∧ n.Scope.length ≤ 8 ∧ n.Target.length ≤ 8
theorem NMade.mem {b : YE} (h : NMade b) : ∀ e, e ∈ b.Entries → EOk e.Code e ∧ ([57, 52] <+: e.Code ∨ [57, 53] <+: e.Code) := fun e he => by
 obtain ⟨x, y, hxy, hx, hy⟩ := h.ents
 rw [hxy] at he
 rcases List.mem_append.1 he with he | he
 ·have := hx.mem e he; exact ⟨this.2.1, .inl this.1⟩
 ·have := hy.mem e he; exact ⟨this.2.1, .inr this.1⟩
theorem NMade.len {b : YE} (h : NMade b) : b.Entries.length ≤ 160 ∧ 0 < b.Entries.length := by
 obtain ⟨x, y, hxy, hx, hy⟩ := h.ents
 have h1 := hx.len2 (.inl rfl); have h2 := hy.len2 (.inl rfl)
 have e : maxL ((10 - ([57, 52] : Str).length) / 2) = 80 := by decide
 have e' : maxL ((10 - ([57, 53] : Str).length) / 2) = 80 := by decide
 rw [e] at h1
 rw [e'] at h2
 refine ⟨by rw [hxy, List.length_append]; omega, ?_⟩
 obtain ⟨T, vs, ks, hv, _, rfl, _, _, _⟩ := hx
 rw [hxy]
 rcases hv with ⟨x, rfl, _⟩ | ⟨y, x, rfl, _⟩ <;> (simp only [List.length_append, List.length_cons]; omega)
theorem NMade.pw {b : YE} (h : NMade b) : b.Entries.Pairwise Ord := by
 obtain ⟨x, y, hxy, hx, hy⟩ := h.ents
 rw [hxy, List.pairwise_append]
 refine ⟨hx.pw, hy.pw, fun a ha c hc => ?_⟩
 obtain ⟨s, h1⟩ := (hx.mem a ha).1
 obtain ⟨t, h2⟩ := (hy.mem c hc).1
 refine .inl ?_
 rw [← h1, ← h2]
 exact bl_diff (a := 52) (b := 53) (by decide) s t [57]
theorem NMade.nv {b : YE} (h : NMade b) : nv b = 0 := by
 have hl := h.len
 have hn := h.notes
 have hpw := List.pairwise_iff_getElem.1 h.pw
 have e1 : ferr b.Entries.length (entErr b.Entries) = 0 := ferr_zero.2 fun i hi => by
  unfold entErr
  rw [getD_get hi, (h.mem _ (List.getElem_mem hi)).1.one, if_pos rfl]
  by_cases h0 : i = 0
  ·rw [if_pos h0]
  ·rw [if_neg h0, getD_get (by omega)]
   exact (hpw (i - 1) i (by omega) hi (by omega)).zero
 have e2 : ferr b.Entries.length (parErr b.Entries) = 0 := ferr_zero.2 fun i hi => by
  unfold parErr
  rw [getD_get hi, if_pos]
  unfold parOk
  by_cases h2 : b.Entries[i].Code.length = 2
  ·simp [h2]
  ·simp only [h2, decide_false, Bool.false_or, decide_eq_true_eq]
   obtain ⟨x, y, hxy, hx, hy⟩ := h.ents
   have hm := List.getElem_mem hi
   have n1 : NP [57, 52] y := fun e he hp => by
    have := (hy.mem e he).1
    obtain ⟨s, h1⟩ := hp; obtain ⟨t, h2⟩ := this
    rw [← h2] at h1; simp at h1
   have n2 : NP [57, 53] x := fun e he hp => by
    have := (hx.mem e he).1
    obtain ⟨s, h1⟩ := hp; obtain ⟨t, h2⟩ := this
    rw [← h2] at h1; simp at h1
   generalize b.Entries[i] = e at hm h2 ⊢
   rw [hxy] at hm
   rcases List.mem_append.1 hm with hm | hm
   ·have := hx.cov [] y (fun e he => by cases he) n1 _ hm (fun e => h2 (by rw [e]; rfl))
    rw [List.nil_append, ← hxy] at this; exact this
   ·have := hy.cov x [] n2 (fun e he => by cases he) _ hm (fun e => h2 (by rw [e]; rfl))
    rw [List.append_nil, ← hxy] at this; exact this
 have e3 : ferr b.Notes.length (notErr b.Notes) = 0 := ferr_zero.2 fun i hi => by
  unfold notErr
  rw [getD_get hi, if_pos (hn.2 _ (List.getElem_mem hi)).1]
 unfold C.nv
 rw [if_neg (by omega), e1, if_neg (by simp), e2, if_neg (by simp), e3]
theorem asc_ok {l : List Str} (h : Asc l) (hl : l.length ≤ 1000) : l.length ≤ 9223372036854775807 ∧ ∀ x, x ∈ l → x.length ≤ 9223372036854775807 := ⟨by omega, fun x hx => by
 have := h.2 x hx
 unfold isW at this
 simp only [Bool.and_eq_true, decide_eq_true_eq] at this
 omega⟩
theorem EOk.ok {c : Str} {e : Ent} (h : EOk c e) : okD e := by
 have h1 := oneE_len h.one
 have h2 := h.days
 refine ⟨by omega, by unfold okI_i64; omega, by unfold okI_i64; omega, by have := h.terms.1; omega, fun t ht => ?_⟩
 obtain ⟨a1, a2, a3⟩ := h.terms.2 t ht
 exact asc_ok a1 (by omega)
theorem NMade.ok {b : YE} (h : NMade b) : okG b := by
 have hl := h.len
 refine ⟨⟨by omega, fun e he => (h.mem e he).1.ok⟩, by have := h.notes.1; omega, fun n hn => ?_⟩
 obtain ⟨a1, a2, a3, a4, a5, a6⟩ := h.notes.2 n hn
 exact ⟨by omega, asc_ok a2 (by omega), by omega⟩
theorem madeNom_ok (l : List Int) : ∃ b, madeNom l = some b ∧ NMade b := by
 unfold madeNom
 obtain ⟨v, e0, hv⟩ := cut_ok l 300 (by omega)
 rw [show (300 : Int) = ((300 : Nat) : Int) from rfl, e0, obs]
 obtain ⟨r, s1, e1, b1, b2, k1⟩ := next_ok (s := ⟨v, 0⟩) (n := 4) ⟨by simp only; omega, by simp only; omega, by simp only; omega⟩ (by omega) (by omega)
 rw [e1, obs]
 obtain ⟨m, rfl⟩ : ∃ m : Nat, r = (m : Int) := ⟨r.toNat, by omega⟩
 obtain ⟨⟨L, I, ns⟩, er, hn1, hn2, hso⟩ := loop_inv (f := madeNom_b1) (fun q x => ∃ k : Nat, q = k ∧ k ≤ m ∧ x.1 = (k : Int) ∧ x.2.2.2.length = m - k ∧ (∀ n, n ∈ x.2.2.2 → noteOk n = true ∧ Asc n.Words ∧ n.Words ≠ [] ∧ n.Words.length ≤ 2 ∧ n.Scope.length ≤ 8 ∧ n.Target.length ≤ 8) ∧ SOk ⟨x.2.1, x.2.2.1⟩)
  (fun r => r.2.2.length ≤ 3 ∧ (∀ n, n ∈ r.2.2 → noteOk n = true ∧ Asc n.Words ∧ n.Words ≠ [] ∧ n.Words.length ≤ 2 ∧ n.Scope.length ≤ 8 ∧ n.Target.length ≤ 8) ∧ SOk ⟨r.1, r.2.1⟩) (by
  rintro q ⟨i, cL, cI, ns⟩ ⟨k, rfl, hk, hi, hl, hns, hso⟩
  simp only at hi hl hns hso
  subst hi
  unfold madeNom_b1
  dsimp only
  by_cases hpos : 0 < q
  ·refine .inl ?_
   rw [if_pos (by simp only [decide_eq_true_eq]; omega)]
   obtain ⟨r5, s2, e2, c1, c2, k2⟩ := next_ok (n := 5) hso (by omega) (by omega)
   rw [e2, obs, if_pos c1]
   have hsc : ∃ sc, ([([57, 52] : Str), ([57, 53] : Str), ([57, 52, 48, 49] : Str), ([57, 52, 48, 50] : Str), ([57, 52, 48, 49, 48, 49] : Str)][r5.toNat]?) = some sc ∧ lvl sc ≠ 0 ∧ sc.length ≤ 8 := by
    have : r5 = 0 ∨ r5 = 1 ∨ r5 = 2 ∨ r5 = 3 ∨ r5 = 4 := by omega
    rcases this with rfl | rfl | rfl | rfl | rfl <;> exact ⟨_, rfl, by decide, by decide⟩
   obtain ⟨sc, e3, hsc1, hsc2⟩ := hsc
   dsimp only
   rw [e3, obs]
   obtain ⟨ws, s3, e4, w1, w2, w3, k3⟩ := words_ok k2 2 (by omega) (by omega)
   rw [show (2 : Int) = ((2 : Nat) : Int) from rfl, e4, obs]
   obtain ⟨r2, s4, e5, d1, d2, k4⟩ := next_ok (n := ((2 : Nat) : Int)) k3 (by omega) (by omega)
   dsimp only
   rw [e5, obs]
   have fin : ∀ (L : List Int) (I : Int) (t : Str), SOk ⟨L, I⟩ → (t = [] ∨ lvl t = 4) → t.length ≤ 8 → ∃ s' m', m' < q ∧ madeNom_j2 (q : Int) sc (ws, s3) L I ns t = some (.inl s') ∧ ∃ k' : Nat, m' = k' ∧ k' ≤ m ∧ s'.1 = (k' : Int) ∧ s'.2.2.2.length = m - k' ∧ (∀ n, n ∈ s'.2.2.2 → noteOk n = true ∧ Asc n.Words ∧ n.Words ≠ [] ∧ n.Words.length ≤ 2 ∧ n.Scope.length ≤ 8 ∧ n.Target.length ≤ 8) ∧ SOk ⟨s'.2.1, s'.2.2.1⟩ := fun L I t hLI ht htl => by
    unfold madeNom_j2
    rw [if_pos (by simp; omega), w64 (n := (q : Int) - 1) (by omega)]
    refine ⟨_, q - 1, by omega, rfl, q - 1, rfl, by omega, by simp only; omega, by simp; omega, fun n hn => ?_, hLI⟩
    rcases List.mem_append.1 hn with h | h
    ·exact hns n h
    ·simp at h; subst h
     refine ⟨?_, w1, w2, w3, hsc2, htl⟩
     unfold noteOk
     rw [w1.some1 w2 (by omega)]
     rcases ht with h | h <;> simp [hsc1, h]
   split
   ·obtain ⟨r3, s5, e6, f1, f2, k5⟩ := next_ok (n := 3) k4 (by omega) (by omega)
    rw [e6, obs, if_pos f1]
    have htg : ∃ tg, ([([57, 52, 48, 49] : Str), ([57, 52, 48, 50] : Str), ([57, 53, 48, 49] : Str)][r3.toNat]?) = some tg ∧ lvl tg = 4 ∧ tg.length ≤ 8 := by
     have : r3 = 0 ∨ r3 = 1 ∨ r3 = 2 := by omega
     rcases this with rfl | rfl | rfl <;> exact ⟨_, rfl, by decide, by decide⟩
    obtain ⟨tg, e7, htg1, htg2⟩ := htg
    dsimp only
    rw [e7, obs]
    exact fin _ _ _ k5 (.inr htg1) htg2
   ·exact fin _ _ _ k4 (.inl rfl) (by simp)
  ·refine .inr ?_
   rw [if_neg (by simp only [decide_eq_true_eq]; omega)]
   exact ⟨_, rfl, by simp only; omega, hns, hso⟩) m ((m : Int), s1.L, s1.I, []) ⟨m, rfl, by omega, rfl, by simp, fun n hn => by simp at hn, k1⟩
 rw [er, obs]
 simp only at hn1 hn2 hso
 dsimp only
 unfold madeNom_j1
 obtain ⟨x, s2, e2, k2, hx⟩ := entry_F (code := [57, 52]) ⟨by decide, .inl rfl⟩ (n := 5) (F := srcEntry) (fun h8 s i T hi hs h0 h1 => by
  have hc : Cd (child [57, 52] i) := Cd.child ⟨by decide, .inl rfl⟩ (by decide) hi
  obtain ⟨o, s', e, k, hm⟩ := entry_n 4 hc (by omega) (by rw [child_len]; decide) hs h0 h1
  refine ⟨o, s', e, k, hm, ?_⟩
  have := hm.len2 (.inr (.inl (by rw [child_len]; rfl)))
  rw [child_len] at this
  have e : maxL ((10 - (([57, 52] : Str).length + 2)) / 2) = 26 := by decide
  omega) hso (stop := 36525) (by omega) (by omega)
 rw [entryR_eq, e2, obs]
 obtain ⟨y, s3, e3, k3, hy⟩ := entry_ok (code := [57, 53]) ⟨by decide, .inl rfl⟩ rfl k2
 dsimp only
 rw [e3, obs]
 have l1 := hx.len2 (.inl rfl); have l2 := hy.len2 (.inl rfl)
 have e4 : maxL ((10 - ([57, 52] : Str).length) / 2) = 80 := by decide
 have e5 : maxL ((10 - ([57, 53] : Str).length) / 2) = 80 := by decide
 rw [if_pos (by simp only; omega)]
 exact ⟨_, rfl, ⟨x, y, rfl, hx, hy⟩, hn1, hn2⟩
end Go.C
end
section
set_option linter.unusedVariables false
set_option linter.unusedSimpArgs false
namespace Go.C
open Go.V
def LB (l : List (List Str)) : Prop := l.length ≤ 1000 ∧ ∀ x, x ∈ l → x.length ≤ 1000
structure BB (b : YE) : Prop where
  ents : b.Entries.length ≤ 1000 ∧ ∀ e, e ∈ b.Entries → LB e.Terms
  notes : b.Notes.length ≤ 1000 ∧ ∀ n, n ∈ b.Notes → n.Words.length ≤ 1000
theorem cloneWords_eq {l : List (List Str)} (h : LB l) : cloneWords l = some l := by
 unfold cloneWords
 have := loop_seq (f := cloneWords_b1 l) l.length (fun i => ((i : Int), l.take i)) l (fun i hi => by
  have hl := h.1
  have hx := h.2 _ (List.getElem_mem hi)
  unfold cloneWords_b1 cloneS
  dsimp only
  rw [if_pos (by simp only [decide_eq_true_eq]; omega), if_pos (by omega), itn, geq hi, obs, if_pos (by omega), obs, if_pos (by simp; omega), w64 (n := (i : Int) + 1) (by omega), List.take_add_one, geq hi]
  rfl) (by unfold cloneWords_b1; dsimp only; rw [if_neg (by simp), List.take_length])
 rw [show ((0 : Int), ([] : List (List Str))) = (((0 : Nat) : Int), l.take 0) from rfl, this]; rfl
theorem filter_take {α : Type} (p : α → Bool) {l : List α} {i : Nat} (h : i < l.length) : (l.take (i + 1)).filter p = if p l[i] = true then (l.take i).filter p ++ [l[i]] else (l.take i).filter p := by
 rw [List.take_add_one, geq h, List.filter_append]
 show (l.take i).filter p ++ List.filter p [l[i]] = _
 rw [List.filter_cons]
 split <;> simp
theorem filter_len {α : Type} (p : α → Bool) (l : List α) (i : Nat) : ((l.take i).filter p).length ≤ l.length := Nat.le_trans (List.length_filter_le _ _) (by rw [List.length_take]; omega)
def onDay (day : Int) (e : Ent) : Bool := decide (e.From ≤ day) && decide (day < e.To)
def atS (b : YE) (day : Int) : List Ent := b.Entries.filter (onDay day)
theorem nomAt_eq {b : YE} (h : BB b) (day : Int) : nomAt b day = some (atS b day) := by
 unfold nomAt atS
 have := loop_seq (f := nomAt_b1 b day) b.Entries.length (fun i => ((i : Int), (b.Entries.take i).filter (onDay day))) (b.Entries.filter (onDay day)) (fun i hi => by
  have hl := h.ents.1
  have hx := h.ents.2 _ (List.getElem_mem hi)
  have hfl := filter_len (onDay day) b.Entries i
  unfold nomAt_b1 nomAt_j2
  dsimp only
  rw [if_pos (by simp only [decide_eq_true_eq]; omega), if_pos (by omega), itn, geq hi, obs, cloneWords_eq hx, obs, w64 (n := (i : Int) + 1) (by omega), filter_take _ hi]
  have e : (bif (decide (b.Entries[i].From ≤ day)) then (decide (day < b.Entries[i].To)) else false) = onDay day b.Entries[i] := by unfold onDay; cases decide (b.Entries[i].From ≤ day) <;> rfl
  rw [e]
  cases onDay day b.Entries[i] with
  | true => rw [if_pos rfl, if_pos (by simp; omega), if_pos rfl]; rfl
  | false => rw [if_neg (by simp), if_neg (by simp)]; rfl) (by unfold nomAt_b1; dsimp only; rw [if_neg (by simp), List.take_length])
 rw [show ((0 : Int), ([] : List Ent)) = (((0 : Nat) : Int), (b.Entries.take 0).filter (onDay day)) from rfl, this]; rfl
def below (code : Str) (e : Ent) : Bool := if code = [] then decide (e.Code.length = 4) else decide (2 < e.Code.length ∧ parent e.Code = code)
def belS (b : YE) (day : Int) (code : Str) : List Ent := (atS b day).filter (below code)
theorem below_loop {l : List Ent} (code : Str) (hl : l.length ≤ 1000) (hc : ∀ e, e ∈ l → e.Code.length ≤ 9223372036854775807) : loopO (nomBelow_b1 code l) ((0 : Int), []) = some (l.filter (below code)) := by
 have := loop_seq (f := nomBelow_b1 code l) l.length (fun i => ((i : Int), (l.take i).filter (below code))) (l.filter (below code)) (fun i hi => by
  have hfl := filter_len (below code) l i
  have hcl := hc _ (List.getElem_mem hi)
  unfold nomBelow_b1 nomBelow_j2
  dsimp only
  rw [if_pos (by simp only [decide_eq_true_eq]; omega), if_pos (by omega), itn, geq hi, obs, w64 (n := (i : Int) + 1) (by omega), filter_take _ hi]
  generalize l[i] = x at hcl ⊢
  by_cases h0 : code = []
  ·have e0 : (code == ([] : Str)) = true := by simpa using h0
   simp only [e0, cond_true, Bool.not_true, cond_false, Bool.and_false, Bool.false_eq_true, false_implies, if_true]
   have e1 : (bif ((x.Code.length : Int) == (4 : Int)) then true else false) = below code x := by
    unfold below
    rw [if_pos h0]
    by_cases h4 : x.Code.length = 4
    ·simp [h4]
    ·have : ((x.Code.length : Int) == 4) = false := by simp; omega
     rw [this]; simp [h4]
   rw [e1]
   cases below code x with
   | true => rw [if_pos rfl, if_pos (by simp; omega), if_pos rfl]; rfl
   | false => rw [if_neg (by simp), if_neg (by simp)]; rfl
  ·have e0 : (code == ([] : Str)) = false := by simpa using h0
   simp only [e0, cond_false, Bool.not_false, cond_true, Bool.true_and]
   by_cases h2 : 2 < x.Code.length
   ·have d2 : (2 : Int) < (x.Code.length : Int) := by omega
    have hw : IntKind.i64.wrap ((x.Code.length : Int) - 2) = ((x.Code.length - 2 : Nat) : Int) := by rw [w64 (by omega)]; omega
    simp only [d2, decide_true, cond_true, hw]
    rw [if_pos (fun _ => by omega), itn]
    have e1 : (((x.Code.take (x.Code.length - 2)).drop (0 : Int).toNat) == code) = below code x := by
     unfold below
     rw [if_neg h0]
     show (parent x.Code == code) = _
     by_cases hp : parent x.Code = code
     ·simp [hp, h2]
     ·simp [hp]
    rw [e1]
    cases below code x with
    | true => rw [if_pos rfl, if_pos (by simp; omega), if_pos rfl]; rfl
    | false => rw [if_neg (by simp), if_neg (by simp)]; rfl
   ·have d2 : ¬ (2 : Int) < (x.Code.length : Int) := by omega
    simp only [d2, decide_false, cond_false, Bool.false_eq_true, false_implies, if_true, if_false]
    have e1 : below code x = false := by unfold below; rw [if_neg h0]; simp; omega
    rw [e1, if_neg (by simp)]; rfl) (by unfold nomBelow_b1; dsimp only; rw [if_neg (by simp), List.take_length])
 exact this
theorem nomBelow_eq {b : YE} (h : BB b) (hc : ∀ e, e ∈ b.Entries → e.Code.length ≤ 9223372036854775807) (day : Int) (code : Str) : nomBelow b day code = some (belS b day code) := by
 unfold nomBelow
 rw [nomAt_eq h, obs, below_loop (l := atS b day) code (Nat.le_trans (List.length_filter_le _ _) h.ents.1) (fun e he => hc e ((List.mem_filter.1 he).1))]; rfl
def subS (a b : List Str) : Bool := a.all fun x => b.contains x
theorem sIndex_eq {s : List Str} (v : Str) (h : s.length ≤ 1000) : ∃ n, sIndex s v = some n ∧ (decide ((0 : Int) ≤ n) = s.contains v) := by
 unfold sIndex
 obtain ⟨r, e, hr⟩ := loop_all s (sIndex_b1 s v) (fun i (_ : Unit) => (i : Int)) (fun i _ => ∀ j, j < i → s.getD j default ≠ v) (fun r => match r with | .inl n => 0 ≤ n ∧ s.contains v = true | .inr _ => s.contains v = false) (fun i x b hx hI => by
  have hlt := zK1 hx
  unfold sIndex_b1
  rw [if_pos (by simp only [decide_eq_true_eq]; omega), if_pos (by omega), itn, hx, obs, w64 (n := (i : Int) + 1) (by omega)]
  by_cases hv : v = x
  ·refine .inr ⟨_, if_pos (by simpa using hv), Int.natCast_nonneg _, ?_⟩
   rw [List.contains_iff_mem, hv]; exact List.mem_of_getElem? hx
  ·refine .inl ⟨(), by rw [if_neg (by simpa using hv)]; rfl, fun j hj => ?_⟩
   by_cases e : j = i
   ·subst e; rw [getD_of hx]; exact fun h => hv h.symm
   ·exact hI j (by omega))
  (fun b hI => ⟨.inr (), by unfold sIndex_b1; rw [if_neg (by simp)], by
   rw [Bool.eq_false_iff]
   intro hc
   have hm := List.contains_iff_mem.1 hc
   obtain ⟨j, hj, he⟩ := List.getElem_of_mem hm
   exact hI j hj (by rw [getD_get hj]; exact he)⟩) () (fun j hj => by omega)
 rw [show ((0 : Int)) = ((0 : Nat) : Int) from rfl, e, obs]
 cases r with
 | inl n => exact ⟨n, rfl, by rw [hr.2]; simpa using hr.1⟩
 | inr _ => exact ⟨-1, rfl, by rw [hr]; decide⟩
theorem memberIn_eq {l : List Str} (v : Str) (h : l.length ≤ 1000) : memberIn v l = some (l.contains v) := by
 obtain ⟨n, e, hn⟩ := sIndex_eq v h
 unfold memberIn sContains
 rw [e, obs, obs, hn]
theorem subset_eq {a b : List Str} (ha : a.length ≤ 1000) (hb : b.length ≤ 50) : subset a b = some (subS a b) := by
 unfold subset member
 rw [if_pos (by simp only [decide_eq_true_eq]; omega), obs]
 have step : ∀ (i : Nat) (x : Str), a[i]? = some x → subset_b1 a b (i : Int) = if (!b.contains x) = true then some (.inr (.inl false)) else some (.inl ((i + 1 : Nat) : Int)) := fun i x hx => by
  have hlt := zK1 hx
  unfold subset_b1
  rw [if_pos (by simp only [decide_eq_true_eq]; omega), if_pos (by omega), itn, hx, obs, memberIn_eq x (by omega), obs, w64 (n := (i : Int) + 1) (by omega)]; rfl
 have l1 := loop_list (β := Unit) a (subset_b1 a b) (fun i _ => (i : Int)) (fun _ _ => ()) (fun i => b.contains (a.getD i default)) (.inl false) (fun _ => .inr ()) (fun _ _ => True) (fun _ _ _ _ _ => trivial)
  (fun i x _ _ hx hp => by rw [getD_of hx] at hp; rw [step i x hx, hp]; rfl) (fun i x _ _ hx hp => by rw [getD_of hx] at hp; rw [step i x hx, hp]; rfl) (fun _ _ => by unfold subset_b1; rw [if_neg (by simp)]) () trivial
 rw [show ((0 : Int)) = ((0 : Nat) : Int) from rfl, l1, range_all (fun x => b.contains x)]
 unfold subS
 cases (a.all fun x => b.contains x) <;> rfl
def exS (b : YE) (code : Str) (words : List Str) : Bool := b.Notes.any fun n => Lib.hasPrefix code n.Scope && subS n.Words words
theorem nomExcluded_eq {b : YE} (h : BB b) (code : Str) {words : List Str} (hw : words.length ≤ 50) : nomExcluded b code words = some (exS b code words) := by
 unfold nomExcluded
 have hl := h.notes.1
 have step : ∀ (i : Nat) (x : YW), b.Notes[i]? = some x → nomExcluded_b1 b code words (i : Int) = if (Lib.hasPrefix code x.Scope && subS x.Words words) = true then some (.inr (.inl true)) else some (.inl ((i + 1 : Nat) : Int)) := fun i x hx => by
  have hlt := zK1 hx
  have hxl := h.notes.2 x (List.mem_of_getElem? hx)
  unfold nomExcluded_b1 hasPrefixS
  rw [if_pos (by simp only [decide_eq_true_eq]; omega), if_pos (by omega), itn, hx, obs, obs, w64 (n := (i : Int) + 1) (by omega), subset_eq hxl hw]
  cases Lib.hasPrefix code x.Scope <;> cases subS x.Words words <;> rfl
 have l1 := loop_list (β := Unit) b.Notes (nomExcluded_b1 b code words) (fun i _ => (i : Int)) (fun _ _ => ()) (fun i => !(Lib.hasPrefix code (b.Notes.getD i default).Scope && subS (b.Notes.getD i default).Words words)) (.inl true) (fun _ => .inr ()) (fun _ _ => True) (fun _ _ _ _ _ => trivial)
  (fun i x _ _ hx hp => by rw [getD_of hx] at hp; rw [step i x hx, if_neg (by intro hh; rw [hh] at hp; cases hp)]) (fun i x _ _ hx hp => by rw [getD_of hx] at hp; rw [step i x hx, if_pos (by simpa using hp)]) (fun _ _ => by unfold nomExcluded_b1; rw [if_neg (by simp)]) () trivial
 rw [show ((0 : Int)) = ((0 : Nat) : Int) from rfl, l1, range_all (fun n : YW => !(Lib.hasPrefix code n.Scope && subS n.Words words))]
 unfold exS nomExcluded_j1
 rw [← List.not_any_eq_all_not]
 cases (b.Notes.any fun n => Lib.hasPrefix code n.Scope && subS n.Words words) <;> rfl
def altS (b : YE) (e : Ent) : List (List Str) := e.Terms ++ (b.Notes.filter fun n => n.Target == e.Code).map (·.Words)
theorem nomAlts_eq {b : YE} (h : BB b) {e : Ent} (he : LB e.Terms) : nomAlts b e = some (altS b e) := by
 unfold nomAlts altS
 have hl := h.notes.1
 have ht := he.1
 rw [cloneWords_eq he, obs]
 have := loop_seq (f := nomAlts_b1 b e) b.Notes.length (fun i => ((i : Int), e.Terms ++ ((b.Notes.take i).filter fun n => n.Target == e.Code).map (·.Words))) (e.Terms ++ (b.Notes.filter fun n => n.Target == e.Code).map (·.Words)) (fun i hi => by
  have hx := h.notes.2 _ (List.getElem_mem hi)
  have hfl := filter_len (fun n => n.Target == e.Code) b.Notes i
  unfold nomAlts_b1 nomAlts_j2 cloneS
  dsimp only
  rw [if_pos (by simp only [decide_eq_true_eq]; omega), if_pos (by omega), itn, geq hi, obs, w64 (n := (i : Int) + 1) (by omega), filter_take _ hi]
  cases hc : (b.Notes[i].Target == e.Code) with
  | true => rw [if_pos rfl, if_pos (by omega), obs, if_pos (by simp only [List.length_append, List.length_map, List.length_cons, List.length_nil]; omega), if_pos rfl, List.map_append, ← List.append_assoc]; rfl
  | false => rw [if_neg (by simp), if_neg (by simp)]; rfl) (by unfold nomAlts_b1; dsimp only; rw [if_neg (by simp), List.take_length])
 have e0 : ((0 : Int), e.Terms) = (((0 : Nat) : Int), e.Terms ++ ((b.Notes.take 0).filter fun n => n.Target == e.Code).map (·.Words)) := by simp
 rw [e0, this]; rfl
def scF (words : List Str) (n : Int) (a : List Str) : Int := if n < (a.length : Int) ∧ subS a words = true then (a.length : Int) else n
def scS (b : YE) (e : Ent) (words : List Str) : Int := if exS b e.Code words = true then 0 else (altS b e).foldl (scF words) 0
theorem altS_LB {b : YE} (h : BB b) {e : Ent} (he : LB e.Terms) : (altS b e).length ≤ 2000 ∧ ∀ x, x ∈ altS b e → x.length ≤ 1000 := by
 unfold altS
 refine ⟨?_, fun x hx => ?_⟩
 ·have h1 := he.1; have h2 := h.notes.1
  have h3 := List.length_filter_le (fun n : YW => n.Target == e.Code) b.Notes
  simp only [List.length_append, List.length_map]; omega
 ·rcases List.mem_append.1 hx with hx | hx
  ·exact he.2 x hx
  ·obtain ⟨n, hn, rfl⟩ := List.mem_map.1 hx
   exact h.notes.2 n ((List.mem_filter.1 hn).1)
theorem nomScore_eq {b : YE} (h : BB b) {e : Ent} (he : LB e.Terms) {words : List Str} (hw : words.length ≤ 50) : nomScore b e words = some (scS b e words) := by
 unfold nomScore scS
 rw [nomExcluded_eq h _ hw, obs]
 cases exS b e.Code words with
 | true => rfl
 | false =>
  simp only [Bool.false_eq_true, if_false]
  obtain ⟨a1, a2⟩ := altS_LB h he
  rw [nomAlts_eq h he, obs]
  have := loop_fold (β := Int) (altS b e) (nomScore_b1 words (altS b e)) (fun i n => ((i : Int), n)) (fun n a => scF words n a) (fun n => n) (fun _ _ => True) (fun _ _ _ _ _ => trivial) (fun i x n _ hx => by
   have hlt := zK1 hx
   unfold nomScore_b1 nomScore_j2 scF
   dsimp only
   rw [if_pos (by simp only [decide_eq_true_eq]; omega), if_pos (by omega), itn, hx, obs, w64 (n := (i : Int) + 1) (by omega), subset_eq (a2 x (List.mem_of_getElem? hx)) hw]
   by_cases hc : n < (x.length : Int)
   ·rw [if_pos (by simpa using hc), obs]
    cases hs : subS x words with
    | true => rw [if_pos (by simp [hc]), if_pos ⟨hc, rfl⟩]; rfl
    | false => rw [if_neg (by simp), if_neg (by simp)]; rfl
   ·rw [if_neg (by simpa using hc), obs, if_neg (by simp [hc]), if_neg (fun hh => hc hh.1)]; rfl) (fun n _ => by unfold nomScore_b1; dsimp only; rw [if_neg (by simp)]) 0 trivial
  rw [show ((0 : Int), (0 : Int)) = (((0 : Nat) : Int), (0 : Int)) from rfl, this]; rfl
end Go.C
end
section
set_option linter.unusedVariables false
set_option linter.unusedSimpArgs false
namespace Go.C
open Go.V
theorem refAt_eq {b : YE} (h : BB b) (day : Int) : refAt b day = some (atS b day) := by
 unfold refAt atS
 have := loop_seq (f := refAt_b1 b day) b.Entries.length (fun i => ((i : Int), (b.Entries.take i).filter (onDay day))) (b.Entries.filter (onDay day)) (fun i hi => by
  have hl := h.ents.1
  have hfl := filter_len (onDay day) b.Entries i
  unfold refAt_b1 refAt_j2
  dsimp only
  rw [if_pos (by simp only [decide_eq_true_eq]; omega), if_pos (by omega), itn, geq hi, obs, if_pos (fun _ => by omega), w64 (n := (i : Int) + 1) (by omega), filter_take _ hi, getD_get hi]
  have e : (bif (decide (b.Entries[i].From ≤ day)) then (decide (day < b.Entries[i].To)) else false) = onDay day b.Entries[i] := by unfold onDay; cases decide (b.Entries[i].From ≤ day) <;> rfl
  rw [e]
  cases onDay day b.Entries[i] with
  | true => rw [if_pos rfl, if_pos (by omega), obs, if_pos (by simp; omega), if_pos rfl]; rfl
  | false => rw [if_neg (by simp), if_neg (by simp)]; rfl) (by unfold refAt_b1; dsimp only; rw [if_neg (by simp), List.take_length])
 rw [show ((0 : Int), ([] : List Ent)) = (((0 : Nat) : Int), (b.Entries.take 0).filter (onDay day)) from rfl, this]; rfl
theorem find_any (code : Str) {l : List Ent} (hl : l.length ≤ 1000) : ∃ r, loopO (nomFind_b1 code l) (0 : Int) = some r ∧ (match r with | .inl v => v.2 = true ∧ v.1 ∈ l ∧ v.1.Code = code | .inr _ => ∀ e, e ∈ l → e.Code ≠ code) := by
 exact loop_all l (nomFind_b1 code l) (fun i (_ : Unit) => (i : Int)) (fun i _ => ∀ j, j < i → (l.getD j default).Code ≠ code) _ (fun i x b hx hI => by
  have hlt := zK1 hx
  unfold nomFind_b1
  rw [if_pos (by simp only [decide_eq_true_eq]; omega), if_pos (by omega), itn, hx, obs, w64 (n := (i : Int) + 1) (by omega)]
  by_cases hv : x.Code = code
  ·exact .inr ⟨_, if_pos (by simpa using hv), rfl, List.mem_of_getElem? hx, hv⟩
  ·refine .inl ⟨(), by rw [if_neg (by simpa using hv)]; rfl, fun j hj => ?_⟩
   by_cases e : j = i
   ·subst e; rw [getD_of hx]; exact hv
   ·exact hI j (by omega))
  (fun b hI => ⟨.inr (), by unfold nomFind_b1; rw [if_neg (by simp)], fun e he => by
   obtain ⟨j, hj, rfl⟩ := List.getElem_of_mem he
   have := hI j hj
   rwa [getD_get hj] at this⟩) () (fun j hj => by omega)
def zeroE : Ent := ⟨[], 0, 0, [], false⟩
theorem atS_len {b : YE} (h : BB b) (day : Int) : (atS b day).length ≤ 1000 := Nat.le_trans (List.length_filter_le _ _) h.ents.1
theorem nomFind_one {b : YE} (h : BB b) (day : Int) (code : Str) : ∃ r : Ent × Bool, nomFind b day code = some r ∧ ((r.2 = true ∧ r.1 ∈ atS b day ∧ r.1.Code = code) ∨ (r = (zeroE, false) ∧ ∀ e, e ∈ atS b day → e.Code ≠ code)) := by
 obtain ⟨r, e, hr⟩ := find_any code (atS_len h day)
 unfold nomFind nomFind_j1
 rw [nomAt_eq h, obs, e, obs]
 rcases r with r | r
 ·exact ⟨r, rfl, .inl hr⟩
 ·exact ⟨_, rfl, .inr ⟨rfl, hr⟩⟩
theorem refPrefix_eq (c p : Str) (hc : c.length ≤ 9223372036854775807) : refPrefix c p = some (Lib.hasPrefix c p) := by
 unfold refPrefix Lib.hasPrefix
 by_cases h : p.length ≤ c.length
 ·have d : (p.length : Int) ≤ (c.length : Int) := by omega
  rw [if_pos (fun _ => by omega)]
  simp only [d, decide_true, cond_true, itn]
  show some ((c.take p.length) == p) = _
  congr 1
  rw [Bool.eq_iff_iff, List.isPrefixOf_iff_prefix, beq_iff_eq]
  constructor
  ·intro hh; have := List.take_append_drop p.length c; rw [hh] at this; exact ⟨_, this⟩
  ·rintro ⟨t, rfl⟩; simp
 ·have d : ¬ (p.length : Int) ≤ (c.length : Int) := by omega
  rw [if_pos (fun hh => by simp [d] at hh)]
  simp only [d, decide_false, cond_false]
  congr 1
  cases hp : p.isPrefixOf c with
  | false => rfl
  | true =>
   obtain ⟨t, ht⟩ := List.isPrefixOf_iff_prefix.1 hp
   have := congrArg List.length ht
   simp at this; omega
theorem rbelow_loop {l : List Ent} (code : Str) (hcl : code.length ≤ 9223372036854775807) (hl : l.length ≤ 1000) (hc : ∀ e, e ∈ l → e.Code.length ≤ 1000) : loopO (refBelow_b1 code l) ((0 : Int), []) = some (l.filter (below code)) := by
 have := loop_seq (f := refBelow_b1 code l) l.length (fun i => ((i : Int), (l.take i).filter (below code))) (l.filter (below code)) (fun i hi => by
  have hfl := filter_len (below code) l i
  have hxl := hc _ (List.getElem_mem hi)
  unfold refBelow_b1 refBelow_j2
  dsimp only
  rw [if_pos (by simp only [decide_eq_true_eq]; omega), if_pos (by omega), itn, geq hi, obs, if_pos (fun _ => by omega), w64 (n := (i : Int) + 1) (by omega), filter_take _ hi, getD_get hi]
  generalize l[i] = x at hxl ⊢
  rw [refPrefix_eq _ _ (by omega)]
  have fin : ∀ c : Bool, c = below code x → (if c = true then (if (0 ≤ (i : Int)) then (some x).bind fun x6 => (if (((l.take i).filter (below code)).length + [x6].length ≤ 137438953472) then some (Sum.inl (((i : Int) + 1), ((l.take i).filter (below code) ++ [x6]))) else none) else none) else some (Sum.inl (((i : Int) + 1), (l.take i).filter (below code)))) = (some (Sum.inl (((i + 1 : Nat) : Int), (if below code x = true then (l.take i).filter (below code) ++ [x] else (l.take i).filter (below code)))) : Option ((Int × List Ent) ⊕ List Ent)) := fun c hcc => by
   rw [hcc]
   cases below code x with
   | true => rw [if_pos rfl, if_pos (by omega), obs, if_pos (by simp; omega), if_pos rfl]; rfl
   | false => rw [if_neg (by simp), if_neg (by simp)]; rfl
  by_cases h0 : code = []
  ·have e0 : (code == ([] : Str)) = true := by simpa using h0
   simp only [e0, cond_true, Bool.not_true, cond_false, Bool.and_false, Bool.false_eq_true, if_false, obs]
   refine fin _ ?_
   unfold below
   rw [if_pos h0]
   by_cases h4 : x.Code.length = 4
   ·simp [h4]
   ·have : ((x.Code.length : Int) == 4) = false := by simp; omega
    rw [this]; simp [h4]
  ·have e0 : (code == ([] : Str)) = false := by simpa using h0
   have hpos : 0 < code.length := List.length_pos_iff.2 h0
   simp only [e0, cond_false, Bool.not_false, cond_true, Bool.true_and]
   have hw : ((x.Code.length : Int) == IntKind.i64.wrap ((code.length : Int) + 2)) = decide (x.Code.length = code.length + 2) := by
    rw [IntKind.wrap_i64, Bool.eq_iff_iff, beq_iff_eq, decide_eq_true_eq]
    omega
   rw [hw]
   by_cases h2 : x.Code.length = code.length + 2
   ·have d2 : decide (x.Code.length = code.length + 2) = true := by simpa using h2
    simp only [d2, if_true, obs, cond_true]
    refine fin _ ?_
    unfold below Lib.hasPrefix
    rw [if_neg h0, Bool.eq_iff_iff, List.isPrefixOf_iff_prefix, decide_eq_true_eq]
    have hp : parent x.Code = x.Code.take code.length := by unfold parent; congr 1; omega
    rw [hp]
    constructor
    ·rintro ⟨t, ht⟩; exact ⟨by omega, by rw [← ht]; simp⟩
    ·rintro ⟨_, hh⟩; have := List.take_append_drop code.length x.Code; rw [hh] at this; exact ⟨_, this⟩
   ·have d2 : decide (x.Code.length = code.length + 2) = false := by simpa using h2
    simp only [d2, Bool.false_eq_true, if_false, obs, cond_false]
    refine fin false ?_
    unfold below
    rw [if_neg h0]
    symm
    rw [decide_eq_false_iff_not]
    rintro ⟨h3, hh⟩
    have := congrArg List.length hh
    unfold parent at this
    rw [List.length_take] at this
    omega) (by unfold refBelow_b1; dsimp only; rw [if_neg (by simp), List.take_length])
 exact this
theorem refBelow_eq {b : YE} (h : BB b) (hc : ∀ e, e ∈ b.Entries → e.Code.length ≤ 1000) (day : Int) {code : Str} (hcl : code.length ≤ 9223372036854775807) : refBelow b day code = some (belS b day code) := by
 unfold refBelow
 rw [refAt_eq h, obs, rbelow_loop (l := atS b day) code hcl (atS_len h day) (fun e he => hc e (List.mem_filter.1 he).1)]; rfl
theorem NMade.BB {b : YE} (h : NMade b) : BB b := by
 have hl := h.len
 refine ⟨⟨by omega, fun e he => ?_⟩, by have := h.notes.1; omega, fun n hn => by have := (h.notes.2 n hn).2.2.2.1; omega⟩
 have ht := (h.mem e he).1.terms
 exact ⟨by omega, fun x hx => by have := (ht.2 x hx).2.2; omega⟩
theorem NMade.code {b : YE} (h : NMade b) : ∀ e, e ∈ b.Entries → 2 ≤ e.Code.length ∧ e.Code.length ≤ 8 ∧ lvl e.Code ≠ 0 := fun e he => oneE_len (h.mem e he).1.one
end Go.C
end
section
set_option linter.unusedVariables false
set_option linter.unusedSimpArgs false
namespace Go.C
open Go.V
theorem refHas_eq {l : List Str} (s : Str) (h : l.length ≤ 1000) : refHas l s = some (l.contains s) := by
 unfold refHas
 have step : ∀ (i : Nat) (x : Str), l[i]? = some x → refHas_b1 l s (i : Int) = if (x == s) = true then some (.inr (.inl true)) else some (.inl ((i + 1 : Nat) : Int)) := fun i x hx => by
  have hlt := zK1 hx
  unfold refHas_b1
  rw [if_pos (by simp only [decide_eq_true_eq]; omega), if_pos (by omega), itn, hx, obs, w64 (n := (i : Int) + 1) (by omega)]; rfl
 have l1 := loop_list (β := Unit) l (refHas_b1 l s) (fun i _ => (i : Int)) (fun _ _ => ()) (fun i => !(l.getD i default == s)) (.inl true) (fun _ => .inr ()) (fun _ _ => True) (fun _ _ _ _ _ => trivial)
  (fun i x _ _ hx hp => by rw [getD_of hx] at hp; rw [step i x hx, if_neg (by intro hh; rw [hh] at hp; cases hp)]) (fun i x _ _ hx hp => by rw [getD_of hx] at hp; rw [step i x hx, if_pos (by simpa using hp)]) (fun _ _ => by unfold refHas_b1; rw [if_neg (by simp)]) () trivial
 rw [show ((0 : Int)) = ((0 : Nat) : Int) from rfl, l1, range_all (fun x => !(x == s))]
 have e : (l.all fun x => !(x == s)) = !l.contains s := by
  rw [← List.not_any_eq_all_not]
  congr 1
  rw [Bool.eq_iff_iff, List.any_eq_true, List.contains_iff_mem]
  constructor
  ·rintro ⟨x, hx, he⟩; rw [← beq_iff_eq.1 he]; exact hx
  ·intro hx; exact ⟨s, hx, by simp⟩
 rw [e]
 cases l.contains s <;> rfl
theorem refSubset_eq {a b : List Str} (ha : a.length ≤ 1000) (hb : b.length ≤ 1000) : refSubset a b = some (subS a b) := by
 unfold refSubset
 have step : ∀ (i : Nat) (x : Str), a[i]? = some x → refSubset_b1 a b (i : Int) = if (!b.contains x) = true then some (.inr (.inl false)) else some (.inl ((i + 1 : Nat) : Int)) := fun i x hx => by
  have hlt := zK1 hx
  unfold refSubset_b1
  rw [if_pos (by simp only [decide_eq_true_eq]; omega), if_pos (by omega), itn, hx, obs, refHas_eq x hb, obs, w64 (n := (i : Int) + 1) (by omega)]; rfl
 have l1 := loop_list (β := Unit) a (refSubset_b1 a b) (fun i _ => (i : Int)) (fun _ _ => ()) (fun i => b.contains (a.getD i default)) (.inl false) (fun _ => .inr ()) (fun _ _ => True) (fun _ _ _ _ _ => trivial)
  (fun i x _ _ hx hp => by rw [getD_of hx] at hp; rw [step i x hx, hp]; rfl) (fun i x _ _ hx hp => by rw [getD_of hx] at hp; rw [step i x hx, hp]; rfl) (fun _ _ => by unfold refSubset_b1; rw [if_neg (by simp)]) () trivial
 rw [show ((0 : Int)) = ((0 : Nat) : Int) from rfl, l1, range_all (fun x => b.contains x)]
 unfold subS
 cases (a.all fun x => b.contains x) <;> rfl
theorem refExcluded_eq {b : YE} (h : BB b) {code : Str} (hc : code.length ≤ 9223372036854775807) {words : List Str} (hw : words.length ≤ 1000) : refExcluded b code words = some (exS b code words) := by
 unfold refExcluded
 have hl := h.notes.1
 have step : ∀ (i : Nat) (x : YW), b.Notes[i]? = some x → refExcluded_b1 b code words (i : Int) = if (Lib.hasPrefix code x.Scope && subS x.Words words) = true then some (.inr (.inl true)) else some (.inl ((i + 1 : Nat) : Int)) := fun i x hx => by
  have hlt := zK1 hx
  have hxl := h.notes.2 x (List.mem_of_getElem? hx)
  unfold refExcluded_b1
  rw [if_pos (by simp only [decide_eq_true_eq]; omega), if_pos (by omega), itn, hx, obs, refPrefix_eq _ _ hc, obs, if_pos (fun _ => by omega), w64 (n := (i : Int) + 1) (by omega), getD_of hx, refSubset_eq hxl hw]
  cases Lib.hasPrefix code x.Scope <;> cases subS x.Words words <;> rfl
 have l1 := loop_list (β := Unit) b.Notes (refExcluded_b1 b code words) (fun i _ => (i : Int)) (fun _ _ => ()) (fun i => !(Lib.hasPrefix code (b.Notes.getD i default).Scope && subS (b.Notes.getD i default).Words words)) (.inl true) (fun _ => .inr ()) (fun _ _ => True) (fun _ _ _ _ _ => trivial)
  (fun i x _ _ hx hp => by rw [getD_of hx] at hp; rw [step i x hx, if_neg (by intro hh; rw [hh] at hp; cases hp)]) (fun i x _ _ hx hp => by rw [getD_of hx] at hp; rw [step i x hx, if_pos (by simpa using hp)]) (fun _ _ => by unfold refExcluded_b1; rw [if_neg (by simp)]) () trivial
 rw [show ((0 : Int)) = ((0 : Nat) : Int) from rfl, l1, range_all (fun n : YW => !(Lib.hasPrefix code n.Scope && subS n.Words words))]
 unfold exS refExcluded_j1
 rw [← List.not_any_eq_all_not]
 cases (b.Notes.any fun n => Lib.hasPrefix code n.Scope && subS n.Words words) <;> rfl
theorem refAlts_eq {b : YE} (h : BB b) {e : Ent} (he : LB e.Terms) : refAlts b e = some (altS b e) := by
 unfold refAlts altS
 have hl := h.notes.1
 have ht := he.1
 rw [if_pos (by omega)]
 have := loop_seq (f := refAlts_b1 b e) b.Notes.length (fun i => ((i : Int), e.Terms ++ ((b.Notes.take i).filter fun n => n.Target == e.Code).map (·.Words))) (e.Terms ++ (b.Notes.filter fun n => n.Target == e.Code).map (·.Words)) (fun i hi => by
  have hfl := filter_len (fun n => n.Target == e.Code) b.Notes i
  unfold refAlts_b1 refAlts_j2
  dsimp only
  rw [if_pos (by simp only [decide_eq_true_eq]; omega), if_pos (by omega), itn, geq hi, obs, w64 (n := (i : Int) + 1) (by omega), filter_take _ hi]
  cases hc : (b.Notes[i].Target == e.Code) with
  | true => rw [if_pos rfl, if_pos (by omega), obs, if_pos (by simp only [List.length_append, List.length_map, List.length_cons, List.length_nil]; omega), if_pos rfl, List.map_append, ← List.append_assoc]; rfl
  | false => rw [if_neg (by simp), if_neg (by simp)]; rfl) (by unfold refAlts_b1; dsimp only; rw [if_neg (by simp), List.take_length])
 have e0 : ((0 : Int), e.Terms) = (((0 : Nat) : Int), e.Terms ++ ((b.Notes.take 0).filter fun n => n.Target == e.Code).map (·.Words)) := by simp
 rw [e0, this]; rfl
theorem refScore_eq {b : YE} (h : BB b) {e : Ent} (he : LB e.Terms) (hc : e.Code.length ≤ 9223372036854775807) {words : List Str} (hw : words.length ≤ 1000) : refScore b e words = some (scS b e words) := by
 unfold refScore scS
 rw [refExcluded_eq h hc hw, obs]
 cases exS b e.Code words with
 | true => rfl
 | false =>
  simp only [Bool.false_eq_true, if_false]
  obtain ⟨a1, a2⟩ := altS_LB h he
  rw [refAlts_eq h he, obs]
  have := loop_fold (β := Int) (altS b e) (refScore_b1 words (altS b e)) (fun i n => ((i : Int), n)) (fun n a => scF words n a) (fun n => n) (fun _ _ => True) (fun _ _ _ _ _ => trivial) (fun i x n _ hx => by
   have hlt := zK1 hx
   unfold refScore_b1 refScore_j2 scF
   dsimp only
   rw [if_pos (by simp only [decide_eq_true_eq]; omega), if_pos (by omega), itn, hx, obs, w64 (n := (i : Int) + 1) (by omega), refSubset_eq (a2 x (List.mem_of_getElem? hx)) hw, obs]
   cases hs : subS x words with
   | true =>
    rw [if_pos rfl, if_pos (by omega), obs]
    by_cases hcc : n < (x.length : Int)
    ·rw [if_pos hcc, if_pos ⟨hcc, rfl⟩]; rfl
    ·rw [if_neg (by omega), if_neg (fun hh => hcc hh.1)]; rfl
   | false => rw [if_neg (by simp), if_neg (by simp)]; rfl) (fun n _ => by unfold refScore_b1; dsimp only; rw [if_neg (by simp)]) 0 trivial
  rw [show ((0 : Int), (0 : Int)) = (((0 : Nat) : Int), (0 : Int)) from rfl, this]; rfl
theorem refWith_ok {l : List Str} (s : Str) (hl : l.length ≤ 1000) : ∃ r, refWith l s = some r ∧ (∀ x, x ∈ r ↔ x ∈ l ∨ x = s) ∧ r.length ≤ l.length + 1 := by
 unfold refWith
 obtain ⟨k, e, m, rfl, hm⟩ := loop_inv (f := refWith_b1 l s) (fun q x => ∃ k : Nat, q = l.length - k ∧ k ≤ l.length ∧ x = (k : Int)) (fun r => ∃ k : Nat, r = (k : Int) ∧ k ≤ l.length) (by
  rintro q x ⟨k, rfl, hk, rfl⟩
  unfold refWith_b1
  rw [if_pos (fun hh => by simp at hh; omega)]
  by_cases hlt : k < l.length
  ·have d : (k : Int) < (l.length : Int) := by omega
   simp only [d, decide_true, cond_true, itn]
   split
   ·refine .inl ⟨_, l.length - (k + 1), by omega, rfl, k + 1, rfl, by omega, ?_⟩
    rw [w64 (n := (k : Int) + 1) (by omega)]; rfl
   ·exact .inr ⟨_, rfl, k, rfl, hk⟩
  ·have d : ¬ (k : Int) < (l.length : Int) := by omega
   rw [if_neg (by simp [d])]
   exact .inr ⟨_, rfl, k, rfl, hk⟩) l.length (0 : Int) ⟨0, by simp, by omega, rfl⟩
 rw [e, obs]
 show ∃ r, refWith_j1 l s (m : Int) = some r ∧ _
 unfold refWith_j1
 rw [if_pos (fun hh => by simp at hh; omega), itn]
 by_cases hc : (bif (decide ((m : Int) < (l.length : Int))) then ((l.getD m default) == s) else false) = true
 ·rw [if_pos hc]
  have hlt : m < l.length := by
   by_cases d : (m : Int) < (l.length : Int)
   ·omega
   ·simp [d] at hc
  have d : (m : Int) < (l.length : Int) := by omega
  simp only [d, decide_true, cond_true] at hc
  refine ⟨l, rfl, fun x => ⟨.inl, fun hx => ?_⟩, by omega⟩
  rcases hx with hx | hx
  ·exact hx
  ·rw [hx, ← beq_iff_eq.1 hc, getD_get hlt]; exact List.getElem_mem hlt
 ·rw [if_neg hc, if_pos (by omega)]
  have tl : ((l.take m).drop (0 : Int).toNat).length ≤ 1000 := by simp; omega
  have dl : (l.drop m).length ≤ 1000 := by simp; omega
  rw [if_pos (by omega), if_pos (by simp only [List.length_cons, List.length_nil]; omega), if_pos (by omega), if_pos (by simp only [List.length_append, List.length_cons, List.length_nil]; omega)]
  refine ⟨_, rfl, fun x => ?_, ?_⟩
  ·show x ∈ (l.take m ++ [s]) ++ l.drop m ↔ _
   have hx : x ∈ l ↔ x ∈ l.take m ∨ x ∈ l.drop m := by rw [← List.mem_append, List.take_append_drop]
   rw [List.mem_append, List.mem_append, List.mem_singleton, hx]
   constructor
   ·rintro ((h | h) | h)
    ·exact .inl (.inl h)
    ·exact .inr h
    ·exact .inl (.inr h)
   ·rintro ((h | h) | h)
    ·exact .inl (.inl h)
    ·exact .inr h
    ·exact .inl (.inr h)
  ·show ((l.take m ++ [s]) ++ l.drop m).length ≤ _
   simp; omega
end Go.C
end
section
set_option linter.unusedVariables false
set_option linter.unusedSimpArgs false
namespace Go.C
open Go.V
open Go.Lib (decDigits)
def WOk (l : List Str) : Prop := l ≠ [] ∧ l.length ≤ 8 ∧ ∀ x, x ∈ l → isW x = true
theorem wp_isW {l : List Str} (h : (List.range l.length).all (wp l) = true) : ∀ x, x ∈ l → isW x = true := fun x hx => by
 obtain ⟨i, hi, rfl⟩ := List.getElem_of_mem hx
 have := List.all_eq_true.1 h i (List.mem_range.2 hi)
 unfold wp at this
 rw [List.getD_eq_getElem?_getD, geq hi] at this
 simp only [Option.getD_some, Bool.and_eq_true] at this
 exact this.1
theorem some1_wok {l : List Str} (h : some1 l = true) : WOk l := by
 unfold some1 wordsOk at h
 simp only [ne_eq, Bool.and_eq_true, decide_eq_true_eq] at h
 exact ⟨h.1, h.2.1, wp_isW h.2.2⟩
theorem isW_len {s : Str} (h : isW s = true) : 1 ≤ s.length ∧ s.length ≤ 12 := by
 unfold isW at h
 simp only [Bool.and_eq_true, decide_eq_true_eq] at h
 exact ⟨h.1, h.2.1⟩
theorem isW_no {s : Str} (h : isW s = true) {c : UInt8} (hc : c.toNat < 97 ∨ 122 < c.toNat) : c ∉ s := fun hm => by
 unfold isW at h
 simp only [Bool.and_eq_true, decide_eq_true_eq] at h
 obtain ⟨i, hi, rfl⟩ := List.getElem_of_mem hm
 have := List.all_eq_true.1 h.2.2 i (List.mem_range.2 hi)
 rw [List.getD_eq_getElem?_getD, geq hi] at this
 have := (isL_iff _).1 this
 simp only [Option.getD_some] at this
 omega
theorem WOk.lens {l : List Str} (h : WOk l) : [43].length * l.length + Lib.lens l ≤ 104 := by
 have := lens_le (k := 12) (fun x hx => (isW_len (h.2.2 x hx)).2)
 have := h.2.1
 simp only [List.length_cons, List.length_nil]; omega
theorem WOk.len {l : List Str} (h : WOk l) : (Lib.join l [43]).length ≤ 104 := Nat.le_trans (join_len l [43]) h.lens
theorem join_mem {c : UInt8} {sep : Str} : ∀ {l : List Str}, c ∈ Lib.join l sep → c ∈ sep ∨ ∃ x, x ∈ l ∧ c ∈ x
 | [], h => by simp [Lib.join_nil] at h
 | [x], h => by rw [Lib.join_one] at h; exact .inr ⟨x, by simp, h⟩
 | x :: y :: r, h => by
  rw [join_cons2] at h
  rcases List.mem_append.1 h with h | h
  ·rcases List.mem_append.1 h with h | h
   ·exact .inr ⟨x, by simp, h⟩
   ·exact .inl h
  ·rcases join_mem h with h | ⟨z, h1, h2⟩
   ·exact .inl h
   ·exact .inr ⟨z, List.mem_cons_of_mem _ h1, h2⟩
theorem WOk.no {l : List Str} (h : WOk l) {c : UInt8} (hc : c.toNat < 97 ∨ 122 < c.toNat) (hp : c ≠ 43) : c ∉ Lib.join l [43] := fun hm => by
 rcases join_mem hm with h1 | ⟨x, h1, h2⟩
 ·simp at h1; exact hp h1
 ·exact isW_no (h.2.2 x h1) hc h2
structure EVal (e : Ent) : Prop where
  lvl : C.lvl e.Code ≠ 0
  days : 0 ≤ e.From ∧ e.From < e.To ∧ e.To ≤ 36525
  few : e.Terms.length ≤ 6
  terms : ∀ t, t ∈ e.Terms → WOk t
  one : oneE e = 0
theorem EVal.of {e : Ent} (h : oneE e = 0) : EVal e := by
 have h0 := h
 unfold oneE at h
 by_cases c1 : C.lvl e.Code = 0
 ·rw [if_pos c1] at h; cases h
 ·rw [if_neg c1] at h
  by_cases c2 : e.From < 0 ∨ e.To ≤ e.From ∨ 36525 < e.To
  ·rw [if_pos c2] at h; cases h
  ·rw [if_neg c2] at h
   by_cases c3 : 6 < e.Terms.length
   ·rw [if_pos c3] at h; cases h
   ·rw [if_neg c3] at h
    by_cases c4 : e.Terms.all some1 = false
    ·rw [if_pos c4] at h; cases h
    ·have c5 : e.Terms.all some1 = true := by cases hh : e.Terms.all some1 with
      | true => rfl
      | false => exact absurd hh c4
     exact ⟨c1, by omega, by omega, fun t ht => some1_wok (List.all_eq_true.1 c5 t ht), h0⟩
structure NVal (n : YW) : Prop where
  scope : lvl n.Scope ≠ 0
  words : WOk n.Words
  target : n.Target = [] ∨ lvl n.Target = 4
  ok : noteOk n = true
theorem NVal.of {n : YW} (h : noteOk n = true) : NVal n := by
 have h0 := h
 unfold noteOk at h
 simp only [ne_eq, Bool.and_eq_true, Bool.or_eq_true, decide_eq_true_eq] at h
 exact ⟨h.1, some1_wok h.2.1, h.2.2, h0⟩
end Go.C
end
section
set_option linter.unusedVariables false
set_option linter.unusedSimpArgs false
namespace Go.C
open Go.V
open Go.Lib (decDigits)
theorem lvl_len {s : Str} (h : lvl s ≠ 0) : s.length ≤ 8 := by
 unfold lvl at h
 split at h
 ·omega
 ·exact absurd rfl h
theorem neI {a b : Int} (h : a ≠ b) : (a != b) = true := by simpa using h
theorem eqI {a b : Int} (h : a = b) : (a != b) = false := by simpa using h
structure BVal (b : YE) : Prop where
  ents : ∀ e, e ∈ b.Entries → EVal e
  notes : ∀ n, n ∈ b.Notes → NVal n
end Go.C
end
section
set_option linter.unusedVariables false
set_option linter.unusedSimpArgs false
namespace Go.C
open Go.V
open Go.Lib (decDigits)
theorem EVal.okE {e : Ent} (h : EVal e) : okD e := by
 have h1 := lvl_len h.lvl; have h2 := h.days; have h3 := h.few
 refine ⟨by omega, ⟨by omega, by omega⟩, ⟨by omega, by omega⟩, by omega, fun t ht => ?_⟩
 have h4 := h.terms t ht
 exact ⟨by have := h4.2.1; omega, fun w hw => by have := (isW_len (h4.2.2 w hw)).2; omega⟩
theorem NVal.okN {n : YW} (h : NVal n) : okY n := by
 have h1 := lvl_len h.scope
 refine ⟨by omega, ⟨by have := h.words.2.1; omega, fun w hw => by have := (isW_len (h.words.2.2 w hw)).2; omega⟩, ?_⟩
 rcases h.target with ht | ht
 ·rw [ht]; simp
 ·have := lvl_len (s := n.Target) (by omega); omega
theorem BVal.ok {b : YE} (h : BVal b) (hl : b.Entries.length + b.Notes.length ≤ 1000000) : okG b :=
 ⟨⟨by omega, fun e he => (h.ents e he).okE⟩, by omega, fun n hn => (h.notes n hn).okN⟩
theorem nv_len {b : YE} (h : nv b = 0) : b.Entries.length ≤ 300 ∧ b.Notes.length ≤ 100 := by
 unfold nv at h
 split at h
 ·cases h
 ·omega
theorem EVal.LB {e : Ent} (h : EVal e) : LB e.Terms := ⟨by have := h.few; omega, fun t ht => by have := (h.terms t ht).2.1; omega⟩
theorem entErr_zero {l : List Ent} (h : ferr l.length (entErr l) = 0) : ∀ e, e ∈ l → EVal e := fun e he => by
 obtain ⟨i, hi, rfl⟩ := List.getElem_of_mem he
 have h1 := entErr_one (ferr_zero.1 h i hi)
 rw [getD_of (geq hi)] at h1
 exact EVal.of h1
theorem nv_BVal {b : YE} (h : nv b = 0) : BVal b := by
 unfold nv at h
 split at h
 ·cases h
 ·split at h
  ·rename_i h1; exact absurd h h1
  ·rename_i h1
   split at h
   ·rename_i h2; exact absurd h h2
   ·refine ⟨entErr_zero (Classical.not_not.1 h1), fun n hn => ?_⟩
    obtain ⟨i, hi, rfl⟩ := List.getElem_of_mem hn
    have h4 := ferr_zero.1 h i hi
    unfold notErr at h4
    rw [getD_of (geq hi)] at h4
    split at h4
    ·rename_i h5; exact NVal.of h5
    ·cases h4
end Go.C
end
section
set_option linter.unusedVariables false
set_option linter.unusedSimpArgs false
namespace Go.C
open Go.V
theorem described_eq (l : List Str) : described l = some (decide (l ≠ []) && wordsOk l) := by
 unfold described
 cases l with
 | nil => rfl
 | cons x l =>
  have e : (0 : Int) < ((x :: l).length : Int) := by simp only [List.length_cons]; omega
  simp only [e, decide_true, if_true, validWords_eq, obs, cond_true]
  simp
def sumW (l : List Int) : Int := l.foldl (fun s x => IntKind.i64.wrap (s + x)) 0
def out1 (x : Int) : Bool := bif (decide (x < (1 : Int))) then true else (decide ((1000000 : Int) < x))
def far (l : List Int) : Bool := l.any out1
def full (l : List Int) : Bool := decide (l = []) || (sumW l == 1000000)
def gvTail (ms ps : List Int) : Int := if (far ms || far ps) = true then 2 else if (full ms && full ps) = true then 0 else 1
def gv (g : YR) : Int :=
 if some1 g.Words = false then 1
 else if 8 < g.Materials.length ∨ 6 < g.Parts.length then 8
 else if (List.range g.Materials.length).all (wp (g.Materials.map (·.Name))) = false then 1
 else if (g.Parts.all fun p => some1 p.Words) = false then 1
 else gvTail (g.Materials.map (·.Share)) (g.Parts.map (·.Share))
theorem all_out (l : List Int) : (l.all fun x => !out1 x) = !far l := by
 unfold far
 induction l with
 | nil => rfl
 | cons x l ih => simp only [List.all_cons, List.any_cons, ih]; cases out1 x <;> cases l.any out1 <;> rfl
theorem complete_eq (l : List Int) (hl : l.length ≤ 1000) : complete l = some (full l) := by
 have := loop_fold (β := Int) l (complete_b1 l) (fun i b => ((i : Int), b)) (fun b x => IntKind.i64.wrap (b + x)) (fun b => b) (fun _ _ => True) (fun _ _ _ _ _ => trivial) (fun i x b _ hx => by
  have hlt := zK1 hx
  unfold complete_b1
  dsimp only
  rw [if_pos (by simp; omega), if_pos (by omega), itn, hx, obs, w64 (n := (i : Int) + 1) (by omega)]
  rfl) (fun b _ => by unfold complete_b1; dsimp only; rw [if_neg (by simp)]) 0 trivial
 unfold complete
 rw [show ((0 : Int), (0 : Int)) = (((0 : Nat) : Int), (0 : Int)) from rfl, this, obs]
 unfold complete_j1 full sumW
 cases l with
 | nil => rfl
 | cons x l =>
  have e : (((x :: l).length : Int) == 0) = false := by simp only [List.length_cons, beq_eq_false_iff_ne, ne_eq]; omega
  rw [e]; simp
theorem concatInt_eq (a b : List Int) (ha : a.length ≤ 1000) (hb : b.length ≤ 1000) : concatInt [a, b] = some (a ++ b) := by
 have e1 : loopO (concatInt_b2 [a, b]) ((0 : Int), (0 : Int)) = some ((a.length : Int) + (b.length : Int)) := by
  rw [loop_step (x := ((1 : Int), (a.length : Int)))]
  ·rw [loop_step (x := ((2 : Int), (a.length : Int) + (b.length : Int)))]
   ·rw [loop_stop]
    unfold concatInt_b2; rfl
   ·unfold concatInt_b2
    dsimp only
    rw [if_pos (by rfl), if_pos (by decide)]
    show Option.bind (some b) _ = _
    rw [obs, w64 (n := (a.length : Int) + (b.length : Int)) (by omega), if_neg (by simp; omega)]; rfl
  ·unfold concatInt_b2
   dsimp only
   rw [if_pos (by rfl), if_pos (by decide)]
   show Option.bind (some a) _ = _
   rw [obs, w64 (n := (0 : Int) + (a.length : Int)) (by omega), if_neg (by simp), Int.zero_add (a.length : Int)]; rfl
 have e2 : growInt ((a.length : Int) + (b.length : Int)) = some [] := by
  unfold growInt growInt_j1
  rw [if_neg (by simp; omega)]
  have : (IntKind.i64.wrap (((a.length : Int) + (b.length : Int)) - (IntKind.i64.wrap ((0 : Int) - (0 : Int))))) = (a.length : Int) + (b.length : Int) := by rw [w64 (n := (0 : Int) - 0) (by omega), w64 (by omega)]; omega
  rw [this]
  split
  ·rename_i h; rw [if_pos (by simp at h; omega)]
  ·rfl
 have e3 : loopO (concatInt_b1 [a, b]) ((0 : Int), []) = some (a ++ b) := by
  rw [loop_step (x := ((1 : Int), a))]
  ·rw [loop_step (x := ((2 : Int), a ++ b))]
   ·rw [loop_stop]
    unfold concatInt_b1; rfl
   ·unfold concatInt_b1
    dsimp only
    rw [if_pos (by rfl), if_pos (by decide)]
    show Option.bind (some b) _ = _
    rw [obs, if_pos (by omega)]; rfl
  ·unfold concatInt_b1
   dsimp only
   rw [if_pos (by rfl), if_pos (by decide)]
   show Option.bind (some a) _ = _
   rw [obs, if_pos (by simp; omega)]; rfl
 unfold concatInt
 rw [e1, obs]
 unfold concatInt_j1
 dsimp only
 rw [e2, obs, e3, obs]
 rfl
theorem foldl2 {α β γ : Type} (f : α → β) (g : α → γ) : ∀ (xs : List α) (a : List β) (b : List γ), xs.foldl (fun (s : List β × List γ) x => (s.1 ++ [f x], s.2 ++ [g x])) (a, b) = (a ++ xs.map f, b ++ xs.map g)
 | [], a, b => by simp
 | x :: xs, a, b => by rw [List.foldl_cons, foldl2 f g xs]; simp
theorem foldl1 {α β γ : Type} (f : α → β) : ∀ (xs : List α) (a : List β) (b : γ), xs.foldl (fun (s : List β × γ) x => (s.1 ++ [f x], s.2)) (a, b) = (a ++ xs.map f, b)
 | [], a, b => by simp
 | x :: xs, a, b => by rw [List.foldl_cons, foldl1 f xs]; simp
theorem foldl_far {α : Type} (f : α → Int) : ∀ (xs : List α) (b : Bool), xs.foldl (fun s x => bif (bif s then true else (decide (f x < (1 : Int)))) then true else (decide ((1000000 : Int) < f x))) b = (b || far (xs.map f))
 | [], b => by simp [far]
 | x :: xs, b => by
  rw [List.foldl_cons, foldl_far f xs]
  have : far ((x :: xs).map f) = (out1 (f x) || far (xs.map f)) := rfl
  rw [this]
  unfold out1
  cases b <;> cases decide (f x < 1) <;> cases decide (1000000 < f x) <;> rfl
theorem foldl_sum {α : Type} (f : α → Int) (xs : List α) : xs.foldl (fun s x => IntKind.i64.wrap (s + f x)) 0 = sumW (xs.map f) := by
 unfold sumW; rw [List.foldl_map]
theorem validate_tail (ms ps : List Int) (h1 : ms.length ≤ 8) (h2 : ps.length ≤ 6) : goodsValidate_j2 ps ms = some (gvTail ms ps) := by
 unfold goodsValidate_j2
 rw [concatInt_eq ms ps (by omega) (by omega), obs]
 have := loop_list (β := Unit) (ms ++ ps) (goodsValidate_b1 ps ms (ms ++ ps)) (fun i _ => ((i : Int), ms ++ ps)) (fun _ _ => ()) (fun i => !out1 ((ms ++ ps).getD i default)) (.inl (2 : Int)) (fun _ => .inr ()) (fun _ _ => True) (fun _ _ _ _ _ => trivial)
  (fun i x b _ hx hp => by
   have hlt := zK1 hx
   have hl2 : (ms ++ ps).length ≤ 14 := by simp; omega
   unfold goodsValidate_b1
   dsimp only
   rw [if_pos (by simp only [decide_eq_true_eq]; omega), if_pos (by omega), itn]
   simp only [out1, Bool.not_eq_true'] at hp
   rw [hp, w64 (n := (i : Int) + 1) (by omega)]; rfl)
  (fun i x b _ hx hp => by
   have hlt := zK1 hx
   unfold goodsValidate_b1
   dsimp only
   rw [if_pos (by simp only [decide_eq_true_eq]; omega), if_pos (by omega), itn]
   simp only [out1, Bool.not_eq_false'] at hp
   rw [hp]; rfl)
  (fun b _ => by unfold goodsValidate_b1; dsimp only; rw [if_neg (by simp)]) () trivial
 rw [show ((0 : Int), ms ++ ps) = (((0 : Nat) : Int), ms ++ ps) from rfl, this, range_all (fun x => !out1 x), all_out]
 have hf : far (ms ++ ps) = (far ms || far ps) := by simp [far]
 rw [hf]
 unfold gvTail
 cases hfar : (far ms || far ps) with
 | true => rfl
 | false =>
  simp only [Bool.not_false, if_true, obs, Bool.false_eq_true, if_false]
  unfold goodsValidate_j3
  rw [complete_eq ms (by omega), complete_eq ps (by omega), obs]
  cases full ms <;> cases full ps <;> rfl
theorem goodsValidate_eq (g : YR) : goodsValidate g = some (gv g) := by
 unfold goodsValidate gv
 rw [described_eq, obs]
 show (if (!some1 g.Words) = true then _ else _) = _
 cases hw : some1 g.Words with
 | false => rfl
 | true =>
  simp only [Bool.not_true, Bool.false_eq_true, if_false, Bool.true_eq_false]
  by_cases hlim : 8 < g.Materials.length ∨ 6 < g.Parts.length
  ·rw [if_pos hlim, if_pos]
   rcases hlim with h | h
   ·have e : ((8 : Int) < (g.Materials.length : Int)) := by omega
    simp [e]
   ·have e : ((6 : Int) < (g.Parts.length : Int)) := by omega
    simp [e]
  ·rw [if_neg hlim, if_neg (by
    have e1 : ¬ ((8 : Int) < (g.Materials.length : Int)) := by omega
    have e2 : ¬ ((6 : Int) < (g.Parts.length : Int)) := by omega
    simp [e1, e2])]
   have l1 := loop_fold (β := List Int × List Str) g.Materials (goodsValidate_b3 g) (fun i b => ((i : Int), b.1, b.2)) (fun b x => (b.1 ++ [x.Share], b.2 ++ [x.Name])) (fun b => (b.1, b.2)) (fun i b => b.1.length = i ∧ b.2.length = i)
    (fun i x b hI hx => by simp [hI.1, hI.2])
    (fun i x b hI hx => by
     have hlt := zK1 hx
     unfold goodsValidate_b3
     dsimp only
     rw [if_pos (by simp only [decide_eq_true_eq]; omega), if_pos (by omega), itn, hx, obs, if_pos (by rw [hI.2]; simp; omega), if_pos (by rw [hI.1]; simp; omega), w64 (n := (i : Int) + 1) (by omega)]
     rfl)
    (fun b hI => by unfold goodsValidate_b3; dsimp only; rw [if_neg (by simp)]) ([], []) ⟨rfl, rfl⟩
   rw [show ((0 : Int), ([] : List Int), ([] : List Str)) = (((0 : Nat) : Int), ([] : List Int), ([] : List Str)) from rfl]
   rw [l1, foldl2 (fun x : YZ => x.Share) (fun x : YZ => x.Name), obs]
   simp only [List.nil_append]
   unfold goodsValidate_j1
   rw [validWords_eq, obs]
   have hwk : wordsOk (g.Materials.map (·.Name)) = (List.range g.Materials.length).all (wp (g.Materials.map (·.Name))) := by
    unfold wordsOk
    rw [List.length_map]
    have : g.Materials.length ≤ 8 := by omega
    simp [this]
   rw [hwk]
   cases hm : (List.range g.Materials.length).all (wp (g.Materials.map (·.Name))) with
   | false => rfl
   | true =>
    simp only [Bool.not_true, Bool.false_eq_true, if_false, Bool.true_eq_false]
    have l2 := loop_list (β := List Int × List Int) g.Parts (goodsValidate_b2 g) (fun i b => ((i : Int), b.1, b.2)) (fun b x => (b.1 ++ [x.Share], b.2)) (fun i => some1 (g.Parts.getD i default).Words) (.inl (1 : Int)) (fun b => .inr (b.1, b.2)) (fun i b => b.1.length = i)
     (fun i x b hI hx => by simp [hI])
     (fun i x b hI hx hp => by
      have hlt := zK1 hx
      rw [getD_of hx] at hp
      unfold goodsValidate_b2
      dsimp only
      rw [if_pos (by simp only [decide_eq_true_eq]; omega), if_pos (by omega), itn, hx, obs, described_eq, obs]
      show (if (!some1 x.Words) = true then _ else _) = _
      rw [hp, if_neg (by simp), if_pos (by rw [hI]; simp; omega), w64 (n := (i : Int) + 1) (by omega)]
      rfl)
     (fun i x b hI hx hp => by
      have hlt := zK1 hx
      rw [getD_of hx] at hp
      unfold goodsValidate_b2
      dsimp only
      rw [if_pos (by simp only [decide_eq_true_eq]; omega), if_pos (by omega), itn, hx, obs, described_eq, obs]
      show (if (!some1 x.Words) = true then _ else _) = _
      rw [hp]; rfl)
     (fun b hI => by unfold goodsValidate_b2; dsimp only; rw [if_neg (by simp)]) ([], g.Materials.map (·.Share)) rfl
    rw [show ((0 : Int), ([] : List Int), g.Materials.map (·.Share)) = (((0 : Nat) : Int), ([] : List Int), g.Materials.map (·.Share)) from rfl]
    rw [l2, range_all (fun p : YI => some1 p.Words), foldl1 (fun x : YI => x.Share)]
    cases hp : (g.Parts.all fun p => some1 p.Words) with
    | false => rfl
    | true =>
     simp only [if_true, obs, Bool.true_eq_false, if_false, List.nil_append]
     exact validate_tail _ _ (by simp; omega) (by simp; omega)
theorem ref_sums (g : YR) (h1 : g.Materials.length ≤ 8) (h2 : g.Parts.length ≤ 6) (t : Bool) : refGood_j3 g t = some (if t = true then 2 else if (full (g.Materials.map (·.Share)) && full (g.Parts.map (·.Share))) = true then 0 else 1) := by
 unfold refGood_j3
 cases t with
 | true => rfl
 | false =>
  simp only [Bool.false_eq_true, if_false]
  have l1 := loop_fold (β := Int) g.Materials (refGood_b2 g) (fun i b => ((i : Int), b)) (fun b x => IntKind.i64.wrap (b + x.Share)) (fun b => b) (fun _ _ => True) (fun _ _ _ _ _ => trivial) (fun i x b _ hx => by
   have hlt := zK1 hx
   unfold refGood_b2
   dsimp only
   rw [if_pos (by simp only [decide_eq_true_eq]; omega), if_pos (by omega), itn, hx, obs, w64 (n := (i : Int) + 1) (by omega)]
   rfl) (fun b _ => by unfold refGood_b2; dsimp only; rw [if_neg (by simp)]) 0 trivial
  rw [show ((0 : Int), (0 : Int)) = (((0 : Nat) : Int), (0 : Int)) from rfl, l1, obs, foldl_sum (fun x : YZ => x.Share)]
  try dsimp only
  unfold refGood_j4
  have l2 := loop_fold (β := Int) g.Parts (refGood_b1 g (sumW (g.Materials.map (·.Share)))) (fun i b => ((i : Int), b)) (fun b x => IntKind.i64.wrap (b + x.Share)) (fun b => b) (fun _ _ => True) (fun _ _ _ _ _ => trivial) (fun i x b _ hx => by
   have hlt := zK1 hx
   unfold refGood_b1
   dsimp only
   rw [if_pos (by simp only [decide_eq_true_eq]; omega), if_pos (by omega), itn, hx, obs, w64 (n := (i : Int) + 1) (by omega)]
   rfl) (fun b _ => by unfold refGood_b1; dsimp only; rw [if_neg (by simp)]) 0 trivial
  rw [show ((0 : Int), (0 : Int)) = (((0 : Nat) : Int), (0 : Int)) from rfl, l2, obs, foldl_sum (fun x : YI => x.Share)]
  try dsimp only
  unfold refGood_j5 full
  have e1 : decide ((0 : Int) < (g.Materials.length : Int)) = !decide (g.Materials.map (·.Share) = []) := by
   cases g.Materials with
   | nil => rfl
   | cons x l => simp only [List.length_cons, List.map_cons]; simp
  have e2 : decide ((0 : Int) < (g.Parts.length : Int)) = !decide (g.Parts.map (·.Share) = []) := by
   cases g.Parts with
   | nil => rfl
   | cons x l => simp only [List.length_cons, List.map_cons]; simp
  rw [e1, e2]
  have e3 : ∀ x : Int, (x != 1000000) = !(x == 1000000) := fun _ => rfl
  rw [e3, e3]
  cases decide (g.Materials.map (·.Share) = []) <;> cases decide (g.Parts.map (·.Share) = []) <;> cases (sumW (g.Materials.map (·.Share)) == 1000000) <;> cases (sumW (g.Parts.map (·.Share)) == 1000000) <;> rfl
theorem refGood_eq (g : YR) (hok : okT g) : refGood g = some (gv g) := by
 obtain ⟨⟨hw1, hw2⟩, ⟨hm1, hm2⟩, ⟨hp1, hp2⟩⟩ := hok
 unfold refGood gv
 rw [refWords_eq _ hw1 hw2, obs]
 have e0 : (bif (!wordsOk g.Words) then true else ((g.Words.length : Int) == (0 : Int))) = !some1 g.Words := by
  unfold some1
  cases g.Words with
  | nil => cases wordsOk [] <;> rfl
  | cons x l =>
   have e : (((x :: l).length : Int) == 0) = false := by simp only [List.length_cons, beq_eq_false_iff_ne, ne_eq]; omega
   rw [e]; cases wordsOk (x :: l) <;> rfl
 rw [e0]
 cases hw : some1 g.Words with
 | false => rfl
 | true =>
  simp only [Bool.not_true, Bool.false_eq_true, if_false, Bool.true_eq_false]
  by_cases hlim : 8 < g.Materials.length ∨ 6 < g.Parts.length
  ·rw [if_pos hlim, if_pos]
   rcases hlim with h | h
   ·have e : ((8 : Int) < (g.Materials.length : Int)) := by omega
    simp [e]
   ·have e : ((6 : Int) < (g.Parts.length : Int)) := by omega
    simp [e]
  ·rw [if_neg hlim, if_neg (by
    have e1 : ¬ ((8 : Int) < (g.Materials.length : Int)) := by omega
    have e2 : ¬ ((6 : Int) < (g.Parts.length : Int)) := by omega
    simp [e1, e2])]
   have step : ∀ (i : Nat) (x : YZ), g.Materials[i]? = some x → refGood_b5 g (i : Int) = if (!wp (g.Materials.map (·.Name)) i) = true then some (.inr (.inl 1)) else some (.inl ((i + 1 : Nat) : Int)) := fun i x hx => by
    have hlt := zK1 hx
    unfold refGood_b5
    dsimp only
    rw [if_pos (by simp only [decide_eq_true_eq]; omega), if_pos (by omega), itn, hx, obs, refWord_eq x.Name (hm2 x (List.mem_of_getElem? hx)).1, obs]
    rw [if_pos (fun h => by
     have : (0 : Int) < (i : Int) := by simp at h; omega
     rw [w64 (by omega)]; omega)]
    have hn : ∀ j, (g.Materials.map (·.Name)).getD j default = (g.Materials.getD j default).Name := fun j => by
     simp only [List.getD_eq_getElem?_getD, List.getElem?_map]
     cases g.Materials[j]? <;> rfl
    rw [← wp_cond, hn, hn, getD_of hx, w64 (n := (i : Int) + 1) (by omega)]
    by_cases h0 : i = 0
    ·subst h0; rfl
    ·rw [pre_nat (by omega) (by omega)]; rfl
   have l1 := loop_list (β := Unit) g.Materials (refGood_b5 g) (fun i _ => (i : Int)) (fun _ _ => ()) (wp (g.Materials.map (·.Name))) (.inl (1 : Int)) (fun _ => .inr ()) (fun _ _ => True) (fun _ _ _ _ _ => trivial)
    (fun i x b _ hx hp => by rw [step i x hx, hp]; rfl) (fun i x b _ hx hp => by rw [step i x hx, hp]; rfl) (fun b _ => by unfold refGood_b5; dsimp only; rw [if_neg (by simp)]) () trivial
   rw [show ((0 : Int) = ((0 : Nat) : Int)) from rfl, l1]
   cases hm : (List.range g.Materials.length).all (wp (g.Materials.map (·.Name))) with
   | false => rfl
   | true =>
    simp only [if_true, obs, Bool.true_eq_false, if_false]
    unfold refGood_j1
    have cnd : ∀ (i : Nat) (x : YI), g.Parts[i]? = some x → (bif (!wordsOk x.Words) then true else ((x.Words.length : Int) == (0 : Int))) = !some1 x.Words := fun i x hx => by
     unfold some1
     cases x.Words with
     | nil => cases wordsOk [] <;> rfl
     | cons y l =>
      have e : (((y :: l).length : Int) == 0) = false := by simp only [List.length_cons, beq_eq_false_iff_ne, ne_eq]; omega
      rw [e]; cases wordsOk (y :: l) <;> rfl
    have l2 := loop_list (β := Bool) g.Parts (refGood_b4 g) (fun i b => ((i : Int), b)) (fun b x => bif (bif b then true else (decide (x.Share < (1 : Int)))) then true else (decide ((1000000 : Int) < x.Share))) (fun i => some1 (g.Parts.getD i default).Words) (.inl (1 : Int)) (fun b => .inr b) (fun _ _ => True) (fun _ _ _ _ _ => trivial)
     (fun i x b _ hx hp => by
      have hlt := zK1 hx
      rw [getD_of hx] at hp
      have hr := (hp2 x (List.mem_of_getElem? hx)).1
      unfold refGood_b4
      dsimp only
      rw [if_pos (by simp only [decide_eq_true_eq]; omega), if_pos (by omega), itn, hx, obs, refWords_eq _ hr.1 hr.2, obs, if_pos (fun _ => by omega), getD_of hx, cnd i x hx, hp, if_neg (by simp), if_pos (fun _ => by omega), if_pos (fun _ => by omega), w64 (n := (i : Int) + 1) (by omega)]
      rfl)
     (fun i x b _ hx hp => by
      have hlt := zK1 hx
      rw [getD_of hx] at hp
      have hr := (hp2 x (List.mem_of_getElem? hx)).1
      unfold refGood_b4
      dsimp only
      rw [if_pos (by simp only [decide_eq_true_eq]; omega), if_pos (by omega), itn, hx, obs, refWords_eq _ hr.1 hr.2, obs, if_pos (fun _ => by omega), getD_of hx, cnd i x hx, hp]
      rfl)
     (fun b _ => by unfold refGood_b4; dsimp only; rw [if_neg (by simp)]) false trivial
    rw [show ((0 : Int), false) = (((0 : Nat) : Int), false) from rfl, l2, range_all (fun p : YI => some1 p.Words), foldl_far (fun x : YI => x.Share)]
    cases hp : (g.Parts.all fun p => some1 p.Words) with
    | false => rfl
    | true =>
     simp only [if_true, obs, Bool.true_eq_false, if_false, Bool.false_or]
     unfold refGood_j2
     have l3 := loop_fold (β := Bool) g.Materials (refGood_b3 g) (fun i b => ((i : Int), b)) (fun b x => bif (bif b then true else (decide (x.Share < (1 : Int)))) then true else (decide ((1000000 : Int) < x.Share))) (fun b => b) (fun _ _ => True) (fun _ _ _ _ _ => trivial)
      (fun i x b _ hx => by
       have hlt := zK1 hx
       unfold refGood_b3
       dsimp only
       rw [if_pos (by simp only [decide_eq_true_eq]; omega), if_pos (fun _ => by omega), if_pos (fun _ => by omega), itn, getD_of hx, w64 (n := (i : Int) + 1) (by omega)]
       rfl)
      (fun b _ => by unfold refGood_b3; dsimp only; rw [if_neg (by simp)]) (far (g.Parts.map (·.Share))) trivial
     rw [show ∀ b : Bool, ((0 : Int), b) = (((0 : Nat) : Int), b) from fun _ => rfl, l3, obs, foldl_far (fun x : YZ => x.Share)]
     try dsimp only
     rw [ref_sums g (by omega) (by omega)]
     unfold gvTail
     cases far (g.Parts.map (·.Share)) <;> cases far (g.Materials.map (·.Share)) <;> rfl
def Shs (l : List Int) : Prop := l = [] ∨ ShOk l
structure MOk (g : YR) : Prop where
  words : Asc g.Words ∧ g.Words ≠ [] ∧ g.Words.length ≤ 4
  mats : Asc (g.Materials.map (·.Name)) ∧ g.Materials.length ≤ 4 ∧ Shs (g.Materials.map (·.Share))
  parts : (∀ p, p ∈ g.Parts → Asc p.Words ∧ p.Words ≠ [] ∧ p.Words.length ≤ 3) ∧ g.Parts.length ≤ 3 ∧ Shs (g.Parts.map (·.Share))
def names4 : List Str := [([103, 108, 97, 115, 115] : Str), ([108, 97, 109, 112] : Str), ([115, 116, 101, 101, 108] : Str), ([119, 111, 111, 100] : Str)]
theorem asc_names : Asc names4 := ⟨by decide, by decide⟩
theorem parts_ok (v2 : List Str × YH) (v3 : Int × YH) (hv2 : Asc v2.1 ∧ v2.1 ≠ [] ∧ v2.1.length ≤ 4) (ms : List YZ) (hms : Asc (ms.map (·.Name)) ∧ ms.length ≤ 4 ∧ Shs (ms.map (·.Share))) (L : List Int) (I : Int) (hs : SOk ⟨L, I⟩) :
  ∃ g, madeGood_j1 v2 v3 ms L I = some g ∧ MOk g := by
 unfold madeGood_j1
 obtain ⟨r1, s1, e1, b1, b2, k1⟩ := next_ok (n := 3) hs (by omega) (by omega)
 rw [e1, obs]
 dsimp only
 split
 ·obtain ⟨r2, s2, e2, b3, b4, k2⟩ := next_ok (n := 3) k1 (by omega) (by omega)
  rw [e2, obs]
  dsimp only
  obtain ⟨n, rfl⟩ : ∃ n : Nat, r2 = (n : Int) := ⟨r2.toNat, by omega⟩
  rw [w64 (n := 1 + (n : Int)) (by omega), show (1 : Int) + (n : Int) = ((1 + n : Nat) : Int) by omega]
  obtain ⟨sh, s3, e3, hl, hsh, k3⟩ := shares_ok k2 (1 + n) (by omega) (by omega)
  rw [e3, obs]
  dsimp only
  obtain ⟨⟨ms', ps⟩, eo, ho1, ho2, ho3⟩ := loop_inv (f := madeGood_b1 v2 v3 (sh, s3)) (fun m x => ∃ k : Nat, m = sh.length - k ∧ k ≤ sh.length ∧ x.1 = (k : Int) ∧ x.2.1 = ms ∧ x.2.2.1.map (·.Share) = sh.take k ∧ (∀ p, p ∈ x.2.2.1 → Asc p.Words ∧ p.Words ≠ [] ∧ p.Words.length ≤ 3) ∧ SOk ⟨x.2.2.2.1, x.2.2.2.2⟩)
   (fun r => r.1 = ms ∧ r.2.map (·.Share) = sh ∧ (∀ p, p ∈ r.2 → Asc p.Words ∧ p.Words ≠ [] ∧ p.Words.length ≤ 3)) (by
   rintro m ⟨i, c1, c2, cL, cI⟩ ⟨k, rfl, hk, hi, hc, hsum, hp, hso⟩
   simp only at hi hc hsum hp hso
   subst hi; subst hc
   unfold madeGood_b1
   dsimp only
   by_cases hlt : k < sh.length
   ·refine .inl ?_
    rw [if_pos (by simp only [decide_eq_true_eq]; omega)]
    obtain ⟨ws, s4, e4, w1, w2, w3, k4⟩ := words_ok hso 3 (by omega) (by omega)
    rw [show (3 : Int) = ((3 : Nat) : Int) from rfl, e4, obs, if_pos (by omega), itn, geq hlt, obs]
    have hcl : c2.length = k := by have := congrArg List.length hsum; simp at this; omega
    rw [if_pos (by simp; omega), w64 (n := (k : Int) + 1) (by omega)]
    refine ⟨_, sh.length - (k + 1), by omega, rfl, k + 1, rfl, by omega, rfl, rfl, ?_, fun p hp' => ?_, k4⟩
    ·simp only [List.map_append, List.map_cons, List.map_nil, hsum]
     rw [List.take_add_one, geq hlt]; rfl
    ·rcases List.mem_append.1 hp' with h | h
     ·exact hp p h
     ·simp at h; subst h; exact ⟨w1, w2, w3⟩
   ·refine .inr ?_
    have : k = sh.length := by omega
    subst this
    rw [if_neg (by simp)]
    exact ⟨_, rfl, rfl, by simpa using hsum, hp⟩) sh.length ((0 : Int), ms, [], s3.L, s3.I) ⟨0, rfl, by omega, rfl, rfl, by simp, fun p hp => by simp at hp, k3⟩
  simp only at ho1 ho2 ho3
  rw [eo, obs]
  unfold madeGood_j2
  refine ⟨_, rfl, hv2, by rw [ho1]; exact hms, ho3, ?_, .inr (by simp only; rw [ho2]; exact hsh)⟩
  have := congrArg List.length ho2
  simp only [List.length_map] at this
  simp only
  omega
 ·unfold madeGood_j2
  exact ⟨_, rfl, hv2, hms, fun p hp => by simp at hp, by simp, .inl rfl⟩
theorem madeGood_ok (l : List Int) : ∃ g, madeGood l = some g ∧ MOk g := by
 unfold madeGood
 obtain ⟨v, e0, hv⟩ := cut_ok l 60 (by omega)
 rw [show (60 : Int) = ((60 : Nat) : Int) from rfl, e0, obs]
 obtain ⟨ws, s1, e1, w1, w2, w3, k1⟩ := words_ok (s := ⟨v, 0⟩) ⟨by simp only; omega, by simp only; omega, by simp only; omega⟩ 4 (by omega) (by omega)
 rw [show (4 : Int) = ((4 : Nat) : Int) from rfl, e1, obs]
 dsimp only
 obtain ⟨r2, s2, e2, b1, b2, k2⟩ := next_ok (n := ((4 : Nat) : Int)) k1 (by omega) (by omega)
 rw [e2, obs]
 dsimp only
 obtain ⟨r3, s3, e3, b3, b4, k3⟩ := next_ok (n := ((4 : Nat) : Int)) k2 (by omega) (by omega)
 rw [e3, obs]
 dsimp only
 split
 ·rename_i hpos
  simp only [decide_eq_true_eq] at hpos
  obtain ⟨r4, s4, e4, b5, b6, k4⟩ := next_ok (n := 2) k3 (by omega) (by omega)
  rw [e4, obs]
  dsimp only
  rw [if_pos (by simp only [List.length_cons, List.length_nil]; omega)]
  obtain ⟨j, rfl⟩ : ∃ j : Nat, r4 = (j : Int) := ⟨r4.toNat, by omega⟩
  obtain ⟨n, rfl⟩ : ∃ n : Nat, r3 = (n : Int) := ⟨r3.toNat, by omega⟩
  show ∃ g, ((srcShares s4 (if (((names4.drop (j : Int).toNat).length : Nat) : Int) < (n : Int) then (((names4.drop (j : Int).toNat).length : Nat) : Int) else (n : Int))).bind _) = some g ∧ MOk g
  have hdl : (names4.drop (j : Int).toNat).length = 4 - j := by simp [names4]
  rw [if_neg (by rw [hdl]; omega)]
  obtain ⟨sh, s5, e5, hl, hsh, k5⟩ := shares_ok k4 n (by omega) (by omega)
  rw [e5, obs]
  dsimp only
  obtain ⟨ms, eo, ho1, ho2⟩ := loop_inv (f := madeGood_b2 (ws, s1) (r2, s2) ((j : Int), s4) (sh, s5)) (fun m x => ∃ k : Nat, m = sh.length - k ∧ k ≤ sh.length ∧ x.1 = (k : Int) ∧ x.2.map (·.Share) = sh.take k ∧ x.2.map (·.Name) = (names4.drop j).take k)
   (fun r => r.map (·.Share) = sh ∧ r.map (·.Name) = (names4.drop j).take sh.length) (by
   rintro m ⟨i, c1⟩ ⟨k, rfl, hk, hi, hsum, hnm⟩
   simp only at hi hsum hnm
   subst hi
   unfold madeGood_b2
   dsimp only
   by_cases hlt : k < sh.length
   ·refine .inl ?_
    have hdj : k < (names4.drop j).length := by rw [itn] at hdl; omega
    rw [if_pos (by simp only [decide_eq_true_eq]; omega), if_pos (by omega)]
    have hget : ([([103, 108, 97, 115, 115] : Str), ([108, 97, 109, 112] : Str), ([115, 116, 101, 101, 108] : Str), ([119, 111, 111, 100] : Str)].drop (j : Int).toNat)[(k : Int).toNat]? = some ((names4.drop j)[k]) := by
     show (names4.drop (j : Int).toNat)[(k : Int).toNat]? = _
     rw [itn, itn, geq hdj]
    rw [hget, obs, if_pos (by omega), itn, geq hlt, obs]
    have hcl : c1.length = k := by have := congrArg List.length hsum; simp at this; omega
    rw [if_pos (by simp; omega), w64 (n := (k : Int) + 1) (by omega)]
    refine ⟨_, sh.length - (k + 1), by omega, rfl, k + 1, rfl, by omega, rfl, ?_, ?_⟩
    ·simp only [List.map_append, List.map_cons, List.map_nil, hsum]
     rw [List.take_add_one, geq hlt]; rfl
    ·simp only [List.map_append, List.map_cons, List.map_nil, hnm]
     rw [List.take_add_one, geq hdj]; rfl
   ·refine .inr ?_
    have : k = sh.length := by omega
    subst this
    rw [if_neg (by simp)]
    exact ⟨_, rfl, by simpa using hsum, hnm⟩) sh.length ((0 : Int), []) ⟨0, rfl, by omega, rfl, by simp, by simp⟩
  rw [eo, obs]
  try dsimp only
  have hml : ms.length = sh.length := by have := congrArg List.length ho1; simpa using this
  exact parts_ok _ _ ⟨w1, w2, w3⟩ ms ⟨by rw [ho2]; exact asc_names.sub ((List.take_sublist _ _).trans (List.drop_sublist _ _)), by omega, .inr (by rw [ho1]; exact hsh)⟩ _ _ k5
 ·exact parts_ok _ _ ⟨w1, w2, w3⟩ [] ⟨⟨by simp, by simp⟩, by simp, .inl rfl⟩ _ _ k3
theorem sum_pos {l : List Int} (h : ∀ x, x ∈ l → 1 ≤ x ∧ x ≤ 1000000) : 0 ≤ l.sum := by
 induction l with
 | nil => simp
 | cons x l ih => have := h x (by simp); have := ih (fun y hy => h y (by simp [hy])); simp only [List.sum_cons]; omega
theorem sumW_acc {l : List Int} (h : ∀ x, x ∈ l → 1 ≤ x ∧ x ≤ 1000000) : ∀ a : Int, 0 ≤ a → a + l.sum ≤ 1000000000 → l.foldl (fun s x => IntKind.i64.wrap (s + x)) a = a + l.sum := by
 induction l with
 | nil => intro a _ _; simp
 | cons x l ih =>
  intro a ha hs
  have hx := h x (by simp)
  have hp := sum_pos (fun y hy => h y (List.mem_cons_of_mem _ hy))
  simp only [List.sum_cons] at hs ⊢
  rw [List.foldl_cons, w64 (by omega), ih (fun y hy => h y (by simp [hy])) (a + x) (by omega) (by omega)]
  omega
theorem ShOk.full {l : List Int} (h : ShOk l) : full l = true := by
 have := sumW_acc h.rng 0 (by omega) (by rw [h.sum]; omega)
 unfold C.full sumW
 rw [this, h.sum]; simp
theorem ShOk.far {l : List Int} (h : ∀ x, x ∈ l → 1 ≤ x ∧ x ≤ 1000000) : far l = false := by
 unfold C.far
 rw [List.any_eq_false]
 intro x hx
 have := h x hx
 unfold out1
 exact rng_f this
theorem Shs.full {l : List Int} (h : Shs l) : full l = true := by
 rcases h with rfl | h
 ·rfl
 ·exact h.full
theorem Shs.far {l : List Int} (h : Shs l) : far l = false := by
 rcases h with rfl | h
 ·rfl
 ·exact ShOk.far h.rng
theorem MOk.gv {g : YR} (h : MOk g) : gv g = 0 := by
 obtain ⟨⟨a1, a2, a3⟩, ⟨b1, b2, b3⟩, ⟨c1, c2, c3⟩⟩ := h
 have hp : (g.Parts.all fun p => C.some1 p.Words) = true := by
  rw [List.all_eq_true]
  intro p hp
  obtain ⟨d1, d2, d3⟩ := c1 p hp
  exact d1.some1 d2 (by omega)
 have hm := b1.wp
 rw [List.length_map] at hm
 unfold C.gv gvTail
 rw [a1.some1 a2 (by omega), if_neg (by simp), if_neg (by omega), hm, if_neg (by simp), hp, if_neg (by simp), b3.far, c3.far, b3.full, c3.full]
 rfl
theorem Asc.len {l : List Str} (h : Asc l) : ∀ x, x ∈ l → x.length ≤ 12 := fun x hx => by
 have := h.2 x hx
 simp [isW] at this
 omega
theorem Shs.rng {l : List Int} (h : Shs l) : ∀ x, x ∈ l → okI_i64 x := fun x hx => by
 rcases h with rfl | h
 ·simp at hx
 ·have := h.rng x hx; unfold okI_i64; omega
theorem MOk.okW {g : YR} (h : MOk g) : g.Words.length ≤ 9223372036854775807 ∧ ∀ x, x ∈ g.Words → x.length ≤ 9223372036854775807 :=
 ⟨by have := h.words.2.2; omega, fun x hx => by have := h.words.1.len x hx; omega⟩
theorem MOk.okM {g : YR} (h : MOk g) : g.Materials.length ≤ 9223372036854775807 ∧ ∀ x, x ∈ g.Materials → okB1 x :=
 ⟨by have := h.mats.2.1; omega, fun x hx => ⟨by have := h.mats.1.len x.Name (List.mem_map.2 ⟨x, hx, rfl⟩); omega, h.mats.2.2.rng x.Share (List.mem_map.2 ⟨x, hx, rfl⟩)⟩⟩
theorem MOk.okP {g : YR} (h : MOk g) : g.Parts.length ≤ 9223372036854775807 ∧ ∀ x, x ∈ g.Parts → okK x :=
 ⟨by have := h.parts.2.1; omega, fun x hx => by
  obtain ⟨a1, a2, a3⟩ := h.parts.1 x hx
  exact ⟨⟨by omega, fun y hy => by have := a1.len y hy; omega⟩, h.parts.2.2.rng x.Share (List.mem_map.2 ⟨x, hx, rfl⟩)⟩⟩
structure GOk (g : YR) : Prop where
  words : WOk g.Words
  mats : g.Materials.length ≤ 8 ∧ ∀ m, m ∈ g.Materials → isW m.Name = true ∧ 1 ≤ m.Share ∧ m.Share ≤ 1000000
  parts : g.Parts.length ≤ 6 ∧ ∀ p, p ∈ g.Parts → WOk p.Words ∧ 1 ≤ p.Share ∧ p.Share ≤ 1000000
theorem far_false {l : List Int} (h : far l = false) : ∀ x, x ∈ l → 1 ≤ x ∧ x ≤ 1000000 := fun x hx => by
 unfold far at h
 have := List.any_eq_false.1 h x hx
 unfold out1 at this
 by_cases h1 : x < 1
 ·simp [h1] at this
 ·by_cases h2 : 1000000 < x
  ·simp [h2] at this
  ·omega
theorem gv_gok {g : YR} (h : gv g = 0) : GOk g := by
 unfold gv at h
 split at h
 ·cases h
 rename_i h1
 split at h
 ·cases h
 rename_i h2
 split at h
 ·cases h
 rename_i h3
 split at h
 ·cases h
 rename_i h4
 unfold gvTail at h
 split at h
 ·cases h
 rename_i h5
 simp only [Bool.not_eq_false] at h1 h3 h4
 simp only [Bool.or_eq_true, not_or, Bool.not_eq_true] at h5
 have hf1 := far_false h5.1
 have hf2 := far_false h5.2
 refine ⟨some1_wok h1, ⟨by omega, fun m hm => ?_⟩, ⟨by omega, fun p hp => ?_⟩⟩
 ·have hn := wp_isW (l := g.Materials.map (·.Name)) (by rw [List.length_map]; exact h3) m.Name (List.mem_map.2 ⟨m, hm, rfl⟩)
  have := hf1 m.Share (List.mem_map.2 ⟨m, hm, rfl⟩)
  exact ⟨hn, this⟩
 ·have := hf2 p.Share (List.mem_map.2 ⟨p, hp, rfl⟩)
  exact ⟨some1_wok (List.all_eq_true.1 h4 p hp), this⟩
end Go.C
end
end zWb
noncomputable section zWc
section
set_option linter.unusedVariables false
set_option linter.unusedSimpArgs false
namespace Go.C
open Go.V
theorem sort_small (l : List YI) (h : l.length ≤ 19) : sortStable l = (insSort l 0 (l.length : Int)) := by
 unfold sortStable stableSort
 have e1 : loopO (stableSort_b3 (l.length : Int)) ((20 : Int), (0 : Int), l) = some ((0 : Int), l) := by
  rw [loop_stop]
  unfold stableSort_b3
  dsimp only
  rw [if_neg (by simp only [decide_eq_true_eq]; omega)]
 rw [e1, obs]
 dsimp only
 unfold stableSort_j1
 cases hi : insSort l 0 (l.length : Int) with
 | none => rfl
 | some v =>
  rw [obs]
  have e2 : loopO (stableSort_b1 (l.length : Int) v) (20 : Int) = some () := by
   rw [loop_stop]
   unfold stableSort_b1
   dsimp only
   rw [if_neg (by simp only [decide_eq_true_eq]; omega)]
  rw [e2]; rfl
structure GB (g : YR) : Prop where
  words : g.Words.length ≤ 8
  mats : g.Materials.length ≤ 8
  parts : g.Parts.length ≤ 6 ∧ ∀ p, p ∈ g.Parts → p.Words.length ≤ 8
theorem MOk.GB {g : YR} (h : MOk g) : GB g := ⟨by have := h.words.2.2; omega, by have := h.mats.2.1; omega, by have := h.parts.2.1; omega, fun p hp => by have := (h.parts.1 p hp).2.2; omega⟩
theorem GOk.GB {g : YR} (h : GOk g) : GB g := ⟨h.words.2.1, h.mats.1, h.parts.1, fun p hp => (h.parts.2 p hp).1.2.1⟩
abbrev Cp := YI
def insR : List Cp → Cp → List Cp
  | [], x => [x]
  | y :: p, x => if y.Share < x.Share then x :: y :: p else y :: insR p x
def Desc (l : List Cp) : Prop := l.Pairwise (fun a b => b.Share ≤ a.Share)
theorem insR_split {x : Cp} {B : List Cp} (hB : ∀ b, b ∈ B → b.Share < x.Share) : ∀ {A : List Cp}, (∀ a, a ∈ A → x.Share ≤ a.Share) → insR (A ++ B) x = A ++ x :: B
 | [], _ => by
  cases B with
  | nil => rfl
  | cons b B => simp only [List.nil_append, insR]; rw [if_pos (hB b (by simp))]
 | a :: A, h => by
  simp only [List.cons_append, insR]
  rw [if_neg (by have := h a (by simp); omega), insR_split hB (fun b hb => h b (by simp [hb]))]
theorem insR_mem {x y : Cp} : ∀ {p : List Cp}, y ∈ insR p x → y = x ∨ y ∈ p
 | [], h => by simp [insR] at h; exact .inl h
 | z :: p, h => by
  simp only [insR] at h
  split at h
  ·simp only [List.mem_cons] at h ⊢; exact h
  ·rcases List.mem_cons.1 h with rfl | h
   ·simp
   ·rcases insR_mem h with h | h <;> simp [h]
theorem insR_desc {x : Cp} : ∀ {p : List Cp}, Desc p → Desc (insR p x)
 | [], h => by simp [insR, Desc]
 | z :: p, h => by
  unfold Desc at h ⊢
  rw [List.pairwise_cons] at h
  simp only [insR]
  split
  ·rename_i hz
   refine List.pairwise_cons.2 ⟨fun b hb => ?_, List.pairwise_cons.2 h⟩
   rcases List.mem_cons.1 hb with rfl | hb
   ·omega
   ·have := h.1 b hb; omega
  ·rename_i hz
   refine List.pairwise_cons.2 ⟨fun b hb => ?_, insR_desc h.2⟩
   rcases insR_mem hb with rfl | hb
   ·omega
   ·exact h.1 b hb
theorem insR_len {x : Cp} : ∀ {p : List Cp}, (insR p x).length = p.length + 1
 | [] => rfl
 | z :: p => by simp only [insR]; split <;> simp [insR_len]
def isort (l : List Cp) : List Cp := l.foldl insR []
theorem isort_snoc (l : List Cp) (x : Cp) : isort (l ++ [x]) = insR (isort l) x := by simp [isort]
theorem snoc_ind {α : Type} {P : List α → Prop} (h0 : P []) (h1 : ∀ l x, P l → P (l ++ [x])) : ∀ l, P l := by
 intro l
 have : ∀ n, ∀ l : List α, l.length = n → P l := by
  intro n
  induction n with
  | zero => intro l hl; rw [List.eq_nil_of_length_eq_zero hl]; exact h0
  | succ n ih =>
   intro l hl
   have hne : l ≠ [] := fun h => by subst h; cases hl
   rw [← List.dropLast_concat_getLast hne]
   exact h1 _ _ (ih _ (by simp [hl]))
 exact this _ l rfl
theorem isort_desc : ∀ l, Desc (isort l) := snoc_ind (by simp [isort, Desc]) (fun l x h => by rw [isort_snoc]; exact insR_desc h)
theorem isort_len : ∀ l, (isort l).length = l.length := snoc_ind (P := fun l => (isort l).length = l.length) rfl (fun l x h => by rw [isort_snoc, insR_len, h]; simp)
theorem isort_mem : ∀ l, ∀ y, y ∈ isort l → y ∈ l := snoc_ind (P := fun l => ∀ y, y ∈ isort l → y ∈ l) (fun y h => h) (fun l x h y hy => by
 rw [isort_snoc] at hy
 rcases insR_mem hy with rfl | hy
 ·simp
 ·simp [h y hy])
theorem charLess_eq (a b : Cp) : ∃ v, charLess a b = some v ∧ (v < 0 ↔ b.Share < a.Share) := by
 unfold charLess cmpInt isNaN
 simp only [obs, bne_self_eq_false, Bool.false_eq_true, if_false]
 by_cases h1 : b.Share < a.Share
 ·exact ⟨-1, by simp [h1], by omega⟩
 ·by_cases h2 : a.Share < b.Share
  ·exact ⟨1, by simp [h1, h2], by omega⟩
  ·exact ⟨0, by simp [h1, h2], by omega⟩
theorem ins_inner (x : Cp) (rest : List Cp) (b i : Int) : ∀ (m : Nat) (A B : List Cp), A.length = m → Desc (A ++ B) → (∀ y, y ∈ B → y.Share < x.Share) → (A ++ x :: (B ++ rest)).length ≤ 1000 →
  loopO (insSort_b2 0 b i) ((A.length : Int), A ++ x :: (B ++ rest)) = some (insR (A ++ B) x ++ rest) := by
 intro m
 induction m with
 | zero =>
  intro A B hm hd hB hlen
  have hA : A = [] := List.eq_nil_of_length_eq_zero hm
  subst hA
  rw [loop_stop (r := x :: (B ++ rest))]
  ·have := insR_split hB (A := []) (fun a h => by cases h)
   rw [this]; rfl
  ·unfold insSort_b2
   dsimp only
   rw [if_pos (by simp), if_pos (by simp), if_neg (by simp), obs, if_neg (by simp)]
   rfl
 | succ m ih =>
  intro A B hm hd hB hlen
  have hne : A ≠ [] := fun h => by subst h; cases hm
  obtain ⟨A', a, rfl⟩ : ∃ A' a, A = A' ++ [a] := ⟨_, _, (List.dropLast_concat_getLast hne).symm⟩
  have hA' : A'.length = m := by simpa using hm
  have hl : ((A' ++ [a]).length : Int) = (m : Int) + 1 := by simp [hA']
  generalize hrow : (A' ++ [a]) ++ x :: (B ++ rest) = row at hlen
  have hrl : m + 1 < row.length := by rw [← hrow]; simp; omega
  have g1 : row.getD (m + 1) default = x := by
   rw [← hrow, List.getD_eq_getElem?_getD, List.getElem?_append_right (by simp; omega)]; simp [hA']
  have g2 : row.getD m default = a := by
   rw [← hrow, List.append_assoc, List.getD_eq_getElem?_getD, List.getElem?_append_right (by omega)]; simp [hA']
  have w1 : IntKind.i64.wrap ((m : Int) + 1 - 1) = (m : Int) := by rw [w64 (by omega)]; omega
  have t1 : ((m : Int) + 1).toNat = m + 1 := by omega
  obtain ⟨v, hv1, hv2⟩ := charLess_eq x a
  have hset : (row.set (m + 1) a).set m x = A' ++ x :: ((a :: B) ++ rest) := by
   rw [← hrow]
   have e1 : ((A' ++ [a]) ++ x :: (B ++ rest)).set (m + 1) a = (A' ++ [a]) ++ a :: (B ++ rest) := by
    rw [List.set_append_right _ _ (by simp; omega)]; simp [hA']
   rw [e1, List.append_assoc, List.set_append_right _ _ (by omega)]
   simp [hA']
  have body : insSort_b2 0 b i ((m : Int) + 1, row) = if v < 0 then some (.inl ((m : Int), A' ++ x :: ((a :: B) ++ rest))) else some (.inr row) := by
   unfold insSort_b2
   dsimp only
   rw [w1, t1, itn, g1, g2, if_pos (fun _ => by omega), if_pos (fun _ => by omega), if_pos (by simp only [decide_eq_true_eq]; omega), hv1, obs]
   have e0 : decide ((0 : Int) < (m : Int) + 1) = true := by simp only [decide_eq_true_eq]; omega
   rw [e0]
   by_cases hv : v < 0
   ·rw [if_pos (by simp [hv]), if_pos (by omega), if_pos (by omega), if_pos (by omega), if_pos (by simp only [List.length_set]; omega), if_pos hv, hset]
   ·rw [if_neg (by simp [hv]), if_neg hv]
  rw [hl]
  by_cases hv : v < 0
  ·rw [loop_step (x := ((m : Int), A' ++ x :: ((a :: B) ++ rest))) (by rw [body, if_pos hv])]
   have := ih A' (a :: B) hA' (by simpa using hd) (fun y hy => by
    rcases List.mem_cons.1 hy with rfl | hy
    ·exact hv2.1 hv
    ·exact hB y hy) (by rw [← hrow] at hlen; simp at hlen ⊢; omega)
   rw [hA'] at this
   rw [this]; simp
  ·rw [loop_stop (r := row) (by rw [body, if_neg hv]), ← hrow]
   have hge : x.Share ≤ a.Share := by
    have : ¬ a.Share < x.Share := fun h => hv (hv2.2 h)
    omega
   rw [insR_split hB (A := A' ++ [a]) (fun y hy => by
    rcases List.mem_append.1 hy with h | h
    ·have hd1 : Desc (A' ++ ([a] ++ B)) := by simpa using hd
     have := (List.pairwise_append.1 hd1).2.2 y h a (by simp)
     omega
    ·simp at h; subst h; exact hge)]
   simp
theorem insSort_eq (l : List Cp) (hl : l.length ≤ 500) : insSort l 0 (l.length : Int) = some (isort l) := by
 unfold insSort
 rw [w64 (n := (0 : Int) + 1) (by omega)]
 have key : ∀ (m k : Nat), k + m = l.length → 1 ≤ k → loopO (insSort_b1 0 (l.length : Int)) ((k : Int), isort (l.take k) ++ l.drop k) = some (isort l) := by
  intro m
  induction m with
  | zero =>
   intro k hk _
   have : k = l.length := by omega
   subst this
   rw [loop_stop (r := isort l)]
   unfold insSort_b1
   dsimp only
   rw [if_neg (by simp)]; simp
  | succ m ih =>
   intro k hk h1
   have hlt : k < l.length := by omega
   rw [loop_step (x := (((k + 1 : Nat) : Int), isort (l.take (k + 1)) ++ l.drop (k + 1)))]
   ·exact ih (k + 1) (by omega) (by omega)
   ·unfold insSort_b1
    dsimp only
    rw [if_pos (by simp only [decide_eq_true_eq]; omega)]
    have hil : (isort (l.take k)).length = k := by rw [isort_len]; simp; omega
    have := ins_inner l[k] (l.drop (k + 1)) (l.length : Int) (k : Int) k (isort (l.take k)) [] hil (by simpa using isort_desc _) (fun y hy => by cases hy) (by simp [hil]; omega)
    simp only [List.nil_append, List.append_nil, hil] at this
    rw [List.drop_eq_getElem_cons hlt, this, obs]
    try dsimp only
    unfold insSort_j1
    rw [w64 (n := (k : Int) + 1) (by omega), ← isort_snoc, List.take_add_one, geq hlt]
    rfl
 cases l with
 | nil =>
  rw [loop_stop (r := [])]
  ·rfl
  ·unfold insSort_b1
   rfl
 | cons y l =>
  have := key l.length 1 (by simp; omega) (by omega)
  have e : isort ((y :: l).take 1) ++ (y :: l).drop 1 = y :: l := rfl
  rw [e] at this
  show (loopO _ (((1 : Nat) : Int), y :: l)).bind _ = _
  rw [this]; rfl
structure Best (l : List Cp) (k : Nat) : Prop where
  lt : k < l.length
  before : ∀ i, i < k → (l.getD i default).Share < (l.getD k default).Share
  all : ∀ i, i < l.length → (l.getD i default).Share ≤ (l.getD k default).Share
theorem Best.unique {l : List Cp} {k k' : Nat} (h : Best l k) (h' : Best l k') : k = k' := by
 rcases Nat.lt_trichotomy k k' with hlt | rfl | hlt
 ·have := h'.before k hlt; have := h.all k' h'.lt; omega
 ·rfl
 ·have := h.before k' hlt; have := h'.all k h.lt; omega
inductive Sel : List Cp → List Cp → Prop
 | nil : Sel [] []
 | cons {l r : List Cp} {k : Nat} : Best l k → Sel (l.eraseIdx k) r → Sel l (l.getD k default :: r)
theorem Sel.fn {l r r' : List Cp} (h : Sel l r) (h' : Sel l r') : r = r' := by
 induction h generalizing r' with
 | nil =>
  cases h' with
  | nil => rfl
  | cons hb _ => have := hb.lt; simp at this
 | cons hb hs ih =>
  cases h' with
  | nil => have := hb.lt; simp at this
  | cons hb' hs' =>
   obtain rfl := hb.unique hb'
   rw [ih hs']
theorem getD_app_l {l m : List Cp} {i : Nat} (h : i < l.length) : (l ++ m).getD i default = l.getD i default := by
 rw [List.getD_eq_getElem?_getD, List.getD_eq_getElem?_getD, List.getElem?_append_left h]
theorem getD_app_r {l : List Cp} {x : Cp} : (l ++ [x]).getD l.length default = x := by
 rw [List.getD_eq_getElem?_getD, List.getElem?_append_right (Nat.le_refl _)]; simp
theorem Sel.snoc {l r : List Cp} (h : Sel l r) (x : Cp) : Sel (l ++ [x]) (insR r x) := by
 induction h with
 | nil =>
  have hb : Best [x] 0 := ⟨by simp, fun i h => by omega, fun i h => by simp at h; subst h; exact Int.le_refl _⟩
  exact Sel.cons hb Sel.nil
 | @cons l r k hb hs ih =>
  simp only [insR]
  split
  ·rename_i hx
   have hb' : Best (l ++ [x]) l.length := ⟨by simp, fun i hi => by
    rw [getD_app_l hi, getD_app_r]
    have := hb.all i hi; omega, fun i hi => by
    rw [getD_app_r]
    by_cases h : i < l.length
    ·rw [getD_app_l h]; have := hb.all i h; omega
    ·have : i = l.length := by simp at hi; omega
     subst this; rw [getD_app_r]; exact Int.le_refl _⟩
   have e : (l ++ [x]).eraseIdx l.length = l := by rw [List.eraseIdx_append_of_length_le (Nat.le_refl _)]; simp
   have := Sel.cons (r := l.getD k default :: r) hb' (by rw [e]; exact Sel.cons hb hs)
   rwa [getD_app_r] at this
  ·rename_i hx
   have hb' : Best (l ++ [x]) k := ⟨by have := hb.lt; simp; omega, fun i hi => by
    rw [getD_app_l (by have := hb.lt; omega), getD_app_l hb.lt]; exact hb.before i hi, fun i hi => by
    rw [getD_app_l hb.lt]
    by_cases h : i < l.length
    ·rw [getD_app_l h]; exact hb.all i h
    ·have : i = l.length := by simp at hi; omega
     subst this; rw [getD_app_r]; omega⟩
   have := Sel.cons (r := insR r x) hb' (by rw [List.eraseIdx_append_of_lt_length hb.lt]; exact ih)
   rwa [getD_app_l hb.lt] at this
theorem sel_isort : ∀ l, Sel l (isort l) := snoc_ind (P := fun l => Sel l (isort l)) Sel.nil (fun l x h => by rw [isort_snoc]; exact h.snoc x)
theorem ref_best (out l : List Cp) (hl : 0 < l.length) (hb : l.length ≤ 1000) : ∃ k : Nat, loopO refCharacters_b2 ((1 : Int), (0 : Int), out, l) = some ((k : Int), out, l) ∧ Best l k := by
 obtain ⟨r, e, k, rfl, hk⟩ := loop_inv (f := refCharacters_b2) (fun n s => ∃ i k : Nat, n = l.length - i ∧ i ≤ l.length ∧ s = ((i : Int), (k : Int), out, l) ∧ k < l.length ∧ (∀ j, j < k → (l.getD j default).Share < (l.getD k default).Share) ∧ ∀ j, j < i → (l.getD j default).Share ≤ (l.getD k default).Share)
  (fun r => ∃ k : Nat, r = ((k : Int), out, l) ∧ Best l k) (by
  rintro n s ⟨i, k, rfl, hi, rfl, hk, h1, h2⟩
  unfold refCharacters_b2 refCharacters_j4
  dsimp only
  by_cases hlt : i < l.length
  ·refine .inl ?_
   rw [if_pos (by simp only [decide_eq_true_eq]; omega), if_pos (by omega), if_pos (by omega), itn, itn, w64 (n := (i : Int) + 1) (by omega)]
   by_cases hc : (l.getD k default).Share < (l.getD i default).Share
   ·rw [if_pos (by simpa using hc)]
    refine ⟨_, l.length - (i + 1), by omega, rfl, i + 1, i, rfl, by omega, rfl, hlt, fun j hj => ?_, fun j hj => ?_⟩
    ·have := h2 j hj; omega
    ·by_cases e : j = i
     ·subst e; exact Int.le_refl _
     ·have := h2 j (by omega); omega
   ·rw [if_neg (by simpa using hc)]
    refine ⟨_, l.length - (i + 1), by omega, rfl, i + 1, k, rfl, by omega, rfl, hk, h1, fun j hj => ?_⟩
    by_cases e : j = i
    ·subst e; omega
    ·exact h2 j (by omega)
  ·refine .inr ?_
   rw [if_neg (by simp only [decide_eq_true_eq]; omega)]
   exact ⟨_, rfl, k, rfl, hk, h1, fun j hj => h2 j (by omega)⟩) (l.length - 1) ((1 : Int), (0 : Int), out, l) ⟨1, 0, rfl, by omega, rfl, hl, fun j hj => by omega, fun j hj => by
   have : j = 0 := by omega
   subst this; exact Int.le_refl _⟩
 exact ⟨k, e, hk⟩
theorem ref_sel : ∀ (n : Nat) (l out : List Cp), l.length = n → n ≤ 500 → out.length + n ≤ 1000 → ∃ r, Sel l r ∧ loopO refCharacters_b1 (out, l) = some (out ++ r) := by
 intro n
 induction n with
 | zero =>
  intro l out hl _ _
  have : l = [] := List.eq_nil_of_length_eq_zero hl
  subst this
  refine ⟨[], Sel.nil, ?_⟩
  rw [loop_stop (r := out)]
  ·simp
  ·unfold refCharacters_b1
   rfl
 | succ n ih =>
  intro l out hl hn ho
  obtain ⟨k, e1, hk⟩ := ref_best out l (by omega) (by omega)
  have hkl := hk.lt
  obtain ⟨r, hr, e2⟩ := ih (l.eraseIdx k) (out ++ [l.getD k default]) (by rw [List.length_eraseIdx_of_lt hkl]; omega) (by omega) (by simp; omega)
  refine ⟨_, Sel.cons hk hr, ?_⟩
  rw [loop_step (x := (out ++ [l.getD k default], l.eraseIdx k)), e2]
  ·simp
  ·unfold refCharacters_b1
   dsimp only
   rw [if_pos (by simp only [decide_eq_true_eq]; omega), e1, obs]
   dsimp only
   unfold refCharacters_j3
   rw [w64 (n := (k : Int) + 1) (by omega), itn, if_pos (by omega), if_pos (by simp; omega), if_pos (by omega), if_pos (by simp; omega), if_pos (by omega), if_pos (by simp; omega)]
   have e3 : ((k : Int) + 1).toNat = k + 1 := by omega
   rw [e3, List.eraseIdx_eq_take_drop_succ]
   rfl
def chars (g : YR) : List Cp := if g.Parts = [] then g.Materials.map (fun m => ⟨[m.Name], m.Share⟩) else g.Parts
theorem foldl_map1 {α β : Type} (f : α → β) : ∀ (xs : List α) (a : List β), xs.foldl (fun b x => b ++ [f x]) a = a ++ xs.map f
 | [], a => by simp
 | x :: xs, a => by rw [List.foldl_cons, foldl_map1 f xs]; simp
theorem goodsCharacters_eq {g : YR} (h : GB g) : goodsCharacters g = some (isort (chars g)) := by
 have c1 := h.mats
 have c2 := h.parts.1
 unfold goodsCharacters
 have l1 := loop_fold (β := List Cp) g.Parts (goodsCharacters_b2 g) (fun i b => ((i : Int), b)) (fun b x => b ++ [x]) (fun b => b) (fun i b => b.length = i)
  (fun i x b hI hx => by simp [hI])
  (fun i x b hI hx => by
   have hlt := zK1 hx
   have hw := h.parts.2 x (List.mem_of_getElem? hx)
   unfold goodsCharacters_b2 cloneS
   dsimp only
   rw [if_pos (by simp only [decide_eq_true_eq]; omega), if_pos (by omega), itn, hx, obs, if_pos (by omega), obs, if_pos (by rw [hI]; simp; omega), w64 (n := (i : Int) + 1) (by omega)]
   rfl)
  (fun b hI => by unfold goodsCharacters_b2; dsimp only; rw [if_neg (by simp)]) [] rfl
 rw [show ((0 : Int), ([] : List Cp)) = (((0 : Nat) : Int), ([] : List Cp)) from rfl, l1, foldl_map1 (fun x : Cp => x), obs]
 simp only [List.nil_append, List.map_id']
 have fin : ∀ l : List Cp, l.length ≤ 8 → goodsCharacters_j2 l = some (isort l) := fun l hl => by
  unfold goodsCharacters_j2
  rw [sort_small l (by omega), insSort_eq l (by omega)]; rfl
 unfold goodsCharacters_j1 chars
 by_cases hp : g.Parts = []
 ·rw [if_pos (by rw [hp]; rfl), if_pos hp, hp]
  have l2 := loop_fold (β := List Cp) g.Materials (goodsCharacters_b1 g) (fun i b => ((i : Int), b)) (fun b x => b ++ [(⟨[x.Name], x.Share⟩ : Cp)]) (fun b => b) (fun i b => b.length = i)
   (fun i x b hI hx => by simp [hI])
   (fun i x b hI hx => by
    have hlt := zK1 hx
    unfold goodsCharacters_b1
    dsimp only
    rw [if_pos (by simp only [decide_eq_true_eq]; omega), if_pos (by omega), itn, hx, obs, if_pos (by rw [hI]; simp; omega), w64 (n := (i : Int) + 1) (by omega)]
    rfl)
   (fun b hI => by unfold goodsCharacters_b1; dsimp only; rw [if_neg (by simp)]) [] rfl
  rw [show ((0 : Int), ([] : List Cp)) = (((0 : Nat) : Int), ([] : List Cp)) from rfl, l2, foldl_map1 (fun x : YZ => (⟨[x.Name], x.Share⟩ : Cp)), obs, List.nil_append]
  exact fin _ (by simp; omega)
 ·have hpl : g.Parts.length ≠ 0 := fun h => hp (List.eq_nil_of_length_eq_zero h)
  rw [if_neg (by simp only [beq_iff_eq]; omega), if_neg hp]
  exact fin _ (by omega)
theorem refCharacters_eq {g : YR} (h : GB g) : refCharacters g = some (isort (chars g)) := by
 have c1 := h.mats
 have c2 := h.parts.1
 have fin : ∀ l : List Cp, l.length ≤ 8 → refCharacters_j1 l = some (isort l) := fun l hl => by
  unfold refCharacters_j1 refCharacters_j2
  obtain ⟨r, h1, h2⟩ := ref_sel l.length l [] rfl (by omega) (by simp; omega)
  rw [h2, h1.fn (sel_isort l)]; rfl
 unfold refCharacters chars
 rw [if_pos (by omega)]
 by_cases hp : g.Parts = []
 ·rw [if_pos (by rw [hp]; rfl), if_pos hp, hp]
  have l2 := loop_fold (β := List Cp) g.Materials (refCharacters_b3 g) (fun i b => ((i : Int), b)) (fun b x => b ++ [(⟨[x.Name], x.Share⟩ : Cp)]) (fun b => b) (fun i b => b.length = i)
   (fun i x b hI hx => by simp [hI])
   (fun i x b hI hx => by
    have hlt := zK1 hx
    unfold refCharacters_b3
    dsimp only
    rw [if_pos (by simp only [decide_eq_true_eq]; omega), if_pos (by omega), itn, hx, obs, if_pos (by omega), obs, if_pos (by rw [hI]; simp; omega), w64 (n := (i : Int) + 1) (by omega)]
    rfl)
   (fun b hI => by unfold refCharacters_b3; dsimp only; rw [if_neg (by simp)]) [] rfl
  rw [show ((0 : Int), ([] : List Cp)) = (((0 : Nat) : Int), ([] : List Cp)) from rfl, l2, foldl_map1 (fun x : YZ => (⟨[x.Name], x.Share⟩ : Cp)), obs, List.nil_append]
  exact fin _ (by simp; omega)
 ·have hpl : g.Parts.length ≠ 0 := fun h => hp (List.eq_nil_of_length_eq_zero h)
  rw [if_neg (by simp only [beq_iff_eq]; omega), if_neg hp]
  exact fin _ (by omega)
end Go.C
end
section
set_option linter.unusedVariables false
set_option linter.unusedSimpArgs false
namespace Go.C
open Go.V
def mx (m n : Int) : Int := if n > m then n else m
theorem mx_l (m n : Int) : m ≤ mx m n := by unfold mx; split <;> omega
theorem mx_r (m n : Int) : n ≤ mx m n := by unfold mx; split <;> omega
theorem mx_or (m n : Int) : mx m n = m ∨ mx m n = n := by unfold mx; split <;> simp
def mxL {α : Type} (s : α → Int) (l : List α) : Int := l.foldl (fun m x => mx m (s x)) 0
theorem mxF_ge {α : Type} (s : α → Int) : ∀ (l : List α) (m : Int), m ≤ l.foldl (fun m x => mx m (s x)) m ∧ ∀ x, x ∈ l → s x ≤ l.foldl (fun m x => mx m (s x)) m
 | [], m => ⟨Int.le_refl _, fun x h => by cases h⟩
 | y :: l, m => by
  have h := mxF_ge s l (mx m (s y))
  have h1 := mx_l m (s y); have h2 := mx_r m (s y)
  refine ⟨Int.le_trans h1 h.1, fun x hx => ?_⟩
  rcases List.mem_cons.1 hx with rfl | hx
  ·exact Int.le_trans h2 h.1
  ·exact h.2 x hx
theorem mxF_eq {α : Type} (s : α → Int) : ∀ (l : List α) (m : Int), l.foldl (fun m x => mx m (s x)) m = m ∨ ∃ x, x ∈ l ∧ l.foldl (fun m x => mx m (s x)) m = s x
 | [], m => .inl rfl
 | y :: l, m => by
  rcases mxF_eq s l (mx m (s y)) with h | ⟨x, hx, h⟩
  ·rcases mx_or m (s y) with h1 | h1
   ·exact .inl (by rw [List.foldl_cons, h, h1])
   ·exact .inr ⟨y, by simp, by rw [List.foldl_cons, h, h1]⟩
  ·exact .inr ⟨x, List.mem_cons_of_mem _ hx, by rw [List.foldl_cons, h]⟩
theorem mxL_ge {α : Type} {s : α → Int} {l : List α} {x : α} (hx : x ∈ l) : s x ≤ mxL s l := (mxF_ge s l 0).2 x hx
theorem mxL_nonneg {α : Type} (s : α → Int) (l : List α) : 0 ≤ mxL s l := (mxF_ge s l 0).1
theorem filter_max_ne {α : Type} {s : α → Int} {l : List α} (hne : l ≠ []) (h0 : ∀ x, x ∈ l → 0 ≤ s x) : (l.filter fun x => s x == mxL s l) ≠ [] := by
 rcases mxF_eq s l 0 with h | ⟨x, hx, h⟩
 ·cases l with
  | nil => exact absurd rfl hne
  | cons y l =>
   have h1 := mxL_ge (s := s) (l := y :: l) (x := y) (by simp)
   have h2 := h0 y (by simp)
   have h3 : s y = mxL s (y :: l) := by unfold mxL at h1 ⊢; omega
   intro he
   have : y ∈ (y :: l).filter fun x => s x == mxL s (y :: l) := List.mem_filter.2 ⟨by simp, beq_iff_eq.2 h3⟩
   rw [he] at this; cases this
 ·intro he
  have : x ∈ l.filter fun x => s x == mxL s l := List.mem_filter.2 ⟨hx, beq_iff_eq.2 h.symm⟩
  rw [he] at this; cases this
theorem keep_loop {l : List Ent} (f : Int × List Ent → Option ((Int × List Ent) ⊕ List Ent)) (p : Ent → Bool)
  (hgo : ∀ (i : Nat) x kept, l[i]? = some x → kept.length ≤ i → f ((i : Int), kept) = some (.inl (((i + 1 : Nat) : Int), if p x = true then kept ++ [x] else kept)))
  (hend : ∀ kept, f ((l.length : Int), kept) = some (.inr kept)) : loopO f ((0 : Int), []) = some (l.filter p) := by
 have := loop_seq (f := f) l.length (fun i => ((i : Int), (l.take i).filter p)) (l.filter p) (fun i hi => by
  have hfl : ((l.take i).filter p).length ≤ i := Nat.le_trans (List.length_filter_le _ _) (by rw [List.length_take]; omega)
  rw [hgo i _ _ (geq hi) hfl, filter_take p hi]) (by rw [hend, List.take_length])
 exact this
theorem max_loop {α : Type} {l : List α} (f : Int × Int → Option ((Int × Int) ⊕ Int)) (s : α → Int)
  (hgo : ∀ (i : Nat) x m, l[i]? = some x → f ((i : Int), m) = some (.inl (((i + 1 : Nat) : Int), mx m (s x))))
  (hend : ∀ m, f ((l.length : Int), m) = some (.inr m)) : loopO f ((0 : Int), (0 : Int)) = some (mxL s l) := by
 have := loop_seq (f := f) l.length (fun i => ((i : Int), (l.take i).foldl (fun m x => mx m (s x)) 0)) (mxL s l) (fun i hi => by
  rw [hgo i _ _ (geq hi), take_snoc hi, List.foldl_append]; rfl) (by rw [hend, List.take_length]; rfl)
 exact this
def dd (a : List Str) : List Str := a.foldl addKey []
theorem addKey_mem {ks : List Str} {s x : Str} : x ∈ addKey ks s ↔ x ∈ ks ∨ x = s := by
 unfold addKey
 split
 ·rename_i h
  constructor
  ·exact .inl
  ·rintro (h1 | rfl)
   ·exact h1
   ·simpa using h
 ·simp
theorem addKey_nodup {ks : List Str} {s : Str} (h : ks.Nodup) : (addKey ks s).Nodup := by
 unfold addKey
 split
 ·exact h
 ·rename_i hc
  rw [List.nodup_append]
  refine ⟨h, by simp, fun x hx y hy => ?_⟩
  rw [List.mem_singleton] at hy
  subst hy
  intro e; subst e
  exact hc (by simpa using hx)
theorem ddF {a : List Str} : ∀ ks : List Str, ks.Nodup → (a.foldl addKey ks).Nodup ∧ ∀ x, x ∈ a.foldl addKey ks ↔ x ∈ ks ∨ x ∈ a := by
 induction a with
 | nil => intro ks h; exact ⟨h, fun x => by simp⟩
 | cons y a ih =>
  intro ks h
  have h1 := ih (addKey ks y) (addKey_nodup h)
  refine ⟨h1.1, fun x => ?_⟩
  rw [List.foldl_cons, h1.2 x, addKey_mem, List.mem_cons, or_assoc]
theorem dd_nodup (a : List Str) : (dd a).Nodup := (ddF [] List.nodup_nil).1
theorem dd_mem (a : List Str) (x : Str) : x ∈ dd a ↔ x ∈ a := by rw [dd, (ddF [] List.nodup_nil).2 x]; simp
theorem addKey_len (ks : List Str) (s : Str) : (addKey ks s).length ≤ ks.length + 1 := by unfold addKey; split <;> simp
theorem ddF_len {a : List Str} : ∀ ks : List Str, (a.foldl addKey ks).length ≤ ks.length + a.length := by
 induction a with
 | nil => intro ks; simp
 | cons y a ih => intro ks; have h1 := ih (addKey ks y); have h2 := addKey_len ks y; rw [List.foldl_cons, List.length_cons]; omega
theorem dd_len (a : List Str) : (dd a).length ≤ a.length := by have := ddF_len (a := a) []; simpa [dd] using this
theorem setOf_eq {a : List Str} (ha : a.length ≤ 1000000) : setOf a = some (dd a) := by
 unfold setOf
 have := loop_seq (f := setOf_b1 a) a.length (fun i => ((i : Int), (a.take i).foldl addKey [])) (dd a) (fun i hi => by
  unfold setOf_b1
  dsimp only
  rw [if_pos (decide_eq_true (by omega)), if_pos (by omega), itn, geq hi, obs, w64 (by omega), take_snoc hi, List.foldl_append]; rfl) (by
  unfold setOf_b1
  dsimp only
  rw [if_neg (by simp), List.take_length]; rfl)
 rw [show ((0 : Int), ([] : List Str)) = (((0 : Nat) : Int), (a.take 0).foldl addKey []) from rfl, this]; rfl
theorem perm_nodup : ∀ {l m : List Str}, l.Nodup → m.Nodup → (∀ x, x ∈ l ↔ x ∈ m) → l.Perm m
 | [], m, _, _, h => by
  have : m = [] := List.eq_nil_iff_forall_not_mem.2 fun x hx => by have := (h x).2 hx; cases this
  rw [this]
 | x :: l, m, h1, h2, h => by
  have hx : x ∈ m := (h x).1 (by simp)
  have hl := List.nodup_cons.1 h1
  have hp := List.perm_cons_erase hx
  refine ((perm_nodup hl.2 (h2.erase x) fun y => ?_).cons x).trans hp.symm
  rw [h2.mem_erase_iff]
  constructor
  ·intro hy
   exact ⟨fun e => hl.1 (e ▸ hy), (h y).1 (List.mem_cons_of_mem _ hy)⟩
  ·rintro ⟨h3, h4⟩
   rcases List.mem_cons.1 ((h y).2 h4) with h5 | h5
   ·exact absurd h5 h3
   ·exact h5
def comS (a w : List Str) : Int := ((dd a).countP fun x => w.contains x : Nat)
theorem contains_congr {w u : List Str} (h : ∀ x, x ∈ w ↔ x ∈ u) (x : Str) : w.contains x = u.contains x := by
 rw [Bool.eq_iff_iff, List.contains_iff_mem, List.contains_iff_mem]; exact h x
theorem comS_congr {a w u : List Str} (h : ∀ x, x ∈ w ↔ x ∈ u) : comS a w = comS a u := by
 unfold comS
 congr 1
 congr 1
 funext x
 exact contains_congr h x
theorem comS_perm {a v w : List Str} (hv : v.Nodup) (hm : ∀ x, x ∈ v ↔ x ∈ a) : (v.countP fun x => w.contains x : Nat) = comS a w := by
 unfold comS
 rw [(perm_nodup hv (dd_nodup a) (fun x => by rw [hm, dd_mem])).countP_eq]
theorem fold_count {f : Str → Int → Option Int} {p : Str → Bool} (hf : ∀ x (n : Nat), n ≤ 2000000 → f x n = some (((n + if p x = true then 1 else 0 : Nat)) : Int)) : ∀ (o : List Str) (n : Nat), n + o.length ≤ 1000000 → foldO f o n = some ((n + o.countP p : Nat) : Int)
 | [], n, _ => by simp [foldO]
 | x :: o, n, h => by
  rw [List.length_cons] at h
  rw [foldO, hf x n (by omega), obs, fold_count hf o _ (by split <;> omega), List.countP_cons]
  congr 2
  split <;> omega
theorem commonS_eq {a b : List Str} (ha : a.length ≤ 1000) (hb : b.length ≤ 50) : commonS a b = some (comS a b) := by
 have hm : member b = some b := by unfold member; rw [if_pos (decide_eq_true (by omega))]
 unfold commonS
 rw [hm, obs, setOf_eq (by omega), obs]
 have hs : setFold (commonS_b1 b) (dd a) (0 : Int) = some (comS a b) := setFold_of fun o ho => by
  have hl := ho.length_eq
  have := dd_len a
  have h1 := fold_count (f := commonS_b1 b) (p := fun x => b.contains x) (fun x n hn => by
   unfold commonS_b1
   dsimp only
   rw [memberIn_eq x (by omega), obs]
   cases b.contains x with
   | true => simp only [if_true]; rw [w64 (by omega)]; rfl
   | false => simp) o 0 (by omega)
  rw [show ((0 : Int)) = ((0 : Nat) : Int) from rfl, h1, ho.countP_eq]
  unfold comS; simp
 rw [hs]; rfl
theorem commonB_eq {a b : List Str} (ha : a.length ≤ 1000) (hb : 50 < b.length) (hb2 : b.length ≤ 1000) : commonB a b = some (comS a b) := by
 have hm : memberB b = some (dd b) := by unfold memberB; rw [if_neg (fun h => by have := of_decide_eq_true h; omega), setOf_eq (by omega)]; rfl
 unfold commonB
 rw [hm, obs, setOf_eq (by omega), obs]
 have hs : setFold (commonB_b1 (dd b)) (dd a) (0 : Int) = some (comS a b) := setFold_of fun o ho => by
  have hl := ho.length_eq
  have := dd_len a
  have h1 := fold_count (f := commonB_b1 (dd b)) (p := fun x => b.contains x) (fun x n hn => by
   unfold commonB_b1 memberIn2
   dsimp only
   rw [contains_congr (dd_mem b) x, obs]
   cases b.contains x with
   | true => simp only [if_true]; rw [w64 (by omega)]; rfl
   | false => simp) o 0 (by omega)
  rw [show ((0 : Int)) = ((0 : Nat) : Int) from rfl, h1, ho.countP_eq]
  unfold comS; simp
 rw [hs]; rfl
theorem commonP_eq {a b : List Str} (ha : a.length ≤ 1000) (hb : b.length ≤ 1000) : commonP a b = some (comS a b) := by
 unfold commonP
 split
 ·rename_i h; exact commonS_eq ha h
 ·rename_i h; exact commonB_eq ha (by omega) hb
theorem bl_trans : ∀ {a b c : Str}, Op.bytesLess a b = true → Op.bytesLess b c = true → Op.bytesLess a c = true
 | a, [], c, h, _ => by cases a <;> simp [Op.bytesLess] at h
 | a, x :: b, [], _, h => by simp [Op.bytesLess] at h
 | [], x :: b, y :: c, _, _ => by simp [Op.bytesLess]
 | z :: a, x :: b, y :: c, h1, h2 => by
  simp only [Op.bytesLess, Bool.or_eq_true, Bool.and_eq_true, decide_eq_true_eq, beq_iff_eq] at h1 h2 ⊢
  rcases h1 with h1 | ⟨rfl, h1⟩
  ·rcases h2 with h2 | ⟨rfl, h2⟩
   ·exact .inl (UInt8.lt_trans h1 h2)
   ·exact .inl h1
  ·rcases h2 with h2 | ⟨rfl, h2⟩
   ·exact .inl h2
   ·exact .inr ⟨rfl, bl_trans h1 h2⟩
def AscB (l : List Str) : Prop := l.Pairwise fun a b => Op.bytesLess a b = true
theorem AscB.nodup {l : List Str} (h : AscB l) : l.Nodup := List.Pairwise.imp (fun {a b} hab e => by subst e; rw [bl_irrefl] at hab; cases hab) h
def withS : List Str → Str → List Str
 | [], s => [s]
 | x :: l, s => if Op.bytesLess x s = true then x :: withS l s else if x = s then x :: l else s :: x :: l
theorem withS_mem : ∀ {l : List Str} {s x : Str}, x ∈ withS l s ↔ x ∈ l ∨ x = s
 | [], s, x => by simp [withS]
 | y :: l, s, x => by
  unfold withS
  split
  ·rw [List.mem_cons, withS_mem, List.mem_cons, or_assoc]
  ·split
   ·rename_i e
    subst e
    constructor
    ·exact .inl
    ·rintro (h | rfl)
     ·exact h
     ·simp
   ·simp only [List.mem_cons]
    constructor
    ·rintro (h | h | h)
     ·exact .inr h
     ·exact .inl (.inl h)
     ·exact .inl (.inr h)
    ·rintro ((h | h) | h)
     ·exact .inr (.inl h)
     ·exact .inr (.inr h)
     ·exact .inl h
theorem withS_asc : ∀ {l : List Str} {s : Str}, AscB l → AscB (withS l s)
 | [], s, _ => by simp [withS, AscB]
 | x :: l, s, h => by
  have hp := List.pairwise_cons.1 h
  unfold withS
  split
  ·rename_i h1
   refine List.pairwise_cons.2 ⟨fun y hy => ?_, withS_asc hp.2⟩
   rcases withS_mem.1 hy with hy | rfl
   ·exact hp.1 y hy
   ·exact h1
  ·rename_i h1
   split
   ·exact h
   ·rename_i h2
    have h3 : Op.bytesLess s x = true := by
     have := bl_total x s
     have h4 : Op.bytesLess x s = false := by simpa using h1
     have h5 : (x == s) = false := by rw [beq_eq_false_iff_ne]; exact h2
     rw [h4, h5] at this
     simpa using this
    refine List.pairwise_cons.2 ⟨fun y hy => ?_, h⟩
    rcases List.mem_cons.1 hy with rfl | hy
    ·exact h3
    ·exact bl_trans h3 (hp.1 y hy)
theorem withS_len : ∀ (l : List Str) (s : Str), (withS l s).length ≤ l.length + 1
 | [], s => by simp [withS]
 | x :: l, s => by
  have := withS_len l s
  unfold withS
  split
  ·simp; omega
  ·split <;> simp
def tw (l : List Str) (s : Str) : Nat := (l.takeWhile fun x => Op.bytesLess x s).length
theorem tw_le : ∀ (l : List Str) (s : Str), tw l s ≤ l.length
 | [], s => by simp [tw]
 | x :: l, s => by
  have ih := tw_le l s
  unfold tw at ih ⊢
  rw [List.takeWhile_cons]
  split <;> simp
  omega
theorem tw_lt : ∀ (l : List Str) (s : Str) (i : Nat), i < tw l s → Op.bytesLess (l.getD i default) s = true
 | [], s, i, h => by simp [tw] at h
 | x :: l, s, i, h => by
  unfold tw at h
  rw [List.takeWhile_cons] at h
  split at h
  ·rename_i hx
   cases i with
   | zero => exact hx
   | succ i => rw [List.getD_cons_succ]; exact tw_lt l s i (by simpa [tw] using h)
  ·simp at h
theorem tw_at : ∀ (l : List Str) (s : Str), tw l s < l.length → Op.bytesLess (l.getD (tw l s) default) s = false
 | [], s, h => by simp at h
 | x :: l, s, h => by
  by_cases hx : Op.bytesLess x s = true
  ·have e : tw (x :: l) s = tw l s + 1 := by unfold tw; rw [List.takeWhile_cons, if_pos hx]; rfl
   rw [e] at h ⊢
   rw [List.getD_cons_succ]
   exact tw_at l s (by simpa using h)
  ·have e : tw (x :: l) s = 0 := by unfold tw; rw [List.takeWhile_cons, if_neg hx]; rfl
   rw [e, List.getD_cons_zero]; simpa using hx
theorem withS_tw : ∀ (l : List Str) (s : Str), withS l s = if tw l s < l.length ∧ l.getD (tw l s) default = s then l else (l.take (tw l s) ++ [s]) ++ l.drop (tw l s)
 | [], s => by simp [withS, tw]
 | x :: l, s => by
  by_cases hx : Op.bytesLess x s = true
  ·have e : tw (x :: l) s = tw l s + 1 := by unfold tw; rw [List.takeWhile_cons, if_pos hx]; rfl
   rw [withS, if_pos hx, e, withS_tw l s, List.getD_cons_succ, List.length_cons]
   by_cases hc : tw l s < l.length ∧ l.getD (tw l s) default = s
   ·rw [if_pos hc, if_pos ⟨by omega, hc.2⟩]
   ·rw [if_neg hc, if_neg (fun h => hc ⟨by omega, h.2⟩)]; rfl
  ·have e : tw (x :: l) s = 0 := by unfold tw; rw [List.takeWhile_cons, if_neg hx]; rfl
   rw [withS, if_neg hx, e, List.getD_cons_zero]
   by_cases hc : x = s
   ·rw [if_pos hc, if_pos ⟨by simp, hc⟩]
   ·rw [if_neg hc, if_neg (fun h => hc h.2)]; rfl
theorem refWith_eq {l : List Str} (s : Str) (hl : l.length ≤ 100000) : refWith l s = some (withS l s) := by
 have ht := tw_le l s
 unfold refWith
 have h1 := loop_seq (f := refWith_b1 l s) (tw l s) (fun i => (i : Int)) ((tw l s : Nat) : Int) (fun i hi => by
  unfold refWith_b1
  rw [if_pos (fun _ => by omega), decide_eq_true (by omega : (i : Int) < (l.length : Int)), cond_true, itn, tw_lt l s i hi, if_pos rfl, w64 (by omega)]; rfl) (by
  unfold refWith_b1
  rw [if_pos (fun h => by have := of_decide_eq_true h; omega), itn]
  by_cases h : tw l s < l.length
  ·rw [decide_eq_true (by omega : ((tw l s : Nat) : Int) < (l.length : Int)), cond_true, tw_at l s h]; rfl
  ·rw [decide_eq_false (by omega : ¬ ((tw l s : Nat) : Int) < (l.length : Int)), cond_false]; rfl)
 rw [show ((0 : Int)) = ((0 : Nat) : Int) from rfl, h1, obs]
 show refWith_j1 l s ((tw l s : Nat) : Int) = _
 unfold refWith_j1
 rw [if_pos (fun h => by have := of_decide_eq_true h; omega), itn, withS_tw]
 by_cases hc : tw l s < l.length ∧ l.getD (tw l s) default = s
 ·rw [if_pos hc, decide_eq_true (by omega : ((tw l s : Nat) : Int) < (l.length : Int)), cond_true, if_pos (beq_iff_eq.2 hc.2)]
 ·rw [if_neg hc]
  have hn : ¬ (bif (decide (((tw l s : Nat) : Int) < (l.length : Int))) then ((l.getD (tw l s) default) == s) else false) = true := fun h => by
   by_cases h2 : tw l s < l.length
   ·rw [decide_eq_true (by omega : ((tw l s : Nat) : Int) < (l.length : Int)), cond_true, beq_iff_eq] at h; exact hc ⟨h2, h⟩
   ·rw [decide_eq_false (by omega : ¬ ((tw l s : Nat) : Int) < (l.length : Int)), cond_false] at h; cases h
  rw [if_neg hn, if_pos (by omega), if_pos (by simp only [List.length_drop, List.length_take]; omega), if_pos (by simp only [List.length_drop, List.length_take, List.length_cons, List.length_nil]; omega), if_pos (by omega), if_pos (by simp only [List.length_append, List.length_drop, List.length_take, List.length_cons, List.length_nil]; omega)]
  rfl
def uniS (a b : List Str) : List Str := b.foldl withS (a.foldl withS [])
theorem withF : ∀ {b : List Str} (l : List Str), AscB l → AscB (b.foldl withS l) ∧ (∀ x, x ∈ b.foldl withS l ↔ x ∈ l ∨ x ∈ b) ∧ (b.foldl withS l).length ≤ l.length + b.length
 | [], l, h => ⟨h, fun x => by simp, by simp⟩
 | y :: b, l, h => by
  have h1 := withF (b := b) (withS l y) (withS_asc h)
  have h2 := withS_len l y
  refine ⟨h1.1, fun x => ?_, ?_⟩
  ·rw [List.foldl_cons, h1.2.1 x, withS_mem, List.mem_cons, or_assoc]
  ·rw [List.foldl_cons, List.length_cons]; have := h1.2.2; omega
theorem uniS_asc (a b : List Str) : AscB (uniS a b) := (withF _ (withF [] (by simp [AscB])).1).1
theorem uniS_mem (a b : List Str) (x : Str) : x ∈ uniS a b ↔ x ∈ a ∨ x ∈ b := by
 rw [uniS, (withF _ (withF [] (by simp [AscB])).1).2.1 x, (withF [] (by simp [AscB])).2.1 x]; simp
theorem uniS_len (a b : List Str) : (uniS a b).length ≤ a.length + b.length := by
 have h1 := (withF (b := a) [] (by simp [AscB])).2.2
 have h2 := (withF (b := b) _ (withF (b := a) [] (by simp [AscB])).1).2.2
 unfold uniS
 simp only [List.length_nil] at h1
 omega
theorem refUnion_eq {a b : List Str} (ha : a.length ≤ 10000) (hb : b.length ≤ 10000) : refUnion a b = some (uniS a b) := by
 have hlen : ∀ i, ((a.take i).foldl withS []).length ≤ 10000 := fun i => by
  have := (withF (b := a.take i) [] (by simp [AscB])).2.2
  rw [List.length_take] at this
  simp only [List.length_nil] at this
  omega
 unfold refUnion
 have h1 := loop_seq (f := refUnion_b2 a b) a.length (fun i => ((i : Int), (a.take i).foldl withS [])) (a.foldl withS []) (fun i hi => by
  unfold refUnion_b2
  dsimp only
  rw [if_pos (decide_eq_true (by omega)), if_pos (by omega), itn, geq hi, obs, refWith_eq _ (by have := hlen i; omega), obs, w64 (by omega), take_snoc hi, List.foldl_append]; rfl) (by
  unfold refUnion_b2
  dsimp only
  rw [if_neg (by simp), List.take_length])
 rw [show ((0 : Int), ([] : List Str)) = (((0 : Nat) : Int), (a.take 0).foldl withS []) from rfl, h1, obs]
 show refUnion_j1 b (a.foldl withS []) = _
 unfold refUnion_j1
 have ha2 := (withF (b := a) [] (by simp [AscB]))
 have h2 := loop_seq (f := refUnion_b1 b) b.length (fun i => ((i : Int), (b.take i).foldl withS (a.foldl withS []))) (uniS a b) (fun i hi => by
  have h3 := (withF (b := b.take i) _ ha2.1).2.2
  rw [List.length_take] at h3
  have h4 := ha2.2.2
  simp only [List.length_nil] at h4
  unfold refUnion_b1
  dsimp only
  rw [if_pos (decide_eq_true (by omega)), if_pos (by omega), itn, geq hi, obs, refWith_eq _ (by omega), obs, w64 (by omega), take_snoc hi, List.foldl_append]; rfl) (by
  unfold refUnion_b1
  dsimp only
  rw [if_neg (by simp), List.take_length]; rfl)
 rw [show ((0 : Int), a.foldl withS []) = (((0 : Nat) : Int), (b.take 0).foldl withS (a.foldl withS [])) from rfl, h2]; rfl
theorem refCommon_eq {a b : List Str} (ha : a.length ≤ 1000) (hb : b.length ≤ 1000) : refCommon a b = some (comS a b) := by
 have hul := uniS_len a []
 simp only [List.length_nil] at hul
 unfold refCommon
 rw [refUnion_eq (by omega) (by simp), obs]
 have h1 := loop_seq (f := refCommon_b1 b (uniS a [])) (uniS a []).length (fun i => ((i : Int), ((((uniS a []).take i).countP fun x => b.contains x : Nat) : Int))) (comS a b) (fun i hi => by
  have h2 := List.countP_le_length (p := fun x => b.contains x) (l := (uniS a []).take i)
  rw [List.length_take] at h2
  unfold refCommon_b1 refCommon_j2
  dsimp only
  rw [if_pos (decide_eq_true (by omega)), if_pos (by omega), itn, geq hi, obs, refHas_eq _ hb, obs, take_snoc hi, List.countP_append, List.countP_singleton, w64 (n := (i : Int) + 1) (by omega)]
  cases b.contains (uniS a [])[i] with
  | true => simp only [if_true]; rw [w64 (by omega)]; rfl
  | false => simp) (by
  unfold refCommon_b1
  dsimp only
  rw [if_neg (by simp), List.take_length, comS_perm (a := a) (uniS_asc a []).nodup (fun x => by rw [uniS_mem]; simp)])
 rw [show ((0 : Int), (0 : Int)) = (((0 : Nat) : Int), ((((uniS a []).take 0).countP fun x => b.contains x : Nat) : Int)) from rfl, h1]; rfl
theorem compact_mem {l : List Str} {x : Str} : x ∈ Lib.compact l ↔ x ∈ l := by
 unfold Lib.compact Lib.compactUpTo
 constructor
 ·intro h
  obtain ⟨j, hj, rfl⟩ := List.mem_map.1 h
  have hjl : j < l.length := by simpa using (List.mem_filter.1 hj).1
  simp [hjl]
 ·intro h
  obtain ⟨i, hi, rfl⟩ := List.getElem_of_mem h
  have key : ∀ i, ∀ hi : i < l.length, ∃ j, j ≤ i ∧ ∃ hj : j < l.length, l[j] = l[i] ∧ Lib.keeps l.toArray j = true := by
   intro i
   induction i with
   | zero => intro hi; exact ⟨0, Nat.le_refl _, hi, rfl, by simp [Lib.keeps]⟩
   | succ i ih =>
    intro hi
    by_cases he : l[i + 1] = l[i]
    ·obtain ⟨j, h1, h2, h3, h4⟩ := ih (by omega)
     exact ⟨j, by omega, h2, by rw [h3, he], h4⟩
    ·refine ⟨i + 1, Nat.le_refl _, hi, rfl, ?_⟩
     unfold Lib.keeps
     simp [hi, (by omega : i < l.length), he]
  obtain ⟨j, h1, h2, h3, h4⟩ := key i hi
  refine List.mem_map.2 ⟨j, List.mem_filter.2 ⟨by simpa using h2, h4⟩, ?_⟩
  simp [h2, h3]
theorem compact_len (l : List Str) : (Lib.compact l).length ≤ l.length := by
 unfold Lib.compact Lib.compactUpTo
 rw [List.length_map]
 exact Nat.le_trans (List.length_filter_le _ _) (by simp)
theorem concat2 {a b : List Str} (ha : a.length ≤ 1000000) (hb : b.length ≤ 1000000) : concatStr [a, b] = some (a ++ b) := by
 have hn : ∀ k n : Nat, k + n ≤ 3000000 → IntKind.i64.wrap ((k : Int) + (n : Int)) = ((k + n : Nat) : Int) := fun k n h => by rw [w64 (by omega)]; omega
 unfold concatStr
 have h1 : loopO (concatStr_b2 [a, b]) ((0 : Int), (0 : Int)) = some (((a.length + b.length : Nat)) : Int) := by
  have e := hn 0 a.length (by omega)
  simp only [Nat.zero_add] at e
  rw [loop_step (x := ((1 : Int), (a.length : Int))), loop_step (x := ((2 : Int), (((a.length + b.length : Nat)) : Int))), loop_stop]
  ·unfold concatStr_b2
   dsimp only
   rw [if_neg (by simp)]
  ·unfold concatStr_b2
   dsimp only
   rw [if_pos (by rfl), if_pos (by decide), show ([a, b][(1 : Int).toNat]?) = some b from rfl, obs, hn _ _ (by omega), if_neg (fun h => by have := of_decide_eq_true h; omega)]; rfl
  ·unfold concatStr_b2
   dsimp only
   rw [if_pos (by rfl), if_pos (by decide), show ([a, b][(0 : Int).toNat]?) = some a from rfl, obs, show (0 : Int) + (a.length : Int) = ((0 : Nat) : Int) + (a.length : Int) from rfl, e, if_neg (fun h => by have := of_decide_eq_true h; omega)]; rfl
 rw [h1, obs]
 show concatStr_j1 [a, b] (((a.length + b.length : Nat)) : Int) = _
 have hg : growStr (((a.length + b.length : Nat)) : Int) = some [] := by
  have e0 : IntKind.i64.wrap ((0 : Int) - 0) = 0 := rfl
  unfold growStr growStr_j1
  rw [if_neg (fun h => by have := of_decide_eq_true h; omega), e0, w64 (by omega), Int.sub_zero]
  split
  ·rename_i h
   rw [if_pos ⟨of_decide_eq_true h, by omega⟩]
  ·rfl
 unfold concatStr_j1
 rw [hg, obs]
 have h2 : loopO (concatStr_b1 [a, b]) ((0 : Int), ([] : List Str)) = some (a ++ b) := by
  rw [loop_step (x := ((1 : Int), a)), loop_step (x := ((2 : Int), a ++ b)), loop_stop]
  ·unfold concatStr_b1
   dsimp only
   rw [if_neg (by simp)]
  ·unfold concatStr_b1
   dsimp only
   rw [if_pos (by rfl), if_pos (by decide), show ([a, b][(1 : Int).toNat]?) = some b from rfl, obs, if_pos (by omega)]; rfl
  ·unfold concatStr_b1
   dsimp only
   rw [if_pos (by rfl), if_pos (by decide), show ([a, b][(0 : Int).toNat]?) = some a from rfl, obs, if_pos (by simp; omega)]; rfl
 rw [h2]; rfl
theorem union_ok {a b : List Str} (ha : a.length ≤ 1000) (hb : b.length ≤ 1000) : ∃ r, union a b = some r ∧ (∀ x, x ∈ r ↔ x ∈ a ∨ x ∈ b) ∧ r.length ≤ a.length + b.length := by
 unfold union sortS compactS
 rw [concat2 (by omega) (by omega), obs, if_pos (by simp only [List.length_append]; omega), obs, if_pos (by rw [List.length_mergeSort]; simp only [List.length_append]; omega), obs]
 refine ⟨_, rfl, fun x => ?_, ?_⟩
 ·rw [compact_mem, List.mem_mergeSort, List.mem_append]
 ·have := compact_len ((a ++ b).mergeSort fun x y => decide (x ≤ y))
  rw [List.length_mergeSort, List.length_append] at this
  exact this
end Go.C
end
end zWc
