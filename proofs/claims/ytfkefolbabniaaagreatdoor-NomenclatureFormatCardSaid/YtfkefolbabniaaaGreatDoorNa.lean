/- Plain laws of chapter 9: codes, entries, notes; Validate. No program in sight. -/
import Derived.Test.YtfkefolbabniaaaGreatDoorGe
import Derived.Test.YtfkefolbabniaaaGreatDoorUa
set_option linter.unusedVariables false
set_option linter.unusedSimpArgs false
namespace Go.C
open Go.V

/-! ### The first error of a list -/
def ferr : Nat → (Nat → Int) → Int
  | 0, _ => 0
  | n + 1, f => if ferr n f = 0 then f n else ferr n f
theorem ferr_zero {f : Nat → Int} : ∀ {n : Nat}, ferr n f = 0 ↔ ∀ i, i < n → f i = 0
  | 0 => by simp [ferr]
  | n + 1 => by
    have ih := ferr_zero (f := f) (n := n)
    unfold ferr
    constructor
    · intro h i hi
      by_cases h0 : ferr n f = 0
      · rw [if_pos h0] at h
        by_cases e : i = n
        · subst e; exact h
        · exact ih.1 h0 i (by omega)
      · rw [if_neg h0] at h; exact absurd h h0
    · intro h
      rw [if_pos (ih.2 fun i hi => h i (by omega))]
      exact h n (by omega)
theorem ferr_first {f : Nat → Int} : ∀ {n k : Nat}, k < n → (∀ i, i < k → f i = 0) → f k ≠ 0 → ferr n f = f k
  | 0, k, h, _, _ => by omega
  | n + 1, k, h, h0, hk => by
    unfold ferr
    by_cases e : k = n
    · subst e; rw [if_pos (ferr_zero.2 h0)]
    · have := ferr_first (f := f) (n := n) (k := k) (by omega) h0 hk
      rw [if_neg (by rw [this]; exact hk), this]
theorem ferr_congr {f g : Nat → Int} : ∀ {n : Nat}, (∀ i, i < n → f i = g i) → ferr n f = ferr n g
  | 0, _ => rfl
  | n + 1, h => by
    unfold ferr
    rw [ferr_congr (n := n) (fun i hi => h i (by omega)), h n (by omega)]
/-- A loop that is left at the first error. -/
theorem loop_err {α : Type} (xs : List α) (body : Int → Option (Int ⊕ (Int ⊕ Unit))) (f : Nat → Int)
    (hstep : ∀ i x, xs[i]? = some x → (∀ j, j < i → f j = 0) → body (i : Int) = if f i = 0 then some (.inl ((i + 1 : Nat) : Int)) else some (.inr (.inl (f i)))) (hend : body (xs.length : Int) = some (.inr (.inr ()))) :
    loopO body (0 : Int) = some (if ferr xs.length f = 0 then .inr () else .inl (ferr xs.length f)) := by
  have key : ∀ m k : Nat, k + m = xs.length → (∀ j, j < k → f j = 0) → loopO body (k : Int) = some (if ferr xs.length f = 0 then .inr () else .inl (ferr xs.length f)) := by
    intro m
    induction m with
    | zero =>
      intro k hk h0
      have : k = xs.length := by omega
      subst this
      rw [loop_stop hend, if_pos (ferr_zero.2 h0)]
    | succ m ih =>
      intro k hk h0
      have hlt : k < xs.length := by omega
      have hs := hstep k _ (List.getElem?_eq_getElem hlt) h0
      by_cases hf : f k = 0
      · rw [if_pos hf] at hs
        rw [loop_step hs]
        exact ih (k + 1) (by omega) (fun j hj => by
          by_cases e : j = k
          · subst e; exact hf
          · exact h0 j (by omega))
      · rw [if_neg hf] at hs
        rw [loop_stop hs, ferr_first hlt h0 hf, if_neg hf]
  exact key xs.length 0 (by omega) (fun j hj => by omega)

/-! ### Codes -/
def isD (b : UInt8) : Bool := decide (48 ≤ b.toNat) && decide (b.toNat ≤ 57)
abbrev digs : Str := [48, 49, 50, 51, 52, 53, 54, 55, 56, 57]
theorem digs_eq (b : UInt8) : digs.contains b = isD b := by
  have h : ∀ n : Fin 256, digs.contains (UInt8.ofNat n.val) = isD (UInt8.ofNat n.val) := by decide +kernel
  have := h ⟨b.toNat, b.toNat_lt⟩
  simpa using this
theorem mem_dropWhile {α : Type} {p : α → Bool} {x : α} : ∀ {l : List α}, x ∈ l → p x = false → x ∈ l.dropWhile p
  | [], h, _ => by cases h
  | y :: l, h, hp => by
    rw [List.dropWhile_cons]
    split
    · rename_i hy
      rcases List.mem_cons.1 h with rfl | h
      · rw [hp] at hy; cases hy
      · exact mem_dropWhile h hp
    · exact h
theorem dropWhile_nil {α : Type} {p : α → Bool} : ∀ {l : List α}, (∀ x, x ∈ l → p x = true) → l.dropWhile p = []
  | [], _ => rfl
  | y :: l, h => by rw [List.dropWhile_cons, if_pos (h y (by simp))]; exact dropWhile_nil (fun x hx => h x (by simp [hx]))
theorem trimS_nil (s : Str) : (Lib.trimS s digs == ([] : Str)) = s.all isD := by
  have hall : s.all isD = s.all (digs.contains ·) := by congr 1; funext b; exact (digs_eq b).symm
  rw [hall, Bool.eq_iff_iff, beq_iff_eq, List.all_eq_true]
  unfold Lib.trimS Lib.trimLeftS Lib.trimRightS
  constructor
  · intro h x hx
    cases hp : digs.contains x with
    | true => rfl
    | false =>
      have h1 : x ∈ (s.reverse.dropWhile (digs.contains ·)).reverse := List.mem_reverse.2 (mem_dropWhile (List.mem_reverse.2 hx) hp)
      have h2 := mem_dropWhile (p := (digs.contains ·)) h1 hp
      rw [h] at h2; cases h2
  · intro h
    have : s.reverse.dropWhile (digs.contains ·) = [] := dropWhile_nil (fun x hx => h x (List.mem_reverse.1 hx))
    rw [this]; rfl
theorem trim_some {s : Str} (h : s.length ≤ 9223372036854775807) : trimS s digs = some (Lib.trimS s digs) := by
  unfold trimS
  rw [if_pos ⟨h, by decide, by decide⟩]

/-- The length of a code, or 0. -/
def lvl (s : Str) : Int := if s.all isD = true ∧ (s.length = 2 ∨ s.length = 4 ∨ s.length = 6 ∨ s.length = 8) then (s.length : Int) else 0
theorem nomLevel_eq (s : Str) : nomLevel s = some (lvl s) := by
  have ht : ∀ k : Int, k ≤ 8 → (if ((s.length : Int) == k) = true then trimS s digs else some default) = some (if (s.length : Int) = k then Lib.trimS s digs else default) := fun k hk => by
    by_cases h : (s.length : Int) = k
    · rw [if_pos (by simpa using h), if_pos h, trim_some (by omega)]
    · rw [if_neg (by simpa using h), if_neg h]
  have hc : ∀ k : Int, (bif ((s.length : Int) == k) then ((if (s.length : Int) = k then Lib.trimS s digs else default) == ([] : Str)) else false) = (decide ((s.length : Int) = k) && s.all isD) := fun k => by
    by_cases h : (s.length : Int) = k
    · have e : ((s.length : Int) == k) = true := by simpa using h
      rw [e, if_pos h, trimS_nil]; simp [h]
    · have e : ((s.length : Int) == k) = false := by simpa using h
      rw [e]; simp [h]
  unfold nomLevel nomLevel_j1 lvl
  rw [ht 2 (by omega), Option.bind_some, hc, ht 4 (by omega), Option.bind_some, hc, ht 6 (by omega), Option.bind_some, hc, ht 8 (by omega), Option.bind_some, hc]
  cases ha : s.all isD with
  | false => simp
  | true =>
    simp only [Bool.and_true, decide_eq_true_eq, true_and]
    by_cases h2 : (s.length : Int) = 2
    · rw [if_pos h2, if_pos (.inl (by omega)), h2]
    · rw [if_neg h2]
      by_cases h4 : (s.length : Int) = 4
      · rw [if_pos h4, if_pos (.inr (.inl (by omega))), h4]
      · rw [if_neg h4]
        by_cases h6 : (s.length : Int) = 6
        · rw [if_pos h6, if_pos (.inr (.inr (.inl (by omega)))), h6]
        · rw [if_neg h6]
          by_cases h8 : (s.length : Int) = 8
          · rw [if_pos h8, if_pos (.inr (.inr (.inr (by omega)))), h8]
          · rw [if_neg h8, if_neg (by omega)]
theorem isD_iff (b : UInt8) : isD b = true ↔ 48 ≤ b.toNat ∧ b.toNat ≤ 57 := by simp [isD]
theorem all_range {p : UInt8 → Bool} (s : Str) : ((List.range s.length).all fun i => p (s.getD i 0)) = s.all p := by
  rw [Bool.eq_iff_iff, List.all_eq_true, List.all_eq_true]
  constructor
  · intro h x hx
    obtain ⟨i, hi, rfl⟩ := List.getElem_of_mem hx
    have := h i (List.mem_range.2 hi)
    rwa [List.getD_eq_getElem?_getD, List.getElem?_eq_getElem hi] at this
  · intro h i hi
    have hi := List.mem_range.1 hi
    rw [List.getD_eq_getElem?_getD, List.getElem?_eq_getElem hi]
    exact h _ (List.getElem_mem hi)
theorem refLevel_eq {s : Str} (hs : s.length ≤ 9223372036854775807) : refLevel s = some (lvl s) := by
  have hgo : ∀ (i : Nat) (x : UInt8) (b : Unit), True → s[i]? = some x → isD (s.getD i 0) = true → refLevel_b1 s (i : Int) = some (.inl ((i + 1 : Nat) : Int)) := fun i x b _ hx hp => by
    have hlt := lt_of_get hx
    have hp := (isD_iff _).1 hp
    unfold refLevel_b1
    dsimp only
    rw [Int.toNat_natCast, if_pos (by simp; omega), if_pos (by omega), if_pos (fun _ => by omega), if_neg (rng_f (by omega)), w64 (by omega)]
    rfl
  have hbad : ∀ (i : Nat) (x : UInt8) (b : Unit), True → s[i]? = some x → isD (s.getD i 0) = false → refLevel_b1 s (i : Int) = some (.inr (.inl 0)) := fun i x b _ hx hp => by
    have hlt := lt_of_get hx
    have hp : ¬ (48 ≤ (s.getD i 0).toNat ∧ (s.getD i 0).toNat ≤ 57) := fun h => by rw [(isD_iff _).2 h] at hp; cases hp
    unfold refLevel_b1
    dsimp only
    rw [Int.toNat_natCast, if_pos (by simp; omega), if_pos (by omega), if_pos (fun _ => by omega), if_pos (rng_t (by omega))]
  have hend : ∀ b : Unit, True → refLevel_b1 s (s.length : Int) = some (.inr (.inr ())) := fun b _ => by
    unfold refLevel_b1
    rw [if_neg (by simp)]
  have := loop_list (β := Unit) s (refLevel_b1 s) (fun i _ => (i : Int)) (fun _ _ => ()) (fun i => isD (s.getD i 0)) (.inl 0) (fun _ => .inr ()) (fun _ _ => True) (fun _ _ _ _ _ => trivial) hgo hbad hend () trivial
  unfold refLevel lvl
  rw [show ((0 : Int) = ((0 : Nat) : Int)) from rfl, this, all_range]
  cases ha : s.all isD with
  | false => simp
  | true =>
    simp only [if_true, Option.bind_some, true_and]
    unfold refLevel_j1
    by_cases h : s.length = 2 ∨ s.length = 4 ∨ s.length = 6 ∨ s.length = 8
    · rw [if_pos h, if_neg]
      rw [Int.tmod_eq_emod_of_nonneg (by omega)]
      simp; omega
    · rw [if_neg h]
      by_cases h0 : s.length = 0
      · rw [if_neg (by rw [h0]; decide), h0]
      · rw [if_pos]
        · rfl
        · rw [Int.tmod_eq_emod_of_nonneg (by omega)]
          by_cases h8 : 8 < s.length
          · simp; omega
          · simp; omega

/-! ### Entries and notes -/
def tailE (v : Int) (t o : Bool) : Int := if (if v = 2 then t || o else if v = 4 then !t || o else t == o) = true then 1 else 0
def oneE (e : ApiCodeEntry) : Int := if lvl e.Code = 0 then 1 else if e.From < 0 ∨ e.To ≤ e.From ∨ 36525 < e.To then 2 else if 6 < e.Terms.length then 8 else if e.Terms.all some1 = false then 1 else tailE (lvl e.Code) (decide (e.Terms ≠ [])) e.Other
theorem nomDescribed_eq (l : List Str) : nomDescribed l = some (some1 l) := by
  unfold nomDescribed some1
  cases l with
  | nil => rfl
  | cons x l =>
    have e : (0 : Int) < ((x :: l).length : Int) := by simp only [List.length_cons]; omega
    simp only [e, decide_true, if_true, validWords_eq, Option.bind_some, cond_true]
    simp
theorem pos_ne {α : Type} (l : List α) : decide ((0 : Int) < (l.length : Int)) = decide (l ≠ []) := by
  cases l with
  | nil => rfl
  | cons x l =>
    have e : (0 : Int) < ((x :: l).length : Int) := by simp only [List.length_cons]; omega
    simp only [e]; simp
theorem rngE (e : ApiCodeEntry) : (bif (bif (decide (e.From < (0 : Int))) then true else (decide (e.To ≤ e.From))) then true else (decide ((36525 : Int) < e.To))) = decide (e.From < 0 ∨ e.To ≤ e.From ∨ 36525 < e.To) := by
  by_cases h1 : e.From < 0 <;> by_cases h2 : e.To ≤ e.From <;> by_cases h3 : 36525 < e.To <;> simp [h1, h2, h3]
theorem validateEntry_eq (e : ApiCodeEntry) : validateEntry e = some (oneE e) := by
  unfold validateEntry oneE
  rw [nomLevel_eq, Option.bind_some]
  by_cases h1 : lvl e.Code = 0
  · rw [if_pos (by simpa using h1), if_pos h1]
  rw [if_neg (by simpa using h1), if_neg h1, rngE]
  by_cases h2 : e.From < 0 ∨ e.To ≤ e.From ∨ 36525 < e.To
  · rw [if_pos (by simpa using h2), if_pos h2]
  rw [if_neg (by simpa using h2), if_neg h2]
  by_cases h3 : 6 < e.Terms.length
  · rw [if_pos (by simp only [decide_eq_true_eq]; omega), if_pos h3]
  rw [if_neg (by simp only [decide_eq_true_eq]; omega), if_neg h3]
  have step : ∀ (i : Nat) (x : List Str), e.Terms[i]? = some x → validateEntry_b1 e (lvl e.Code) (i : Int) = if (!some1 x) = true then some (.inr (.inl 1)) else some (.inl ((i + 1 : Nat) : Int)) := fun i x hx => by
    have hlt := lt_of_get hx
    unfold validateEntry_b1
    rw [if_pos (by simp; omega), if_pos (by omega), Int.toNat_natCast, hx, Option.bind_some, nomDescribed_eq, Option.bind_some, w64 (n := (i : Int) + 1) (by omega)]; rfl
  have l1 := loop_list (β := Unit) e.Terms (validateEntry_b1 e (lvl e.Code)) (fun i _ => (i : Int)) (fun _ _ => ()) (fun i => some1 (e.Terms.getD i default)) (.inl (1 : Int)) (fun _ => .inr ()) (fun _ _ => True) (fun _ _ _ _ _ => trivial)
    (fun i x b _ hx hp => by rw [getD_of hx] at hp; rw [step i x hx, hp]; rfl) (fun i x b _ hx hp => by rw [getD_of hx] at hp; rw [step i x hx, hp]; rfl) (fun b _ => by unfold validateEntry_b1; rw [if_neg (by simp)]) () trivial
  rw [show ((0 : Int) = ((0 : Nat) : Int)) from rfl, l1, range_all some1]
  cases ha : e.Terms.all some1 with
  | false => simp
  | true =>
    simp only [if_true, Option.bind_some, Bool.true_eq_false, if_false]
    unfold validateEntry_j1 validateEntry_j2 tailE
    rw [pos_ne]
    by_cases c2 : lvl e.Code = 2
    · simp only [c2, beq_self_eq_true, if_true]
      cases decide (e.Terms ≠ []) <;> cases e.Other <;> rfl
    · rw [if_neg (by simpa using c2), if_neg c2]
      by_cases c4 : lvl e.Code = 4
      · simp only [c4, beq_self_eq_true, if_true]
        cases decide (e.Terms ≠ []) <;> cases e.Other <;> rfl
      · rw [if_neg (by simpa using c4), if_neg c4]
        split <;> rfl
theorem refOne_eq {e : ApiCodeEntry} (hok : okApiCodeEntry e) : refOne e = some (oneE e) := by
  obtain ⟨k1, k2, k3, k4, k5⟩ := hok
  unfold refOne oneE
  rw [refLevel_eq k1, Option.bind_some]
  by_cases h1 : lvl e.Code = 0
  · rw [if_pos (by simpa using h1), if_pos h1]
  rw [if_neg (by simpa using h1), if_neg h1, rngE]
  by_cases h2 : e.From < 0 ∨ e.To ≤ e.From ∨ 36525 < e.To
  · rw [if_pos (by simpa using h2), if_pos h2]
  rw [if_neg (by simpa using h2), if_neg h2]
  by_cases h3 : 6 < e.Terms.length
  · rw [if_pos (by simp only [decide_eq_true_eq]; omega), if_pos h3]
  rw [if_neg (by simp only [decide_eq_true_eq]; omega), if_neg h3]
  have step : ∀ (i : Nat) (x : List Str), e.Terms[i]? = some x → refOne_b1 e (i : Int) = if (!some1 x) = true then some (.inr (.inl 1)) else some (.inl ((i + 1 : Nat) : Int)) := fun i x hx => by
    have hlt := lt_of_get hx
    have hr := k5 x (List.mem_of_getElem? hx)
    unfold refOne_b1
    rw [if_pos (by simp; omega), if_pos (by omega), Int.toNat_natCast, hx, Option.bind_some, refWords_eq _ hr.1 hr.2, Option.bind_some, if_pos (fun _ => by omega), getD_of hx, w64 (n := (i : Int) + 1) (by omega)]
    have : (bif (!wordsOk x) then true else ((x.length : Int) == (0 : Int))) = !some1 x := by
      unfold some1
      cases x with
      | nil => cases wordsOk [] <;> rfl
      | cons y l =>
        have e : (((y :: l).length : Int) == 0) = false := by simp only [List.length_cons, beq_eq_false_iff_ne, ne_eq]; omega
        rw [e]; cases wordsOk (y :: l) <;> rfl
    rw [this]; rfl
  have l1 := loop_list (β := Unit) e.Terms (refOne_b1 e) (fun i _ => (i : Int)) (fun _ _ => ()) (fun i => some1 (e.Terms.getD i default)) (.inl (1 : Int)) (fun _ => .inr ()) (fun _ _ => True) (fun _ _ _ _ _ => trivial)
    (fun i x b _ hx hp => by rw [getD_of hx] at hp; rw [step i x hx, hp]; rfl) (fun i x b _ hx hp => by rw [getD_of hx] at hp; rw [step i x hx, hp]; rfl) (fun b _ => by unfold refOne_b1; rw [if_neg (by simp)]) () trivial
  rw [show ((0 : Int) = ((0 : Nat) : Int)) from rfl, l1, range_all some1]
  cases ha : e.Terms.all some1 with
  | false => simp
  | true =>
    simp only [if_true, Option.bind_some, Bool.true_eq_false, if_false]
    unfold refOne_j1 refOne_j2 tailE
    rw [refLevel_eq k1, Option.bind_some, pos_ne]
    by_cases c2 : lvl e.Code = 2
    · simp only [c2, beq_self_eq_true, if_true]
      cases decide (e.Terms ≠ []) <;> cases e.Other <;> rfl
    · rw [if_neg (by simpa using c2), if_neg c2]
      by_cases c4 : lvl e.Code = 4
      · simp only [c4, beq_self_eq_true, if_true]
        cases decide (e.Terms ≠ []) <;> cases e.Other <;> rfl
      · rw [if_neg (by simpa using c4), if_neg c4]
        split <;> rfl

def noteOk (x : ApiCodeNote) : Bool := decide (lvl x.Scope ≠ 0) && (some1 x.Words && (decide (x.Target = []) || decide (lvl x.Target = 4)))
theorem validateNote_eq (x : ApiCodeNote) : validateNote x = some (if noteOk x = true then 0 else 1) := by
  unfold validateNote noteOk
  rw [nomLevel_eq, Option.bind_some]
  by_cases h1 : lvl x.Scope = 0
  · rw [if_neg (by simp [h1]), Option.bind_some, if_pos (by simp [h1]), if_neg (by simp [h1])]
  rw [if_pos (by simp [h1]), nomDescribed_eq, Option.bind_some]
  cases h2 : some1 x.Words with
  | false => rw [if_pos (by simp), if_neg (by simp)]
  | true =>
    rw [if_neg (by simp [h1])]
    by_cases h3 : x.Target = []
    · rw [if_neg (by simp [h3]), Option.bind_some, if_neg (by simp [h3]), if_pos (by simp [h1, h3])]
    · rw [if_pos (by simp [h3]), nomLevel_eq, Option.bind_some]
      by_cases h4 : lvl x.Target = 4
      · rw [if_neg (by simp [h4]), if_pos (by simp [h1, h4])]
      · rw [if_pos (by simp [h3, h4]), if_neg (by simp [h3, h4])]
theorem lvl_nonneg (s : Str) : 0 ≤ lvl s := by
  unfold lvl
  split
  · omega
  · omega
theorem refNote_eq {x : ApiCodeNote} (hok : okApiCodeNote x) : refNote x = some (noteOk x) := by
  obtain ⟨k1, k2, k3⟩ := hok
  unfold refNote noteOk
  rw [refLevel_eq k1, Option.bind_some]
  have hn := lvl_nonneg x.Scope
  by_cases h1 : lvl x.Scope = 0
  · rw [if_neg (by simp [h1]), Option.bind_some, if_neg (by simp [h1]), Option.bind_some]
    simp [h1]
  have hp : (0 : Int) < lvl x.Scope := by omega
  rw [if_pos (by simp [hp]), refWords_eq _ k2.1 k2.2, Option.bind_some]
  simp only [hp, decide_true, cond_true, h1, ne_eq, not_false_eq_true, Bool.true_and, pos_ne]
  have hs : (bif wordsOk x.Words then decide (x.Words ≠ []) else false) = some1 x.Words := by
    unfold some1
    cases wordsOk x.Words <;> cases decide (x.Words ≠ []) <;> rfl
  simp only [ne_eq] at hs
  rw [hs]
  by_cases h3 : x.Target = []
  · rw [if_neg (by simp [h3]), Option.bind_some]
    cases some1 x.Words <;> simp [h3]
  · cases h2 : some1 x.Words with
    | false => rw [if_neg (by simp), Option.bind_some]; simp
    | true =>
      rw [if_pos (by simp [h3]), refLevel_eq k3, Option.bind_some]
      have e : (x.Target == ([] : Str)) = false := by simpa using h3
      simp only [e, h3, cond_true, cond_false, decide_false, Bool.false_or, Bool.true_and]
      congr 1

end Go.C
