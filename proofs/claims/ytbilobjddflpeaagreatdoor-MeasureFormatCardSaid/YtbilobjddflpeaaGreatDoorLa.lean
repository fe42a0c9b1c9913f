/- Plain laws: sources of numbers, the first error of a list, codes' levels. No program in sight. -/
import Derived.Test.YtbilobjddflpeaaGreatDoorPa
import Derived.Test.YtbilobjddflpeaaGreatDoorPb
import Derived.Test.YtbilobjddflpeaaGreatDoorUa
import Derived.Lib.SlTrimSet
set_option linter.unusedVariables false
set_option linter.unusedSimpArgs false
namespace Go.C
open Go.V

theorem getD_of {α : Type} {xs : List α} {i : Nat} {x d : α} (h : xs[i]? = some x) : xs.getD i d = x := by rw [List.getD_eq_getElem?_getD, h]; rfl
theorem lt_of_get {α : Type} {xs : List α} {i : Nat} {x : α} (h : xs[i]? = some x) : i < xs.length := (List.getElem?_eq_some_iff.1 h).1
theorem within_eq {x n : Int} (hn : 0 < n) (hn2 : n ≤ 4611686018427387904) : within x n = some (x % n) := by
  unfold within
  rw [if_pos (by omega), if_pos (by omega)]
  congr 1
  have h1 : -n < x.tmod n ∧ x.tmod n < n := ⟨by have := Int.lt_tmod_of_pos x hn; omega, Int.tmod_lt_of_pos x hn⟩
  rw [IntWalk.i64_in _ (by omega), Int.tmod_eq_emod_of_nonneg (by omega), Int.add_emod_right]
  rw [Int.tmod_eq_emod]
  split
  · simp
  · have : ((n.natAbs : Nat) : Int) = n := by omega
    rw [this, Int.sub_emod_right]
    exact Int.emod_emod_of_dvd x (Int.dvd_refl n)

def SOk (s : CustomsmadeSource) : Prop := 0 ≤ s.I ∧ s.I ≤ s.L.length ∧ s.L.length ≤ 1000

theorem next_ok {s : CustomsmadeSource} {n : Int} (hs : SOk s) (hn : 0 < n) (hn2 : n ≤ 4611686018427387904) : ∃ r s', srcNext s n = some (r, s') ∧ 0 ≤ r ∧ r < n ∧ SOk s' := by
  obtain ⟨h0, h1, h2⟩ := hs
  unfold srcNext
  split
  · exact ⟨0, s, rfl, by omega, by omega, h0, h1, h2⟩
  · rename_i c
    simp at c
    have e : IntKind.i64.wrap (IntKind.i64.wrap (s.I + 1) - 1) = s.I := by
      rw [IntWalk.i64_in (s.I + 1) (by omega), IntWalk.i64_in _ (by omega)]; omega
    rw [e, if_pos h0]
    have hlt : s.I.toNat < s.L.length := by omega
    rw [List.getElem?_eq_getElem hlt]
    simp only [Option.bind_some, within_eq hn hn2]
    refine ⟨_, _, rfl, Int.emod_nonneg _ (by omega), Int.emod_lt_of_pos _ hn, ?_⟩
    refine ⟨?_, ?_, h2⟩ <;> simp only <;> rw [IntWalk.i64_in (s.I + 1) (by omega)] <;> omega

theorem cut_ok (l : List Int) (n : Nat) (hn : n ≤ 1000) : ∃ v, madeCut l (n : Int) = some v ∧ v.length ≤ n := by
  unfold madeCut
  split
  · rename_i c
    simp only [decide_eq_true_eq] at c
    rw [if_pos (by omega)]
    exact ⟨_, rfl, by simp; omega⟩
  · rename_i c
    simp only [decide_eq_true_eq] at c
    exact ⟨_, rfl, by omega⟩

theorem loop_inv {σ τ : Type} {f : σ → Option (σ ⊕ τ)} (I : Nat → σ → Prop) (R : τ → Prop)
    (hstep : ∀ n s, I n s → (∃ s' m, m < n ∧ f s = some (.inl s') ∧ I m s') ∨ (∃ r, f s = some (.inr r) ∧ R r)) : ∀ n s, I n s → ∃ r, loopO f s = some r ∧ R r := by
  intro n
  induction n using Nat.strongRecOn with
  | ind n ih =>
    intro s h
    rcases hstep n s h with ⟨s', m, hm, h1, h2⟩ | ⟨r, h1, h2⟩
    · obtain ⟨r, h3, h4⟩ := ih m hm s' h2
      exact ⟨r, by rw [loop_step h1]; exact h3, h4⟩
    · exact ⟨r, loop_stop h1, h2⟩

def ferr : Nat → (Nat → Int) → Int
  | 0, _ => 0
  | n + 1, f => if ferr n f = 0 then f n else ferr n f
theorem ferr_zero {f : Nat → Int} : ∀ {n : Nat}, ferr n f = 0 ↔ ∀ i, i < n → f i = 0
  | 0 => by simp [ferr]
  | n + 1 => by
    have ih := ferr_zero (f := f) (n := n)
    unfold ferr
    constructor
    · intro h i hi
      by_cases h0 : ferr n f = 0
      · rw [if_pos h0] at h
        by_cases e : i = n
        · subst e; exact h
        · exact ih.1 h0 i (by omega)
      · rw [if_neg h0] at h; exact absurd h h0
    · intro h
      rw [if_pos (ih.2 fun i hi => h i (by omega))]
      exact h n (by omega)
theorem ferr_first {f : Nat → Int} : ∀ {n k : Nat}, k < n → (∀ i, i < k → f i = 0) → f k ≠ 0 → ferr n f = f k
  | 0, k, h, _, _ => by omega
  | n + 1, k, h, h0, hk => by
    unfold ferr
    by_cases e : k = n
    · subst e; rw [if_pos (ferr_zero.2 h0)]
    · have := ferr_first (f := f) (n := n) (k := k) (by omega) h0 hk
      rw [if_neg (by rw [this]; exact hk), this]
theorem ferr_congr {f g : Nat → Int} : ∀ {n : Nat}, (∀ i, i < n → f i = g i) → ferr n f = ferr n g
  | 0, _ => rfl
  | n + 1, h => by
    unfold ferr
    rw [ferr_congr (n := n) (fun i hi => h i (by omega)), h n (by omega)]
theorem loop_err {α : Type} (xs : List α) (body : Int → Option (Int ⊕ (Int ⊕ Unit))) (f : Nat → Int)
    (hstep : ∀ i x, xs[i]? = some x → (∀ j, j < i → f j = 0) → body (i : Int) = if f i = 0 then some (.inl ((i + 1 : Nat) : Int)) else some (.inr (.inl (f i)))) (hend : body (xs.length : Int) = some (.inr (.inr ()))) :
    loopO body (0 : Int) = some (if ferr xs.length f = 0 then .inr () else .inl (ferr xs.length f)) := by
  have key : ∀ m k : Nat, k + m = xs.length → (∀ j, j < k → f j = 0) → loopO body (k : Int) = some (if ferr xs.length f = 0 then .inr () else .inl (ferr xs.length f)) := by
    intro m
    induction m with
    | zero =>
      intro k hk h0
      have : k = xs.length := by omega
      subst this
      rw [loop_stop hend, if_pos (ferr_zero.2 h0)]
    | succ m ih =>
      intro k hk h0
      have hlt : k < xs.length := by omega
      have hs := hstep k _ (List.getElem?_eq_getElem hlt) h0
      by_cases hf : f k = 0
      · rw [if_pos hf] at hs
        rw [loop_step hs]
        exact ih (k + 1) (by omega) (fun j hj => by
          by_cases e : j = k
          · subst e; exact hf
          · exact h0 j (by omega))
      · rw [if_neg hf] at hs
        rw [loop_stop hs, ferr_first hlt h0 hf, if_neg hf]
  exact key xs.length 0 (by omega) (fun j hj => by omega)

def isD (b : UInt8) : Bool := decide (48 ≤ b.toNat) && decide (b.toNat ≤ 57)
abbrev digs : Str := [48, 49, 50, 51, 52, 53, 54, 55, 56, 57]
theorem digs_eq (b : UInt8) : digs.contains b = isD b := by
  have h : ∀ n : Fin 256, digs.contains (UInt8.ofNat n.val) = isD (UInt8.ofNat n.val) := by decide +kernel
  have := h ⟨b.toNat, b.toNat_lt⟩
  simpa using this
theorem mem_dropWhile {α : Type} {p : α → Bool} {x : α} : ∀ {l : List α}, x ∈ l → p x = false → x ∈ l.dropWhile p
  | [], h, _ => by cases h
  | y :: l, h, hp => by
    rw [List.dropWhile_cons]
    split
    · rename_i hy
      rcases List.mem_cons.1 h with rfl | h
      · rw [hp] at hy; cases hy
      · exact mem_dropWhile h hp
    · exact h
theorem dropWhile_nil {α : Type} {p : α → Bool} : ∀ {l : List α}, (∀ x, x ∈ l → p x = true) → l.dropWhile p = []
  | [], _ => rfl
  | y :: l, h => by rw [List.dropWhile_cons, if_pos (h y (by simp))]; exact dropWhile_nil (fun x hx => h x (by simp [hx]))
theorem trimS_nil (s : Str) : (Lib.trimS s digs == ([] : Str)) = s.all isD := by
  have hall : s.all isD = s.all (digs.contains ·) := by congr 1; funext b; exact (digs_eq b).symm
  rw [hall, Bool.eq_iff_iff, beq_iff_eq, List.all_eq_true]
  unfold Lib.trimS Lib.trimLeftS Lib.trimRightS
  constructor
  · intro h x hx
    cases hp : digs.contains x with
    | true => rfl
    | false =>
      have h1 : x ∈ (s.reverse.dropWhile (digs.contains ·)).reverse := List.mem_reverse.2 (mem_dropWhile (List.mem_reverse.2 hx) hp)
      have h2 := mem_dropWhile (p := (digs.contains ·)) h1 hp
      rw [h] at h2; cases h2
  · intro h
    have : s.reverse.dropWhile (digs.contains ·) = [] := dropWhile_nil (fun x hx => h x (List.mem_reverse.1 hx))
    rw [this]; rfl
theorem trim_some {s : Str} (h : s.length ≤ 9223372036854775807) : trimS s digs = some (Lib.trimS s digs) := by
  unfold trimS
  rw [if_pos ⟨h, by decide, by decide⟩]

def lvl (s : Str) : Int := if s.all isD = true ∧ (s.length = 2 ∨ s.length = 4 ∨ s.length = 6 ∨ s.length = 8) then (s.length : Int) else 0
theorem nomLevel_eq (s : Str) : nomLevel s = some (lvl s) := by
  have ht : ∀ k : Int, k ≤ 8 → (if ((s.length : Int) == k) = true then trimS s digs else some default) = some (if (s.length : Int) = k then Lib.trimS s digs else default) := fun k hk => by
    by_cases h : (s.length : Int) = k
    · rw [if_pos (by simpa using h), if_pos h, trim_some (by omega)]
    · rw [if_neg (by simpa using h), if_neg h]
  have hc : ∀ k : Int, (bif ((s.length : Int) == k) then ((if (s.length : Int) = k then Lib.trimS s digs else default) == ([] : Str)) else false) = (decide ((s.length : Int) = k) && s.all isD) := fun k => by
    by_cases h : (s.length : Int) = k
    · have e : ((s.length : Int) == k) = true := by simpa using h
      rw [e, if_pos h, trimS_nil]; simp [h]
    · have e : ((s.length : Int) == k) = false := by simpa using h
      rw [e]; simp [h]
  unfold nomLevel nomLevel_j1 lvl
  rw [ht 2 (by omega), Option.bind_some, hc, ht 4 (by omega), Option.bind_some, hc, ht 6 (by omega), Option.bind_some, hc, ht 8 (by omega), Option.bind_some, hc]
  cases ha : s.all isD with
  | false => simp
  | true =>
    simp only [Bool.and_true, decide_eq_true_eq, true_and]
    by_cases h2 : (s.length : Int) = 2
    · rw [if_pos h2, if_pos (.inl (by omega)), h2]
    · rw [if_neg h2]
      by_cases h4 : (s.length : Int) = 4
      · rw [if_pos h4, if_pos (.inr (.inl (by omega))), h4]
      · rw [if_neg h4]
        by_cases h6 : (s.length : Int) = 6
        · rw [if_pos h6, if_pos (.inr (.inr (.inl (by omega)))), h6]
        · rw [if_neg h6]
          by_cases h8 : (s.length : Int) = 8
          · rw [if_pos h8, if_pos (.inr (.inr (.inr (by omega)))), h8]
          · rw [if_neg h8, if_neg (by omega)]
theorem isD_iff (b : UInt8) : isD b = true ↔ 48 ≤ b.toNat ∧ b.toNat ≤ 57 := by simp [isD]
theorem all_range {p : UInt8 → Bool} (s : Str) : ((List.range s.length).all fun i => p (s.getD i 0)) = s.all p := by
  rw [Bool.eq_iff_iff, List.all_eq_true, List.all_eq_true]
  constructor
  · intro h x hx
    obtain ⟨i, hi, rfl⟩ := List.getElem_of_mem hx
    have := h i (List.mem_range.2 hi)
    rwa [List.getD_eq_getElem?_getD, List.getElem?_eq_getElem hi] at this
  · intro h i hi
    have hi := List.mem_range.1 hi
    rw [List.getD_eq_getElem?_getD, List.getElem?_eq_getElem hi]
    exact h _ (List.getElem_mem hi)
theorem refLevel_eq {s : Str} (hs : s.length ≤ 9223372036854775807) : refLevel s = some (lvl s) := by
  have hgo : ∀ (i : Nat) (x : UInt8) (b : Unit), True → s[i]? = some x → isD (s.getD i 0) = true → refLevel_b1 s (i : Int) = some (.inl ((i + 1 : Nat) : Int)) := fun i x b _ hx hp => by
    have hlt := lt_of_get hx
    have hp := (isD_iff _).1 hp
    unfold refLevel_b1
    dsimp only
    rw [Int.toNat_natCast, if_pos (by simp; omega), if_pos (by omega), if_pos (fun _ => by omega), if_neg (rng_f (by omega)), w64 (by omega)]
    rfl
  have hbad : ∀ (i : Nat) (x : UInt8) (b : Unit), True → s[i]? = some x → isD (s.getD i 0) = false → refLevel_b1 s (i : Int) = some (.inr (.inl 0)) := fun i x b _ hx hp => by
    have hlt := lt_of_get hx
    have hp : ¬ (48 ≤ (s.getD i 0).toNat ∧ (s.getD i 0).toNat ≤ 57) := fun h => by rw [(isD_iff _).2 h] at hp; cases hp
    unfold refLevel_b1
    dsimp only
    rw [Int.toNat_natCast, if_pos (by simp; omega), if_pos (by omega), if_pos (fun _ => by omega), if_pos (rng_t (by omega))]
  have hend : ∀ b : Unit, True → refLevel_b1 s (s.length : Int) = some (.inr (.inr ())) := fun b _ => by
    unfold refLevel_b1
    rw [if_neg (by simp)]
  have := loop_list (β := Unit) s (refLevel_b1 s) (fun i _ => (i : Int)) (fun _ _ => ()) (fun i => isD (s.getD i 0)) (.inl 0) (fun _ => .inr ()) (fun _ _ => True) (fun _ _ _ _ _ => trivial) hgo hbad hend () trivial
  unfold refLevel lvl
  rw [show ((0 : Int) = ((0 : Nat) : Int)) from rfl, this, all_range]
  cases ha : s.all isD with
  | false => simp
  | true =>
    simp only [if_true, Option.bind_some, true_and]
    unfold refLevel_j1
    by_cases h : s.length = 2 ∨ s.length = 4 ∨ s.length = 6 ∨ s.length = 8
    · rw [if_pos h, if_neg]
      rw [Int.tmod_eq_emod_of_nonneg (by omega)]
      simp; omega
    · rw [if_neg h]
      by_cases h0 : s.length = 0
      · rw [if_neg (by rw [h0]; decide), h0]
      · rw [if_pos]
        · rfl
        · rw [Int.tmod_eq_emod_of_nonneg (by omega)]
          by_cases h8 : 8 < s.length
          · simp; omega
          · simp; omega

theorem lvl_nonneg (s : Str) : 0 ≤ lvl s := by
  unfold lvl
  split
  · omega
  · omega

end Go.C
