/- Plain laws of chapter 8: words, and Validate. No program in sight. -/
import Derived.Test.YtfkefolbabniaaaGreatDoorGa
import Derived.Test.YtfkefolbabniaaaGreatDoorPb
set_option linter.unusedVariables false
set_option linter.unusedSimpArgs false
namespace Go.C
open Go.V

theorem isL_iff (b : UInt8) : isL b = true ↔ 97 ≤ b.toNat ∧ b.toNat ≤ 122 := by simp [isL]
theorem isL_not (b : UInt8) : isL b = false ↔ b.toNat < 97 ∨ 122 < b.toNat := by
  rw [← Bool.not_eq_true, isL_iff]; omega
theorem lt_of_get {α : Type} {xs : List α} {i : Nat} {x : α} (h : xs[i]? = some x) : i < xs.length := (List.getElem?_eq_some_iff.1 h).1
theorem getD_of {α : Type} {xs : List α} {i : Nat} {x d : α} (h : xs[i]? = some x) : xs.getD i d = x := by rw [List.getD_eq_getElem?_getD, h]; rfl

theorem range_all {α : Type} (q : α → Bool) (d : α) : ∀ xs : List α, ((List.range xs.length).all fun i => q (xs.getD i d)) = xs.all q := by
  intro xs
  rw [Bool.eq_iff_iff, List.all_eq_true, List.all_eq_true]
  constructor
  · intro h x hx
    obtain ⟨i, hi, rfl⟩ := List.getElem_of_mem hx
    have := h i (List.mem_range.2 hi)
    rwa [List.getD_eq_getElem?_getD, List.getElem?_eq_getElem hi] at this
  · intro h i hi
    have hi := List.mem_range.1 hi
    rw [List.getD_eq_getElem?_getD, List.getElem?_eq_getElem hi]
    exact h _ (List.getElem_mem hi)
theorem isWord_eq (s : Str) : isWord s = some (isW s) := by
  unfold isWord isW
  by_cases h1 : 1 ≤ s.length
  · by_cases h2 : s.length ≤ 12
    · have hc : (bif (decide ((s.length : Int) < (1 : Int))) then true else (decide ((12 : Int) < (s.length : Int)))) = false := by
        have e1 : ¬ ((s.length : Int) < 1) := by omega
        have e2 : ¬ ((12 : Int) < (s.length : Int)) := by omega
        simp [e1, e2]
      rw [if_neg (by rw [hc]; simp)]
      have hgo : ∀ (i : Nat) (x : UInt8) (b : Unit), True → s[i]? = some x → isL (s.getD i 0) = true → isWord_b1 s i = some (.inl (i + 1)) := fun i x b _ hx hp => by
        have hlt := lt_of_get hx
        have hp := (isL_iff _).1 hp
        obtain ⟨r1, r2⟩ := rune_low s i hlt (by omega)
        unfold isWord_b1
        rw [if_pos hlt, if_neg (rng_f (by rw [r1]; omega)), r2]
      have hbad : ∀ (i : Nat) (x : UInt8) (b : Unit), True → s[i]? = some x → isL (s.getD i 0) = false → isWord_b1 s i = some (.inr (.inl false)) := fun i x b _ hx hp => by
        have hlt := lt_of_get hx
        have hp := (isL_not _).1 hp
        have hr : runeI s i < 97 ∨ 122 < runeI s i := by
          by_cases hb : (s.getD i 0).toNat < 128
          · obtain ⟨r1, r2⟩ := rune_low s i hlt hb
            rw [r1]; omega
          · have := rune_high s i hlt (by omega)
            omega
        unfold isWord_b1
        rw [if_pos hlt, if_pos (rng_t hr)]
      have hend : ∀ b : Unit, True → isWord_b1 s s.length = some (.inr (.inr ())) := fun b _ => by
        unfold isWord_b1
        rw [if_neg (by omega)]
      have := loop_list (β := Unit) s (isWord_b1 s) (fun i _ => i) (fun _ _ => ()) (fun i => isL (s.getD i 0)) (.inl false) (fun _ => .inr ()) (fun _ _ => True) (fun _ _ _ _ _ => trivial) hgo hbad hend () trivial
      rw [this]
      by_cases hall : ((List.range s.length).all fun i => isL (s.getD i 0)) = true
      · rw [if_pos hall]; simp only [Option.bind_some, isWord_j1, hall, h1, h2]; rfl
      · rw [if_neg hall]; simp only [Option.bind_some, Bool.not_eq_true] at hall ⊢; rw [hall]; simp
    · have hc : (bif (decide ((s.length : Int) < (1 : Int))) then true else (decide ((12 : Int) < (s.length : Int)))) = true := by
        have e2 : ((12 : Int) < (s.length : Int)) := by omega
        simp [e2]
      rw [if_pos hc]; simp [h2]
  · have hc : (bif (decide ((s.length : Int) < (1 : Int))) then true else (decide ((12 : Int) < (s.length : Int)))) = true := by
      have e2 : ((s.length : Int) < 1) := by omega
      simp [e2]
    rw [if_pos hc]; simp [h1]

theorem refWord_eq (s : Str) (hs : s.length ≤ 9223372036854775807) : refWord s = some (isW s) := by
  have hgo : ∀ (i : Nat) (x : UInt8) (b : Unit), True → s[i]? = some x → isL (s.getD i 0) = true → refWord_b1 s (i : Int) = some (.inl ((i + 1 : Nat) : Int)) := fun i x b _ hx hp => by
    have hlt := lt_of_get hx
    have hp := (isL_iff _).1 hp
    unfold refWord_b1
    dsimp only
    rw [Int.toNat_natCast, if_pos (by simp; omega), if_pos (by omega), if_pos (fun _ => by omega), if_neg (rng_f (by omega)), w64 (by omega)]
    rfl
  have hbad : ∀ (i : Nat) (x : UInt8) (b : Unit), True → s[i]? = some x → isL (s.getD i 0) = false → refWord_b1 s (i : Int) = some (.inr (.inl false)) := fun i x b _ hx hp => by
    have hlt := lt_of_get hx
    have hp := (isL_not _).1 hp
    unfold refWord_b1
    dsimp only
    rw [Int.toNat_natCast, if_pos (by simp; omega), if_pos (by omega), if_pos (fun _ => by omega), if_pos (rng_t (by omega))]
  have hend : ∀ b : Unit, True → refWord_b1 s (s.length : Int) = some (.inr (.inr ())) := fun b _ => by
    unfold refWord_b1
    rw [if_neg (by simp)]
  have := loop_list (β := Unit) s (refWord_b1 s) (fun i _ => (i : Int)) (fun _ _ => ()) (fun i => isL (s.getD i 0)) (.inl false) (fun _ => .inr ()) (fun _ _ => True) (fun _ _ _ _ _ => trivial) hgo hbad hend () trivial
  unfold refWord isW
  rw [show ((0 : Int) = ((0 : Nat) : Int)) from rfl, this]
  by_cases hall : ((List.range s.length).all fun i => isL (s.getD i 0)) = true
  · rw [if_pos hall]; simp only [Option.bind_some, refWord_j1, hall]
    have e1 : decide ((1 : Int) ≤ (s.length : Int)) = decide (1 ≤ s.length) := by congr 1; apply propext; omega
    have e2 : decide ((s.length : Int) ≤ (12 : Int)) = decide (s.length ≤ 12) := by congr 1; apply propext; omega
    rw [e1, e2]
    cases decide (1 ≤ s.length) <;> cases decide (s.length ≤ 12) <;> rfl
  · rw [if_neg hall]; simp only [Option.bind_some, Bool.not_eq_true] at hall ⊢; rw [hall]; simp

/-- The word at this place is a word, and behind the one ahead of it. -/
def wp (l : List Str) (i : Nat) : Bool := isW (l.getD i default) && (decide (i = 0) || Op.bytesLess (l.getD (i - 1) default) (l.getD i default))
def wordsOk (l : List Str) : Bool := decide (l.length ≤ 8) && (List.range l.length).all (wp l)

def some1 (l : List Str) : Bool := decide (l ≠ []) && wordsOk l

theorem wp_cond {l : List Str} {i : Nat} : (bif (!isW (l.getD i default)) then true else (bif (decide ((0 : Int) < (i : Int))) then (!Op.bytesLess (l.getD (i - 1) default) (l.getD i default)) else false)) = !wp l i := by
  unfold wp
  by_cases h0 : i = 0
  · subst h0; cases isW (l.getD 0 default) <;> simp
  · have e : ((0 : Int) < (i : Int)) := by omega
    simp only [e, h0, decide_true, decide_false, cond_true, Bool.false_or]
    cases isW (l.getD i default) <;> simp

theorem pre_nat {i : Nat} (h : i ≤ 9223372036854775807) (h0 : 0 < i) : (IntKind.i64.wrap ((i : Int) - (1 : Int))).toNat = i - 1 := by
  rw [w64 (by omega)]; omega

theorem validWords_eq (l : List Str) : validWords l = some (wordsOk l) := by
  unfold validWords wordsOk
  by_cases h8 : l.length ≤ 8
  · rw [if_neg (by simp; omega)]
    have step : ∀ (i : Nat) (x : Str), l[i]? = some x → validWords_b1 l (i : Int) = if (!wp l i) = true then some (.inr (.inl false)) else some (.inl ((i + 1 : Nat) : Int)) := fun i x hx => by
      have hlt := lt_of_get hx
      unfold validWords_b1
      rw [if_pos (by simp; omega), if_pos (by omega), Int.toNat_natCast, hx, Option.bind_some, isWord_eq, Option.bind_some]
      rw [if_pos (fun h => by
        have : (0 : Int) < (i : Int) := by simp at h; omega
        rw [w64 (by omega)]; omega)]
      rw [← wp_cond, getD_of hx, bl_total, w64 (n := (i : Int) + 1) (by omega)]
      by_cases h0 : i = 0
      · subst h0; rfl
      · rw [pre_nat (by omega) (by omega)]; rfl
    have hgo : ∀ (i : Nat) (x : Str) (b : Unit), True → l[i]? = some x → wp l i = true → validWords_b1 l (i : Int) = some (.inl ((i + 1 : Nat) : Int)) := fun i x b _ hx hp => by rw [step i x hx, hp]; rfl
    have hbad : ∀ (i : Nat) (x : Str) (b : Unit), True → l[i]? = some x → wp l i = false → validWords_b1 l (i : Int) = some (.inr (.inl false)) := fun i x b _ hx hp => by rw [step i x hx, hp]; rfl
    have hend : ∀ b : Unit, True → validWords_b1 l (l.length : Int) = some (.inr (.inr ())) := fun b _ => by
      unfold validWords_b1
      rw [if_neg (by simp)]
    have := loop_list (β := Unit) l (validWords_b1 l) (fun i _ => (i : Int)) (fun _ _ => ()) (wp l) (.inl false) (fun _ => .inr ()) (fun _ _ => True) (fun _ _ _ _ _ => trivial) hgo hbad hend () trivial
    rw [show ((0 : Int) = ((0 : Nat) : Int)) from rfl, this]
    simp only [h8, decide_true, Bool.true_and]
    by_cases hall : ((List.range l.length).all (wp l)) = true
    · rw [if_pos hall, hall]; rfl
    · rw [if_neg hall]; simp only [Option.bind_some, Bool.not_eq_true] at hall ⊢; rw [hall]
  · rw [if_pos (by simp; omega)]; simp [h8]

theorem refWords_eq (l : List Str) (hl : l.length ≤ 9223372036854775807) (hs : ∀ x, x ∈ l → x.length ≤ 9223372036854775807) : refWords l = some (wordsOk l) := by
  have step : ∀ (i : Nat) (x : Str), l[i]? = some x → refWords_b1 l (i : Int) = if (!wp l i) = true then some (.inr (.inl false)) else some (.inl ((i + 1 : Nat) : Int)) := fun i x hx => by
    have hlt := lt_of_get hx
    unfold refWords_b1
    rw [if_pos (by simp; omega), if_pos (by omega), Int.toNat_natCast, hx, Option.bind_some, refWord_eq x (hs x (List.mem_of_getElem? hx)), Option.bind_some]
    rw [if_pos (fun h => by
      have : (0 : Int) < (i : Int) := by simp at h; omega
      rw [w64 (by omega)]; omega), if_pos (fun h => by omega)]
    rw [← wp_cond, getD_of hx, w64 (n := (i : Int) + 1) (by omega)]
    by_cases h0 : i = 0
    · subst h0; rfl
    · rw [pre_nat (by omega) (by omega)]; rfl
  have hgo : ∀ (i : Nat) (x : Str) (b : Unit), True → l[i]? = some x → wp l i = true → refWords_b1 l (i : Int) = some (.inl ((i + 1 : Nat) : Int)) := fun i x b _ hx hp => by rw [step i x hx, hp]; rfl
  have hbad : ∀ (i : Nat) (x : Str) (b : Unit), True → l[i]? = some x → wp l i = false → refWords_b1 l (i : Int) = some (.inr (.inl false)) := fun i x b _ hx hp => by rw [step i x hx, hp]; rfl
  have hend : ∀ b : Unit, True → refWords_b1 l (l.length : Int) = some (.inr (.inr ())) := fun b _ => by
    unfold refWords_b1
    rw [if_neg (by simp)]
  have := loop_list (β := Unit) l (refWords_b1 l) (fun i _ => (i : Int)) (fun _ _ => ()) (wp l) (.inl false) (fun _ => .inr ()) (fun _ _ => True) (fun _ _ _ _ _ => trivial) hgo hbad hend () trivial
  unfold refWords wordsOk
  rw [show ((0 : Int) = ((0 : Nat) : Int)) from rfl, this]
  by_cases hall : ((List.range l.length).all (wp l)) = true
  · rw [if_pos hall, hall]; simp only [Option.bind_some, refWords_j1]
    have e1 : decide ((l.length : Int) ≤ (8 : Int)) = decide (l.length ≤ 8) := by congr 1; apply propext; omega
    rw [e1]; simp
  · rw [if_neg hall]; simp only [Option.bind_some, Bool.not_eq_true] at hall ⊢; rw [hall]; simp

end Go.C
