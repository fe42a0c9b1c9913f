/- Cut by cut.py. -/
import Derived.Test.YtcfkiahbipjbmaaGreatDoorVz
import Derived.IntWalk
import Derived.Test.YtcfkiahbipjbmaaGreatDoorPb
import Derived.Test.YtcfkiahbipjbmaaGreatDoorPl
import Derived.Lib.SplitLaws
import Derived.Lib.IndexLaws
import Derived.Lib.AtoiAllCases
import Derived.Test.YtcfkiahbipjbmaaGreatDoorPe
section
set_option linter.unusedVariables false
set_option linter.unusedSimpArgs false
namespace Go.C
open Go.V
theorem loop_step {σ τ : Type} {f : σ → Option (σ ⊕ τ)} {s x : σ} (h : f s = some (.inl x)) : loopO f s = loopO f x := by rw [loopO_eq, h]
theorem loop_stop {σ τ : Type} {f : σ → Option (σ ⊕ τ)} {s : σ} {r : τ} (h : f s = some (.inr r)) : loopO f s = some r := by rw [loopO_eq, h]
theorem loop_of {σ τ : Type} {f : σ → Option (σ ⊕ τ)} {s : σ} {r : τ} (k : Nat) (h : iter f k s = some r) : loopO f s = some r := loopO_iff.2 ⟨k, h⟩
/-- A loop over a list, that may be left early with one value. -/
theorem loop_list {α β σ τ : Type} (xs : List α) (f : σ → Option (σ ⊕ τ)) (mk : Nat → β → σ) (step : β → α → β) (p : Nat → Bool) (bad : τ) (r : β → τ) (I : Nat → β → Prop)
    (hI : ∀ i x b, I i b → xs[i]? = some x → I (i + 1) (step b x))
    (hgo : ∀ i x b, I i b → xs[i]? = some x → p i = true → f (mk i b) = some (.inl (mk (i + 1) (step b x))))
    (hbad : ∀ i x b, I i b → xs[i]? = some x → p i = false → f (mk i b) = some (.inr bad))
    (hend : ∀ b, I xs.length b → f (mk xs.length b) = some (.inr (r b))) (b0 : β) (h0 : I 0 b0) :
    loopO f (mk 0 b0) = some (if (List.range xs.length).all p = true then r (xs.foldl step b0) else bad) := by
  have key : ∀ (m k : Nat) (b : β), k + m = xs.length → I k b → loopO f (mk k b) = some (if (List.range' k m).all p = true then r ((xs.drop k).foldl step b) else bad) := by
    intro m
    induction m with
    | zero =>
      intro k b hk hb
      have : k = xs.length := by omega
      subst this
      rw [loop_stop (hend b hb)]
      simp
    | succ m ih =>
      intro k b hk hb
      have hlt : k < xs.length := by omega
      have hx : xs[k]? = some xs[k] := List.getElem?_eq_getElem hlt
      cases hp : p k with
      | true =>
        rw [loop_step (hgo k _ b hb hx hp), ih (k + 1) _ (by omega) (hI k _ b hb hx)]
        rw [List.drop_eq_getElem_cons hlt, List.foldl_cons, List.range'_succ, List.all_cons, hp, Bool.true_and]
      | false =>
        rw [loop_stop (hbad k _ b hb hx hp), List.range'_succ, List.all_cons, hp, Bool.false_and]
        simp
  have := key xs.length 0 b0 (by omega) h0
  rwa [← List.range_eq_range', List.drop_zero] at this
/-- A loop over a list that always goes to its end. -/
theorem loop_fold {α β σ τ : Type} (xs : List α) (f : σ → Option (σ ⊕ τ)) (mk : Nat → β → σ) (step : β → α → β) (r : β → τ) (I : Nat → β → Prop)
    (hI : ∀ i x b, I i b → xs[i]? = some x → I (i + 1) (step b x))
    (hgo : ∀ i x b, I i b → xs[i]? = some x → f (mk i b) = some (.inl (mk (i + 1) (step b x))))
    (hend : ∀ b, I xs.length b → f (mk xs.length b) = some (.inr (r b))) (b0 : β) (h0 : I 0 b0) :
    loopO f (mk 0 b0) = some (r (xs.foldl step b0)) := by
  have key : ∀ (m k : Nat) (b : β), k + m = xs.length → I k b → loopO f (mk k b) = some (r ((xs.drop k).foldl step b)) := by
    intro m
    induction m with
    | zero =>
      intro k b hk hb
      have : k = xs.length := by omega
      subst this
      rw [loop_stop (hend b hb)]
      simp
    | succ m ih =>
      intro k b hk hb
      have hlt : k < xs.length := by omega
      have hx : xs[k]? = some xs[k] := List.getElem?_eq_getElem hlt
      rw [loop_step (hgo k _ b hb hx), ih (k + 1) _ (by omega) (hI k _ b hb hx), List.drop_eq_getElem_cons hlt, List.foldl_cons]
  have := key xs.length 0 b0 (by omega) h0
  rwa [List.drop_zero] at this
theorem w64 {n : Int} (h : -9223372036854775808 ≤ n ∧ n ≤ 9223372036854775807) : IntKind.i64.wrap n = n := IntWalk.i64_in n h
theorem bl_total : ∀ a b : List UInt8, (Op.bytesLess a b || a == b) = !Op.bytesLess b a
  | [], [] => by simp [Op.bytesLess]
  | [], y :: b => by simp [Op.bytesLess]
  | x :: a, [] => by simp [Op.bytesLess]
  | x :: a, y :: b => by
    have ih := bl_total a b
    simp only [Op.bytesLess]
    by_cases h1 : x < y
    · have h2 : ¬ y < x := fun h => absurd (UInt8.lt_trans h1 h) (UInt8.lt_irrefl x)
      have h3 : x ≠ y := fun h => by subst h; exact UInt8.lt_irrefl x h1
      simp [h1, h2, h3, Ne.symm h3]
    · by_cases h2 : y < x
      · have h3 : x ≠ y := fun h => by subst h; exact UInt8.lt_irrefl x h2
        simp [h1, h2, h3, Ne.symm h3]
      · have h3 : x = y := UInt8.le_antisymm (UInt8.not_lt.1 h2) (UInt8.not_lt.1 h1)
        subst h3
        simp [ih]
/-- A letter; a word. -/
def isL (b : UInt8) : Bool := decide (97 ≤ b.toNat) && decide (b.toNat ≤ 122)
def isW (s : List UInt8) : Bool := decide (1 ≤ s.length) && (decide (s.length ≤ 12) && (List.range s.length).all fun i => isL (s.getD i 0))
theorem rune_low (s : List UInt8) (p : Nat) (h : p < s.length) (hb : (s.getD p 0).toNat < 128) : runeI s p = ((s.getD p 0).toNat : Int) ∧ runeW s p = 1 := by
  have hs : p < (⟨⟨s⟩⟩ : ByteArray).size := h
  have e : (⟨⟨s⟩⟩ : ByteArray)[p]'hs = s.getD p 0 := by
    show s[p] = _
    simp [List.getD_eq_getElem?_getD, List.getElem?_eq_getElem h]
  have := decode_ascii ⟨⟨s⟩⟩ p hs (by rw [e]; exact hb)
  unfold runeI runeW
  rw [this, e]
  exact ⟨rfl, rfl⟩
theorem rune_high (s : List UInt8) (p : Nat) (h : p < s.length) (hb : 128 ≤ (s.getD p 0).toNat) : 128 ≤ runeI s p := by
  have hs : p < (⟨⟨s⟩⟩ : ByteArray).size := h
  have e : (⟨⟨s⟩⟩ : ByteArray)[p]'hs = s.getD p 0 := by
    show s[p] = _
    simp [List.getD_eq_getElem?_getD, List.getElem?_eq_getElem h]
  have := (decode_high ⟨⟨s⟩⟩ p hs (by rw [e]; exact hb)).1
  unfold runeI
  omega
theorem rng_f {a lo hi : Int} (h : lo ≤ a ∧ a ≤ hi) : ¬ ((bif (decide (a < lo)) then true else (decide (hi < a))) = true) := by
  have e1 : ¬ a < lo := by omega
  have e2 : ¬ hi < a := by omega
  simp [e1, e2]
theorem rng_t {a lo hi : Int} (h : a < lo ∨ hi < a) : (bif (decide (a < lo)) then true else (decide (hi < a))) = true := by
  rcases h with h | h
  · simp [h]
  · simp [h]
end Go.C
end

section
set_option linter.unusedVariables false
set_option linter.unusedSimpArgs false
namespace Go.C
open Go.V
theorem isL_iff (b : UInt8) : isL b = true ↔ 97 ≤ b.toNat ∧ b.toNat ≤ 122 := by simp [isL]
theorem isL_not (b : UInt8) : isL b = false ↔ b.toNat < 97 ∨ 122 < b.toNat := by
  rw [← Bool.not_eq_true, isL_iff]; omega
theorem lt_of_get {α : Type} {xs : List α} {i : Nat} {x : α} (h : xs[i]? = some x) : i < xs.length := (List.getElem?_eq_some_iff.1 h).1
theorem getD_of {α : Type} {xs : List α} {i : Nat} {x d : α} (h : xs[i]? = some x) : xs.getD i d = x := by rw [List.getD_eq_getElem?_getD, h]; rfl
theorem range_all {α : Type} (q : α → Bool) (d : α) : ∀ xs : List α, ((List.range xs.length).all fun i => q (xs.getD i d)) = xs.all q := by
  intro xs
  rw [Bool.eq_iff_iff, List.all_eq_true, List.all_eq_true]
  constructor
  · intro h x hx
    obtain ⟨i, hi, rfl⟩ := List.getElem_of_mem hx
    have := h i (List.mem_range.2 hi)
    rwa [List.getD_eq_getElem?_getD, List.getElem?_eq_getElem hi] at this
  · intro h i hi
    have hi := List.mem_range.1 hi
    rw [List.getD_eq_getElem?_getD, List.getElem?_eq_getElem hi]
    exact h _ (List.getElem_mem hi)
theorem isWord_eq (s : Str) : isWord s = some (isW s) := by
  unfold isWord isW
  by_cases h1 : 1 ≤ s.length
  · by_cases h2 : s.length ≤ 12
    · have hc : (bif (decide ((s.length : Int) < (1 : Int))) then true else (decide ((12 : Int) < (s.length : Int)))) = false := by
        have e1 : ¬ ((s.length : Int) < 1) := by omega
        have e2 : ¬ ((12 : Int) < (s.length : Int)) := by omega
        simp [e1, e2]
      rw [if_neg (by rw [hc]; simp)]
      have hgo : ∀ (i : Nat) (x : UInt8) (b : Unit), True → s[i]? = some x → isL (s.getD i 0) = true → isWord_b1 s i = some (.inl (i + 1)) := fun i x b _ hx hp => by
        have hlt := lt_of_get hx
        have hp := (isL_iff _).1 hp
        obtain ⟨r1, r2⟩ := rune_low s i hlt (by omega)
        unfold isWord_b1
        rw [if_pos hlt, if_neg (rng_f (by rw [r1]; omega)), r2]
      have hbad : ∀ (i : Nat) (x : UInt8) (b : Unit), True → s[i]? = some x → isL (s.getD i 0) = false → isWord_b1 s i = some (.inr (.inl false)) := fun i x b _ hx hp => by
        have hlt := lt_of_get hx
        have hp := (isL_not _).1 hp
        have hr : runeI s i < 97 ∨ 122 < runeI s i := by
          by_cases hb : (s.getD i 0).toNat < 128
          · obtain ⟨r1, r2⟩ := rune_low s i hlt hb
            rw [r1]; omega
          · have := rune_high s i hlt (by omega)
            omega
        unfold isWord_b1
        rw [if_pos hlt, if_pos (rng_t hr)]
      have hend : ∀ b : Unit, True → isWord_b1 s s.length = some (.inr (.inr ())) := fun b _ => by
        unfold isWord_b1
        rw [if_neg (by omega)]
      have := loop_list (β := Unit) s (isWord_b1 s) (fun i _ => i) (fun _ _ => ()) (fun i => isL (s.getD i 0)) (.inl false) (fun _ => .inr ()) (fun _ _ => True) (fun _ _ _ _ _ => trivial) hgo hbad hend () trivial
      rw [this]
      by_cases hall : ((List.range s.length).all fun i => isL (s.getD i 0)) = true
      · rw [if_pos hall]; simp only [Option.bind_some, isWord_j1, hall, h1, h2]; rfl
      · rw [if_neg hall]; simp only [Option.bind_some, Bool.not_eq_true] at hall ⊢; rw [hall]; simp
    · have hc : (bif (decide ((s.length : Int) < (1 : Int))) then true else (decide ((12 : Int) < (s.length : Int)))) = true := by
        have e2 : ((12 : Int) < (s.length : Int)) := by omega
        simp [e2]
      rw [if_pos hc]; simp [h2]
  · have hc : (bif (decide ((s.length : Int) < (1 : Int))) then true else (decide ((12 : Int) < (s.length : Int)))) = true := by
      have e2 : ((s.length : Int) < 1) := by omega
      simp [e2]
    rw [if_pos hc]; simp [h1]
theorem refWord_eq (s : Str) (hs : s.length ≤ 9223372036854775807) : refWord s = some (isW s) := by
  have hgo : ∀ (i : Nat) (x : UInt8) (b : Unit), True → s[i]? = some x → isL (s.getD i 0) = true → refWord_b1 s (i : Int) = some (.inl ((i + 1 : Nat) : Int)) := fun i x b _ hx hp => by
    have hlt := lt_of_get hx
    have hp := (isL_iff _).1 hp
    unfold refWord_b1
    dsimp only
    rw [Int.toNat_natCast, if_pos (by simp; omega), if_pos (by omega), if_pos (fun _ => by omega), if_neg (rng_f (by omega)), w64 (by omega)]
    rfl
  have hbad : ∀ (i : Nat) (x : UInt8) (b : Unit), True → s[i]? = some x → isL (s.getD i 0) = false → refWord_b1 s (i : Int) = some (.inr (.inl false)) := fun i x b _ hx hp => by
    have hlt := lt_of_get hx
    have hp := (isL_not _).1 hp
    unfold refWord_b1
    dsimp only
    rw [Int.toNat_natCast, if_pos (by simp; omega), if_pos (by omega), if_pos (fun _ => by omega), if_pos (rng_t (by omega))]
  have hend : ∀ b : Unit, True → refWord_b1 s (s.length : Int) = some (.inr (.inr ())) := fun b _ => by
    unfold refWord_b1
    rw [if_neg (by simp)]
  have := loop_list (β := Unit) s (refWord_b1 s) (fun i _ => (i : Int)) (fun _ _ => ()) (fun i => isL (s.getD i 0)) (.inl false) (fun _ => .inr ()) (fun _ _ => True) (fun _ _ _ _ _ => trivial) hgo hbad hend () trivial
  unfold refWord isW
  rw [show ((0 : Int) = ((0 : Nat) : Int)) from rfl, this]
  by_cases hall : ((List.range s.length).all fun i => isL (s.getD i 0)) = true
  · rw [if_pos hall]; simp only [Option.bind_some, refWord_j1, hall]
    have e1 : decide ((1 : Int) ≤ (s.length : Int)) = decide (1 ≤ s.length) := by congr 1; apply propext; omega
    have e2 : decide ((s.length : Int) ≤ (12 : Int)) = decide (s.length ≤ 12) := by congr 1; apply propext; omega
    rw [e1, e2]
    cases decide (1 ≤ s.length) <;> cases decide (s.length ≤ 12) <;> rfl
  · rw [if_neg hall]; simp only [Option.bind_some, Bool.not_eq_true] at hall ⊢; rw [hall]; simp
/-- The word at this place is a word, and behind the one ahead of it. -/
def wp (l : List Str) (i : Nat) : Bool := isW (l.getD i default) && (decide (i = 0) || Op.bytesLess (l.getD (i - 1) default) (l.getD i default))
def wordsOk (l : List Str) : Bool := decide (l.length ≤ 8) && (List.range l.length).all (wp l)
def some1 (l : List Str) : Bool := decide (l ≠ []) && wordsOk l
theorem wp_cond {l : List Str} {i : Nat} : (bif (!isW (l.getD i default)) then true else (bif (decide ((0 : Int) < (i : Int))) then (!Op.bytesLess (l.getD (i - 1) default) (l.getD i default)) else false)) = !wp l i := by
  unfold wp
  by_cases h0 : i = 0
  · subst h0; cases isW (l.getD 0 default) <;> simp
  · have e : ((0 : Int) < (i : Int)) := by omega
    simp only [e, h0, decide_true, decide_false, cond_true, Bool.false_or]
    cases isW (l.getD i default) <;> simp
theorem pre_nat {i : Nat} (h : i ≤ 9223372036854775807) (h0 : 0 < i) : (IntKind.i64.wrap ((i : Int) - (1 : Int))).toNat = i - 1 := by
  rw [w64 (by omega)]; omega
theorem validWords_eq (l : List Str) : validWords l = some (wordsOk l) := by
  unfold validWords wordsOk
  by_cases h8 : l.length ≤ 8
  · rw [if_neg (by simp; omega)]
    have step : ∀ (i : Nat) (x : Str), l[i]? = some x → validWords_b1 l (i : Int) = if (!wp l i) = true then some (.inr (.inl false)) else some (.inl ((i + 1 : Nat) : Int)) := fun i x hx => by
      have hlt := lt_of_get hx
      unfold validWords_b1
      rw [if_pos (by simp; omega), if_pos (by omega), Int.toNat_natCast, hx, Option.bind_some, isWord_eq, Option.bind_some]
      rw [if_pos (fun h => by
        have : (0 : Int) < (i : Int) := by simp at h; omega
        rw [w64 (by omega)]; omega)]
      rw [← wp_cond, getD_of hx, bl_total, w64 (n := (i : Int) + 1) (by omega)]
      by_cases h0 : i = 0
      · subst h0; rfl
      · rw [pre_nat (by omega) (by omega)]; rfl
    have hgo : ∀ (i : Nat) (x : Str) (b : Unit), True → l[i]? = some x → wp l i = true → validWords_b1 l (i : Int) = some (.inl ((i + 1 : Nat) : Int)) := fun i x b _ hx hp => by rw [step i x hx, hp]; rfl
    have hbad : ∀ (i : Nat) (x : Str) (b : Unit), True → l[i]? = some x → wp l i = false → validWords_b1 l (i : Int) = some (.inr (.inl false)) := fun i x b _ hx hp => by rw [step i x hx, hp]; rfl
    have hend : ∀ b : Unit, True → validWords_b1 l (l.length : Int) = some (.inr (.inr ())) := fun b _ => by
      unfold validWords_b1
      rw [if_neg (by simp)]
    have := loop_list (β := Unit) l (validWords_b1 l) (fun i _ => (i : Int)) (fun _ _ => ()) (wp l) (.inl false) (fun _ => .inr ()) (fun _ _ => True) (fun _ _ _ _ _ => trivial) hgo hbad hend () trivial
    rw [show ((0 : Int) = ((0 : Nat) : Int)) from rfl, this]
    simp only [h8, decide_true, Bool.true_and]
    by_cases hall : ((List.range l.length).all (wp l)) = true
    · rw [if_pos hall, hall]; rfl
    · rw [if_neg hall]; simp only [Option.bind_some, Bool.not_eq_true] at hall ⊢; rw [hall]
  · rw [if_pos (by simp; omega)]; simp [h8]
theorem refWords_eq (l : List Str) (hl : l.length ≤ 9223372036854775807) (hs : ∀ x, x ∈ l → x.length ≤ 9223372036854775807) : refWords l = some (wordsOk l) := by
  have step : ∀ (i : Nat) (x : Str), l[i]? = some x → refWords_b1 l (i : Int) = if (!wp l i) = true then some (.inr (.inl false)) else some (.inl ((i + 1 : Nat) : Int)) := fun i x hx => by
    have hlt := lt_of_get hx
    unfold refWords_b1
    rw [if_pos (by simp; omega), if_pos (by omega), Int.toNat_natCast, hx, Option.bind_some, refWord_eq x (hs x (List.mem_of_getElem? hx)), Option.bind_some]
    rw [if_pos (fun h => by
      have : (0 : Int) < (i : Int) := by simp at h; omega
      rw [w64 (by omega)]; omega), if_pos (fun h => by omega)]
    rw [← wp_cond, getD_of hx, w64 (n := (i : Int) + 1) (by omega)]
    by_cases h0 : i = 0
    · subst h0; rfl
    · rw [pre_nat (by omega) (by omega)]; rfl
  have hgo : ∀ (i : Nat) (x : Str) (b : Unit), True → l[i]? = some x → wp l i = true → refWords_b1 l (i : Int) = some (.inl ((i + 1 : Nat) : Int)) := fun i x b _ hx hp => by rw [step i x hx, hp]; rfl
  have hbad : ∀ (i : Nat) (x : Str) (b : Unit), True → l[i]? = some x → wp l i = false → refWords_b1 l (i : Int) = some (.inr (.inl false)) := fun i x b _ hx hp => by rw [step i x hx, hp]; rfl
  have hend : ∀ b : Unit, True → refWords_b1 l (l.length : Int) = some (.inr (.inr ())) := fun b _ => by
    unfold refWords_b1
    rw [if_neg (by simp)]
  have := loop_list (β := Unit) l (refWords_b1 l) (fun i _ => (i : Int)) (fun _ _ => ()) (wp l) (.inl false) (fun _ => .inr ()) (fun _ _ => True) (fun _ _ _ _ _ => trivial) hgo hbad hend () trivial
  unfold refWords wordsOk
  rw [show ((0 : Int) = ((0 : Nat) : Int)) from rfl, this]
  by_cases hall : ((List.range l.length).all (wp l)) = true
  · rw [if_pos hall, hall]; simp only [Option.bind_some, refWords_j1]
    have e1 : decide ((l.length : Int) ≤ (8 : Int)) = decide (l.length ≤ 8) := by congr 1; apply propext; omega
    rw [e1]; simp
  · rw [if_neg hall]; simp only [Option.bind_some, Bool.not_eq_true] at hall ⊢; rw [hall]; simp
end Go.C
end

section
set_option linter.unusedVariables false
set_option linter.unusedSimpArgs false
namespace Go.C
open Go.V
theorem within_eq {x n : Int} (hn : 0 < n) (hn2 : n ≤ 4611686018427387904) : within x n = some (x % n) := by
  unfold within
  rw [if_pos (by omega), if_pos (by omega)]
  congr 1
  have h1 : -n < x.tmod n ∧ x.tmod n < n := ⟨by have := Int.lt_tmod_of_pos x hn; omega, Int.tmod_lt_of_pos x hn⟩
  rw [IntWalk.i64_in _ (by omega), Int.tmod_eq_emod_of_nonneg (by omega), Int.add_emod_right]
  rw [Int.tmod_eq_emod]
  split
  · simp
  · have : ((n.natAbs : Nat) : Int) = n := by omega
    rw [this, Int.sub_emod_right]
    exact Int.emod_emod_of_dvd x (Int.dvd_refl n)
/-- A source in order. -/
def SOk (s : CustomsmadeSource) : Prop := 0 ≤ s.I ∧ s.I ≤ s.L.length ∧ s.L.length ≤ 1000
theorem next_ok {s : CustomsmadeSource} {n : Int} (hs : SOk s) (hn : 0 < n) (hn2 : n ≤ 4611686018427387904) : ∃ r s', srcNext s n = some (r, s') ∧ 0 ≤ r ∧ r < n ∧ SOk s' := by
  obtain ⟨h0, h1, h2⟩ := hs
  unfold srcNext
  split
  · exact ⟨0, s, rfl, by omega, by omega, h0, h1, h2⟩
  · rename_i c
    simp at c
    have e : IntKind.i64.wrap (IntKind.i64.wrap (s.I + 1) - 1) = s.I := by
      rw [IntWalk.i64_in (s.I + 1) (by omega), IntWalk.i64_in _ (by omega)]; omega
    rw [e, if_pos h0]
    have hlt : s.I.toNat < s.L.length := by omega
    rw [List.getElem?_eq_getElem hlt]
    simp only [Option.bind_some, within_eq hn hn2]
    refine ⟨_, _, rfl, Int.emod_nonneg _ (by omega), Int.emod_lt_of_pos _ hn, ?_⟩
    refine ⟨?_, ?_, h2⟩ <;> simp only <;> rw [IntWalk.i64_in (s.I + 1) (by omega)] <;> omega
theorem cut_ok (l : List Int) (n : Nat) (hn : n ≤ 1000) : ∃ v, madeCut l (n : Int) = some v ∧ v.length ≤ n := by
  unfold madeCut
  split
  · rename_i c
    simp only [decide_eq_true_eq] at c
    rw [if_pos (by omega)]
    exact ⟨_, rfl, by simp; omega⟩
  · rename_i c
    simp only [decide_eq_true_eq] at c
    exact ⟨_, rfl, by omega⟩
/-- A loop whose end is known to come. -/
theorem loop_inv {σ τ : Type} {f : σ → Option (σ ⊕ τ)} (I : Nat → σ → Prop) (R : τ → Prop)
    (hstep : ∀ n s, I n s → (∃ s' m, m < n ∧ f s = some (.inl s') ∧ I m s') ∨ (∃ r, f s = some (.inr r) ∧ R r)) : ∀ n s, I n s → ∃ r, loopO f s = some r ∧ R r := by
  intro n
  induction n using Nat.strongRecOn with
  | ind n ih =>
    intro s h
    rcases hstep n s h with ⟨s', m, hm, h1, h2⟩ | ⟨r, h1, h2⟩
    · obtain ⟨r, h3, h4⟩ := ih m hm s' h2
      exact ⟨r, by rw [loop_step h1]; exact h3, h4⟩
    · exact ⟨r, loop_stop h1, h2⟩
def vocab : List Str := [([99, 104, 97, 105, 114] : Str), ([100, 101, 115, 107] : Str), ([103, 108, 97, 115, 115] : Str), ([108, 97, 109, 112] : Str), ([111, 102, 102, 105, 99, 101] : Str), ([112, 97, 114, 116, 115] : Str), ([115, 101, 97, 116] : Str), ([115, 116, 101, 101, 108] : Str), ([119, 111, 111, 100] : Str)]
/-- Words in ascending order. -/
def Asc (l : List Str) : Prop := l.Pairwise (fun a b => Op.bytesLess a b = true) ∧ ∀ x, x ∈ l → isW x = true
theorem asc_vocab : Asc vocab := ⟨by decide, by decide⟩
theorem Asc.sub {l m : List Str} (h : Asc m) (hs : l.Sublist m) : Asc l := ⟨h.1.sublist hs, fun x hx => h.2 x (hs.mem hx)⟩
theorem Asc.wp {l : List Str} (h : Asc l) : (List.range l.length).all (wp l) = true := by
  rw [List.all_eq_true]
  intro i hi
  have hi := List.mem_range.1 hi
  have e : l.getD i default = l[i] := by rw [List.getD_eq_getElem?_getD, List.getElem?_eq_getElem hi]; rfl
  unfold C.wp
  rw [e, h.2 _ (List.getElem_mem hi), Bool.true_and]
  by_cases h0 : i = 0
  · simp [h0]
  · have e2 : l.getD (i - 1) default = l[i - 1] := by rw [List.getD_eq_getElem?_getD, List.getElem?_eq_getElem (by omega)]; rfl
    rw [e2, List.pairwise_iff_getElem.1 h.1 (i - 1) i (by omega) hi (by omega)]
    simp
theorem Asc.some1 {l : List Str} (h : Asc l) (hn : l ≠ []) (h8 : l.length ≤ 8) : some1 l = true := by
  unfold C.some1 wordsOk
  simp [hn, h8, h.wp]
theorem sub_snoc {α : Type} {l m : List α} (k : Nat) (h : l.Sublist (m.take k)) (hk : k < m.length) : (l ++ [m[k]]).Sublist (m.take (k + 1)) ∧ l.Sublist (m.take (k + 1)) := by
  rw [List.take_add_one, List.getElem?_eq_getElem hk]
  exact ⟨h.append (List.Sublist.refl _), h.trans (List.sublist_append_left _ _)⟩
theorem words_ok {s : CustomsmadeSource} (hs : SOk s) (most : Nat) (h1 : 1 ≤ most) (h2 : most ≤ 8) : ∃ l s', srcWords s (most : Int) = some (l, s') ∧ Asc l ∧ l ≠ [] ∧ l.length ≤ most ∧ SOk s' := by
  unfold srcWords
  have hv : vocabulary = some vocab := rfl
  rw [hv, Option.bind_some]
  obtain ⟨r1, s1, e1, b1, b2, k1⟩ := next_ok (n := 512) hs (by omega) (by omega)
  rw [e1, Option.bind_some]
  have hlen : vocab.length = 9 := rfl
  obtain ⟨out, eo, ho1, ho2⟩ := loop_inv (f := srcWords_b1 (most : Int) vocab (r1, s1)) (fun n x => ∃ k : Nat, n = 9 - k ∧ k ≤ 9 ∧ x.1 = (k : Int) ∧ x.2.Sublist (vocab.take k) ∧ x.2.length ≤ most) (fun r => r.Sublist vocab ∧ r.length ≤ most) (by
    rintro n ⟨i, out⟩ ⟨k, rfl, hk, hi, hsub, hl⟩
    simp only at hi hsub hl
    subst hi
    unfold srcWords_b1
    dsimp only
    by_cases hc : k < 9 ∧ out.length < most
    · refine .inl ?_
      have hkl : k < vocab.length := by omega
      rw [if_pos (by
        have e1 : ((k : Int) < (vocab.length : Int)) := by omega
        have e2 : ((out.length : Int) < (most : Int)) := by omega
        simp only [e1, e2, decide_true, cond_true]), if_pos (by omega)]
      obtain ⟨q1, q2⟩ := sub_snoc k hsub hkl
      split
      · rw [if_pos (by omega), Int.toNat_natCast, List.getElem?_eq_getElem hkl, Option.bind_some, if_pos (by simp; omega)]
        unfold srcWords_j3
        rw [w64 (n := (k : Int) + 1) (by omega)]
        exact ⟨_, 9 - (k + 1), by omega, rfl, k + 1, rfl, by omega, rfl, q1, by simp; omega⟩
      · unfold srcWords_j3
        rw [w64 (n := (k : Int) + 1) (by omega)]
        exact ⟨_, 9 - (k + 1), by omega, rfl, k + 1, rfl, by omega, rfl, q2, hl⟩
    · refine .inr ?_
      rw [if_neg (by
        by_cases e1 : ((k : Int) < (vocab.length : Int))
        · have e2 : ¬ ((out.length : Int) < (most : Int)) := by omega
          simp [e2]
        · simp [e1])]
      exact ⟨_, rfl, hsub.trans (List.take_sublist _ _), hl⟩) 9 ((0 : Int), []) ⟨0, rfl, by omega, rfl, by simp, by simp⟩
  rw [eo, Option.bind_some]
  unfold srcWords_j1 srcWords_j2
  dsimp only
  by_cases hn : out = []
  · subst hn
    have ht : (r1.tmod (vocab.length : Int)) = r1 % 9 := by rw [Int.tmod_eq_emod_of_nonneg b1]; rfl
    rw [if_pos (by rfl), if_pos (by decide), ht, if_pos (by omega)]
    have hlt : (r1 % 9).toNat < vocab.length := by omega
    rw [List.getElem?_eq_getElem hlt, Option.bind_some]
    exact ⟨_, _, rfl, asc_vocab.sub (List.singleton_sublist.2 (List.getElem_mem hlt)), by simp, by simp; omega, k1⟩
  · have : (((out.length : Int)) == 0) = false := by
      have : out.length ≠ 0 := fun h => hn (List.eq_nil_of_length_eq_zero h)
      simp only [beq_eq_false_iff_ne, ne_eq]; omega
    rw [if_neg (by rw [this]; simp)]
    exact ⟨_, _, rfl, asc_vocab.sub ho1, hn, ho2, k1⟩
/-- Shares that add up. -/
structure ShOk (l : List Int) : Prop where
  rng : ∀ x, x ∈ l → 1 ≤ x ∧ x ≤ 1000000
  sum : l.sum = 1000000
theorem shares_ok {s : CustomsmadeSource} (hs : SOk s) (n : Nat) (h1 : 1 ≤ n) (h2 : n ≤ 8) : ∃ l s', srcShares s (n : Int) = some (l, s') ∧ l.length = n ∧ ShOk l ∧ SOk s' := by
  unfold srcShares
  obtain ⟨⟨left, out, cL, cI⟩, eo, ho1, ho2, ho3, ho4, ho5⟩ := loop_inv (f := srcShares_b1 (n : Int)) (fun m x => ∃ k : Nat, m = n - k ∧ 1 ≤ k ∧ k ≤ n ∧ x.1 = (k : Int) ∧ x.2.2.1.length = k - 1 ∧ (∀ y, y ∈ x.2.2.1 → 1 ≤ y ∧ y ≤ 1000000) ∧ x.2.2.1.sum + x.2.1 = 1000000 ∧ ((n : Int) - k + 1 ≤ x.2.1 ∧ x.2.1 ≤ 1000000) ∧ SOk ⟨x.2.2.2.1, x.2.2.2.2⟩)
    (fun r => r.2.1.length = n - 1 ∧ (∀ y, y ∈ r.2.1 → 1 ≤ y ∧ y ≤ 1000000) ∧ r.2.1.sum + r.1 = 1000000 ∧ (1 ≤ r.1 ∧ r.1 ≤ 1000000) ∧ SOk ⟨r.2.2.1, r.2.2.2⟩) (by
    rintro m ⟨i, left, out, cL, cI⟩ ⟨k, rfl, hk1, hk2, hi, hl, hr, hsum, hle, hso⟩
    simp only at hi hl hr hsum hle hso
    subst hi
    unfold srcShares_b1
    dsimp only
    by_cases hc : k < n
    · refine .inl ?_
      rw [if_pos (by simp only [decide_eq_true_eq]; omega)]
      obtain ⟨r1, s1, e1, b1, b2, k1⟩ := next_ok (n := 4) hso (by omega) (by omega)
      rw [e1, Option.bind_some]
      obtain ⟨r2, s2, e2, b3, b4, k2⟩ := next_ok (n := 2) k1 (by omega) (by omega)
      dsimp only
      rw [e2, Option.bind_some]
      dsimp only
      have fin : ∀ (x : Int) (L : List Int) (I : Int), 1 ≤ x → x ≤ 1000000 → SOk ⟨L, I⟩ → ∃ s' m, m < n - k ∧ srcShares_j2 (n : Int) (k : Int) left x out L I = some (.inl s') ∧ (∃ k' : Nat, m = n - k' ∧ 1 ≤ k' ∧ k' ≤ n ∧ s'.1 = (k' : Int) ∧ s'.2.2.1.length = k' - 1 ∧ (∀ y, y ∈ s'.2.2.1 → 1 ≤ y ∧ y ≤ 1000000) ∧ s'.2.2.1.sum + s'.2.1 = 1000000 ∧ ((n : Int) - k' + 1 ≤ s'.2.1 ∧ s'.2.1 ≤ 1000000) ∧ SOk ⟨s'.2.2.2.1, s'.2.2.2.2⟩) := by
        intro x L I hx1 hx2 hLI
        unfold srcShares_j2
        rw [w64 (n := (n : Int) - (k : Int)) (by omega), w64 (n := left - ((n : Int) - (k : Int))) (by omega)]
        have hz : ∃ z : Int, (if left - ((n : Int) - (k : Int)) < x then left - ((n : Int) - (k : Int)) else x) = z ∧ 1 ≤ z ∧ z ≤ 1000000 ∧ z ≤ left - ((n : Int) - (k : Int)) := by
          split
          · exact ⟨_, rfl, by omega, by omega, by omega⟩
          · exact ⟨_, rfl, by omega, by omega, by omega⟩
        obtain ⟨z, hz0, hz1, hz2, hz3⟩ := hz
        rw [hz0, if_pos (by simp; omega), w64 (n := left - z) (by omega), w64 (n := (k : Int) + 1) (by omega)]
        refine ⟨_, n - (k + 1), by omega, rfl, k + 1, rfl, by omega, by omega, rfl, by simp; omega, fun y hy => ?_, by simp; omega, by simp only; omega, hLI⟩
        rcases List.mem_append.1 hy with h | h
        · exact hr y h
        · simp at h; subst h; exact ⟨hz1, hz2⟩
      split
      · rw [if_pos (by omega)]
        have hdiv : (1000000 : Int).tdiv (n : Int) = 1000000 / (n : Int) := Int.tdiv_eq_ediv_of_nonneg (by omega)
        have hd1 : 1 ≤ (1000000 : Int) / (n : Int) := (Int.le_ediv_iff_mul_le (by omega)).2 (by omega)
        have hd2 : (1000000 : Int) / (n : Int) ≤ 1000000 := Int.ediv_le_self _ (by omega)
        rw [hdiv, w64 (n := 1000000 / (n : Int)) (by omega)]
        obtain ⟨r3, s3, e3, b5, b6, k3⟩ := next_ok (n := 1000000 / (n : Int)) k2 (by omega) (by omega)
        rw [e3, Option.bind_some]
        dsimp only
        rw [w64 (n := 1 + r3) (by omega)]
        exact fin _ _ _ (by omega) (by omega) k3
      · rw [w64 (n := r1 * 100000) (by omega), w64 (n := 1 + r1 * 100000) (by omega)]
        exact fin _ _ _ (by omega) (by omega) k2
    · refine .inr ?_
      have : k = n := by omega
      subst this
      rw [if_neg (by simp)]
      exact ⟨_, rfl, hl, hr, hsum, by simp only; omega, hso⟩) (n - 1) ((1 : Int), (1000000 : Int), [], s.L, s.I) ⟨1, rfl, by omega, by omega, rfl, rfl, fun y hy => by simp at hy, by simp, by simp only; omega, hs⟩
  rw [eo, Option.bind_some]
  simp only at ho1 ho2 ho3 ho4 ho5
  unfold srcShares_j1
  dsimp only
  rw [if_pos (by simp; omega)]
  refine ⟨_, _, rfl, by simp; omega, ⟨fun y hy => ?_, by simp; omega⟩, ho5⟩
  rcases List.mem_append.1 hy with h | h
  · exact ho2 y h
  · simp at h; subst h; exact ho4
end Go.C
end

section
set_option linter.unusedVariables false
set_option linter.unusedSimpArgs false
namespace Go.C
open Go.V
open Go.Lib (decDigits)
/-- Digits alone. -/
def IsDig (l : Str) : Prop := ∀ c, c ∈ l → 48 ≤ c.toNat ∧ c.toNat ≤ 57
theorem IsDig.append {l r : Str} (h : IsDig l) (k : IsDig r) : IsDig (l ++ r) := fun c hc => by
  rcases List.mem_append.1 hc with hc | hc
  · exact h c hc
  · exact k c hc
/-- A loop whose states are known one by one. -/
theorem loop_seq {σ τ : Type} {f : σ → Option (σ ⊕ τ)} (n : Nat) (s : Nat → σ) (r : τ) (hgo : ∀ i, i < n → f (s i) = some (.inl (s (i + 1)))) (hend : f (s n) = some (.inr r)) : loopO f (s 0) = some r := by
  have key : ∀ m k, k + m = n → loopO f (s k) = some r := by
    intro m
    induction m with
    | zero => intro k hk; have : k = n := by omega
              subst this; exact loop_stop hend
    | succ m ih => intro k hk; rw [loop_step (hgo k (by omega))]; exact ih (k + 1) (by omega)
  exact key n 0 (by omega)
/-- A list gone through from the left, which may be left early. -/
def foldE {α β τ : Type} (g : Nat → α → β → Option (β ⊕ τ)) (fin : β → τ) : Nat → List α → β → Option τ
  | _, [], b => some (fin b)
  | i, x :: xs, b => match g i x b with
    | some (.inl b') => foldE g fin (i + 1) xs b'
    | some (.inr r) => some r
    | none => none
def mapL {β σ τ : Type} (m : β → σ) : Option (β ⊕ τ) → Option (σ ⊕ τ)
  | some (.inl b) => some (.inl (m b))
  | some (.inr r) => some (.inr r)
  | none => none
theorem loop_none {σ τ : Type} {f : σ → Option (σ ⊕ τ)} {s : σ} (h : f s = none) : loopO f s = none := by rw [loopO_eq, h]
theorem loop_foldE {α β σ τ : Type} (xs : List α) (f : σ → Option (σ ⊕ τ)) (mk : Nat → β → σ) (g : Nat → α → β → Option (β ⊕ τ)) (fin : β → τ)
    (hgo : ∀ i x b, xs[i]? = some x → f (mk i b) = mapL (mk (i + 1)) (g i x b)) (hend : ∀ b, f (mk xs.length b) = some (.inr (fin b))) (b0 : β) : loopO f (mk 0 b0) = foldE g fin 0 xs b0 := by
  have key : ∀ (m k : Nat) (b : β), k + m = xs.length → loopO f (mk k b) = foldE g fin k (xs.drop k) b := by
    intro m
    induction m with
    | zero =>
      intro k b hk
      have : k = xs.length := by omega
      subst this
      rw [loop_stop (hend b)]; simp [foldE]
    | succ m ih =>
      intro k b hk
      have hlt : k < xs.length := by omega
      have h1 := hgo k xs[k] b (List.getElem?_eq_getElem hlt)
      rw [List.drop_eq_getElem_cons hlt, foldE]
      cases hg : g k xs[k] b with
      | none => rw [hg] at h1; rw [loop_none h1]
      | some x =>
        rw [hg] at h1
        cases x with
        | inl b' => rw [loop_step h1]; exact ih (k + 1) b' (by omega)
        | inr r => rw [loop_stop h1]
  have := key xs.length 0 b0 (by omega)
  rwa [List.drop_zero] at this
/-- A loop over a list, with what holds on the way and at its end. -/
theorem loop_all {α β σ τ : Type} (xs : List α) (f : σ → Option (σ ⊕ τ)) (mk : Nat → β → σ) (I : Nat → β → Prop) (R : τ → Prop)
    (hgo : ∀ i x b, xs[i]? = some x → I i b → (∃ b', f (mk i b) = some (.inl (mk (i + 1) b')) ∧ I (i + 1) b') ∨ (∃ r, f (mk i b) = some (.inr r) ∧ R r))
    (hend : ∀ b, I xs.length b → ∃ r, f (mk xs.length b) = some (.inr r) ∧ R r) (b0 : β) (h0 : I 0 b0) : ∃ r, loopO f (mk 0 b0) = some r ∧ R r := by
  have key : ∀ (m k : Nat) (b : β), k + m = xs.length → I k b → ∃ r, loopO f (mk k b) = some r ∧ R r := by
    intro m
    induction m with
    | zero =>
      intro k b hk hb
      have : k = xs.length := by omega
      subst this
      obtain ⟨r, h1, h2⟩ := hend b hb
      exact ⟨r, loop_stop h1, h2⟩
    | succ m ih =>
      intro k b hk hb
      have hlt : k < xs.length := by omega
      rcases hgo k xs[k] b (List.getElem?_eq_getElem hlt) hb with ⟨b', h1, h2⟩ | ⟨r, h1, h2⟩
      · obtain ⟨r, h3, h4⟩ := ih (k + 1) b' (by omega) h2
        exact ⟨r, by rw [loop_step h1]; exact h3, h4⟩
      · exact ⟨r, loop_stop h1, h2⟩
  exact key xs.length 0 b0 (by omega) h0
end Go.C
end

section
set_option linter.unusedVariables false
set_option linter.unusedSimpArgs false
namespace Go.C
open Go.V
theorem described_eq (l : List Str) : described l = some (decide (l ≠ []) && wordsOk l) := by
  unfold described
  cases l with
  | nil => rfl
  | cons x l =>
    have e : (0 : Int) < ((x :: l).length : Int) := by simp only [List.length_cons]; omega
    simp only [e, decide_true, if_true, validWords_eq, Option.bind_some, cond_true]
    simp
def sumW (l : List Int) : Int := l.foldl (fun s x => IntKind.i64.wrap (s + x)) 0
def out1 (x : Int) : Bool := bif (decide (x < (1 : Int))) then true else (decide ((1000000 : Int) < x))
def far (l : List Int) : Bool := l.any out1
def full (l : List Int) : Bool := decide (l = []) || (sumW l == 1000000)
def gvTail (ms ps : List Int) : Int := if (far ms || far ps) = true then 2 else if (full ms && full ps) = true then 0 else 1
def gv (g : ApiGood) : Int :=
  if some1 g.Words = false then 1
  else if 8 < g.Materials.length ∨ 6 < g.Parts.length then 8
  else if (List.range g.Materials.length).all (wp (g.Materials.map (·.Name))) = false then 1
  else if (g.Parts.all fun p => some1 p.Words) = false then 1
  else gvTail (g.Materials.map (·.Share)) (g.Parts.map (·.Share))
theorem all_out (l : List Int) : (l.all fun x => !out1 x) = !far l := by
  unfold far
  induction l with
  | nil => rfl
  | cons x l ih => simp only [List.all_cons, List.any_cons, ih]; cases out1 x <;> cases l.any out1 <;> rfl
theorem complete_eq (l : List Int) (hl : l.length ≤ 1000) : complete l = some (full l) := by
  have := loop_fold (β := Int) l (complete_b1 l) (fun i b => ((i : Int), b)) (fun b x => IntKind.i64.wrap (b + x)) (fun b => b) (fun _ _ => True) (fun _ _ _ _ _ => trivial) (fun i x b _ hx => by
    have hlt := lt_of_get hx
    unfold complete_b1
    dsimp only
    rw [if_pos (by simp; omega), if_pos (by omega), Int.toNat_natCast, hx, Option.bind_some, w64 (n := (i : Int) + 1) (by omega)]
    rfl) (fun b _ => by unfold complete_b1; dsimp only; rw [if_neg (by simp)]) 0 trivial
  unfold complete
  rw [show ((0 : Int), (0 : Int)) = (((0 : Nat) : Int), (0 : Int)) from rfl, this, Option.bind_some]
  unfold complete_j1 full sumW
  cases l with
  | nil => rfl
  | cons x l =>
    have e : (((x :: l).length : Int) == 0) = false := by simp only [List.length_cons, beq_eq_false_iff_ne, ne_eq]; omega
    rw [e]; simp
theorem concatInt_eq (a b : List Int) (ha : a.length ≤ 1000) (hb : b.length ≤ 1000) : concatInt [a, b] = some (a ++ b) := by
  have e1 : loopO (concatInt_b2 [a, b]) ((0 : Int), (0 : Int)) = some ((a.length : Int) + (b.length : Int)) := by
    rw [loop_step (x := ((1 : Int), (a.length : Int)))]
    · rw [loop_step (x := ((2 : Int), (a.length : Int) + (b.length : Int)))]
      · rw [loop_stop]
        unfold concatInt_b2; rfl
      · unfold concatInt_b2
        dsimp only
        rw [if_pos (by rfl), if_pos (by decide)]
        show Option.bind (some b) _ = _
        rw [Option.bind_some, w64 (n := (a.length : Int) + (b.length : Int)) (by omega), if_neg (by simp; omega)]; rfl
    · unfold concatInt_b2
      dsimp only
      rw [if_pos (by rfl), if_pos (by decide)]
      show Option.bind (some a) _ = _
      rw [Option.bind_some, w64 (n := (0 : Int) + (a.length : Int)) (by omega), if_neg (by simp), Int.zero_add (a.length : Int)]; rfl
  have e2 : growInt ((a.length : Int) + (b.length : Int)) = some [] := by
    unfold growInt growInt_j1
    rw [if_neg (by simp; omega)]
    have : (IntKind.i64.wrap (((a.length : Int) + (b.length : Int)) - (IntKind.i64.wrap ((0 : Int) - (0 : Int))))) = (a.length : Int) + (b.length : Int) := by rw [w64 (n := (0 : Int) - 0) (by omega), w64 (by omega)]; omega
    rw [this]
    split
    · rename_i h; rw [if_pos (by simp at h; omega)]
    · rfl
  have e3 : loopO (concatInt_b1 [a, b]) ((0 : Int), []) = some (a ++ b) := by
    rw [loop_step (x := ((1 : Int), a))]
    · rw [loop_step (x := ((2 : Int), a ++ b))]
      · rw [loop_stop]
        unfold concatInt_b1; rfl
      · unfold concatInt_b1
        dsimp only
        rw [if_pos (by rfl), if_pos (by decide)]
        show Option.bind (some b) _ = _
        rw [Option.bind_some, if_pos (by omega)]; rfl
    · unfold concatInt_b1
      dsimp only
      rw [if_pos (by rfl), if_pos (by decide)]
      show Option.bind (some a) _ = _
      rw [Option.bind_some, if_pos (by simp; omega)]; rfl
  unfold concatInt
  rw [e1, Option.bind_some]
  unfold concatInt_j1
  dsimp only
  rw [e2, Option.bind_some, e3, Option.bind_some]
  rfl
theorem foldl2 {α β γ : Type} (f : α → β) (g : α → γ) : ∀ (xs : List α) (a : List β) (b : List γ), xs.foldl (fun (s : List β × List γ) x => (s.1 ++ [f x], s.2 ++ [g x])) (a, b) = (a ++ xs.map f, b ++ xs.map g)
  | [], a, b => by simp
  | x :: xs, a, b => by rw [List.foldl_cons, foldl2 f g xs]; simp
theorem foldl1 {α β γ : Type} (f : α → β) : ∀ (xs : List α) (a : List β) (b : γ), xs.foldl (fun (s : List β × γ) x => (s.1 ++ [f x], s.2)) (a, b) = (a ++ xs.map f, b)
  | [], a, b => by simp
  | x :: xs, a, b => by rw [List.foldl_cons, foldl1 f xs]; simp
theorem validate_tail (ms ps : List Int) (h1 : ms.length ≤ 8) (h2 : ps.length ≤ 6) : goodsValidate_j2 ps ms = some (gvTail ms ps) := by
  unfold goodsValidate_j2
  rw [concatInt_eq ms ps (by omega) (by omega), Option.bind_some]
  have := loop_list (β := Unit) (ms ++ ps) (goodsValidate_b1 ps ms (ms ++ ps)) (fun i _ => ((i : Int), ms ++ ps)) (fun _ _ => ()) (fun i => !out1 ((ms ++ ps).getD i default)) (.inl (2 : Int)) (fun _ => .inr ()) (fun _ _ => True) (fun _ _ _ _ _ => trivial)
    (fun i x b _ hx hp => by
      have hlt := lt_of_get hx
      have hl2 : (ms ++ ps).length ≤ 14 := by simp; omega
      unfold goodsValidate_b1
      dsimp only
      rw [if_pos (by simp only [decide_eq_true_eq]; omega), if_pos (by omega), Int.toNat_natCast]
      simp only [out1, Bool.not_eq_true'] at hp
      rw [hp, w64 (n := (i : Int) + 1) (by omega)]; rfl)
    (fun i x b _ hx hp => by
      have hlt := lt_of_get hx
      unfold goodsValidate_b1
      dsimp only
      rw [if_pos (by simp only [decide_eq_true_eq]; omega), if_pos (by omega), Int.toNat_natCast]
      simp only [out1, Bool.not_eq_false'] at hp
      rw [hp]; rfl)
    (fun b _ => by unfold goodsValidate_b1; dsimp only; rw [if_neg (by simp)]) () trivial
  rw [show ((0 : Int), ms ++ ps) = (((0 : Nat) : Int), ms ++ ps) from rfl, this, range_all (fun x => !out1 x), all_out]
  have hf : far (ms ++ ps) = (far ms || far ps) := by simp [far]
  rw [hf]
  unfold gvTail
  cases hfar : (far ms || far ps) with
  | true => rfl
  | false =>
    simp only [Bool.not_false, if_true, Option.bind_some, Bool.false_eq_true, if_false]
    unfold goodsValidate_j3
    rw [complete_eq ms (by omega), complete_eq ps (by omega), Option.bind_some]
    cases full ms <;> cases full ps <;> rfl
theorem goodsValidate_eq (g : ApiGood) : goodsValidate g = some (gv g) := by
  unfold goodsValidate gv
  rw [described_eq, Option.bind_some]
  show (if (!some1 g.Words) = true then _ else _) = _
  cases hw : some1 g.Words with
  | false => rfl
  | true =>
    simp only [Bool.not_true, Bool.false_eq_true, if_false, Bool.true_eq_false]
    by_cases hlim : 8 < g.Materials.length ∨ 6 < g.Parts.length
    · rw [if_pos hlim, if_pos]
      rcases hlim with h | h
      · have e : ((8 : Int) < (g.Materials.length : Int)) := by omega
        simp [e]
      · have e : ((6 : Int) < (g.Parts.length : Int)) := by omega
        simp [e]
    · rw [if_neg hlim, if_neg (by
        have e1 : ¬ ((8 : Int) < (g.Materials.length : Int)) := by omega
        have e2 : ¬ ((6 : Int) < (g.Parts.length : Int)) := by omega
        simp [e1, e2])]
      have l1 := loop_fold (β := List Int × List Str) g.Materials (goodsValidate_b3 g) (fun i b => ((i : Int), b.1, b.2)) (fun b x => (b.1 ++ [x.Share], b.2 ++ [x.Name])) (fun b => (b.1, b.2)) (fun i b => b.1.length = i ∧ b.2.length = i)
        (fun i x b hI hx => by simp [hI.1, hI.2])
        (fun i x b hI hx => by
          have hlt := lt_of_get hx
          unfold goodsValidate_b3
          dsimp only
          rw [if_pos (by simp only [decide_eq_true_eq]; omega), if_pos (by omega), Int.toNat_natCast, hx, Option.bind_some, if_pos (by rw [hI.2]; simp; omega), if_pos (by rw [hI.1]; simp; omega), w64 (n := (i : Int) + 1) (by omega)]
          rfl)
        (fun b hI => by unfold goodsValidate_b3; dsimp only; rw [if_neg (by simp)]) ([], []) ⟨rfl, rfl⟩
      rw [show ((0 : Int), ([] : List Int), ([] : List Str)) = (((0 : Nat) : Int), ([] : List Int), ([] : List Str)) from rfl]
      rw [l1, foldl2 (fun x : ApiMaterial => x.Share) (fun x : ApiMaterial => x.Name), Option.bind_some]
      simp only [List.nil_append]
      unfold goodsValidate_j1
      rw [validWords_eq, Option.bind_some]
      have hwk : wordsOk (g.Materials.map (·.Name)) = (List.range g.Materials.length).all (wp (g.Materials.map (·.Name))) := by
        unfold wordsOk
        rw [List.length_map]
        have : g.Materials.length ≤ 8 := by omega
        simp [this]
      rw [hwk]
      cases hm : (List.range g.Materials.length).all (wp (g.Materials.map (·.Name))) with
      | false => rfl
      | true =>
        simp only [Bool.not_true, Bool.false_eq_true, if_false, Bool.true_eq_false]
        have l2 := loop_list (β := List Int × List Int) g.Parts (goodsValidate_b2 g) (fun i b => ((i : Int), b.1, b.2)) (fun b x => (b.1 ++ [x.Share], b.2)) (fun i => some1 (g.Parts.getD i default).Words) (.inl (1 : Int)) (fun b => .inr (b.1, b.2)) (fun i b => b.1.length = i)
          (fun i x b hI hx => by simp [hI])
          (fun i x b hI hx hp => by
            have hlt := lt_of_get hx
            rw [getD_of hx] at hp
            unfold goodsValidate_b2
            dsimp only
            rw [if_pos (by simp only [decide_eq_true_eq]; omega), if_pos (by omega), Int.toNat_natCast, hx, Option.bind_some, described_eq, Option.bind_some]
            show (if (!some1 x.Words) = true then _ else _) = _
            rw [hp, if_neg (by simp), if_pos (by rw [hI]; simp; omega), w64 (n := (i : Int) + 1) (by omega)]
            rfl)
          (fun i x b hI hx hp => by
            have hlt := lt_of_get hx
            rw [getD_of hx] at hp
            unfold goodsValidate_b2
            dsimp only
            rw [if_pos (by simp only [decide_eq_true_eq]; omega), if_pos (by omega), Int.toNat_natCast, hx, Option.bind_some, described_eq, Option.bind_some]
            show (if (!some1 x.Words) = true then _ else _) = _
            rw [hp]; rfl)
          (fun b hI => by unfold goodsValidate_b2; dsimp only; rw [if_neg (by simp)]) ([], g.Materials.map (·.Share)) rfl
        rw [show ((0 : Int), ([] : List Int), g.Materials.map (·.Share)) = (((0 : Nat) : Int), ([] : List Int), g.Materials.map (·.Share)) from rfl]
        rw [l2, range_all (fun p : ApiComponent => some1 p.Words), foldl1 (fun x : ApiComponent => x.Share)]
        cases hp : (g.Parts.all fun p => some1 p.Words) with
        | false => rfl
        | true =>
          simp only [if_true, Option.bind_some, Bool.true_eq_false, if_false, List.nil_append]
          exact validate_tail _ _ (by simp; omega) (by simp; omega)
end Go.C
end

section
set_option linter.unusedVariables false
set_option linter.unusedSimpArgs false
namespace Go.C
open Go.V
def Shs (l : List Int) : Prop := l = [] ∨ ShOk l
/-- A description that was made. -/
structure MOk (g : ApiGood) : Prop where
  words : Asc g.Words ∧ g.Words ≠ [] ∧ g.Words.length ≤ 4
  mats : Asc (g.Materials.map (·.Name)) ∧ g.Materials.length ≤ 4 ∧ Shs (g.Materials.map (·.Share))
  parts : (∀ p, p ∈ g.Parts → Asc p.Words ∧ p.Words ≠ [] ∧ p.Words.length ≤ 3) ∧ g.Parts.length ≤ 3 ∧ Shs (g.Parts.map (·.Share))
def names4 : List Str := [([103, 108, 97, 115, 115] : Str), ([108, 97, 109, 112] : Str), ([115, 116, 101, 101, 108] : Str), ([119, 111, 111, 100] : Str)]
theorem asc_names : Asc names4 := ⟨by decide, by decide⟩
theorem parts_ok (v2 : List Str × CustomsmadeSource) (v3 : Int × CustomsmadeSource) (hv2 : Asc v2.1 ∧ v2.1 ≠ [] ∧ v2.1.length ≤ 4) (ms : List ApiMaterial) (hms : Asc (ms.map (·.Name)) ∧ ms.length ≤ 4 ∧ Shs (ms.map (·.Share))) (L : List Int) (I : Int) (hs : SOk ⟨L, I⟩) :
    ∃ g, madeGood_j1 v2 v3 ms L I = some g ∧ MOk g := by
  unfold madeGood_j1
  obtain ⟨r1, s1, e1, b1, b2, k1⟩ := next_ok (n := 3) hs (by omega) (by omega)
  rw [e1, Option.bind_some]
  dsimp only
  split
  · obtain ⟨r2, s2, e2, b3, b4, k2⟩ := next_ok (n := 3) k1 (by omega) (by omega)
    rw [e2, Option.bind_some]
    dsimp only
    obtain ⟨n, rfl⟩ : ∃ n : Nat, r2 = (n : Int) := ⟨r2.toNat, by omega⟩
    rw [w64 (n := 1 + (n : Int)) (by omega), show (1 : Int) + (n : Int) = ((1 + n : Nat) : Int) by omega]
    obtain ⟨sh, s3, e3, hl, hsh, k3⟩ := shares_ok k2 (1 + n) (by omega) (by omega)
    rw [e3, Option.bind_some]
    dsimp only
    obtain ⟨⟨ms', ps⟩, eo, ho1, ho2, ho3⟩ := loop_inv (f := madeGood_b1 v2 v3 (sh, s3)) (fun m x => ∃ k : Nat, m = sh.length - k ∧ k ≤ sh.length ∧ x.1 = (k : Int) ∧ x.2.1 = ms ∧ x.2.2.1.map (·.Share) = sh.take k ∧ (∀ p, p ∈ x.2.2.1 → Asc p.Words ∧ p.Words ≠ [] ∧ p.Words.length ≤ 3) ∧ SOk ⟨x.2.2.2.1, x.2.2.2.2⟩)
      (fun r => r.1 = ms ∧ r.2.map (·.Share) = sh ∧ (∀ p, p ∈ r.2 → Asc p.Words ∧ p.Words ≠ [] ∧ p.Words.length ≤ 3)) (by
      rintro m ⟨i, c1, c2, cL, cI⟩ ⟨k, rfl, hk, hi, hc, hsum, hp, hso⟩
      simp only at hi hc hsum hp hso
      subst hi; subst hc
      unfold madeGood_b1
      dsimp only
      by_cases hlt : k < sh.length
      · refine .inl ?_
        rw [if_pos (by simp only [decide_eq_true_eq]; omega)]
        obtain ⟨ws, s4, e4, w1, w2, w3, k4⟩ := words_ok hso 3 (by omega) (by omega)
        rw [show (3 : Int) = ((3 : Nat) : Int) from rfl, e4, Option.bind_some, if_pos (by omega), Int.toNat_natCast, List.getElem?_eq_getElem hlt, Option.bind_some]
        have hcl : c2.length = k := by have := congrArg List.length hsum; simp at this; omega
        rw [if_pos (by simp; omega), w64 (n := (k : Int) + 1) (by omega)]
        refine ⟨_, sh.length - (k + 1), by omega, rfl, k + 1, rfl, by omega, rfl, rfl, ?_, fun p hp' => ?_, k4⟩
        · simp only [List.map_append, List.map_cons, List.map_nil, hsum]
          rw [List.take_add_one, List.getElem?_eq_getElem hlt]; rfl
        · rcases List.mem_append.1 hp' with h | h
          · exact hp p h
          · simp at h; subst h; exact ⟨w1, w2, w3⟩
      · refine .inr ?_
        have : k = sh.length := by omega
        subst this
        rw [if_neg (by simp)]
        exact ⟨_, rfl, rfl, by simpa using hsum, hp⟩) sh.length ((0 : Int), ms, [], s3.L, s3.I) ⟨0, rfl, by omega, rfl, rfl, by simp, fun p hp => by simp at hp, k3⟩
    simp only at ho1 ho2 ho3
    rw [eo, Option.bind_some]
    unfold madeGood_j2
    refine ⟨_, rfl, hv2, by rw [ho1]; exact hms, ho3, ?_, .inr (by simp only; rw [ho2]; exact hsh)⟩
    have := congrArg List.length ho2
    simp only [List.length_map] at this
    simp only
    omega
  · unfold madeGood_j2
    exact ⟨_, rfl, hv2, hms, fun p hp => by simp at hp, by simp, .inl rfl⟩
theorem madeGood_ok (l : List Int) : ∃ g, madeGood l = some g ∧ MOk g := by
  unfold madeGood
  obtain ⟨v, e0, hv⟩ := cut_ok l 60 (by omega)
  rw [show (60 : Int) = ((60 : Nat) : Int) from rfl, e0, Option.bind_some]
  obtain ⟨ws, s1, e1, w1, w2, w3, k1⟩ := words_ok (s := ⟨v, 0⟩) ⟨by simp only; omega, by simp only; omega, by simp only; omega⟩ 4 (by omega) (by omega)
  rw [show (4 : Int) = ((4 : Nat) : Int) from rfl, e1, Option.bind_some]
  dsimp only
  obtain ⟨r2, s2, e2, b1, b2, k2⟩ := next_ok (n := ((4 : Nat) : Int)) k1 (by omega) (by omega)
  rw [e2, Option.bind_some]
  dsimp only
  obtain ⟨r3, s3, e3, b3, b4, k3⟩ := next_ok (n := ((4 : Nat) : Int)) k2 (by omega) (by omega)
  rw [e3, Option.bind_some]
  dsimp only
  split
  · rename_i hpos
    simp only [decide_eq_true_eq] at hpos
    obtain ⟨r4, s4, e4, b5, b6, k4⟩ := next_ok (n := 2) k3 (by omega) (by omega)
    rw [e4, Option.bind_some]
    dsimp only
    rw [if_pos (by simp only [List.length_cons, List.length_nil]; omega)]
    obtain ⟨j, rfl⟩ : ∃ j : Nat, r4 = (j : Int) := ⟨r4.toNat, by omega⟩
    obtain ⟨n, rfl⟩ : ∃ n : Nat, r3 = (n : Int) := ⟨r3.toNat, by omega⟩
    show ∃ g, ((srcShares s4 (if (((names4.drop (j : Int).toNat).length : Nat) : Int) < (n : Int) then (((names4.drop (j : Int).toNat).length : Nat) : Int) else (n : Int))).bind _) = some g ∧ MOk g
    have hdl : (names4.drop (j : Int).toNat).length = 4 - j := by simp [names4]
    rw [if_neg (by rw [hdl]; omega)]
    obtain ⟨sh, s5, e5, hl, hsh, k5⟩ := shares_ok k4 n (by omega) (by omega)
    rw [e5, Option.bind_some]
    dsimp only
    obtain ⟨ms, eo, ho1, ho2⟩ := loop_inv (f := madeGood_b2 (ws, s1) (r2, s2) ((j : Int), s4) (sh, s5)) (fun m x => ∃ k : Nat, m = sh.length - k ∧ k ≤ sh.length ∧ x.1 = (k : Int) ∧ x.2.map (·.Share) = sh.take k ∧ x.2.map (·.Name) = (names4.drop j).take k)
      (fun r => r.map (·.Share) = sh ∧ r.map (·.Name) = (names4.drop j).take sh.length) (by
      rintro m ⟨i, c1⟩ ⟨k, rfl, hk, hi, hsum, hnm⟩
      simp only at hi hsum hnm
      subst hi
      unfold madeGood_b2
      dsimp only
      by_cases hlt : k < sh.length
      · refine .inl ?_
        have hdj : k < (names4.drop j).length := by rw [Int.toNat_natCast] at hdl; omega
        rw [if_pos (by simp only [decide_eq_true_eq]; omega), if_pos (by omega)]
        have hget : ([([103, 108, 97, 115, 115] : Str), ([108, 97, 109, 112] : Str), ([115, 116, 101, 101, 108] : Str), ([119, 111, 111, 100] : Str)].drop (j : Int).toNat)[(k : Int).toNat]? = some ((names4.drop j)[k]) := by
          show (names4.drop (j : Int).toNat)[(k : Int).toNat]? = _
          rw [Int.toNat_natCast, Int.toNat_natCast, List.getElem?_eq_getElem hdj]
        rw [hget, Option.bind_some, if_pos (by omega), Int.toNat_natCast, List.getElem?_eq_getElem hlt, Option.bind_some]
        have hcl : c1.length = k := by have := congrArg List.length hsum; simp at this; omega
        rw [if_pos (by simp; omega), w64 (n := (k : Int) + 1) (by omega)]
        refine ⟨_, sh.length - (k + 1), by omega, rfl, k + 1, rfl, by omega, rfl, ?_, ?_⟩
        · simp only [List.map_append, List.map_cons, List.map_nil, hsum]
          rw [List.take_add_one, List.getElem?_eq_getElem hlt]; rfl
        · simp only [List.map_append, List.map_cons, List.map_nil, hnm]
          rw [List.take_add_one, List.getElem?_eq_getElem hdj]; rfl
      · refine .inr ?_
        have : k = sh.length := by omega
        subst this
        rw [if_neg (by simp)]
        exact ⟨_, rfl, by simpa using hsum, hnm⟩) sh.length ((0 : Int), []) ⟨0, rfl, by omega, rfl, by simp, by simp⟩
    rw [eo, Option.bind_some]
    try dsimp only
    have hml : ms.length = sh.length := by have := congrArg List.length ho1; simpa using this
    exact parts_ok _ _ ⟨w1, w2, w3⟩ ms ⟨by rw [ho2]; exact asc_names.sub ((List.take_sublist _ _).trans (List.drop_sublist _ _)), by omega, .inr (by rw [ho1]; exact hsh)⟩ _ _ k5
  · exact parts_ok _ _ ⟨w1, w2, w3⟩ [] ⟨⟨by simp, by simp⟩, by simp, .inl rfl⟩ _ _ k3
end Go.C
end

section
set_option linter.unusedVariables false
set_option linter.unusedSimpArgs false
namespace Go.C
open Go.V
theorem sum_pos {l : List Int} (h : ∀ x, x ∈ l → 1 ≤ x ∧ x ≤ 1000000) : 0 ≤ l.sum := by
  induction l with
  | nil => simp
  | cons x l ih => have := h x (by simp); have := ih (fun y hy => h y (by simp [hy])); simp only [List.sum_cons]; omega
theorem sumW_acc {l : List Int} (h : ∀ x, x ∈ l → 1 ≤ x ∧ x ≤ 1000000) : ∀ a : Int, 0 ≤ a → a + l.sum ≤ 1000000000 → l.foldl (fun s x => IntKind.i64.wrap (s + x)) a = a + l.sum := by
  induction l with
  | nil => intro a _ _; simp
  | cons x l ih =>
    intro a ha hs
    have hx := h x (by simp)
    have hp := sum_pos (fun y hy => h y (List.mem_cons_of_mem _ hy))
    simp only [List.sum_cons] at hs ⊢
    rw [List.foldl_cons, w64 (by omega), ih (fun y hy => h y (by simp [hy])) (a + x) (by omega) (by omega)]
    omega
theorem ShOk.full {l : List Int} (h : ShOk l) : full l = true := by
  have := sumW_acc h.rng 0 (by omega) (by rw [h.sum]; omega)
  unfold C.full sumW
  rw [this, h.sum]; simp
theorem ShOk.far {l : List Int} (h : ∀ x, x ∈ l → 1 ≤ x ∧ x ≤ 1000000) : far l = false := by
  unfold C.far
  rw [List.any_eq_false]
  intro x hx
  have := h x hx
  unfold out1
  exact rng_f this
theorem Shs.full {l : List Int} (h : Shs l) : full l = true := by
  rcases h with rfl | h
  · rfl
  · exact h.full
theorem Shs.far {l : List Int} (h : Shs l) : far l = false := by
  rcases h with rfl | h
  · rfl
  · exact ShOk.far h.rng
theorem MOk.gv {g : ApiGood} (h : MOk g) : gv g = 0 := by
  obtain ⟨⟨a1, a2, a3⟩, ⟨b1, b2, b3⟩, ⟨c1, c2, c3⟩⟩ := h
  have hp : (g.Parts.all fun p => C.some1 p.Words) = true := by
    rw [List.all_eq_true]
    intro p hp
    obtain ⟨d1, d2, d3⟩ := c1 p hp
    exact d1.some1 d2 (by omega)
  have hm := b1.wp
  rw [List.length_map] at hm
  unfold C.gv gvTail
  rw [a1.some1 a2 (by omega), if_neg (by simp), if_neg (by omega), hm, if_neg (by simp), hp, if_neg (by simp), b3.far, c3.far, b3.full, c3.full]
  rfl
end Go.C
end

section
set_option linter.unusedVariables false
set_option linter.unusedSimpArgs false
namespace Go.C
open Go.V
def aw0 : Str := [99, 104, 97, 105, 114, 43, 111, 102, 102, 105, 99, 101]
def aw1 : Str := [109, 58, 115, 116, 101, 101, 108, 58, 52, 48, 48, 48, 48, 48, 44, 119, 111, 111, 100, 58, 54, 48, 48, 48, 48, 48]
def aw2 : Str := [115, 116, 101, 101, 108, 58, 52, 48, 48, 48, 48, 48, 44, 119, 111, 111, 100, 58, 54, 48, 48, 48, 48, 48]
def aw : Str := [99, 104, 97, 105, 114, 43, 111, 102, 102, 105, 99, 101, 32, 109, 58, 115, 116, 101, 101, 108, 58, 52, 48, 48, 48, 48, 48, 44, 119, 111, 111, 100, 58, 54, 48, 48, 48, 48, 48]
def awm : List ApiMaterial := [⟨[115, 116, 101, 101, 108], 400000⟩, ⟨[119, 111, 111, 100], 600000⟩]
def awg : ApiGood := ⟨[[99, 104, 97, 105, 114], [111, 102, 102, 105, 99, 101]], awm, [], false⟩
theorem aw_gv : gv awg = 0 := by decide
theorem aw_split : splitS aw [32] = some [aw0, aw1] := by kernel_rfl
theorem aw_words : splitS aw0 [43] = some [[99, 104, 97, 105, 114], [111, 102, 102, 105, 99, 101]] := by kernel_rfl
theorem aw_items : splitS aw2 [44] = some [[115, 116, 101, 101, 108, 58, 52, 48, 48, 48, 48, 48], [119, 111, 111, 100, 58, 54, 48, 48, 48, 48, 48]] := by kernel_rfl
theorem aw_inner (v v2 : List Str) : loopO (goodsParse_b2 aw v v2 0 false [[115, 116, 101, 101, 108, 58, 52, 48, 48, 48, 48, 48], [119, 111, 111, 100, 58, 54, 48, 48, 48, 48, 48]]) ((0 : Int), [], []) = some (awm, []) := loop_of 3 (by kernel_rfl)
theorem aw_format : goodsFormat awg = some aw := by
  unfold goodsFormat
  rw [goodsValidate_eq, aw_gv, Option.bind_some, if_neg (by decide)]
  have e1 : joinS awg.Words [43] = some aw0 := by kernel_rfl
  rw [e1, Option.bind_some]
  have e2 : loopO (goodsFormat_b2 awg aw0) ((0 : Int), []) = some [[115, 116, 101, 101, 108, 58, 52, 48, 48, 48, 48, 48], [119, 111, 111, 100, 58, 54, 48, 48, 48, 48, 48]] := loop_of 3 (by kernel_rfl)
  rw [e2, Option.bind_some]
  dsimp only
  unfold goodsFormat_j1
  have e3 : loopO (goodsFormat_b1 awg aw0) ((0 : Int), [], [[115, 116, 101, 101, 108, 58, 52, 48, 48, 48, 48, 48], [119, 111, 111, 100, 58, 54, 48, 48, 48, 48, 48]]) = some ([], [[115, 116, 101, 101, 108, 58, 52, 48, 48, 48, 48, 48], [119, 111, 111, 100, 58, 54, 48, 48, 48, 48, 48]]) := loop_of 1 (by kernel_rfl)
  rw [e3, Option.bind_some]
  show goodsFormat_j2 awg aw0 [] [[115, 116, 101, 101, 108, 58, 52, 48, 48, 48, 48, 48], [119, 111, 111, 100, 58, 54, 48, 48, 48, 48, 48]] = some aw
  kernel_rfl
theorem aw_parse : goodsParse aw = some (awg, 0) := by
  unfold goodsParse
  rw [aw_split, Option.bind_some]
  show Option.bind (some aw0) _ = _
  rw [Option.bind_some, aw_words, Option.bind_some, if_pos (by decide)]
  have hl : loopO (goodsParse_b1 aw [aw0, aw1] awg.Words) ((0 : Int), [], [], false) = some (awm, [], false) := by
    rw [loop_step (x := ((1 : Int), awm, [], false)), loop_stop]
    · kernel_rfl
    · unfold goodsParse_b1
      dsimp only
      rw [if_pos (by kernel_rfl), if_pos (by decide)]
      show Option.bind (some aw1) _ = _
      rw [Option.bind_some]
      have e1 : cutPrefixS aw1 [109, 58] = some (aw2, true) := by kernel_rfl
      rw [e1, Option.bind_some, if_pos rfl, aw_items, Option.bind_some, aw_inner, Option.bind_some]
      rfl
  show (loopO (goodsParse_b1 aw [aw0, aw1] awg.Words) _).bind _ = _
  rw [hl, Option.bind_some]
  dsimp only
  unfold goodsParse_j1
  show (goodsValidate awg).bind _ = _
  rw [goodsValidate_eq, aw_gv, Option.bind_some, if_pos (by decide)]
  show (goodsFormat awg).bind _ = _
  rw [aw_format, Option.bind_some]
  rfl
def awc : List ApiComponent := [⟨[[115, 116, 101, 101, 108]], 400000⟩, ⟨[[119, 111, 111, 100]], 600000⟩]
def awd : List ApiComponent := [⟨[[119, 111, 111, 100]], 600000⟩, ⟨[[115, 116, 101, 101, 108]], 400000⟩]
theorem aw_ins : insSort awc 0 2 = some awd := by
  unfold insSort
  have e1 : IntKind.i64.wrap ((0 : Int) + 1) = 1 := by rfl
  rw [e1]
  have hl : loopO (insSort_b1 0 2) ((1 : Int), awc) = some awd := by
    rw [loop_step (x := ((2 : Int), awd)), loop_stop]
    · rfl
    · unfold insSort_b1
      dsimp only
      rw [if_pos (by rfl)]
      have hi : loopO (insSort_b2 0 2 1) ((1 : Int), awc) = some awd := loop_of 2 (by kernel_rfl)
      rw [hi, Option.bind_some]
      rfl
  rw [hl]; rfl
theorem sort_small (l : List ApiComponent) (h : l.length ≤ 19) : sortStable l = (insSort l 0 (l.length : Int)) := by
  unfold sortStable stableSort
  have e1 : loopO (stableSort_b3 (l.length : Int)) ((20 : Int), (0 : Int), l) = some ((0 : Int), l) := by
    rw [loop_stop]
    unfold stableSort_b3
    dsimp only
    rw [if_neg (by simp only [decide_eq_true_eq]; omega)]
  rw [e1, Option.bind_some]
  dsimp only
  unfold stableSort_j1
  cases hi : insSort l 0 (l.length : Int) with
  | none => rfl
  | some v =>
    rw [Option.bind_some]
    have e2 : loopO (stableSort_b1 (l.length : Int) v) (20 : Int) = some () := by
      rw [loop_stop]
      unfold stableSort_b1
      dsimp only
      rw [if_neg (by simp only [decide_eq_true_eq]; omega)]
    rw [e2]; rfl
theorem aw_chars : goodsCharacters awg = some awd := by
  unfold goodsCharacters
  have e1 : loopO (goodsCharacters_b2 awg) ((0 : Int), []) = some [] := loop_of 1 (by kernel_rfl)
  rw [e1, Option.bind_some]
  try dsimp only
  unfold goodsCharacters_j1
  rw [if_pos (by rfl)]
  have e2 : loopO (goodsCharacters_b1 awg) ((0 : Int), []) = some awc := loop_of 3 (by kernel_rfl)
  rw [e2, Option.bind_some]
  try dsimp only
  unfold goodsCharacters_j2
  rw [sort_small awc (by decide)]
  show (insSort awc 0 2).bind _ = _
  rw [aw_ins]; rfl
theorem awake_true : awake08 = some true := by
  unfold awake08
  show (goodsParse aw).bind _ = _
  rw [aw_parse, Option.bind_some]
  dsimp only
  rw [aw_chars, Option.bind_some, if_pos (by decide), if_pos (by decide), if_pos (by decide), if_pos (by decide), goodsValidate_eq, aw_gv, Option.bind_some, if_pos (by decide), aw_format, Option.bind_some]
  decide
theorem few_ok {l : List Str} (h : l.length ≤ 9223372036854775807 ∧ ∀ x, x ∈ l → x.length ≤ 9223372036854775807) : ∃ v, few l = some v ∧ v.length ≤ 9223372036854775807 ∧ ∀ x, x ∈ v → x.length ≤ 9223372036854775807 := by
  unfold few few_j1
  split
  · rename_i c
    simp only [decide_eq_true_eq] at c
    rw [if_pos (by omega)]
    exact ⟨_, rfl, by simp; omega, fun x hx => h.2 x (List.mem_of_mem_take (List.mem_of_mem_drop hx))⟩
  · exact ⟨_, rfl, h.1, h.2⟩
theorem Shs.rng {l : List Int} (h : Shs l) : ∀ x, x ∈ l → okI_i64 x := fun x hx => by
  rcases h with rfl | h
  · simp at hx
  · have := h.rng x hx; unfold okI_i64; omega
end Go.C
end
