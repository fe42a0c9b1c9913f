/- Cut by cut.py. -/
import Derived.Test.YtfeleiepnifbcaaGreatDoorPe
import Derived.Test.YtfeleiepnifbcaaGreatDoorPh
import Derived.Test.YtfeleiepnifbcaaGreatDoorVz
import Derived.IntWalk
import Derived.Test.YtfeleiepnifbcaaGreatDoorPb
import Derived.Test.YtfeleiepnifbcaaGreatDoorPa
import Derived.Lib.SlTrimSet
section
set_option linter.unusedVariables false
set_option linter.unusedSimpArgs false
namespace Go.C
open Go.V
theorem loop_step {σ τ : Type} {f : σ → Option (σ ⊕ τ)} {s x : σ} (h : f s = some (.inl x)) : loopO f s = loopO f x := by rw [loopO_eq, h]
theorem loop_stop {σ τ : Type} {f : σ → Option (σ ⊕ τ)} {s : σ} {r : τ} (h : f s = some (.inr r)) : loopO f s = some r := by rw [loopO_eq, h]
theorem loop_of {σ τ : Type} {f : σ → Option (σ ⊕ τ)} {s : σ} {r : τ} (k : Nat) (h : iter f k s = some r) : loopO f s = some r := loopO_iff.2 ⟨k, h⟩
/-- A loop over a list, that may be left early with one value. -/
theorem loop_list {α β σ τ : Type} (xs : List α) (f : σ → Option (σ ⊕ τ)) (mk : Nat → β → σ) (step : β → α → β) (p : Nat → Bool) (bad : τ) (r : β → τ) (I : Nat → β → Prop)
    (hI : ∀ i x b, I i b → xs[i]? = some x → I (i + 1) (step b x))
    (hgo : ∀ i x b, I i b → xs[i]? = some x → p i = true → f (mk i b) = some (.inl (mk (i + 1) (step b x))))
    (hbad : ∀ i x b, I i b → xs[i]? = some x → p i = false → f (mk i b) = some (.inr bad))
    (hend : ∀ b, I xs.length b → f (mk xs.length b) = some (.inr (r b))) (b0 : β) (h0 : I 0 b0) :
    loopO f (mk 0 b0) = some (if (List.range xs.length).all p = true then r (xs.foldl step b0) else bad) := by
  have key : ∀ (m k : Nat) (b : β), k + m = xs.length → I k b → loopO f (mk k b) = some (if (List.range' k m).all p = true then r ((xs.drop k).foldl step b) else bad) := by
    intro m
    induction m with
    | zero =>
      intro k b hk hb
      have : k = xs.length := by omega
      subst this
      rw [loop_stop (hend b hb)]
      simp
    | succ m ih =>
      intro k b hk hb
      have hlt : k < xs.length := by omega
      have hx : xs[k]? = some xs[k] := List.getElem?_eq_getElem hlt
      cases hp : p k with
      | true =>
        rw [loop_step (hgo k _ b hb hx hp), ih (k + 1) _ (by omega) (hI k _ b hb hx)]
        rw [List.drop_eq_getElem_cons hlt, List.foldl_cons, List.range'_succ, List.all_cons, hp, Bool.true_and]
      | false =>
        rw [loop_stop (hbad k _ b hb hx hp), List.range'_succ, List.all_cons, hp, Bool.false_and]
        simp
  have := key xs.length 0 b0 (by omega) h0
  rwa [← List.range_eq_range', List.drop_zero] at this
/-- A loop over a list that always goes to its end. -/
theorem loop_fold {α β σ τ : Type} (xs : List α) (f : σ → Option (σ ⊕ τ)) (mk : Nat → β → σ) (step : β → α → β) (r : β → τ) (I : Nat → β → Prop)
    (hI : ∀ i x b, I i b → xs[i]? = some x → I (i + 1) (step b x))
    (hgo : ∀ i x b, I i b → xs[i]? = some x → f (mk i b) = some (.inl (mk (i + 1) (step b x))))
    (hend : ∀ b, I xs.length b → f (mk xs.length b) = some (.inr (r b))) (b0 : β) (h0 : I 0 b0) :
    loopO f (mk 0 b0) = some (r (xs.foldl step b0)) := by
  have key : ∀ (m k : Nat) (b : β), k + m = xs.length → I k b → loopO f (mk k b) = some (r ((xs.drop k).foldl step b)) := by
    intro m
    induction m with
    | zero =>
      intro k b hk hb
      have : k = xs.length := by omega
      subst this
      rw [loop_stop (hend b hb)]
      simp
    | succ m ih =>
      intro k b hk hb
      have hlt : k < xs.length := by omega
      have hx : xs[k]? = some xs[k] := List.getElem?_eq_getElem hlt
      rw [loop_step (hgo k _ b hb hx), ih (k + 1) _ (by omega) (hI k _ b hb hx), List.drop_eq_getElem_cons hlt, List.foldl_cons]
  have := key xs.length 0 b0 (by omega) h0
  rwa [List.drop_zero] at this
theorem w64 {n : Int} (h : -9223372036854775808 ≤ n ∧ n ≤ 9223372036854775807) : IntKind.i64.wrap n = n := IntWalk.i64_in n h
theorem bl_total : ∀ a b : List UInt8, (Op.bytesLess a b || a == b) = !Op.bytesLess b a
  | [], [] => by simp [Op.bytesLess]
  | [], y :: b => by simp [Op.bytesLess]
  | x :: a, [] => by simp [Op.bytesLess]
  | x :: a, y :: b => by
    have ih := bl_total a b
    simp only [Op.bytesLess]
    by_cases h1 : x < y
    · have h2 : ¬ y < x := fun h => absurd (UInt8.lt_trans h1 h) (UInt8.lt_irrefl x)
      have h3 : x ≠ y := fun h => by subst h; exact UInt8.lt_irrefl x h1
      simp [h1, h2, h3, Ne.symm h3]
    · by_cases h2 : y < x
      · have h3 : x ≠ y := fun h => by subst h; exact UInt8.lt_irrefl x h2
        simp [h1, h2, h3, Ne.symm h3]
      · have h3 : x = y := UInt8.le_antisymm (UInt8.not_lt.1 h2) (UInt8.not_lt.1 h1)
        subst h3
        simp [ih]
/-- A letter; a word. -/
def isL (b : UInt8) : Bool := decide (97 ≤ b.toNat) && decide (b.toNat ≤ 122)
def isW (s : List UInt8) : Bool := decide (1 ≤ s.length) && (decide (s.length ≤ 12) && (List.range s.length).all fun i => isL (s.getD i 0))
theorem rune_low (s : List UInt8) (p : Nat) (h : p < s.length) (hb : (s.getD p 0).toNat < 128) : runeI s p = ((s.getD p 0).toNat : Int) ∧ runeW s p = 1 := by
  have hs : p < (⟨⟨s⟩⟩ : ByteArray).size := h
  have e : (⟨⟨s⟩⟩ : ByteArray)[p]'hs = s.getD p 0 := by
    show s[p] = _
    simp [List.getD_eq_getElem?_getD, List.getElem?_eq_getElem h]
  have := decode_ascii ⟨⟨s⟩⟩ p hs (by rw [e]; exact hb)
  unfold runeI runeW
  rw [this, e]
  exact ⟨rfl, rfl⟩
theorem rune_high (s : List UInt8) (p : Nat) (h : p < s.length) (hb : 128 ≤ (s.getD p 0).toNat) : 128 ≤ runeI s p := by
  have hs : p < (⟨⟨s⟩⟩ : ByteArray).size := h
  have e : (⟨⟨s⟩⟩ : ByteArray)[p]'hs = s.getD p 0 := by
    show s[p] = _
    simp [List.getD_eq_getElem?_getD, List.getElem?_eq_getElem h]
  have := (decode_high ⟨⟨s⟩⟩ p hs (by rw [e]; exact hb)).1
  unfold runeI
  omega
theorem rng_f {a lo hi : Int} (h : lo ≤ a ∧ a ≤ hi) : ¬ ((bif (decide (a < lo)) then true else (decide (hi < a))) = true) := by
  have e1 : ¬ a < lo := by omega
  have e2 : ¬ hi < a := by omega
  simp [e1, e2]
theorem rng_t {a lo hi : Int} (h : a < lo ∨ hi < a) : (bif (decide (a < lo)) then true else (decide (hi < a))) = true := by
  rcases h with h | h
  · simp [h]
  · simp [h]
end Go.C
end

section
set_option linter.unusedVariables false
set_option linter.unusedSimpArgs false
namespace Go.C
open Go.V
theorem isL_iff (b : UInt8) : isL b = true ↔ 97 ≤ b.toNat ∧ b.toNat ≤ 122 := by simp [isL]
theorem isL_not (b : UInt8) : isL b = false ↔ b.toNat < 97 ∨ 122 < b.toNat := by
  rw [← Bool.not_eq_true, isL_iff]; omega
theorem lt_of_get {α : Type} {xs : List α} {i : Nat} {x : α} (h : xs[i]? = some x) : i < xs.length := (List.getElem?_eq_some_iff.1 h).1
theorem getD_of {α : Type} {xs : List α} {i : Nat} {x d : α} (h : xs[i]? = some x) : xs.getD i d = x := by rw [List.getD_eq_getElem?_getD, h]; rfl
theorem isWord_eq (s : Str) : isWord s = some (isW s) := by
  unfold isWord isW
  by_cases h1 : 1 ≤ s.length
  · by_cases h2 : s.length ≤ 12
    · have hc : (bif (decide ((s.length : Int) < (1 : Int))) then true else (decide ((12 : Int) < (s.length : Int)))) = false := by
        have e1 : ¬ ((s.length : Int) < 1) := by omega
        have e2 : ¬ ((12 : Int) < (s.length : Int)) := by omega
        simp [e1, e2]
      rw [if_neg (by rw [hc]; simp)]
      have hgo : ∀ (i : Nat) (x : UInt8) (b : Unit), True → s[i]? = some x → isL (s.getD i 0) = true → isWord_b1 s i = some (.inl (i + 1)) := fun i x b _ hx hp => by
        have hlt := lt_of_get hx
        have hp := (isL_iff _).1 hp
        obtain ⟨r1, r2⟩ := rune_low s i hlt (by omega)
        unfold isWord_b1
        rw [if_pos hlt, if_neg (rng_f (by rw [r1]; omega)), r2]
      have hbad : ∀ (i : Nat) (x : UInt8) (b : Unit), True → s[i]? = some x → isL (s.getD i 0) = false → isWord_b1 s i = some (.inr (.inl false)) := fun i x b _ hx hp => by
        have hlt := lt_of_get hx
        have hp := (isL_not _).1 hp
        have hr : runeI s i < 97 ∨ 122 < runeI s i := by
          by_cases hb : (s.getD i 0).toNat < 128
          · obtain ⟨r1, r2⟩ := rune_low s i hlt hb
            rw [r1]; omega
          · have := rune_high s i hlt (by omega)
            omega
        unfold isWord_b1
        rw [if_pos hlt, if_pos (rng_t hr)]
      have hend : ∀ b : Unit, True → isWord_b1 s s.length = some (.inr (.inr ())) := fun b _ => by
        unfold isWord_b1
        rw [if_neg (by omega)]
      have := loop_list (β := Unit) s (isWord_b1 s) (fun i _ => i) (fun _ _ => ()) (fun i => isL (s.getD i 0)) (.inl false) (fun _ => .inr ()) (fun _ _ => True) (fun _ _ _ _ _ => trivial) hgo hbad hend () trivial
      rw [this]
      by_cases hall : ((List.range s.length).all fun i => isL (s.getD i 0)) = true
      · rw [if_pos hall]; simp only [Option.bind_some, isWord_j1, hall, h1, h2]; rfl
      · rw [if_neg hall]; simp only [Option.bind_some, Bool.not_eq_true] at hall ⊢; rw [hall]; simp
    · have hc : (bif (decide ((s.length : Int) < (1 : Int))) then true else (decide ((12 : Int) < (s.length : Int)))) = true := by
        have e2 : ((12 : Int) < (s.length : Int)) := by omega
        simp [e2]
      rw [if_pos hc]; simp [h2]
  · have hc : (bif (decide ((s.length : Int) < (1 : Int))) then true else (decide ((12 : Int) < (s.length : Int)))) = true := by
      have e2 : ((s.length : Int) < 1) := by omega
      simp [e2]
    rw [if_pos hc]; simp [h1]
theorem refWord_eq (s : Str) (hs : s.length ≤ 9223372036854775807) : refWord s = some (isW s) := by
  have hgo : ∀ (i : Nat) (x : UInt8) (b : Unit), True → s[i]? = some x → isL (s.getD i 0) = true → refWord_b1 s (i : Int) = some (.inl ((i + 1 : Nat) : Int)) := fun i x b _ hx hp => by
    have hlt := lt_of_get hx
    have hp := (isL_iff _).1 hp
    unfold refWord_b1
    dsimp only
    rw [Int.toNat_natCast, if_pos (by simp; omega), if_pos (by omega), if_pos (fun _ => by omega), if_neg (rng_f (by omega)), w64 (by omega)]
    rfl
  have hbad : ∀ (i : Nat) (x : UInt8) (b : Unit), True → s[i]? = some x → isL (s.getD i 0) = false → refWord_b1 s (i : Int) = some (.inr (.inl false)) := fun i x b _ hx hp => by
    have hlt := lt_of_get hx
    have hp := (isL_not _).1 hp
    unfold refWord_b1
    dsimp only
    rw [Int.toNat_natCast, if_pos (by simp; omega), if_pos (by omega), if_pos (fun _ => by omega), if_pos (rng_t (by omega))]
  have hend : ∀ b : Unit, True → refWord_b1 s (s.length : Int) = some (.inr (.inr ())) := fun b _ => by
    unfold refWord_b1
    rw [if_neg (by simp)]
  have := loop_list (β := Unit) s (refWord_b1 s) (fun i _ => (i : Int)) (fun _ _ => ()) (fun i => isL (s.getD i 0)) (.inl false) (fun _ => .inr ()) (fun _ _ => True) (fun _ _ _ _ _ => trivial) hgo hbad hend () trivial
  unfold refWord isW
  rw [show ((0 : Int) = ((0 : Nat) : Int)) from rfl, this]
  by_cases hall : ((List.range s.length).all fun i => isL (s.getD i 0)) = true
  · rw [if_pos hall]; simp only [Option.bind_some, refWord_j1, hall]
    have e1 : decide ((1 : Int) ≤ (s.length : Int)) = decide (1 ≤ s.length) := by congr 1; apply propext; omega
    have e2 : decide ((s.length : Int) ≤ (12 : Int)) = decide (s.length ≤ 12) := by congr 1; apply propext; omega
    rw [e1, e2]
    cases decide (1 ≤ s.length) <;> cases decide (s.length ≤ 12) <;> rfl
  · rw [if_neg hall]; simp only [Option.bind_some, Bool.not_eq_true] at hall ⊢; rw [hall]; simp
/-- The word at this place is a word, and behind the one ahead of it. -/
def wp (l : List Str) (i : Nat) : Bool := isW (l.getD i default) && (decide (i = 0) || Op.bytesLess (l.getD (i - 1) default) (l.getD i default))
def wordsOk (l : List Str) : Bool := decide (l.length ≤ 8) && (List.range l.length).all (wp l)
theorem wp_cond {l : List Str} {i : Nat} : (bif (!isW (l.getD i default)) then true else (bif (decide ((0 : Int) < (i : Int))) then (!Op.bytesLess (l.getD (i - 1) default) (l.getD i default)) else false)) = !wp l i := by
  unfold wp
  by_cases h0 : i = 0
  · subst h0; cases isW (l.getD 0 default) <;> simp
  · have e : ((0 : Int) < (i : Int)) := by omega
    simp only [e, h0, decide_true, decide_false, cond_true, Bool.false_or]
    cases isW (l.getD i default) <;> simp
theorem pre_nat {i : Nat} (h : i ≤ 9223372036854775807) (h0 : 0 < i) : (IntKind.i64.wrap ((i : Int) - (1 : Int))).toNat = i - 1 := by
  rw [w64 (by omega)]; omega
theorem validWords_eq (l : List Str) : validWords l = some (wordsOk l) := by
  unfold validWords wordsOk
  by_cases h8 : l.length ≤ 8
  · rw [if_neg (by simp; omega)]
    have step : ∀ (i : Nat) (x : Str), l[i]? = some x → validWords_b1 l (i : Int) = if (!wp l i) = true then some (.inr (.inl false)) else some (.inl ((i + 1 : Nat) : Int)) := fun i x hx => by
      have hlt := lt_of_get hx
      unfold validWords_b1
      rw [if_pos (by simp; omega), if_pos (by omega), Int.toNat_natCast, hx, Option.bind_some, isWord_eq, Option.bind_some]
      rw [if_pos (fun h => by
        have : (0 : Int) < (i : Int) := by simp at h; omega
        rw [w64 (by omega)]; omega)]
      rw [← wp_cond, getD_of hx, bl_total, w64 (n := (i : Int) + 1) (by omega)]
      by_cases h0 : i = 0
      · subst h0; rfl
      · rw [pre_nat (by omega) (by omega)]; rfl
    have hgo : ∀ (i : Nat) (x : Str) (b : Unit), True → l[i]? = some x → wp l i = true → validWords_b1 l (i : Int) = some (.inl ((i + 1 : Nat) : Int)) := fun i x b _ hx hp => by rw [step i x hx, hp]; rfl
    have hbad : ∀ (i : Nat) (x : Str) (b : Unit), True → l[i]? = some x → wp l i = false → validWords_b1 l (i : Int) = some (.inr (.inl false)) := fun i x b _ hx hp => by rw [step i x hx, hp]; rfl
    have hend : ∀ b : Unit, True → validWords_b1 l (l.length : Int) = some (.inr (.inr ())) := fun b _ => by
      unfold validWords_b1
      rw [if_neg (by simp)]
    have := loop_list (β := Unit) l (validWords_b1 l) (fun i _ => (i : Int)) (fun _ _ => ()) (wp l) (.inl false) (fun _ => .inr ()) (fun _ _ => True) (fun _ _ _ _ _ => trivial) hgo hbad hend () trivial
    rw [show ((0 : Int) = ((0 : Nat) : Int)) from rfl, this]
    simp only [h8, decide_true, Bool.true_and]
    by_cases hall : ((List.range l.length).all (wp l)) = true
    · rw [if_pos hall, hall]; rfl
    · rw [if_neg hall]; simp only [Option.bind_some, Bool.not_eq_true] at hall ⊢; rw [hall]
  · rw [if_pos (by simp; omega)]; simp [h8]
theorem refWords_eq (l : List Str) (hl : l.length ≤ 9223372036854775807) (hs : ∀ x, x ∈ l → x.length ≤ 9223372036854775807) : refWords l = some (wordsOk l) := by
  have step : ∀ (i : Nat) (x : Str), l[i]? = some x → refWords_b1 l (i : Int) = if (!wp l i) = true then some (.inr (.inl false)) else some (.inl ((i + 1 : Nat) : Int)) := fun i x hx => by
    have hlt := lt_of_get hx
    unfold refWords_b1
    rw [if_pos (by simp; omega), if_pos (by omega), Int.toNat_natCast, hx, Option.bind_some, refWord_eq x (hs x (List.mem_of_getElem? hx)), Option.bind_some]
    rw [if_pos (fun h => by
      have : (0 : Int) < (i : Int) := by simp at h; omega
      rw [w64 (by omega)]; omega), if_pos (fun h => by omega)]
    rw [← wp_cond, getD_of hx, w64 (n := (i : Int) + 1) (by omega)]
    by_cases h0 : i = 0
    · subst h0; rfl
    · rw [pre_nat (by omega) (by omega)]; rfl
  have hgo : ∀ (i : Nat) (x : Str) (b : Unit), True → l[i]? = some x → wp l i = true → refWords_b1 l (i : Int) = some (.inl ((i + 1 : Nat) : Int)) := fun i x b _ hx hp => by rw [step i x hx, hp]; rfl
  have hbad : ∀ (i : Nat) (x : Str) (b : Unit), True → l[i]? = some x → wp l i = false → refWords_b1 l (i : Int) = some (.inr (.inl false)) := fun i x b _ hx hp => by rw [step i x hx, hp]; rfl
  have hend : ∀ b : Unit, True → refWords_b1 l (l.length : Int) = some (.inr (.inr ())) := fun b _ => by
    unfold refWords_b1
    rw [if_neg (by simp)]
  have := loop_list (β := Unit) l (refWords_b1 l) (fun i _ => (i : Int)) (fun _ _ => ()) (wp l) (.inl false) (fun _ => .inr ()) (fun _ _ => True) (fun _ _ _ _ _ => trivial) hgo hbad hend () trivial
  unfold refWords wordsOk
  rw [show ((0 : Int) = ((0 : Nat) : Int)) from rfl, this]
  by_cases hall : ((List.range l.length).all (wp l)) = true
  · rw [if_pos hall, hall]; simp only [Option.bind_some, refWords_j1]
    have e1 : decide ((l.length : Int) ≤ (8 : Int)) = decide (l.length ≤ 8) := by congr 1; apply propext; omega
    rw [e1]; simp
  · rw [if_neg hall]; simp only [Option.bind_some, Bool.not_eq_true] at hall ⊢; rw [hall]; simp
end Go.C
end

section
set_option linter.unusedVariables false
set_option linter.unusedSimpArgs false
namespace Go.C
open Go.V
theorem within_eq {x n : Int} (hn : 0 < n) (hn2 : n ≤ 4611686018427387904) : within x n = some (x % n) := by
  unfold within
  rw [if_pos (by omega), if_pos (by omega)]
  congr 1
  have h1 : -n < x.tmod n ∧ x.tmod n < n := ⟨by have := Int.lt_tmod_of_pos x hn; omega, Int.tmod_lt_of_pos x hn⟩
  rw [IntWalk.i64_in _ (by omega), Int.tmod_eq_emod_of_nonneg (by omega), Int.add_emod_right]
  rw [Int.tmod_eq_emod]
  split
  · simp
  · have : ((n.natAbs : Nat) : Int) = n := by omega
    rw [this, Int.sub_emod_right]
    exact Int.emod_emod_of_dvd x (Int.dvd_refl n)
def SOk (s : CustomsmadeSource) : Prop := 0 ≤ s.I ∧ s.I ≤ s.L.length ∧ s.L.length ≤ 1000
theorem next_ok {s : CustomsmadeSource} {n : Int} (hs : SOk s) (hn : 0 < n) (hn2 : n ≤ 4611686018427387904) : ∃ r s', srcNext s n = some (r, s') ∧ 0 ≤ r ∧ r < n ∧ SOk s' := by
  obtain ⟨h0, h1, h2⟩ := hs
  unfold srcNext
  split
  · exact ⟨0, s, rfl, by omega, by omega, h0, h1, h2⟩
  · rename_i c
    simp at c
    have e : IntKind.i64.wrap (IntKind.i64.wrap (s.I + 1) - 1) = s.I := by
      rw [IntWalk.i64_in (s.I + 1) (by omega), IntWalk.i64_in _ (by omega)]; omega
    rw [e, if_pos h0]
    have hlt : s.I.toNat < s.L.length := by omega
    rw [List.getElem?_eq_getElem hlt]
    simp only [Option.bind_some, within_eq hn hn2]
    refine ⟨_, _, rfl, Int.emod_nonneg _ (by omega), Int.emod_lt_of_pos _ hn, ?_⟩
    refine ⟨?_, ?_, h2⟩ <;> simp only <;> rw [IntWalk.i64_in (s.I + 1) (by omega)] <;> omega
theorem cut_ok (l : List Int) (n : Nat) (hn : n ≤ 1000) : ∃ v, madeCut l (n : Int) = some v ∧ v.length ≤ n := by
  unfold madeCut
  split
  · rename_i c
    simp only [decide_eq_true_eq] at c
    rw [if_pos (by omega)]
    exact ⟨_, rfl, by simp; omega⟩
  · rename_i c
    simp only [decide_eq_true_eq] at c
    exact ⟨_, rfl, by omega⟩
theorem loop_inv {σ τ : Type} {f : σ → Option (σ ⊕ τ)} (I : Nat → σ → Prop) (R : τ → Prop)
    (hstep : ∀ n s, I n s → (∃ s' m, m < n ∧ f s = some (.inl s') ∧ I m s') ∨ (∃ r, f s = some (.inr r) ∧ R r)) : ∀ n s, I n s → ∃ r, loopO f s = some r ∧ R r := by
  intro n
  induction n using Nat.strongRecOn with
  | ind n ih =>
    intro s h
    rcases hstep n s h with ⟨s', m, hm, h1, h2⟩ | ⟨r, h1, h2⟩
    · obtain ⟨r, h3, h4⟩ := ih m hm s' h2
      exact ⟨r, by rw [loop_step h1]; exact h3, h4⟩
    · exact ⟨r, loop_stop h1, h2⟩
def isD (b : UInt8) : Bool := decide (48 ≤ b.toNat) && decide (b.toNat ≤ 57)
abbrev digs : Str := [48, 49, 50, 51, 52, 53, 54, 55, 56, 57]
theorem digs_eq (b : UInt8) : digs.contains b = isD b := by
  have h : ∀ n : Fin 256, digs.contains (UInt8.ofNat n.val) = isD (UInt8.ofNat n.val) := by decide +kernel
  have := h ⟨b.toNat, b.toNat_lt⟩
  simpa using this
theorem mem_dropWhile {α : Type} {p : α → Bool} {x : α} : ∀ {l : List α}, x ∈ l → p x = false → x ∈ l.dropWhile p
  | [], h, _ => by cases h
  | y :: l, h, hp => by
    rw [List.dropWhile_cons]
    split
    · rename_i hy
      rcases List.mem_cons.1 h with rfl | h
      · rw [hp] at hy; cases hy
      · exact mem_dropWhile h hp
    · exact h
theorem dropWhile_nil {α : Type} {p : α → Bool} : ∀ {l : List α}, (∀ x, x ∈ l → p x = true) → l.dropWhile p = []
  | [], _ => rfl
  | y :: l, h => by rw [List.dropWhile_cons, if_pos (h y (by simp))]; exact dropWhile_nil (fun x hx => h x (by simp [hx]))
theorem trimS_nil (s : Str) : (Lib.trimS s digs == ([] : Str)) = s.all isD := by
  have hall : s.all isD = s.all (digs.contains ·) := by congr 1; funext b; exact (digs_eq b).symm
  rw [hall, Bool.eq_iff_iff, beq_iff_eq, List.all_eq_true]
  unfold Lib.trimS Lib.trimLeftS Lib.trimRightS
  constructor
  · intro h x hx
    cases hp : digs.contains x with
    | true => rfl
    | false =>
      have h1 : x ∈ (s.reverse.dropWhile (digs.contains ·)).reverse := List.mem_reverse.2 (mem_dropWhile (List.mem_reverse.2 hx) hp)
      have h2 := mem_dropWhile (p := (digs.contains ·)) h1 hp
      rw [h] at h2; cases h2
  · intro h
    have : s.reverse.dropWhile (digs.contains ·) = [] := dropWhile_nil (fun x hx => h x (List.mem_reverse.1 hx))
    rw [this]; rfl
theorem trim_some {s : Str} (h : s.length ≤ 9223372036854775807) : trimS s digs = some (Lib.trimS s digs) := by
  unfold trimS
  rw [if_pos ⟨h, by decide, by decide⟩]
def lvl (s : Str) : Int := if s.all isD = true ∧ (s.length = 2 ∨ s.length = 4 ∨ s.length = 6 ∨ s.length = 8) then (s.length : Int) else 0
theorem nomLevel_eq (s : Str) : nomLevel s = some (lvl s) := by
  have ht : ∀ k : Int, k ≤ 8 → (if ((s.length : Int) == k) = true then trimS s digs else some default) = some (if (s.length : Int) = k then Lib.trimS s digs else default) := fun k hk => by
    by_cases h : (s.length : Int) = k
    · rw [if_pos (by simpa using h), if_pos h, trim_some (by omega)]
    · rw [if_neg (by simpa using h), if_neg h]
  have hc : ∀ k : Int, (bif ((s.length : Int) == k) then ((if (s.length : Int) = k then Lib.trimS s digs else default) == ([] : Str)) else false) = (decide ((s.length : Int) = k) && s.all isD) := fun k => by
    by_cases h : (s.length : Int) = k
    · have e : ((s.length : Int) == k) = true := by simpa using h
      rw [e, if_pos h, trimS_nil]; simp [h]
    · have e : ((s.length : Int) == k) = false := by simpa using h
      rw [e]; simp [h]
  unfold nomLevel nomLevel_j1 lvl
  rw [ht 2 (by omega), Option.bind_some, hc, ht 4 (by omega), Option.bind_some, hc, ht 6 (by omega), Option.bind_some, hc, ht 8 (by omega), Option.bind_some, hc]
  cases ha : s.all isD with
  | false => simp
  | true =>
    simp only [Bool.and_true, decide_eq_true_eq, true_and]
    by_cases h2 : (s.length : Int) = 2
    · rw [if_pos h2, if_pos (.inl (by omega)), h2]
    · rw [if_neg h2]
      by_cases h4 : (s.length : Int) = 4
      · rw [if_pos h4, if_pos (.inr (.inl (by omega))), h4]
      · rw [if_neg h4]
        by_cases h6 : (s.length : Int) = 6
        · rw [if_pos h6, if_pos (.inr (.inr (.inl (by omega)))), h6]
        · rw [if_neg h6]
          by_cases h8 : (s.length : Int) = 8
          · rw [if_pos h8, if_pos (.inr (.inr (.inr (by omega)))), h8]
          · rw [if_neg h8, if_neg (by omega)]
theorem isD_iff (b : UInt8) : isD b = true ↔ 48 ≤ b.toNat ∧ b.toNat ≤ 57 := by simp [isD]
theorem all_range {p : UInt8 → Bool} (s : Str) : ((List.range s.length).all fun i => p (s.getD i 0)) = s.all p := by
  rw [Bool.eq_iff_iff, List.all_eq_true, List.all_eq_true]
  constructor
  · intro h x hx
    obtain ⟨i, hi, rfl⟩ := List.getElem_of_mem hx
    have := h i (List.mem_range.2 hi)
    rwa [List.getD_eq_getElem?_getD, List.getElem?_eq_getElem hi] at this
  · intro h i hi
    have hi := List.mem_range.1 hi
    rw [List.getD_eq_getElem?_getD, List.getElem?_eq_getElem hi]
    exact h _ (List.getElem_mem hi)
theorem refLevel_eq {s : Str} (hs : s.length ≤ 9223372036854775807) : refLevel s = some (lvl s) := by
  have hgo : ∀ (i : Nat) (x : UInt8) (b : Unit), True → s[i]? = some x → isD (s.getD i 0) = true → refLevel_b1 s (i : Int) = some (.inl ((i + 1 : Nat) : Int)) := fun i x b _ hx hp => by
    have hlt := lt_of_get hx
    have hp := (isD_iff _).1 hp
    unfold refLevel_b1
    dsimp only
    rw [Int.toNat_natCast, if_pos (by simp; omega), if_pos (by omega), if_pos (fun _ => by omega), if_neg (rng_f (by omega)), w64 (by omega)]
    rfl
  have hbad : ∀ (i : Nat) (x : UInt8) (b : Unit), True → s[i]? = some x → isD (s.getD i 0) = false → refLevel_b1 s (i : Int) = some (.inr (.inl 0)) := fun i x b _ hx hp => by
    have hlt := lt_of_get hx
    have hp : ¬ (48 ≤ (s.getD i 0).toNat ∧ (s.getD i 0).toNat ≤ 57) := fun h => by rw [(isD_iff _).2 h] at hp; cases hp
    unfold refLevel_b1
    dsimp only
    rw [Int.toNat_natCast, if_pos (by simp; omega), if_pos (by omega), if_pos (fun _ => by omega), if_pos (rng_t (by omega))]
  have hend : ∀ b : Unit, True → refLevel_b1 s (s.length : Int) = some (.inr (.inr ())) := fun b _ => by
    unfold refLevel_b1
    rw [if_neg (by simp)]
  have := loop_list (β := Unit) s (refLevel_b1 s) (fun i _ => (i : Int)) (fun _ _ => ()) (fun i => isD (s.getD i 0)) (.inl 0) (fun _ => .inr ()) (fun _ _ => True) (fun _ _ _ _ _ => trivial) hgo hbad hend () trivial
  unfold refLevel lvl
  rw [show ((0 : Int) = ((0 : Nat) : Int)) from rfl, this, all_range]
  cases ha : s.all isD with
  | false => simp
  | true =>
    simp only [if_true, Option.bind_some, true_and]
    unfold refLevel_j1
    by_cases h : s.length = 2 ∨ s.length = 4 ∨ s.length = 6 ∨ s.length = 8
    · rw [if_pos h, if_neg]
      rw [Int.tmod_eq_emod_of_nonneg (by omega)]
      simp; omega
    · rw [if_neg h]
      by_cases h0 : s.length = 0
      · rw [if_neg (by rw [h0]; decide), h0]
      · rw [if_pos]
        · rfl
        · rw [Int.tmod_eq_emod_of_nonneg (by omega)]
          by_cases h8 : 8 < s.length
          · simp; omega
          · simp; omega
end Go.C
end

section
set_option linter.unusedVariables false
set_option linter.unusedSimpArgs false
namespace Go.C
open Go.V
theorem wu (n : Int) : IntKind.u64.wrap n = n % 18446744073709551616 := by rw [IntKind.wrap_u64]
/-- A source in order. -/
theorem rate_ok {s : CustomsmadeSource} (hs : SOk s) : ∃ r s', srcRate s = some (r, s') ∧ 0 ≤ r ∧ r ≤ 1000000 ∧ SOk s' := by
  unfold srcRate
  obtain ⟨r1, s1, e1, _, _, k1⟩ := next_ok (n := 4) hs (by omega) (by omega)
  rw [e1]
  simp only [Option.bind_some]
  split
  · obtain ⟨r2, s2, e2, _, _, k2⟩ := next_ok (n := 101) k1 (by omega) (by omega)
    rw [e2]
    refine ⟨_, _, rfl, ?_, ?_, k2⟩ <;> simp only <;> rw [IntWalk.i64_in _ (by omega)] <;> omega
  · obtain ⟨r2, s2, e2, _, _, k2⟩ := next_ok (n := 1000001) k1 (by omega) (by omega)
    rw [e2]
    exact ⟨_, _, rfl, by omega, by omega, k2⟩
end Go.C
end

section
set_option linter.unusedVariables false
set_option linter.unusedSimpArgs false
namespace Go.C
open Go.V
def dg (n : Nat) : UInt8 := UInt8.ofNat (48 + n)
theorem dgI {r : Int} (h0 : 0 ≤ r) (h1 : r < 3) : bytesI [48, IntKind.u8.wrap (IntKind.i64.wrap ((49 : Int) + r))] = [48, dg (r.toNat + 1)] := by
  have : r = 0 ∨ r = 1 ∨ r = 2 := by omega
  rcases this with rfl | rfl | rfl <;> decide
theorem srcCode_ok {s : CustomsmadeSource} (hs : SOk s) (n : Nat) (hn : n = 2 ∨ n = 4 ∨ n = 6 ∨ n = 8) : ∃ r s', srcCode s (n : Int) = some (r, s') ∧ r.length = n ∧ r.all isD = true ∧ SOk s' := by
  unfold srcCode
  obtain ⟨r1, s1, e1, h1, h2, k1⟩ := next_ok (n := 2) hs (by omega) (by omega)
  rw [e1, Option.bind_some]
  obtain ⟨⟨b, L, I⟩, e2, h3, h4, h5⟩ := loop_inv (f := srcCode_b1 (n : Int))
    (fun m (x : List Int × List Int × Int) => x.1.length ≤ n ∧ m = n - x.1.length ∧ x.1.length % 2 = 0 ∧ 2 ≤ x.1.length ∧ (bytesI x.1).all isD = true ∧ SOk ⟨x.2.1, x.2.2⟩)
    (fun x => x.1.length = n ∧ (bytesI x.1).all isD = true ∧ SOk ⟨x.2.1, x.2.2⟩)
    (fun m x hx => by
      obtain ⟨b, L, I⟩ := x
      obtain ⟨h1, h2, h3, h4, h5, h6⟩ := hx
      simp only at h1 h2 h3 h4 h5 h6 ⊢
      unfold srcCode_b1
      dsimp only
      by_cases hc : b.length < n
      · left
        obtain ⟨r, s', e, g1, g2, g3⟩ := next_ok (n := 3) h6 (by omega) (by omega)
        refine ⟨(b ++ [(48 : Int), (IntKind.u8.wrap (IntKind.i64.wrap ((49 : Int) + r)))], s'.L, s'.I), n - (b.length + 2), by omega, ?_, ?_⟩
        · rw [if_pos (by simp; omega), e, Option.bind_some, if_pos (by simp; omega)]
        · refine ⟨by simp; omega, by simp, by simp; omega, by simp, ?_, g3⟩
          have hb : bytesI (b ++ [(48 : Int), (IntKind.u8.wrap (IntKind.i64.wrap ((49 : Int) + r)))]) = bytesI b ++ bytesI [(48 : Int), (IntKind.u8.wrap (IntKind.i64.wrap ((49 : Int) + r)))] := by unfold bytesI; rw [List.map_append]
          rw [hb, dgI g1 g2, List.all_append, h5]
          have : r = 0 ∨ r = 1 ∨ r = 2 := by omega
          rcases this with rfl | rfl | rfl <;> decide
      · right
        rw [if_neg (by simp; omega)]
        exact ⟨_, rfl, by simp only; omega, h5, h6⟩)
    (n - 2) ([(57 : Int), (IntKind.u8.wrap (IntKind.i64.wrap ((52 : Int) + r1)))], s1.L, s1.I)
    (by
      refine ⟨by simp; omega, by simp, by simp, by simp, ?_, k1⟩
      have : r1 = 0 ∨ r1 = 1 := by omega
      show (bytesI [(57 : Int), (IntKind.u8.wrap (IntKind.i64.wrap ((52 : Int) + r1)))]).all isD = true
      rcases this with rfl | rfl <;> decide)
  rw [e2, Option.bind_some]
  simp only at h3 h4 h5
  exact ⟨bytesI b, _, rfl, by unfold bytesI; simp; exact h3, h4, h5⟩
end Go.C
end

section
set_option linter.unusedVariables false
set_option linter.unusedSimpArgs false
namespace Go.C
open Go.V
theorem concatInt_eq (a b : List Int) (ha : a.length ≤ 1000) (hb : b.length ≤ 1000) : concatInt [a, b] = some (a ++ b) := by
  have e1 : loopO (concatInt_b2 [a, b]) ((0 : Int), (0 : Int)) = some ((a.length : Int) + (b.length : Int)) := by
    rw [loop_step (x := ((1 : Int), (a.length : Int)))]
    · rw [loop_step (x := ((2 : Int), (a.length : Int) + (b.length : Int)))]
      · rw [loop_stop]
        unfold concatInt_b2; rfl
      · unfold concatInt_b2
        dsimp only
        rw [if_pos (by rfl), if_pos (by decide)]
        show Option.bind (some b) _ = _
        rw [Option.bind_some, w64 (n := (a.length : Int) + (b.length : Int)) (by omega), if_neg (by simp; omega)]; rfl
    · unfold concatInt_b2
      dsimp only
      rw [if_pos (by rfl), if_pos (by decide)]
      show Option.bind (some a) _ = _
      rw [Option.bind_some, w64 (n := (0 : Int) + (a.length : Int)) (by omega), if_neg (by simp), Int.zero_add (a.length : Int)]; rfl
  have e2 : growInt ((a.length : Int) + (b.length : Int)) = some [] := by
    unfold growInt growInt_j1
    rw [if_neg (by simp; omega)]
    have : (IntKind.i64.wrap (((a.length : Int) + (b.length : Int)) - (IntKind.i64.wrap ((0 : Int) - (0 : Int))))) = (a.length : Int) + (b.length : Int) := by rw [w64 (n := (0 : Int) - 0) (by omega), w64 (by omega)]; omega
    rw [this]
    split
    · rename_i h; rw [if_pos (by simp at h; omega)]
    · rfl
  have e3 : loopO (concatInt_b1 [a, b]) ((0 : Int), []) = some (a ++ b) := by
    rw [loop_step (x := ((1 : Int), a))]
    · rw [loop_step (x := ((2 : Int), a ++ b))]
      · rw [loop_stop]
        unfold concatInt_b1; rfl
      · unfold concatInt_b1
        dsimp only
        rw [if_pos (by rfl), if_pos (by decide)]
        show Option.bind (some b) _ = _
        rw [Option.bind_some, if_pos (by omega)]; rfl
    · unfold concatInt_b1
      dsimp only
      rw [if_pos (by rfl), if_pos (by decide)]
      show Option.bind (some a) _ = _
      rw [Option.bind_some, if_pos (by simp; omega)]; rfl
  unfold concatInt
  rw [e1, Option.bind_some]
  unfold concatInt_j1
  dsimp only
  rw [e2, Option.bind_some, e3, Option.bind_some]
  rfl
end Go.C
end

section
set_option linter.unusedVariables false
set_option linter.unusedSimpArgs false
namespace Go.C
open Go.V
def mkR (n : Int) : Customsref01Wide := ⟨n / 18446744073709551616, n % 18446744073709551616⟩
def mkE (n : Int) : ExactWide := ⟨n / 18446744073709551616, n % 18446744073709551616⟩
theorem r01Add_ok {m n : Int} (hm : 0 ≤ m) (hn : 0 ≤ n) (hs : m + n < 340282366920938463463374607431768211456) : r01Add (mkR m) (mkR n) = some (mkR (m + n), false) := by
  unfold r01Add r01Add_j1 mkR
  simp only [wu]
  split
  · rename_i h
    simp only [decide_eq_true_eq] at h
    refine congrArg some (Prod.ext ?_ ?_)
    · simp only [Customsref01Wide.mk.injEq]; omega
    · simp; omega
  · rename_i h
    simp only [decide_eq_true_eq] at h
    refine congrArg some (Prod.ext ?_ ?_)
    · simp only [Customsref01Wide.mk.injEq]; omega
    · simp; omega
theorem mkR_small {n : Int} (h : 0 ≤ n) (h2 : n < 18446744073709551616) : (⟨0, n⟩ : Customsref01Wide) = mkR n := by
  unfold mkR; simp only [Customsref01Wide.mk.injEq]; omega
theorem bv_nat (x : Int) (h : 0 ≤ x) (h2 : x < 18446744073709551616) : (BitVec.ofInt (IntKind.u64).bits x).toNat = x.toNat := by
  show (BitVec.ofInt 64 x).toNat = x.toNat
  rw [BitVec.toNat_ofInt]
  congr 1
  exact Int.emod_eq_of_lt h (by simpa using h2)
theorem bv_and {x : Int} (k : Nat) (hx : 0 ≤ x) (hx2 : x < 18446744073709551616) (m : Int) (hm : m = 2 ^ k - 1) (hm2 : m < 18446744073709551616) :
    IntKind.u64.wrap ((BitVec.ofInt (IntKind.u64).bits x &&& BitVec.ofInt (IntKind.u64).bits m).toNat : Int) = x % 2 ^ k := by
  have hp : (1 : Int) ≤ 2 ^ k := by have := Int.pow_pos (n := 2) (m := k) (by omega); omega
  have h1 : (BitVec.ofInt (IntKind.u64).bits x &&& BitVec.ofInt (IntKind.u64).bits m).toNat = x.toNat % 2 ^ k := by
    rw [BitVec.toNat_and, bv_nat x hx hx2, bv_nat m (by omega) hm2]
    have : m.toNat = 2 ^ k - 1 := by
      subst hm
      have : ((2 ^ k : Int)) = ((2 ^ k : Nat) : Int) := by simp
      rw [this]; omega
    rw [this, Nat.and_two_pow_sub_one_eq_mod]
  rw [h1]
  have h2 : ((x.toNat % 2 ^ k : Nat) : Int) = x % 2 ^ k := by
    obtain ⟨a, rfl⟩ := Int.eq_ofNat_of_zero_le hx
    simp
  rw [h2]
  have h3 : 0 ≤ x % 2 ^ k := Int.emod_nonneg _ (by omega)
  have h4 : x % 2 ^ k ≤ x := by have := Int.emod_add_mul_ediv x (2 ^ k); have := Int.mul_nonneg (show (0:Int) ≤ 2 ^ k by omega) (Int.ediv_nonneg hx (show (0:Int) ≤ 2 ^ k by omega)); omega
  exact IntWalk.u64_in _ (by omega)

theorem bit_ok {b : Int} {i : Int} {j : Nat} (hi : i = j) (hj : j ≤ 63) (h0 : 0 ≤ b) (h1 : b < 18446744073709551616) :
    IntKind.u64.wrap ((BitVec.ofInt (IntKind.u64).bits (b.fdiv (2 ^ (min i.toNat (IntKind.u64).bits))) &&& BitVec.ofInt (IntKind.u64).bits (1 : Int)).toNat : Int) = b / 2 ^ j % 2 := by
  have hp : (0 : Int) < 2 ^ j := Int.pow_pos (by omega)
  have e : min i.toNat (IntKind.u64).bits = j := by subst hi; show min (j : Int).toNat 64 = j; omega
  rw [e, Int.fdiv_eq_ediv_of_nonneg _ (Int.le_of_lt hp)]
  have h2 : 0 ≤ b / 2 ^ j := Int.ediv_nonneg h0 (Int.le_of_lt hp)
  have h3 : b / 2 ^ j ≤ b := Int.ediv_le_self _ h0
  exact bv_and 1 h2 (by omega) 1 (by decide) (by decide)
theorem half_div (b : Int) (j : Nat) : b / 2 ^ (j + 1) = b / 2 ^ j / 2 := by
  rw [Int.pow_succ, Int.ediv_ediv_of_nonneg (Int.pow_nonneg (by omega))]
theorem r01Mul_loop {a b : Int} (ha : 0 ≤ a) (ha2 : a < 18446744073709551616) (hb : 0 ≤ b) (hb2 : b < 18446744073709551616) : ∀ (j : Nat), j ≤ 64 → loopO (r01Mul_b1 a b) ((j : Int) - 1, (a * (b / 2 ^ j)) / 18446744073709551616, (a * (b / 2 ^ j)) % 18446744073709551616) = some (a * b / 18446744073709551616, a * b % 18446744073709551616)
  | 0, _ => by
    refine loop_stop ?_
    unfold r01Mul_b1
    simp
  | j + 1, hj => by
    have ih := r01Mul_loop ha ha2 hb hb2 j (by omega)
    refine Eq.trans (loop_step ?_) ih
    have hd0 : 0 ≤ b / 2 ^ j := Int.ediv_nonneg hb (Int.pow_nonneg (by omega))
    have hd1 : b / 2 ^ j ≤ b := Int.ediv_le_self _ hb
    have hbit := bit_ok (b := b) (i := ((j + 1 : Nat) : Int) - 1) (j := j) (by omega) (by omega) hb hb2
    rw [half_div] at *
    generalize b / 2 ^ j = d at *
    have e1 : a * d = a * (d / 2) + a * (d / 2) + a * (d % 2) := by
      rw [← Int.mul_add, ← Int.mul_add]; congr 1; omega
    have h0 : 0 ≤ a * (d / 2) := Int.mul_nonneg ha (by omega)
    have h1 : 0 ≤ a * (d % 2) := Int.mul_nonneg ha (by omega)
    have h2 : a * d ≤ 18446744073709551615 * 18446744073709551615 := by
      have x1 := Int.mul_le_mul_of_nonneg_right (show a ≤ 18446744073709551615 by omega) hd0
      omega
    have hadd := r01Add_ok (m := a * (d / 2)) (n := a * (d / 2)) h0 h0 (by omega)
    unfold mkR at hadd
    unfold r01Mul_b1
    have hi : ((j + 1 : Nat) : Int) - 1 = (j : Int) := by omega
    simp only [hi] at hbit ⊢
    simp only [hadd, Option.bind_some, hbit, Int.natCast_nonneg, decide_true, if_true]
    have hj1 : IntKind.i64.wrap ((j : Int) - 1) = (j : Int) - 1 := IntWalk.i64_in _ (by omega)
    have hd2 : d % 2 = 0 ∨ d % 2 = 1 := by omega
    rcases hd2 with h | h
    · rw [h] at e1 ⊢
      simp only [r01Mul_j2, hj1]
      simp [e1]
    · rw [h] at e1 ⊢
      have hadd2 := r01Add_ok (m := a * (d / 2) + a * (d / 2)) (n := a) (by omega) ha (by omega)
      rw [← mkR_small ha ha2] at hadd2
      unfold mkR at hadd2
      simp only [beq_self_eq_true, if_true, hadd2, Option.bind_some, r01Mul_j2, hj1]
      simp [e1]
theorem r01Mul_ok {a b : Int} (ha : 0 ≤ a) (ha2 : a < 18446744073709551616) (hb : 0 ≤ b) (hb2 : b < 18446744073709551616) : r01Mul a b = some (mkR (a * b)) := by
  have h := r01Mul_loop ha ha2 hb hb2 64 (by omega)
  have e : b / 2 ^ 64 = 0 := Int.ediv_eq_zero_of_lt hb (by simpa using hb2)
  rw [e] at h
  simp at h
  unfold r01Mul
  rw [h]
  rfl
theorem r01Less_ok {m n : Int} (hm : 0 ≤ m) (hn : 0 ≤ n) : r01Less (mkR m) (mkR n) = some (decide (m < n)) := by
  unfold r01Less mkR
  congr 1
  rw [Bool.eq_iff_iff]
  simp
  omega
theorem exactMul_ok {a b : Int} (ha : 0 ≤ a) (ha2 : a < 18446744073709551616) (hb : 0 ≤ b) (hb2 : b < 18446744073709551616) : exactMul a b = some (mkE (a * b)) := by
  unfold exactMul mul64
  rw [if_pos ⟨ha, ha2, hb, hb2⟩]
  rfl
theorem exactCmp_ok {m n : Int} (hm : 0 ≤ m) (hn : 0 ≤ n) : ∃ r, exactCmp (mkE m) (mkE n) = some r ∧ (decide (0 < r) = decide (n < m)) ∧ (decide (r < 0) = decide (m < n)) := by
  unfold exactCmp mkE
  simp only
  split
  · rename_i h
    simp at h
    refine ⟨_, rfl, ?_, ?_⟩ <;> simp <;> omega
  · rename_i h
    simp at h
    split
    · rename_i h2
      simp at h2
      refine ⟨_, rfl, ?_, ?_⟩ <;> simp <;> omega
    · rename_i h2
      simp at h2
      refine ⟨_, rfl, ?_, ?_⟩ <;> simp <;> omega
end Go.C
end

section
set_option linter.unusedVariables false
set_option linter.unusedSimpArgs false
namespace Go.C
open Go.V
/-- A loop whose states are known one by one. -/
theorem loop_seq {σ τ : Type} {f : σ → Option (σ ⊕ τ)} (n : Nat) (s : Nat → σ) (r : τ) (hgo : ∀ i, i < n → f (s i) = some (.inl (s (i + 1)))) (hend : f (s n) = some (.inr r)) : loopO f (s 0) = some r := by
  have key : ∀ m k, k + m = n → loopO f (s k) = some r := by
    intro m
    induction m with
    | zero => intro k hk; have : k = n := by omega
              subst this; exact loop_stop hend
    | succ m ih => intro k hk; rw [loop_step (hgo k (by omega))]; exact ih (k + 1) (by omega)
  exact key n 0 (by omega)
/-- A list gone through from the left, which may be left early. -/
def foldE {α β τ : Type} (g : Nat → α → β → Option (β ⊕ τ)) (fin : β → τ) : Nat → List α → β → Option τ
  | _, [], b => some (fin b)
  | i, x :: xs, b => match g i x b with
    | some (.inl b') => foldE g fin (i + 1) xs b'
    | some (.inr r) => some r
    | none => none
def mapL {β σ τ : Type} (m : β → σ) : Option (β ⊕ τ) → Option (σ ⊕ τ)
  | some (.inl b) => some (.inl (m b))
  | some (.inr r) => some (.inr r)
  | none => none
theorem loop_none {σ τ : Type} {f : σ → Option (σ ⊕ τ)} {s : σ} (h : f s = none) : loopO f s = none := by rw [loopO_eq, h]
theorem loop_foldE {α β σ τ : Type} (xs : List α) (f : σ → Option (σ ⊕ τ)) (mk : Nat → β → σ) (g : Nat → α → β → Option (β ⊕ τ)) (fin : β → τ)
    (hgo : ∀ i x b, xs[i]? = some x → f (mk i b) = mapL (mk (i + 1)) (g i x b)) (hend : ∀ b, f (mk xs.length b) = some (.inr (fin b))) (b0 : β) : loopO f (mk 0 b0) = foldE g fin 0 xs b0 := by
  have key : ∀ (m k : Nat) (b : β), k + m = xs.length → loopO f (mk k b) = foldE g fin k (xs.drop k) b := by
    intro m
    induction m with
    | zero =>
      intro k b hk
      have : k = xs.length := by omega
      subst this
      rw [loop_stop (hend b)]; simp [foldE]
    | succ m ih =>
      intro k b hk
      have hlt : k < xs.length := by omega
      have h1 := hgo k xs[k] b (List.getElem?_eq_getElem hlt)
      rw [List.drop_eq_getElem_cons hlt, foldE]
      cases hg : g k xs[k] b with
      | none => rw [hg] at h1; rw [loop_none h1]
      | some x =>
        rw [hg] at h1
        cases x with
        | inl b' => rw [loop_step h1]; exact ih (k + 1) b' (by omega)
        | inr r => rw [loop_stop h1]
  have := key xs.length 0 b0 (by omega)
  rwa [List.drop_zero] at this
/-- A loop over a list, with what holds on the way and at its end. -/
theorem loop_all {α β σ τ : Type} (xs : List α) (f : σ → Option (σ ⊕ τ)) (mk : Nat → β → σ) (I : Nat → β → Prop) (R : τ → Prop)
    (hgo : ∀ i x b, xs[i]? = some x → I i b → (∃ b', f (mk i b) = some (.inl (mk (i + 1) b')) ∧ I (i + 1) b') ∨ (∃ r, f (mk i b) = some (.inr r) ∧ R r))
    (hend : ∀ b, I xs.length b → ∃ r, f (mk xs.length b) = some (.inr r) ∧ R r) (b0 : β) (h0 : I 0 b0) : ∃ r, loopO f (mk 0 b0) = some r ∧ R r := by
  have key : ∀ (m k : Nat) (b : β), k + m = xs.length → I k b → ∃ r, loopO f (mk k b) = some r ∧ R r := by
    intro m
    induction m with
    | zero =>
      intro k b hk hb
      have : k = xs.length := by omega
      subst this
      obtain ⟨r, h1, h2⟩ := hend b hb
      exact ⟨r, loop_stop h1, h2⟩
    | succ m ih =>
      intro k b hk hb
      have hlt : k < xs.length := by omega
      rcases hgo k xs[k] b (List.getElem?_eq_getElem hlt) hb with ⟨b', h1, h2⟩ | ⟨r, h1, h2⟩
      · obtain ⟨r, h3, h4⟩ := ih (k + 1) b' (by omega) h2
        exact ⟨r, by rw [loop_step h1]; exact h3, h4⟩
      · exact ⟨r, loop_stop h1, h2⟩
  exact key xs.length 0 b0 (by omega) h0
theorem take_snoc {α : Type} {l : List α} {i : Nat} (h : i < l.length) : l.take (i + 1) = l.take i ++ [l[i]] := by rw [List.take_add_one, List.getElem?_eq_getElem h]; rfl
theorem getD_get {α : Type} [Inhabited α] {l : List α} {i : Nat} (h : i < l.length) : l.getD i default = l[i] := by rw [List.getD_eq_getElem?_getD, List.getElem?_eq_getElem h]; rfl
theorem neI {a b : Int} (h : a ≠ b) : (a != b) = true := by simpa using h
theorem eqI {a b : Int} (h : a = b) : (a != b) = false := by simpa using h
def fi {α : Type} (p : α → Bool) : List α → Option Nat
  | [] => none
  | x :: l => if p x = true then some 0 else (fi p l).map (· + 1)
theorem fi_some {α : Type} {p : α → Bool} : ∀ {l : List α} {i : Nat}, fi p l = some i → ∃ x, l[i]? = some x ∧ p x = true ∧ ∀ j y, j < i → l[j]? = some y → p y = false
  | [], i, h => by cases h
  | x :: l, i, h => by
    unfold fi at h
    by_cases hp : p x = true
    · rw [if_pos hp] at h; cases h
      exact ⟨x, rfl, hp, fun j y hj => by omega⟩
    · rw [if_neg hp] at h
      cases hf : fi p l with
      | none => rw [hf] at h; cases h
      | some k =>
        rw [hf] at h; cases h
        obtain ⟨y, h1, h2, h3⟩ := fi_some hf
        refine ⟨y, by simpa using h1, h2, fun j z hj hz => ?_⟩
        cases j with
        | zero => simp only [List.getElem?_cons_zero, Option.some.injEq] at hz; subst hz; simpa using hp
        | succ j => exact h3 j z (by have : j + 1 < k + 1 := hj; omega) (by simpa using hz)
theorem fi_none {α : Type} {p : α → Bool} : ∀ {l : List α}, fi p l = none ↔ ∀ x, x ∈ l → p x = false
  | [] => by simp [fi]
  | x :: l => by
    unfold fi
    by_cases hp : p x = true
    · rw [if_pos hp]
      exact ⟨(fun h => by cases h), fun h => by rw [h x (by simp)] at hp; cases hp⟩
    · rw [if_neg hp, Option.map_eq_none_iff, fi_none]
      constructor
      · intro h y hy
        rcases List.mem_cons.1 hy with rfl | hy
        · simpa using hp
        · exact h y hy
      · exact fun h y hy => h y (List.mem_cons_of_mem _ hy)
theorem idx_loop {α τ : Type} {l : List α} (p : α → Bool) (f : Int → Option (Int ⊕ (τ ⊕ Unit))) (val : Nat → τ)
    (hgo : ∀ (i : Nat) x, l[i]? = some x → f (i : Int) = if p x = true then some (.inr (.inl (val i))) else some (.inl ((i + 1 : Nat) : Int)))
    (hend : f (l.length : Int) = some (.inr (.inr ()))) : loopO f (0 : Int) = some (match fi p l with | some i => .inl (val i) | none => .inr ()) := by
  have key : ∀ m k, k + m = l.length → loopO f (k : Int) = some (match fi p (l.drop k) with | some i => .inl (val (i + k)) | none => .inr ()) := by
    intro m
    induction m with
    | zero =>
      intro k hk
      have : k = l.length := by omega
      subst this
      rw [loop_stop hend, List.drop_length]; rfl
    | succ m ih =>
      intro k hk
      have h1 : k < l.length := by omega
      have hb := hgo k _ (List.getElem?_eq_getElem h1)
      rw [List.drop_eq_getElem_cons h1]
      unfold fi
      by_cases hp : p l[k] = true
      · rw [if_pos hp] at hb
        rw [loop_stop hb, if_pos hp]
        show some (Sum.inl (val k)) = some (Sum.inl (val (0 + k)))
        rw [Nat.zero_add]
      · rw [if_neg hp] at hb
        rw [loop_step hb, ih (k + 1) (by omega), if_neg hp]
        cases fi p (l.drop (k + 1)) with
        | none => rfl
        | some i => show some (Sum.inl (val (i + (k + 1)))) = some (Sum.inl (val (i + 1 + k))); congr 3; omega
  have := key l.length 0 (by omega)
  rw [List.drop_zero] at this
  exact this

theorem pre_take (s p : Str) : Lib.hasPrefix s p = (s.take p.length == p) := by
  unfold Lib.hasPrefix
  rw [Bool.eq_iff_iff, List.isPrefixOf_iff_prefix, List.prefix_iff_eq_take, beq_iff_eq]
  exact ⟨fun h => h.symm, fun h => h.symm⟩
end Go.C
end
