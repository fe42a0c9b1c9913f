/- Plain laws of loops and of texts. No program in sight. -/
import Derived.Test.YtfkefolbabniaaaGreatDoorVz
import Derived.IntWalk
set_option linter.unusedVariables false
set_option linter.unusedSimpArgs false
namespace Go.C
open Go.V

theorem loop_step {σ τ : Type} {f : σ → Option (σ ⊕ τ)} {s x : σ} (h : f s = some (.inl x)) : loopO f s = loopO f x := by rw [loopO_eq, h]
theorem loop_stop {σ τ : Type} {f : σ → Option (σ ⊕ τ)} {s : σ} {r : τ} (h : f s = some (.inr r)) : loopO f s = some r := by rw [loopO_eq, h]

theorem loop_of {σ τ : Type} {f : σ → Option (σ ⊕ τ)} {s : σ} {r : τ} (k : Nat) (h : iter f k s = some r) : loopO f s = some r := loopO_iff.2 ⟨k, h⟩

/-- A loop over a list, that may be left early with one value. -/
theorem loop_list {α β σ τ : Type} (xs : List α) (f : σ → Option (σ ⊕ τ)) (mk : Nat → β → σ) (step : β → α → β) (p : Nat → Bool) (bad : τ) (r : β → τ) (I : Nat → β → Prop)
    (hI : ∀ i x b, I i b → xs[i]? = some x → I (i + 1) (step b x))
    (hgo : ∀ i x b, I i b → xs[i]? = some x → p i = true → f (mk i b) = some (.inl (mk (i + 1) (step b x))))
    (hbad : ∀ i x b, I i b → xs[i]? = some x → p i = false → f (mk i b) = some (.inr bad))
    (hend : ∀ b, I xs.length b → f (mk xs.length b) = some (.inr (r b))) (b0 : β) (h0 : I 0 b0) :
    loopO f (mk 0 b0) = some (if (List.range xs.length).all p = true then r (xs.foldl step b0) else bad) := by
  have key : ∀ (m k : Nat) (b : β), k + m = xs.length → I k b → loopO f (mk k b) = some (if (List.range' k m).all p = true then r ((xs.drop k).foldl step b) else bad) := by
    intro m
    induction m with
    | zero =>
      intro k b hk hb
      have : k = xs.length := by omega
      subst this
      rw [loop_stop (hend b hb)]
      simp
    | succ m ih =>
      intro k b hk hb
      have hlt : k < xs.length := by omega
      have hx : xs[k]? = some xs[k] := List.getElem?_eq_getElem hlt
      cases hp : p k with
      | true =>
        rw [loop_step (hgo k _ b hb hx hp), ih (k + 1) _ (by omega) (hI k _ b hb hx)]
        rw [List.drop_eq_getElem_cons hlt, List.foldl_cons, List.range'_succ, List.all_cons, hp, Bool.true_and]
      | false =>
        rw [loop_stop (hbad k _ b hb hx hp), List.range'_succ, List.all_cons, hp, Bool.false_and]
        simp
  have := key xs.length 0 b0 (by omega) h0
  rwa [← List.range_eq_range', List.drop_zero] at this

/-- A loop over a list that always goes to its end. -/
theorem loop_fold {α β σ τ : Type} (xs : List α) (f : σ → Option (σ ⊕ τ)) (mk : Nat → β → σ) (step : β → α → β) (r : β → τ) (I : Nat → β → Prop)
    (hI : ∀ i x b, I i b → xs[i]? = some x → I (i + 1) (step b x))
    (hgo : ∀ i x b, I i b → xs[i]? = some x → f (mk i b) = some (.inl (mk (i + 1) (step b x))))
    (hend : ∀ b, I xs.length b → f (mk xs.length b) = some (.inr (r b))) (b0 : β) (h0 : I 0 b0) :
    loopO f (mk 0 b0) = some (r (xs.foldl step b0)) := by
  have key : ∀ (m k : Nat) (b : β), k + m = xs.length → I k b → loopO f (mk k b) = some (r ((xs.drop k).foldl step b)) := by
    intro m
    induction m with
    | zero =>
      intro k b hk hb
      have : k = xs.length := by omega
      subst this
      rw [loop_stop (hend b hb)]
      simp
    | succ m ih =>
      intro k b hk hb
      have hlt : k < xs.length := by omega
      have hx : xs[k]? = some xs[k] := List.getElem?_eq_getElem hlt
      rw [loop_step (hgo k _ b hb hx), ih (k + 1) _ (by omega) (hI k _ b hb hx), List.drop_eq_getElem_cons hlt, List.foldl_cons]
  have := key xs.length 0 b0 (by omega) h0
  rwa [List.drop_zero] at this

theorem w64 {n : Int} (h : -9223372036854775808 ≤ n ∧ n ≤ 9223372036854775807) : IntKind.i64.wrap n = n := IntWalk.i64_in n h

theorem bl_total : ∀ a b : List UInt8, (Op.bytesLess a b || a == b) = !Op.bytesLess b a
  | [], [] => by simp [Op.bytesLess]
  | [], y :: b => by simp [Op.bytesLess]
  | x :: a, [] => by simp [Op.bytesLess]
  | x :: a, y :: b => by
    have ih := bl_total a b
    simp only [Op.bytesLess]
    by_cases h1 : x < y
    · have h2 : ¬ y < x := fun h => absurd (UInt8.lt_trans h1 h) (UInt8.lt_irrefl x)
      have h3 : x ≠ y := fun h => by subst h; exact UInt8.lt_irrefl x h1
      simp [h1, h2, h3, Ne.symm h3]
    · by_cases h2 : y < x
      · have h3 : x ≠ y := fun h => by subst h; exact UInt8.lt_irrefl x h2
        simp [h1, h2, h3, Ne.symm h3]
      · have h3 : x = y := UInt8.le_antisymm (UInt8.not_lt.1 h2) (UInt8.not_lt.1 h1)
        subst h3
        simp [ih]

/-- A letter; a word. -/
def isL (b : UInt8) : Bool := decide (97 ≤ b.toNat) && decide (b.toNat ≤ 122)
def isW (s : List UInt8) : Bool := decide (1 ≤ s.length) && (decide (s.length ≤ 12) && (List.range s.length).all fun i => isL (s.getD i 0))

theorem rune_low (s : List UInt8) (p : Nat) (h : p < s.length) (hb : (s.getD p 0).toNat < 128) : runeI s p = ((s.getD p 0).toNat : Int) ∧ runeW s p = 1 := by
  have hs : p < (⟨⟨s⟩⟩ : ByteArray).size := h
  have e : (⟨⟨s⟩⟩ : ByteArray)[p]'hs = s.getD p 0 := by
    show s[p] = _
    simp [List.getD_eq_getElem?_getD, List.getElem?_eq_getElem h]
  have := decode_ascii ⟨⟨s⟩⟩ p hs (by rw [e]; exact hb)
  unfold runeI runeW
  rw [this, e]
  exact ⟨rfl, rfl⟩
theorem rune_high (s : List UInt8) (p : Nat) (h : p < s.length) (hb : 128 ≤ (s.getD p 0).toNat) : 128 ≤ runeI s p := by
  have hs : p < (⟨⟨s⟩⟩ : ByteArray).size := h
  have e : (⟨⟨s⟩⟩ : ByteArray)[p]'hs = s.getD p 0 := by
    show s[p] = _
    simp [List.getD_eq_getElem?_getD, List.getElem?_eq_getElem h]
  have := (decode_high ⟨⟨s⟩⟩ p hs (by rw [e]; exact hb)).1
  unfold runeI
  omega

theorem rng_f {a lo hi : Int} (h : lo ≤ a ∧ a ≤ hi) : ¬ ((bif (decide (a < lo)) then true else (decide (hi < a))) = true) := by
  have e1 : ¬ a < lo := by omega
  have e2 : ¬ hi < a := by omega
  simp [e1, e2]
theorem rng_t {a lo hi : Int} (h : a < lo ∨ hi < a) : (bif (decide (a < lo)) then true else (decide (hi < a))) = true := by
  rcases h with h | h
  · simp [h]
  · simp [h]

end Go.C
