/- Packed by pack.py. -/
import Derived.Test.YtfkefolbabniaaaGreatDoorQx7
import Derived.Test.YtfkefolbabniaaaGreatDoorQx3
import Derived.Test.YtfkefolbabniaaaGreatDoorQx2
import Derived.Lib.SplitLaws
import Derived.Lib.IndexLaws
import Derived.Lib.AtoiAllCases
section
set_option linter.unusedVariables false
set_option linter.unusedSimpArgs false
namespace Go.C
open Go.V
theorem isL_iff (b : UInt8) : isL b = true ↔ 97 ≤ b.toNat ∧ b.toNat ≤ 122 := by simp [isL]
theorem isL_not (b : UInt8) : isL b = false ↔ b.toNat < 97 ∨ 122 < b.toNat := by
 rw [← Bool.not_eq_true, isL_iff]; omega
theorem lt_of_get {α : Type} {xs : List α} {i : Nat} {x : α} (h : xs[i]? = some x) : i < xs.length := (List.getElem?_eq_some_iff.1 h).1
theorem getD_of {α : Type} {xs : List α} {i : Nat} {x d : α} (h : xs[i]? = some x) : xs.getD i d = x := by rw [List.getD_eq_getElem?_getD, h]; rfl
theorem range_all {α : Type} (q : α → Bool) (d : α) : ∀ xs : List α, ((List.range xs.length).all fun i => q (xs.getD i d)) = xs.all q := by
 intro xs
 rw [Bool.eq_iff_iff, List.all_eq_true, List.all_eq_true]
 constructor
 ·intro h x hx
  obtain ⟨i, hi, rfl⟩ := List.getElem_of_mem hx
  have := h i (List.mem_range.2 hi)
  rwa [List.getD_eq_getElem?_getD, List.getElem?_eq_getElem hi] at this
 ·intro h i hi
  have hi := List.mem_range.1 hi
  rw [List.getD_eq_getElem?_getD, List.getElem?_eq_getElem hi]
  exact h _ (List.getElem_mem hi)
theorem isWord_eq (s : Str) : isWord s = some (isW s) := by
 unfold isWord isW
 by_cases h1 : 1 ≤ s.length
 ·by_cases h2 : s.length ≤ 12
  ·have hc : (bif (decide ((s.length : Int) < (1 : Int))) then true else (decide ((12 : Int) < (s.length : Int)))) = false := by
    have e1 : ¬ ((s.length : Int) < 1) := by omega
    have e2 : ¬ ((12 : Int) < (s.length : Int)) := by omega
    simp [e1, e2]
   rw [if_neg (by rw [hc]; simp)]
   have hgo : ∀ (i : Nat) (x : UInt8) (b : Unit), True → s[i]? = some x → isL (s.getD i 0) = true → isWord_b1 s i = some (.inl (i + 1)) := fun i x b _ hx hp => by
    have hlt := lt_of_get hx
    have hp := (isL_iff _).1 hp
    obtain ⟨r1, r2⟩ := rune_low s i hlt (by omega)
    unfold isWord_b1
    rw [if_pos hlt, if_neg (rng_f (by rw [r1]; omega)), r2]
   have hbad : ∀ (i : Nat) (x : UInt8) (b : Unit), True → s[i]? = some x → isL (s.getD i 0) = false → isWord_b1 s i = some (.inr (.inl false)) := fun i x b _ hx hp => by
    have hlt := lt_of_get hx
    have hp := (isL_not _).1 hp
    have hr : runeI s i < 97 ∨ 122 < runeI s i := by
     by_cases hb : (s.getD i 0).toNat < 128
     ·obtain ⟨r1, r2⟩ := rune_low s i hlt hb
      rw [r1]; omega
     ·have := rune_high s i hlt (by omega)
      omega
    unfold isWord_b1
    rw [if_pos hlt, if_pos (rng_t hr)]
   have hend : ∀ b : Unit, True → isWord_b1 s s.length = some (.inr (.inr ())) := fun b _ => by
    unfold isWord_b1
    rw [if_neg (by omega)]
   have := loop_list (β := Unit) s (isWord_b1 s) (fun i _ => i) (fun _ _ => ()) (fun i => isL (s.getD i 0)) (.inl false) (fun _ => .inr ()) (fun _ _ => True) (fun _ _ _ _ _ => trivial) hgo hbad hend () trivial
   rw [this]
   by_cases hall : ((List.range s.length).all fun i => isL (s.getD i 0)) = true
   ·rw [if_pos hall]; simp only [Option.bind_some, isWord_j1, hall, h1, h2]; rfl
   ·rw [if_neg hall]; simp only [Option.bind_some, Bool.not_eq_true] at hall ⊢; rw [hall]; simp
  ·have hc : (bif (decide ((s.length : Int) < (1 : Int))) then true else (decide ((12 : Int) < (s.length : Int)))) = true := by
    have e2 : ((12 : Int) < (s.length : Int)) := by omega
    simp [e2]
   rw [if_pos hc]; simp [h2]
 ·have hc : (bif (decide ((s.length : Int) < (1 : Int))) then true else (decide ((12 : Int) < (s.length : Int)))) = true := by
   have e2 : ((s.length : Int) < 1) := by omega
   simp [e2]
  rw [if_pos hc]; simp [h1]
/-- The word at this place is a word, and behind the one ahead of it. -/
def wp (l : List Str) (i : Nat) : Bool := isW (l.getD i default) && (decide (i = 0) || Op.bytesLess (l.getD (i - 1) default) (l.getD i default))
def wordsOk (l : List Str) : Bool := decide (l.length ≤ 8) && (List.range l.length).all (wp l)
def some1 (l : List Str) : Bool := decide (l ≠ []) && wordsOk l
theorem wp_cond {l : List Str} {i : Nat} : (bif (!isW (l.getD i default)) then true else (bif (decide ((0 : Int) < (i : Int))) then (!Op.bytesLess (l.getD (i - 1) default) (l.getD i default)) else false)) = !wp l i := by
 unfold wp
 by_cases h0 : i = 0
 ·subst h0; cases isW (l.getD 0 default) <;> simp
 ·have e : ((0 : Int) < (i : Int)) := by omega
  simp only [e, h0, decide_true, decide_false, cond_true, Bool.false_or]
  cases isW (l.getD i default) <;> simp
theorem pre_nat {i : Nat} (h : i ≤ 9223372036854775807) (h0 : 0 < i) : (IntKind.i64.wrap ((i : Int) - (1 : Int))).toNat = i - 1 := by
 rw [w64 (by omega)]; omega
theorem validWords_eq (l : List Str) : validWords l = some (wordsOk l) := by
 unfold validWords wordsOk
 by_cases h8 : l.length ≤ 8
 ·rw [if_neg (by simp; omega)]
  have step : ∀ (i : Nat) (x : Str), l[i]? = some x → validWords_b1 l (i : Int) = if (!wp l i) = true then some (.inr (.inl false)) else some (.inl ((i + 1 : Nat) : Int)) := fun i x hx => by
   have hlt := lt_of_get hx
   unfold validWords_b1
   rw [if_pos (by simp; omega), if_pos (by omega), Int.toNat_natCast, hx, Option.bind_some, isWord_eq, Option.bind_some]
   rw [if_pos (fun h => by
    have : (0 : Int) < (i : Int) := by simp at h; omega
    rw [w64 (by omega)]; omega)]
   rw [← wp_cond, getD_of hx, bl_total, w64 (n := (i : Int) + 1) (by omega)]
   by_cases h0 : i = 0
   ·subst h0; rfl
   ·rw [pre_nat (by omega) (by omega)]; rfl
  have hgo : ∀ (i : Nat) (x : Str) (b : Unit), True → l[i]? = some x → wp l i = true → validWords_b1 l (i : Int) = some (.inl ((i + 1 : Nat) : Int)) := fun i x b _ hx hp => by rw [step i x hx, hp]; rfl
  have hbad : ∀ (i : Nat) (x : Str) (b : Unit), True → l[i]? = some x → wp l i = false → validWords_b1 l (i : Int) = some (.inr (.inl false)) := fun i x b _ hx hp => by rw [step i x hx, hp]; rfl
  have hend : ∀ b : Unit, True → validWords_b1 l (l.length : Int) = some (.inr (.inr ())) := fun b _ => by
   unfold validWords_b1
   rw [if_neg (by simp)]
  have := loop_list (β := Unit) l (validWords_b1 l) (fun i _ => (i : Int)) (fun _ _ => ()) (wp l) (.inl false) (fun _ => .inr ()) (fun _ _ => True) (fun _ _ _ _ _ => trivial) hgo hbad hend () trivial
  rw [show ((0 : Int) = ((0 : Nat) : Int)) from rfl, this]
  simp only [h8, decide_true, Bool.true_and]
  by_cases hall : ((List.range l.length).all (wp l)) = true
  ·rw [if_pos hall, hall]; rfl
  ·rw [if_neg hall]; simp only [Option.bind_some, Bool.not_eq_true] at hall ⊢; rw [hall]
 ·rw [if_pos (by simp; omega)]; simp [h8]
end Go.C
end

section
set_option linter.unusedVariables false
set_option linter.unusedSimpArgs false
namespace Go.C
open Go.V
theorem within_eq {x n : Int} (hn : 0 < n) (hn2 : n ≤ 4611686018427387904) : within x n = some (x % n) := by
 unfold within
 rw [if_pos (by omega), if_pos (by omega)]
 congr 1
 have h1 : -n < x.tmod n ∧ x.tmod n < n := ⟨by have := Int.lt_tmod_of_pos x hn; omega, Int.tmod_lt_of_pos x hn⟩
 rw [IntWalk.i64_in _ (by omega), Int.tmod_eq_emod_of_nonneg (by omega), Int.add_emod_right]
 rw [Int.tmod_eq_emod]
 split
 ·simp
 ·have : ((n.natAbs : Nat) : Int) = n := by omega
  rw [this, Int.sub_emod_right]
  exact Int.emod_emod_of_dvd x (Int.dvd_refl n)
/-- A source in order. -/
def SOk (s : CustomsmadeSource) : Prop := 0 ≤ s.I ∧ s.I ≤ s.L.length ∧ s.L.length ≤ 1000
theorem next_ok {s : CustomsmadeSource} {n : Int} (hs : SOk s) (hn : 0 < n) (hn2 : n ≤ 4611686018427387904) : ∃ r s', srcNext s n = some (r, s') ∧ 0 ≤ r ∧ r < n ∧ SOk s' := by
 obtain ⟨h0, h1, h2⟩ := hs
 unfold srcNext
 split
 ·exact ⟨0, s, rfl, by omega, by omega, h0, h1, h2⟩
 ·rename_i c
  simp at c
  have e : IntKind.i64.wrap (IntKind.i64.wrap (s.I + 1) - 1) = s.I := by
   rw [IntWalk.i64_in (s.I + 1) (by omega), IntWalk.i64_in _ (by omega)]; omega
  rw [e, if_pos h0]
  have hlt : s.I.toNat < s.L.length := by omega
  rw [List.getElem?_eq_getElem hlt]
  simp only [Option.bind_some, within_eq hn hn2]
  refine ⟨_, _, rfl, Int.emod_nonneg _ (by omega), Int.emod_lt_of_pos _ hn, ?_⟩
  refine ⟨?_, ?_, h2⟩ <;> simp only <;> rw [IntWalk.i64_in (s.I + 1) (by omega)] <;> omega
theorem cut_ok (l : List Int) (n : Nat) (hn : n ≤ 1000) : ∃ v, madeCut l (n : Int) = some v ∧ v.length ≤ n := by
 unfold madeCut
 split
 ·rename_i c
  simp only [decide_eq_true_eq] at c
  rw [if_pos (by omega)]
  exact ⟨_, rfl, by simp; omega⟩
 ·rename_i c
  simp only [decide_eq_true_eq] at c
  exact ⟨_, rfl, by omega⟩
/-- A loop whose end is known to come. -/
theorem loop_inv {σ τ : Type} {f : σ → Option (σ ⊕ τ)} (I : Nat → σ → Prop) (R : τ → Prop)
    (hstep : ∀ n s, I n s → (∃ s' m, m < n ∧ f s = some (.inl s') ∧ I m s') ∨ (∃ r, f s = some (.inr r) ∧ R r)) : ∀ n s, I n s → ∃ r, loopO f s = some r ∧ R r := by
  intro n
  induction n using Nat.strongRecOn with
  | ind n ih =>
    intro s h
    rcases hstep n s h with ⟨s', m, hm, h1, h2⟩ | ⟨r, h1, h2⟩
    · obtain ⟨r, h3, h4⟩ := ih m hm s' h2
      exact ⟨r, by rw [loop_step h1]; exact h3, h4⟩
    · exact ⟨r, loop_stop h1, h2⟩
def vocab : List Str := [([99, 104, 97, 105, 114] : Str), ([100, 101, 115, 107] : Str), ([103, 108, 97, 115, 115] : Str), ([108, 97, 109, 112] : Str), ([111, 102, 102, 105, 99, 101] : Str), ([112, 97, 114, 116, 115] : Str), ([115, 101, 97, 116] : Str), ([115, 116, 101, 101, 108] : Str), ([119, 111, 111, 100] : Str)]
/-- Words in ascending order. -/
def Asc (l : List Str) : Prop := l.Pairwise (fun a b => Op.bytesLess a b = true) ∧ ∀ x, x ∈ l → isW x = true
theorem asc_vocab : Asc vocab := ⟨by decide, by decide⟩
theorem Asc.sub {l m : List Str} (h : Asc m) (hs : l.Sublist m) : Asc l := ⟨h.1.sublist hs, fun x hx => h.2 x (hs.mem hx)⟩
theorem Asc.wp {l : List Str} (h : Asc l) : (List.range l.length).all (wp l) = true := by
 rw [List.all_eq_true]
 intro i hi
 have hi := List.mem_range.1 hi
 have e : l.getD i default = l[i] := by rw [List.getD_eq_getElem?_getD, List.getElem?_eq_getElem hi]; rfl
 unfold C.wp
 rw [e, h.2 _ (List.getElem_mem hi), Bool.true_and]
 by_cases h0 : i = 0
 ·simp [h0]
 ·have e2 : l.getD (i - 1) default = l[i - 1] := by rw [List.getD_eq_getElem?_getD, List.getElem?_eq_getElem (by omega)]; rfl
  rw [e2, List.pairwise_iff_getElem.1 h.1 (i - 1) i (by omega) hi (by omega)]
  simp
theorem Asc.some1 {l : List Str} (h : Asc l) (hn : l ≠ []) (h8 : l.length ≤ 8) : some1 l = true := by
 unfold C.some1 wordsOk
 simp [hn, h8, h.wp]
theorem sub_snoc {α : Type} {l m : List α} (k : Nat) (h : l.Sublist (m.take k)) (hk : k < m.length) : (l ++ [m[k]]).Sublist (m.take (k + 1)) ∧ l.Sublist (m.take (k + 1)) := by
 rw [List.take_add_one, List.getElem?_eq_getElem hk]
 exact ⟨h.append (List.Sublist.refl _), h.trans (List.sublist_append_left _ _)⟩
theorem words_ok {s : CustomsmadeSource} (hs : SOk s) (most : Nat) (h1 : 1 ≤ most) (h2 : most ≤ 8) : ∃ l s', srcWords s (most : Int) = some (l, s') ∧ Asc l ∧ l ≠ [] ∧ l.length ≤ most ∧ SOk s' := by
 unfold srcWords
 have hv : vocabulary = some vocab := rfl
 rw [hv, Option.bind_some]
 obtain ⟨r1, s1, e1, b1, b2, k1⟩ := next_ok (n := 512) hs (by omega) (by omega)
 rw [e1, Option.bind_some]
 have hlen : vocab.length = 9 := rfl
 obtain ⟨out, eo, ho1, ho2⟩ := loop_inv (f := srcWords_b1 (most : Int) vocab (r1, s1)) (fun n x => ∃ k : Nat, n = 9 - k ∧ k ≤ 9 ∧ x.1 = (k : Int) ∧ x.2.Sublist (vocab.take k) ∧ x.2.length ≤ most) (fun r => r.Sublist vocab ∧ r.length ≤ most) (by
  rintro n ⟨i, out⟩ ⟨k, rfl, hk, hi, hsub, hl⟩
  simp only at hi hsub hl
  subst hi
  unfold srcWords_b1
  dsimp only
  by_cases hc : k < 9 ∧ out.length < most
  ·refine .inl ?_
   have hkl : k < vocab.length := by omega
   rw [if_pos (by
    have e1 : ((k : Int) < (vocab.length : Int)) := by omega
    have e2 : ((out.length : Int) < (most : Int)) := by omega
    simp only [e1, e2, decide_true, cond_true]), if_pos (by omega)]
   obtain ⟨q1, q2⟩ := sub_snoc k hsub hkl
   split
   ·rw [if_pos (by omega), Int.toNat_natCast, List.getElem?_eq_getElem hkl, Option.bind_some, if_pos (by simp; omega)]
    unfold srcWords_j3
    rw [w64 (n := (k : Int) + 1) (by omega)]
    exact ⟨_, 9 - (k + 1), by omega, rfl, k + 1, rfl, by omega, rfl, q1, by simp; omega⟩
   ·unfold srcWords_j3
    rw [w64 (n := (k : Int) + 1) (by omega)]
    exact ⟨_, 9 - (k + 1), by omega, rfl, k + 1, rfl, by omega, rfl, q2, hl⟩
  ·refine .inr ?_
   rw [if_neg (by
    by_cases e1 : ((k : Int) < (vocab.length : Int))
    ·have e2 : ¬ ((out.length : Int) < (most : Int)) := by omega
     simp [e2]
    ·simp [e1])]
   exact ⟨_, rfl, hsub.trans (List.take_sublist _ _), hl⟩) 9 ((0 : Int), []) ⟨0, rfl, by omega, rfl, by simp, by simp⟩
 rw [eo, Option.bind_some]
 unfold srcWords_j1 srcWords_j2
 dsimp only
 by_cases hn : out = []
 ·subst hn
  have ht : (r1.tmod (vocab.length : Int)) = r1 % 9 := by rw [Int.tmod_eq_emod_of_nonneg b1]; rfl
  rw [if_pos (by rfl), if_pos (by decide), ht, if_pos (by omega)]
  have hlt : (r1 % 9).toNat < vocab.length := by omega
  rw [List.getElem?_eq_getElem hlt, Option.bind_some]
  exact ⟨_, _, rfl, asc_vocab.sub (List.singleton_sublist.2 (List.getElem_mem hlt)), by simp, by simp; omega, k1⟩
 ·have : (((out.length : Int)) == 0) = false := by
   have : out.length ≠ 0 := fun h => hn (List.eq_nil_of_length_eq_zero h)
   simp only [beq_eq_false_iff_ne, ne_eq]; omega
  rw [if_neg (by rw [this]; simp)]
  exact ⟨_, _, rfl, asc_vocab.sub ho1, hn, ho2, k1⟩
/-- Shares that add up. -/
structure ShOk (l : List Int) : Prop where
  rng : ∀ x, x ∈ l → 1 ≤ x ∧ x ≤ 1000000
  sum : l.sum = 1000000
theorem shares_ok {s : CustomsmadeSource} (hs : SOk s) (n : Nat) (h1 : 1 ≤ n) (h2 : n ≤ 8) : ∃ l s', srcShares s (n : Int) = some (l, s') ∧ l.length = n ∧ ShOk l ∧ SOk s' := by
 unfold srcShares
 obtain ⟨⟨left, out, cL, cI⟩, eo, ho1, ho2, ho3, ho4, ho5⟩ := loop_inv (f := srcShares_b1 (n : Int)) (fun m x => ∃ k : Nat, m = n - k ∧ 1 ≤ k ∧ k ≤ n ∧ x.1 = (k : Int) ∧ x.2.2.1.length = k - 1 ∧ (∀ y, y ∈ x.2.2.1 → 1 ≤ y ∧ y ≤ 1000000) ∧ x.2.2.1.sum + x.2.1 = 1000000 ∧ ((n : Int) - k + 1 ≤ x.2.1 ∧ x.2.1 ≤ 1000000) ∧ SOk ⟨x.2.2.2.1, x.2.2.2.2⟩)
  (fun r => r.2.1.length = n - 1 ∧ (∀ y, y ∈ r.2.1 → 1 ≤ y ∧ y ≤ 1000000) ∧ r.2.1.sum + r.1 = 1000000 ∧ (1 ≤ r.1 ∧ r.1 ≤ 1000000) ∧ SOk ⟨r.2.2.1, r.2.2.2⟩) (by
  rintro m ⟨i, left, out, cL, cI⟩ ⟨k, rfl, hk1, hk2, hi, hl, hr, hsum, hle, hso⟩
  simp only at hi hl hr hsum hle hso
  subst hi
  unfold srcShares_b1
  dsimp only
  by_cases hc : k < n
  ·refine .inl ?_
   rw [if_pos (by simp only [decide_eq_true_eq]; omega)]
   obtain ⟨r1, s1, e1, b1, b2, k1⟩ := next_ok (n := 4) hso (by omega) (by omega)
   rw [e1, Option.bind_some]
   obtain ⟨r2, s2, e2, b3, b4, k2⟩ := next_ok (n := 2) k1 (by omega) (by omega)
   dsimp only
   rw [e2, Option.bind_some]
   dsimp only
   have fin : ∀ (x : Int) (L : List Int) (I : Int), 1 ≤ x → x ≤ 1000000 → SOk ⟨L, I⟩ → ∃ s' m, m < n - k ∧ srcShares_j2 (n : Int) (k : Int) left x out L I = some (.inl s') ∧ (∃ k' : Nat, m = n - k' ∧ 1 ≤ k' ∧ k' ≤ n ∧ s'.1 = (k' : Int) ∧ s'.2.2.1.length = k' - 1 ∧ (∀ y, y ∈ s'.2.2.1 → 1 ≤ y ∧ y ≤ 1000000) ∧ s'.2.2.1.sum + s'.2.1 = 1000000 ∧ ((n : Int) - k' + 1 ≤ s'.2.1 ∧ s'.2.1 ≤ 1000000) ∧ SOk ⟨s'.2.2.2.1, s'.2.2.2.2⟩) := by
    intro x L I hx1 hx2 hLI
    unfold srcShares_j2
    rw [w64 (n := (n : Int) - (k : Int)) (by omega), w64 (n := left - ((n : Int) - (k : Int))) (by omega)]
    have hz : ∃ z : Int, (if left - ((n : Int) - (k : Int)) < x then left - ((n : Int) - (k : Int)) else x) = z ∧ 1 ≤ z ∧ z ≤ 1000000 ∧ z ≤ left - ((n : Int) - (k : Int)) := by
     split
     ·exact ⟨_, rfl, by omega, by omega, by omega⟩
     ·exact ⟨_, rfl, by omega, by omega, by omega⟩
    obtain ⟨z, hz0, hz1, hz2, hz3⟩ := hz
    rw [hz0, if_pos (by simp; omega), w64 (n := left - z) (by omega), w64 (n := (k : Int) + 1) (by omega)]
    refine ⟨_, n - (k + 1), by omega, rfl, k + 1, rfl, by omega, by omega, rfl, by simp; omega, fun y hy => ?_, by simp; omega, by simp only; omega, hLI⟩
    rcases List.mem_append.1 hy with h | h
    ·exact hr y h
    ·simp at h; subst h; exact ⟨hz1, hz2⟩
   split
   ·rw [if_pos (by omega)]
    have hdiv : (1000000 : Int).tdiv (n : Int) = 1000000 / (n : Int) := Int.tdiv_eq_ediv_of_nonneg (by omega)
    have hd1 : 1 ≤ (1000000 : Int) / (n : Int) := (Int.le_ediv_iff_mul_le (by omega)).2 (by omega)
    have hd2 : (1000000 : Int) / (n : Int) ≤ 1000000 := Int.ediv_le_self _ (by omega)
    rw [hdiv, w64 (n := 1000000 / (n : Int)) (by omega)]
    obtain ⟨r3, s3, e3, b5, b6, k3⟩ := next_ok (n := 1000000 / (n : Int)) k2 (by omega) (by omega)
    rw [e3, Option.bind_some]
    dsimp only
    rw [w64 (n := 1 + r3) (by omega)]
    exact fin _ _ _ (by omega) (by omega) k3
   ·rw [w64 (n := r1 * 100000) (by omega), w64 (n := 1 + r1 * 100000) (by omega)]
    exact fin _ _ _ (by omega) (by omega) k2
  ·refine .inr ?_
   have : k = n := by omega
   subst this
   rw [if_neg (by simp)]
   exact ⟨_, rfl, hl, hr, hsum, by simp only; omega, hso⟩) (n - 1) ((1 : Int), (1000000 : Int), [], s.L, s.I) ⟨1, rfl, by omega, by omega, rfl, rfl, fun y hy => by simp at hy, by simp, by simp only; omega, hs⟩
 rw [eo, Option.bind_some]
 simp only at ho1 ho2 ho3 ho4 ho5
 unfold srcShares_j1
 dsimp only
 rw [if_pos (by simp; omega)]
 refine ⟨_, _, rfl, by simp; omega, ⟨fun y hy => ?_, by simp; omega⟩, ho5⟩
 rcases List.mem_append.1 hy with h | h
 ·exact ho2 y h
 ·simp at h; subst h; exact ho4
end Go.C
end

section
set_option linter.unusedVariables false
set_option linter.unusedSimpArgs false
namespace Go.C
open Go.V
open Go.Lib (decDigits)
/-- Digits alone. -/
def IsDig (l : Str) : Prop := ∀ c, c ∈ l → 48 ≤ c.toNat ∧ c.toNat ≤ 57
theorem IsDig.append {l r : Str} (h : IsDig l) (k : IsDig r) : IsDig (l ++ r) := fun c hc => by
 rcases List.mem_append.1 hc with hc | hc
 ·exact h c hc
 ·exact k c hc
theorem join_cons2 (x y : Str) (r : List Str) (sep : Str) : Lib.join (x :: y :: r) sep = x ++ sep ++ Lib.join (y :: r) sep := by
 rw [Lib.join_cons, Lib.join_cons]
 simp [Lib.joinTail]
theorem join_len (l : List Str) (sep : Str) : (Lib.join l sep).length ≤ sep.length * l.length + Lib.lens l := by
 cases l with
 | nil => simp [Lib.join_nil]
 | cons x r =>
  rw [Lib.join_cons, List.length_append, Lib.joinTail_length]
  simp only [Lib.lens, List.map_cons, List.sum_cons, List.length_cons, Nat.mul_succ]
  omega
theorem lens_le {l : List Str} {k : Nat} (h : ∀ x, x ∈ l → x.length ≤ k) : Lib.lens l ≤ k * l.length := by
 induction l with
 | nil => simp [Lib.lens]
 | cons x r ih =>
  have h1 := h x (by simp)
  have h2 := ih (fun y hy => h y (by simp [hy]))
  simp only [Lib.lens, List.map_cons, List.sum_cons, List.length_cons, Nat.mul_succ] at h2 ⊢
  omega
/-- A loop whose states are known one by one. -/
theorem loop_seq {σ τ : Type} {f : σ → Option (σ ⊕ τ)} (n : Nat) (s : Nat → σ) (r : τ) (hgo : ∀ i, i < n → f (s i) = some (.inl (s (i + 1)))) (hend : f (s n) = some (.inr r)) : loopO f (s 0) = some r := by
  have key : ∀ m k, k + m = n → loopO f (s k) = some r := by
    intro m
    induction m with
    | zero => intro k hk; have : k = n := by omega
              subst this; exact loop_stop hend
    | succ m ih => intro k hk; rw [loop_step (hgo k (by omega))]; exact ih (k + 1) (by omega)
  exact key n 0 (by omega)
/-- A loop over a list, with what holds on the way and at its end. -/
theorem loop_all {α β σ τ : Type} (xs : List α) (f : σ → Option (σ ⊕ τ)) (mk : Nat → β → σ) (I : Nat → β → Prop) (R : τ → Prop)
    (hgo : ∀ i x b, xs[i]? = some x → I i b → (∃ b', f (mk i b) = some (.inl (mk (i + 1) b')) ∧ I (i + 1) b') ∨ (∃ r, f (mk i b) = some (.inr r) ∧ R r))
    (hend : ∀ b, I xs.length b → ∃ r, f (mk xs.length b) = some (.inr r) ∧ R r) (b0 : β) (h0 : I 0 b0) : ∃ r, loopO f (mk 0 b0) = some r ∧ R r := by
  have key : ∀ (m k : Nat) (b : β), k + m = xs.length → I k b → ∃ r, loopO f (mk k b) = some r ∧ R r := by
    intro m
    induction m with
    | zero =>
      intro k b hk hb
      have : k = xs.length := by omega
      subst this
      obtain ⟨r, h1, h2⟩ := hend b hb
      exact ⟨r, loop_stop h1, h2⟩
    | succ m ih =>
      intro k b hk hb
      have hlt : k < xs.length := by omega
      rcases hgo k xs[k] b (List.getElem?_eq_getElem hlt) hb with ⟨b', h1, h2⟩ | ⟨r, h1, h2⟩
      · obtain ⟨r, h3, h4⟩ := ih (k + 1) b' (by omega) h2
        exact ⟨r, by rw [loop_step h1]; exact h3, h4⟩
      · exact ⟨r, loop_stop h1, h2⟩
  exact key xs.length 0 b0 (by omega) h0
end Go.C
end

section
set_option linter.unusedVariables false
set_option linter.unusedSimpArgs false
namespace Go.C
open Go.V
def ferr : Nat → (Nat → Int) → Int
 | 0, _ => 0
 | n + 1, f => if ferr n f = 0 then f n else ferr n f
theorem ferr_zero {f : Nat → Int} : ∀ {n : Nat}, ferr n f = 0 ↔ ∀ i, i < n → f i = 0
 | 0 => by simp [ferr]
 | n + 1 => by
  have ih := ferr_zero (f := f) (n := n)
  unfold ferr
  constructor
  ·intro h i hi
   by_cases h0 : ferr n f = 0
   ·rw [if_pos h0] at h
    by_cases e : i = n
    ·subst e; exact h
    ·exact ih.1 h0 i (by omega)
   ·rw [if_neg h0] at h; exact absurd h h0
  ·intro h
   rw [if_pos (ih.2 fun i hi => h i (by omega))]
   exact h n (by omega)
theorem ferr_first {f : Nat → Int} : ∀ {n k : Nat}, k < n → (∀ i, i < k → f i = 0) → f k ≠ 0 → ferr n f = f k
 | 0, k, h, _, _ => by omega
 | n + 1, k, h, h0, hk => by
  unfold ferr
  by_cases e : k = n
  ·subst e; rw [if_pos (ferr_zero.2 h0)]
  ·have := ferr_first (f := f) (n := n) (k := k) (by omega) h0 hk
   rw [if_neg (by rw [this]; exact hk), this]
/-- A loop that is left at the first error. -/
theorem loop_err {α : Type} (xs : List α) (body : Int → Option (Int ⊕ (Int ⊕ Unit))) (f : Nat → Int)
    (hstep : ∀ i x, xs[i]? = some x → (∀ j, j < i → f j = 0) → body (i : Int) = if f i = 0 then some (.inl ((i + 1 : Nat) : Int)) else some (.inr (.inl (f i)))) (hend : body (xs.length : Int) = some (.inr (.inr ()))) :
    loopO body (0 : Int) = some (if ferr xs.length f = 0 then .inr () else .inl (ferr xs.length f)) := by
  have key : ∀ m k : Nat, k + m = xs.length → (∀ j, j < k → f j = 0) → loopO body (k : Int) = some (if ferr xs.length f = 0 then .inr () else .inl (ferr xs.length f)) := by
    intro m
    induction m with
    | zero =>
      intro k hk h0
      have : k = xs.length := by omega
      subst this
      rw [loop_stop hend, if_pos (ferr_zero.2 h0)]
    | succ m ih =>
      intro k hk h0
      have hlt : k < xs.length := by omega
      have hs := hstep k _ (List.getElem?_eq_getElem hlt) h0
      by_cases hf : f k = 0
      · rw [if_pos hf] at hs
        rw [loop_step hs]
        exact ih (k + 1) (by omega) (fun j hj => by
          by_cases e : j = k
          · subst e; exact hf
          · exact h0 j (by omega))
      · rw [if_neg hf] at hs
        rw [loop_stop hs, ferr_first hlt h0 hf, if_neg hf]
  exact key xs.length 0 (by omega) (fun j hj => by omega)
def isD (b : UInt8) : Bool := decide (48 ≤ b.toNat) && decide (b.toNat ≤ 57)
abbrev digs : Str := [48, 49, 50, 51, 52, 53, 54, 55, 56, 57]
theorem digs_eq (b : UInt8) : digs.contains b = isD b := by
 have h : ∀ n : Fin 256, digs.contains (UInt8.ofNat n.val) = isD (UInt8.ofNat n.val) := by decide +kernel
 have := h ⟨b.toNat, b.toNat_lt⟩
 simpa using this
theorem mem_dropWhile {α : Type} {p : α → Bool} {x : α} : ∀ {l : List α}, x ∈ l → p x = false → x ∈ l.dropWhile p
 | [], h, _ => by cases h
 | y :: l, h, hp => by
  rw [List.dropWhile_cons]
  split
  ·rename_i hy
   rcases List.mem_cons.1 h with rfl | h
   ·rw [hp] at hy; cases hy
   ·exact mem_dropWhile h hp
  ·exact h
theorem dropWhile_nil {α : Type} {p : α → Bool} : ∀ {l : List α}, (∀ x, x ∈ l → p x = true) → l.dropWhile p = []
 | [], _ => rfl
 | y :: l, h => by rw [List.dropWhile_cons, if_pos (h y (by simp))]; exact dropWhile_nil (fun x hx => h x (by simp [hx]))
theorem trimS_nil (s : Str) : (Lib.trimS s digs == ([] : Str)) = s.all isD := by
 have hall : s.all isD = s.all (digs.contains ·) := by congr 1; funext b; exact (digs_eq b).symm
 rw [hall, Bool.eq_iff_iff, beq_iff_eq, List.all_eq_true]
 unfold Lib.trimS Lib.trimLeftS Lib.trimRightS
 constructor
 ·intro h x hx
  cases hp : digs.contains x with
  | true => rfl
  | false =>
   have h1 : x ∈ (s.reverse.dropWhile (digs.contains ·)).reverse := List.mem_reverse.2 (mem_dropWhile (List.mem_reverse.2 hx) hp)
   have h2 := mem_dropWhile (p := (digs.contains ·)) h1 hp
   rw [h] at h2; cases h2
 ·intro h
  have : s.reverse.dropWhile (digs.contains ·) = [] := dropWhile_nil (fun x hx => h x (List.mem_reverse.1 hx))
  rw [this]; rfl
theorem trim_some {s : Str} (h : s.length ≤ 9223372036854775807) : trimS s digs = some (Lib.trimS s digs) := by
 unfold trimS
 rw [if_pos ⟨h, by decide, by decide⟩]
/-- The length of a code, or 0. -/
def lvl (s : Str) : Int := if s.all isD = true ∧ (s.length = 2 ∨ s.length = 4 ∨ s.length = 6 ∨ s.length = 8) then (s.length : Int) else 0
theorem nomLevel_eq (s : Str) : nomLevel s = some (lvl s) := by
 have ht : ∀ k : Int, k ≤ 8 → (if ((s.length : Int) == k) = true then trimS s digs else some default) = some (if (s.length : Int) = k then Lib.trimS s digs else default) := fun k hk => by
  by_cases h : (s.length : Int) = k
  ·rw [if_pos (by simpa using h), if_pos h, trim_some (by omega)]
  ·rw [if_neg (by simpa using h), if_neg h]
 have hc : ∀ k : Int, (bif ((s.length : Int) == k) then ((if (s.length : Int) = k then Lib.trimS s digs else default) == ([] : Str)) else false) = (decide ((s.length : Int) = k) && s.all isD) := fun k => by
  by_cases h : (s.length : Int) = k
  ·have e : ((s.length : Int) == k) = true := by simpa using h
   rw [e, if_pos h, trimS_nil]; simp [h]
  ·have e : ((s.length : Int) == k) = false := by simpa using h
   rw [e]; simp [h]
 unfold nomLevel nomLevel_j1 lvl
 rw [ht 2 (by omega), Option.bind_some, hc, ht 4 (by omega), Option.bind_some, hc, ht 6 (by omega), Option.bind_some, hc, ht 8 (by omega), Option.bind_some, hc]
 cases ha : s.all isD with
 | false => simp
 | true =>
  simp only [Bool.and_true, decide_eq_true_eq, true_and]
  by_cases h2 : (s.length : Int) = 2
  ·rw [if_pos h2, if_pos (.inl (by omega)), h2]
  ·rw [if_neg h2]
   by_cases h4 : (s.length : Int) = 4
   ·rw [if_pos h4, if_pos (.inr (.inl (by omega))), h4]
   ·rw [if_neg h4]
    by_cases h6 : (s.length : Int) = 6
    ·rw [if_pos h6, if_pos (.inr (.inr (.inl (by omega)))), h6]
    ·rw [if_neg h6]
     by_cases h8 : (s.length : Int) = 8
     ·rw [if_pos h8, if_pos (.inr (.inr (.inr (by omega)))), h8]
     ·rw [if_neg h8, if_neg (by omega)]
def tailE (v : Int) (t o : Bool) : Int := if (if v = 2 then t || o else if v = 4 then !t || o else t == o) = true then 1 else 0
def oneE (e : ApiCodeEntry) : Int := if lvl e.Code = 0 then 1 else if e.From < 0 ∨ e.To ≤ e.From ∨ 36525 < e.To then 2 else if 6 < e.Terms.length then 8 else if e.Terms.all some1 = false then 1 else tailE (lvl e.Code) (decide (e.Terms ≠ [])) e.Other
theorem nomDescribed_eq (l : List Str) : nomDescribed l = some (some1 l) := by
 unfold nomDescribed some1
 cases l with
 | nil => rfl
 | cons x l =>
  have e : (0 : Int) < ((x :: l).length : Int) := by simp only [List.length_cons]; omega
  simp only [e, decide_true, if_true, validWords_eq, Option.bind_some, cond_true]
  simp
theorem pos_ne {α : Type} (l : List α) : decide ((0 : Int) < (l.length : Int)) = decide (l ≠ []) := by
 cases l with
 | nil => rfl
 | cons x l =>
  have e : (0 : Int) < ((x :: l).length : Int) := by simp only [List.length_cons]; omega
  simp only [e]; simp
theorem rngE (e : ApiCodeEntry) : (bif (bif (decide (e.From < (0 : Int))) then true else (decide (e.To ≤ e.From))) then true else (decide ((36525 : Int) < e.To))) = decide (e.From < 0 ∨ e.To ≤ e.From ∨ 36525 < e.To) := by
 by_cases h1 : e.From < 0 <;> by_cases h2 : e.To ≤ e.From <;> by_cases h3 : 36525 < e.To <;> simp [h1, h2, h3]
theorem validateEntry_eq (e : ApiCodeEntry) : validateEntry e = some (oneE e) := by
 unfold validateEntry oneE
 rw [nomLevel_eq, Option.bind_some]
 by_cases h1 : lvl e.Code = 0
 ·rw [if_pos (by simpa using h1), if_pos h1]
 rw [if_neg (by simpa using h1), if_neg h1, rngE]
 by_cases h2 : e.From < 0 ∨ e.To ≤ e.From ∨ 36525 < e.To
 ·rw [if_pos (by simpa using h2), if_pos h2]
 rw [if_neg (by simpa using h2), if_neg h2]
 by_cases h3 : 6 < e.Terms.length
 ·rw [if_pos (by simp only [decide_eq_true_eq]; omega), if_pos h3]
 rw [if_neg (by simp only [decide_eq_true_eq]; omega), if_neg h3]
 have step : ∀ (i : Nat) (x : List Str), e.Terms[i]? = some x → validateEntry_b1 e (lvl e.Code) (i : Int) = if (!some1 x) = true then some (.inr (.inl 1)) else some (.inl ((i + 1 : Nat) : Int)) := fun i x hx => by
  have hlt := lt_of_get hx
  unfold validateEntry_b1
  rw [if_pos (by simp; omega), if_pos (by omega), Int.toNat_natCast, hx, Option.bind_some, nomDescribed_eq, Option.bind_some, w64 (n := (i : Int) + 1) (by omega)]; rfl
 have l1 := loop_list (β := Unit) e.Terms (validateEntry_b1 e (lvl e.Code)) (fun i _ => (i : Int)) (fun _ _ => ()) (fun i => some1 (e.Terms.getD i default)) (.inl (1 : Int)) (fun _ => .inr ()) (fun _ _ => True) (fun _ _ _ _ _ => trivial)
  (fun i x b _ hx hp => by rw [getD_of hx] at hp; rw [step i x hx, hp]; rfl) (fun i x b _ hx hp => by rw [getD_of hx] at hp; rw [step i x hx, hp]; rfl) (fun b _ => by unfold validateEntry_b1; rw [if_neg (by simp)]) () trivial
 rw [show ((0 : Int) = ((0 : Nat) : Int)) from rfl, l1, range_all some1]
 cases ha : e.Terms.all some1 with
 | false => simp
 | true =>
  simp only [if_true, Option.bind_some, Bool.true_eq_false, if_false]
  unfold validateEntry_j1 validateEntry_j2 tailE
  rw [pos_ne]
  by_cases c2 : lvl e.Code = 2
  ·simp only [c2, beq_self_eq_true, if_true]
   cases decide (e.Terms ≠ []) <;> cases e.Other <;> rfl
  ·rw [if_neg (by simpa using c2), if_neg c2]
   by_cases c4 : lvl e.Code = 4
   ·simp only [c4, beq_self_eq_true, if_true]
    cases decide (e.Terms ≠ []) <;> cases e.Other <;> rfl
   ·rw [if_neg (by simpa using c4), if_neg c4]
    split <;> rfl
def noteOk (x : ApiCodeNote) : Bool := decide (lvl x.Scope ≠ 0) && (some1 x.Words && (decide (x.Target = []) || decide (lvl x.Target = 4)))
theorem validateNote_eq (x : ApiCodeNote) : validateNote x = some (if noteOk x = true then 0 else 1) := by
 unfold validateNote noteOk
 rw [nomLevel_eq, Option.bind_some]
 by_cases h1 : lvl x.Scope = 0
 ·rw [if_neg (by simp [h1]), Option.bind_some, if_pos (by simp [h1]), if_neg (by simp [h1])]
 rw [if_pos (by simp [h1]), nomDescribed_eq, Option.bind_some]
 cases h2 : some1 x.Words with
 | false => rw [if_pos (by simp), if_neg (by simp)]
 | true =>
  rw [if_neg (by simp [h1])]
  by_cases h3 : x.Target = []
  ·rw [if_neg (by simp [h3]), Option.bind_some, if_neg (by simp [h3]), if_pos (by simp [h1, h3])]
  ·rw [if_pos (by simp [h3]), nomLevel_eq, Option.bind_some]
   by_cases h4 : lvl x.Target = 4
   ·rw [if_neg (by simp [h4]), if_pos (by simp [h1, h4])]
   ·rw [if_pos (by simp [h3, h4]), if_neg (by simp [h3, h4])]
end Go.C
end

section
set_option linter.unusedVariables false
set_option linter.unusedSimpArgs false
namespace Go.C
open Go.V
abbrev Ent := ApiCodeEntry
def ordE (y x : Ent) : Int := if (Op.bytesLess x.Code y.Code || (decide (x.Code = y.Code) && decide (x.From ≤ y.From))) = true then 9 else if x.Code = y.Code ∧ x.From < y.To then 1 else 0
theorem bl_irrefl : ∀ a : Str, Op.bytesLess a a = false
 | [] => rfl
 | x :: a => by simp [Op.bytesLess, bl_irrefl a, UInt8.lt_irrefl]
theorem versionCmp_eq (y x : Ent) : ((versionOf y).bind fun v => (versionOf x).bind fun v2 => (versionCmp v v2).bind fun v3 => some (decide ((0 : Int) ≤ v3))) = some (Op.bytesLess x.Code y.Code || (decide (x.Code = y.Code) && decide (x.From ≤ y.From))) := by
 unfold versionOf versionCmp cmpStr cmpInt isNaNS isNaN
 simp only [Option.bind_some]
 have ht := bl_total y.Code x.Code
 by_cases h1 : y.Code = x.Code
 ·have e1 : (y.Code == x.Code) = true := by simpa using h1
  have e2 : Op.bytesLess x.Code y.Code = false := by rw [h1]; exact bl_irrefl _
  by_cases h2 : y.From = x.From
  ·have e3 : (y.From == x.From) = true := by simpa using h2
   simp [e1, e3, e2, h1, h2]
  ·have e3 : (y.From == x.From) = false := by simpa using h2
   simp only [e1, e3, e2, h1, Bool.and_false, Bool.false_eq_true, if_false, Bool.not_true, bne_self_eq_false, decide_true, Bool.false_or, Bool.true_and]
   by_cases h3 : y.From < x.From
   ·have : ¬ x.From ≤ y.From := by omega
    simp [h3, this, bl_irrefl]
   ·have h4 : x.From ≤ y.From := by omega
    have h5 : x.From < y.From := by omega
    simp [h3, h4, h5, bl_irrefl]
 ·have e1 : (y.Code == x.Code) = false := by simpa using h1
  have e2 : ¬ x.Code = y.Code := fun h => h1 h.symm
  simp only [e1, e2, Bool.false_and, Bool.false_eq_true, if_false, Bool.not_false, if_true, beq_self_eq_true, Bool.not_true, decide_false, Bool.or_false]
  rw [e1] at ht
  simp only [Bool.or_false] at ht
  cases hb : Op.bytesLess y.Code x.Code with
  | true => rw [hb] at ht; simp at ht; simp [ht]
  | false => rw [hb] at ht; simp at ht; simp [ht]
theorem validateOrder_eq (y x : Ent) : validateOrder y x = some (ordE y x) := by
 have h := versionCmp_eq y x
 unfold validateOrder ordE
 cases h1 : versionOf y with
 | none => rw [h1] at h; cases h
 | some v =>
  cases h2 : versionOf x with
  | none => rw [h1, h2] at h; cases h
  | some v2 =>
   rw [h1, h2] at h
   simp only [Option.bind_some] at h ⊢
   cases h3 : versionCmp v v2 with
   | none => rw [h3] at h; cases h
   | some v3 =>
    rw [h3] at h
    simp only [Option.bind_some, Option.some.injEq] at h ⊢
    rw [h]
    split
    ·rfl
    ·by_cases hc : x.Code = y.Code ∧ x.From < y.To
     ·rw [if_pos (by simp [hc.1, hc.2]), if_pos hc]
     ·rw [if_neg hc, if_neg]
      intro hh
      apply hc
      by_cases e : y.Code = x.Code
      ·have e1 : (y.Code == x.Code) = true := by simpa using e
       rw [e1] at hh
       exact ⟨e.symm, by simpa using hh⟩
      ·have e1 : (y.Code == x.Code) = false := by simpa using e
       rw [e1] at hh; cases hh
/-- How far the entries of a code cover the days from a day on. -/
def cov (l : List Ent) (code : Str) (day : Int) : Int := l.foldl (fun d p => if p.Code = code ∧ p.From ≤ d ∧ d < p.To then p.To else d) day
def parent (c : Str) : Str := c.take (c.length - 2)
def parOk (l : List Ent) (e : Ent) : Bool := decide (e.Code.length = 2) || decide (e.To ≤ cov l (parent e.Code) e.From)
theorem hasParent_eq {b : ApiNomenclature} {e : Ent} (hb : b.Entries.length ≤ 1000) (h2 : 2 ≤ e.Code.length) (h8 : e.Code.length ≤ 8) : hasParent b e = some (parOk b.Entries e) := by
 unfold hasParent parOk
 by_cases h : e.Code.length = 2
 ·rw [if_pos (by simp [h])]; simp [h]
 have hw : IntKind.i64.wrap ((e.Code.length : Int) - 2) = ((e.Code.length - 2 : Nat) : Int) := by rw [w64 (by omega)]; omega
 rw [if_neg (by simp; omega), hw, if_pos (by omega)]
 have l1 := loop_fold (β := Int) b.Entries (hasParent_b1 b e) (fun i d => ((i : Int), d)) (fun d p => if p.Code = parent e.Code ∧ p.From ≤ d ∧ d < p.To then p.To else d) (fun d => d) (fun _ _ => True) (fun _ _ _ _ _ => trivial)
  (fun i x d _ hx => by
   have hlt := lt_of_get hx
   unfold hasParent_b1 hasParent_j2
   dsimp only
   rw [hw, Int.toNat_natCast, if_pos (by simp only [decide_eq_true_eq]; omega), if_pos (by omega), Int.toNat_natCast, hx, Option.bind_some, w64 (n := (i : Int) + 1) (by omega)]
   show (if (bif (bif (x.Code == parent e.Code) then (decide (x.From ≤ d)) else false) then (decide (d < x.To)) else false) = true then _ else _) = _
   by_cases c1 : x.Code = parent e.Code
   ·have e1 : (x.Code == parent e.Code) = true := by simpa using c1
    by_cases c2 : x.From ≤ d
    ·by_cases c3 : d < x.To
     ·rw [if_pos (by rw [e1]; simp [c2, c3]), if_pos ⟨c1, c2, c3⟩]; rfl
     ·rw [if_neg (by rw [e1]; simp [c2, c3]), if_neg (fun h => c3 h.2.2)]; rfl
    ·rw [if_neg (by rw [e1]; simp [c2]), if_neg (fun h => c2 h.2.1)]; rfl
   ·have e1 : (x.Code == parent e.Code) = false := by simpa using c1
    rw [if_neg (by rw [e1]; simp), if_neg (fun h => c1 h.1)]; rfl)
  (fun d _ => by unfold hasParent_b1; dsimp only; rw [if_neg (by simp)]) e.From trivial
 rw [show ((0 : Int), e.From) = (((0 : Nat) : Int), e.From) from rfl, l1, Option.bind_some]
 unfold hasParent_j1 cov
 simp [h]
def entErr (l : List Ent) (i : Nat) : Int := if oneE (l.getD i default) = 0 then (if i = 0 then 0 else ordE (l.getD (i - 1) default) (l.getD i default)) else oneE (l.getD i default)
def parErr (l : List Ent) (i : Nat) : Int := if parOk l (l.getD i default) = true then 0 else 6
def notErr (l : List ApiCodeNote) (i : Nat) : Int := if noteOk (l.getD i default) = true then 0 else 1
/-- The error of a book. -/
def nv (b : ApiNomenclature) : Int :=
  if 300 < b.Entries.length ∨ 100 < b.Notes.length then 8
  else if ferr b.Entries.length (entErr b.Entries) ≠ 0 then ferr b.Entries.length (entErr b.Entries)
  else if ferr b.Entries.length (parErr b.Entries) ≠ 0 then ferr b.Entries.length (parErr b.Entries)
  else ferr b.Notes.length (notErr b.Notes)
theorem oneE_len {e : Ent} (h : oneE e = 0) : 2 ≤ e.Code.length ∧ e.Code.length ≤ 8 ∧ lvl e.Code ≠ 0 := by
 have hl : lvl e.Code ≠ 0 := fun h0 => by unfold oneE at h; rw [if_pos h0] at h; cases h
 refine ⟨?_, ?_, hl⟩
 ·unfold lvl at hl
  split at hl
  ·rename_i hc; omega
  ·exact absurd rfl hl
 ·unfold lvl at hl
  split at hl
  ·rename_i hc; omega
  ·exact absurd rfl hl
theorem entErr_one {l : List Ent} {i : Nat} (h : entErr l i = 0) : oneE (l.getD i default) = 0 := by
 unfold entErr at h
 by_cases h0 : oneE (l.getD i default) = 0
 ·exact h0
 ·rw [if_neg h0] at h; exact h
theorem lim_eq (b : ApiNomenclature) : (bif (decide ((300 : Int) < (b.Entries.length : Int))) then true else (decide ((100 : Int) < (b.Notes.length : Int)))) = decide (300 < b.Entries.length ∨ 100 < b.Notes.length) := by
 by_cases h1 : 300 < b.Entries.length
 ·have : (300 : Int) < (b.Entries.length : Int) := by omega
  simp [h1, this]
 ·have e1 : ¬ (300 : Int) < (b.Entries.length : Int) := by omega
  by_cases h2 : 100 < b.Notes.length
  ·have : (100 : Int) < (b.Notes.length : Int) := by omega
   simp [h1, h2, this]
  ·have e2 : ¬ (100 : Int) < (b.Notes.length : Int) := by omega
   simp [h1, h2, e1, e2]
theorem nomValidate_eq (b : ApiNomenclature) : nomValidate b = some (nv b) := by
 unfold nomValidate nv
 rw [lim_eq]
 by_cases hl : 300 < b.Entries.length ∨ 100 < b.Notes.length
 ·rw [if_pos (by simpa using hl), if_pos hl]
 rw [if_neg (by simpa using hl), if_neg hl]
 have l1 := loop_err b.Entries (nomValidate_b3 b) (entErr b.Entries) (fun i x hx h0 => by
  have hlt := lt_of_get hx
  unfold nomValidate_b3 nomValidate_j4 entErr
  rw [if_pos (by simp only [decide_eq_true_eq]; omega), if_pos (by omega), Int.toNat_natCast, hx, Option.bind_some, validateEntry_eq, Option.bind_some, w64 (n := (i : Int) + 1) (by omega), getD_of hx]
  by_cases h1 : oneE x = 0
  ·rw [if_neg (by simp [h1]), if_pos h1]
   by_cases hi : i = 0
   ·rw [if_pos (by simp [hi]), if_pos hi, if_pos rfl]; rfl
   ·have hp : IntKind.i64.wrap ((i : Int) - 1) = ((i - 1 : Nat) : Int) := by rw [w64 (by omega)]; omega
    rw [if_neg (by simp; omega), hp, if_pos (by omega), Int.toNat_natCast, List.getElem?_eq_getElem (by omega : i - 1 < b.Entries.length), Option.bind_some, validateOrder_eq, Option.bind_some, if_neg hi]
    have hg : b.Entries.getD (i - 1) default = b.Entries[i - 1] := by rw [List.getD_eq_getElem?_getD, List.getElem?_eq_getElem (by omega)]; rfl
    rw [hg]
    by_cases ho : ordE b.Entries[i - 1] x = 0
    ·rw [if_neg (by simp [ho]), if_pos ho]; rfl
    ·rw [if_pos (by simpa using ho), if_neg ho]
  ·rw [if_pos (by simpa using h1), if_neg h1, if_neg h1])
  (by unfold nomValidate_b3; rw [if_neg (by simp)])
 rw [l1, Option.bind_some]
 by_cases e1 : ¬ ferr b.Entries.length (entErr b.Entries) = 0
 ·simp [e1]
 replace e1 := Decidable.not_not.1 e1
 simp only [e1, if_true, ne_eq, not_true_eq_false, if_false]
 have hall := ferr_zero.1 e1
 unfold nomValidate_j1
 have l2 := loop_err b.Entries (nomValidate_b2 b) (parErr b.Entries) (fun i x hx h0 => by
  have hlt := lt_of_get hx
  have h1 := oneE_len (entErr_one (hall i hlt))
  rw [getD_of hx] at h1
  unfold nomValidate_b2 parErr
  rw [if_pos (by simp only [decide_eq_true_eq]; omega), if_pos (by omega), Int.toNat_natCast, hx, Option.bind_some, hasParent_eq (by omega) h1.1 h1.2.1, Option.bind_some, w64 (n := (i : Int) + 1) (by omega), getD_of hx]
  cases parOk b.Entries x with
  | true => rfl
  | false => rfl)
  (by unfold nomValidate_b2; rw [if_neg (by simp)])
 rw [l2, Option.bind_some]
 by_cases e2 : ¬ ferr b.Entries.length (parErr b.Entries) = 0
 ·simp [e2]
 replace e2 := Decidable.not_not.1 e2
 simp only [e2, if_true, ne_eq, not_true_eq_false, if_false]
 unfold nomValidate_j2 nomValidate_j3
 have l3 := loop_err b.Notes (nomValidate_b1 b) (notErr b.Notes) (fun i x hx h0 => by
  have hlt := lt_of_get hx
  unfold nomValidate_b1 notErr
  rw [if_pos (by simp only [decide_eq_true_eq]; omega), if_pos (by omega), Int.toNat_natCast, hx, Option.bind_some, validateNote_eq, Option.bind_some, w64 (n := (i : Int) + 1) (by omega), getD_of hx]
  cases noteOk x with
  | true => rfl
  | false => rfl)
  (by unfold nomValidate_b1; rw [if_neg (by simp)])
 rw [l3, Option.bind_some]
 by_cases h : ferr b.Notes.length (notErr b.Notes) = 0
 ·simp [h]
 ·simp [h]
end Go.C
end

section
set_option linter.unusedVariables false
set_option linter.unusedSimpArgs false
namespace Go.C
open Go.V
open Go.Lib (decDigits)
/-- A word list that is not empty. -/
def WOk (l : List Str) : Prop := l ≠ [] ∧ l.length ≤ 8 ∧ ∀ x, x ∈ l → isW x = true
theorem wp_isW {l : List Str} (h : (List.range l.length).all (wp l) = true) : ∀ x, x ∈ l → isW x = true := fun x hx => by
 obtain ⟨i, hi, rfl⟩ := List.getElem_of_mem hx
 have := List.all_eq_true.1 h i (List.mem_range.2 hi)
 unfold wp at this
 rw [List.getD_eq_getElem?_getD, List.getElem?_eq_getElem hi] at this
 simp only [Option.getD_some, Bool.and_eq_true] at this
 exact this.1
theorem some1_wok {l : List Str} (h : some1 l = true) : WOk l := by
 unfold some1 wordsOk at h
 simp only [ne_eq, Bool.and_eq_true, decide_eq_true_eq] at h
 exact ⟨h.1, h.2.1, wp_isW h.2.2⟩
theorem isW_len {s : Str} (h : isW s = true) : 1 ≤ s.length ∧ s.length ≤ 12 := by
 unfold isW at h
 simp only [Bool.and_eq_true, decide_eq_true_eq] at h
 exact ⟨h.1, h.2.1⟩
theorem isW_no {s : Str} (h : isW s = true) {c : UInt8} (hc : c.toNat < 97 ∨ 122 < c.toNat) : c ∉ s := fun hm => by
 unfold isW at h
 simp only [Bool.and_eq_true, decide_eq_true_eq] at h
 obtain ⟨i, hi, rfl⟩ := List.getElem_of_mem hm
 have := List.all_eq_true.1 h.2.2 i (List.mem_range.2 hi)
 rw [List.getD_eq_getElem?_getD, List.getElem?_eq_getElem hi] at this
 have := (isL_iff _).1 this
 simp only [Option.getD_some] at this
 omega
theorem WOk.lens {l : List Str} (h : WOk l) : [43].length * l.length + Lib.lens l ≤ 104 := by
 have := lens_le (k := 12) (fun x hx => (isW_len (h.2.2 x hx)).2)
 have := h.2.1
 simp only [List.length_cons, List.length_nil]; omega
theorem WOk.len {l : List Str} (h : WOk l) : (Lib.join l [43]).length ≤ 104 := Nat.le_trans (join_len l [43]) h.lens
theorem join_mem {c : UInt8} {sep : Str} : ∀ {l : List Str}, c ∈ Lib.join l sep → c ∈ sep ∨ ∃ x, x ∈ l ∧ c ∈ x
 | [], h => by simp [Lib.join_nil] at h
 | [x], h => by rw [Lib.join_one] at h; exact .inr ⟨x, by simp, h⟩
 | x :: y :: r, h => by
  rw [join_cons2] at h
  rcases List.mem_append.1 h with h | h
  ·rcases List.mem_append.1 h with h | h
   ·exact .inr ⟨x, by simp, h⟩
   ·exact .inl h
  ·rcases join_mem h with h | ⟨z, h1, h2⟩
   ·exact .inl h
   ·exact .inr ⟨z, List.mem_cons_of_mem _ h1, h2⟩
theorem WOk.no {l : List Str} (h : WOk l) {c : UInt8} (hc : c.toNat < 97 ∨ 122 < c.toNat) (hp : c ≠ 43) : c ∉ Lib.join l [43] := fun hm => by
 rcases join_mem hm with h1 | ⟨x, h1, h2⟩
 ·simp at h1; exact hp h1
 ·exact isW_no (h.2.2 x h1) hc h2
/-- An entry that holds by itself. -/
structure EVal (e : Ent) : Prop where
  lvl : C.lvl e.Code ≠ 0
  days : 0 ≤ e.From ∧ e.From < e.To ∧ e.To ≤ 36525
  few : e.Terms.length ≤ 6
  terms : ∀ t, t ∈ e.Terms → WOk t
  one : oneE e = 0
theorem EVal.of {e : Ent} (h : oneE e = 0) : EVal e := by
 have h0 := h
 unfold oneE at h
 by_cases c1 : C.lvl e.Code = 0
 ·rw [if_pos c1] at h; cases h
 ·rw [if_neg c1] at h
  by_cases c2 : e.From < 0 ∨ e.To ≤ e.From ∨ 36525 < e.To
  ·rw [if_pos c2] at h; cases h
  ·rw [if_neg c2] at h
   by_cases c3 : 6 < e.Terms.length
   ·rw [if_pos c3] at h; cases h
   ·rw [if_neg c3] at h
    by_cases c4 : e.Terms.all some1 = false
    ·rw [if_pos c4] at h; cases h
    ·have c5 : e.Terms.all some1 = true := by cases hh : e.Terms.all some1 with
      | true => rfl
      | false => exact absurd hh c4
     exact ⟨c1, by omega, by omega, fun t ht => some1_wok (List.all_eq_true.1 c5 t ht), h0⟩
/-- A note that holds. -/
structure NVal (n : ApiCodeNote) : Prop where
  scope : lvl n.Scope ≠ 0
  words : WOk n.Words
  target : n.Target = [] ∨ lvl n.Target = 4
  ok : noteOk n = true
theorem NVal.of {n : ApiCodeNote} (h : noteOk n = true) : NVal n := by
 have h0 := h
 unfold noteOk at h
 simp only [ne_eq, Bool.and_eq_true, Bool.or_eq_true, decide_eq_true_eq] at h
 exact ⟨h.1, some1_wok h.2.1, h.2.2, h0⟩
end Go.C
end

section
set_option linter.unusedVariables false
set_option linter.unusedSimpArgs false
namespace Go.C
open Go.V
theorem described_eq (l : List Str) : described l = some (decide (l ≠ []) && wordsOk l) := by
 unfold described
 cases l with
 | nil => rfl
 | cons x l =>
  have e : (0 : Int) < ((x :: l).length : Int) := by simp only [List.length_cons]; omega
  simp only [e, decide_true, if_true, validWords_eq, Option.bind_some, cond_true]
  simp
def sumW (l : List Int) : Int := l.foldl (fun s x => IntKind.i64.wrap (s + x)) 0
def out1 (x : Int) : Bool := bif (decide (x < (1 : Int))) then true else (decide ((1000000 : Int) < x))
def far (l : List Int) : Bool := l.any out1
def full (l : List Int) : Bool := decide (l = []) || (sumW l == 1000000)
def gvTail (ms ps : List Int) : Int := if (far ms || far ps) = true then 2 else if (full ms && full ps) = true then 0 else 1
def gv (g : ApiGood) : Int :=
 if some1 g.Words = false then 1
 else if 8 < g.Materials.length ∨ 6 < g.Parts.length then 8
 else if (List.range g.Materials.length).all (wp (g.Materials.map (·.Name))) = false then 1
 else if (g.Parts.all fun p => some1 p.Words) = false then 1
 else gvTail (g.Materials.map (·.Share)) (g.Parts.map (·.Share))
theorem all_out (l : List Int) : (l.all fun x => !out1 x) = !far l := by
 unfold far
 induction l with
 | nil => rfl
 | cons x l ih => simp only [List.all_cons, List.any_cons, ih]; cases out1 x <;> cases l.any out1 <;> rfl
theorem complete_eq (l : List Int) (hl : l.length ≤ 1000) : complete l = some (full l) := by
 have := loop_fold (β := Int) l (complete_b1 l) (fun i b => ((i : Int), b)) (fun b x => IntKind.i64.wrap (b + x)) (fun b => b) (fun _ _ => True) (fun _ _ _ _ _ => trivial) (fun i x b _ hx => by
  have hlt := lt_of_get hx
  unfold complete_b1
  dsimp only
  rw [if_pos (by simp; omega), if_pos (by omega), Int.toNat_natCast, hx, Option.bind_some, w64 (n := (i : Int) + 1) (by omega)]
  rfl) (fun b _ => by unfold complete_b1; dsimp only; rw [if_neg (by simp)]) 0 trivial
 unfold complete
 rw [show ((0 : Int), (0 : Int)) = (((0 : Nat) : Int), (0 : Int)) from rfl, this, Option.bind_some]
 unfold complete_j1 full sumW
 cases l with
 | nil => rfl
 | cons x l =>
  have e : (((x :: l).length : Int) == 0) = false := by simp only [List.length_cons, beq_eq_false_iff_ne, ne_eq]; omega
  rw [e]; simp
theorem concatInt_eq (a b : List Int) (ha : a.length ≤ 1000) (hb : b.length ≤ 1000) : concatInt [a, b] = some (a ++ b) := by
 have e1 : loopO (concatInt_b2 [a, b]) ((0 : Int), (0 : Int)) = some ((a.length : Int) + (b.length : Int)) := by
  rw [loop_step (x := ((1 : Int), (a.length : Int)))]
  ·rw [loop_step (x := ((2 : Int), (a.length : Int) + (b.length : Int)))]
   ·rw [loop_stop]
    unfold concatInt_b2; rfl
   ·unfold concatInt_b2
    dsimp only
    rw [if_pos (by rfl), if_pos (by decide)]
    show Option.bind (some b) _ = _
    rw [Option.bind_some, w64 (n := (a.length : Int) + (b.length : Int)) (by omega), if_neg (by simp; omega)]; rfl
  ·unfold concatInt_b2
   dsimp only
   rw [if_pos (by rfl), if_pos (by decide)]
   show Option.bind (some a) _ = _
   rw [Option.bind_some, w64 (n := (0 : Int) + (a.length : Int)) (by omega), if_neg (by simp), Int.zero_add (a.length : Int)]; rfl
 have e2 : growInt ((a.length : Int) + (b.length : Int)) = some [] := by
  unfold growInt growInt_j1
  rw [if_neg (by simp; omega)]
  have : (IntKind.i64.wrap (((a.length : Int) + (b.length : Int)) - (IntKind.i64.wrap ((0 : Int) - (0 : Int))))) = (a.length : Int) + (b.length : Int) := by rw [w64 (n := (0 : Int) - 0) (by omega), w64 (by omega)]; omega
  rw [this]
  split
  ·rename_i h; rw [if_pos (by simp at h; omega)]
  ·rfl
 have e3 : loopO (concatInt_b1 [a, b]) ((0 : Int), []) = some (a ++ b) := by
  rw [loop_step (x := ((1 : Int), a))]
  ·rw [loop_step (x := ((2 : Int), a ++ b))]
   ·rw [loop_stop]
    unfold concatInt_b1; rfl
   ·unfold concatInt_b1
    dsimp only
    rw [if_pos (by rfl), if_pos (by decide)]
    show Option.bind (some b) _ = _
    rw [Option.bind_some, if_pos (by omega)]; rfl
  ·unfold concatInt_b1
   dsimp only
   rw [if_pos (by rfl), if_pos (by decide)]
   show Option.bind (some a) _ = _
   rw [Option.bind_some, if_pos (by simp; omega)]; rfl
 unfold concatInt
 rw [e1, Option.bind_some]
 unfold concatInt_j1
 dsimp only
 rw [e2, Option.bind_some, e3, Option.bind_some]
 rfl
theorem foldl2 {α β γ : Type} (f : α → β) (g : α → γ) : ∀ (xs : List α) (a : List β) (b : List γ), xs.foldl (fun (s : List β × List γ) x => (s.1 ++ [f x], s.2 ++ [g x])) (a, b) = (a ++ xs.map f, b ++ xs.map g)
 | [], a, b => by simp
 | x :: xs, a, b => by rw [List.foldl_cons, foldl2 f g xs]; simp
theorem foldl1 {α β γ : Type} (f : α → β) : ∀ (xs : List α) (a : List β) (b : γ), xs.foldl (fun (s : List β × γ) x => (s.1 ++ [f x], s.2)) (a, b) = (a ++ xs.map f, b)
 | [], a, b => by simp
 | x :: xs, a, b => by rw [List.foldl_cons, foldl1 f xs]; simp
theorem validate_tail (ms ps : List Int) (h1 : ms.length ≤ 8) (h2 : ps.length ≤ 6) : goodsValidate_j2 ps ms = some (gvTail ms ps) := by
 unfold goodsValidate_j2
 rw [concatInt_eq ms ps (by omega) (by omega), Option.bind_some]
 have := loop_list (β := Unit) (ms ++ ps) (goodsValidate_b1 ps ms (ms ++ ps)) (fun i _ => ((i : Int), ms ++ ps)) (fun _ _ => ()) (fun i => !out1 ((ms ++ ps).getD i default)) (.inl (2 : Int)) (fun _ => .inr ()) (fun _ _ => True) (fun _ _ _ _ _ => trivial)
  (fun i x b _ hx hp => by
   have hlt := lt_of_get hx
   have hl2 : (ms ++ ps).length ≤ 14 := by simp; omega
   unfold goodsValidate_b1
   dsimp only
   rw [if_pos (by simp only [decide_eq_true_eq]; omega), if_pos (by omega), Int.toNat_natCast]
   simp only [out1, Bool.not_eq_true'] at hp
   rw [hp, w64 (n := (i : Int) + 1) (by omega)]; rfl)
  (fun i x b _ hx hp => by
   have hlt := lt_of_get hx
   unfold goodsValidate_b1
   dsimp only
   rw [if_pos (by simp only [decide_eq_true_eq]; omega), if_pos (by omega), Int.toNat_natCast]
   simp only [out1, Bool.not_eq_false'] at hp
   rw [hp]; rfl)
  (fun b _ => by unfold goodsValidate_b1; dsimp only; rw [if_neg (by simp)]) () trivial
 rw [show ((0 : Int), ms ++ ps) = (((0 : Nat) : Int), ms ++ ps) from rfl, this, range_all (fun x => !out1 x), all_out]
 have hf : far (ms ++ ps) = (far ms || far ps) := by simp [far]
 rw [hf]
 unfold gvTail
 cases hfar : (far ms || far ps) with
 | true => rfl
 | false =>
  simp only [Bool.not_false, if_true, Option.bind_some, Bool.false_eq_true, if_false]
  unfold goodsValidate_j3
  rw [complete_eq ms (by omega), complete_eq ps (by omega), Option.bind_some]
  cases full ms <;> cases full ps <;> rfl
theorem goodsValidate_eq (g : ApiGood) : goodsValidate g = some (gv g) := by
 unfold goodsValidate gv
 rw [described_eq, Option.bind_some]
 show (if (!some1 g.Words) = true then _ else _) = _
 cases hw : some1 g.Words with
 | false => rfl
 | true =>
  simp only [Bool.not_true, Bool.false_eq_true, if_false, Bool.true_eq_false]
  by_cases hlim : 8 < g.Materials.length ∨ 6 < g.Parts.length
  ·rw [if_pos hlim, if_pos]
   rcases hlim with h | h
   ·have e : ((8 : Int) < (g.Materials.length : Int)) := by omega
    simp [e]
   ·have e : ((6 : Int) < (g.Parts.length : Int)) := by omega
    simp [e]
  ·rw [if_neg hlim, if_neg (by
    have e1 : ¬ ((8 : Int) < (g.Materials.length : Int)) := by omega
    have e2 : ¬ ((6 : Int) < (g.Parts.length : Int)) := by omega
    simp [e1, e2])]
   have l1 := loop_fold (β := List Int × List Str) g.Materials (goodsValidate_b3 g) (fun i b => ((i : Int), b.1, b.2)) (fun b x => (b.1 ++ [x.Share], b.2 ++ [x.Name])) (fun b => (b.1, b.2)) (fun i b => b.1.length = i ∧ b.2.length = i)
    (fun i x b hI hx => by simp [hI.1, hI.2])
    (fun i x b hI hx => by
     have hlt := lt_of_get hx
     unfold goodsValidate_b3
     dsimp only
     rw [if_pos (by simp only [decide_eq_true_eq]; omega), if_pos (by omega), Int.toNat_natCast, hx, Option.bind_some, if_pos (by rw [hI.2]; simp; omega), if_pos (by rw [hI.1]; simp; omega), w64 (n := (i : Int) + 1) (by omega)]
     rfl)
    (fun b hI => by unfold goodsValidate_b3; dsimp only; rw [if_neg (by simp)]) ([], []) ⟨rfl, rfl⟩
   rw [show ((0 : Int), ([] : List Int), ([] : List Str)) = (((0 : Nat) : Int), ([] : List Int), ([] : List Str)) from rfl]
   rw [l1, foldl2 (fun x : ApiMaterial => x.Share) (fun x : ApiMaterial => x.Name), Option.bind_some]
   simp only [List.nil_append]
   unfold goodsValidate_j1
   rw [validWords_eq, Option.bind_some]
   have hwk : wordsOk (g.Materials.map (·.Name)) = (List.range g.Materials.length).all (wp (g.Materials.map (·.Name))) := by
    unfold wordsOk
    rw [List.length_map]
    have : g.Materials.length ≤ 8 := by omega
    simp [this]
   rw [hwk]
   cases hm : (List.range g.Materials.length).all (wp (g.Materials.map (·.Name))) with
   | false => rfl
   | true =>
    simp only [Bool.not_true, Bool.false_eq_true, if_false, Bool.true_eq_false]
    have l2 := loop_list (β := List Int × List Int) g.Parts (goodsValidate_b2 g) (fun i b => ((i : Int), b.1, b.2)) (fun b x => (b.1 ++ [x.Share], b.2)) (fun i => some1 (g.Parts.getD i default).Words) (.inl (1 : Int)) (fun b => .inr (b.1, b.2)) (fun i b => b.1.length = i)
     (fun i x b hI hx => by simp [hI])
     (fun i x b hI hx hp => by
      have hlt := lt_of_get hx
      rw [getD_of hx] at hp
      unfold goodsValidate_b2
      dsimp only
      rw [if_pos (by simp only [decide_eq_true_eq]; omega), if_pos (by omega), Int.toNat_natCast, hx, Option.bind_some, described_eq, Option.bind_some]
      show (if (!some1 x.Words) = true then _ else _) = _
      rw [hp, if_neg (by simp), if_pos (by rw [hI]; simp; omega), w64 (n := (i : Int) + 1) (by omega)]
      rfl)
     (fun i x b hI hx hp => by
      have hlt := lt_of_get hx
      rw [getD_of hx] at hp
      unfold goodsValidate_b2
      dsimp only
      rw [if_pos (by simp only [decide_eq_true_eq]; omega), if_pos (by omega), Int.toNat_natCast, hx, Option.bind_some, described_eq, Option.bind_some]
      show (if (!some1 x.Words) = true then _ else _) = _
      rw [hp]; rfl)
     (fun b hI => by unfold goodsValidate_b2; dsimp only; rw [if_neg (by simp)]) ([], g.Materials.map (·.Share)) rfl
    rw [show ((0 : Int), ([] : List Int), g.Materials.map (·.Share)) = (((0 : Nat) : Int), ([] : List Int), g.Materials.map (·.Share)) from rfl]
    rw [l2, range_all (fun p : ApiComponent => some1 p.Words), foldl1 (fun x : ApiComponent => x.Share)]
    cases hp : (g.Parts.all fun p => some1 p.Words) with
    | false => rfl
    | true =>
     simp only [if_true, Option.bind_some, Bool.true_eq_false, if_false, List.nil_append]
     exact validate_tail _ _ (by simp; omega) (by simp; omega)
def Shs (l : List Int) : Prop := l = [] ∨ ShOk l
/-- A description that was made. -/
structure MOk (g : ApiGood) : Prop where
  words : Asc g.Words ∧ g.Words ≠ [] ∧ g.Words.length ≤ 4
  mats : Asc (g.Materials.map (·.Name)) ∧ g.Materials.length ≤ 4 ∧ Shs (g.Materials.map (·.Share))
  parts : (∀ p, p ∈ g.Parts → Asc p.Words ∧ p.Words ≠ [] ∧ p.Words.length ≤ 3) ∧ g.Parts.length ≤ 3 ∧ Shs (g.Parts.map (·.Share))
def names4 : List Str := [([103, 108, 97, 115, 115] : Str), ([108, 97, 109, 112] : Str), ([115, 116, 101, 101, 108] : Str), ([119, 111, 111, 100] : Str)]
theorem asc_names : Asc names4 := ⟨by decide, by decide⟩
theorem parts_ok (v2 : List Str × CustomsmadeSource) (v3 : Int × CustomsmadeSource) (hv2 : Asc v2.1 ∧ v2.1 ≠ [] ∧ v2.1.length ≤ 4) (ms : List ApiMaterial) (hms : Asc (ms.map (·.Name)) ∧ ms.length ≤ 4 ∧ Shs (ms.map (·.Share))) (L : List Int) (I : Int) (hs : SOk ⟨L, I⟩) :
  ∃ g, madeGood_j1 v2 v3 ms L I = some g ∧ MOk g := by
 unfold madeGood_j1
 obtain ⟨r1, s1, e1, b1, b2, k1⟩ := next_ok (n := 3) hs (by omega) (by omega)
 rw [e1, Option.bind_some]
 dsimp only
 split
 ·obtain ⟨r2, s2, e2, b3, b4, k2⟩ := next_ok (n := 3) k1 (by omega) (by omega)
  rw [e2, Option.bind_some]
  dsimp only
  obtain ⟨n, rfl⟩ : ∃ n : Nat, r2 = (n : Int) := ⟨r2.toNat, by omega⟩
  rw [w64 (n := 1 + (n : Int)) (by omega), show (1 : Int) + (n : Int) = ((1 + n : Nat) : Int) by omega]
  obtain ⟨sh, s3, e3, hl, hsh, k3⟩ := shares_ok k2 (1 + n) (by omega) (by omega)
  rw [e3, Option.bind_some]
  dsimp only
  obtain ⟨⟨ms', ps⟩, eo, ho1, ho2, ho3⟩ := loop_inv (f := madeGood_b1 v2 v3 (sh, s3)) (fun m x => ∃ k : Nat, m = sh.length - k ∧ k ≤ sh.length ∧ x.1 = (k : Int) ∧ x.2.1 = ms ∧ x.2.2.1.map (·.Share) = sh.take k ∧ (∀ p, p ∈ x.2.2.1 → Asc p.Words ∧ p.Words ≠ [] ∧ p.Words.length ≤ 3) ∧ SOk ⟨x.2.2.2.1, x.2.2.2.2⟩)
   (fun r => r.1 = ms ∧ r.2.map (·.Share) = sh ∧ (∀ p, p ∈ r.2 → Asc p.Words ∧ p.Words ≠ [] ∧ p.Words.length ≤ 3)) (by
   rintro m ⟨i, c1, c2, cL, cI⟩ ⟨k, rfl, hk, hi, hc, hsum, hp, hso⟩
   simp only at hi hc hsum hp hso
   subst hi; subst hc
   unfold madeGood_b1
   dsimp only
   by_cases hlt : k < sh.length
   ·refine .inl ?_
    rw [if_pos (by simp only [decide_eq_true_eq]; omega)]
    obtain ⟨ws, s4, e4, w1, w2, w3, k4⟩ := words_ok hso 3 (by omega) (by omega)
    rw [show (3 : Int) = ((3 : Nat) : Int) from rfl, e4, Option.bind_some, if_pos (by omega), Int.toNat_natCast, List.getElem?_eq_getElem hlt, Option.bind_some]
    have hcl : c2.length = k := by have := congrArg List.length hsum; simp at this; omega
    rw [if_pos (by simp; omega), w64 (n := (k : Int) + 1) (by omega)]
    refine ⟨_, sh.length - (k + 1), by omega, rfl, k + 1, rfl, by omega, rfl, rfl, ?_, fun p hp' => ?_, k4⟩
    ·simp only [List.map_append, List.map_cons, List.map_nil, hsum]
     rw [List.take_add_one, List.getElem?_eq_getElem hlt]; rfl
    ·rcases List.mem_append.1 hp' with h | h
     ·exact hp p h
     ·simp at h; subst h; exact ⟨w1, w2, w3⟩
   ·refine .inr ?_
    have : k = sh.length := by omega
    subst this
    rw [if_neg (by simp)]
    exact ⟨_, rfl, rfl, by simpa using hsum, hp⟩) sh.length ((0 : Int), ms, [], s3.L, s3.I) ⟨0, rfl, by omega, rfl, rfl, by simp, fun p hp => by simp at hp, k3⟩
  simp only at ho1 ho2 ho3
  rw [eo, Option.bind_some]
  unfold madeGood_j2
  refine ⟨_, rfl, hv2, by rw [ho1]; exact hms, ho3, ?_, .inr (by simp only; rw [ho2]; exact hsh)⟩
  have := congrArg List.length ho2
  simp only [List.length_map] at this
  simp only
  omega
 ·unfold madeGood_j2
  exact ⟨_, rfl, hv2, hms, fun p hp => by simp at hp, by simp, .inl rfl⟩
theorem madeGood_ok (l : List Int) : ∃ g, madeGood l = some g ∧ MOk g := by
 unfold madeGood
 obtain ⟨v, e0, hv⟩ := cut_ok l 60 (by omega)
 rw [show (60 : Int) = ((60 : Nat) : Int) from rfl, e0, Option.bind_some]
 obtain ⟨ws, s1, e1, w1, w2, w3, k1⟩ := words_ok (s := ⟨v, 0⟩) ⟨by simp only; omega, by simp only; omega, by simp only; omega⟩ 4 (by omega) (by omega)
 rw [show (4 : Int) = ((4 : Nat) : Int) from rfl, e1, Option.bind_some]
 dsimp only
 obtain ⟨r2, s2, e2, b1, b2, k2⟩ := next_ok (n := ((4 : Nat) : Int)) k1 (by omega) (by omega)
 rw [e2, Option.bind_some]
 dsimp only
 obtain ⟨r3, s3, e3, b3, b4, k3⟩ := next_ok (n := ((4 : Nat) : Int)) k2 (by omega) (by omega)
 rw [e3, Option.bind_some]
 dsimp only
 split
 ·rename_i hpos
  simp only [decide_eq_true_eq] at hpos
  obtain ⟨r4, s4, e4, b5, b6, k4⟩ := next_ok (n := 2) k3 (by omega) (by omega)
  rw [e4, Option.bind_some]
  dsimp only
  rw [if_pos (by simp only [List.length_cons, List.length_nil]; omega)]
  obtain ⟨j, rfl⟩ : ∃ j : Nat, r4 = (j : Int) := ⟨r4.toNat, by omega⟩
  obtain ⟨n, rfl⟩ : ∃ n : Nat, r3 = (n : Int) := ⟨r3.toNat, by omega⟩
  show ∃ g, ((srcShares s4 (if (((names4.drop (j : Int).toNat).length : Nat) : Int) < (n : Int) then (((names4.drop (j : Int).toNat).length : Nat) : Int) else (n : Int))).bind _) = some g ∧ MOk g
  have hdl : (names4.drop (j : Int).toNat).length = 4 - j := by simp [names4]
  rw [if_neg (by rw [hdl]; omega)]
  obtain ⟨sh, s5, e5, hl, hsh, k5⟩ := shares_ok k4 n (by omega) (by omega)
  rw [e5, Option.bind_some]
  dsimp only
  obtain ⟨ms, eo, ho1, ho2⟩ := loop_inv (f := madeGood_b2 (ws, s1) (r2, s2) ((j : Int), s4) (sh, s5)) (fun m x => ∃ k : Nat, m = sh.length - k ∧ k ≤ sh.length ∧ x.1 = (k : Int) ∧ x.2.map (·.Share) = sh.take k ∧ x.2.map (·.Name) = (names4.drop j).take k)
   (fun r => r.map (·.Share) = sh ∧ r.map (·.Name) = (names4.drop j).take sh.length) (by
   rintro m ⟨i, c1⟩ ⟨k, rfl, hk, hi, hsum, hnm⟩
   simp only at hi hsum hnm
   subst hi
   unfold madeGood_b2
   dsimp only
   by_cases hlt : k < sh.length
   ·refine .inl ?_
    have hdj : k < (names4.drop j).length := by rw [Int.toNat_natCast] at hdl; omega
    rw [if_pos (by simp only [decide_eq_true_eq]; omega), if_pos (by omega)]
    have hget : ([([103, 108, 97, 115, 115] : Str), ([108, 97, 109, 112] : Str), ([115, 116, 101, 101, 108] : Str), ([119, 111, 111, 100] : Str)].drop (j : Int).toNat)[(k : Int).toNat]? = some ((names4.drop j)[k]) := by
     show (names4.drop (j : Int).toNat)[(k : Int).toNat]? = _
     rw [Int.toNat_natCast, Int.toNat_natCast, List.getElem?_eq_getElem hdj]
    rw [hget, Option.bind_some, if_pos (by omega), Int.toNat_natCast, List.getElem?_eq_getElem hlt, Option.bind_some]
    have hcl : c1.length = k := by have := congrArg List.length hsum; simp at this; omega
    rw [if_pos (by simp; omega), w64 (n := (k : Int) + 1) (by omega)]
    refine ⟨_, sh.length - (k + 1), by omega, rfl, k + 1, rfl, by omega, rfl, ?_, ?_⟩
    ·simp only [List.map_append, List.map_cons, List.map_nil, hsum]
     rw [List.take_add_one, List.getElem?_eq_getElem hlt]; rfl
    ·simp only [List.map_append, List.map_cons, List.map_nil, hnm]
     rw [List.take_add_one, List.getElem?_eq_getElem hdj]; rfl
   ·refine .inr ?_
    have : k = sh.length := by omega
    subst this
    rw [if_neg (by simp)]
    exact ⟨_, rfl, by simpa using hsum, hnm⟩) sh.length ((0 : Int), []) ⟨0, rfl, by omega, rfl, by simp, by simp⟩
  rw [eo, Option.bind_some]
  try dsimp only
  have hml : ms.length = sh.length := by have := congrArg List.length ho1; simpa using this
  exact parts_ok _ _ ⟨w1, w2, w3⟩ ms ⟨by rw [ho2]; exact asc_names.sub ((List.take_sublist _ _).trans (List.drop_sublist _ _)), by omega, .inr (by rw [ho1]; exact hsh)⟩ _ _ k5
 ·exact parts_ok _ _ ⟨w1, w2, w3⟩ [] ⟨⟨by simp, by simp⟩, by simp, .inl rfl⟩ _ _ k3
theorem sum_pos {l : List Int} (h : ∀ x, x ∈ l → 1 ≤ x ∧ x ≤ 1000000) : 0 ≤ l.sum := by
 induction l with
 | nil => simp
 | cons x l ih => have := h x (by simp); have := ih (fun y hy => h y (by simp [hy])); simp only [List.sum_cons]; omega
theorem sumW_acc {l : List Int} (h : ∀ x, x ∈ l → 1 ≤ x ∧ x ≤ 1000000) : ∀ a : Int, 0 ≤ a → a + l.sum ≤ 1000000000 → l.foldl (fun s x => IntKind.i64.wrap (s + x)) a = a + l.sum := by
 induction l with
 | nil => intro a _ _; simp
 | cons x l ih =>
  intro a ha hs
  have hx := h x (by simp)
  have hp := sum_pos (fun y hy => h y (List.mem_cons_of_mem _ hy))
  simp only [List.sum_cons] at hs ⊢
  rw [List.foldl_cons, w64 (by omega), ih (fun y hy => h y (by simp [hy])) (a + x) (by omega) (by omega)]
  omega
theorem ShOk.full {l : List Int} (h : ShOk l) : full l = true := by
 have := sumW_acc h.rng 0 (by omega) (by rw [h.sum]; omega)
 unfold C.full sumW
 rw [this, h.sum]; simp
theorem ShOk.far {l : List Int} (h : ∀ x, x ∈ l → 1 ≤ x ∧ x ≤ 1000000) : far l = false := by
 unfold C.far
 rw [List.any_eq_false]
 intro x hx
 have := h x hx
 unfold out1
 exact rng_f this
theorem Shs.full {l : List Int} (h : Shs l) : full l = true := by
 rcases h with rfl | h
 ·rfl
 ·exact h.full
theorem Shs.far {l : List Int} (h : Shs l) : far l = false := by
 rcases h with rfl | h
 ·rfl
 ·exact ShOk.far h.rng
theorem MOk.gv {g : ApiGood} (h : MOk g) : gv g = 0 := by
 obtain ⟨⟨a1, a2, a3⟩, ⟨b1, b2, b3⟩, ⟨c1, c2, c3⟩⟩ := h
 have hp : (g.Parts.all fun p => C.some1 p.Words) = true := by
  rw [List.all_eq_true]
  intro p hp
  obtain ⟨d1, d2, d3⟩ := c1 p hp
  exact d1.some1 d2 (by omega)
 have hm := b1.wp
 rw [List.length_map] at hm
 unfold C.gv gvTail
 rw [a1.some1 a2 (by omega), if_neg (by simp), if_neg (by omega), hm, if_neg (by simp), hp, if_neg (by simp), b3.far, c3.far, b3.full, c3.full]
 rfl
theorem Asc.len {l : List Str} (h : Asc l) : ∀ x, x ∈ l → x.length ≤ 12 := fun x hx => by
 have := h.2 x hx
 simp [isW] at this
 omega
theorem Shs.rng {l : List Int} (h : Shs l) : ∀ x, x ∈ l → okI_i64 x := fun x hx => by
 rcases h with rfl | h
 ·simp at hx
 ·have := h.rng x hx; unfold okI_i64; omega
/-- A description that holds. -/
structure GOk (g : ApiGood) : Prop where
  words : WOk g.Words
  mats : g.Materials.length ≤ 8 ∧ ∀ m, m ∈ g.Materials → isW m.Name = true ∧ 1 ≤ m.Share ∧ m.Share ≤ 1000000
  parts : g.Parts.length ≤ 6 ∧ ∀ p, p ∈ g.Parts → WOk p.Words ∧ 1 ≤ p.Share ∧ p.Share ≤ 1000000
theorem far_false {l : List Int} (h : far l = false) : ∀ x, x ∈ l → 1 ≤ x ∧ x ≤ 1000000 := fun x hx => by
 unfold far at h
 have := List.any_eq_false.1 h x hx
 unfold out1 at this
 by_cases h1 : x < 1
 ·simp [h1] at this
 ·by_cases h2 : 1000000 < x
  ·simp [h2] at this
  ·omega
theorem gv_gok {g : ApiGood} (h : gv g = 0) : GOk g := by
 unfold gv at h
 split at h
 ·cases h
 rename_i h1
 split at h
 ·cases h
 rename_i h2
 split at h
 ·cases h
 rename_i h3
 split at h
 ·cases h
 rename_i h4
 unfold gvTail at h
 split at h
 ·cases h
 rename_i h5
 simp only [Bool.not_eq_false] at h1 h3 h4
 simp only [Bool.or_eq_true, not_or, Bool.not_eq_true] at h5
 have hf1 := far_false h5.1
 have hf2 := far_false h5.2
 refine ⟨some1_wok h1, ⟨by omega, fun m hm => ?_⟩, ⟨by omega, fun p hp => ?_⟩⟩
 ·have hn := wp_isW (l := g.Materials.map (·.Name)) (by rw [List.length_map]; exact h3) m.Name (List.mem_map.2 ⟨m, hm, rfl⟩)
  have := hf1 m.Share (List.mem_map.2 ⟨m, hm, rfl⟩)
  exact ⟨hn, this⟩
 ·have := hf2 p.Share (List.mem_map.2 ⟨p, hp, rfl⟩)
  exact ⟨some1_wok (List.all_eq_true.1 h4 p hp), this⟩
end Go.C
end

section
set_option linter.unusedVariables false
set_option linter.unusedSimpArgs false
namespace Go.C
open Go.V
theorem sort_small (l : List ApiComponent) (h : l.length ≤ 19) : sortStable l = (insSort l 0 (l.length : Int)) := by
 unfold sortStable stableSort
 have e1 : loopO (stableSort_b3 (l.length : Int)) ((20 : Int), (0 : Int), l) = some ((0 : Int), l) := by
  rw [loop_stop]
  unfold stableSort_b3
  dsimp only
  rw [if_neg (by simp only [decide_eq_true_eq]; omega)]
 rw [e1, Option.bind_some]
 dsimp only
 unfold stableSort_j1
 cases hi : insSort l 0 (l.length : Int) with
 | none => rfl
 | some v =>
  rw [Option.bind_some]
  have e2 : loopO (stableSort_b1 (l.length : Int) v) (20 : Int) = some () := by
   rw [loop_stop]
   unfold stableSort_b1
   dsimp only
   rw [if_neg (by simp only [decide_eq_true_eq]; omega)]
  rw [e2]; rfl
/-- A description of few words, materials and parts. -/
structure GB (g : ApiGood) : Prop where
  words : g.Words.length ≤ 8
  mats : g.Materials.length ≤ 8
  parts : g.Parts.length ≤ 6 ∧ ∀ p, p ∈ g.Parts → p.Words.length ≤ 8
theorem MOk.GB {g : ApiGood} (h : MOk g) : GB g := ⟨by have := h.words.2.2; omega, by have := h.mats.2.1; omega, by have := h.parts.2.1; omega, fun p hp => by have := (h.parts.1 p hp).2.2; omega⟩
theorem GOk.GB {g : ApiGood} (h : GOk g) : GB g := ⟨h.words.2.1, h.mats.1, h.parts.1, fun p hp => (h.parts.2 p hp).1.2.1⟩
abbrev Cp := ApiComponent
/-- Put in behind all that have at least its share. -/
def insR : List Cp → Cp → List Cp
  | [], x => [x]
  | y :: p, x => if y.Share < x.Share then x :: y :: p else y :: insR p x
def Desc (l : List Cp) : Prop := l.Pairwise (fun a b => b.Share ≤ a.Share)
theorem insR_split {x : Cp} {B : List Cp} (hB : ∀ b, b ∈ B → b.Share < x.Share) : ∀ {A : List Cp}, (∀ a, a ∈ A → x.Share ≤ a.Share) → insR (A ++ B) x = A ++ x :: B
 | [], _ => by
  cases B with
  | nil => rfl
  | cons b B => simp only [List.nil_append, insR]; rw [if_pos (hB b (by simp))]
 | a :: A, h => by
  simp only [List.cons_append, insR]
  rw [if_neg (by have := h a (by simp); omega), insR_split hB (fun b hb => h b (by simp [hb]))]
theorem insR_mem {x y : Cp} : ∀ {p : List Cp}, y ∈ insR p x → y = x ∨ y ∈ p
 | [], h => by simp [insR] at h; exact .inl h
 | z :: p, h => by
  simp only [insR] at h
  split at h
  ·simp only [List.mem_cons] at h ⊢; exact h
  ·rcases List.mem_cons.1 h with rfl | h
   ·simp
   ·rcases insR_mem h with h | h <;> simp [h]
theorem insR_desc {x : Cp} : ∀ {p : List Cp}, Desc p → Desc (insR p x)
 | [], h => by simp [insR, Desc]
 | z :: p, h => by
  unfold Desc at h ⊢
  rw [List.pairwise_cons] at h
  simp only [insR]
  split
  ·rename_i hz
   refine List.pairwise_cons.2 ⟨fun b hb => ?_, List.pairwise_cons.2 h⟩
   rcases List.mem_cons.1 hb with rfl | hb
   ·omega
   ·have := h.1 b hb; omega
  ·rename_i hz
   refine List.pairwise_cons.2 ⟨fun b hb => ?_, insR_desc h.2⟩
   rcases insR_mem hb with rfl | hb
   ·omega
   ·exact h.1 b hb
theorem insR_len {x : Cp} : ∀ {p : List Cp}, (insR p x).length = p.length + 1
 | [] => rfl
 | z :: p => by simp only [insR]; split <;> simp [insR_len]
def isort (l : List Cp) : List Cp := l.foldl insR []
theorem isort_snoc (l : List Cp) (x : Cp) : isort (l ++ [x]) = insR (isort l) x := by simp [isort]
theorem snoc_ind {α : Type} {P : List α → Prop} (h0 : P []) (h1 : ∀ l x, P l → P (l ++ [x])) : ∀ l, P l := by
 intro l
 have : ∀ n, ∀ l : List α, l.length = n → P l := by
  intro n
  induction n with
  | zero => intro l hl; rw [List.eq_nil_of_length_eq_zero hl]; exact h0
  | succ n ih =>
   intro l hl
   have hne : l ≠ [] := fun h => by subst h; cases hl
   rw [← List.dropLast_concat_getLast hne]
   exact h1 _ _ (ih _ (by simp [hl]))
 exact this _ l rfl
theorem isort_desc : ∀ l, Desc (isort l) := snoc_ind (by simp [isort, Desc]) (fun l x h => by rw [isort_snoc]; exact insR_desc h)
theorem isort_len : ∀ l, (isort l).length = l.length := snoc_ind (P := fun l => (isort l).length = l.length) rfl (fun l x h => by rw [isort_snoc, insR_len, h]; simp)
theorem isort_mem : ∀ l, ∀ y, y ∈ isort l → y ∈ l := snoc_ind (P := fun l => ∀ y, y ∈ isort l → y ∈ l) (fun y h => h) (fun l x h y hy => by
 rw [isort_snoc] at hy
 rcases insR_mem hy with rfl | hy
 ·simp
 ·simp [h y hy])
theorem charLess_eq (a b : Cp) : ∃ v, charLess a b = some v ∧ (v < 0 ↔ b.Share < a.Share) := by
 unfold charLess cmpInt isNaN
 simp only [Option.bind_some, bne_self_eq_false, Bool.false_eq_true, if_false]
 by_cases h1 : b.Share < a.Share
 ·exact ⟨-1, by simp [h1], by omega⟩
 ·by_cases h2 : a.Share < b.Share
  ·exact ⟨1, by simp [h1, h2], by omega⟩
  ·exact ⟨0, by simp [h1, h2], by omega⟩
theorem ins_inner (x : Cp) (rest : List Cp) (b i : Int) : ∀ (m : Nat) (A B : List Cp), A.length = m → Desc (A ++ B) → (∀ y, y ∈ B → y.Share < x.Share) → (A ++ x :: (B ++ rest)).length ≤ 1000 →
  loopO (insSort_b2 0 b i) ((A.length : Int), A ++ x :: (B ++ rest)) = some (insR (A ++ B) x ++ rest) := by
 intro m
 induction m with
 | zero =>
  intro A B hm hd hB hlen
  have hA : A = [] := List.eq_nil_of_length_eq_zero hm
  subst hA
  rw [loop_stop (r := x :: (B ++ rest))]
  ·have := insR_split hB (A := []) (fun a h => by cases h)
   rw [this]; rfl
  ·unfold insSort_b2
   dsimp only
   rw [if_pos (by simp), if_pos (by simp), if_neg (by simp), Option.bind_some, if_neg (by simp)]
   rfl
 | succ m ih =>
  intro A B hm hd hB hlen
  have hne : A ≠ [] := fun h => by subst h; cases hm
  obtain ⟨A', a, rfl⟩ : ∃ A' a, A = A' ++ [a] := ⟨_, _, (List.dropLast_concat_getLast hne).symm⟩
  have hA' : A'.length = m := by simpa using hm
  have hl : ((A' ++ [a]).length : Int) = (m : Int) + 1 := by simp [hA']
  generalize hrow : (A' ++ [a]) ++ x :: (B ++ rest) = row at hlen
  have hrl : m + 1 < row.length := by rw [← hrow]; simp; omega
  have g1 : row.getD (m + 1) default = x := by
   rw [← hrow, List.getD_eq_getElem?_getD, List.getElem?_append_right (by simp; omega)]; simp [hA']
  have g2 : row.getD m default = a := by
   rw [← hrow, List.append_assoc, List.getD_eq_getElem?_getD, List.getElem?_append_right (by omega)]; simp [hA']
  have w1 : IntKind.i64.wrap ((m : Int) + 1 - 1) = (m : Int) := by rw [w64 (by omega)]; omega
  have t1 : ((m : Int) + 1).toNat = m + 1 := by omega
  obtain ⟨v, hv1, hv2⟩ := charLess_eq x a
  have hset : (row.set (m + 1) a).set m x = A' ++ x :: ((a :: B) ++ rest) := by
   rw [← hrow]
   have e1 : ((A' ++ [a]) ++ x :: (B ++ rest)).set (m + 1) a = (A' ++ [a]) ++ a :: (B ++ rest) := by
    rw [List.set_append_right _ _ (by simp; omega)]; simp [hA']
   rw [e1, List.append_assoc, List.set_append_right _ _ (by omega)]
   simp [hA']
  have body : insSort_b2 0 b i ((m : Int) + 1, row) = if v < 0 then some (.inl ((m : Int), A' ++ x :: ((a :: B) ++ rest))) else some (.inr row) := by
   unfold insSort_b2
   dsimp only
   rw [w1, t1, Int.toNat_natCast, g1, g2, if_pos (fun _ => by omega), if_pos (fun _ => by omega), if_pos (by simp only [decide_eq_true_eq]; omega), hv1, Option.bind_some]
   have e0 : decide ((0 : Int) < (m : Int) + 1) = true := by simp only [decide_eq_true_eq]; omega
   rw [e0]
   by_cases hv : v < 0
   ·rw [if_pos (by simp [hv]), if_pos (by omega), if_pos (by omega), if_pos (by omega), if_pos (by simp only [List.length_set]; omega), if_pos hv, hset]
   ·rw [if_neg (by simp [hv]), if_neg hv]
  rw [hl]
  by_cases hv : v < 0
  ·rw [loop_step (x := ((m : Int), A' ++ x :: ((a :: B) ++ rest))) (by rw [body, if_pos hv])]
   have := ih A' (a :: B) hA' (by simpa using hd) (fun y hy => by
    rcases List.mem_cons.1 hy with rfl | hy
    ·exact hv2.1 hv
    ·exact hB y hy) (by rw [← hrow] at hlen; simp at hlen ⊢; omega)
   rw [hA'] at this
   rw [this]; simp
  ·rw [loop_stop (r := row) (by rw [body, if_neg hv]), ← hrow]
   have hge : x.Share ≤ a.Share := by
    have : ¬ a.Share < x.Share := fun h => hv (hv2.2 h)
    omega
   rw [insR_split hB (A := A' ++ [a]) (fun y hy => by
    rcases List.mem_append.1 hy with h | h
    ·have hd1 : Desc (A' ++ ([a] ++ B)) := by simpa using hd
     have := (List.pairwise_append.1 hd1).2.2 y h a (by simp)
     omega
    ·simp at h; subst h; exact hge)]
   simp
theorem insSort_eq (l : List Cp) (hl : l.length ≤ 500) : insSort l 0 (l.length : Int) = some (isort l) := by
 unfold insSort
 rw [w64 (n := (0 : Int) + 1) (by omega)]
 have key : ∀ (m k : Nat), k + m = l.length → 1 ≤ k → loopO (insSort_b1 0 (l.length : Int)) ((k : Int), isort (l.take k) ++ l.drop k) = some (isort l) := by
  intro m
  induction m with
  | zero =>
   intro k hk _
   have : k = l.length := by omega
   subst this
   rw [loop_stop (r := isort l)]
   unfold insSort_b1
   dsimp only
   rw [if_neg (by simp)]; simp
  | succ m ih =>
   intro k hk h1
   have hlt : k < l.length := by omega
   rw [loop_step (x := (((k + 1 : Nat) : Int), isort (l.take (k + 1)) ++ l.drop (k + 1)))]
   ·exact ih (k + 1) (by omega) (by omega)
   ·unfold insSort_b1
    dsimp only
    rw [if_pos (by simp only [decide_eq_true_eq]; omega)]
    have hil : (isort (l.take k)).length = k := by rw [isort_len]; simp; omega
    have := ins_inner l[k] (l.drop (k + 1)) (l.length : Int) (k : Int) k (isort (l.take k)) [] hil (by simpa using isort_desc _) (fun y hy => by cases hy) (by simp [hil]; omega)
    simp only [List.nil_append, List.append_nil, hil] at this
    rw [List.drop_eq_getElem_cons hlt, this, Option.bind_some]
    try dsimp only
    unfold insSort_j1
    rw [w64 (n := (k : Int) + 1) (by omega), ← isort_snoc, List.take_add_one, List.getElem?_eq_getElem hlt]
    rfl
 cases l with
 | nil =>
  rw [loop_stop (r := [])]
  ·rfl
  ·unfold insSort_b1
   rfl
 | cons y l =>
  have := key l.length 1 (by simp; omega) (by omega)
  have e : isort ((y :: l).take 1) ++ (y :: l).drop 1 = y :: l := rfl
  rw [e] at this
  show (loopO _ (((1 : Nat) : Int), y :: l)).bind _ = _
  rw [this]; rfl
/-- k is the first place of a greatest share. -/
structure Best (l : List Cp) (k : Nat) : Prop where
  lt : k < l.length
  before : ∀ i, i < k → (l.getD i default).Share < (l.getD k default).Share
  all : ∀ i, i < l.length → (l.getD i default).Share ≤ (l.getD k default).Share
theorem Best.unique {l : List Cp} {k k' : Nat} (h : Best l k) (h' : Best l k') : k = k' := by
 rcases Nat.lt_trichotomy k k' with hlt | rfl | hlt
 ·have := h'.before k hlt; have := h.all k' h'.lt; omega
 ·rfl
 ·have := h.before k' hlt; have := h'.all k h.lt; omega
inductive Sel : List Cp → List Cp → Prop
 | nil : Sel [] []
 | cons {l r : List Cp} {k : Nat} : Best l k → Sel (l.eraseIdx k) r → Sel l (l.getD k default :: r)
theorem Sel.fn {l r r' : List Cp} (h : Sel l r) (h' : Sel l r') : r = r' := by
 induction h generalizing r' with
 | nil =>
  cases h' with
  | nil => rfl
  | cons hb _ => have := hb.lt; simp at this
 | cons hb hs ih =>
  cases h' with
  | nil => have := hb.lt; simp at this
  | cons hb' hs' =>
   obtain rfl := hb.unique hb'
   rw [ih hs']
theorem getD_app_l {l m : List Cp} {i : Nat} (h : i < l.length) : (l ++ m).getD i default = l.getD i default := by
 rw [List.getD_eq_getElem?_getD, List.getD_eq_getElem?_getD, List.getElem?_append_left h]
theorem getD_app_r {l : List Cp} {x : Cp} : (l ++ [x]).getD l.length default = x := by
 rw [List.getD_eq_getElem?_getD, List.getElem?_append_right (Nat.le_refl _)]; simp
theorem Sel.snoc {l r : List Cp} (h : Sel l r) (x : Cp) : Sel (l ++ [x]) (insR r x) := by
 induction h with
 | nil =>
  have hb : Best [x] 0 := ⟨by simp, fun i h => by omega, fun i h => by simp at h; subst h; exact Int.le_refl _⟩
  exact Sel.cons hb Sel.nil
 | @cons l r k hb hs ih =>
  simp only [insR]
  split
  ·rename_i hx
   have hb' : Best (l ++ [x]) l.length := ⟨by simp, fun i hi => by
    rw [getD_app_l hi, getD_app_r]
    have := hb.all i hi; omega, fun i hi => by
    rw [getD_app_r]
    by_cases h : i < l.length
    ·rw [getD_app_l h]; have := hb.all i h; omega
    ·have : i = l.length := by simp at hi; omega
     subst this; rw [getD_app_r]; exact Int.le_refl _⟩
   have e : (l ++ [x]).eraseIdx l.length = l := by rw [List.eraseIdx_append_of_length_le (Nat.le_refl _)]; simp
   have := Sel.cons (r := l.getD k default :: r) hb' (by rw [e]; exact Sel.cons hb hs)
   rwa [getD_app_r] at this
  ·rename_i hx
   have hb' : Best (l ++ [x]) k := ⟨by have := hb.lt; simp; omega, fun i hi => by
    rw [getD_app_l (by have := hb.lt; omega), getD_app_l hb.lt]; exact hb.before i hi, fun i hi => by
    rw [getD_app_l hb.lt]
    by_cases h : i < l.length
    ·rw [getD_app_l h]; exact hb.all i h
    ·have : i = l.length := by simp at hi; omega
     subst this; rw [getD_app_r]; omega⟩
   have := Sel.cons (r := insR r x) hb' (by rw [List.eraseIdx_append_of_lt_length hb.lt]; exact ih)
   rwa [getD_app_l hb.lt] at this
theorem sel_isort : ∀ l, Sel l (isort l) := snoc_ind (P := fun l => Sel l (isort l)) Sel.nil (fun l x h => by rw [isort_snoc]; exact h.snoc x)
theorem ref_best (out l : List Cp) (hl : 0 < l.length) (hb : l.length ≤ 1000) : ∃ k : Nat, loopO refCharacters_b2 ((1 : Int), (0 : Int), out, l) = some ((k : Int), out, l) ∧ Best l k := by
 obtain ⟨r, e, k, rfl, hk⟩ := loop_inv (f := refCharacters_b2) (fun n s => ∃ i k : Nat, n = l.length - i ∧ i ≤ l.length ∧ s = ((i : Int), (k : Int), out, l) ∧ k < l.length ∧ (∀ j, j < k → (l.getD j default).Share < (l.getD k default).Share) ∧ ∀ j, j < i → (l.getD j default).Share ≤ (l.getD k default).Share)
  (fun r => ∃ k : Nat, r = ((k : Int), out, l) ∧ Best l k) (by
  rintro n s ⟨i, k, rfl, hi, rfl, hk, h1, h2⟩
  unfold refCharacters_b2 refCharacters_j4
  dsimp only
  by_cases hlt : i < l.length
  ·refine .inl ?_
   rw [if_pos (by simp only [decide_eq_true_eq]; omega), if_pos (by omega), if_pos (by omega), Int.toNat_natCast, Int.toNat_natCast, w64 (n := (i : Int) + 1) (by omega)]
   by_cases hc : (l.getD k default).Share < (l.getD i default).Share
   ·rw [if_pos (by simpa using hc)]
    refine ⟨_, l.length - (i + 1), by omega, rfl, i + 1, i, rfl, by omega, rfl, hlt, fun j hj => ?_, fun j hj => ?_⟩
    ·have := h2 j hj; omega
    ·by_cases e : j = i
     ·subst e; exact Int.le_refl _
     ·have := h2 j (by omega); omega
   ·rw [if_neg (by simpa using hc)]
    refine ⟨_, l.length - (i + 1), by omega, rfl, i + 1, k, rfl, by omega, rfl, hk, h1, fun j hj => ?_⟩
    by_cases e : j = i
    ·subst e; omega
    ·exact h2 j (by omega)
  ·refine .inr ?_
   rw [if_neg (by simp only [decide_eq_true_eq]; omega)]
   exact ⟨_, rfl, k, rfl, hk, h1, fun j hj => h2 j (by omega)⟩) (l.length - 1) ((1 : Int), (0 : Int), out, l) ⟨1, 0, rfl, by omega, rfl, hl, fun j hj => by omega, fun j hj => by
   have : j = 0 := by omega
   subst this; exact Int.le_refl _⟩
 exact ⟨k, e, hk⟩
theorem ref_sel : ∀ (n : Nat) (l out : List Cp), l.length = n → n ≤ 500 → out.length + n ≤ 1000 → ∃ r, Sel l r ∧ loopO refCharacters_b1 (out, l) = some (out ++ r) := by
 intro n
 induction n with
 | zero =>
  intro l out hl _ _
  have : l = [] := List.eq_nil_of_length_eq_zero hl
  subst this
  refine ⟨[], Sel.nil, ?_⟩
  rw [loop_stop (r := out)]
  ·simp
  ·unfold refCharacters_b1
   rfl
 | succ n ih =>
  intro l out hl hn ho
  obtain ⟨k, e1, hk⟩ := ref_best out l (by omega) (by omega)
  have hkl := hk.lt
  obtain ⟨r, hr, e2⟩ := ih (l.eraseIdx k) (out ++ [l.getD k default]) (by rw [List.length_eraseIdx_of_lt hkl]; omega) (by omega) (by simp; omega)
  refine ⟨_, Sel.cons hk hr, ?_⟩
  rw [loop_step (x := (out ++ [l.getD k default], l.eraseIdx k)), e2]
  ·simp
  ·unfold refCharacters_b1
   dsimp only
   rw [if_pos (by simp only [decide_eq_true_eq]; omega), e1, Option.bind_some]
   dsimp only
   unfold refCharacters_j3
   rw [w64 (n := (k : Int) + 1) (by omega), Int.toNat_natCast, if_pos (by omega), if_pos (by simp; omega), if_pos (by omega), if_pos (by simp; omega), if_pos (by omega), if_pos (by simp; omega)]
   have e3 : ((k : Int) + 1).toNat = k + 1 := by omega
   rw [e3, List.eraseIdx_eq_take_drop_succ]
   rfl
/-- What may give the goods their character. -/
def chars (g : ApiGood) : List Cp := if g.Parts = [] then g.Materials.map (fun m => ⟨[m.Name], m.Share⟩) else g.Parts
theorem foldl_map1 {α β : Type} (f : α → β) : ∀ (xs : List α) (a : List β), xs.foldl (fun b x => b ++ [f x]) a = a ++ xs.map f
 | [], a => by simp
 | x :: xs, a => by rw [List.foldl_cons, foldl_map1 f xs]; simp
theorem goodsCharacters_eq {g : ApiGood} (h : GB g) : goodsCharacters g = some (isort (chars g)) := by
 have c1 := h.mats
 have c2 := h.parts.1
 unfold goodsCharacters
 have l1 := loop_fold (β := List Cp) g.Parts (goodsCharacters_b2 g) (fun i b => ((i : Int), b)) (fun b x => b ++ [x]) (fun b => b) (fun i b => b.length = i)
  (fun i x b hI hx => by simp [hI])
  (fun i x b hI hx => by
   have hlt := lt_of_get hx
   have hw := h.parts.2 x (List.mem_of_getElem? hx)
   unfold goodsCharacters_b2 cloneS
   dsimp only
   rw [if_pos (by simp only [decide_eq_true_eq]; omega), if_pos (by omega), Int.toNat_natCast, hx, Option.bind_some, if_pos (by omega), Option.bind_some, if_pos (by rw [hI]; simp; omega), w64 (n := (i : Int) + 1) (by omega)]
   rfl)
  (fun b hI => by unfold goodsCharacters_b2; dsimp only; rw [if_neg (by simp)]) [] rfl
 rw [show ((0 : Int), ([] : List Cp)) = (((0 : Nat) : Int), ([] : List Cp)) from rfl, l1, foldl_map1 (fun x : Cp => x), Option.bind_some]
 simp only [List.nil_append, List.map_id']
 have fin : ∀ l : List Cp, l.length ≤ 8 → goodsCharacters_j2 l = some (isort l) := fun l hl => by
  unfold goodsCharacters_j2
  rw [sort_small l (by omega), insSort_eq l (by omega)]; rfl
 unfold goodsCharacters_j1 chars
 by_cases hp : g.Parts = []
 ·rw [if_pos (by rw [hp]; rfl), if_pos hp, hp]
  have l2 := loop_fold (β := List Cp) g.Materials (goodsCharacters_b1 g) (fun i b => ((i : Int), b)) (fun b x => b ++ [(⟨[x.Name], x.Share⟩ : Cp)]) (fun b => b) (fun i b => b.length = i)
   (fun i x b hI hx => by simp [hI])
   (fun i x b hI hx => by
    have hlt := lt_of_get hx
    unfold goodsCharacters_b1
    dsimp only
    rw [if_pos (by simp only [decide_eq_true_eq]; omega), if_pos (by omega), Int.toNat_natCast, hx, Option.bind_some, if_pos (by rw [hI]; simp; omega), w64 (n := (i : Int) + 1) (by omega)]
    rfl)
   (fun b hI => by unfold goodsCharacters_b1; dsimp only; rw [if_neg (by simp)]) [] rfl
  rw [show ((0 : Int), ([] : List Cp)) = (((0 : Nat) : Int), ([] : List Cp)) from rfl, l2, foldl_map1 (fun x : ApiMaterial => (⟨[x.Name], x.Share⟩ : Cp)), Option.bind_some, List.nil_append]
  exact fin _ (by simp; omega)
 ·have hpl : g.Parts.length ≠ 0 := fun h => hp (List.eq_nil_of_length_eq_zero h)
  rw [if_neg (by simp only [beq_iff_eq]; omega), if_neg hp]
  exact fin _ (by omega)
theorem refCharacters_eq {g : ApiGood} (h : GB g) : refCharacters g = some (isort (chars g)) := by
 have c1 := h.mats
 have c2 := h.parts.1
 have fin : ∀ l : List Cp, l.length ≤ 8 → refCharacters_j1 l = some (isort l) := fun l hl => by
  unfold refCharacters_j1 refCharacters_j2
  obtain ⟨r, h1, h2⟩ := ref_sel l.length l [] rfl (by omega) (by simp; omega)
  rw [h2, h1.fn (sel_isort l)]; rfl
 unfold refCharacters chars
 rw [if_pos (by omega)]
 by_cases hp : g.Parts = []
 ·rw [if_pos (by rw [hp]; rfl), if_pos hp, hp]
  have l2 := loop_fold (β := List Cp) g.Materials (refCharacters_b3 g) (fun i b => ((i : Int), b)) (fun b x => b ++ [(⟨[x.Name], x.Share⟩ : Cp)]) (fun b => b) (fun i b => b.length = i)
   (fun i x b hI hx => by simp [hI])
   (fun i x b hI hx => by
    have hlt := lt_of_get hx
    unfold refCharacters_b3
    dsimp only
    rw [if_pos (by simp only [decide_eq_true_eq]; omega), if_pos (by omega), Int.toNat_natCast, hx, Option.bind_some, if_pos (by omega), Option.bind_some, if_pos (by rw [hI]; simp; omega), w64 (n := (i : Int) + 1) (by omega)]
    rfl)
   (fun b hI => by unfold refCharacters_b3; dsimp only; rw [if_neg (by simp)]) [] rfl
  rw [show ((0 : Int), ([] : List Cp)) = (((0 : Nat) : Int), ([] : List Cp)) from rfl, l2, foldl_map1 (fun x : ApiMaterial => (⟨[x.Name], x.Share⟩ : Cp)), Option.bind_some, List.nil_append]
  exact fin _ (by simp; omega)
 ·have hpl : g.Parts.length ≠ 0 := fun h => hp (List.eq_nil_of_length_eq_zero h)
  rw [if_neg (by simp only [beq_iff_eq]; omega), if_neg hp]
  exact fin _ (by omega)
end Go.C
end

section
set_option linter.unusedVariables false
set_option linter.unusedSimpArgs false
namespace Go.C
open Go.V
theorem terms_ok {s : CustomsmadeSource} (hs : SOk s) : ∃ ts s', srcTerms s = some (ts, s') ∧ ts ≠ [] ∧ ts.length ≤ 2 ∧ (∀ t, t ∈ ts → Asc t ∧ t ≠ [] ∧ t.length ≤ 3) ∧ SOk s' := by
 unfold srcTerms
 obtain ⟨w1, s1, e1, a1, a2, a3, k1⟩ := words_ok hs 2 (by omega) (by omega)
 rw [show (2 : Int) = ((2 : Nat) : Int) from rfl, e1, Option.bind_some]
 obtain ⟨r, s2, e2, b1, b2, k2⟩ := next_ok (n := 3) k1 (by omega) (by omega)
 dsimp only
 rw [e2, Option.bind_some]
 dsimp only
 split
 ·obtain ⟨w3, s3, e3, c1, c2, c3, k3⟩ := words_ok k2 3 (by omega) (by omega)
  rw [show (3 : Int) = ((3 : Nat) : Int) from rfl, e3, Option.bind_some, if_pos (by simp)]
  refine ⟨_, _, rfl, by simp, by simp, fun t ht => ?_, k3⟩
  simp at ht
  rcases ht with rfl | rfl
  ·exact ⟨a1, a2, by omega⟩
  ·exact ⟨c1, c2, c3⟩
 ·refine ⟨_, _, rfl, by simp, by simp, fun t ht => ?_, k2⟩
  simp at ht
  subst ht
  exact ⟨a1, a2, by omega⟩
/-- An entry that was made. -/
structure EOk (code : Str) (e : Ent) : Prop where
  code : e.Code = code
  one : oneE e = 0
  days : 0 ≤ e.From ∧ e.From < e.To ∧ e.To ≤ 36525
  terms : e.Terms.length ≤ 2 ∧ ∀ t, t ∈ e.Terms → Asc t ∧ t ≠ [] ∧ t.length ≤ 3
/-- The versions of a code, for the days from 0 to T. -/
def Vers (code : Str) (T : Int) (vs : List Ent) : Prop :=
  (∃ x, vs = [x] ∧ EOk code x ∧ x.From = 0 ∧ x.To = T) ∨ (∃ y x, vs = [y, x] ∧ EOk code y ∧ EOk code x ∧ y.From = 0 ∧ y.To = 10 ∧ x.From = 10 ∧ x.To = T)
def child (code : Str) (i : Nat) : Str := code ++ [48, UInt8.ofNat (49 + i)]
def Made : Nat → Str → Int → List Ent → Prop
 | 0, _, _, _ => False
 | n + 1, code, stop, out => ∃ T vs ks, Vers code T vs ∧ T ≤ stop ∧ out = vs ++ List.flatten ks ∧ ks.length ≤ 3 ∧ (code.length = 8 → ks = []) ∧ ∀ i k, ks[i]? = some k → Made n (child code i) T k
def Cd (code : Str) : Prop := code.all isD = true ∧ (code.length = 2 ∨ code.length = 4 ∨ code.length = 6 ∨ code.length = 8)
theorem Cd.lvl {code : Str} (h : Cd code) : lvl code = (code.length : Int) := by unfold C.lvl; exact if_pos h
theorem Cd.child {code : Str} (h : Cd code) (h8 : code.length ≠ 8) {i : Nat} (hi : i < 3) : Cd (child code i) := by
 obtain ⟨h1, h2⟩ := h
 have : i = 0 ∨ i = 1 ∨ i = 2 := by omega
 unfold C.child
 refine ⟨?_, by simp; omega⟩
 rw [List.all_append, h1]
 rcases this with rfl | rfl | rfl <;> decide
theorem one_zero {code : Str} (h : Cd code) {f t : Int} {ts : List (List Str)} {o : Bool} (hd : 0 ≤ f ∧ f < t ∧ t ≤ 36525) (hts : ts.length ≤ 2 ∧ ∀ t, t ∈ ts → Asc t ∧ t ≠ [] ∧ t.length ≤ 3)
  (h2 : code.length = 2 → ts = [] ∧ o = false) (h4 : code.length = 4 → ts ≠ [] ∧ o = false) (h6 : 4 < code.length → (ts = [] ↔ o = true)) : EOk code ⟨code, f, t, ts, o⟩ := by
 refine ⟨rfl, ?_, hd, hts⟩
 have hall : ts.all some1 = true := by
  rw [List.all_eq_true]
  intro x hx
  obtain ⟨a1, a2, a3⟩ := hts.2 x hx
  exact a1.some1 a2 (by omega)
 have hl := h.2
 unfold oneE tailE
 simp only
 rw [h.lvl, if_neg (by omega), if_neg (by omega), if_neg (by omega), hall, if_neg (by simp)]
 by_cases c2 : code.length = 2
 ·obtain ⟨rfl, rfl⟩ := h2 c2
  rw [c2]; simp
 ·have e2 : ¬ ((code.length : Int) = 2) := by omega
  rw [if_neg e2]
  by_cases c4 : code.length = 4
  ·obtain ⟨h5, rfl⟩ := h4 c4
   rw [if_pos (by omega : (code.length : Int) = 4)]
   simp [h5]
  ·rw [if_neg (by omega : ¬ ((code.length : Int) = 4))]
   have := h6 (by omega)
   cases o with
   | true => have := this.2 rfl; subst this; rfl
   | false =>
    have : ts ≠ [] := fun e => by have := this.1 e; cases this
    simp [this]
theorem byte_child {i : Nat} (h : i < 3) : bytesI [(IntKind.u8.wrap (IntKind.i64.wrap ((48 : Int) + ((i + 1 : Nat) : Int))))] = [UInt8.ofNat (49 + i)] := by
 have : i = 0 ∨ i = 1 ∨ i = 2 := by omega
 rcases this with rfl | rfl | rfl <;> decide
/-- What F, handed to the making of an entry, does for the codes below. -/
def FOk (n : Nat) (code : Str) (F : CustomsmadeSource → Str → Int → Option (List Ent × CustomsmadeSource)) : Prop :=
  code.length ≠ 8 → ∀ (s : CustomsmadeSource) (i : Nat) (T : Int), i < 3 → SOk s → 0 < T → T ≤ 36525 → ∃ out s', F s (child code i) T = some (out, s') ∧ SOk s' ∧ Made n (child code i) T out ∧ out.length ≤ 1000
theorem tail_ok {n : Nat} {code : Str} (hc : Cd code) {F : CustomsmadeSource → Str → Int → Option (List Ent × CustomsmadeSource)} (hF : FOk n code F) {ts : List (List Str)} {o : Bool} {pre : List Ent} {L : List Int} {I : Int} (hs : SOk ⟨L, I⟩) {f T stop : Int}
  (hv : Vers code T (pre ++ [⟨code, f, T, ts, o⟩])) (hT : T ≤ stop) (h0 : 0 < T) (h1 : T ≤ 36525) : ∃ out s', srcEntry_j3 F code ts o pre L I f T = some (out, s') ∧ SOk s' ∧ Made (n + 1) code stop out := by
 have hpl : pre.length ≤ 1 := by
  rcases hv with ⟨x, hx, _⟩ | ⟨y, x, hx, _⟩ <;> (have := congrArg List.length hx; simp only [List.length_append, List.length_cons, List.length_nil] at this; omega)
 unfold srcEntry_j3
 rw [if_pos (by simp; omega)]
 by_cases h8 : code.length = 8
 ·rw [if_pos (by simp [h8])]
  exact ⟨_, _, rfl, hs, T, _, [], hv, hT, by simp, by simp, fun _ => rfl, fun i k hk => by simp at hk⟩
 ·rw [if_neg (by simp; omega)]
  obtain ⟨r, s2, e2, b1, b2, k2⟩ := next_ok (n := 4) hs (by omega) (by omega)
  rw [e2, Option.bind_some]
  obtain ⟨m, rfl⟩ : ∃ m : Nat, r = (m : Int) := ⟨r.toNat, by omega⟩
  obtain ⟨⟨out, L2, I2⟩, er, ks, hk1, hk2, hk3, hk4⟩ := loop_inv (f := srcEntry_b1 F code ts o f T ((m : Int), s2)) (fun q x => ∃ (k : Nat) (ks : List (List Ent)), q = m - k ∧ k ≤ m ∧ x.1 = ((k + 1 : Nat) : Int) ∧ x.2.1 = pre ++ [⟨code, f, T, ts, o⟩] ++ ks.flatten ∧ ks.length = k ∧ x.2.1.length ≤ 10 + k * 1000 ∧ (∀ i k, ks[i]? = some k → Made n (child code i) T k) ∧ SOk ⟨x.2.2.1, x.2.2.2⟩)
   (fun r => ∃ ks : List (List Ent), r.1 = pre ++ [⟨code, f, T, ts, o⟩] ++ ks.flatten ∧ ks.length ≤ 3 ∧ (∀ i k, ks[i]? = some k → Made n (child code i) T k) ∧ SOk ⟨r.2.1, r.2.2⟩) (by
   rintro q ⟨i, out, cL, cI⟩ ⟨k, ks, rfl, hk, hi, ho, hkl, hol, hm, hso⟩
   simp only at hi ho hol hso
   subst hi
   unfold srcEntry_b1
   dsimp only
   by_cases hlt : k < m
   ·refine .inl ?_
    obtain ⟨o1, s3, e3, k3, hm3, hl3⟩ := hF h8 ⟨cL, cI⟩ k T (by omega) hso h0 h1
    have hcl := hc.2
    rw [if_pos (by simp only [decide_eq_true_eq]; omega), if_pos (by simp; omega), byte_child (by omega), if_pos (by simp; omega)]
    have ech : (code ++ [48]) ++ [UInt8.ofNat (49 + k)] = child code k := by simp [child]
    rw [ech, e3, Option.bind_some, if_pos (by simp only; omega), w64 (n := ((k + 1 : Nat) : Int) + 1) (by omega)]
    refine ⟨_, m - (k + 1), by omega, rfl, k + 1, ks ++ [o1], rfl, by omega, rfl, ?_, by simp [hkl], ?_, fun i k' hk' => ?_, k3⟩
    ·simp only; rw [ho]; simp
    ·simp only [List.length_append]; omega
    ·rcases Nat.lt_trichotomy i ks.length with hl | hl | hl
     ·rw [List.getElem?_append_left hl] at hk'; exact hm i k' hk'
     ·rw [hl, List.getElem?_append_right (Nat.le_refl _)] at hk'
      simp at hk'; subst hk'; rw [hl, hkl]; exact hm3
     ·rw [List.getElem?_append_right (by omega)] at hk'
      have : (([o1] : List (List Ent)))[i - ks.length]? = none := by rw [List.getElem?_eq_none]; simp; omega
      rw [this] at hk'; cases hk'
   ·refine .inr ?_
    have : k = m := by omega
    subst this
    rw [if_neg (by simp only [decide_eq_true_eq]; omega)]
    exact ⟨_, rfl, ks, ho, by omega, hm, hso⟩) m ((1 : Int), pre ++ [⟨code, f, T, ts, o⟩], s2.L, s2.I) ⟨0, [], rfl, by omega, rfl, by simp, rfl, by simp; omega, fun i k hk => by simp at hk, k2⟩
  rw [er, Option.bind_some]
  simp only at hk1 hk4
  exact ⟨_, _, rfl, hk4, T, _, ks, hv, hT, hk1, hk2, fun h => absurd h h8, hk3⟩
theorem mid_ok {n : Nat} {code : Str} (hc : Cd code) {F : CustomsmadeSource → Str → Int → Option (List Ent × CustomsmadeSource)} (hF : FOk n code F) {ts : List (List Str)} {o : Bool} {L : List Int} {I : Int} (hs : SOk ⟨L, I⟩) {stop : Int} (h0 : 0 < stop) (h1 : stop ≤ 36525)
  (hts : ts.length ≤ 2 ∧ ∀ t, t ∈ ts → Asc t ∧ t ≠ [] ∧ t.length ≤ 3) (h2 : code.length = 2 → ts = [] ∧ o = false) (h4 : code.length = 4 → ts ≠ [] ∧ o = false) (h6 : 4 < code.length → (ts = [] ↔ o = true)) : ∃ out s', srcEntry_j5 F code stop L I ts o = some (out, s') ∧ SOk s' ∧ Made (n + 1) code stop out := by
 have one : ∀ f t : Int, 0 ≤ f ∧ f < t ∧ t ≤ 36525 → EOk code ⟨code, f, t, ts, o⟩ := fun f t hd => one_zero hc hd hts h2 h4 h6
 have hj : ∀ (pre : List Ent) (L : List Int) (I f T : Int), srcEntry_j6 F code ts o pre L I f T = srcEntry_j3 F code ts o pre L I f T := fun _ _ _ _ _ => rfl
 unfold srcEntry_j5
 split
 ·rename_i hcond
  have hcnd : 2 < code.length ∧ 12 < stop := by
   by_cases c1 : (2 : Int) < (code.length : Int)
   ·simp [c1] at hcond; omega
   ·simp [c1] at hcond
  obtain ⟨r, s2, e2, b1, b2, k2⟩ := next_ok (n := 6) hs (by omega) (by omega)
  rw [e2, Option.bind_some]
  dsimp only
  split
  ·obtain ⟨t2, s3, e3, d1, d2, d3, k3⟩ := terms_ok k2
   rw [e3, Option.bind_some, if_pos (by simp), hj]
   refine tail_ok hc hF k3 (.inr ⟨_, _, rfl, one_zero hc (by omega) ⟨d2, d3⟩ (fun h => by omega) (fun _ => ⟨d1, rfl⟩) (fun _ => ⟨fun h => absurd h d1, fun h => by cases h⟩), one 10 stop (by omega), rfl, rfl, rfl, rfl⟩) (by omega) h0 h1
  ·split
   ·rw [hj]
    exact tail_ok hc hF k2 (.inl ⟨_, rfl, one 0 12 (by omega), rfl, rfl⟩) (by omega) (by omega) (by omega)
   ·rw [hj]
    exact tail_ok hc hF k2 (.inl ⟨_, rfl, one 0 stop (by omega), rfl, rfl⟩) (by omega) h0 h1
 ·rw [hj]
  exact tail_ok hc hF hs (.inl ⟨_, rfl, one 0 stop (by omega), rfl, rfl⟩) (by omega) h0 h1
theorem entry_F {n : Nat} {code : Str} (hc : Cd code) {F : CustomsmadeSource → Str → Int → Option (List Ent × CustomsmadeSource)} (hF : FOk n code F) {s : CustomsmadeSource} (hs : SOk s) {stop : Int} (h0 : 0 < stop) (h1 : stop ≤ 36525) :
  ∃ out s', srcEntry_F F s code stop = some (out, s') ∧ SOk s' ∧ Made (n + 1) code stop out := by
 have hj : ∀ (v : Int × CustomsmadeSource) (ts : List (List Str)) (o : Bool), srcEntry_j2 F code stop v ts o = srcEntry_j5 F code stop v.2.L v.2.I ts o := fun _ _ _ => rfl
 have hl := hc.2
 have key : ∀ (L : List Int) (I : Int) (ts : List (List Str)), SOk ⟨L, I⟩ → (ts.length ≤ 2 ∧ ∀ t, t ∈ ts → Asc t ∧ t ≠ [] ∧ t.length ≤ 3) → (code.length = 2 → ts = []) → (2 < code.length → ts ≠ []) → ∃ out s', srcEntry_j1 F code stop L I ts = some (out, s') ∧ SOk s' ∧ Made (n + 1) code stop out := fun L I ts hso hts hn hne => by
  unfold srcEntry_j1
  by_cases h4 : 4 < code.length
  ·obtain ⟨r, s2, e2, b1, b2, k2⟩ := next_ok (n := 3) hso (by omega) (by omega)
   rw [if_pos (by simp only [decide_eq_true_eq]; omega), e2, Option.bind_some]
   have c4 : (4 : Int) < (code.length : Int) := by omega
   simp only [c4, decide_true, cond_true]
   split
   ·rw [hj]
    exact mid_ok hc hF k2 h0 h1 ⟨by simp, fun t ht => by cases ht⟩ (fun h => by omega) (fun h => by omega) (fun _ => by simp)
   ·rw [hj]
    exact mid_ok hc hF k2 h0 h1 hts (fun h => by omega) (fun h => by omega) (fun _ => ⟨fun h => absurd h (hne (by omega)), fun h => by cases h⟩)
  ·rw [if_neg (by simp only [decide_eq_true_eq]; omega), if_neg (by simp)]
   exact mid_ok hc hF hso h0 h1 hts (fun h => ⟨hn h, rfl⟩) (fun h => ⟨hne (by omega), rfl⟩) (fun h => by omega)
 unfold srcEntry_F
 split
 ·rename_i h2
  simp only [decide_eq_true_eq] at h2
  obtain ⟨ts, s1, e1, a1, a2, a3, k1⟩ := terms_ok hs
  rw [e1, Option.bind_some]
  exact key _ _ _ k1 ⟨a2, a3⟩ (fun h => by omega) (fun _ => a1)
 ·rename_i h2
  simp only [decide_eq_true_eq] at h2
  exact key _ _ _ hs ⟨by simp, fun t ht => by cases ht⟩ (fun _ => rfl) (fun h => by omega)
theorem Vers.len {code : Str} {T : Int} {vs : List Ent} (h : Vers code T vs) : vs.length ≤ 2 := by
 rcases h with ⟨x, rfl, _⟩ | ⟨y, x, rfl, _⟩ <;> simp
theorem flat_len {ks : List (List Ent)} {m : Nat} (h : ∀ k, k ∈ ks → k.length ≤ m) : ks.flatten.length ≤ ks.length * m := by
 induction ks with
 | nil => simp
 | cons k ks ih =>
  have h1 := h k (by simp)
  have h2 := ih (fun k hk => h k (by simp [hk]))
  simp only [List.flatten_cons, List.length_append, List.length_cons, Nat.succ_mul]; omega
def maxL : Nat → Nat
 | 0 => 0
 | n + 1 => 2 + 3 * maxL n
theorem Made.len : ∀ {n : Nat} {code : Str} {T : Int} {out : List Ent}, Made n code T out → out.length ≤ maxL n
 | 0, _, _, _, h => h.elim
 | n + 1, code, stop, out, h => by
  obtain ⟨T, vs, ks, hv, hT, rfl, hk, hk8, hm⟩ := h
  have h1 := hv.len
  have h2 := flat_len (ks := ks) (m := maxL n) (fun k hk => by
   obtain ⟨i, hi, rfl⟩ := List.getElem_of_mem hk
   exact (hm i _ (List.getElem?_eq_getElem hi)).len)
  have h3 : ks.length * maxL n ≤ 3 * maxL n := Nat.mul_le_mul hk (Nat.le_refl _)
  simp only [List.length_append, maxL]; omega
theorem Made.len2 : ∀ {n : Nat} {code : Str} {T : Int} {out : List Ent}, Made n code T out → (code.length = 2 ∨ code.length = 4 ∨ code.length = 6 ∨ code.length = 8) → out.length ≤ maxL ((10 - code.length) / 2)
 | 0, _, _, _, h, _ => h.elim
 | n + 1, code, stop, out, h, hl => by
  obtain ⟨T, vs, ks, hv, hT, rfl, hk, hk8, hm⟩ := h
  have h1 := hv.len
  by_cases h8 : code.length = 8
  ·rw [hk8 h8, h8]; simp [maxL]; exact h1
  ·have h2 := flat_len (ks := ks) (m := maxL ((10 - code.length) / 2 - 1)) (fun k hk => by
    obtain ⟨i, hi, rfl⟩ := List.getElem_of_mem hk
    have := (hm i _ (List.getElem?_eq_getElem hi)).len2 (by simp [child]; omega)
    rwa [show (10 - (child code i).length) / 2 = (10 - code.length) / 2 - 1 by simp [child]; omega] at this)
   have h3 : ks.length * maxL ((10 - code.length) / 2 - 1) ≤ 3 * maxL ((10 - code.length) / 2 - 1) := Nat.mul_le_mul hk (Nat.le_refl _)
   obtain ⟨m, hmm⟩ : ∃ m, (10 - code.length) / 2 = m + 1 := ⟨(10 - code.length) / 2 - 1, by omega⟩
   rw [hmm] at h2 h3 ⊢
   simp only [Nat.add_sub_cancel] at h2 h3
   simp only [List.length_append, maxL]; omega
/-- How deep the codes below a code go. -/
theorem entry_n : ∀ (n : Nat) {code : Str}, Cd code → n + 1 ≤ 5 → (8 - code.length) / 2 ≤ n → ∀ {s : CustomsmadeSource}, SOk s → ∀ {stop : Int}, 0 < stop → stop ≤ 36525 → ∃ out s', srcEntry_n (n + 1) s code stop = some (out, s') ∧ SOk s' ∧ Made (n + 1) code stop out
  | 0, code, hc, hn, hd, s, hs, stop, h0, h1 => by
    have hl := hc.2
    have h8 : code.length = 8 := by omega
    exact entry_F hc (F := srcEntry_n 0) (fun h => absurd h8 h) hs h0 h1
  | n + 1, code, hc, hn, hd, s, hs, stop, h0, h1 => by
    refine entry_F hc (F := srcEntry_n (n + 1)) (fun h8 s i T hi hso hT0 hT1 => ?_) hs h0 h1
    have hl := hc.2
    have hch := hc.child h8 hi
    have hcl : (child code i).length = code.length + 2 := by simp [child]
    obtain ⟨out, s', e, k, hm⟩ := entry_n n hch (by omega) (by rw [hcl]; omega) hso hT0 hT1
    refine ⟨out, s', e, k, hm, ?_⟩
    have h1 := hm.len
    have h2 : maxL (n + 1) ≤ 1000 := by
      have : n = 0 ∨ n = 1 ∨ n = 2 ∨ n = 3 := by omega
      rcases this with rfl | rfl | rfl | rfl <;> decide
    omega
theorem entry_ok {code : Str} (hc : Cd code) (h2 : code.length = 2) {s : CustomsmadeSource} (hs : SOk s) : ∃ out s', srcEntry s code 36525 = some (out, s') ∧ SOk s' ∧ Made 5 code 36525 out := entry_n 4 hc (by omega) (by omega) hs (by omega) (by omega)
theorem entryR_eq (s : CustomsmadeSource) (code : Str) (T : Int) : srcEntryR s code T = srcEntry_F srcEntry s code T := rfl
end Go.C
end

section
set_option linter.unusedVariables false
set_option linter.unusedSimpArgs false
namespace Go.C
open Go.V
theorem bl_ext : ∀ (p : Str) {s : Str}, s ≠ [] → Op.bytesLess p (p ++ s) = true
 | [], c :: s, _ => rfl
 | [], [], h => absurd rfl h
 | x :: p, s, h => by simp [Op.bytesLess, UInt8.lt_irrefl, bl_ext p h]
theorem bl_diff {a b : UInt8} (hab : a < b) (u v : Str) : ∀ p : Str, Op.bytesLess (p ++ a :: u) (p ++ b :: v) = true
 | [] => by simp [Op.bytesLess, hab]
 | x :: p => by simp [Op.bytesLess, UInt8.lt_irrefl, bl_diff hab u v p]
theorem bl_asymm {a b : Str} (h : Op.bytesLess a b = true) : Op.bytesLess b a = false ∧ a ≠ b := by
 have := bl_total a b
 rw [h] at this
 refine ⟨by simpa using this.symm, fun e => ?_⟩
 rw [e, bl_irrefl] at h; cases h
theorem digit_lt {i j : Nat} (h : i < j) (hj : j < 3) : UInt8.ofNat (49 + i) < UInt8.ofNat (49 + j) := by
 have : (i = 0 ∧ j = 1) ∨ (i = 0 ∧ j = 2) ∨ (i = 1 ∧ j = 2) := by omega
 rcases this with ⟨rfl, rfl⟩ | ⟨rfl, rfl⟩ | ⟨rfl, rfl⟩ <;> decide
theorem child_len (code : Str) (i : Nat) : (child code i).length = code.length + 2 := by simp [child]
theorem child_not {code c : Str} {i j : Nat} (hi : i < 3) (hj : j < 3) (h1 : child code i <+: c) (h2 : child code j <+: c) : i = j := by
 have h3 : child code i = child code j := by
  obtain ⟨s, rfl⟩ := h1
  obtain ⟨t, ht⟩ := h2
  have := congrArg (List.take (code.length + 2)) ht
  rw [List.take_append_of_le_length (by rw [child_len]; omega), List.take_append_of_le_length (by rw [child_len]; omega), List.take_of_length_le (by rw [child_len]; omega), List.take_of_length_le (by rw [child_len]; omega)] at this
  exact this.symm
 unfold child at h3
 have := List.append_cancel_left h3
 simp at this
 have e1 : i = 0 ∨ i = 1 ∨ i = 2 := by omega
 have e2 : j = 0 ∨ j = 1 ∨ j = 2 := by omega
 rcases e1 with rfl | rfl | rfl <;> rcases e2 with rfl | rfl | rfl <;> first | rfl | (revert this; decide)
theorem child_pre (code : Str) (i : Nat) : code <+: child code i := List.prefix_append _ _
theorem Vers.mem {code : Str} {T : Int} {vs : List Ent} (h : Vers code T vs) : ∀ e, e ∈ vs → EOk code e ∧ e.To ≤ T := by
 intro e he
 rcases h with ⟨x, rfl, h1, h2, h3⟩ | ⟨y, x, rfl, h1, h2, h3, h4, h5, h6⟩
 ·simp at he; subst he; exact ⟨h1, by omega⟩
 ·simp at he
  have := h2.days
  rcases he with rfl | rfl
  ·exact ⟨h1, by omega⟩
  ·exact ⟨h2, by omega⟩
theorem Made.mem : ∀ {n : Nat} {code : Str} {stop : Int} {out : List Ent}, Made n code stop out → ∀ e, e ∈ out → code <+: e.Code ∧ EOk e.Code e ∧ e.To ≤ stop
 | 0, _, _, _, h => h.elim
 | n + 1, code, stop, out, h => by
  obtain ⟨T, vs, ks, hv, hT, rfl, hk, hk8, hm⟩ := h
  intro e he
  rcases List.mem_append.1 he with he | he
  ·obtain ⟨h1, h2⟩ := hv.mem e he
   rw [h1.code]
   exact ⟨List.prefix_rfl, h1, by omega⟩
  ·obtain ⟨k, hk1, hk2⟩ := List.mem_flatten.1 he
   obtain ⟨i, hi, rfl⟩ := List.getElem_of_mem hk1
   obtain ⟨h1, h2, h3⟩ := (hm i _ (List.getElem?_eq_getElem hi)).mem e hk2
   exact ⟨(child_pre code i).trans h1, h2, by omega⟩
/-- The order of entries. -/
def Ord (y x : Ent) : Prop := Op.bytesLess y.Code x.Code = true ∨ (y.Code = x.Code ∧ y.From < x.From ∧ y.To ≤ x.From)
theorem Ord.zero {y x : Ent} (h : Ord y x) : ordE y x = 0 := by
 unfold ordE
 rcases h with h | ⟨h1, h2, h3⟩
 ·obtain ⟨h1, h2⟩ := bl_asymm h
  have h3 : ¬ x.Code = y.Code := fun e => h2 e.symm
  simp [h1, h3]
 ·have e1 : ¬ x.From ≤ y.From := by omega
  have e2 : ¬ x.From < y.To := by omega
  simp [h1, bl_irrefl, e1, e2]
theorem Vers.pw {code : Str} {T : Int} {vs : List Ent} (h : Vers code T vs) : vs.Pairwise Ord := by
 rcases h with ⟨x, rfl, _⟩ | ⟨y, x, rfl, h1, h2, h3, h4, h5, h6⟩
 ·simp
 ·simp only [List.pairwise_cons, List.mem_singleton, forall_eq, List.not_mem_nil, false_implies, implies_true, List.Pairwise.nil, and_true]
  exact .inr ⟨by rw [h1.code, h2.code], by omega, by omega⟩
theorem Made.pw : ∀ {n : Nat} {code : Str} {stop : Int} {out : List Ent}, Made n code stop out → out.Pairwise Ord
 | 0, _, _, _, h => h.elim
 | n + 1, code, stop, out, h => by
  obtain ⟨T, vs, ks, hv, hT, rfl, hk, hk8, hm⟩ := h
  rw [List.pairwise_append]
  refine ⟨hv.pw, ?_, fun y hy x hx => ?_⟩
  ·rw [List.pairwise_flatten]
   refine ⟨fun k hk1 => ?_, ?_⟩
   ·obtain ⟨i, hi, rfl⟩ := List.getElem_of_mem hk1
    exact (hm i _ (List.getElem?_eq_getElem hi)).pw
   ·rw [List.pairwise_iff_getElem]
    intro i j hi hj hij y hy x hx
    obtain ⟨⟨s, h1⟩, _, _⟩ := (hm i _ (List.getElem?_eq_getElem hi)).mem y hy
    obtain ⟨⟨t, h2⟩, _, _⟩ := (hm j _ (List.getElem?_eq_getElem hj)).mem x hx
    refine .inl ?_
    have := bl_diff (digit_lt hij (by omega)) s t (code ++ [48])
    rw [← h1, ← h2]
    simpa [child] using this
  ·have h1 := (hv.mem y hy).1
   obtain ⟨k, hk1, hk2⟩ := List.mem_flatten.1 hx
   obtain ⟨i, hi, rfl⟩ := List.getElem_of_mem hk1
   obtain ⟨⟨s, h2⟩, _, _⟩ := (hm i _ (List.getElem?_eq_getElem hi)).mem x hk2
   refine .inl ?_
   rw [h1.code, ← h2]
   have := bl_ext code (s := [48, UInt8.ofNat (49 + i)] ++ s) (by simp)
   simpa [child] using this
theorem cov_append (A B : List Ent) (c : Str) (d : Int) : cov (A ++ B) c d = cov B c (cov A c d) := by unfold cov; rw [List.foldl_append]
theorem cov_none {A : List Ent} {c : Str} : ∀ {d : Int}, (∀ e, e ∈ A → e.Code ≠ c) → cov A c d = d := by
 induction A with
 | nil => intro d _; rfl
 | cons a A ih =>
  intro d h
  show cov A c (if a.Code = c ∧ a.From ≤ d ∧ d < a.To then a.To else d) = d
  rw [if_neg (fun hh => h a (by simp) hh.1)]
  exact ih (fun e he => h e (by simp [he]))
theorem cov_vers {code : Str} {T : Int} {vs : List Ent} (h : Vers code T vs) {d : Int} (h0 : 0 ≤ d) (h1 : d < T) : cov vs code d = T := by
 rcases h with ⟨x, rfl, k1, k2, k3⟩ | ⟨y, x, rfl, k1, k2, k3, k4, k5, k6⟩
 ·show (if x.Code = code ∧ x.From ≤ d ∧ d < x.To then x.To else d) = T
  rw [if_pos ⟨k1.code, by omega, by omega⟩]; omega
 ·have := k2.days
  show (if x.Code = code ∧ x.From ≤ (if y.Code = code ∧ y.From ≤ d ∧ d < y.To then y.To else d) ∧ (if y.Code = code ∧ y.From ≤ d ∧ d < y.To then y.To else d) < x.To then x.To else (if y.Code = code ∧ y.From ≤ d ∧ d < y.To then y.To else d)) = T
  by_cases c : d < 10
  ·rw [if_pos (⟨k1.code, by omega, by omega⟩ : y.Code = code ∧ y.From ≤ d ∧ d < y.To), if_pos ⟨k2.code, by omega, by omega⟩]; omega
  ·rw [if_neg (fun (hh : y.Code = code ∧ y.From ≤ d ∧ d < y.To) => by omega), if_pos ⟨k2.code, by omega, by omega⟩]; omega
def NP (p : Str) (A : List Ent) : Prop := ∀ e, e ∈ A → ¬ p <+: e.Code
theorem NP.ne {p : Str} {A : List Ent} (h : NP p A) : ∀ e, e ∈ A → e.Code ≠ p := fun e he hh => h e he (by rw [hh]; exact List.prefix_rfl)
theorem flat_split {ks : List (List Ent)} {i : Nat} (hi : i < ks.length) : ks.flatten = (ks.take i).flatten ++ (ks[i] ++ (ks.drop (i + 1)).flatten) := by
 conv => lhs; rw [← List.take_append_drop i ks]
 rw [List.flatten_append, List.drop_eq_getElem_cons hi, List.flatten_cons]
theorem Made.cov : ∀ {n : Nat} {code : Str} {stop : Int} {out : List Ent}, Made n code stop out → ∀ A B : List Ent, NP code A → NP code B → ∀ e, e ∈ out → e.Code ≠ code → e.To ≤ cov (A ++ (out ++ B)) (parent e.Code) e.From
 | 0, _, _, _, h => h.elim
 | n + 1, code, stop, out, h => by
  obtain ⟨T, vs, ks, hv, hT, rfl, hk, hk8, hm⟩ := h
  intro A B hA hB e he hne
  rcases List.mem_append.1 he with he | he
  ·exact absurd (hv.mem e he).1.code hne
  obtain ⟨k, hk1, hk2⟩ := List.mem_flatten.1 he
  obtain ⟨i, hi, rfl⟩ := List.getElem_of_mem hk1
  have hmi := hm i _ (List.getElem?_eq_getElem hi)
  obtain ⟨h1, h2, h3⟩ := hmi.mem e hk2
  have hd := h2.days
  have hks : ∀ x, x ∈ ks.flatten → x.Code ≠ code := fun x hx hh => by
   obtain ⟨k', hx1, hx2⟩ := List.mem_flatten.1 hx
   obtain ⟨j, hj, rfl⟩ := List.getElem_of_mem hx1
   obtain ⟨⟨s, g1⟩, _, _⟩ := (hm j _ (List.getElem?_eq_getElem hj)).mem x hx2
   have := congrArg List.length g1
   rw [List.length_append, child_len, hh] at this
   omega
  by_cases hc : e.Code = child code i
  ·have hp : parent e.Code = code := by
    unfold parent
    rw [hc, child_len, show code.length + 2 - 2 = code.length by omega]
    unfold child
    rw [List.take_append_of_le_length (Nat.le_refl _), List.take_length]
   rw [hp, cov_append, cov_append, cov_append, cov_none hA.ne, cov_vers hv (by omega) (by omega), cov_none hks, cov_none hB.ne]
   omega
  ·have := hmi.cov (A ++ (vs ++ (ks.take i).flatten)) ((ks.drop (i + 1)).flatten ++ B) (fun x hx hh => ?_) (fun x hx hh => ?_) e hk2 hc
   ·rw [flat_split hi]
    simpa [List.append_assoc] using this
   ·rcases List.mem_append.1 hx with hx | hx
    ·exact hA x hx ((child_pre code i).trans hh)
    ·rcases List.mem_append.1 hx with hx | hx
     ·rw [(hv.mem x hx).1.code] at hh
      have := hh.length_le
      rw [child_len] at this; omega
     ·obtain ⟨k', hx1, hx2⟩ := List.mem_flatten.1 hx
      obtain ⟨j, hj, rfl⟩ := List.getElem_of_mem hx1
      have hj' := hj
      rw [List.length_take] at hj'
      rw [List.getElem_take] at hx2
      obtain ⟨g1, _, _⟩ := (hm j _ (List.getElem?_eq_getElem (by omega))).mem x hx2
      have := child_not (by omega) (by omega) g1 hh
      omega
   ·rcases List.mem_append.1 hx with hx | hx
    ·obtain ⟨k', hx1, hx2⟩ := List.mem_flatten.1 hx
     obtain ⟨j, hj, rfl⟩ := List.getElem_of_mem hx1
     have hj' := hj
     rw [List.length_drop] at hj'
     rw [List.getElem_drop] at hx2
     obtain ⟨g1, _, _⟩ := (hm (i + 1 + j) _ (List.getElem?_eq_getElem (by omega))).mem x hx2
     have := child_not (by omega) (by omega) g1 hh
     omega
    ·exact hB x hx ((child_pre code i).trans hh)
theorem getD_get {α : Type} [Inhabited α] {l : List α} {i : Nat} (h : i < l.length) : l.getD i default = l[i] := by rw [List.getD_eq_getElem?_getD, List.getElem?_eq_getElem h]; rfl
/-- A nomenclature that was made. -/
structure NMade (b : ApiNomenclature) : Prop where
  ents : ∃ x y, b.Entries = x ++ y ∧ Made 6 [57, 52] 36525 x ∧ Made 5 [57, 53] 36525 y
  notes : b.Notes.length ≤ 3 ∧ ∀ n, n ∈ b.Notes → noteOk n = true ∧ Asc n.Words ∧ n.Words ≠ [] ∧ n.Words.length ≤ 2 ∧ n.Scope.length ≤ 8 ∧ n.Target.length ≤ 8
theorem NMade.mem {b : ApiNomenclature} (h : NMade b) : ∀ e, e ∈ b.Entries → EOk e.Code e ∧ ([57, 52] <+: e.Code ∨ [57, 53] <+: e.Code) := fun e he => by
 obtain ⟨x, y, hxy, hx, hy⟩ := h.ents
 rw [hxy] at he
 rcases List.mem_append.1 he with he | he
 ·have := hx.mem e he; exact ⟨this.2.1, .inl this.1⟩
 ·have := hy.mem e he; exact ⟨this.2.1, .inr this.1⟩
theorem NMade.len {b : ApiNomenclature} (h : NMade b) : b.Entries.length ≤ 160 ∧ 0 < b.Entries.length := by
 obtain ⟨x, y, hxy, hx, hy⟩ := h.ents
 have h1 := hx.len2 (.inl rfl); have h2 := hy.len2 (.inl rfl)
 have e : maxL ((10 - ([57, 52] : Str).length) / 2) = 80 := by decide
 have e' : maxL ((10 - ([57, 53] : Str).length) / 2) = 80 := by decide
 rw [e] at h1
 rw [e'] at h2
 refine ⟨by rw [hxy, List.length_append]; omega, ?_⟩
 obtain ⟨T, vs, ks, hv, _, rfl, _, _, _⟩ := hx
 rw [hxy]
 rcases hv with ⟨x, rfl, _⟩ | ⟨y, x, rfl, _⟩ <;> (simp only [List.length_append, List.length_cons]; omega)
theorem NMade.pw {b : ApiNomenclature} (h : NMade b) : b.Entries.Pairwise Ord := by
 obtain ⟨x, y, hxy, hx, hy⟩ := h.ents
 rw [hxy, List.pairwise_append]
 refine ⟨hx.pw, hy.pw, fun a ha c hc => ?_⟩
 obtain ⟨s, h1⟩ := (hx.mem a ha).1
 obtain ⟨t, h2⟩ := (hy.mem c hc).1
 refine .inl ?_
 rw [← h1, ← h2]
 exact bl_diff (a := 52) (b := 53) (by decide) s t [57]
theorem NMade.nv {b : ApiNomenclature} (h : NMade b) : nv b = 0 := by
 have hl := h.len
 have hn := h.notes
 have hpw := List.pairwise_iff_getElem.1 h.pw
 have e1 : ferr b.Entries.length (entErr b.Entries) = 0 := ferr_zero.2 fun i hi => by
  unfold entErr
  rw [getD_get hi, (h.mem _ (List.getElem_mem hi)).1.one, if_pos rfl]
  by_cases h0 : i = 0
  ·rw [if_pos h0]
  ·rw [if_neg h0, getD_get (by omega)]
   exact (hpw (i - 1) i (by omega) hi (by omega)).zero
 have e2 : ferr b.Entries.length (parErr b.Entries) = 0 := ferr_zero.2 fun i hi => by
  unfold parErr
  rw [getD_get hi, if_pos]
  unfold parOk
  by_cases h2 : b.Entries[i].Code.length = 2
  ·simp [h2]
  ·simp only [h2, decide_false, Bool.false_or, decide_eq_true_eq]
   obtain ⟨x, y, hxy, hx, hy⟩ := h.ents
   have hm := List.getElem_mem hi
   have n1 : NP [57, 52] y := fun e he hp => by
    have := (hy.mem e he).1
    obtain ⟨s, h1⟩ := hp; obtain ⟨t, h2⟩ := this
    rw [← h2] at h1; simp at h1
   have n2 : NP [57, 53] x := fun e he hp => by
    have := (hx.mem e he).1
    obtain ⟨s, h1⟩ := hp; obtain ⟨t, h2⟩ := this
    rw [← h2] at h1; simp at h1
   generalize b.Entries[i] = e at hm h2 ⊢
   rw [hxy] at hm
   rcases List.mem_append.1 hm with hm | hm
   ·have := hx.cov [] y (fun e he => by cases he) n1 _ hm (fun e => h2 (by rw [e]; rfl))
    rw [List.nil_append, ← hxy] at this; exact this
   ·have := hy.cov x [] n2 (fun e he => by cases he) _ hm (fun e => h2 (by rw [e]; rfl))
    rw [List.append_nil, ← hxy] at this; exact this
 have e3 : ferr b.Notes.length (notErr b.Notes) = 0 := ferr_zero.2 fun i hi => by
  unfold notErr
  rw [getD_get hi, if_pos (hn.2 _ (List.getElem_mem hi)).1]
 unfold C.nv
 rw [if_neg (by omega), e1, if_neg (by simp), e2, if_neg (by simp), e3]
theorem asc_ok {l : List Str} (h : Asc l) (hl : l.length ≤ 1000) : l.length ≤ 9223372036854775807 ∧ ∀ x, x ∈ l → x.length ≤ 9223372036854775807 := ⟨by omega, fun x hx => by
 have := h.2 x hx
 unfold isW at this
 simp only [Bool.and_eq_true, decide_eq_true_eq] at this
 omega⟩
theorem EOk.ok {c : Str} {e : Ent} (h : EOk c e) : okApiCodeEntry e := by
 have h1 := oneE_len h.one
 have h2 := h.days
 refine ⟨by omega, by unfold okI_i64; omega, by unfold okI_i64; omega, by have := h.terms.1; omega, fun t ht => ?_⟩
 obtain ⟨a1, a2, a3⟩ := h.terms.2 t ht
 exact asc_ok a1 (by omega)
theorem NMade.ok {b : ApiNomenclature} (h : NMade b) : okApiNomenclature b := by
 have hl := h.len
 refine ⟨⟨by omega, fun e he => (h.mem e he).1.ok⟩, by have := h.notes.1; omega, fun n hn => ?_⟩
 obtain ⟨a1, a2, a3, a4, a5, a6⟩ := h.notes.2 n hn
 exact ⟨by omega, asc_ok a2 (by omega), by omega⟩
theorem madeNom_ok (l : List Int) : ∃ b, madeNom l = some b ∧ NMade b := by
 unfold madeNom
 obtain ⟨v, e0, hv⟩ := cut_ok l 300 (by omega)
 rw [show (300 : Int) = ((300 : Nat) : Int) from rfl, e0, Option.bind_some]
 obtain ⟨r, s1, e1, b1, b2, k1⟩ := next_ok (s := ⟨v, 0⟩) (n := 4) ⟨by simp only; omega, by simp only; omega, by simp only; omega⟩ (by omega) (by omega)
 rw [e1, Option.bind_some]
 obtain ⟨m, rfl⟩ : ∃ m : Nat, r = (m : Int) := ⟨r.toNat, by omega⟩
 obtain ⟨⟨L, I, ns⟩, er, hn1, hn2, hso⟩ := loop_inv (f := madeNom_b1) (fun q x => ∃ k : Nat, q = k ∧ k ≤ m ∧ x.1 = (k : Int) ∧ x.2.2.2.length = m - k ∧ (∀ n, n ∈ x.2.2.2 → noteOk n = true ∧ Asc n.Words ∧ n.Words ≠ [] ∧ n.Words.length ≤ 2 ∧ n.Scope.length ≤ 8 ∧ n.Target.length ≤ 8) ∧ SOk ⟨x.2.1, x.2.2.1⟩)
  (fun r => r.2.2.length ≤ 3 ∧ (∀ n, n ∈ r.2.2 → noteOk n = true ∧ Asc n.Words ∧ n.Words ≠ [] ∧ n.Words.length ≤ 2 ∧ n.Scope.length ≤ 8 ∧ n.Target.length ≤ 8) ∧ SOk ⟨r.1, r.2.1⟩) (by
  rintro q ⟨i, cL, cI, ns⟩ ⟨k, rfl, hk, hi, hl, hns, hso⟩
  simp only at hi hl hns hso
  subst hi
  unfold madeNom_b1
  dsimp only
  by_cases hpos : 0 < q
  ·refine .inl ?_
   rw [if_pos (by simp only [decide_eq_true_eq]; omega)]
   obtain ⟨r5, s2, e2, c1, c2, k2⟩ := next_ok (n := 5) hso (by omega) (by omega)
   rw [e2, Option.bind_some, if_pos c1]
   have hsc : ∃ sc, ([([57, 52] : Str), ([57, 53] : Str), ([57, 52, 48, 49] : Str), ([57, 52, 48, 50] : Str), ([57, 52, 48, 49, 48, 49] : Str)][r5.toNat]?) = some sc ∧ lvl sc ≠ 0 ∧ sc.length ≤ 8 := by
    have : r5 = 0 ∨ r5 = 1 ∨ r5 = 2 ∨ r5 = 3 ∨ r5 = 4 := by omega
    rcases this with rfl | rfl | rfl | rfl | rfl <;> exact ⟨_, rfl, by decide, by decide⟩
   obtain ⟨sc, e3, hsc1, hsc2⟩ := hsc
   dsimp only
   rw [e3, Option.bind_some]
   obtain ⟨ws, s3, e4, w1, w2, w3, k3⟩ := words_ok k2 2 (by omega) (by omega)
   rw [show (2 : Int) = ((2 : Nat) : Int) from rfl, e4, Option.bind_some]
   obtain ⟨r2, s4, e5, d1, d2, k4⟩ := next_ok (n := ((2 : Nat) : Int)) k3 (by omega) (by omega)
   dsimp only
   rw [e5, Option.bind_some]
   have fin : ∀ (L : List Int) (I : Int) (t : Str), SOk ⟨L, I⟩ → (t = [] ∨ lvl t = 4) → t.length ≤ 8 → ∃ s' m', m' < q ∧ madeNom_j2 (q : Int) sc (ws, s3) L I ns t = some (.inl s') ∧ ∃ k' : Nat, m' = k' ∧ k' ≤ m ∧ s'.1 = (k' : Int) ∧ s'.2.2.2.length = m - k' ∧ (∀ n, n ∈ s'.2.2.2 → noteOk n = true ∧ Asc n.Words ∧ n.Words ≠ [] ∧ n.Words.length ≤ 2 ∧ n.Scope.length ≤ 8 ∧ n.Target.length ≤ 8) ∧ SOk ⟨s'.2.1, s'.2.2.1⟩ := fun L I t hLI ht htl => by
    unfold madeNom_j2
    rw [if_pos (by simp; omega), w64 (n := (q : Int) - 1) (by omega)]
    refine ⟨_, q - 1, by omega, rfl, q - 1, rfl, by omega, by simp only; omega, by simp; omega, fun n hn => ?_, hLI⟩
    rcases List.mem_append.1 hn with h | h
    ·exact hns n h
    ·simp at h; subst h
     refine ⟨?_, w1, w2, w3, hsc2, htl⟩
     unfold noteOk
     rw [w1.some1 w2 (by omega)]
     rcases ht with h | h <;> simp [hsc1, h]
   split
   ·obtain ⟨r3, s5, e6, f1, f2, k5⟩ := next_ok (n := 3) k4 (by omega) (by omega)
    rw [e6, Option.bind_some, if_pos f1]
    have htg : ∃ tg, ([([57, 52, 48, 49] : Str), ([57, 52, 48, 50] : Str), ([57, 53, 48, 49] : Str)][r3.toNat]?) = some tg ∧ lvl tg = 4 ∧ tg.length ≤ 8 := by
     have : r3 = 0 ∨ r3 = 1 ∨ r3 = 2 := by omega
     rcases this with rfl | rfl | rfl <;> exact ⟨_, rfl, by decide, by decide⟩
    obtain ⟨tg, e7, htg1, htg2⟩ := htg
    dsimp only
    rw [e7, Option.bind_some]
    exact fin _ _ _ k5 (.inr htg1) htg2
   ·exact fin _ _ _ k4 (.inl rfl) (by simp)
  ·refine .inr ?_
   rw [if_neg (by simp only [decide_eq_true_eq]; omega)]
   exact ⟨_, rfl, by simp only; omega, hns, hso⟩) m ((m : Int), s1.L, s1.I, []) ⟨m, rfl, by omega, rfl, by simp, fun n hn => by simp at hn, k1⟩
 rw [er, Option.bind_some]
 simp only at hn1 hn2 hso
 dsimp only
 unfold madeNom_j1
 obtain ⟨x, s2, e2, k2, hx⟩ := entry_F (code := [57, 52]) ⟨by decide, .inl rfl⟩ (n := 5) (F := srcEntry) (fun h8 s i T hi hs h0 h1 => by
  have hc : Cd (child [57, 52] i) := Cd.child ⟨by decide, .inl rfl⟩ (by decide) hi
  obtain ⟨o, s', e, k, hm⟩ := entry_n 4 hc (by omega) (by rw [child_len]; decide) hs h0 h1
  refine ⟨o, s', e, k, hm, ?_⟩
  have := hm.len2 (.inr (.inl (by rw [child_len]; rfl)))
  rw [child_len] at this
  have e : maxL ((10 - (([57, 52] : Str).length + 2)) / 2) = 26 := by decide
  omega) hso (stop := 36525) (by omega) (by omega)
 rw [entryR_eq, e2, Option.bind_some]
 obtain ⟨y, s3, e3, k3, hy⟩ := entry_ok (code := [57, 53]) ⟨by decide, .inl rfl⟩ rfl k2
 dsimp only
 rw [e3, Option.bind_some]
 have l1 := hx.len2 (.inl rfl); have l2 := hy.len2 (.inl rfl)
 have e4 : maxL ((10 - ([57, 52] : Str).length) / 2) = 80 := by decide
 have e5 : maxL ((10 - ([57, 53] : Str).length) / 2) = 80 := by decide
 rw [if_pos (by simp only; omega)]
 exact ⟨_, rfl, ⟨x, y, rfl, hx, hy⟩, hn1, hn2⟩
end Go.C
end

section
set_option linter.unusedVariables false
set_option linter.unusedSimpArgs false
namespace Go.C
open Go.V
/-- Lists of words that are not too long. -/
def LB (l : List (List Str)) : Prop := l.length ≤ 1000 ∧ ∀ x, x ∈ l → x.length ≤ 1000
/-- A book that is not too long. -/
structure BB (b : ApiNomenclature) : Prop where
  ents : b.Entries.length ≤ 1000 ∧ ∀ e, e ∈ b.Entries → LB e.Terms
  notes : b.Notes.length ≤ 1000 ∧ ∀ n, n ∈ b.Notes → n.Words.length ≤ 1000
theorem cloneWords_eq {l : List (List Str)} (h : LB l) : cloneWords l = some l := by
 unfold cloneWords
 have := loop_seq (f := cloneWords_b1 l) l.length (fun i => ((i : Int), l.take i)) l (fun i hi => by
  have hl := h.1
  have hx := h.2 _ (List.getElem_mem hi)
  unfold cloneWords_b1 cloneS
  dsimp only
  rw [if_pos (by simp only [decide_eq_true_eq]; omega), if_pos (by omega), Int.toNat_natCast, List.getElem?_eq_getElem hi, Option.bind_some, if_pos (by omega), Option.bind_some, if_pos (by simp; omega), w64 (n := (i : Int) + 1) (by omega), List.take_add_one, List.getElem?_eq_getElem hi]
  rfl) (by unfold cloneWords_b1; dsimp only; rw [if_neg (by simp), List.take_length])
 rw [show ((0 : Int), ([] : List (List Str))) = (((0 : Nat) : Int), l.take 0) from rfl, this]; rfl
theorem filter_take {α : Type} (p : α → Bool) {l : List α} {i : Nat} (h : i < l.length) : (l.take (i + 1)).filter p = if p l[i] = true then (l.take i).filter p ++ [l[i]] else (l.take i).filter p := by
 rw [List.take_add_one, List.getElem?_eq_getElem h, List.filter_append]
 show (l.take i).filter p ++ List.filter p [l[i]] = _
 rw [List.filter_cons]
 split <;> simp
theorem filter_len {α : Type} (p : α → Bool) (l : List α) (i : Nat) : ((l.take i).filter p).length ≤ l.length := Nat.le_trans (List.length_filter_le _ _) (by rw [List.length_take]; omega)
def onDay (day : Int) (e : Ent) : Bool := decide (e.From ≤ day) && decide (day < e.To)
def atS (b : ApiNomenclature) (day : Int) : List Ent := b.Entries.filter (onDay day)
theorem nomAt_eq {b : ApiNomenclature} (h : BB b) (day : Int) : nomAt b day = some (atS b day) := by
 unfold nomAt atS
 have := loop_seq (f := nomAt_b1 b day) b.Entries.length (fun i => ((i : Int), (b.Entries.take i).filter (onDay day))) (b.Entries.filter (onDay day)) (fun i hi => by
  have hl := h.ents.1
  have hx := h.ents.2 _ (List.getElem_mem hi)
  have hfl := filter_len (onDay day) b.Entries i
  unfold nomAt_b1 nomAt_j2
  dsimp only
  rw [if_pos (by simp only [decide_eq_true_eq]; omega), if_pos (by omega), Int.toNat_natCast, List.getElem?_eq_getElem hi, Option.bind_some, cloneWords_eq hx, Option.bind_some, w64 (n := (i : Int) + 1) (by omega), filter_take _ hi]
  have e : (bif (decide (b.Entries[i].From ≤ day)) then (decide (day < b.Entries[i].To)) else false) = onDay day b.Entries[i] := by unfold onDay; cases decide (b.Entries[i].From ≤ day) <;> rfl
  rw [e]
  cases onDay day b.Entries[i] with
  | true => rw [if_pos rfl, if_pos (by simp; omega), if_pos rfl]; rfl
  | false => rw [if_neg (by simp), if_neg (by simp)]; rfl) (by unfold nomAt_b1; dsimp only; rw [if_neg (by simp), List.take_length])
 rw [show ((0 : Int), ([] : List Ent)) = (((0 : Nat) : Int), (b.Entries.take 0).filter (onDay day)) from rfl, this]; rfl
def below (code : Str) (e : Ent) : Bool := if code = [] then decide (e.Code.length = 4) else decide (2 < e.Code.length ∧ parent e.Code = code)
def belS (b : ApiNomenclature) (day : Int) (code : Str) : List Ent := (atS b day).filter (below code)
theorem below_loop {l : List Ent} (code : Str) (hl : l.length ≤ 1000) (hc : ∀ e, e ∈ l → e.Code.length ≤ 9223372036854775807) : loopO (nomBelow_b1 code l) ((0 : Int), []) = some (l.filter (below code)) := by
 have := loop_seq (f := nomBelow_b1 code l) l.length (fun i => ((i : Int), (l.take i).filter (below code))) (l.filter (below code)) (fun i hi => by
  have hfl := filter_len (below code) l i
  have hcl := hc _ (List.getElem_mem hi)
  unfold nomBelow_b1 nomBelow_j2
  dsimp only
  rw [if_pos (by simp only [decide_eq_true_eq]; omega), if_pos (by omega), Int.toNat_natCast, List.getElem?_eq_getElem hi, Option.bind_some, w64 (n := (i : Int) + 1) (by omega), filter_take _ hi]
  generalize l[i] = x at hcl ⊢
  by_cases h0 : code = []
  ·have e0 : (code == ([] : Str)) = true := by simpa using h0
   simp only [e0, cond_true, Bool.not_true, cond_false, Bool.and_false, Bool.false_eq_true, false_implies, if_true]
   have e1 : (bif ((x.Code.length : Int) == (4 : Int)) then true else false) = below code x := by
    unfold below
    rw [if_pos h0]
    by_cases h4 : x.Code.length = 4
    ·simp [h4]
    ·have : ((x.Code.length : Int) == 4) = false := by simp; omega
     rw [this]; simp [h4]
   rw [e1]
   cases below code x with
   | true => rw [if_pos rfl, if_pos (by simp; omega), if_pos rfl]; rfl
   | false => rw [if_neg (by simp), if_neg (by simp)]; rfl
  ·have e0 : (code == ([] : Str)) = false := by simpa using h0
   simp only [e0, cond_false, Bool.not_false, cond_true, Bool.true_and]
   by_cases h2 : 2 < x.Code.length
   ·have d2 : (2 : Int) < (x.Code.length : Int) := by omega
    have hw : IntKind.i64.wrap ((x.Code.length : Int) - 2) = ((x.Code.length - 2 : Nat) : Int) := by rw [w64 (by omega)]; omega
    simp only [d2, decide_true, cond_true, hw]
    rw [if_pos (fun _ => by omega), Int.toNat_natCast]
    have e1 : (((x.Code.take (x.Code.length - 2)).drop (0 : Int).toNat) == code) = below code x := by
     unfold below
     rw [if_neg h0]
     show (parent x.Code == code) = _
     by_cases hp : parent x.Code = code
     ·simp [hp, h2]
     ·simp [hp]
    rw [e1]
    cases below code x with
    | true => rw [if_pos rfl, if_pos (by simp; omega), if_pos rfl]; rfl
    | false => rw [if_neg (by simp), if_neg (by simp)]; rfl
   ·have d2 : ¬ (2 : Int) < (x.Code.length : Int) := by omega
    simp only [d2, decide_false, cond_false, Bool.false_eq_true, false_implies, if_true, if_false]
    have e1 : below code x = false := by unfold below; rw [if_neg h0]; simp; omega
    rw [e1, if_neg (by simp)]; rfl) (by unfold nomBelow_b1; dsimp only; rw [if_neg (by simp), List.take_length])
 exact this
theorem nomBelow_eq {b : ApiNomenclature} (h : BB b) (hc : ∀ e, e ∈ b.Entries → e.Code.length ≤ 9223372036854775807) (day : Int) (code : Str) : nomBelow b day code = some (belS b day code) := by
 unfold nomBelow
 rw [nomAt_eq h, Option.bind_some, below_loop (l := atS b day) code (Nat.le_trans (List.length_filter_le _ _) h.ents.1) (fun e he => hc e ((List.mem_filter.1 he).1))]; rfl
def subS (a b : List Str) : Bool := a.all fun x => b.contains x
theorem sIndex_eq {s : List Str} (v : Str) (h : s.length ≤ 1000) : ∃ n, sIndex s v = some n ∧ (decide ((0 : Int) ≤ n) = s.contains v) := by
 unfold sIndex
 obtain ⟨r, e, hr⟩ := loop_all s (sIndex_b1 s v) (fun i (_ : Unit) => (i : Int)) (fun i _ => ∀ j, j < i → s.getD j default ≠ v) (fun r => match r with | .inl n => 0 ≤ n ∧ s.contains v = true | .inr _ => s.contains v = false) (fun i x b hx hI => by
  have hlt := lt_of_get hx
  unfold sIndex_b1
  rw [if_pos (by simp only [decide_eq_true_eq]; omega), if_pos (by omega), Int.toNat_natCast, hx, Option.bind_some, w64 (n := (i : Int) + 1) (by omega)]
  by_cases hv : v = x
  ·refine .inr ⟨_, if_pos (by simpa using hv), Int.natCast_nonneg _, ?_⟩
   rw [List.contains_iff_mem, hv]; exact List.mem_of_getElem? hx
  ·refine .inl ⟨(), by rw [if_neg (by simpa using hv)]; rfl, fun j hj => ?_⟩
   by_cases e : j = i
   ·subst e; rw [getD_of hx]; exact fun h => hv h.symm
   ·exact hI j (by omega))
  (fun b hI => ⟨.inr (), by unfold sIndex_b1; rw [if_neg (by simp)], by
   rw [Bool.eq_false_iff]
   intro hc
   have hm := List.contains_iff_mem.1 hc
   obtain ⟨j, hj, he⟩ := List.getElem_of_mem hm
   exact hI j hj (by rw [getD_get hj]; exact he)⟩) () (fun j hj => by omega)
 rw [show ((0 : Int)) = ((0 : Nat) : Int) from rfl, e, Option.bind_some]
 cases r with
 | inl n => exact ⟨n, rfl, by rw [hr.2]; simpa using hr.1⟩
 | inr _ => exact ⟨-1, rfl, by rw [hr]; decide⟩
theorem memberIn_eq {l : List Str} (v : Str) (h : l.length ≤ 1000) : memberIn v l = some (l.contains v) := by
 obtain ⟨n, e, hn⟩ := sIndex_eq v h
 unfold memberIn sContains
 rw [e, Option.bind_some, Option.bind_some, hn]
theorem subset_eq {a b : List Str} (ha : a.length ≤ 1000) (hb : b.length ≤ 50) : subset a b = some (subS a b) := by
 unfold subset member
 rw [if_pos (by simp only [decide_eq_true_eq]; omega), Option.bind_some]
 have step : ∀ (i : Nat) (x : Str), a[i]? = some x → subset_b1 a b (i : Int) = if (!b.contains x) = true then some (.inr (.inl false)) else some (.inl ((i + 1 : Nat) : Int)) := fun i x hx => by
  have hlt := lt_of_get hx
  unfold subset_b1
  rw [if_pos (by simp only [decide_eq_true_eq]; omega), if_pos (by omega), Int.toNat_natCast, hx, Option.bind_some, memberIn_eq x (by omega), Option.bind_some, w64 (n := (i : Int) + 1) (by omega)]; rfl
 have l1 := loop_list (β := Unit) a (subset_b1 a b) (fun i _ => (i : Int)) (fun _ _ => ()) (fun i => b.contains (a.getD i default)) (.inl false) (fun _ => .inr ()) (fun _ _ => True) (fun _ _ _ _ _ => trivial)
  (fun i x _ _ hx hp => by rw [getD_of hx] at hp; rw [step i x hx, hp]; rfl) (fun i x _ _ hx hp => by rw [getD_of hx] at hp; rw [step i x hx, hp]; rfl) (fun _ _ => by unfold subset_b1; rw [if_neg (by simp)]) () trivial
 rw [show ((0 : Int)) = ((0 : Nat) : Int) from rfl, l1, range_all (fun x => b.contains x)]
 unfold subS
 cases (a.all fun x => b.contains x) <;> rfl
def exS (b : ApiNomenclature) (code : Str) (words : List Str) : Bool := b.Notes.any fun n => Lib.hasPrefix code n.Scope && subS n.Words words
theorem nomExcluded_eq {b : ApiNomenclature} (h : BB b) (code : Str) {words : List Str} (hw : words.length ≤ 50) : nomExcluded b code words = some (exS b code words) := by
 unfold nomExcluded
 have hl := h.notes.1
 have step : ∀ (i : Nat) (x : ApiCodeNote), b.Notes[i]? = some x → nomExcluded_b1 b code words (i : Int) = if (Lib.hasPrefix code x.Scope && subS x.Words words) = true then some (.inr (.inl true)) else some (.inl ((i + 1 : Nat) : Int)) := fun i x hx => by
  have hlt := lt_of_get hx
  have hxl := h.notes.2 x (List.mem_of_getElem? hx)
  unfold nomExcluded_b1 hasPrefixS
  rw [if_pos (by simp only [decide_eq_true_eq]; omega), if_pos (by omega), Int.toNat_natCast, hx, Option.bind_some, Option.bind_some, w64 (n := (i : Int) + 1) (by omega), subset_eq hxl hw]
  cases Lib.hasPrefix code x.Scope <;> cases subS x.Words words <;> rfl
 have l1 := loop_list (β := Unit) b.Notes (nomExcluded_b1 b code words) (fun i _ => (i : Int)) (fun _ _ => ()) (fun i => !(Lib.hasPrefix code (b.Notes.getD i default).Scope && subS (b.Notes.getD i default).Words words)) (.inl true) (fun _ => .inr ()) (fun _ _ => True) (fun _ _ _ _ _ => trivial)
  (fun i x _ _ hx hp => by rw [getD_of hx] at hp; rw [step i x hx, if_neg (by intro hh; rw [hh] at hp; cases hp)]) (fun i x _ _ hx hp => by rw [getD_of hx] at hp; rw [step i x hx, if_pos (by simpa using hp)]) (fun _ _ => by unfold nomExcluded_b1; rw [if_neg (by simp)]) () trivial
 rw [show ((0 : Int)) = ((0 : Nat) : Int) from rfl, l1, range_all (fun n : ApiCodeNote => !(Lib.hasPrefix code n.Scope && subS n.Words words))]
 unfold exS nomExcluded_j1
 rw [← List.not_any_eq_all_not]
 cases (b.Notes.any fun n => Lib.hasPrefix code n.Scope && subS n.Words words) <;> rfl
def altS (b : ApiNomenclature) (e : Ent) : List (List Str) := e.Terms ++ (b.Notes.filter fun n => n.Target == e.Code).map (·.Words)
theorem nomAlts_eq {b : ApiNomenclature} (h : BB b) {e : Ent} (he : LB e.Terms) : nomAlts b e = some (altS b e) := by
 unfold nomAlts altS
 have hl := h.notes.1
 have ht := he.1
 rw [cloneWords_eq he, Option.bind_some]
 have := loop_seq (f := nomAlts_b1 b e) b.Notes.length (fun i => ((i : Int), e.Terms ++ ((b.Notes.take i).filter fun n => n.Target == e.Code).map (·.Words))) (e.Terms ++ (b.Notes.filter fun n => n.Target == e.Code).map (·.Words)) (fun i hi => by
  have hx := h.notes.2 _ (List.getElem_mem hi)
  have hfl := filter_len (fun n => n.Target == e.Code) b.Notes i
  unfold nomAlts_b1 nomAlts_j2 cloneS
  dsimp only
  rw [if_pos (by simp only [decide_eq_true_eq]; omega), if_pos (by omega), Int.toNat_natCast, List.getElem?_eq_getElem hi, Option.bind_some, w64 (n := (i : Int) + 1) (by omega), filter_take _ hi]
  cases hc : (b.Notes[i].Target == e.Code) with
  | true => rw [if_pos rfl, if_pos (by omega), Option.bind_some, if_pos (by simp only [List.length_append, List.length_map, List.length_cons, List.length_nil]; omega), if_pos rfl, List.map_append, ← List.append_assoc]; rfl
  | false => rw [if_neg (by simp), if_neg (by simp)]; rfl) (by unfold nomAlts_b1; dsimp only; rw [if_neg (by simp), List.take_length])
 have e0 : ((0 : Int), e.Terms) = (((0 : Nat) : Int), e.Terms ++ ((b.Notes.take 0).filter fun n => n.Target == e.Code).map (·.Words)) := by simp
 rw [e0, this]; rfl
def scF (words : List Str) (n : Int) (a : List Str) : Int := if n < (a.length : Int) ∧ subS a words = true then (a.length : Int) else n
def scS (b : ApiNomenclature) (e : Ent) (words : List Str) : Int := if exS b e.Code words = true then 0 else (altS b e).foldl (scF words) 0
theorem altS_LB {b : ApiNomenclature} (h : BB b) {e : Ent} (he : LB e.Terms) : (altS b e).length ≤ 2000 ∧ ∀ x, x ∈ altS b e → x.length ≤ 1000 := by
 unfold altS
 refine ⟨?_, fun x hx => ?_⟩
 ·have h1 := he.1; have h2 := h.notes.1
  have h3 := List.length_filter_le (fun n : ApiCodeNote => n.Target == e.Code) b.Notes
  simp only [List.length_append, List.length_map]; omega
 ·rcases List.mem_append.1 hx with hx | hx
  ·exact he.2 x hx
  ·obtain ⟨n, hn, rfl⟩ := List.mem_map.1 hx
   exact h.notes.2 n ((List.mem_filter.1 hn).1)
theorem nomScore_eq {b : ApiNomenclature} (h : BB b) {e : Ent} (he : LB e.Terms) {words : List Str} (hw : words.length ≤ 50) : nomScore b e words = some (scS b e words) := by
 unfold nomScore scS
 rw [nomExcluded_eq h _ hw, Option.bind_some]
 cases exS b e.Code words with
 | true => rfl
 | false =>
  simp only [Bool.false_eq_true, if_false]
  obtain ⟨a1, a2⟩ := altS_LB h he
  rw [nomAlts_eq h he, Option.bind_some]
  have := loop_fold (β := Int) (altS b e) (nomScore_b1 words (altS b e)) (fun i n => ((i : Int), n)) (fun n a => scF words n a) (fun n => n) (fun _ _ => True) (fun _ _ _ _ _ => trivial) (fun i x n _ hx => by
   have hlt := lt_of_get hx
   unfold nomScore_b1 nomScore_j2 scF
   dsimp only
   rw [if_pos (by simp only [decide_eq_true_eq]; omega), if_pos (by omega), Int.toNat_natCast, hx, Option.bind_some, w64 (n := (i : Int) + 1) (by omega), subset_eq (a2 x (List.mem_of_getElem? hx)) hw]
   by_cases hc : n < (x.length : Int)
   ·rw [if_pos (by simpa using hc), Option.bind_some]
    cases hs : subS x words with
    | true => rw [if_pos (by simp [hc]), if_pos ⟨hc, rfl⟩]; rfl
    | false => rw [if_neg (by simp), if_neg (by simp)]; rfl
   ·rw [if_neg (by simpa using hc), Option.bind_some, if_neg (by simp [hc]), if_neg (fun hh => hc hh.1)]; rfl) (fun n _ => by unfold nomScore_b1; dsimp only; rw [if_neg (by simp)]) 0 trivial
  rw [show ((0 : Int), (0 : Int)) = (((0 : Nat) : Int), (0 : Int)) from rfl, this]; rfl
end Go.C
end
