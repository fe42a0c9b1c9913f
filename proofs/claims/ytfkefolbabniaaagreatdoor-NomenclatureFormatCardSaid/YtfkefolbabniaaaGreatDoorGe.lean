/- Plain laws of chapter 8: how a description is made. No program in sight. -/
import Derived.Test.YtfkefolbabniaaaGreatDoorGb
set_option linter.unusedVariables false
set_option linter.unusedSimpArgs false
namespace Go.C
open Go.V

theorem within_eq {x n : Int} (hn : 0 < n) (hn2 : n ≤ 4611686018427387904) : within x n = some (x % n) := by
  unfold within
  rw [if_pos (by omega), if_pos (by omega)]
  congr 1
  have h1 : -n < x.tmod n ∧ x.tmod n < n := ⟨by have := Int.lt_tmod_of_pos x hn; omega, Int.tmod_lt_of_pos x hn⟩
  rw [IntWalk.i64_in _ (by omega), Int.tmod_eq_emod_of_nonneg (by omega), Int.add_emod_right]
  rw [Int.tmod_eq_emod]
  split
  · simp
  · have : ((n.natAbs : Nat) : Int) = n := by omega
    rw [this, Int.sub_emod_right]
    exact Int.emod_emod_of_dvd x (Int.dvd_refl n)

/-- A source in order. -/
def SOk (s : CustomsmadeSource) : Prop := 0 ≤ s.I ∧ s.I ≤ s.L.length ∧ s.L.length ≤ 1000

theorem next_ok {s : CustomsmadeSource} {n : Int} (hs : SOk s) (hn : 0 < n) (hn2 : n ≤ 4611686018427387904) : ∃ r s', srcNext s n = some (r, s') ∧ 0 ≤ r ∧ r < n ∧ SOk s' := by
  obtain ⟨h0, h1, h2⟩ := hs
  unfold srcNext
  split
  · exact ⟨0, s, rfl, by omega, by omega, h0, h1, h2⟩
  · rename_i c
    simp at c
    have e : IntKind.i64.wrap (IntKind.i64.wrap (s.I + 1) - 1) = s.I := by
      rw [IntWalk.i64_in (s.I + 1) (by omega), IntWalk.i64_in _ (by omega)]; omega
    rw [e, if_pos h0]
    have hlt : s.I.toNat < s.L.length := by omega
    rw [List.getElem?_eq_getElem hlt]
    simp only [Option.bind_some, within_eq hn hn2]
    refine ⟨_, _, rfl, Int.emod_nonneg _ (by omega), Int.emod_lt_of_pos _ hn, ?_⟩
    refine ⟨?_, ?_, h2⟩ <;> simp only <;> rw [IntWalk.i64_in (s.I + 1) (by omega)] <;> omega

theorem cut_ok (l : List Int) (n : Nat) (hn : n ≤ 1000) : ∃ v, madeCut l (n : Int) = some v ∧ v.length ≤ n := by
  unfold madeCut
  split
  · rename_i c
    simp only [decide_eq_true_eq] at c
    rw [if_pos (by omega)]
    exact ⟨_, rfl, by simp; omega⟩
  · rename_i c
    simp only [decide_eq_true_eq] at c
    exact ⟨_, rfl, by omega⟩

/-- A loop whose end is known to come. -/
theorem loop_inv {σ τ : Type} {f : σ → Option (σ ⊕ τ)} (I : Nat → σ → Prop) (R : τ → Prop)
    (hstep : ∀ n s, I n s → (∃ s' m, m < n ∧ f s = some (.inl s') ∧ I m s') ∨ (∃ r, f s = some (.inr r) ∧ R r)) : ∀ n s, I n s → ∃ r, loopO f s = some r ∧ R r := by
  intro n
  induction n using Nat.strongRecOn with
  | ind n ih =>
    intro s h
    rcases hstep n s h with ⟨s', m, hm, h1, h2⟩ | ⟨r, h1, h2⟩
    · obtain ⟨r, h3, h4⟩ := ih m hm s' h2
      exact ⟨r, by rw [loop_step h1]; exact h3, h4⟩
    · exact ⟨r, loop_stop h1, h2⟩

def vocab : List Str := [([99, 104, 97, 105, 114] : Str), ([100, 101, 115, 107] : Str), ([103, 108, 97, 115, 115] : Str), ([108, 97, 109, 112] : Str), ([111, 102, 102, 105, 99, 101] : Str), ([112, 97, 114, 116, 115] : Str), ([115, 101, 97, 116] : Str), ([115, 116, 101, 101, 108] : Str), ([119, 111, 111, 100] : Str)]

/-- Words in ascending order. -/
def Asc (l : List Str) : Prop := l.Pairwise (fun a b => Op.bytesLess a b = true) ∧ ∀ x, x ∈ l → isW x = true
theorem asc_vocab : Asc vocab := ⟨by decide, by decide⟩
theorem Asc.sub {l m : List Str} (h : Asc m) (hs : l.Sublist m) : Asc l := ⟨h.1.sublist hs, fun x hx => h.2 x (hs.mem hx)⟩
theorem Asc.wp {l : List Str} (h : Asc l) : (List.range l.length).all (wp l) = true := by
  rw [List.all_eq_true]
  intro i hi
  have hi := List.mem_range.1 hi
  have e : l.getD i default = l[i] := by rw [List.getD_eq_getElem?_getD, List.getElem?_eq_getElem hi]; rfl
  unfold C.wp
  rw [e, h.2 _ (List.getElem_mem hi), Bool.true_and]
  by_cases h0 : i = 0
  · simp [h0]
  · have e2 : l.getD (i - 1) default = l[i - 1] := by rw [List.getD_eq_getElem?_getD, List.getElem?_eq_getElem (by omega)]; rfl
    rw [e2, List.pairwise_iff_getElem.1 h.1 (i - 1) i (by omega) hi (by omega)]
    simp
theorem Asc.some1 {l : List Str} (h : Asc l) (hn : l ≠ []) (h8 : l.length ≤ 8) : some1 l = true := by
  unfold C.some1 wordsOk
  simp [hn, h8, h.wp]
theorem sub_snoc {α : Type} {l m : List α} (k : Nat) (h : l.Sublist (m.take k)) (hk : k < m.length) : (l ++ [m[k]]).Sublist (m.take (k + 1)) ∧ l.Sublist (m.take (k + 1)) := by
  rw [List.take_add_one, List.getElem?_eq_getElem hk]
  exact ⟨h.append (List.Sublist.refl _), h.trans (List.sublist_append_left _ _)⟩

theorem words_ok {s : CustomsmadeSource} (hs : SOk s) (most : Nat) (h1 : 1 ≤ most) (h2 : most ≤ 8) : ∃ l s', srcWords s (most : Int) = some (l, s') ∧ Asc l ∧ l ≠ [] ∧ l.length ≤ most ∧ SOk s' := by
  unfold srcWords
  have hv : vocabulary = some vocab := rfl
  rw [hv, Option.bind_some]
  obtain ⟨r1, s1, e1, b1, b2, k1⟩ := next_ok (n := 512) hs (by omega) (by omega)
  rw [e1, Option.bind_some]
  have hlen : vocab.length = 9 := rfl
  obtain ⟨out, eo, ho1, ho2⟩ := loop_inv (f := srcWords_b1 (most : Int) vocab (r1, s1)) (fun n x => ∃ k : Nat, n = 9 - k ∧ k ≤ 9 ∧ x.1 = (k : Int) ∧ x.2.Sublist (vocab.take k) ∧ x.2.length ≤ most) (fun r => r.Sublist vocab ∧ r.length ≤ most) (by
    rintro n ⟨i, out⟩ ⟨k, rfl, hk, hi, hsub, hl⟩
    simp only at hi hsub hl
    subst hi
    unfold srcWords_b1
    dsimp only
    by_cases hc : k < 9 ∧ out.length < most
    · refine .inl ?_
      have hkl : k < vocab.length := by omega
      rw [if_pos (by
        have e1 : ((k : Int) < (vocab.length : Int)) := by omega
        have e2 : ((out.length : Int) < (most : Int)) := by omega
        simp only [e1, e2, decide_true, cond_true]), if_pos (by omega)]
      obtain ⟨q1, q2⟩ := sub_snoc k hsub hkl
      split
      · rw [if_pos (by omega), Int.toNat_natCast, List.getElem?_eq_getElem hkl, Option.bind_some, if_pos (by simp; omega)]
        unfold srcWords_j3
        rw [w64 (n := (k : Int) + 1) (by omega)]
        exact ⟨_, 9 - (k + 1), by omega, rfl, k + 1, rfl, by omega, rfl, q1, by simp; omega⟩
      · unfold srcWords_j3
        rw [w64 (n := (k : Int) + 1) (by omega)]
        exact ⟨_, 9 - (k + 1), by omega, rfl, k + 1, rfl, by omega, rfl, q2, hl⟩
    · refine .inr ?_
      rw [if_neg (by
        by_cases e1 : ((k : Int) < (vocab.length : Int))
        · have e2 : ¬ ((out.length : Int) < (most : Int)) := by omega
          simp [e2]
        · simp [e1])]
      exact ⟨_, rfl, hsub.trans (List.take_sublist _ _), hl⟩) 9 ((0 : Int), []) ⟨0, rfl, by omega, rfl, by simp, by simp⟩
  rw [eo, Option.bind_some]
  unfold srcWords_j1 srcWords_j2
  dsimp only
  by_cases hn : out = []
  · subst hn
    have ht : (r1.tmod (vocab.length : Int)) = r1 % 9 := by rw [Int.tmod_eq_emod_of_nonneg b1]; rfl
    rw [if_pos (by rfl), if_pos (by decide), ht, if_pos (by omega)]
    have hlt : (r1 % 9).toNat < vocab.length := by omega
    rw [List.getElem?_eq_getElem hlt, Option.bind_some]
    exact ⟨_, _, rfl, asc_vocab.sub (List.singleton_sublist.2 (List.getElem_mem hlt)), by simp, by simp; omega, k1⟩
  · have : (((out.length : Int)) == 0) = false := by
      have : out.length ≠ 0 := fun h => hn (List.eq_nil_of_length_eq_zero h)
      simp only [beq_eq_false_iff_ne, ne_eq]; omega
    rw [if_neg (by rw [this]; simp)]
    exact ⟨_, _, rfl, asc_vocab.sub ho1, hn, ho2, k1⟩

/-- Shares that add up. -/
structure ShOk (l : List Int) : Prop where
  rng : ∀ x, x ∈ l → 1 ≤ x ∧ x ≤ 1000000
  sum : l.sum = 1000000

theorem shares_ok {s : CustomsmadeSource} (hs : SOk s) (n : Nat) (h1 : 1 ≤ n) (h2 : n ≤ 8) : ∃ l s', srcShares s (n : Int) = some (l, s') ∧ l.length = n ∧ ShOk l ∧ SOk s' := by
  unfold srcShares
  obtain ⟨⟨left, out, cL, cI⟩, eo, ho1, ho2, ho3, ho4, ho5⟩ := loop_inv (f := srcShares_b1 (n : Int)) (fun m x => ∃ k : Nat, m = n - k ∧ 1 ≤ k ∧ k ≤ n ∧ x.1 = (k : Int) ∧ x.2.2.1.length = k - 1 ∧ (∀ y, y ∈ x.2.2.1 → 1 ≤ y ∧ y ≤ 1000000) ∧ x.2.2.1.sum + x.2.1 = 1000000 ∧ ((n : Int) - k + 1 ≤ x.2.1 ∧ x.2.1 ≤ 1000000) ∧ SOk ⟨x.2.2.2.1, x.2.2.2.2⟩)
    (fun r => r.2.1.length = n - 1 ∧ (∀ y, y ∈ r.2.1 → 1 ≤ y ∧ y ≤ 1000000) ∧ r.2.1.sum + r.1 = 1000000 ∧ (1 ≤ r.1 ∧ r.1 ≤ 1000000) ∧ SOk ⟨r.2.2.1, r.2.2.2⟩) (by
    rintro m ⟨i, left, out, cL, cI⟩ ⟨k, rfl, hk1, hk2, hi, hl, hr, hsum, hle, hso⟩
    simp only at hi hl hr hsum hle hso
    subst hi
    unfold srcShares_b1
    dsimp only
    by_cases hc : k < n
    · refine .inl ?_
      rw [if_pos (by simp only [decide_eq_true_eq]; omega)]
      obtain ⟨r1, s1, e1, b1, b2, k1⟩ := next_ok (n := 4) hso (by omega) (by omega)
      rw [e1, Option.bind_some]
      obtain ⟨r2, s2, e2, b3, b4, k2⟩ := next_ok (n := 2) k1 (by omega) (by omega)
      dsimp only
      rw [e2, Option.bind_some]
      dsimp only
      have fin : ∀ (x : Int) (L : List Int) (I : Int), 1 ≤ x → x ≤ 1000000 → SOk ⟨L, I⟩ → ∃ s' m, m < n - k ∧ srcShares_j2 (n : Int) (k : Int) left x out L I = some (.inl s') ∧ (∃ k' : Nat, m = n - k' ∧ 1 ≤ k' ∧ k' ≤ n ∧ s'.1 = (k' : Int) ∧ s'.2.2.1.length = k' - 1 ∧ (∀ y, y ∈ s'.2.2.1 → 1 ≤ y ∧ y ≤ 1000000) ∧ s'.2.2.1.sum + s'.2.1 = 1000000 ∧ ((n : Int) - k' + 1 ≤ s'.2.1 ∧ s'.2.1 ≤ 1000000) ∧ SOk ⟨s'.2.2.2.1, s'.2.2.2.2⟩) := by
        intro x L I hx1 hx2 hLI
        unfold srcShares_j2
        rw [w64 (n := (n : Int) - (k : Int)) (by omega), w64 (n := left - ((n : Int) - (k : Int))) (by omega)]
        have hz : ∃ z : Int, (if left - ((n : Int) - (k : Int)) < x then left - ((n : Int) - (k : Int)) else x) = z ∧ 1 ≤ z ∧ z ≤ 1000000 ∧ z ≤ left - ((n : Int) - (k : Int)) := by
          split
          · exact ⟨_, rfl, by omega, by omega, by omega⟩
          · exact ⟨_, rfl, by omega, by omega, by omega⟩
        obtain ⟨z, hz0, hz1, hz2, hz3⟩ := hz
        rw [hz0, if_pos (by simp; omega), w64 (n := left - z) (by omega), w64 (n := (k : Int) + 1) (by omega)]
        refine ⟨_, n - (k + 1), by omega, rfl, k + 1, rfl, by omega, by omega, rfl, by simp; omega, fun y hy => ?_, by simp; omega, by simp only; omega, hLI⟩
        rcases List.mem_append.1 hy with h | h
        · exact hr y h
        · simp at h; subst h; exact ⟨hz1, hz2⟩
      split
      · rw [if_pos (by omega)]
        have hdiv : (1000000 : Int).tdiv (n : Int) = 1000000 / (n : Int) := Int.tdiv_eq_ediv_of_nonneg (by omega)
        have hd1 : 1 ≤ (1000000 : Int) / (n : Int) := (Int.le_ediv_iff_mul_le (by omega)).2 (by omega)
        have hd2 : (1000000 : Int) / (n : Int) ≤ 1000000 := Int.ediv_le_self _ (by omega)
        rw [hdiv, w64 (n := 1000000 / (n : Int)) (by omega)]
        obtain ⟨r3, s3, e3, b5, b6, k3⟩ := next_ok (n := 1000000 / (n : Int)) k2 (by omega) (by omega)
        rw [e3, Option.bind_some]
        dsimp only
        rw [w64 (n := 1 + r3) (by omega)]
        exact fin _ _ _ (by omega) (by omega) k3
      · rw [w64 (n := r1 * 100000) (by omega), w64 (n := 1 + r1 * 100000) (by omega)]
        exact fin _ _ _ (by omega) (by omega) k2
    · refine .inr ?_
      have : k = n := by omega
      subst this
      rw [if_neg (by simp)]
      exact ⟨_, rfl, hl, hr, hsum, by simp only; omega, hso⟩) (n - 1) ((1 : Int), (1000000 : Int), [], s.L, s.I) ⟨1, rfl, by omega, by omega, rfl, rfl, fun y hy => by simp at hy, by simp, by simp only; omega, hs⟩
  rw [eo, Option.bind_some]
  simp only at ho1 ho2 ho3 ho4 ho5
  unfold srcShares_j1
  dsimp only
  rw [if_pos (by simp; omega)]
  refine ⟨_, _, rfl, by simp; omega, ⟨fun y hy => ?_, by simp; omega⟩, ho5⟩
  rcases List.mem_append.1 hy with h | h
  · exact ho2 y h
  · simp at h; subst h; exact ho4

end Go.C
