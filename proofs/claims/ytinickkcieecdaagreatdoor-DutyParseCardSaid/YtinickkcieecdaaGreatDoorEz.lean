/- Plain laws of duties, for the seat of chapter 18 (La, Uc, Dz without what is not there). No program in sight. -/
import Derived.Test.YtinickkcieecdaaGreatDoorUa
import Derived.Test.YtinickkcieecdaaGreatDoorPa
import Derived.Test.YtinickkcieecdaaGreatDoorPc
import Derived.Test.YtinickkcieecdaaGreatDoorPd
import Derived.IntWalk
import Derived.Lib.SplitLaws
import Derived.Lib.IndexLaws
import Derived.Lib.AtoiAllCases
set_option linter.unusedVariables false
set_option linter.unusedSimpArgs false
namespace Go.C
open Go.V

theorem getD_of {α : Type} {xs : List α} {i : Nat} {x d : α} (h : xs[i]? = some x) : xs.getD i d = x := by rw [List.getD_eq_getElem?_getD, h]; rfl
theorem lt_of_get {α : Type} {xs : List α} {i : Nat} {x : α} (h : xs[i]? = some x) : i < xs.length := (List.getElem?_eq_some_iff.1 h).1
theorem within_eq {x n : Int} (hn : 0 < n) (hn2 : n ≤ 4611686018427387904) : within x n = some (x % n) := by
  unfold within
  rw [if_pos (by omega), if_pos (by omega)]
  congr 1
  have h1 : -n < x.tmod n ∧ x.tmod n < n := ⟨by have := Int.lt_tmod_of_pos x hn; omega, Int.tmod_lt_of_pos x hn⟩
  rw [IntWalk.i64_in _ (by omega), Int.tmod_eq_emod_of_nonneg (by omega), Int.add_emod_right]
  rw [Int.tmod_eq_emod]
  split
  · simp
  · have : ((n.natAbs : Nat) : Int) = n := by omega
    rw [this, Int.sub_emod_right]
    exact Int.emod_emod_of_dvd x (Int.dvd_refl n)

def SOk (s : CustomsmadeSource) : Prop := 0 ≤ s.I ∧ s.I ≤ s.L.length ∧ s.L.length ≤ 1000

theorem next_ok {s : CustomsmadeSource} {n : Int} (hs : SOk s) (hn : 0 < n) (hn2 : n ≤ 4611686018427387904) : ∃ r s', srcNext s n = some (r, s') ∧ 0 ≤ r ∧ r < n ∧ SOk s' := by
  obtain ⟨h0, h1, h2⟩ := hs
  unfold srcNext
  split
  · exact ⟨0, s, rfl, by omega, by omega, h0, h1, h2⟩
  · rename_i c
    simp at c
    have e : IntKind.i64.wrap (IntKind.i64.wrap (s.I + 1) - 1) = s.I := by
      rw [IntWalk.i64_in (s.I + 1) (by omega), IntWalk.i64_in _ (by omega)]; omega
    rw [e, if_pos h0]
    have hlt : s.I.toNat < s.L.length := by omega
    rw [List.getElem?_eq_getElem hlt]
    simp only [Option.bind_some, within_eq hn hn2]
    refine ⟨_, _, rfl, Int.emod_nonneg _ (by omega), Int.emod_lt_of_pos _ hn, ?_⟩
    refine ⟨?_, ?_, h2⟩ <;> simp only <;> rw [IntWalk.i64_in (s.I + 1) (by omega)] <;> omega

theorem cut_ok (l : List Int) (n : Nat) (hn : n ≤ 1000) : ∃ v, madeCut l (n : Int) = some v ∧ v.length ≤ n := by
  unfold madeCut
  split
  · rename_i c
    simp only [decide_eq_true_eq] at c
    rw [if_pos (by omega)]
    exact ⟨_, rfl, by simp; omega⟩
  · rename_i c
    simp only [decide_eq_true_eq] at c
    exact ⟨_, rfl, by omega⟩

theorem loop_inv {σ τ : Type} {f : σ → Option (σ ⊕ τ)} (I : Nat → σ → Prop) (R : τ → Prop)
    (hstep : ∀ n s, I n s → (∃ s' m, m < n ∧ f s = some (.inl s') ∧ I m s') ∨ (∃ r, f s = some (.inr r) ∧ R r)) : ∀ n s, I n s → ∃ r, loopO f s = some r ∧ R r := by
  intro n
  induction n using Nat.strongRecOn with
  | ind n ih =>
    intro s h
    rcases hstep n s h with ⟨s', m, hm, h1, h2⟩ | ⟨r, h1, h2⟩
    · obtain ⟨r, h3, h4⟩ := ih m hm s' h2
      exact ⟨r, by rw [loop_step h1]; exact h3, h4⟩
    · exact ⟨r, loop_stop h1, h2⟩

def ferr : Nat → (Nat → Int) → Int
  | 0, _ => 0
  | n + 1, f => if ferr n f = 0 then f n else ferr n f
theorem ferr_zero {f : Nat → Int} : ∀ {n : Nat}, ferr n f = 0 ↔ ∀ i, i < n → f i = 0
  | 0 => by simp [ferr]
  | n + 1 => by
    have ih := ferr_zero (f := f) (n := n)
    unfold ferr
    constructor
    · intro h i hi
      by_cases h0 : ferr n f = 0
      · rw [if_pos h0] at h
        by_cases e : i = n
        · subst e; exact h
        · exact ih.1 h0 i (by omega)
      · rw [if_neg h0] at h; exact absurd h h0
    · intro h
      rw [if_pos (ih.2 fun i hi => h i (by omega))]
      exact h n (by omega)
theorem ferr_first {f : Nat → Int} : ∀ {n k : Nat}, k < n → (∀ i, i < k → f i = 0) → f k ≠ 0 → ferr n f = f k
  | 0, k, h, _, _ => by omega
  | n + 1, k, h, h0, hk => by
    unfold ferr
    by_cases e : k = n
    · subst e; rw [if_pos (ferr_zero.2 h0)]
    · have := ferr_first (f := f) (n := n) (k := k) (by omega) h0 hk
      rw [if_neg (by rw [this]; exact hk), this]
theorem ferr_congr {f g : Nat → Int} : ∀ {n : Nat}, (∀ i, i < n → f i = g i) → ferr n f = ferr n g
  | 0, _ => rfl
  | n + 1, h => by
    unfold ferr
    rw [ferr_congr (n := n) (fun i hi => h i (by omega)), h n (by omega)]
theorem loop_err {α : Type} (xs : List α) (body : Int → Option (Int ⊕ (Int ⊕ Unit))) (f : Nat → Int)
    (hstep : ∀ i x, xs[i]? = some x → (∀ j, j < i → f j = 0) → body (i : Int) = if f i = 0 then some (.inl ((i + 1 : Nat) : Int)) else some (.inr (.inl (f i)))) (hend : body (xs.length : Int) = some (.inr (.inr ()))) :
    loopO body (0 : Int) = some (if ferr xs.length f = 0 then .inr () else .inl (ferr xs.length f)) := by
  have key : ∀ m k : Nat, k + m = xs.length → (∀ j, j < k → f j = 0) → loopO body (k : Int) = some (if ferr xs.length f = 0 then .inr () else .inl (ferr xs.length f)) := by
    intro m
    induction m with
    | zero =>
      intro k hk h0
      have : k = xs.length := by omega
      subst this
      rw [loop_stop hend, if_pos (ferr_zero.2 h0)]
    | succ m ih =>
      intro k hk h0
      have hlt : k < xs.length := by omega
      have hs := hstep k _ (List.getElem?_eq_getElem hlt) h0
      by_cases hf : f k = 0
      · rw [if_pos hf] at hs
        rw [loop_step hs]
        exact ih (k + 1) (by omega) (fun j hj => by
          by_cases e : j = k
          · subst e; exact hf
          · exact h0 j (by omega))
      · rw [if_neg hf] at hs
        rw [loop_stop hs, ferr_first hlt h0 hf, if_neg hf]
  exact key xs.length 0 (by omega) (fun j hj => by omega)

def isD (b : UInt8) : Bool := decide (48 ≤ b.toNat) && decide (b.toNat ≤ 57)
theorem isD_iff (b : UInt8) : isD b = true ↔ 48 ≤ b.toNat ∧ b.toNat ≤ 57 := by simp [isD]

end Go.C

namespace Go.C
open Go.V
open Go.Lib (decDigits)

theorem digits_loop (s : Str) (u : Nat) : u < 9223372036854775808 → s.length + (decDigits u).length ≤ 9223372036854775807 → loopO r02Digits_b1 (s, (u : Int)) = some (decDigits u ++ s) := by
  induction u using Nat.strongRecOn generalizing s with
  | ind u ih =>
    intro h hl
    have hb : bytesI [IntKind.u8.wrap (IntKind.i64.wrap ((48 : Int) + (u : Int).tmod 10))] = [dg (u % 10)] := by
      rw [Int.tmod_eq_emod_of_nonneg (by omega), byte_dg (by omega) (by omega)]
      congr 2
    have hq : IntKind.i64.wrap ((u : Int).tdiv 10) = ((u / 10 : Nat) : Int) := by
      rw [IntWalk.i64_quo _ _ (by omega)]; omega
    by_cases hu : u < 10
    · refine loop_stop ?_
      rw [dec_small hu] at *
      have h0 : u / 10 = 0 := by omega
      have h1 : u % 10 = u := by omega
      simp only [r02Digits_b1, hb, hq, h0, h1]
      simp at hl
      rw [if_pos (by simp; omega)]
      simp
    · rw [dec_big hu] at hl ⊢
      have h0 : u / 10 ≠ 0 := by omega
      simp at hl
      refine Eq.trans (loop_step (x := ([dg (u % 10)] ++ s, ((u / 10 : Nat) : Int))) ?_) ?_
      · simp only [r02Digits_b1, hb, hq]
        rw [if_pos (by simp; omega), if_neg (by simp; omega)]
      · rw [ih (u / 10) (by omega) _ (by omega) (by simp; omega)]
        simp

theorem digits_ok {n : Int} (h : 0 ≤ n) (h2 : n ≤ 9223372036854775807) : r02Digits n = some (decDigits n.toNat) := by
  obtain ⟨u, rfl⟩ := Int.eq_ofNat_of_zero_le h
  unfold r02Digits
  have := dec_len19 (u := u) (by omega)
  rw [digits_loop [] u (by omega) (by simp; omega)]
  simp

theorem take_snoc {α : Type} {l : List α} {i : Nat} (h : i < l.length) : l.take (i + 1) = l.take i ++ [l[i]] := by rw [List.take_add_one, List.getElem?_eq_getElem h]; rfl

theorem r08Split_eq (c : UInt8) {s : Str} (hs : s.length ≤ 4294967281) : r08Split s (c.toNat : Int) = some (spl c s) := by
  unfold r08Split
  obtain ⟨r, e, rfl⟩ := loop_inv (f := r08Split_b1 s (c.toNat : Int)) (fun m x => (∃ i j : Nat, m = s.length + 2 - i ∧ x.1 = (i : Int) ∧ x.2.1 = (j : Int) ∧ i ≤ s.length ∧ j ≤ i ∧ c ∉ (s.take i).drop j ∧ x.2.2 ++ spl c (s.drop j) = spl c s ∧ x.2.2.length ≤ j) ∨ (m = 1 ∧ x.1 = ((s.length + 1 : Nat) : Int) ∧ x.2.2 = spl c s)) (fun r => r = spl c s) (by
    rintro m ⟨i', j', out⟩ h
    simp only at h
    rcases h with ⟨i, j, rfl, rfl, rfl, hi, hj, hc, hout, hlen⟩ | ⟨rfl, rfl, rfl⟩
    · refine .inl ?_
      unfold r08Split_b1 r08Split_j2
      dsimp only
      rw [if_pos (by simp only [decide_eq_true_eq]; omega), if_pos (fun h => by simp at h; omega), Int.toNat_natCast, Int.toNat_natCast, w64 (n := (i : Int) + 1) (by omega)]
      by_cases hlt : i < s.length
      · have hne : ((i : Int) == (s.length : Int)) = false := by simp; omega
        have hsd : s.drop j = (s.take i).drop j ++ s[i] :: s.drop (i + 1) := by
          rw [← List.drop_eq_getElem_cons hlt]
          conv => lhs; rw [← List.take_append_drop i s]
          rw [List.drop_append_of_le_length (by rw [List.length_take]; omega)]
        have hg : s.getD i 0 = s[i] := by rw [List.getD_eq_getElem?_getD, List.getElem?_eq_getElem hlt]; rfl
        rw [hne, hg]
        by_cases hsc : s[i] = c
        · rw [if_pos (by simp [hsc]), if_pos (by omega), if_pos (by simp; omega)]
          refine ⟨_, s.length + 2 - (i + 1), by omega, rfl, .inl ⟨i + 1, i + 1, rfl, rfl, rfl, by omega, by omega, ?_, ?_, by simp; omega⟩⟩
          · simp
          · show (out ++ [(s.take i).drop j]) ++ spl c (s.drop (i + 1)) = spl c s
            rw [← hout, hsd, hsc, spl_at hc]; simp
        · have hsn : ¬ ((s[i].toNat : Int) = (c.toNat : Int)) := fun e => hsc (UInt8.toNat_inj.1 (by omega))
          rw [if_neg (by simpa using hsn)]
          refine ⟨_, s.length + 2 - (i + 1), by omega, rfl, .inl ⟨i + 1, j, rfl, rfl, rfl, by omega, by omega, ?_, hout, hlen⟩⟩
          rw [take_snoc hlt, List.drop_append_of_le_length (by rw [List.length_take]; omega)]
          simp only [List.mem_append, List.mem_singleton, not_or]
          exact ⟨hc, fun e => hsc e.symm⟩
      · have he : i = s.length := by omega
        subst he
        rw [if_pos (by simp), if_pos (by omega), if_pos (by simp; omega)]
        refine ⟨_, 1, by omega, rfl, .inr ⟨rfl, rfl, ?_⟩⟩
        rw [List.take_length] at hc ⊢
        rw [← hout, spl_miss hc]
    · refine .inr ?_
      unfold r08Split_b1
      dsimp only
      rw [if_neg (by simp only [decide_eq_true_eq]; omega)]
      exact ⟨_, rfl, rfl⟩) (s.length + 2) ((0 : Int), (0 : Int), []) (.inl ⟨0, 0, rfl, rfl, rfl, by omega, by omega, by simp, by simp, by simp⟩)
  rw [e]; rfl

theorem num_step {n : Int} {c : UInt8} (h1 : 48 ≤ c.toNat) (h2 : c.toNat ≤ 57) (h3 : 0 ≤ n) (h4 : n ≤ 1000000000000) : IntKind.i64.wrap (IntKind.i64.wrap ((10 : Int) * n) + IntKind.i64.wrap (IntKind.u8.wrap ((c.toNat : Int) - 48))) = n * 10 + ((c.toNat : Int) - 48) := by
  rw [IntWalk.u8_in _ (by omega), w64 (n := 10 * n) (by omega), w64 (n := (c.toNat : Int) - 48) (by omega), w64 (by omega)]; omega
theorem r08Num_dig {s : Str} (hd : IsDig s) (hl : s.length ≤ 12) : r08Num s = some (valF 0 s : Int) := by
  unfold r08Num
  have := loop_seq (f := r08Num_b1 s) s.length (fun i => ((i : Int), (valF 0 (s.take i) : Int))) (.inr (valF 0 s : Int)) (fun i hi => by
    have hg : s.getD i 0 = s[i] := by rw [List.getD_eq_getElem?_getD, List.getElem?_eq_getElem hi]; rfl
    have hc := hd s[i] (List.getElem_mem hi)
    have hv := valF_lt (s.take i) 0 0 (fun c hc => hd c (List.mem_of_mem_take hc)) (by decide)
    have hv2 : valF 0 (s.take i) < 1000000000001 := by
      rw [List.length_take, Nat.min_eq_left (by omega)] at hv
      exact Nat.lt_of_lt_of_le hv (Nat.le_trans (Nat.pow_le_pow_right (by omega) (show 0 + i ≤ 12 by omega)) (by decide))
    clear hv
    unfold r08Num_b1
    dsimp only
    rw [if_pos (by simp only [decide_eq_true_eq]; omega), if_pos (by omega), if_pos (fun _ => by omega), Int.toNat_natCast, hg, if_neg (by simp; omega), if_pos (by omega), num_step hc.1 hc.2 (by omega) (by omega), w64 (n := (i : Int) + 1) (by omega), take_snoc hi, valF_append]
    have : (valF (valF 0 (s.take i)) [s[i]] : Int) = (valF 0 (s.take i) : Int) * 10 + ((s[i].toNat : Int) - 48) := by
      show (((valF 0 (s.take i)) * 10 + (s[i].toNat - 48) : Nat) : Int) = _
      omega
    rw [this]; rfl)
    (by unfold r08Num_b1; dsimp only; rw [if_neg (by simp), List.take_length])
  show (loopO (r08Num_b1 s) (((0 : Nat) : Int), ((valF 0 (s.take 0) : Nat) : Int))).bind _ = _
  rw [this]; rfl
theorem r08Num_dec {n : Int} (h : 0 ≤ n) (h2 : n < 1000000000000) : r08Num (decDigits n.toNat) = some n := by
  obtain ⟨d1, d2, d3⟩ := isDig_dec n.toNat
  rw [r08Num_dig d1 (dec_len 11 _ (by omega)), d2, Int.toNat_of_nonneg h]
theorem r08Num_any {s : Str} (hl : s.length ≤ 4611686018427387904) : ∃ n, r08Num s = some n ∧ -1 ≤ n ∧ n ≤ 10000000000010 := by
  unfold r08Num
  obtain ⟨r, e, hr⟩ := loop_all s (r08Num_b1 s) (fun i b => ((i : Int), b)) (fun i b => 0 ≤ b ∧ b ≤ 10000000000010) (fun r => match r with | .inl v => v = -1 | .inr v => 0 ≤ v ∧ v ≤ 10000000000010) (fun i x b hx hb => by
    have hi := lt_of_get hx
    have hg : s.getD i 0 = x := getD_of hx
    have hx255 := x.toNat_lt
    unfold r08Num_b1
    dsimp only
    rw [if_pos (by simp only [decide_eq_true_eq]; omega), if_pos (by omega), if_pos (fun _ => by omega), Int.toNat_natCast, hg]
    by_cases hc : (x.toNat : Int) < 48 ∨ 57 < (x.toNat : Int) ∨ 1000000000000 < b
    · refine .inr ⟨.inl (-1), ?_, rfl⟩
      rw [if_pos]
      rcases hc with h | h | h
      · simp [h]
      · simp [h]
      · simp [h]
    · refine .inl ⟨b * 10 + ((x.toNat : Int) - 48), ?_, by omega⟩
      rw [if_neg (by simp; omega), if_pos (by omega), num_step (by omega) (by omega) hb.1 (by omega), w64 (n := (i : Int) + 1) (by omega)]; rfl)
    (fun b hb => ⟨.inr b, by unfold r08Num_b1; dsimp only; rw [if_neg (by simp)], hb⟩) 0 (by omega)
  rw [show ((0 : Int), (0 : Int)) = (((0 : Nat) : Int), (0 : Int)) from rfl, e, Option.bind_some]
  cases r with
  | inl v => simp only at hr; subst hr; exact ⟨_, rfl, by omega, by omega⟩
  | inr v => exact ⟨_, rfl, by omega, by omega⟩

end Go.C

namespace Go.C
open Go.V

theorem wi (n : Int) : IntKind.i64.wrap n = (n + 9223372036854775808) % 18446744073709551616 - 9223372036854775808 := by rw [IntKind.wrap_i64]
theorem wu (n : Int) : IntKind.u64.wrap n = n % 18446744073709551616 := by rw [IntKind.wrap_u64]

/-- A duty that holds. -/
structure DOk (d : ApiDuty) : Prop where
  rate : 0 ≤ d.Rate ∧ d.Rate ≤ 10000000
  amount : 0 ≤ d.Amount ∧ d.Amount ≤ 100000000
  per : 0 < d.Amount → 1 ≤ d.Per ∧ d.Per ≤ 1000000
  noper : d.Amount = 0 → d.Per = 0
  most : 0 ≤ d.Most ∧ d.Most ≤ 10000000
  least : 0 ≤ d.Least ∧ d.Least ≤ 10000000
  hasMost : d.Most ≠ 0 → d.HasMost = true
  hasLeast : d.Least ≠ 0 → d.HasLeast = true
  order : d.HasMost = true → d.HasLeast = true → d.Least ≤ d.Most

theorem refDuty_eq (d : ApiDuty) : refDuty d = dutyValidate d := by
  obtain ⟨R, A, P, hm, M, hl, L⟩ := d
  have e1 : ∀ x : Int, decide (0 ≤ x) = !decide (x < 0) := fun x => by by_cases h : x < 0 <;> simp [h] <;> omega
  have e2 : ∀ x n : Int, decide (x ≤ n) = !decide (n < x) := fun x n => by by_cases h : n < x <;> simp [h] <;> omega
  unfold refDuty dutyValidate refIn
  simp only [Option.bind_some, e1, e2 _ 10000000, e2 _ 100000000]
  generalize decide (R < 0) = b1
  generalize decide (10000000 < R) = b2
  generalize decide (A < 0) = b3
  generalize decide (100000000 < A) = b4
  generalize decide (M < 0) = b5
  generalize decide (10000000 < M) = b6
  generalize decide (L < 0) = b7
  generalize decide (10000000 < L) = b8
  generalize (A == 0) = b9
  generalize decide (0 < A) = b10
  generalize decide (P < 1) = b11
  generalize decide (1000000 < P) = b12
  generalize (P != 0) = b13
  generalize (M != 0) = b14
  generalize (L != 0) = b15
  generalize decide (M < L) = b16
  cases b1 <;> try rfl
  cases b2 <;> try rfl
  cases b3 <;> try rfl
  cases b4 <;> try rfl
  cases b10 <;> cases b9 <;> cases b11 <;> cases b12 <;> cases b13 <;> try rfl
  all_goals (cases b5 <;> try rfl)
  all_goals (cases b6 <;> try rfl)
  all_goals (cases b7 <;> try rfl)
  all_goals (cases b8 <;> try rfl)
  all_goals (cases b14 <;> cases b15 <;> cases hm <;> cases hl <;> try rfl)
  all_goals (cases b16 <;> rfl)

theorem validate_zero {d : ApiDuty} (h : DOk d) : dutyValidate d = some 0 := by
  obtain ⟨h1, h2, h3, h4, h5, h6, h7, h8, h9⟩ := h
  obtain ⟨R, A, P, hm, M, hl, L⟩ := d
  simp only at *
  unfold dutyValidate
  rw [if_neg (by simp; omega), if_neg (by simp; omega), if_neg (by simp; omega), if_neg (by simp; exact ⟨h7, h8⟩), if_neg (by
    simp; intro a b; exact h9 a b)]

theorem validate_dok {d : ApiDuty} (h : dutyValidate d = some 0) : DOk d := by
  obtain ⟨R, A, P, hm, M, hl, L⟩ := d
  unfold dutyValidate at h
  simp only at h
  split at h
  · cases h
  rename_i c1
  split at h
  · cases h
  rename_i c2
  split at h
  · cases h
  rename_i c3
  split at h
  · cases h
  rename_i c4
  split at h
  · cases h
  rename_i c5
  simp at c1 c2 c3 c4 c5
  refine ⟨by simp only; omega, by simp only; omega, by simp only; omega, by simp only; omega, by simp only; omega, by simp only; omega, c4.1, c4.2, c5⟩

theorem validate_some (d : ApiDuty) : ∃ e, dutyValidate d = some e ∧ (e = 0 ∨ e = 1 ∨ e = 2) := by
  unfold dutyValidate
  repeat' split
  all_goals exact ⟨_, rfl, by simp⟩

/-- A source in order. -/
theorem rate_ok {s : CustomsmadeSource} (hs : SOk s) : ∃ r s', srcRate s = some (r, s') ∧ 0 ≤ r ∧ r ≤ 1000000 ∧ SOk s' := by
  unfold srcRate
  obtain ⟨r1, s1, e1, _, _, k1⟩ := next_ok (n := 4) hs (by omega) (by omega)
  rw [e1]
  simp only [Option.bind_some]
  split
  · obtain ⟨r2, s2, e2, _, _, k2⟩ := next_ok (n := 101) k1 (by omega) (by omega)
    rw [e2]
    refine ⟨_, _, rfl, ?_, ?_, k2⟩ <;> simp only <;> rw [IntWalk.i64_in _ (by omega)] <;> omega
  · obtain ⟨r2, s2, e2, _, _, k2⟩ := next_ok (n := 1000001) k1 (by omega) (by omega)
    rw [e2]
    exact ⟨_, _, rfl, by omega, by omega, k2⟩

theorem next_bind {s : CustomsmadeSource} {n : Int} {β : Type} {f : Int × CustomsmadeSource → Option β} {Q : β → Prop} (hs : SOk s) (hn : 0 < n) (hn2 : n ≤ 4611686018427387904)
    (h : ∀ r s', 0 ≤ r → r < n → SOk s' → ∃ b, f (r, s') = some b ∧ Q b) : ∃ b, (srcNext s n).bind f = some b ∧ Q b := by
  obtain ⟨r, s', e, h1, h2, h3⟩ := next_ok hs hn hn2
  rw [e]; exact h r s' h1 h2 h3
theorem rate_bind {s : CustomsmadeSource} {β : Type} {f : Int × CustomsmadeSource → Option β} {Q : β → Prop} (hs : SOk s)
    (h : ∀ r s', 0 ≤ r → r ≤ 1000000 → SOk s' → ∃ b, f (r, s') = some b ∧ Q b) : ∃ b, (srcRate s).bind f = some b ∧ Q b := by
  obtain ⟨r, s', e, h1, h2, h3⟩ := rate_ok hs
  rw [e]; exact h r s' h1 h2 h3
theorem per_bind {r : Int} {β : Type} {f : Int → Option β} {Q : β → Prop} (h0 : 0 ≤ r) (h1 : r < 5)
    (h : ∀ x, 1 ≤ x → x ≤ 1000000 → ∃ b, f x = some b ∧ Q b) : ∃ b, ([(1 : Int), (100 : Int), (1000 : Int), (1000000 : Int), (7 : Int)][r.toNat]?).bind f = some b ∧ Q b := by
  have : r = 0 ∨ r = 1 ∨ r = 2 ∨ r = 3 ∨ r = 4 := by omega
  rcases this with rfl | rfl | rfl | rfl | rfl
  · exact h 1 (by omega) (by omega)
  · exact h 100 (by omega) (by omega)
  · exact h 1000 (by omega) (by omega)
  · exact h 1000000 (by omega) (by omega)
  · exact h 7 (by omega) (by omega)

theorem dok_mk {R A P M L : Int} {hm hl : Bool} (h1 : 0 ≤ R ∧ R ≤ 10000000) (h2 : (0 < A ∧ A ≤ 500 ∧ 1 ≤ P ∧ P ≤ 1000000) ∨ (A = 0 ∧ P = 0)) (h3 : (0 ≤ M ∧ M ≤ 10000000 ∧ hm = true) ∨ (M = 0 ∧ hm = false)) (h4 : (0 ≤ L ∧ L ≤ 10000000 ∧ hl = true) ∨ (L = 0 ∧ hl = false)) (h5 : hm = true → hl = true → L ≤ M) : DOk ⟨R, A, P, hm, M, hl, L⟩ ∧ A ≤ 500 := ⟨
  ⟨h1, by simp only; omega, by simp only; omega, by simp only; omega, by simp only; omega, by simp only; omega, by rcases h3 with h3 | h3 <;> simp [h3], by rcases h4 with h4 | h4 <;> simp [h4], h5⟩, by omega⟩

theorem srcDuty_ok {s : CustomsmadeSource} (hs : SOk s) : ∃ b, srcDuty s = some b ∧ ((DOk b.1 ∧ b.1.Amount ≤ 500) ∧ SOk b.2) := by
  unfold srcDuty
  repeat' first
    | (refine next_bind (by assumption) (by decide) (by decide) fun _ _ _ _ _ => ?_)
    | (refine rate_bind (by assumption) fun _ _ _ _ _ => ?_)
    | (refine per_bind (by assumption) (by assumption) fun _ _ _ => ?_)
    | split
    | dsimp only
    | contradiction
  all_goals (try (exfalso; omega))
  all_goals (refine ⟨_, rfl, dok_mk ?_ ?_ ?_ ?_ ?_, by assumption⟩)
  all_goals (try simp only [reduceCtorEq, and_false, and_true, or_false, false_or, true_and, forall_const, false_implies, implies_true])
  all_goals (repeat rw [IntWalk.i64_quo _ _ (by omega)])
  all_goals (try simp only [wi])
  all_goals (try omega)
  all_goals (try (have hh := ‹¬ _ < IntKind.i64.wrap _›; rw [IntWalk.i64_quo _ _ (by omega)] at hh; omega))
  all_goals simp

end Go.C

namespace Go.C
open Go.V
open Go.Lib (decDigits)

/-- The digits behind the point of r ten-thousandths, without the zeros at the end. -/
def frac (r : Nat) : Str :=
  if r % 1000 = 0 then [dg (r / 1000)] else if r % 100 = 0 then [dg (r / 1000), dg (r / 100 % 10)] else if r % 10 = 0 then [dg (r / 1000), dg (r / 100 % 10), dg (r / 10 % 10)] else [dg (r / 1000), dg (r / 100 % 10), dg (r / 10 % 10), dg (r % 10)]
/-- A rate in millionths, as a percentage. -/
def pct (n : Nat) : Str := (decDigits (n / 10000) ++ (if n % 10000 = 0 then [] else 46 :: frac (n % 10000))) ++ [37]

theorem dg_zero {n : Nat} (h : n < 10) : (dg n == 48) = decide (n = 0) := by
  have : n = 0 ∨ n = 1 ∨ n = 2 ∨ n = 3 ∨ n = 4 ∨ n = 5 ∨ n = 6 ∨ n = 7 ∨ n = 8 ∨ n = 9 := by omega
  rcases this with rfl | rfl | rfl | rfl | rfl | rfl | rfl | rfl | rfl | rfl <;> decide

theorem dec4 {r : Nat} (h : r < 10000) : (decDigits (10000 + r)).drop 1 = [dg (r / 1000), dg (r / 100 % 10), dg (r / 10 % 10), dg (r % 10)] := by
  rw [dec_big (by omega), dec_big (u := (10000 + r) / 10) (by omega), dec_big (u := (10000 + r) / 10 / 10) (by omega), dec_big (u := (10000 + r) / 10 / 10 / 10) (by omega), dec_small (u := (10000 + r) / 10 / 10 / 10 / 10) (by omega)]
  simp only [List.cons_append, List.nil_append, List.drop_succ_cons, List.drop_zero]
  rw [show (10000 + r) / 10 / 10 / 10 % 10 = r / 1000 by omega, show (10000 + r) / 10 / 10 % 10 = r / 100 % 10 by omega, show (10000 + r) / 10 % 10 = r / 10 % 10 by omega, show (10000 + r) % 10 = r % 10 by omega]

theorem trim4 {r : Nat} (h0 : 0 < r) (h : r < 10000) : Lib.trimRightB [dg (r / 1000), dg (r / 100 % 10), dg (r / 10 % 10), dg (r % 10)] 48 = frac r := by
  unfold Lib.trimRightB frac
  simp only [List.reverse_cons, List.reverse_nil, List.nil_append, List.cons_append, List.dropWhile, dg_zero (show r % 10 < 10 by omega), dg_zero (show r / 10 % 10 < 10 by omega), dg_zero (show r / 100 % 10 < 10 by omega), dg_zero (show r / 1000 < 10 by omega)]
  by_cases a : r % 10 = 0
  · by_cases b : r % 100 = 0
    · by_cases c : r % 1000 = 0
      · have e1 : r / 10 % 10 = 0 := by omega
        have e2 : r / 100 % 10 = 0 := by omega
        have e3 : r / 1000 ≠ 0 := by omega
        simp [a, c, e1, e2, e3]
      · have e1 : r / 10 % 10 = 0 := by omega
        have e2 : r / 100 % 10 ≠ 0 := by omega
        simp [a, b, c, e1, e2]
    · have e1 : r / 10 % 10 ≠ 0 := by omega
      have c : r % 1000 ≠ 0 := by omega
      simp [a, b, c, e1]
  · have b : r % 100 ≠ 0 := by omega
    have c : r % 1000 ≠ 0 := by omega
    simp [a, b, c]

theorem frac_len (r : Nat) : (frac r).length ≤ 4 := by
  unfold frac
  repeat' split
  all_goals simp

theorem dutyPercentage_ok {n : Int} (h : 0 ≤ n) (h2 : n ≤ 9223372036854775807) : dutyPercentage n = some (pct n.toNat) := by
  obtain ⟨u, rfl⟩ := Int.eq_ofNat_of_zero_le h
  have l1 := dec_len19 (u := u / 10000) (by omega)
  have l2 := frac_len (u % 10000)
  unfold dutyPercentage dutyPercentage_j1
  rw [IntWalk.i64_quo _ _ (by omega), Int.tmod_eq_emod_of_nonneg (by omega), itoa_ok (by omega) (by omega)]
  simp only [Option.bind_some]
  rw [show ((u : Int) / 10000).toNat = u / 10000 by omega]
  by_cases hr : u % 10000 = 0
  · rw [if_neg (by simp; omega), if_pos (by simp; omega)]
    simp [pct, hr]
  · rw [if_pos (by simp; omega), IntWalk.i64_in _ (by omega), itoa_ok (by omega) (by omega)]
    simp only [Option.bind_some]
    rw [show ((10000 : Int) + (u : Int) % 10000).toNat = 10000 + u % 10000 by omega]
    have h4 := dec4 (r := u % 10000) (by omega)
    have hlen : 1 ≤ (decDigits (10000 + u % 10000)).length := by
      have := congrArg List.length h4
      simp at this; omega
    rw [if_pos (by omega), show (1 : Int).toNat = 1 from rfl, h4]
    unfold trimRightS
    simp only
    rw [if_pos (by simp), trim4 (by omega) (by omega)]
    simp only [Option.bind_some]
    rw [if_pos (by simp; omega), if_pos (by simp; omega), if_pos (by simp; omega)]
    simp [pct, hr]

theorem percent_loop {s : Str} {r : Nat} (h0 : 0 < r) (h : r < 10000) (hs : s.length ≤ 100) : loopO r12Percent_b1 ((1000 : Int), s, (r : Int)) = some (s ++ frac r) := by
  have step : ∀ (k : Nat) (t : Str) (x : Nat), 0 < k → k ≤ 1000 → 0 < x → x < 10 * k → t.length ≤ 200 → loopO r12Percent_b1 ((k : Int), t, (x : Int)) = loopO r12Percent_b1 (((k / 10 : Nat) : Int), t ++ [dg (x / k)], ((x % k : Nat) : Int)) := by
    intro k t x hk hk2 hx hx2 ht
    have hxk : x / k < 10 := Nat.div_lt_of_lt_mul (by omega)
    refine loop_step ?_
    have hxl : ((x / k : Nat) : Int) ≤ 9223372036854775807 := Int.le_of_lt (Int.lt_trans (Int.ofNat_lt.2 hxk) (by decide))
    simp only [r12Percent_b1]
    have e1 : IntKind.i64.wrap ((x : Int).tdiv (k : Int)) = ((x / k : Nat) : Int) := by
      rw [IntWalk.i64_quo _ _ (by omega)]; simp
    have e2 : IntKind.i64.wrap ((k : Int).tdiv 10) = ((k / 10 : Nat) : Int) := by rw [IntWalk.i64_quo _ _ (by omega)]; simp
    have e3 : (x : Int).tmod (k : Int) = ((x % k : Nat) : Int) := by rw [Int.tmod_eq_emod_of_nonneg (by omega)]; simp
    rw [if_pos (by simp; omega), if_pos (by omega), e1, e2, e3, digits_ok (Int.natCast_nonneg _) hxl]
    simp only [Option.bind_some, Int.toNat_natCast, dec_small hxk]
    rw [if_pos (by simp; omega), if_pos (by omega)]
  have fin : ∀ (k : Int) (t : Str), loopO r12Percent_b1 (k, t, ((0 : Nat) : Int)) = some t := by
    intro k t
    refine loop_stop ?_
    unfold r12Percent_b1
    simp
  rw [show (1000 : Int) = ((1000 : Nat) : Int) from rfl, step 1000 s r (by omega) (by omega) h0 (by omega) (by omega)]
  unfold frac
  split
  · rename_i h1; rw [h1, fin]
  · rename_i h1
    rw [step (1000 / 10) _ _ (by omega) (by omega) (by omega) (by omega) (by simp; omega)]
    have a1 : r % 1000 / (1000 / 10) = r / 100 % 10 := by omega
    have a2 : r % 1000 % (1000 / 10) = r % 100 := by omega
    rw [a1, a2]
    split
    · rename_i h2; rw [h2, fin]; simp
    · rename_i h2
      rw [step (1000 / 10 / 10) _ _ (by omega) (by omega) (by omega) (by omega) (by simp; omega)]
      have a3 : r % 100 / (1000 / 10 / 10) = r / 10 % 10 := by omega
      have a4 : r % 100 % (1000 / 10 / 10) = r % 10 := by omega
      rw [a3, a4]
      split
      · rename_i h3; rw [h3, fin]; simp
      · rename_i h3
        rw [step (1000 / 10 / 10 / 10) _ _ (by omega) (by omega) (by omega) (by omega) (by simp; omega)]
        have a5 : r % 10 / (1000 / 10 / 10 / 10) = r % 10 := by omega
        have a6 : r % 10 % (1000 / 10 / 10 / 10) = 0 := by omega
        rw [a5, a6, fin]; simp

theorem r12Percent_ok {n : Int} (h : 0 ≤ n) (h2 : n ≤ 9223372036854775807) : r12Percent n = some (pct n.toNat) := by
  obtain ⟨u, rfl⟩ := Int.eq_ofNat_of_zero_le h
  have l1 := dec_len19 (u := u / 10000) (by omega)
  have l2 := frac_len (u % 10000)
  unfold r12Percent r12Percent_j1
  rw [IntWalk.i64_quo _ _ (by omega), Int.tmod_eq_emod_of_nonneg (by omega), digits_ok (by omega) (by omega)]
  simp only [Option.bind_some]
  rw [show ((u : Int) / 10000).toNat = u / 10000 by omega]
  by_cases hr : u % 10000 = 0
  · rw [if_neg (by simp; omega), if_pos (by simp; omega)]
    simp [pct, hr]
  · rw [if_pos (by simp; omega), if_pos (by simp; omega), show (u : Int) % 10000 = ((u % 10000 : Nat) : Int) by omega, percent_loop (by omega) (by omega) (by simp; omega)]
    simp only [Option.bind_some]
    rw [if_pos (by simp; omega)]
    simp [pct, hr]

end Go.C

namespace Go.C
open Go.V
open Go.Lib (decDigits)

theorem moneyWithin_one (low high n : Int) : moneyWithin low high [n] = some (decide (low ≤ n ∧ n ≤ high)) := by
  unfold moneyWithin moneyWithin_j1
  by_cases h : low ≤ n ∧ n ≤ high
  · rw [loop_step (x := (1 : Int)) (by
      simp only [moneyWithin_b1]
      rw [if_pos (by simp), if_pos (by simp)]
      simp only [Int.toNat_zero, List.getElem?_cons_zero, Option.bind_some]
      rw [if_neg (by simp; omega)]
      rfl), loop_stop (r := .inr ()) (by simp [moneyWithin_b1])]
    simp [h]
  · rw [loop_stop (r := .inl false) (by
      simp only [moneyWithin_b1]
      rw [if_pos (by simp), if_pos (by simp)]
      simp only [Int.toNat_zero, List.getElem?_cons_zero, Option.bind_some]
      rw [if_pos (by simp; omega)])]
    simp [h]

theorem isAmount_ok (n : Int) : moneyIsAmount n = some (decide (-1000000000000 ≤ n ∧ n ≤ 1000000000000)) := by
  unfold moneyIsAmount
  rw [moneyWithin_one]; rfl

/-- An amount, as it is written. -/
def mny (a : Nat) : Str := (decDigits (a / 100) ++ [46]) ++ [dg (a / 10 % 10), dg (a % 10)]

theorem dec2 {a : Nat} (h : a < 100) : (if (decDigits a).length < 2 then [48] ++ decDigits a else decDigits a) = [dg (a / 10), dg (a % 10)] := by
  by_cases h1 : a < 10
  · rw [dec_small h1]
    have e1 : a / 10 = 0 := by omega
    have e2 : a % 10 = a := by omega
    rw [e1, e2]; rfl
  · rw [dec_big h1, dec_small (u := a / 10) (by omega)]; rfl

theorem moneyFormat_ok {n : Int} (h : 0 ≤ n) (h2 : n ≤ 1000000000000) : moneyFormat n = some (mny n.toNat) := by
  obtain ⟨a, rfl⟩ := Int.eq_ofNat_of_zero_le h
  have l1 := dec_len19 (u := a / 100) (by omega)
  have hd := dec2 (a := a % 100) (by omega)
  have e0 : a % 100 / 10 = a / 10 % 10 := by omega
  have e1 : a % 100 % 10 = a % 10 := by omega
  rw [e0, e1] at hd
  unfold moneyFormat moneyFormat_j1 moneyFormat_j2
  rw [isAmount_ok]
  simp only [Option.bind_some]
  rw [if_neg (by simp; omega), if_neg (by simp), Int.tmod_eq_emod_of_nonneg (by omega), IntWalk.i64_quo _ _ (by omega), itoa_ok (by omega) (by omega), itoa_ok (by omega) (by omega)]
  simp only [Option.bind_some]
  rw [show ((a : Int) % 100).toNat = a % 100 by omega, show ((a : Int) / 100).toNat = a / 100 by omega]
  by_cases hl : (decDigits (a % 100)).length < 2
  · rw [if_pos hl] at hd
    rw [if_pos (by simp; omega), if_pos (by simp; omega), if_pos (by simp; omega), if_pos (by simp; omega), hd, if_pos (by simp; omega)]
    simp [mny]
  · rw [if_neg hl] at hd
    rw [if_neg (by simp; omega), if_pos (by simp; omega), if_pos (by simp; omega), hd, if_pos (by simp; omega)]
    simp [mny]

theorem r02Format_ok {n : Int} (h : 0 ≤ n) (h2 : n ≤ 1000000000000) : r02Format n = some (mny n.toNat) := by
  obtain ⟨a, rfl⟩ := Int.eq_ofNat_of_zero_le h
  have l1 := dec_len19 (u := a / 100) (by omega)
  unfold r02Format
  show r02Format_F (r02Format_n 1) (a : Int) = _
  unfold r02Format_F r02Amount
  simp only [Option.bind_some]
  rw [if_neg (by simp; omega), if_neg (by simp), IntWalk.i64_quo (a : Int) 100 (by omega), IntWalk.i64_quo (a : Int) 10 (by omega), Int.tmod_eq_emod_of_nonneg (by omega), Int.tmod_eq_emod_of_nonneg (by omega), digits_ok (by omega) (by omega), digits_ok (by omega) (by omega), digits_ok (by omega) (by omega)]
  simp only [Option.bind_some]
  rw [show ((a : Int) / 100).toNat = a / 100 by omega, show ((a : Int) / 10 % 10).toNat = a / 10 % 10 by omega, show ((a : Int) % 10).toNat = a % 10 by omega, dec_small (u := a / 10 % 10) (by omega), dec_small (u := a % 10) (by omega)]
  rw [if_pos (by simp; omega), if_pos (by simp; omega), if_pos (by simp; omega)]
  simp [mny]

def amt (d : ApiDuty) : Str := (mny d.Amount.toNat ++ [47]) ++ decDigits d.Per.toNat
def terms (d : ApiDuty) : Str := if d.Amount = 0 then pct d.Rate.toNat else if d.Rate = 0 then amt d else (pct d.Rate.toNat ++ [32, 43, 32]) ++ amt d
def bnds (d : ApiDuty) : Str := (if d.HasMost = true then [32, 109, 97, 120, 32] ++ pct d.Most.toNat else []) ++ (if d.HasLeast = true then [32, 109, 105, 110, 32] ++ pct d.Least.toNat else [])
/-- A duty that holds, as it is written. -/
def fmt (d : ApiDuty) : Str := terms d ++ bnds d

theorem pct_len {u : Nat} (h : u ≤ 10000000000000000) : (pct u).length ≤ 25 := by
  have l1 := dec_len19 (u := u / 10000) (by omega)
  have l2 := frac_len (u % 10000)
  unfold pct
  split <;> simp <;> omega
theorem amt_len {d : ApiDuty} (hd : DOk d) : (amt d).length ≤ 42 := by
  have h1 := hd.amount; have h2 := hd.per; have h3 := hd.noper
  have l1 := dec_len19 (u := d.Amount.toNat / 100) (by omega)
  have l2 := dec_len19 (u := d.Per.toNat) (by omega)
  unfold amt mny
  simp; omega

theorem join1 (x sep : Str) (h : x.length ≤ 1000) : joinS [x] sep = some x := by
  unfold joinS
  rw [Lib.join_one, if_pos ⟨by simp, by omega⟩]
theorem join2 (x y sep : Str) (h : x.length + y.length + sep.length ≤ 1000) : joinS [x, y] sep = some ((x ++ sep) ++ y) := by
  unfold joinS
  have e : Lib.join [x, y] sep = (x ++ sep) ++ y := by rw [Lib.join_cons]; simp [Lib.joinTail]
  rw [e, if_pos ⟨by simp, by simp; omega⟩]

theorem dutyFormat_ok {d : ApiDuty} (hd : DOk d) : dutyFormat d = some (fmt d) := by
  have h1 := hd.rate; have h2 := hd.amount; have h3 := hd.per; have h4 := hd.noper; have h5 := hd.most; have h6 := hd.least
  have p1 := dutyPercentage_ok h1.1 (by omega)
  have p2 := dutyPercentage_ok h5.1 (by omega)
  have p3 := dutyPercentage_ok h6.1 (by omega)
  have p4 := moneyFormat_ok h2.1 (by omega)
  have p5 := itoa_ok (n := d.Per) (by omega) (by omega)
  have l1 := pct_len (u := d.Rate.toNat) (by omega)
  have l2 := pct_len (u := d.Most.toNat) (by omega)
  have l3 := pct_len (u := d.Least.toNat) (by omega)
  have l4 := amt_len hd
  have l5 : (mny d.Amount.toNat).length + (decDigits d.Per.toNat).length ≤ 41 := by unfold amt at l4; simp at l4; omega
  have jj : ∀ x : Str, x.length ≤ 1000 → joinS [x] [32, 43, 32] = some x := fun x hx => join1 _ _ hx
  unfold dutyFormat dutyFormat_j1 dutyFormat_j2 dutyFormat_j3 dutyFormat_j4
  rw [validate_zero hd]
  simp only [Option.bind_some, p1, p2, p3, p4, p5]
  rw [if_neg (by decide)]
  unfold fmt terms bnds
  by_cases ha : d.Amount = 0
  · rw [if_pos (by simp [ha]), if_pos (by simp), if_neg (by simp [ha]), join1 _ _ (by omega), if_pos ha]
    simp only [Option.bind_some]
    cases d.HasMost <;> cases d.HasLeast
    · simp
    · simp only [Bool.false_eq_true, if_false, if_true]
      rw [if_pos (by simp; omega), if_pos (by simp; omega)]; simp
    · simp only [Bool.false_eq_true, if_false, if_true]
      rw [if_pos (by simp; omega), if_pos (by simp; omega)]; simp
    · simp only [Bool.false_eq_true, if_false, if_true]
      rw [if_pos (by simp; omega), if_pos (by simp; omega), if_pos (by simp; omega), if_pos (by simp; omega)]; simp
  · by_cases hr : d.Rate = 0
    · rw [if_neg (by simp [ha, hr]), if_pos (by simpa using ha), if_pos (by simp; omega), if_pos (by simp; omega), if_pos (by simp), show (mny d.Amount.toNat ++ [47]) ++ decDigits d.Per.toNat = amt d from rfl, List.nil_append, join1 _ _ (by omega), if_neg ha, if_pos hr]
      simp only [Option.bind_some]
      cases d.HasMost <;> cases d.HasLeast
      · simp
      · simp only [Bool.false_eq_true, if_false, if_true]
        rw [if_pos (by simp; omega), if_pos (by simp; omega)]; simp
      · simp only [Bool.false_eq_true, if_false, if_true]
        rw [if_pos (by simp; omega), if_pos (by simp; omega)]; simp
      · simp only [Bool.false_eq_true, if_false, if_true]
        rw [if_pos (by simp; omega), if_pos (by simp; omega), if_pos (by simp; omega), if_pos (by simp; omega)]; simp
    · rw [if_pos (by simp [hr]), if_pos (by simp), if_pos (by simpa using ha), if_pos (by simp; omega), if_pos (by simp; omega), if_pos (by simp), show (mny d.Amount.toNat ++ [47]) ++ decDigits d.Per.toNat = amt d from rfl]
      rw [show [pct d.Rate.toNat] ++ [amt d] = [pct d.Rate.toNat, amt d] from rfl, join2 _ _ _ (by simp; omega), if_neg ha, if_neg hr]
      simp only [Option.bind_some]
      cases d.HasMost <;> cases d.HasLeast
      · simp
      · simp only [Bool.false_eq_true, if_false, if_true]
        rw [if_pos (by simp; omega), if_pos (by simp; omega)]; simp
      · simp only [Bool.false_eq_true, if_false, if_true]
        rw [if_pos (by simp; omega), if_pos (by simp; omega)]; simp
      · simp only [Bool.false_eq_true, if_false, if_true]
        rw [if_pos (by simp; omega), if_pos (by simp; omega), if_pos (by simp; omega), if_pos (by simp; omega)]; simp

theorem refFormatDuty_ok {d : ApiDuty} (hd : DOk d) : refFormatDuty d = some (fmt d) := by
  have h1 := hd.rate; have h2 := hd.amount; have h3 := hd.per; have h4 := hd.noper; have h5 := hd.most; have h6 := hd.least
  have p1 := r12Percent_ok h1.1 (by omega)
  have p2 := r12Percent_ok h5.1 (by omega)
  have p3 := r12Percent_ok h6.1 (by omega)
  have p4 := r02Format_ok h2.1 (by omega)
  have p5 := digits_ok (n := d.Per) (by omega) (by omega)
  have l1 := pct_len (u := d.Rate.toNat) (by omega)
  have l2 := pct_len (u := d.Most.toNat) (by omega)
  have l3 := pct_len (u := d.Least.toNat) (by omega)
  have l4 := amt_len hd
  have l5 : (mny d.Amount.toNat).length + (decDigits d.Per.toNat).length ≤ 41 := by unfold amt at l4; simp at l4; omega
  unfold refFormatDuty refFormatDuty_j1 refFormatDuty_j2 refFormatDuty_j3
  rw [refDuty_eq, validate_zero hd]
  simp only [Option.bind_some, p1, p2, p3, p4, p5]
  rw [if_neg (by decide)]
  unfold fmt terms bnds
  by_cases ha : d.Amount = 0
  · rw [if_neg (by simp [ha]), if_pos ha]
    cases d.HasMost <;> cases d.HasLeast
    · simp
    · simp only [Bool.false_eq_true, if_false, if_true]
      rw [if_pos (by simp; omega), if_pos (by simp; omega)]; simp
    · simp only [Bool.false_eq_true, if_false, if_true]
      rw [if_pos (by simp; omega), if_pos (by simp; omega)]; simp
    · simp only [Bool.false_eq_true, if_false, if_true]
      rw [if_pos (by simp; omega), if_pos (by simp; omega), if_pos (by simp; omega), if_pos (by simp; omega)]; simp
  · rw [if_pos (by simp; omega), if_pos (by simp; omega), if_pos (by simp; omega), if_neg ha, show (mny d.Amount.toNat ++ [47]) ++ decDigits d.Per.toNat = amt d from rfl]
    by_cases hr : d.Rate = 0
    · rw [if_pos (by simpa using hr), if_pos hr]
      cases d.HasMost <;> cases d.HasLeast
      · simp
      · simp only [Bool.false_eq_true, if_false, if_true]
        rw [if_pos (by simp; omega), if_pos (by simp; omega)]; simp
      · simp only [Bool.false_eq_true, if_false, if_true]
        rw [if_pos (by simp; omega), if_pos (by simp; omega)]; simp
      · simp only [Bool.false_eq_true, if_false, if_true]
        rw [if_pos (by simp; omega), if_pos (by simp; omega), if_pos (by simp; omega), if_pos (by simp; omega)]; simp
    · rw [if_neg (by simpa using hr), if_neg hr, if_pos (by simp; omega), if_pos (by simp; omega)]
      cases d.HasMost <;> cases d.HasLeast
      · simp
      · simp only [Bool.false_eq_true, if_false, if_true]
        rw [if_pos (by simp; omega), if_pos (by simp; omega)]; simp
      · simp only [Bool.false_eq_true, if_false, if_true]
        rw [if_pos (by simp; omega), if_pos (by simp; omega)]; simp
      · simp only [Bool.false_eq_true, if_false, if_true]
        rw [if_pos (by simp; omega), if_pos (by simp; omega), if_pos (by simp; omega), if_pos (by simp; omega)]; simp

theorem format_same (d : ApiDuty) : ∃ s, dutyFormat d = some s ∧ refFormatDuty d = some s := by
  obtain ⟨e, he, he2⟩ := validate_some d
  by_cases h0 : e = 0
  · subst h0
    exact ⟨_, dutyFormat_ok (validate_dok he), refFormatDuty_ok (validate_dok he)⟩
  · refine ⟨[], ?_, ?_⟩
    · unfold dutyFormat dutyFormat_j1 dutyFormat_j2 dutyFormat_j3 dutyFormat_j4
      rw [he]; simp [h0]
    · unfold refFormatDuty refFormatDuty_j1 refFormatDuty_j2 refFormatDuty_j3
      rw [refDuty_eq, he]; simp [h0]

end Go.C

namespace Go.C
open Go.V
open Go.Lib (decDigits)

/-! ### One byte as a separator -/

theorem suffix_yes (x : Str) (c : UInt8) : Lib.hasSuffix (x ++ [c]) [c] = true ∧ Lib.trimSuffix (x ++ [c]) [c] = x := by
  have h : Lib.hasSuffix (x ++ [c]) [c] = true := by
    unfold Lib.hasSuffix
    rw [List.isSuffixOf_iff_suffix]
    exact List.suffix_append _ _
  refine ⟨h, ?_⟩
  unfold Lib.trimSuffix
  rw [if_pos h]
  simp
theorem suffix_no {x : Str} {c : UInt8} (h : c ∉ x) : Lib.hasSuffix x [c] = false ∧ Lib.trimSuffix x [c] = x := by
  have h : Lib.hasSuffix x [c] = false := by
    rw [Bool.eq_false_iff]
    intro hs
    unfold Lib.hasSuffix at hs
    rw [List.isSuffixOf_iff_suffix] at hs
    obtain ⟨t, ht⟩ := hs
    exact h (by rw [← ht]; simp)
  refine ⟨h, ?_⟩
  unfold Lib.trimSuffix
  rw [if_neg (by simp [h])]

/-! ### Percentages and amounts -/

theorem frac_dig {r : Nat} (h : r < 10000) : IsDig (frac r) := by
  have a := isDig_dg (n := r / 1000) (by omega)
  have b := isDig_dg (n := r / 100 % 10) (by omega)
  have c := isDig_dg (n := r / 10 % 10) (by omega)
  have d := isDig_dg (n := r % 10) (by omega)
  unfold frac
  repeat' split
  · exact a
  · exact a.append b
  · exact (a.append b).append c
  · exact ((a.append b).append c).append d
theorem frac_pad {r : Nat} (h : r < 10000) : frac r ++ ([48, 48, 48, 48] : Str).drop (frac r).length = [dg (r / 1000), dg (r / 100 % 10), dg (r / 10 % 10), dg (r % 10)] := by
  have z : dg 0 = 48 := by decide
  unfold frac
  split
  · rename_i h1
    rw [show r / 100 % 10 = 0 by omega, show r / 10 % 10 = 0 by omega, show r % 10 = 0 by omega, z]; rfl
  · split
    · rename_i h1
      rw [show r / 10 % 10 = 0 by omega, show r % 10 = 0 by omega, z]; rfl
    · split
      · rename_i h1
        rw [h1, z]; rfl
      · rfl
theorem valF_snoc (w : Str) {n : Nat} (h : n < 10) (r : Str) : valF 0 (w ++ dg n :: r) = valF (valF 0 w * 10 + n) r := by
  rw [show w ++ dg n :: r = (w ++ [dg n]) ++ r by simp only [List.append_assoc, List.singleton_append], valF_append, valF_append, valF_one _ h]
theorem valF_cons (acc : Nat) {n : Nat} (h : n < 10) (r : Str) : valF acc (dg n :: r) = valF (acc * 10 + n) r := by
  rw [show dg n :: r = [dg n] ++ r from rfl, valF_append, valF_one _ h]
theorem four_val (w : Str) {r : Nat} (h : r < 10000) : valF 0 (w ++ [dg (r / 1000), dg (r / 100 % 10), dg (r / 10 % 10), dg (r % 10)]) = valF 0 w * 10000 + r := by
  rw [valF_snoc w (by omega), valF_cons _ (by omega), valF_cons _ (by omega), valF_cons _ (by omega)]
  show ((((valF 0 w * 10 + r / 1000) * 10 + r / 100 % 10) * 10 + r / 10 % 10) * 10 + r % 10) = _
  generalize valF 0 w = v
  omega

theorem parsePct {u : Nat} (hu : u ≤ 10000000) : dutyParsePercentage (pct u) = some ((u : Int), true) := by
  obtain ⟨d1, d2, d3⟩ := isDig_dec (u / 10000)
  have l1 : (decDigits (u / 10000)).length ≤ 4 := dec_len 3 _ (by omega)
  have l2 := frac_len (u % 10000)
  have hdot : (46 : UInt8) ∉ decDigits (u / 10000) := d1.not_mem (by decide)
  have hpl := pct_len (u := u) (by omega)
  unfold dutyParsePercentage cutSuffixS
  rw [if_pos (by omega)]
  unfold pct
  rw [(suffix_yes _ _).1, (suffix_yes _ _).2]
  simp only [Option.bind_some]
  have e4 := four_val (decDigits (u / 10000)) (r := u % 10000) (by omega)
  have h4 : IsDig [dg (u % 10000 / 1000), dg (u % 10000 / 100 % 10), dg (u % 10000 / 10 % 10), dg (u % 10000 % 10)] :=
    (((isDig_dg (by omega)).append (isDig_dg (by omega))).append (isDig_dg (by omega))).append (isDig_dg (by omega))
  rw [d2] at e4
  have hat := atoi_dig (l := decDigits (u / 10000) ++ [dg (u % 10000 / 1000), dg (u % 10000 / 100 % 10), dg (u % 10000 / 10 % 10), dg (u % 10000 % 10)]) (d1.append h4) (by simp) (by simp; omega)
  rw [e4] at hat
  have hval : (((u / 10000 * 10000 + u % 10000 : Nat)) : Int) = u := by omega
  rw [hval] at hat
  unfold cutS
  by_cases hr : u % 10000 = 0
  · rw [if_pos hr, List.append_nil, if_pos (by omega), cut_miss hdot]
    simp only [Option.bind_some]
    rw [if_neg (by simp; omega), if_pos (by simp; omega), if_pos (by simp), if_pos (by simp; omega)]
    simp only [List.append_nil, List.length_nil]
    have : ([48, 48, 48, 48] : Str).drop (((0 : Nat) : Int)).toNat = [dg (u % 10000 / 1000), dg (u % 10000 / 100 % 10), dg (u % 10000 / 10 % 10), dg (u % 10000 % 10)] := by rw [hr]; decide
    rw [this, hat]; rfl
  · rw [if_neg hr, if_pos (by simp; omega), cut_at hdot]
    simp only [Option.bind_some]
    rw [if_neg (by simp; omega), if_pos (by omega), if_pos (by simp; omega), if_pos (by simp; omega)]
    rw [Int.toNat_natCast, List.append_assoc, frac_pad (by omega), hat]; rfl

theorem mny_parts (a : Nat) : mny a = decDigits (a / 100) ++ 46 :: [dg (a / 10 % 10), dg (a % 10)] := by simp [mny]

theorem moneyParse_ok {a : Nat} (h : a ≤ 1000000000000) : moneyParse (mny a) = some ((a : Int), 0) := by
  obtain ⟨d1, d2, d3⟩ := isDig_dec (a / 100)
  have l1 : (decDigits (a / 100)).length ≤ 11 := dec_len 10 _ (by omega)
  have l0 : 1 ≤ (decDigits (a / 100)).length := by
    rcases Nat.eq_zero_or_pos (decDigits (a / 100)).length with h | h
    · exact absurd (List.eq_nil_of_length_eq_zero h) d3
    · exact h
  have hlen : (mny a).length = (decDigits (a / 100)).length + 3 := by simp [mny]
  have hw : IntKind.i64.wrap (((mny a).length : Int) - 3) = ((decDigits (a / 100)).length : Int) := by
    rw [IntWalk.i64_in _ (by omega), hlen]; omega
  have hw2 : IntKind.i64.wrap (((decDigits (a / 100)).length : Int) + 1) = (((decDigits (a / 100)).length + 1 : Nat) : Int) := by
    rw [IntWalk.i64_in _ (by omega)]; omega
  have ht : (mny a).take (decDigits (a / 100)).length = decDigits (a / 100) := by rw [mny_parts]; simp
  have hdr : (mny a).drop ((decDigits (a / 100)).length + 1) = [dg (a / 10 % 10), dg (a % 10)] := by
    rw [mny_parts, List.drop_append]; simp
  have h2 : IsDig [dg (a / 10 % 10), dg (a % 10)] := (isDig_dg (by omega)).append (isDig_dg (by omega))
  have hat := atoi_dig (l := decDigits (a / 100) ++ [dg (a / 10 % 10), dg (a % 10)]) (d1.append h2) (by simp) (by simp; omega)
  have hv : valF 0 (decDigits (a / 100) ++ [dg (a / 10 % 10), dg (a % 10)]) = a := by
    rw [valF_append, d2, valF_cons _ (by omega), valF_cons _ (by omega)]
    show (a / 100 * 10 + a / 10 % 10) * 10 + a % 10 = a
    omega
  rw [hv] at hat
  unfold moneyParse
  simp only [hw, hw2, Int.toNat_natCast, Int.toNat_zero, List.drop_zero, ht, hdr]
  rw [if_neg (by simp; omega), if_pos (by omega), if_pos (by omega), if_pos (by simp; omega), hat]
  simp only [Option.bind_some, Bool.not_true, Bool.not_false, if_true, cond_false]
  rw [moneyFormat_ok (by omega) (by omega)]
  simp

end Go.C

namespace Go.C
open Go.V
open Go.Lib (decDigits)

abbrev maxW : Str := [109, 97, 120]
abbrev minW : Str := [109, 105, 110]
def bw (d : ApiDuty) : List Str := (if d.HasMost = true then [maxW, pct d.Most.toNat] else []) ++ (if d.HasLeast = true then [minW, pct d.Least.toNat] else [])
def tw (d : ApiDuty) : List Str := if d.Amount = 0 then [pct d.Rate.toNat] else if d.Rate = 0 then [amt d] else [pct d.Rate.toNat, [43], amt d]

theorem pct_no {u : Nat} {c : UInt8} (h : c.toNat < 48 ∨ 57 < c.toNat) (h1 : c ≠ 46) (h2 : c ≠ 37) : c ∉ pct u := by
  have d1 := (isDig_dec (u / 10000)).1.not_mem h
  have d2 := (frac_dig (r := u % 10000) (by omega)).not_mem h
  unfold pct
  split <;> simp [d1, d2, h1, h2]
theorem mny_no {u : Nat} {c : UInt8} (h : c.toNat < 48 ∨ 57 < c.toNat) (h1 : c ≠ 46) : c ∉ mny u := by
  have d1 := (isDig_dec (u / 100)).1.not_mem h
  have d2 := ((isDig_dg (n := u / 10 % 10) (by omega)).append (isDig_dg (n := u % 10) (by omega))).not_mem h
  rw [mny_parts]
  intro hm
  rcases List.mem_append.1 hm with hm | hm
  · exact d1 hm
  · rcases List.mem_cons.1 hm with hm | hm
    · exact h1 hm
    · exact d2 hm
theorem amt_no {d : ApiDuty} {c : UInt8} (h : c.toNat < 48 ∨ 57 < c.toNat) (h1 : c ≠ 46) (h2 : c ≠ 47) : c ∉ amt d := by
  have d1 := mny_no (u := d.Amount.toNat) h h1
  have d2 := (isDig_dec d.Per.toNat).1.not_mem h
  unfold amt
  intro hm
  rcases List.mem_append.1 hm with hm | hm
  · rcases List.mem_append.1 hm with hm | hm
    · exact d1 hm
    · exact h2 (List.mem_singleton.1 hm)
  · exact d2 hm

theorem split_bnds {w : Str} (d : ApiDuty) (hw : (32 : UInt8) ∉ w) : Lib.split (w ++ bnds d) [32] = w :: bw d := by
  have n1 : (32 : UInt8) ∉ pct d.Most.toNat := pct_no (by decide) (by decide) (by decide)
  have n2 : (32 : UInt8) ∉ pct d.Least.toNat := pct_no (by decide) (by decide) (by decide)
  have n3 : (32 : UInt8) ∉ maxW := by decide
  have n4 : (32 : UInt8) ∉ minW := by decide
  unfold bnds bw
  cases d.HasMost <;> cases d.HasLeast
  · simp only [Bool.false_eq_true, if_false, List.append_nil]
    exact split_miss hw
  · simp only [Bool.false_eq_true, if_false, if_true, List.nil_append]
    rw [show w ++ ([32, 109, 105, 110, 32] ++ pct d.Least.toNat) = w ++ 32 :: (minW ++ 32 :: pct d.Least.toNat) by simp, split_at hw, split_at n4, split_miss n2]
  · simp only [Bool.false_eq_true, if_false, if_true, List.append_nil]
    rw [show w ++ ([32, 109, 97, 120, 32] ++ pct d.Most.toNat) = w ++ 32 :: (maxW ++ 32 :: pct d.Most.toNat) by simp, split_at hw, split_at n3, split_miss n1]
  · simp only [Bool.false_eq_true, if_false, if_true, List.append_nil]
    rw [show w ++ ([32, 109, 97, 120, 32] ++ pct d.Most.toNat ++ ([32, 109, 105, 110, 32] ++ pct d.Least.toNat)) = w ++ 32 :: (maxW ++ 32 :: (pct d.Most.toNat ++ 32 :: (minW ++ 32 :: pct d.Least.toNat))) by simp, split_at hw, split_at n3, split_at n1, split_at n4, split_miss n2]
    rfl

theorem split_fmt (d : ApiDuty) : Lib.split (fmt d) [32] = tw d ++ bw d := by
  have n1 : (32 : UInt8) ∉ pct d.Rate.toNat := pct_no (by decide) (by decide) (by decide)
  have n2 : (32 : UInt8) ∉ amt d := amt_no (by decide) (by decide) (by decide)
  have n3 : (32 : UInt8) ∉ ([43] : Str) := by decide
  unfold fmt terms tw
  split
  · exact split_bnds d n1
  · split
    · exact split_bnds d n2
    · rw [show (pct d.Rate.toNat ++ [32, 43, 32]) ++ amt d ++ bnds d = pct d.Rate.toNat ++ 32 :: ([43] ++ 32 :: (amt d ++ bnds d)) by simp, split_at n1, split_at n3, split_bnds d n2]
      rfl

theorem parsePct_int {n : Int} (h : 0 ≤ n) (h2 : n ≤ 10000000) : dutyParsePercentage (pct n.toNat) = some (n, true) := by
  rw [parsePct (by omega), Int.toNat_of_nonneg h]

theorem parsePct_amt {d : ApiDuty} (hd : DOk d) : dutyParsePercentage (amt d) = some (0, false) := by
  have l := amt_len hd
  have n1 : (37 : UInt8) ∉ amt d := amt_no (by decide) (by decide) (by decide)
  unfold dutyParsePercentage cutSuffixS cutS
  rw [if_pos (by omega), (suffix_no n1).1, (suffix_no n1).2]
  simp only [Option.bind_some]
  rw [if_pos (by omega)]
  simp

theorem parseAmt {d : ApiDuty} (hd : DOk d) (ha : d.Amount ≠ 0) : cutS (amt d) [47] = some (mny d.Amount.toNat, decDigits d.Per.toNat, true) ∧ moneyParse (mny d.Amount.toNat) = some (d.Amount, 0) ∧ atoiS (decDigits d.Per.toNat) = some (d.Per, true) := by
  have l := amt_len hd
  have h1 := hd.amount; have h2 := hd.per
  have n1 : (47 : UInt8) ∉ mny d.Amount.toNat := mny_no (by decide) (by decide)
  obtain ⟨e1, e2, e3⟩ := isDig_dec d.Per.toNat
  have l2 : (decDigits d.Per.toNat).length ≤ 7 := dec_len 6 _ (by omega)
  refine ⟨?_, ?_, ?_⟩
  · unfold cutS
    rw [if_pos (by omega), show amt d = mny d.Amount.toNat ++ 47 :: decDigits d.Per.toNat by simp [amt], cut_at n1]
  · rw [moneyParse_ok (by omega), Int.toNat_of_nonneg h1.1]
  · rw [atoi_dig e1 e3 (by omega), e2, Int.toNat_of_nonneg (by omega)]

theorem bw_second (d : ApiDuty) (w : Str) : (w :: bw d).length < 3 ∨ ((w :: bw d).getD 1 default == ([43] : Str)) = false := by
  unfold bw
  cases d.HasMost <;> cases d.HasLeast <;> simp <;> decide

theorem terms_ok {d : ApiDuty} (hd : DOk d) : dutyParseTerms (⟨0, 0, 0, false, 0, false, 0⟩ : ApiDuty) (tw d ++ bw d) = some (bw d, true, (⟨d.Rate, d.Amount, d.Per, false, 0, false, 0⟩ : ApiDuty)) := by
  have h1 := hd.rate
  have p1 := parsePct_int h1.1 h1.2
  unfold dutyParseTerms tw dutyParseTerms_j1
  by_cases ha : d.Amount = 0
  · have hp := hd.noper ha
    rw [if_pos ha]
    simp only [List.cons_append, List.nil_append, List.getElem?_cons_zero, Option.bind_some, p1, if_true]
    have hlen : 1 ≤ (pct d.Rate.toNat :: bw d).length := by simp
    rw [if_pos (by
      intro h
      simp at h ⊢; omega), if_pos (by
      rcases bw_second d (pct d.Rate.toNat) with h | h
      · have : decide (((pct d.Rate.toNat :: bw d).length : Int) < 3) = true := by simpa using (show ((pct d.Rate.toNat :: bw d).length : Int) < 3 by omega)
        rw [this]; rfl
      · rw [h]; simp), if_pos (by omega)]
    rw [ha, hp]; rfl
  · obtain ⟨q1, q2, q3⟩ := parseAmt hd ha
    rw [if_neg ha]
    by_cases hr : d.Rate = 0
    · rw [if_pos hr]
      simp only [List.cons_append, List.nil_append, List.getElem?_cons_zero, Option.bind_some, parsePct_amt hd, Bool.false_eq_true, if_false, q1, q2, q3]
      rw [if_pos (by simp; omega), hr]; rfl
    · rw [if_neg hr]
      simp only [List.cons_append, List.nil_append, List.getElem?_cons_zero, Option.bind_some, p1, if_true]
      have e2 : (pct d.Rate.toNat :: [43] :: amt d :: bw d).drop (2 : Int).toNat = amt d :: bw d := rfl
      rw [if_pos (by intro _; simp; omega), if_neg (by simp; omega), if_pos (by simp; omega), e2]
      simp only [List.getElem?_cons_zero, Option.bind_some, q1, q2, q3]
      rw [if_pos (by simp; omega)]; rfl

theorem words_ok {d : ApiDuty} (hd : DOk d) : dutyParseWords (tw d ++ bw d) = some (d, true) := by
  have h5 := hd.most; have h6 := hd.least
  have p2 := parsePct_int h5.1 h5.2
  have p3 := parsePct_int h6.1 h6.2
  have hM := hd.hasMost; have hL := hd.hasLeast
  unfold dutyParseWords dutyParseWords_j1 dutyParseWords_j2
  rw [terms_ok hd]
  simp only [Option.bind_some]
  obtain ⟨R, A, P, hm, M, hl, L⟩ := d
  simp only at *
  unfold bw
  cases hm <;> cases hl
  · have e1 : M = 0 := by false_or_by_contra; rename_i h; exact absurd (hM h) (by simp)
    have e2 : L = 0 := by false_or_by_contra; rename_i h; exact absurd (hL h) (by simp)
    subst e1 e2
    simp
  · have e1 : M = 0 := by false_or_by_contra; rename_i h; exact absurd (hM h) (by simp)
    subst e1
    simp [dutyParseWords_j1, dutyParseBound, dutyParseBound_j1, p3]
  · have e2 : L = 0 := by false_or_by_contra; rename_i h; exact absurd (hL h) (by simp)
    subst e2
    simp [dutyParseWords_j1, dutyParseBound, dutyParseBound_j1, p2]
  · simp [dutyParseWords_j1, dutyParseBound, dutyParseBound_j1, p2, p3]

theorem fmt_len {d : ApiDuty} (hd : DOk d) : (fmt d).length ≤ 200 := by
  have h1 := hd.rate; have h5 := hd.most; have h6 := hd.least
  have l1 := pct_len (u := d.Rate.toNat) (by omega)
  have l2 := pct_len (u := d.Most.toNat) (by omega)
  have l3 := pct_len (u := d.Least.toNat) (by omega)
  have l4 := amt_len hd
  have t : (terms d).length ≤ 80 := by
    unfold terms
    split
    · omega
    · split
      · omega
      · simp; omega
  have b : (bnds d).length ≤ 70 := by unfold bnds; cases d.HasMost <;> cases d.HasLeast <;> simp <;> omega
  unfold fmt
  rw [List.length_append]; omega

/-- What is written is read back. -/
theorem parse_fmt {d : ApiDuty} (hd : DOk d) : dutyParse (fmt d) = some (d, 0) := by
  have l := fmt_len hd
  unfold dutyParse splitS
  rw [if_pos ⟨by omega, by simp⟩, split_fmt]
  simp only [Option.bind_some, words_ok hd, validate_zero hd, dutyFormat_ok hd, Bool.not_true, Bool.not_false, if_true, cond_false, bne_self_eq_false]
  simp

end Go.C
