/- Plain laws: duties that hold, and how a duty is made. No program in sight. -/
import Derived.Test.YtinickkcieecdaaGreatDoorPa
import Derived.IntWalk
set_option linter.unusedVariables false
set_option linter.unusedSimpArgs false
namespace Go.C
open Go.V

theorem wi (n : Int) : IntKind.i64.wrap n = (n + 9223372036854775808) % 18446744073709551616 - 9223372036854775808 := by rw [IntKind.wrap_i64]
theorem wu (n : Int) : IntKind.u64.wrap n = n % 18446744073709551616 := by rw [IntKind.wrap_u64]

/-- A duty that holds. -/
structure DOk (d : ApiDuty) : Prop where
  rate : 0 ≤ d.Rate ∧ d.Rate ≤ 10000000
  amount : 0 ≤ d.Amount ∧ d.Amount ≤ 100000000
  per : 0 < d.Amount → 1 ≤ d.Per ∧ d.Per ≤ 1000000
  noper : d.Amount = 0 → d.Per = 0
  most : 0 ≤ d.Most ∧ d.Most ≤ 10000000
  least : 0 ≤ d.Least ∧ d.Least ≤ 10000000
  hasMost : d.Most ≠ 0 → d.HasMost = true
  hasLeast : d.Least ≠ 0 → d.HasLeast = true
  order : d.HasMost = true → d.HasLeast = true → d.Least ≤ d.Most

theorem refDuty_eq (d : ApiDuty) : refDuty d = dutyValidate d := by
  obtain ⟨R, A, P, hm, M, hl, L⟩ := d
  have e1 : ∀ x : Int, decide (0 ≤ x) = !decide (x < 0) := fun x => by by_cases h : x < 0 <;> simp [h] <;> omega
  have e2 : ∀ x n : Int, decide (x ≤ n) = !decide (n < x) := fun x n => by by_cases h : n < x <;> simp [h] <;> omega
  unfold refDuty dutyValidate refIn
  simp only [Option.bind_some, e1, e2 _ 10000000, e2 _ 100000000]
  generalize decide (R < 0) = b1
  generalize decide (10000000 < R) = b2
  generalize decide (A < 0) = b3
  generalize decide (100000000 < A) = b4
  generalize decide (M < 0) = b5
  generalize decide (10000000 < M) = b6
  generalize decide (L < 0) = b7
  generalize decide (10000000 < L) = b8
  generalize (A == 0) = b9
  generalize decide (0 < A) = b10
  generalize decide (P < 1) = b11
  generalize decide (1000000 < P) = b12
  generalize (P != 0) = b13
  generalize (M != 0) = b14
  generalize (L != 0) = b15
  generalize decide (M < L) = b16
  cases b1 <;> try rfl
  cases b2 <;> try rfl
  cases b3 <;> try rfl
  cases b4 <;> try rfl
  cases b10 <;> cases b9 <;> cases b11 <;> cases b12 <;> cases b13 <;> try rfl
  all_goals (cases b5 <;> try rfl)
  all_goals (cases b6 <;> try rfl)
  all_goals (cases b7 <;> try rfl)
  all_goals (cases b8 <;> try rfl)
  all_goals (cases b14 <;> cases b15 <;> cases hm <;> cases hl <;> try rfl)
  all_goals (cases b16 <;> rfl)

theorem validate_zero {d : ApiDuty} (h : DOk d) : dutyValidate d = some 0 := by
  obtain ⟨h1, h2, h3, h4, h5, h6, h7, h8, h9⟩ := h
  obtain ⟨R, A, P, hm, M, hl, L⟩ := d
  simp only at *
  unfold dutyValidate
  rw [if_neg (by simp; omega), if_neg (by simp; omega), if_neg (by simp; omega), if_neg (by simp; exact ⟨h7, h8⟩), if_neg (by
    simp; intro a b; exact h9 a b)]

theorem validate_dok {d : ApiDuty} (h : dutyValidate d = some 0) : DOk d := by
  obtain ⟨R, A, P, hm, M, hl, L⟩ := d
  unfold dutyValidate at h
  simp only at h
  split at h
  · cases h
  rename_i c1
  split at h
  · cases h
  rename_i c2
  split at h
  · cases h
  rename_i c3
  split at h
  · cases h
  rename_i c4
  split at h
  · cases h
  rename_i c5
  simp at c1 c2 c3 c4 c5
  refine ⟨by simp only; omega, by simp only; omega, by simp only; omega, by simp only; omega, by simp only; omega, by simp only; omega, c4.1, c4.2, c5⟩

theorem validate_some (d : ApiDuty) : ∃ e, dutyValidate d = some e ∧ (e = 0 ∨ e = 1 ∨ e = 2) := by
  unfold dutyValidate
  repeat' split
  all_goals exact ⟨_, rfl, by simp⟩

theorem within_eq {x n : Int} (hn : 0 < n) (hn2 : n ≤ 4611686018427387904) : within x n = some (x % n) := by
  unfold within
  rw [if_pos (by omega), if_pos (by omega)]
  congr 1
  have h1 : -n < x.tmod n ∧ x.tmod n < n := ⟨by have := Int.lt_tmod_of_pos x hn; omega, Int.tmod_lt_of_pos x hn⟩
  rw [IntWalk.i64_in _ (by omega), Int.tmod_eq_emod_of_nonneg (by omega), Int.add_emod_right]
  rw [Int.tmod_eq_emod]
  split
  · simp
  · have : ((n.natAbs : Nat) : Int) = n := by omega
    rw [this, Int.sub_emod_right]
    exact Int.emod_emod_of_dvd x (Int.dvd_refl n)

/-- A source in order. -/
def SOk (s : CustomsmadeSource) : Prop := 0 ≤ s.I ∧ s.I ≤ s.L.length ∧ s.L.length ≤ 12

theorem next_ok {s : CustomsmadeSource} {n : Int} (hs : SOk s) (hn : 0 < n) (hn2 : n ≤ 4611686018427387904) : ∃ r s', srcNext s n = some (r, s') ∧ 0 ≤ r ∧ r < n ∧ SOk s' := by
  obtain ⟨h0, h1, h2⟩ := hs
  unfold srcNext
  split
  · exact ⟨0, s, rfl, by omega, by omega, h0, h1, h2⟩
  · rename_i c
    simp at c
    have e : IntKind.i64.wrap (IntKind.i64.wrap (s.I + 1) - 1) = s.I := by
      rw [IntWalk.i64_in (s.I + 1) (by omega), IntWalk.i64_in _ (by omega)]; omega
    rw [e, if_pos h0]
    have hlt : s.I.toNat < s.L.length := by omega
    rw [List.getElem?_eq_getElem hlt]
    simp only [Option.bind_some, within_eq hn hn2]
    refine ⟨_, _, rfl, Int.emod_nonneg _ (by omega), Int.emod_lt_of_pos _ hn, ?_⟩
    refine ⟨?_, ?_, h2⟩ <;> simp only <;> rw [IntWalk.i64_in (s.I + 1) (by omega)] <;> omega

theorem rate_ok {s : CustomsmadeSource} (hs : SOk s) : ∃ r s', srcRate s = some (r, s') ∧ 0 ≤ r ∧ r ≤ 1000000 ∧ SOk s' := by
  unfold srcRate
  obtain ⟨r1, s1, e1, _, _, k1⟩ := next_ok (n := 4) hs (by omega) (by omega)
  rw [e1]
  simp only [Option.bind_some]
  split
  · obtain ⟨r2, s2, e2, _, _, k2⟩ := next_ok (n := 101) k1 (by omega) (by omega)
    rw [e2]
    refine ⟨_, _, rfl, ?_, ?_, k2⟩ <;> simp only <;> rw [IntWalk.i64_in _ (by omega)] <;> omega
  · obtain ⟨r2, s2, e2, _, _, k2⟩ := next_ok (n := 1000001) k1 (by omega) (by omega)
    rw [e2]
    exact ⟨_, _, rfl, by omega, by omega, k2⟩

theorem next_bind {s : CustomsmadeSource} {n : Int} {β : Type} {f : Int × CustomsmadeSource → Option β} {Q : β → Prop} (hs : SOk s) (hn : 0 < n) (hn2 : n ≤ 4611686018427387904)
    (h : ∀ r s', 0 ≤ r → r < n → SOk s' → ∃ b, f (r, s') = some b ∧ Q b) : ∃ b, (srcNext s n).bind f = some b ∧ Q b := by
  obtain ⟨r, s', e, h1, h2, h3⟩ := next_ok hs hn hn2
  rw [e]; exact h r s' h1 h2 h3
theorem rate_bind {s : CustomsmadeSource} {β : Type} {f : Int × CustomsmadeSource → Option β} {Q : β → Prop} (hs : SOk s)
    (h : ∀ r s', 0 ≤ r → r ≤ 1000000 → SOk s' → ∃ b, f (r, s') = some b ∧ Q b) : ∃ b, (srcRate s).bind f = some b ∧ Q b := by
  obtain ⟨r, s', e, h1, h2, h3⟩ := rate_ok hs
  rw [e]; exact h r s' h1 h2 h3
theorem per_bind {r : Int} {β : Type} {f : Int → Option β} {Q : β → Prop} (h0 : 0 ≤ r) (h1 : r < 5)
    (h : ∀ x, 1 ≤ x → x ≤ 1000000 → ∃ b, f x = some b ∧ Q b) : ∃ b, ([(1 : Int), (100 : Int), (1000 : Int), (1000000 : Int), (7 : Int)][r.toNat]?).bind f = some b ∧ Q b := by
  have : r = 0 ∨ r = 1 ∨ r = 2 ∨ r = 3 ∨ r = 4 := by omega
  rcases this with rfl | rfl | rfl | rfl | rfl
  · exact h 1 (by omega) (by omega)
  · exact h 100 (by omega) (by omega)
  · exact h 1000 (by omega) (by omega)
  · exact h 1000000 (by omega) (by omega)
  · exact h 7 (by omega) (by omega)

theorem dok_mk {R A P M L : Int} {hm hl : Bool} (h1 : 0 ≤ R ∧ R ≤ 10000000) (h2 : (0 < A ∧ A ≤ 500 ∧ 1 ≤ P ∧ P ≤ 1000000) ∨ (A = 0 ∧ P = 0)) (h3 : (0 ≤ M ∧ M ≤ 10000000 ∧ hm = true) ∨ (M = 0 ∧ hm = false)) (h4 : (0 ≤ L ∧ L ≤ 10000000 ∧ hl = true) ∨ (L = 0 ∧ hl = false)) (h5 : hm = true → hl = true → L ≤ M) : DOk ⟨R, A, P, hm, M, hl, L⟩ ∧ A ≤ 500 := ⟨
  ⟨h1, by simp only; omega, by simp only; omega, by simp only; omega, by simp only; omega, by simp only; omega, by rcases h3 with h3 | h3 <;> simp [h3], by rcases h4 with h4 | h4 <;> simp [h4], h5⟩, by omega⟩

theorem srcDuty_ok {s : CustomsmadeSource} (hs : SOk s) : ∃ b, srcDuty s = some b ∧ ((DOk b.1 ∧ b.1.Amount ≤ 500) ∧ SOk b.2) := by
  unfold srcDuty
  repeat' first
    | (refine next_bind (by assumption) (by decide) (by decide) fun _ _ _ _ _ => ?_)
    | (refine rate_bind (by assumption) fun _ _ _ _ _ => ?_)
    | (refine per_bind (by assumption) (by assumption) fun _ _ _ => ?_)
    | split
    | dsimp only
    | contradiction
  all_goals (try (exfalso; omega))
  all_goals (refine ⟨_, rfl, dok_mk ?_ ?_ ?_ ?_ ?_, by assumption⟩)
  all_goals (try simp only [reduceCtorEq, and_false, and_true, or_false, false_or, true_and, forall_const, false_implies, implies_true])
  all_goals (repeat rw [IntWalk.i64_quo _ _ (by omega)])
  all_goals (try simp only [wi])
  all_goals (try omega)
  all_goals (try (have hh := ‹¬ _ < IntKind.i64.wrap _›; rw [IntWalk.i64_quo _ _ (by omega)] at hh; omega))
  all_goals simp

theorem madeCut_ok (l : List Int) : ∃ v, madeCut l 12 = some v ∧ v.length ≤ 12 := by
  unfold madeCut
  split
  · rename_i h
    simp at h
    rw [if_pos ⟨by omega, by omega, by omega⟩]
    exact ⟨_, rfl, by simp; omega⟩
  · rename_i h
    simp at h
    exact ⟨_, rfl, by omega⟩

theorem madeDuty_ok (l : List Int) : ∃ d, madeDuty l = some d ∧ DOk d ∧ d.Amount ≤ 500 := by
  unfold madeDuty
  obtain ⟨v, e, h⟩ := madeCut_ok l
  rw [e]
  obtain ⟨b, e2, h2, _⟩ := srcDuty_ok (s := ⟨v, 0⟩) ⟨by simp, by simp, h⟩
  simp only [Option.bind_some, e2]
  exact ⟨_, rfl, h2.1, h2.2⟩

theorem amount18_ok (x : Int) (b : Bool) : amount18 x b = some (if b = true then x % 100000 else x % 1000000000001) := by
  unfold amount18
  rw [within_eq (by omega) (by omega), within_eq (by omega) (by omega)]
  simp only [Option.bind_some]
  cases b <;> rfl

end Go.C
