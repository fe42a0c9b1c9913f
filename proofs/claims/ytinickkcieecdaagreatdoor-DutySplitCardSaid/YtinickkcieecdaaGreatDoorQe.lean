/- Plain laws: how numbers, percentages, amounts and duties are written. No program in sight. -/
import Derived.Test.YtinickkcieecdaaGreatDoorPd
import Derived.Test.YtinickkcieecdaaGreatDoorQb
set_option linter.unusedVariables false
set_option linter.unusedSimpArgs false
namespace Go.C
open Go.V
open Go.Lib (decDigits)

abbrev dg (n : Nat) : UInt8 := UInt8.ofNat (48 + n)

theorem dec_small {u : Nat} (h : u < 10) : decDigits u = [dg u] := by rw [decDigits, dif_pos h]
theorem dec_big {u : Nat} (h : ¬ u < 10) : decDigits u = decDigits (u / 10) ++ [dg (u % 10)] := by rw [decDigits, dif_neg h]

theorem dec_len (k : Nat) : ∀ u : Nat, u < 10 ^ (k + 1) → (decDigits u).length ≤ k + 1 := by
  induction k with
  | zero => intro u h; rw [dec_small (by simpa using h)]; simp
  | succ k ih =>
    intro u h
    by_cases hu : u < 10
    · rw [dec_small hu]; simp
    · rw [dec_big hu, List.length_append]
      have := ih (u / 10) (by rw [Nat.pow_succ] at h; omega)
      simp; omega
theorem dec_len19 {u : Nat} (h : u < 10000000000000000000) : (decDigits u).length ≤ 19 := dec_len 18 u (by simpa using h)

theorem itoa_ok {n : Int} (h : 0 ≤ n) (h2 : n ≤ 9223372036854775807) : Go.C.itoa n = some (decDigits n.toNat) := by
  unfold Go.C.itoa Lib.itoa
  rw [if_pos (by unfold i64 okI_i64; omega), if_neg (by omega)]

theorem byte_dg {n : Int} (h : 0 ≤ n) (h2 : n < 10) : bytesI [IntKind.u8.wrap (IntKind.i64.wrap ((48 : Int) + n))] = [dg n.toNat] := by
  rw [IntWalk.i64_in _ (by omega), IntWalk.u8_in _ (by omega)]
  have : n = 0 ∨ n = 1 ∨ n = 2 ∨ n = 3 ∨ n = 4 ∨ n = 5 ∨ n = 6 ∨ n = 7 ∨ n = 8 ∨ n = 9 := by omega
  rcases this with rfl | rfl | rfl | rfl | rfl | rfl | rfl | rfl | rfl | rfl <;> decide

theorem digits_loop (s : Str) (u : Nat) : u < 9223372036854775808 → s.length + (decDigits u).length ≤ 9223372036854775807 → loopO r02Digits_b1 (s, (u : Int)) = some (decDigits u ++ s) := by
  induction u using Nat.strongRecOn generalizing s with
  | ind u ih =>
    intro h hl
    have hb : bytesI [IntKind.u8.wrap (IntKind.i64.wrap ((48 : Int) + (u : Int).tmod 10))] = [dg (u % 10)] := by
      rw [Int.tmod_eq_emod_of_nonneg (by omega), byte_dg (by omega) (by omega)]
      congr 2
    have hq : IntKind.i64.wrap ((u : Int).tdiv 10) = ((u / 10 : Nat) : Int) := by
      rw [IntWalk.i64_quo _ _ (by omega)]; omega
    by_cases hu : u < 10
    · refine loop_stop ?_
      rw [dec_small hu] at *
      have h0 : u / 10 = 0 := by omega
      have h1 : u % 10 = u := by omega
      simp only [r02Digits_b1, hb, hq, h0, h1]
      simp at hl
      rw [if_pos (by simp; omega)]
      simp
    · rw [dec_big hu] at hl ⊢
      have h0 : u / 10 ≠ 0 := by omega
      simp at hl
      refine Eq.trans (loop_step (x := ([dg (u % 10)] ++ s, ((u / 10 : Nat) : Int))) ?_) ?_
      · simp only [r02Digits_b1, hb, hq]
        rw [if_pos (by simp; omega), if_neg (by simp; omega)]
      · rw [ih (u / 10) (by omega) _ (by omega) (by simp; omega)]
        simp

theorem digits_ok {n : Int} (h : 0 ≤ n) (h2 : n ≤ 9223372036854775807) : r02Digits n = some (decDigits n.toNat) := by
  obtain ⟨u, rfl⟩ := Int.eq_ofNat_of_zero_le h
  unfold r02Digits
  have := dec_len19 (u := u) (by omega)
  rw [digits_loop [] u (by omega) (by simp; omega)]
  simp

/-- The digits behind the point of r ten-thousandths, without the zeros at the end. -/
def frac (r : Nat) : Str :=
  if r % 1000 = 0 then [dg (r / 1000)] else if r % 100 = 0 then [dg (r / 1000), dg (r / 100 % 10)] else if r % 10 = 0 then [dg (r / 1000), dg (r / 100 % 10), dg (r / 10 % 10)] else [dg (r / 1000), dg (r / 100 % 10), dg (r / 10 % 10), dg (r % 10)]
/-- A rate in millionths, as a percentage. -/
def pct (n : Nat) : Str := (decDigits (n / 10000) ++ (if n % 10000 = 0 then [] else 46 :: frac (n % 10000))) ++ [37]

theorem dg_zero {n : Nat} (h : n < 10) : (dg n == 48) = decide (n = 0) := by
  have : n = 0 ∨ n = 1 ∨ n = 2 ∨ n = 3 ∨ n = 4 ∨ n = 5 ∨ n = 6 ∨ n = 7 ∨ n = 8 ∨ n = 9 := by omega
  rcases this with rfl | rfl | rfl | rfl | rfl | rfl | rfl | rfl | rfl | rfl <;> decide

theorem dec4 {r : Nat} (h : r < 10000) : (decDigits (10000 + r)).drop 1 = [dg (r / 1000), dg (r / 100 % 10), dg (r / 10 % 10), dg (r % 10)] := by
  rw [dec_big (by omega), dec_big (u := (10000 + r) / 10) (by omega), dec_big (u := (10000 + r) / 10 / 10) (by omega), dec_big (u := (10000 + r) / 10 / 10 / 10) (by omega), dec_small (u := (10000 + r) / 10 / 10 / 10 / 10) (by omega)]
  simp only [List.cons_append, List.nil_append, List.drop_succ_cons, List.drop_zero]
  rw [show (10000 + r) / 10 / 10 / 10 % 10 = r / 1000 by omega, show (10000 + r) / 10 / 10 % 10 = r / 100 % 10 by omega, show (10000 + r) / 10 % 10 = r / 10 % 10 by omega, show (10000 + r) % 10 = r % 10 by omega]

theorem trim4 {r : Nat} (h0 : 0 < r) (h : r < 10000) : Lib.trimRightB [dg (r / 1000), dg (r / 100 % 10), dg (r / 10 % 10), dg (r % 10)] 48 = frac r := by
  unfold Lib.trimRightB frac
  simp only [List.reverse_cons, List.reverse_nil, List.nil_append, List.cons_append, List.dropWhile, dg_zero (show r % 10 < 10 by omega), dg_zero (show r / 10 % 10 < 10 by omega), dg_zero (show r / 100 % 10 < 10 by omega), dg_zero (show r / 1000 < 10 by omega)]
  by_cases a : r % 10 = 0
  · by_cases b : r % 100 = 0
    · by_cases c : r % 1000 = 0
      · have e1 : r / 10 % 10 = 0 := by omega
        have e2 : r / 100 % 10 = 0 := by omega
        have e3 : r / 1000 ≠ 0 := by omega
        simp [a, c, e1, e2, e3]
      · have e1 : r / 10 % 10 = 0 := by omega
        have e2 : r / 100 % 10 ≠ 0 := by omega
        simp [a, b, c, e1, e2]
    · have e1 : r / 10 % 10 ≠ 0 := by omega
      have c : r % 1000 ≠ 0 := by omega
      simp [a, b, c, e1]
  · have b : r % 100 ≠ 0 := by omega
    have c : r % 1000 ≠ 0 := by omega
    simp [a, b, c]

theorem frac_len (r : Nat) : (frac r).length ≤ 4 := by
  unfold frac
  repeat' split
  all_goals simp

theorem dutyPercentage_ok {n : Int} (h : 0 ≤ n) (h2 : n ≤ 9223372036854775807) : dutyPercentage n = some (pct n.toNat) := by
  obtain ⟨u, rfl⟩ := Int.eq_ofNat_of_zero_le h
  have l1 := dec_len19 (u := u / 10000) (by omega)
  have l2 := frac_len (u % 10000)
  unfold dutyPercentage
  rw [IntWalk.i64_quo _ _ (by omega), Int.tmod_eq_emod_of_nonneg (by omega), itoa_ok (by omega) (by omega)]
  simp only [Option.bind_some]
  rw [show ((u : Int) / 10000).toNat = u / 10000 by omega]
  by_cases hr : u % 10000 = 0
  · rw [if_neg (by simp; omega), if_pos (by simp; omega)]
    simp [pct, hr]
  · rw [if_pos (by simp; omega), IntWalk.i64_in _ (by omega), itoa_ok (by omega) (by omega)]
    simp only [Option.bind_some]
    rw [show ((10000 : Int) + (u : Int) % 10000).toNat = 10000 + u % 10000 by omega]
    have h4 := dec4 (r := u % 10000) (by omega)
    have hlen : 1 ≤ (decDigits (10000 + u % 10000)).length := by
      have := congrArg List.length h4
      simp at this; omega
    rw [if_pos (by omega), show (1 : Int).toNat = 1 from rfl, h4]
    unfold trimRightS
    simp only
    rw [if_pos (by simp), trim4 (by omega) (by omega)]
    simp only [Option.bind_some]
    rw [if_pos (by simp; omega), if_pos (by simp; omega), if_pos (by simp; omega)]
    simp [pct, hr]

theorem percent_loop {s : Str} {r : Nat} (h0 : 0 < r) (h : r < 10000) (hs : s.length ≤ 100) : loopO r12Percent_b1 ((1000 : Int), s, (r : Int)) = some (s ++ frac r) := by
  have step : ∀ (k : Nat) (t : Str) (x : Nat), 0 < k → k ≤ 1000 → 0 < x → x < 10 * k → t.length ≤ 200 → loopO r12Percent_b1 ((k : Int), t, (x : Int)) = loopO r12Percent_b1 (((k / 10 : Nat) : Int), t ++ [dg (x / k)], ((x % k : Nat) : Int)) := by
    intro k t x hk hk2 hx hx2 ht
    have hxk : x / k < 10 := Nat.div_lt_of_lt_mul (by omega)
    refine loop_step ?_
    have hxl : ((x / k : Nat) : Int) ≤ 9223372036854775807 := Int.le_of_lt (Int.lt_trans (Int.ofNat_lt.2 hxk) (by decide))
    simp only [r12Percent_b1]
    have e1 : IntKind.i64.wrap ((x : Int).tdiv (k : Int)) = ((x / k : Nat) : Int) := by
      rw [IntWalk.i64_quo _ _ (by omega)]; simp
    have e2 : IntKind.i64.wrap ((k : Int).tdiv 10) = ((k / 10 : Nat) : Int) := by rw [IntWalk.i64_quo _ _ (by omega)]; simp
    have e3 : (x : Int).tmod (k : Int) = ((x % k : Nat) : Int) := by rw [Int.tmod_eq_emod_of_nonneg (by omega)]; simp
    rw [if_pos (by simp; omega), if_pos (by omega), e1, e2, e3, digits_ok (Int.natCast_nonneg _) hxl]
    simp only [Option.bind_some, Int.toNat_natCast, dec_small hxk]
    rw [if_pos (by simp; omega), if_pos (by omega)]
  have fin : ∀ (k : Int) (t : Str), loopO r12Percent_b1 (k, t, ((0 : Nat) : Int)) = some t := by
    intro k t
    refine loop_stop ?_
    unfold r12Percent_b1
    simp
  rw [show (1000 : Int) = ((1000 : Nat) : Int) from rfl, step 1000 s r (by omega) (by omega) h0 (by omega) (by omega)]
  unfold frac
  split
  · rename_i h1; rw [h1, fin]
  · rename_i h1
    rw [step (1000 / 10) _ _ (by omega) (by omega) (by omega) (by omega) (by simp; omega)]
    have a1 : r % 1000 / (1000 / 10) = r / 100 % 10 := by omega
    have a2 : r % 1000 % (1000 / 10) = r % 100 := by omega
    rw [a1, a2]
    split
    · rename_i h2; rw [h2, fin]; simp
    · rename_i h2
      rw [step (1000 / 10 / 10) _ _ (by omega) (by omega) (by omega) (by omega) (by simp; omega)]
      have a3 : r % 100 / (1000 / 10 / 10) = r / 10 % 10 := by omega
      have a4 : r % 100 % (1000 / 10 / 10) = r % 10 := by omega
      rw [a3, a4]
      split
      · rename_i h3; rw [h3, fin]; simp
      · rename_i h3
        rw [step (1000 / 10 / 10 / 10) _ _ (by omega) (by omega) (by omega) (by omega) (by simp; omega)]
        have a5 : r % 10 / (1000 / 10 / 10 / 10) = r % 10 := by omega
        have a6 : r % 10 % (1000 / 10 / 10 / 10) = 0 := by omega
        rw [a5, a6, fin]; simp

theorem r12Percent_ok {n : Int} (h : 0 ≤ n) (h2 : n ≤ 9223372036854775807) : r12Percent n = some (pct n.toNat) := by
  obtain ⟨u, rfl⟩ := Int.eq_ofNat_of_zero_le h
  have l1 := dec_len19 (u := u / 10000) (by omega)
  have l2 := frac_len (u % 10000)
  unfold r12Percent
  rw [IntWalk.i64_quo _ _ (by omega), Int.tmod_eq_emod_of_nonneg (by omega), digits_ok (by omega) (by omega)]
  simp only [Option.bind_some]
  rw [show ((u : Int) / 10000).toNat = u / 10000 by omega]
  by_cases hr : u % 10000 = 0
  · rw [if_neg (by simp; omega), if_pos (by simp; omega)]
    simp [pct, hr]
  · rw [if_pos (by simp; omega), if_pos (by simp; omega), show (u : Int) % 10000 = ((u % 10000 : Nat) : Int) by omega, percent_loop (by omega) (by omega) (by simp; omega)]
    simp only [Option.bind_some]
    rw [if_pos (by simp; omega)]
    simp [pct, hr]

end Go.C
