/- Plain laws: the library's division of two words by one is the division. No program in sight. -/
import Derived.Test.YtinickkcieecdaaGreatDoorPb
import Derived.Test.YtinickkcieecdaaGreatDoorQa
set_option linter.unusedVariables false
set_option linter.unusedSimpArgs false
namespace Go.C
open Go.V

theorem bv_nat (x : Int) (h : 0 ≤ x) (h2 : x < 18446744073709551616) : (BitVec.ofInt (IntKind.u64).bits x).toNat = x.toNat := by
  show (BitVec.ofInt 64 x).toNat = x.toNat
  rw [BitVec.toNat_ofInt]
  congr 1
  exact Int.emod_eq_of_lt h (by simpa using h2)
theorem bv_or {x y : Int} (k : Nat) (hx : 0 ≤ x) (hx2 : x < 18446744073709551616) (hy : 0 ≤ y) (hy2 : y < 2 ^ k) (hd : x % 2 ^ k = 0) (hs : x + y < 18446744073709551616) :
    IntKind.u64.wrap ((BitVec.ofInt (IntKind.u64).bits x ||| BitVec.ofInt (IntKind.u64).bits y).toNat : Int) = x + y := by
  have h1 : (BitVec.ofInt (IntKind.u64).bits x ||| BitVec.ofInt (IntKind.u64).bits y).toNat = x.toNat + y.toNat := by
    rw [BitVec.toNat_or, bv_nat x hx hx2, bv_nat y hy (by omega)]
    obtain ⟨a, rfl⟩ := Int.eq_ofNat_of_zero_le hx
    obtain ⟨b, rfl⟩ := Int.eq_ofNat_of_zero_le hy
    have hd' : a % 2 ^ k = 0 := by exact_mod_cast hd
    have hb : b < 2 ^ k := by exact_mod_cast hy2
    obtain ⟨m, rfl⟩ := Nat.dvd_of_mod_eq_zero hd'
    simp only [Int.toNat_natCast]
    have := Nat.two_pow_add_eq_or_of_lt hb m
    rw [this]
  rw [h1, IntWalk.u64_in _ (by omega)]
  omega
theorem bv_and {x : Int} (k : Nat) (hx : 0 ≤ x) (hx2 : x < 18446744073709551616) (m : Int) (hm : m = 2 ^ k - 1) (hm2 : m < 18446744073709551616) :
    IntKind.u64.wrap ((BitVec.ofInt (IntKind.u64).bits x &&& BitVec.ofInt (IntKind.u64).bits m).toNat : Int) = x % 2 ^ k := by
  have hp : (1 : Int) ≤ 2 ^ k := by have := Int.pow_pos (n := 2) (m := k) (by omega); omega
  have h1 : (BitVec.ofInt (IntKind.u64).bits x &&& BitVec.ofInt (IntKind.u64).bits m).toNat = x.toNat % 2 ^ k := by
    rw [BitVec.toNat_and, bv_nat x hx hx2, bv_nat m (by omega) hm2]
    have : m.toNat = 2 ^ k - 1 := by
      subst hm
      have : ((2 ^ k : Int)) = ((2 ^ k : Nat) : Int) := by simp
      rw [this]; omega
    rw [this, Nat.and_two_pow_sub_one_eq_mod]
  rw [h1]
  have h2 : ((x.toNat % 2 ^ k : Nat) : Int) = x % 2 ^ k := by
    obtain ⟨a, rfl⟩ := Int.eq_ofNat_of_zero_le hx
    simp
  rw [h2]
  have h3 : 0 ≤ x % 2 ^ k := Int.emod_nonneg _ (by omega)
  have h4 : x % 2 ^ k ≤ x := by have := Int.emod_add_mul_ediv x (2 ^ k); have := Int.mul_nonneg (show (0:Int) ≤ 2 ^ k by omega) (Int.ediv_nonneg hx (show (0:Int) ≤ 2 ^ k by omega)); omega
  exact IntWalk.u64_in _ (by omega)

theorem loop_step {σ τ : Type} {f : σ → Option (σ ⊕ τ)} {s x : σ} (h : f s = some (.inl x)) : loopO f s = loopO f x := by rw [loopO_eq, h]
theorem loop_stop {σ τ : Type} {f : σ → Option (σ ⊕ τ)} {s : σ} {r : τ} (h : f s = some (.inr r)) : loopO f s = some r := by rw [loopO_eq, h]

/-- One digit's loop. -/
def digB (y1 y0 d : Int) : Int × Int → Option ((Int × Int) ⊕ Int)
  | (r, q) =>
    if (bif (decide ((4294967296 : Int) ≤ q)) then true else (decide ((IntKind.u64.wrap ((IntKind.u64.wrap ((4294967296 : Int) * r)) + d)) < (IntKind.u64.wrap (q * y0))))) = true then
      if (decide ((4294967296 : Int) ≤ (IntKind.u64.wrap (r + y1)))) = true then some (.inr (IntKind.u64.wrap (q - (1 : Int))))
      else some (.inl ((IntKind.u64.wrap (r + y1)), (IntKind.u64.wrap (q - (1 : Int)))))
    else some (.inr q)

theorem dig_loop {y1 y0 d u : Int} (h1 : 2147483648 ≤ y1) (h2 : y1 < 4294967296) (h3 : 0 ≤ y0) (h4 : y0 < 4294967296) (hu : 0 ≤ u) (hu2 : u < y1 * 4294967296 + y0) (hd : 0 ≤ d) (hd2 : d < 4294967296) :
    ∀ (n : Nat) (r q : Int), 4294967296 - r ≤ n → 0 ≤ r → r < 4294967296 → q * y1 + r = u → (u * 4294967296 + d) / (y1 * 4294967296 + y0) ≤ q → q < 18446744073709551616 →
      loopO (digB y1 y0 d) (r, q) = some ((u * 4294967296 + d) / (y1 * 4294967296 + y0)) := by
  intro n
  induction n with
  | zero => intro r q h; intros; omega
  | succ n ih =>
    intro r q hn hr hr2 hq hQ hq2
    have hy : 0 < y1 * 4294967296 + y0 := by omega
    generalize hQd : (u * 4294967296 + d) / (y1 * 4294967296 + y0) = Q at *
    have hQ1 : Q * (y1 * 4294967296 + y0) ≤ u * 4294967296 + d := by rw [← hQd]; exact Int.ediv_mul_le _ (by omega)
    have hQ2 : u * 4294967296 + d < (Q + 1) * (y1 * 4294967296 + y0) := by rw [← hQd]; exact Int.lt_ediv_add_one_mul_self _ hy
    have hQ0 : 0 ≤ Q := by rw [← hQd]; exact Int.ediv_nonneg (by omega) (by omega)
    have hQ3 : Q < 4294967296 := by
      rw [← hQd]; apply Int.ediv_lt_of_lt_mul hy; omega
    have hq0 : 0 ≤ q := by omega
    have hR0 : 0 ≤ q * y0 := Int.mul_nonneg hq0 h3
    have hqy : q * (y1 * 4294967296 + y0) = q * y1 * 4294967296 + q * y0 := by rw [Int.mul_add, ← Int.mul_assoc]
    have hle : ∀ x, x * (y1 * 4294967296 + y0) ≤ u * 4294967296 + d → x ≤ Q := fun x hx => by rw [← hQd]; exact Int.le_ediv_of_mul_le hy hx
    have hlt : u * 4294967296 + d < q * (y1 * 4294967296 + y0) → Q < q := fun hx => by
      rcases Int.lt_or_le Q q with h | h
      · exact h
      · have := Int.mul_le_mul_of_nonneg_right h (Int.le_of_lt hy); omega
    have hqy0 : q < 4294967296 → q * y0 < 18446744073709551616 := fun h => by
      have a1 := Int.mul_le_mul_of_nonneg_right (show q ≤ 4294967295 by omega) h3
      omega
    have w1 := IntWalk.u64_in (4294967296 * r) (by omega)
    have w2 := IntWalk.u64_in (4294967296 * r + d) (by omega)
    by_cases hc : 4294967296 ≤ q ∨ 4294967296 * r + d < q * y0
    · have hcond : (bif (decide ((4294967296 : Int) ≤ q)) then true else (decide (4294967296 * r + d < IntKind.u64.wrap (q * y0)))) = true := by
        by_cases h : 4294967296 ≤ q
        · simp [h]
        · rw [IntWalk.u64_in (q * y0) (by have := hqy0 (by omega); omega)]
          simp [h]; omega
      have hQq : Q < q := by
        rcases hc with h | h
        · omega
        · apply hlt; rw [hqy]; omega
      have w3 := IntWalk.u64_in (r + y1) (by omega)
      have w4 := IntWalk.u64_in (q - 1) (by omega)
      have hs1 : (q - 1) * y1 = q * y1 - y1 := by rw [Int.sub_mul, Int.one_mul]
      by_cases hc2 : 4294967296 ≤ r + y1
      · have hsm : q - 1 < 4294967296 := by
          rcases Int.lt_or_le (q - 1) 4294967296 with h | h
          · exact h
          · have a1 := Int.mul_le_mul_of_nonneg_right h (show 0 ≤ y1 by omega)
            omega
        have a2 := Int.mul_le_mul_of_nonneg_right (show q - 1 ≤ 4294967295 by omega) h3
        have h5 : q - 1 ≤ Q := by
          apply hle
          rw [Int.mul_add, ← Int.mul_assoc, hs1]
          omega
        refine (loop_stop (r := q - 1) ?_).trans (by congr 1; omega)
        simp only [digB, w1, w2, w3, w4, hcond, if_true, hc2, decide_true]
      · refine (loop_step (x := (r + y1, q - 1)) ?_).trans (ih (r + y1) (q - 1) (by omega) (by omega) (by omega) (by omega) (by omega) (by omega))
        simp only [digB, w1, w2, w3, w4, hcond, if_true, hc2, decide_false, Bool.false_eq_true, if_false]
    · have hc1 : ¬ 4294967296 ≤ q := fun h => hc (.inl h)
      have hc2 : ¬ 4294967296 * r + d < q * y0 := fun h => hc (.inr h)
      have hcond : (bif (decide ((4294967296 : Int) ≤ q)) then true else (decide (4294967296 * r + d < IntKind.u64.wrap (q * y0)))) = false := by
        rw [IntWalk.u64_in (q * y0) (by have := hqy0 (by omega); omega)]
        simp [hc1]; omega
      have : q ≤ Q := by apply hle; rw [hqy]; omega
      refine (loop_stop (r := q) ?_).trans (by congr 1; omega)
      simp only [digB, w1, w2, hcond, Bool.false_eq_true, if_false]

/-- A digit: the loop from where it begins. -/
theorem dig_ok {y1 y0 d u : Int} (h1 : 2147483648 ≤ y1) (h2 : y1 < 4294967296) (h3 : 0 ≤ y0) (h4 : y0 < 4294967296) (hu : 0 ≤ u) (hu2 : u < y1 * 4294967296 + y0) (hd : 0 ≤ d) (hd2 : d < 4294967296) :
    loopO (digB y1 y0 d) (u - u / y1 * y1, u / y1) = some ((u * 4294967296 + d) / (y1 * 4294967296 + y0)) := by
  have hm := Int.emod_add_mul_ediv u y1
  have hm1 := Int.emod_nonneg u (show y1 ≠ 0 by omega)
  have hm2 := Int.emod_lt_of_pos u (show 0 < y1 by omega)
  have hc : u / y1 * y1 = y1 * (u / y1) := Int.mul_comm _ _
  have hq0 : 0 ≤ u / y1 := Int.ediv_nonneg hu (by omega)
  have hq1 : u / y1 ≤ u := Int.ediv_le_self _ hu
  refine dig_loop h1 h2 h3 h4 hu hu2 hd hd2 4294967296 _ _ (by omega) (by omega) (by omega) (by omega) ?_ (by omega)
  apply Int.le_of_lt_add_one
  apply Int.ediv_lt_of_lt_mul (by omega)
  have e : (u / y1 + 1) * (y1 * 4294967296 + y0) = (u / y1 * y1 + y1) * 4294967296 + (u / y1 + 1) * y0 := by
    rw [Int.mul_add, ← Int.mul_assoc, Int.add_mul (u / y1) 1 y1, Int.one_mul]
  have e2 : 0 ≤ (u / y1 + 1) * y0 := Int.mul_nonneg (by omega) h3
  omega

theorem lz_ok {c : Int} (h0 : 0 < c) (h1 : c < 18446744073709551616) : ∃ k : Nat, k ≤ 63 ∧ leadingZeros64 c = some (k : Int) ∧ 9223372036854775808 ≤ c * 2 ^ k ∧ c * 2 ^ k < 18446744073709551616 := by
  obtain ⟨x, rfl⟩ := Int.eq_ofNat_of_zero_le (Int.le_of_lt h0)
  obtain ⟨b1, b2, b3⟩ := Lib.bitLenAux_bounds 64 x (by omega) (by omega)
  have hL : Lib.bitLenAux 64 x = Lib.bitLen x := rfl
  rw [hL] at b1 b2 b3
  have b4 : Lib.bitLen x - 1 < 64 := by
    apply (Nat.pow_lt_pow_iff_right (a := 2) (by omega)).1
    have : (2 : Nat) ^ 64 = 18446744073709551616 := by decide
    omega
  refine ⟨64 - Lib.bitLen x, by omega, ?_, ?_, ?_⟩
  · unfold leadingZeros64 len64
    rw [if_pos (by omega)]
    simp only [Option.bind_some, Int.toNat_natCast]
    rw [IntWalk.i64_in _ (by omega)]
    congr 1; omega
  · have e : 2 ^ (Lib.bitLen x - 1) * 2 ^ (64 - Lib.bitLen x) = 9223372036854775808 := by
      rw [← Nat.pow_add, show Lib.bitLen x - 1 + (64 - Lib.bitLen x) = 63 by omega]
    have := Nat.mul_le_mul_right (2 ^ (64 - Lib.bitLen x)) b2
    rw [e] at this
    have h2 : ((9223372036854775808 : Nat) : Int) ≤ ((x * 2 ^ (64 - Lib.bitLen x) : Nat) : Int) := by exact_mod_cast this
    simpa using h2
  · have e : 2 ^ (Lib.bitLen x) * 2 ^ (64 - Lib.bitLen x) = 18446744073709551616 := by
      rw [← Nat.pow_add, show Lib.bitLen x + (64 - Lib.bitLen x) = 64 by omega]
    have := Nat.mul_lt_mul_of_pos_right b3 (show 0 < 2 ^ (64 - Lib.bitLen x) from Nat.pow_pos (by omega))
    rw [e] at this
    have h2 : ((x * 2 ^ (64 - Lib.bitLen x) : Nat) : Int) < ((18446744073709551616 : Nat) : Int) := by exact_mod_cast this
    simpa using h2

theorem div64_ok {hi lo c : Int} (h0 : 0 ≤ hi) (h1 : hi < c) (h2 : c < 18446744073709551616) (h3 : 0 ≤ lo) (h4 : lo < 18446744073709551616) :
    div64 hi lo c = some ((hi * 18446744073709551616 + lo) / c, (hi * 18446744073709551616 + lo) % c) := by
  unfold div64
  rw [if_neg (by simp; omega), if_neg (by simp; omega)]
  by_cases hz : hi = 0
  · subst hz
    rw [if_pos (by simp), if_pos (by omega), if_pos (by omega), IntWalk.u64_quo _ _ ⟨h3, by omega, by omega⟩, Int.tmod_eq_emod_of_nonneg h3]
    simp
  · rw [if_neg (by simpa using hz)]
    obtain ⟨k, hk, hlz, hy1, hy2⟩ := lz_ok (c := c) (by omega) h2
    rw [hlz]
    simp only [Option.bind_some]
    have hbits : (IntKind.u64).bits = 64 := rfl
    have E1 : IntKind.u64.wrap (k : Int) = k := IntWalk.u64_in _ (by omega)
    have E2 : min ((k : Int)).toNat (IntKind.u64).bits = k := by rw [hbits]; omega
    have E3 : IntKind.u64.wrap ((64 : Int) - (k : Int)) = 64 - k := IntWalk.u64_in _ (by omega)
    have E3' : min ((64 : Int) - (k : Int)).toNat (IntKind.u64).bits = 64 - k := by rw [hbits]; omega
    have E32 : (2 : Int) ^ (min (32 : Int).toNat (IntKind.u64).bits) = 4294967296 := by decide
    have hpp : (2 : Int) ^ k * 2 ^ (64 - k) = 18446744073709551616 := by
      rw [← Int.pow_add, show k + (64 - k) = 64 by omega]; decide
    have hp0 : (0 : Int) < 2 ^ k := Int.pow_pos (by omega)
    have hp1 : (0 : Int) < 2 ^ (64 - k) := Int.pow_pos (by omega)
    simp only [E1, E2, E3, E3', E32]
    have hfd : lo.fdiv (2 ^ (64 - k)) = lo / 2 ^ (64 - k) := Int.fdiv_eq_ediv_of_nonneg _ (Int.le_of_lt hp1)
    generalize hpd : (2 : Int) ^ k = p at *
    generalize hqd : (2 : Int) ^ (64 - k) = p' at *
    have hyw : IntKind.u64.wrap (c * p) = c * p := IntWalk.u64_in _ (by omega)
    have hhi : hi * p ≤ c * p - p := by
      have := Int.mul_le_mul_of_nonneg_right (show hi ≤ c - 1 by omega) (Int.le_of_lt hp0)
      rw [Int.sub_mul, Int.one_mul] at this; exact this
    have hhi0 : 0 ≤ hi * p := Int.mul_nonneg h0 (Int.le_of_lt hp0)
    have hhw : IntKind.u64.wrap (hi * p) = hi * p := IntWalk.u64_in _ (by omega)
    have hl0 : 0 ≤ lo / p' := Int.ediv_nonneg h3 (Int.le_of_lt hp1)
    have hl1 : lo / p' < p := by apply Int.ediv_lt_of_lt_mul hp1; omega
    have hlp : lo * p = (lo / p') * 18446744073709551616 + lo * p % 18446744073709551616 := by
      have e1 : lo * p / 18446744073709551616 = lo / p' := by
        rw [← hpp, Int.mul_comm lo p]; exact Int.mul_ediv_mul_of_pos _ _ hp0
      have := Int.emod_add_mul_ediv (lo * p) 18446744073709551616
      rw [e1] at this; omega
    have hor : IntKind.u64.wrap ((BitVec.ofInt (IntKind.u64).bits (hi * p) ||| BitVec.ofInt (IntKind.u64).bits (lo / p')).toNat : Int) = hi * p + lo / p' := by
      apply bv_or k hhi0 (by omega) hl0 (by rw [hpd]; exact hl1) (by rw [hpd]; exact Int.mul_emod_left _ _) (by omega)
    have hU : (hi * 18446744073709551616 + lo) * p = (hi * p + lo / p') * 18446744073709551616 + lo * p % 18446744073709551616 := by
      rw [Int.add_mul, Int.mul_right_comm]; omega
    simp only [hyw, hhw, hfd, hor]
    generalize hyd : c * p = y at *
    generalize hud : hi * p + lo / p' = u at *
    have hu0 : 0 ≤ u := by omega
    have huy : u < y := by omega
    have hlow : IntKind.u64.wrap (lo * p) = lo * p % 18446744073709551616 := wu _
    have hm0 := Int.emod_nonneg (lo * p) (show (18446744073709551616 : Int) ≠ 0 by omega)
    have hm1 := Int.emod_lt_of_pos (lo * p) (show (0 : Int) < 18446744073709551616 by omega)
    generalize hnd : lo * p % 18446744073709551616 = m at *
    have hfy : y.fdiv 4294967296 = y / 4294967296 := Int.fdiv_eq_ediv_of_nonneg _ (by omega)
    have hfm : m.fdiv 4294967296 = m / 4294967296 := Int.fdiv_eq_ediv_of_nonneg _ (by omega)
    have hay : IntKind.u64.wrap ((BitVec.ofInt (IntKind.u64).bits y &&& BitVec.ofInt (IntKind.u64).bits (4294967295 : Int)).toNat : Int) = y % 4294967296 := bv_and 32 (by omega) (by omega) _ (by decide) (by decide)
    have ham : IntKind.u64.wrap ((BitVec.ofInt (IntKind.u64).bits m &&& BitVec.ofInt (IntKind.u64).bits (4294967295 : Int)).toNat : Int) = m % 4294967296 := bv_and 32 (by omega) (by omega) _ (by decide) (by decide)
    have hyy : y / 4294967296 * 4294967296 + y % 4294967296 = y := by omega
    have B2 : div64_b2 hi lo c k = digB (y / 4294967296) (y % 4294967296) (m / 4294967296) := by
      funext ⟨r, q⟩
      simp only [div64_b2, digB, E1, E2, E32, hpd, hyd, hyw, hlow, hnd, hfy, hfm, hay]
    have hud1 := IntWalk.u64_quo u (y / 4294967296) ⟨hu0, by omega, by omega⟩
    have hdv0 : 0 ≤ u / (y / 4294967296) * (y / 4294967296) := Int.mul_nonneg (Int.ediv_nonneg hu0 (by omega)) (by omega)
    have hdv1 : u / (y / 4294967296) * (y / 4294967296) ≤ u := Int.ediv_mul_le _ (by omega)
    simp only [hfy, hud1]
    rw [IntWalk.u64_in (u / (y / 4294967296) * (y / 4294967296)) (by omega), IntWalk.u64_in (u - u / (y / 4294967296) * (y / 4294967296)) (by omega)]
    rw [if_pos (by omega), if_pos (by omega), if_pos (by omega), if_pos (by omega), if_pos (by omega), B2]
    rw [dig_ok (u := u) (by omega) (by omega) (by omega) (by omega) hu0 (by omega) (by omega) (by omega), hyy]
    simp only [Option.bind_some]
    generalize hq1 : (u * 4294967296 + m / 4294967296) / y = q1
    have g1 : q1 * y ≤ u * 4294967296 + m / 4294967296 := by rw [← hq1]; exact Int.ediv_mul_le _ (by omega)
    have g2 : u * 4294967296 + m / 4294967296 < (q1 + 1) * y := by rw [← hq1]; exact Int.lt_ediv_add_one_mul_self _ (by omega)
    rw [Int.add_mul, Int.one_mul] at g2
    have g3 : 0 ≤ q1 := by rw [← hq1]; exact Int.ediv_nonneg (by omega) (by omega)
    have g4 : q1 < 4294967296 := by rw [← hq1]; apply Int.ediv_lt_of_lt_mul (by omega); omega
    unfold div64_j1
    have hu21 : IntKind.u64.wrap (IntKind.u64.wrap (IntKind.u64.wrap (u * 4294967296) + m / 4294967296) - IntKind.u64.wrap (q1 * y)) = u * 4294967296 + m / 4294967296 - q1 * y := by
      simp only [wu]; omega
    simp only [E1, E2, E3, E3', E32, hpd, hqd, hyd, hyw, hhw, hfd, hor, hlow, hnd, hfy, hfm, hay, ham, hu21]
    generalize hu2d : u * 4294967296 + m / 4294967296 - q1 * y = u2 at *
    have hu20 : 0 ≤ u2 := by omega
    have hu2y : u2 < y := by omega
    have B1 : div64_b1 hi lo c k q1 = digB (y / 4294967296) (y % 4294967296) (m % 4294967296) := by
      funext ⟨r, q⟩
      simp only [div64_b1, digB, E1, E2, E32, hpd, hyd, hyw, hlow, hnd, hfy, hfm, hay, ham]
    have hud2 := IntWalk.u64_quo u2 (y / 4294967296) ⟨hu20, by omega, by omega⟩
    have hdw0 : 0 ≤ u2 / (y / 4294967296) * (y / 4294967296) := Int.mul_nonneg (Int.ediv_nonneg hu20 (by omega)) (by omega)
    have hdw1 : u2 / (y / 4294967296) * (y / 4294967296) ≤ u2 := Int.ediv_mul_le _ (by omega)
    simp only [hud2]
    rw [IntWalk.u64_in (u2 / (y / 4294967296) * (y / 4294967296)) (by omega), IntWalk.u64_in (u2 - u2 / (y / 4294967296) * (y / 4294967296)) (by omega)]
    rw [if_pos (by omega), B1, dig_ok (u := u2) (by omega) (by omega) (by omega) (by omega) hu20 (by omega) (by omega) (by omega), hyy]
    simp only [Option.bind_some]
    generalize hq0 : (u2 * 4294967296 + m % 4294967296) / y = q0
    have k1 : q0 * y ≤ u2 * 4294967296 + m % 4294967296 := by rw [← hq0]; exact Int.ediv_mul_le _ (by omega)
    have k2 : u2 * 4294967296 + m % 4294967296 < (q0 + 1) * y := by rw [← hq0]; exact Int.lt_ediv_add_one_mul_self _ (by omega)
    rw [Int.add_mul, Int.one_mul] at k2
    have k3 : 0 ≤ q0 := by rw [← hq0]; exact Int.ediv_nonneg (by omega) (by omega)
    have k4 : q0 < 4294967296 := by rw [← hq0]; apply Int.ediv_lt_of_lt_mul (by omega); omega
    unfold div64_j2
    have hrem : IntKind.u64.wrap (IntKind.u64.wrap (IntKind.u64.wrap (u2 * 4294967296) + m % 4294967296) - IntKind.u64.wrap (q0 * y)) = u2 * 4294967296 + m % 4294967296 - q0 * y := by
      simp only [wu]; omega
    simp only [E1, E2, E3, E3', E32, hpd, hqd, hyd, hyw, hhw, hfd, hor, hlow, hnd, hfy, hfm, hay, ham, hu21, hu2d, hrem]
    rw [if_pos (by omega)]
    -- the quotient and the rest
    have hW : (u2 * 4294967296 + m % 4294967296 - q0 * y) + y * (q1 * 4294967296 + q0) = (hi * 18446744073709551616 + lo) * p := by
      rw [hU, Int.mul_add, ← Int.mul_assoc, Int.mul_comm y q1, Int.mul_comm y q0]; omega
    have hun := (Int.ediv_emod_unique (a := (hi * 18446744073709551616 + lo) * p) (b := y) (r := u2 * 4294967296 + m % 4294967296 - q0 * y) (q := q1 * 4294967296 + q0) (by omega)).2 ⟨hW, by omega, by omega⟩
    rw [← hyd, Int.mul_comm _ p, Int.mul_comm c p, Int.mul_ediv_mul_of_pos _ _ hp0, Int.mul_emod_mul_of_pos _ _ hp0] at hun
    rw [← hyd, Int.mul_comm c p, ← hun.2, hun.1]
    congr 1
    refine Prod.ext ?_ ?_
    · simp only [wu]
      omega
    · simp only
      rw [Int.fdiv_eq_ediv_of_nonneg _ (Int.le_of_lt hp0)]
      exact Int.mul_ediv_cancel_left _ (by omega)

end Go.C
