/- Plain laws: arithmetic on two words, the program's and the reference's. No program in sight. -/
import Derived.Test.YtinickkcieecdaaGreatDoorQb
set_option linter.unusedVariables false
set_option linter.unusedSimpArgs false
namespace Go.C
open Go.V

def mkR (n : Int) : Customsref01Wide := ⟨n / 18446744073709551616, n % 18446744073709551616⟩
def mkE (n : Int) : ExactWide := ⟨n / 18446744073709551616, n % 18446744073709551616⟩

theorem r01Add_ok {m n : Int} (hm : 0 ≤ m) (hn : 0 ≤ n) (hs : m + n < 340282366920938463463374607431768211456) : r01Add (mkR m) (mkR n) = some (mkR (m + n), false) := by
  unfold r01Add mkR
  simp only [wu]
  split
  · rename_i h
    simp only [decide_eq_true_eq] at h
    refine congrArg some (Prod.ext ?_ ?_)
    · simp only [Customsref01Wide.mk.injEq]; omega
    · simp; omega
  · rename_i h
    simp only [decide_eq_true_eq] at h
    refine congrArg some (Prod.ext ?_ ?_)
    · simp only [Customsref01Wide.mk.injEq]; omega
    · simp; omega
theorem mkR_small {n : Int} (h : 0 ≤ n) (h2 : n < 18446744073709551616) : (⟨0, n⟩ : Customsref01Wide) = mkR n := by
  unfold mkR; simp only [Customsref01Wide.mk.injEq]; omega

theorem bit_ok {b : Int} {i : Int} {j : Nat} (hi : i = j) (hj : j ≤ 63) (h0 : 0 ≤ b) (h1 : b < 18446744073709551616) :
    IntKind.u64.wrap ((BitVec.ofInt (IntKind.u64).bits (b.fdiv (2 ^ (min i.toNat (IntKind.u64).bits))) &&& BitVec.ofInt (IntKind.u64).bits (1 : Int)).toNat : Int) = b / 2 ^ j % 2 := by
  have hp : (0 : Int) < 2 ^ j := Int.pow_pos (by omega)
  have e : min i.toNat (IntKind.u64).bits = j := by subst hi; show min (j : Int).toNat 64 = j; omega
  rw [e, Int.fdiv_eq_ediv_of_nonneg _ (Int.le_of_lt hp)]
  have h2 : 0 ≤ b / 2 ^ j := Int.ediv_nonneg h0 (Int.le_of_lt hp)
  have h3 : b / 2 ^ j ≤ b := Int.ediv_le_self _ h0
  exact bv_and 1 h2 (by omega) 1 (by decide) (by decide)

theorem half_div (b : Int) (j : Nat) : b / 2 ^ (j + 1) = b / 2 ^ j / 2 := by
  rw [Int.pow_succ, Int.ediv_ediv_of_nonneg (Int.pow_nonneg (by omega))]

theorem r01Mul_loop {a b : Int} (ha : 0 ≤ a) (ha2 : a < 18446744073709551616) (hb : 0 ≤ b) (hb2 : b < 18446744073709551616) : ∀ (j : Nat), j ≤ 64 → loopO (r01Mul_b1 a b) ((j : Int) - 1, (a * (b / 2 ^ j)) / 18446744073709551616, (a * (b / 2 ^ j)) % 18446744073709551616) = some (a * b / 18446744073709551616, a * b % 18446744073709551616)
  | 0, _ => by
    refine loop_stop ?_
    unfold r01Mul_b1
    simp
  | j + 1, hj => by
    have ih := r01Mul_loop ha ha2 hb hb2 j (by omega)
    refine Eq.trans (loop_step ?_) ih
    have hd0 : 0 ≤ b / 2 ^ j := Int.ediv_nonneg hb (Int.pow_nonneg (by omega))
    have hd1 : b / 2 ^ j ≤ b := Int.ediv_le_self _ hb
    have hbit := bit_ok (b := b) (i := ((j + 1 : Nat) : Int) - 1) (j := j) (by omega) (by omega) hb hb2
    rw [half_div] at *
    generalize b / 2 ^ j = d at *
    have e1 : a * d = a * (d / 2) + a * (d / 2) + a * (d % 2) := by
      rw [← Int.mul_add, ← Int.mul_add]; congr 1; omega
    have h0 : 0 ≤ a * (d / 2) := Int.mul_nonneg ha (by omega)
    have h1 : 0 ≤ a * (d % 2) := Int.mul_nonneg ha (by omega)
    have h2 : a * d ≤ 18446744073709551615 * 18446744073709551615 := by
      have x1 := Int.mul_le_mul_of_nonneg_right (show a ≤ 18446744073709551615 by omega) hd0
      omega
    have hadd := r01Add_ok (m := a * (d / 2)) (n := a * (d / 2)) h0 h0 (by omega)
    unfold mkR at hadd
    unfold r01Mul_b1
    have hi : ((j + 1 : Nat) : Int) - 1 = (j : Int) := by omega
    simp only [hi] at hbit ⊢
    simp only [hadd, Option.bind_some, hbit, Int.natCast_nonneg, decide_true, if_true]
    have hj1 : IntKind.i64.wrap ((j : Int) - 1) = (j : Int) - 1 := IntWalk.i64_in _ (by omega)
    have hd2 : d % 2 = 0 ∨ d % 2 = 1 := by omega
    rcases hd2 with h | h
    · rw [h] at e1 ⊢
      simp only [r01Mul_j1, hj1]
      simp [e1]
    · rw [h] at e1 ⊢
      have hadd2 := r01Add_ok (m := a * (d / 2) + a * (d / 2)) (n := a) (by omega) ha (by omega)
      rw [← mkR_small ha ha2] at hadd2
      unfold mkR at hadd2
      simp only [beq_self_eq_true, if_true, hadd2, Option.bind_some, r01Mul_j1, hj1]
      simp [e1]

theorem r01Mul_ok {a b : Int} (ha : 0 ≤ a) (ha2 : a < 18446744073709551616) (hb : 0 ≤ b) (hb2 : b < 18446744073709551616) : r01Mul a b = some (mkR (a * b)) := by
  have h := r01Mul_loop ha ha2 hb hb2 64 (by omega)
  have e : b / 2 ^ 64 = 0 := Int.ediv_eq_zero_of_lt hb (by simpa using hb2)
  rw [e] at h
  simp at h
  unfold r01Mul
  rw [h]
  rfl

theorem r01Less_ok {m n : Int} (hm : 0 ≤ m) (hn : 0 ≤ n) : r01Less (mkR m) (mkR n) = some (decide (m < n)) := by
  unfold r01Less mkR
  congr 1
  rw [Bool.eq_iff_iff]
  simp
  omega

theorem exactMul_ok {a b : Int} (ha : 0 ≤ a) (ha2 : a < 18446744073709551616) (hb : 0 ≤ b) (hb2 : b < 18446744073709551616) : exactMul a b = some (mkE (a * b)) := by
  unfold exactMul mul64
  rw [if_pos ⟨ha, ha2, hb, hb2⟩]
  rfl

theorem exactAdd_ok {m n : Int} (hm : 0 ≤ m) (hn : 0 ≤ n) (hs : m + n < 340282366920938463463374607431768211456) : exactAdd (mkE m) (mkE n) = some (mkE (m + n), 0) := by
  unfold exactAdd add64 mkE
  simp only
  rw [if_pos (by omega)]
  simp only [Option.bind_some]
  rw [if_pos (by omega)]
  simp only [Option.bind_some]
  rw [if_neg (by simp; omega)]
  refine congrArg some (Prod.ext ?_ rfl)
  simp only [ExactWide.mk.injEq]; omega

theorem exactCmp_ok {m n : Int} (hm : 0 ≤ m) (hn : 0 ≤ n) : ∃ r, exactCmp (mkE m) (mkE n) = some r ∧ (decide (0 < r) = decide (n < m)) ∧ (decide (r < 0) = decide (m < n)) := by
  unfold exactCmp mkE
  simp only
  split
  · rename_i h
    simp at h
    refine ⟨_, rfl, ?_, ?_⟩ <;> simp <;> omega
  · rename_i h
    simp at h
    split
    · rename_i h2
      simp at h2
      refine ⟨_, rfl, ?_, ?_⟩ <;> simp <;> omega
    · rename_i h2
      simp at h2
      refine ⟨_, rfl, ?_, ?_⟩ <;> simp <;> omega

theorem i64_and63 {j : Nat} (hj : j ≤ 127) : IntKind.i64.wrap ((BitVec.ofInt (IntKind.i64).bits (j : Int) &&& BitVec.ofInt (IntKind.i64).bits (63 : Int)).toNat : Int) = ((j % 64 : Nat) : Int) := by
  have h1 : (BitVec.ofInt (IntKind.i64).bits (j : Int) &&& BitVec.ofInt (IntKind.i64).bits (63 : Int)).toNat = j % 64 := by
    rw [BitVec.toNat_and]
    have e1 : (BitVec.ofInt (IntKind.i64).bits (j : Int)).toNat = j := bv_nat j (by omega) (by omega)
    have e2 : (BitVec.ofInt (IntKind.i64).bits (63 : Int)).toNat = 63 := bv_nat 63 (by omega) (by omega)
    rw [e1, e2]
    exact Nat.and_two_pow_sub_one_eq_mod j 6
  rw [h1]
  exact IntWalk.i64_in _ (by omega)

theorem or_low {x b : Int} (hx : 0 ≤ x) (hx2 : x < 18446744073709551616) (hd : x % 2 = 0) (hb : b = 0 ∨ b = 1) : IntKind.u64.wrap ((BitVec.ofInt (IntKind.u64).bits x ||| BitVec.ofInt (IntKind.u64).bits b).toNat : Int) = x + b :=
  bv_or 1 hx hx2 (by omega) (by simp; omega) (by simpa using hd) (by omega)

/-- One step of the long division. -/
theorem div_step {D c : Int} (hD : 0 ≤ D) (hc : 0 < c) : (2 * (D / 2 % c) + D % 2 < c → D / c = 2 * (D / 2 / c) ∧ D % c = 2 * (D / 2 % c) + D % 2) ∧ (c ≤ 2 * (D / 2 % c) + D % 2 → D / c = 2 * (D / 2 / c) + 1 ∧ D % c = 2 * (D / 2 % c) + D % 2 - c) := by
  have h1 := Int.emod_add_mul_ediv (D / 2) c
  have h2 := Int.emod_nonneg (D / 2) (show c ≠ 0 by omega)
  have h3 := Int.emod_lt_of_pos (D / 2) hc
  generalize D / 2 % c = r at *
  generalize D / 2 / c = q at *
  constructor
  · intro h
    apply (Int.ediv_emod_unique hc).2
    refine ⟨?_, by omega, by omega⟩
    rw [Int.mul_left_comm]; omega
  · intro h
    apply (Int.ediv_emod_unique hc).2
    refine ⟨?_, by omega, by omega⟩
    rw [Int.mul_add, Int.mul_left_comm]; omega

theorem r01DivMod_loop {N c : Int} (hN : 0 ≤ N) (hN2 : N < 340282366920938463463374607431768211456) (hc : 0 < c) (hc2 : c < 18446744073709551616) : ∀ (j : Nat), j ≤ 128 →
    loopO (r01DivMod_b1 (mkR N) c) ((j : Int) - 1, N / 2 ^ j % c, (N / 2 ^ j / c) / 18446744073709551616, (N / 2 ^ j / c) % 18446744073709551616) = some (N % c, N / c / 18446744073709551616, N / c % 18446744073709551616)
  | 0, _ => by
    refine loop_stop ?_
    unfold r01DivMod_b1
    simp
  | j + 1, hj => by
    have ih := r01DivMod_loop hN hN2 hc hc2 j (by omega)
    refine Eq.trans (loop_step ?_) ih
    have hbit : (if (63 : Int) < (j : Int) then IntKind.u64.wrap ((BitVec.ofInt (IntKind.u64).bits ((mkR N).Hi.fdiv (2 ^ (min (IntKind.i64.wrap ((j : Int) - (64 : Int))).toNat (IntKind.u64).bits))) &&& BitVec.ofInt (IntKind.u64).bits (1 : Int)).toNat : Int)
        else IntKind.u64.wrap ((BitVec.ofInt (IntKind.u64).bits ((mkR N).Lo.fdiv (2 ^ (min (((j % 64 : Nat) : Int)).toNat (IntKind.u64).bits))) &&& BitVec.ofInt (IntKind.u64).bits (1 : Int)).toNat : Int)) = N / 2 ^ j % 2 := by
      unfold mkR
      dsimp only
      split
      · rename_i h
        rw [IntWalk.i64_in ((j : Int) - 64) (by omega)]
        rw [bit_ok (j := j - 64) (by omega) (by omega) (by omega) (by omega)]
        have : (18446744073709551616 : Int) = 2 ^ 64 := by decide
        rw [this, Int.ediv_ediv_of_nonneg (by decide), ← Int.pow_add, show 64 + (j - 64) = j by omega]
      · rename_i h
        have e : j % 64 = j := by omega
        rw [e, bit_ok (j := j) rfl (by omega) (by omega) (by omega)]
        have hp : (0 : Int) < 2 ^ j := Int.pow_pos (by omega)
        obtain ⟨m, hm⟩ : ∃ m : Nat, 64 = j + 1 + m := ⟨63 - j, by omega⟩
        have h64 : (18446744073709551616 : Int) = 2 ^ j * (2 * 2 ^ m) := by
          have : (18446744073709551616 : Int) = 2 ^ 64 := by decide
          rw [this, hm, Int.pow_add, Int.pow_succ, Int.mul_assoc]
        have hN3 : N = N % 18446744073709551616 + 2 ^ j * (2 * 2 ^ m * (N / 18446744073709551616)) := by
          rw [← Int.mul_assoc, ← h64]
          exact (Int.emod_add_mul_ediv N _).symm
        generalize N % 18446744073709551616 = l at *
        generalize N / 18446744073709551616 = hh at *
        rw [hN3, Int.add_mul_ediv_left _ _ (by omega), Int.mul_assoc, Int.add_mul_emod_self_left]
    have hst := div_step (D := N / 2 ^ j) (Int.ediv_nonneg hN (Int.pow_nonneg (by omega))) hc
    have hD0 : 0 ≤ N / 2 ^ j := Int.ediv_nonneg hN (Int.pow_nonneg (by omega))
    have hD1 : N / 2 ^ j ≤ N := Int.ediv_le_self _ hN
    rw [half_div]
    generalize N / 2 ^ j = D at *
    have r0 := Int.emod_nonneg (D / 2) (show c ≠ 0 by omega)
    have r1 := Int.emod_lt_of_pos (D / 2) hc
    have q0 : 0 ≤ D / 2 / c := Int.ediv_nonneg (by omega) (by omega)
    have q1 : D / 2 / c ≤ D / 2 := Int.ediv_le_self _ (by omega)
    generalize D / 2 % c = r at *
    generalize D / 2 / c = q at *
    have hadd := r01Add_ok (m := q) (n := q) q0 q0 (by omega)
    unfold mkR at hadd
    have hi : ((j + 1 : Nat) : Int) - 1 = (j : Int) := by omega
    have hj1 : IntKind.i64.wrap ((j : Int) - 1) = (j : Int) - 1 := IntWalk.i64_in _ (by omega)
    have hj64 : IntKind.i64.wrap ((j : Int) - 64) = (j : Int) - 64 := IntWalk.i64_in _ (by omega)
    have e63 : (2 : Int) ^ (min (63 : Int).toNat (IntKind.u64).bits) = 9223372036854775808 := by decide
    have e1 : (2 : Int) ^ (min (1 : Int).toNat (IntKind.u64).bits) = 2 := by decide
    have hf : r.fdiv 9223372036854775808 = r / 9223372036854775808 := Int.fdiv_eq_ediv_of_nonneg _ (by omega)
    have hsh : IntKind.u64.wrap (r * 2) = r * 2 % 18446744073709551616 := wu _
    have hb01 : D % 2 = 0 ∨ D % 2 = 1 := by omega
    have hor := or_low (x := r * 2 % 18446744073709551616) (b := D % 2) (by omega) (by omega) (by omega) hb01
    have hor2 := or_low (x := (q + q) % 18446744073709551616) (b := 1) (by omega) (by omega) (by omega) (.inr rfl)
    -- the test
    have hcond : (bif (r / 9223372036854775808 == (1 : Int)) then true else (decide (c ≤ r * 2 % 18446744073709551616 + D % 2))) = decide (c ≤ 2 * r + D % 2) := by
      by_cases h : r / 9223372036854775808 = 1
      · have : c ≤ 2 * r + D % 2 := by omega
        simp [h, this]
      · have h2 : r * 2 % 18446744073709551616 = r * 2 := by omega
        have h3 : (r / 9223372036854775808 == (1 : Int)) = false := by simpa using h
        rw [h3, h2, Int.mul_comm r 2]; rfl
    unfold r01DivMod_b1
    simp only [hi] at hbit ⊢
    simp only [i64_and63 (show j ≤ 127 by omega), hj64, hj1, e63, e1, hf, hsh, hadd, Option.bind_some] at hbit ⊢
    rw [if_pos (by simp), if_pos (by omega)]
    by_cases h63 : (63 : Int) < (j : Int)
    · rw [if_pos h63] at hbit
      rw [if_pos (by simpa using h63), if_pos (by omega)]
      simp only [hbit, hor, hor2, hcond, r01DivMod_j1, hj1]
      by_cases hh : c ≤ 2 * r + D % 2
      · obtain ⟨s1, s2⟩ := hst.2 hh
        simp only [hh, decide_true, if_true, s1, s2, wu]
        congr 2
        refine Prod.ext rfl (Prod.ext ?_ (Prod.ext ?_ ?_)) <;> simp only <;> omega
      · obtain ⟨s1, s2⟩ := hst.1 (by omega)
        simp only [hh, decide_false, Bool.false_eq_true, if_false, s1, s2]
        congr 2
        refine Prod.ext rfl (Prod.ext ?_ (Prod.ext ?_ ?_)) <;> simp only <;> omega
    · rw [if_neg h63] at hbit
      rw [if_neg (by simpa using h63)]
      simp only [hbit, hor, hor2, hcond, r01DivMod_j1, hj1]
      by_cases hh : c ≤ 2 * r + D % 2
      · obtain ⟨s1, s2⟩ := hst.2 hh
        simp only [hh, decide_true, if_true, s1, s2, wu]
        congr 2
        refine Prod.ext rfl (Prod.ext ?_ (Prod.ext ?_ ?_)) <;> simp only <;> omega
      · obtain ⟨s1, s2⟩ := hst.1 (by omega)
        simp only [hh, decide_false, Bool.false_eq_true, if_false, s1, s2]
        congr 2
        refine Prod.ext rfl (Prod.ext ?_ (Prod.ext ?_ ?_)) <;> simp only <;> omega

theorem r01DivMod_ok {N c : Int} (hN : 0 ≤ N) (hN2 : N < 340282366920938463463374607431768211456) (hc : 0 < c) (hc2 : c < 18446744073709551616) : r01DivMod (mkR N) c = some (mkR (N / c), N % c) := by
  have h := r01DivMod_loop hN hN2 hc hc2 128 (by omega)
  have e : N / 2 ^ 128 = 0 := Int.ediv_eq_zero_of_lt hN (by simpa using hN2)
  rw [e] at h
  simp at h
  unfold r01DivMod
  rw [h]
  rfl

/-- To the nearest, halves up. -/
def near (N c : Int) : Int := (2 * N + c) / (2 * c)

theorem near_cases {N c : Int} (hN : 0 ≤ N) (hc : 0 < c) : near N c = N / c + (if c - N % c ≤ N % c then 1 else 0) := by
  have h1 := Int.emod_add_mul_ediv N c
  have h2 := Int.emod_nonneg N (show c ≠ 0 by omega)
  have h3 := Int.emod_lt_of_pos N hc
  unfold near
  generalize N % c = r at *
  generalize N / c = q at *
  split
  · refine ((Int.ediv_emod_unique (r := 2 * r - c) (by omega)).2 ⟨?_, by omega, by omega⟩).1
    rw [Int.mul_add, Int.mul_assoc]; omega
  · refine ((Int.ediv_emod_unique (r := 2 * r + c) (by omega)).2 ⟨?_, by omega, by omega⟩).1
    rw [Int.mul_add, Int.mul_assoc]; omega

theorem near_nonneg {N c : Int} (hN : 0 ≤ N) (hc : 0 < c) : 0 ≤ near N c := Int.ediv_nonneg (by omega) (by omega)

/-- What both divisions answer: the nearest, or 3 where it does not fit. -/
theorem exactDiv_ok {N c : Int} (hN : 0 ≤ N) (hc : 0 < c) (hc2 : c < 18446744073709551616) (hN2 : N < c * 18446744073709551616) (hb : near N c < 18446744073709551616) : exactDiv (mkE N) c 2 = some (near N c, 0) := by
  have hq : N / 18446744073709551616 < c := Int.ediv_lt_of_lt_mul (by omega) hN2
  have h2 := Int.emod_nonneg N (show c ≠ 0 by omega)
  have h3 := Int.emod_lt_of_pos N hc
  have hq0 : 0 ≤ N / c := Int.ediv_nonneg hN (by omega)
  have hn := near_cases hN hc
  unfold exactDiv mkE
  dsimp only
  rw [if_neg (by simp; omega), if_neg (by simp; omega), div64_ok (by omega) hq hc2 (by omega) (by omega)]
  have e : N / 18446744073709551616 * 18446744073709551616 + N % 18446744073709551616 = N := by omega
  rw [e]
  simp only [Option.bind_some]
  unfold exactRaised
  rw [if_neg (by decide), if_pos (by decide)]
  simp only [Option.bind_some]
  rw [IntWalk.u64_in (c - N % c) (by omega)]
  by_cases h : c - N % c ≤ N % c
  · rw [if_pos h] at hn
    rw [if_neg (by simpa using h), if_neg (by simp; omega), IntWalk.u64_in _ (by omega), hn]
  · rw [if_neg h] at hn
    rw [if_pos (by simpa using h), hn]; simp

theorem r01Div_ok {N c : Int} (hN : 0 ≤ N) (hN2 : N < 340282366920938463463374607431768211456) (hc : 0 < c) (hc2 : c < 18446744073709551616) (hb : near N c < 18446744073709551616) : r01Div (mkR N) c 2 = some (near N c, 0) := by
  have h2 := Int.emod_nonneg N (show c ≠ 0 by omega)
  have h3 := Int.emod_lt_of_pos N hc
  have hq0 : 0 ≤ N / c := Int.ediv_nonneg hN (by omega)
  have hn := near_cases hN hc
  unfold r01Div
  rw [if_neg (by simp; omega), r01DivMod_ok hN hN2 hc hc2]
  simp only [Option.bind_some]
  rw [if_neg (by decide), if_pos (by decide), IntWalk.u64_in (c - N % c) (by omega)]
  by_cases h : c - N % c ≤ N % c
  · rw [if_pos h] at hn
    rw [if_pos (by simpa using h), mkR_small (by omega) (by omega), r01Add_ok hq0 (by omega) (by omega)]
    simp only [Option.bind_some, mkR]
    rw [if_neg (by simp; omega), hn]
    congr 2; omega
  · rw [if_neg h] at hn
    rw [if_neg (by simpa using h)]
    rw [if_neg (fun h' => by have h'' := of_decide_eq_true h'; simp only [mkR] at h''; omega), hn]
    show some ((N / c) % 18446744073709551616, (0 : Int)) = _
    congr 2; omega

end Go.C
