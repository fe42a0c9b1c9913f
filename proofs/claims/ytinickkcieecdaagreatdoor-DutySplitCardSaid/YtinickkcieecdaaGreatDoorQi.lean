/- Plain laws: the laws of the duties hold. No program in sight. -/
import Derived.Test.YtinickkcieecdaaGreatDoorPf
import Derived.Test.YtinickkcieecdaaGreatDoorQd
import Derived.Test.YtinickkcieecdaaGreatDoorQh
set_option linter.unusedVariables false
set_option linter.unusedSimpArgs false
namespace Go.C
open Go.V
open Go.Lib (decDigits)

def d0 : ApiDuty := ⟨50000, 320, 100, true, 100000, true, 20000⟩
theorem d0_ok : DOk d0 := validate_dok (by unfold dutyValidate d0; rfl)
def dz : ApiDuty := ⟨0, 0, 0, false, 0, false, 0⟩
theorem dz_ok : DOk dz := validate_dok (by unfold dutyValidate dz; rfl)
theorem d0_fmt : fmt d0 = [53, 37, 32, 43, 32, 51, 46, 50, 48, 47, 49, 48, 48, 32, 109, 97, 120, 32, 49, 48, 37, 32, 109, 105, 110, 32, 50, 37] := by
  have a : decDigits 5 = [53] := by rw [dec_small (by omega)]; rfl
  have b : decDigits 3 = [51] := by rw [dec_small (by omega)]; rfl
  have c : decDigits 100 = [49, 48, 48] := by rw [dec_big (by omega), dec_big (u := 100 / 10) (by omega), dec_small (u := 100 / 10 / 10) (by omega)]; rfl
  have d : decDigits 10 = [49, 48] := by rw [dec_big (by omega), dec_small (u := 10 / 10) (by omega)]; rfl
  have e : decDigits 2 = [50] := by rw [dec_small (by omega)]; rfl
  simp [fmt, terms, bnds, pct, amt, mny, d0, a, b, c, d, e]
theorem dz_fmt : fmt dz = [48, 37] := by
  have a : decDigits 0 = [48] := by rw [dec_small (by omega)]; rfl
  simp [fmt, terms, bnds, pct, dz, a]

theorem awake18_ok : awake18 = some true := by
  unfold awake18
  rw [← d0_fmt, parse_fmt d0_ok]
  simp only [Option.bind_some]
  rw [dutyEvaluate_in d0_ok (by omega) (by omega) (by omega) (by omega)]
  have e : evalP d0 10000 100 = (820, 0) := by decide
  have z := dutyFormat_ok dz_ok
  rw [dz_fmt] at z
  unfold dz at z
  rw [e]
  simp only [Option.bind_some]
  rw [if_pos (by decide), z]
  rfl

theorem same2 (d : ApiDuty) : ((dutyValidate d).bind fun v6 => (refDuty d).bind fun v7 => (if (v6 == v7) = true then awake18 else some default).bind fun v8 => some (bif (v6 == v7) then v8 else false)) = some true := by
  obtain ⟨e, he, _⟩ := validate_some d
  rw [refDuty_eq, he]
  simp [awake18_ok]

theorem lawValidate_true {a0 : ApiDuty} {a1 : List Int} {a2 a3 : Int} (h0 : okApiDuty a0) (h1 : a1.length ≤ 9223372036854775807 ∧ ∀ x, x ∈ a1 → okI_i64 x) (h2 : okI_i64 a2) (h3 : okI_i64 a3) : lawValidate a0 a1 a2 a3 = some true := by
  obtain ⟨v, hv, hd, _⟩ := madeDuty_ok a1
  obtain ⟨e, he, _⟩ := validate_some a0
  unfold lawValidate
  rw [hv]
  simp only [Option.bind_some]
  rw [refDuty_eq, he]
  simp only [Option.bind_some, bne_self_eq_false, Bool.not_false, if_true, validate_zero hd, cond_false, Bool.false_eq_true, if_false]
  rw [within_eq (n := 8) (by omega) (by omega), within_eq (n := 300000) (by omega) (by omega), within_eq (n := 2) (by omega) (by omega), within_eq (n := 2) (by omega) (by omega)]
  simp only [Option.bind_some]
  repeat' split
  all_goals exact same2 _

theorem lawFormat_true {l : List Int} {raw : ApiDuty} (h0 : l.length ≤ 9223372036854775807 ∧ ∀ x, x ∈ l → okI_i64 x) (h1 : okApiDuty raw) : lawFormat l raw = some true := by
  obtain ⟨v, hv, hd, _⟩ := madeDuty_ok l
  obtain ⟨s, hs1, hs2⟩ := format_same raw
  unfold lawFormat
  rw [hv]
  simp only [Option.bind_some, dutyFormat_ok hd, refFormatDuty_ok hd, hs1, hs2, parse_fmt hd]
  simp [awake18_ok]

theorem eval2 (d : ApiDuty) (v q : Int) : ((dutyEvaluate d v q).bind fun v4 => (refEvaluate d v q).bind fun v5 => (if (bif (v4.1 == v5.1) then (v4.2 == v5.2) else false) = true then awake18 else some default).bind fun v6 => some (bif (bif (v4.1 == v5.1) then (v4.2 == v5.2) else false) then v6 else false)) = some true := by
  obtain ⟨r, h1, h2⟩ := evaluate_same d v q
  rw [h1, h2]
  simp [awake18_ok]

theorem lawEvaluate_true {l : List Int} {raw : ApiDuty} {value quantity : Int} {small rough : Bool} {which : Int} (h0 : l.length ≤ 9223372036854775807 ∧ ∀ x, x ∈ l → okI_i64 x) (h1 : okApiDuty raw) (h2 : okI_i64 value) (h3 : okI_i64 quantity) (h4 : okI_i64 which) : lawEvaluate l raw value quantity small rough which = some true := by
  obtain ⟨v, hv, hd, _⟩ := madeDuty_ok l
  have hw := within_eq (x := quantity) (n := 1000000001) (by omega) (by omega)
  have ham := amount18_ok value small
  generalize hx : (if small = true then value % 100000 else value % 1000000000001) = x at ham
  generalize hy : quantity % 1000000001 = y at hw
  unfold lawEvaluate
  rw [hv, ham, hw]
  generalize ((IntKind.i64.wrap ((BitVec.ofInt (IntKind.i64).bits which &&& BitVec.ofInt (IntKind.i64).bits (3 : Int)).toNat : Int)) == (1 : Int)) = b
  clear hx hy hw ham
  cases b
  · cases rough
    · exact eval2 v x y
    · exact eval2 v value quantity
  · cases rough
    · exact eval2 raw x y
    · exact eval2 raw value quantity

/-! ### Rounded totals -/

theorem near_le {N N' c : Int} (hc : 0 < c) (h : N ≤ N') : near N c ≤ near N' c := Int.ediv_le_ediv (by omega) (by omega)

theorem near_lo {N c : Int} (hc : 0 < c) : near N c * (2 * c) ≤ 2 * N + c := Int.ediv_mul_le _ (by omega)
theorem near_hi {N c : Int} (hc : 0 < c) : 2 * N + c < (near N c + 1) * (2 * c) := Int.lt_ediv_add_one_mul_self _ (by omega)

theorem small_bd {d : ApiDuty} {v q : Int} (hd : DOk d) (ha : d.Amount ≤ 500) (hv : 0 ≤ v) (hv2 : v ≤ 1000000) (hq : 0 ≤ q) (hq2 : q ≤ 1000000) : 0 ≤ near (bounded d v q) (1000000 * perOf d) ∧ near (bounded d v q) (1000000 * perOf d) ≤ 1000000000000 := by
  have hp := per_bd hd
  have h1 := hd.rate; have h2 := hd.amount; have h5 := hd.most; have h6 := hd.least
  have m1 := mul_bd h1.1 h1.2 hv hv2
  have m2 := mul_bd h5.1 h5.2 hv hv2
  have m3 := mul_bd h6.1 h6.2 hv hv2
  have m4 := mul_bd h2.1 ha hq hq2
  have k1 := Int.mul_le_mul_of_nonneg_right m1.2 (show 0 ≤ perOf d by omega)
  have k2 := Int.mul_le_mul_of_nonneg_right m2.2 (show 0 ≤ perOf d by omega)
  have k3 := Int.mul_le_mul_of_nonneg_right m3.2 (show 0 ≤ perOf d by omega)
  have n1 := Int.mul_nonneg m1.1 (show 0 ≤ perOf d by omega)
  have n2 := Int.mul_nonneg m2.1 (show 0 ≤ perOf d by omega)
  have n3 := Int.mul_nonneg m3.1 (show 0 ≤ perOf d by omega)
  have t1 : 0 ≤ total d v q ∧ total d v q ≤ 10000000000000 * perOf d + 500000000000000 := by unfold total; omega
  have t2 : 0 ≤ capped d v q ∧ capped d v q ≤ 10000000000000 * perOf d + 500000000000000 := by unfold capped; split <;> omega
  have t3 : 0 ≤ bounded d v q ∧ bounded d v q ≤ 10000000000000 * perOf d + 500000000000000 := by unfold bounded; split <;> omega
  refine ⟨near_nonneg t3.1 (by omega), ?_⟩
  apply Int.le_of_lt_add_one
  unfold near
  apply Int.ediv_lt_of_lt_mul (by omega)
  omega

theorem eval_small {d : ApiDuty} {v q : Int} (hd : DOk d) (ha : d.Amount ≤ 500) (hv : 0 ≤ v) (hv2 : v ≤ 1000000) (hq : 0 ≤ q) (hq2 : q ≤ 1000000) : dutyEvaluate d v q = some (near (bounded d v q) (1000000 * perOf d), 0) := by
  rw [dutyEvaluate_in hd hv (by omega) hq (by omega)]
  have h := small_bd hd ha hv hv2 hq hq2
  unfold evalP answer
  rw [if_neg (by omega)]

theorem bounded_mono {d : ApiDuty} {v q v' q' : Int} (hd : DOk d) (hv : 0 ≤ v) (hvv : v ≤ v') (hq : 0 ≤ q) (hqq : q ≤ q') : bounded d v q ≤ bounded d v' q' := by
  have hp := per_bd hd
  have h1 := hd.rate; have h2 := hd.amount; have h5 := hd.most; have h6 := hd.least
  have k1 := Int.mul_le_mul_of_nonneg_right (Int.mul_le_mul_of_nonneg_left hvv h1.1) (show 0 ≤ perOf d by omega)
  have k2 := Int.mul_le_mul_of_nonneg_right (Int.mul_le_mul_of_nonneg_left hvv h5.1) (show 0 ≤ perOf d by omega)
  have k3 := Int.mul_le_mul_of_nonneg_right (Int.mul_le_mul_of_nonneg_left hvv h6.1) (show 0 ≤ perOf d by omega)
  have k4 := Int.mul_le_mul_of_nonneg_left hqq h2.1
  have t1 : total d v q ≤ total d v' q' := by unfold total; omega
  have t2 : capped d v q ≤ capped d v' q' := by
    unfold capped
    by_cases hm : d.HasMost = true
    · simp only [hm, true_and]; split <;> split <;> omega
    · simp only [hm, false_and, if_false]; exact t1
  unfold bounded
  by_cases hl : d.HasLeast = true
  · simp only [hl, true_and]; split <;> split <;> omega
  · simp only [hl, false_and, if_false]; exact t2

theorem lawMonotone_true {a0 : List Int} {a1 a2 a3 a4 : Int} (h0 : a0.length ≤ 9223372036854775807 ∧ ∀ x, x ∈ a0 → okI_i64 x) (h1 : okI_i64 a1) (h2 : okI_i64 a2) (h3 : okI_i64 a3) (h4 : okI_i64 a4) : lawMonotone a0 a1 a2 a3 a4 = some true := by
  obtain ⟨v, hv, hd, ha⟩ := madeDuty_ok a0
  have hp := per_bd hd
  unfold lawMonotone
  rw [hv]
  simp only [Option.bind_some, amount18_ok, if_true]
  rw [within_eq (n := 100000) (by omega) (by omega), within_eq (n := 1000) (by omega) (by omega), within_eq (n := 1000) (by omega) (by omega)]
  simp only [Option.bind_some]
  rw [IntWalk.i64_in (a1 % 100000 + a3 % 1000) (by omega), IntWalk.i64_in (a2 % 100000 + a4 % 1000) (by omega)]
  rw [eval_small hd ha (by omega) (by omega) (by omega) (by omega), eval_small hd ha (by omega) (by omega) (by omega) (by omega), eval_small hd ha (by omega) (by omega) (by omega) (by omega)]
  have m1 := near_le (c := 1000000 * perOf v) (by omega) (bounded_mono (v := a1 % 100000) (q := a2 % 100000) (v' := a1 % 100000 + a3 % 1000) (q' := a2 % 100000) hd (by omega) (by omega) (by omega) (by omega))
  have m2 := near_le (c := 1000000 * perOf v) (by omega) (bounded_mono (v := a1 % 100000) (q := a2 % 100000) (v' := a1 % 100000) (q' := a2 % 100000 + a4 % 1000) hd (by omega) (by omega) (by omega) (by omega))
  simp [m1, m2, awake18_ok]

theorem bounded_most {d : ApiDuty} {v q : Int} (hd : DOk d) (hv : 0 ≤ v) (hm : d.HasMost = true) : bounded d v q ≤ d.Most * v * perOf d := by
  have hp := per_bd hd
  have t : capped d v q ≤ d.Most * v * perOf d := by
    unfold capped
    simp only [hm, true_and]; split <;> omega
  unfold bounded
  by_cases hl : d.HasLeast = true
  · have k := Int.mul_le_mul_of_nonneg_right (Int.mul_le_mul_of_nonneg_right (hd.order hm hl) hv) (show 0 ≤ perOf d by omega)
    simp only [hl, true_and]; split <;> omega
  · simp only [hl, false_and, if_false]; exact t
theorem bounded_least {d : ApiDuty} {v q : Int} (hl : d.HasLeast = true) : d.Least * v * perOf d ≤ bounded d v q := by
  unfold bounded
  simp only [hl, true_and]; split <;> omega

theorem lawBounds_true {a0 : List Int} {a1 a2 a3 : Int} (h0 : a0.length ≤ 9223372036854775807 ∧ ∀ x, x ∈ a0 → okI_i64 x) (h1 : okI_i64 a1) (h2 : okI_i64 a2) (h3 : okI_i64 a3) : lawBounds a0 a1 a2 a3 = some true := by
  obtain ⟨v, hv, hd, ha⟩ := madeDuty_ok a0
  have hp := per_bd hd
  have g5 := hd.most; have g6 := hd.least
  unfold lawBounds
  rw [hv]
  simp only [Option.bind_some, amount18_ok, if_true]
  rw [within_eq (n := 100000) (by omega) (by omega), within_eq (n := 100000) (by omega) (by omega)]
  simp only [Option.bind_some]
  have hx : 0 ≤ a1 % 100000 ∧ a1 % 100000 < 100000 := by omega
  rw [eval_small hd ha (by omega) (by omega) (by omega) (by omega), eval_small hd ha (by omega) (by omega) (by omega) (by omega)]
  have hsm := small_bd (v := a1 % 100000) (q := a2 % 100000) hd ha (by omega) (by omega) (by omega) (by omega)
  have nlo := near_lo (N := bounded v (a1 % 100000) (a2 % 100000)) (c := 1000000 * perOf v) (by omega)
  have nhi := near_hi (N := bounded v (a1 % 100000) (a2 % 100000)) (c := 1000000 * perOf v) (by omega)
  have bm := fun h => bounded_most (v := a1 % 100000) (q := a2 % 100000) hd (by omega) h
  have bl := fun h => bounded_least (d := v) (v := a1 % 100000) (q := a2 % 100000) h
  have mM := mul_bd g5.1 g5.2 hx.1 (show a1 % 100000 ≤ 100000 by omega)
  have mL := mul_bd g6.1 g6.2 hx.1 (show a1 % 100000 ≤ 100000 by omega)
  have hsame : 0 < v.Amount ∨ bounded v (a1 % 100000) (a2 % 100000) = bounded v (a1 % 100000) (a3 % 100000) := by
    by_cases h : 0 < v.Amount
    · exact .inl h
    · right
      have : v.Amount = 0 := by have := hd.amount; omega
      unfold bounded capped total
      simp [this]
  generalize hxd : a1 % 100000 = x at *
  generalize hr : near (bounded v x (a2 % 100000)) (1000000 * perOf v) = r at *
  have e2 : (2 : Int) * v.Most * x = 2 * (v.Most * x) := Int.mul_assoc _ _ _
  have e3 : (2 : Int) * v.Least * x = 2 * (v.Least * x) := Int.mul_assoc _ _ _
  have c1 : ¬ (v.HasMost = true ∧ 2 * v.Most * x + 1000000 < 2 * r * 1000000) := by
    rintro ⟨hm, hlt⟩
    have b := bm hm
    have e1 : r * (2 * (1000000 * perOf v)) = (2 * r * 1000000) * perOf v := by
      rw [← Int.mul_assoc, ← Int.mul_assoc, Int.mul_comm r 2]
    have k := Int.mul_le_mul_of_nonneg_right (show 2 * v.Most * x + 1000000 + 1 ≤ 2 * r * 1000000 by omega) (show 0 ≤ perOf v by omega)
    rw [e2, Int.add_mul, Int.add_mul, Int.mul_assoc 2 (v.Most * x)] at k
    omega
  have c2 : ¬ (v.HasLeast = true ∧ 2 * r * 1000000 < 2 * v.Least * x - 1000000) := by
    rintro ⟨hm, hlt⟩
    have b := bl hm
    have e1 : (r + 1) * (2 * (1000000 * perOf v)) = (2 * r * 1000000) * perOf v + 2 * (1000000 * perOf v) := by
      rw [Int.add_mul, ← Int.mul_assoc, ← Int.mul_assoc, Int.mul_comm r 2]; omega
    have k := Int.mul_le_mul_of_nonneg_right (show 2 * r * 1000000 + 1000000 + 1 ≤ 2 * v.Least * x by omega) (show 0 ≤ perOf v by omega)
    rw [e3, Int.add_mul, Int.add_mul, Int.mul_assoc 2 (v.Least * x)] at k
    omega
  simp only [Option.bind_some]
  rw [IntWalk.i64_in (2 * v.Most) (by omega), IntWalk.i64_in (2 * v.Most * x) (by omega), IntWalk.i64_in (2 * v.Most * x + 1000000) (by omega), IntWalk.i64_in (2 * r) (by omega), IntWalk.i64_in (2 * r * 1000000) (by omega), IntWalk.i64_in (2 * v.Least) (by omega), IntWalk.i64_in (2 * v.Least * x) (by omega), IntWalk.i64_in (2 * v.Least * x - 1000000) (by omega)]
  rw [if_neg (by
    intro h
    simp only [bne_self_eq_false, cond_false, Bool.cond_true_left, Bool.cond_false_right, Bool.or_eq_true, Bool.and_eq_true, decide_eq_true_eq, Bool.false_or] at h
    rcases h with h | h
    · exact c1 h
    · exact c2 h)]
  rcases hsame with h | h
  · simp [h, awake18_ok]
  · rw [← h, hr]; simp [awake18_ok]

theorem lawSplit_true {a0 : List Int} {a1 a2 a3 a4 : Int} (h0 : a0.length ≤ 9223372036854775807 ∧ ∀ x, x ∈ a0 → okI_i64 x) (h1 : okI_i64 a1) (h2 : okI_i64 a2) (h3 : okI_i64 a3) (h4 : okI_i64 a4) : lawSplit a0 a1 a2 a3 a4 = some true := by
  obtain ⟨v, hv, hd, ha⟩ := madeDuty_ok a0
  unfold lawSplit
  rw [hv]
  simp only [Option.bind_some, amount18_ok, if_true]
  rw [within_eq (n := 1000) (by omega) (by omega), within_eq (n := 1000) (by omega) (by omega)]
  simp only [Option.bind_some]
  rw [IntWalk.i64_in (a1 % 100000 + a2 % 100000) (by omega), IntWalk.i64_in (a3 % 1000 + a4 % 1000) (by omega)]
  have hd' : DOk (⟨v.Rate, v.Amount, v.Per, false, 0, false, 0⟩ : ApiDuty) :=
    ⟨hd.rate, hd.amount, hd.per, hd.noper, by simp, by simp, by simp, by simp, by simp⟩
  generalize hdd : (⟨v.Rate, v.Amount, v.Per, false, 0, false, 0⟩ : ApiDuty) = d at *
  have had : d.Amount ≤ 500 := by rw [← hdd]; exact ha
  have hp := per_bd hd'
  have hb : ∀ x q, bounded d x q = total d x q := by
    intro x q
    have e1 : d.HasMost = false := by rw [← hdd]
    have e2 : d.HasLeast = false := by rw [← hdd]
    unfold bounded capped
    simp [e1, e2]
  have hx1 : 0 ≤ a1 % 100000 ∧ a1 % 100000 < 100000 := by omega
  have hx2 : 0 ≤ a2 % 100000 ∧ a2 % 100000 < 100000 := by omega
  have hq1 : 0 ≤ a3 % 1000 ∧ a3 % 1000 < 1000 := by omega
  have hq2 : 0 ≤ a4 % 1000 ∧ a4 % 1000 < 1000 := by omega
  generalize a1 % 100000 = x1 at *
  generalize a2 % 100000 = x2 at *
  generalize a3 % 1000 = q1 at *
  generalize a4 % 1000 = q2 at *
  have hsum : total d (x1 + x2) (q1 + q2) = total d x1 q1 + total d x2 q2 := by
    unfold total
    rw [Int.mul_add, Int.add_mul, Int.mul_add, Int.add_mul]; omega
  rw [eval_small hd' had (by omega) (by omega) (by omega) (by omega), eval_small hd' had (by omega) (by omega) (by omega) (by omega), eval_small hd' had (by omega) (by omega) (by omega) (by omega)]
  have s1 := small_bd (v := x1) (q := q1) hd' had (by omega) (by omega) (by omega) (by omega)
  have s2 := small_bd (v := x2) (q := q2) hd' had (by omega) (by omega) (by omega) (by omega)
  have s3 := small_bd (v := x1 + x2) (q := q1 + q2) hd' had (by omega) (by omega) (by omega) (by omega)
  rw [hb] at s1 s2 s3
  rw [hb, hb, hb]
  have lo1 := near_lo (N := total d x1 q1) (c := 1000000 * perOf d) (by omega)
  have hi1 := near_hi (N := total d x1 q1) (c := 1000000 * perOf d) (by omega)
  have lo2 := near_lo (N := total d x2 q2) (c := 1000000 * perOf d) (by omega)
  have hi2 := near_hi (N := total d x2 q2) (c := 1000000 * perOf d) (by omega)
  have lo3 := near_lo (N := total d (x1 + x2) (q1 + q2)) (c := 1000000 * perOf d) (by omega)
  have hi3 := near_hi (N := total d (x1 + x2) (q1 + q2)) (c := 1000000 * perOf d) (by omega)
  rw [hsum] at lo3 hi3 s3 ⊢
  generalize near (total d x1 q1 + total d x2 q2) (1000000 * perOf d) = r3 at *
  generalize near (total d x1 q1) (1000000 * perOf d) = r1 at *
  generalize near (total d x2 q2) (1000000 * perOf d) = r2 at *
  have hc : 0 < 2 * (1000000 * perOf d) := by omega
  generalize hcd : 1000000 * perOf d = c at *
  have k1 : r1 + r2 - r3 ≤ 1 := by
    false_or_by_contra
    have k := Int.mul_le_mul_of_nonneg_right (show r3 + 2 ≤ r1 + r2 by omega) (Int.le_of_lt hc)
    rw [Int.add_mul, Int.add_mul] at k
    rw [Int.add_mul] at hi3
    omega
  have k2 : r3 - r1 - r2 ≤ 1 := by
    false_or_by_contra
    have k := Int.mul_le_mul_of_nonneg_right (show r1 + r2 + 2 ≤ r3 by omega) (Int.le_of_lt hc)
    rw [Int.add_mul, Int.add_mul] at k
    rw [Int.add_mul] at hi1 hi2
    omega
  simp only [Option.bind_some]
  rw [IntWalk.i64_in (r1 + r2) (by omega), IntWalk.i64_in (r1 + r2 - r3) (by omega), IntWalk.i64_in (r3 - r1) (by omega), IntWalk.i64_in (r3 - r1 - r2) (by omega)]
  simp [k1, k2, awake18_ok]

end Go.C
