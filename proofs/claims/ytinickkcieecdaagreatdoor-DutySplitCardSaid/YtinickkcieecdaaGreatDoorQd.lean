/- Plain laws: what a duty comes to; the program's and the reference's answers are the same. No program in sight. -/
import Derived.Test.YtinickkcieecdaaGreatDoorPe
import Derived.Test.YtinickkcieecdaaGreatDoorQc
set_option linter.unusedVariables false
set_option linter.unusedSimpArgs false
namespace Go.C
open Go.V

theorem mul_bd {a b m n : Int} (ha : 0 ≤ a) (ha2 : a ≤ m) (hb : 0 ≤ b) (hb2 : b ≤ n) : 0 ≤ a * b ∧ a * b ≤ m * n :=
  ⟨Int.mul_nonneg ha hb, Int.mul_le_mul ha2 hb2 hb (Int.le_trans ha ha2)⟩

def perOf (d : ApiDuty) : Int := if (1 : Int) > d.Per then (1 : Int) else d.Per
/-- The duty's total in millionths over 'per', before rounding. -/
def total (d : ApiDuty) (v q : Int) : Int := d.Rate * v * perOf d + d.Amount * q * 1000000
def capped (d : ApiDuty) (v q : Int) : Int := if d.HasMost = true ∧ d.Most * v * perOf d < total d v q then d.Most * v * perOf d else total d v q
def bounded (d : ApiDuty) (v q : Int) : Int := if d.HasLeast = true ∧ capped d v q < d.Least * v * perOf d then d.Least * v * perOf d else capped d v q
def answer (x : Int) : Int × Int := if (1000000000000 : Int) < x then (0, 3) else (x, 0)
def evalP (d : ApiDuty) (v q : Int) : Int × Int := answer (near (bounded d v q) (1000000 * perOf d))

theorem per_bd {d : ApiDuty} (hd : DOk d) : 1 ≤ perOf d ∧ perOf d ≤ 1000000 := by
  have h1 := hd.per; have h2 := hd.noper; have h3 := hd.amount
  unfold perOf; split <;> omega

theorem part_bd {r v p : Int} (h1 : 0 ≤ r) (h2 : r ≤ 10000000) (h3 : 0 ≤ v) (h4 : v ≤ 1000000000000) (h5 : 1 ≤ p) : 0 ≤ r * v * p ∧ r * v * p ≤ 10000000000000000000 * p := by
  have h := mul_bd h1 h2 h3 h4
  exact ⟨Int.mul_nonneg h.1 (by omega), Int.mul_le_mul_of_nonneg_right (by omega) (by omega)⟩

theorem dutyPart_ok {r v p : Int} (h1 : 0 ≤ r) (h2 : r ≤ 10000000) (h3 : 0 ≤ v) (h4 : v ≤ 1000000000000) (h5 : 1 ≤ p) (h6 : p ≤ 1000000) : dutyPart r v p = some (mkE (r * v * p)) := by
  have h := mul_bd h1 h2 h3 h4
  unfold dutyPart
  rw [IntWalk.u64_in r (by omega), IntWalk.u64_in v (by omega), IntWalk.u64_in (r * v) (by omega), exactMul_ok (by omega) (by omega) (by omega) (by omega)]
  rfl
theorem refScaled_ok {r v p : Int} (h1 : 0 ≤ r) (h2 : r ≤ 10000000) (h3 : 0 ≤ v) (h4 : v ≤ 1000000000000) (h5 : 1 ≤ p) (h6 : p ≤ 1000000) : refScaled r v p = some (mkR (r * v * p)) := by
  have h := mul_bd h1 h2 h3 h4
  unfold refScaled
  rw [IntWalk.u64_in r (by omega), IntWalk.u64_in v (by omega), IntWalk.u64_in (r * v) (by omega), IntWalk.u64_in p (by omega), r01Mul_ok (by omega) (by omega) (by omega) (by omega)]
  rfl

theorem bounded_bd {d : ApiDuty} {v q : Int} (hd : DOk d) (hv : 0 ≤ v) (hv2 : v ≤ 1000000000000) (hq : 0 ≤ q) (hq2 : q ≤ 1000000000) :
    0 ≤ total d v q ∧ total d v q ≤ 10000000000000000000 * perOf d + 100000000000000000000000 ∧ 0 ≤ capped d v q ∧ capped d v q ≤ 10000000000000000000 * perOf d + 100000000000000000000000 ∧ 0 ≤ bounded d v q ∧ bounded d v q ≤ 10000000000000000000 * perOf d + 100000000000000000000000 := by
  have hp := per_bd hd
  have h1 := part_bd hd.rate.1 hd.rate.2 hv hv2 hp.1
  have h2 := part_bd hd.most.1 hd.most.2 hv hv2 hp.1
  have h3 := part_bd hd.least.1 hd.least.2 hv hv2 hp.1
  have h4 := mul_bd hd.amount.1 hd.amount.2 hq hq2
  have t1 : 0 ≤ total d v q ∧ total d v q ≤ 10000000000000000000 * perOf d + 100000000000000000000000 := by unfold total; omega
  have t2 : 0 ≤ capped d v q ∧ capped d v q ≤ 10000000000000000000 * perOf d + 100000000000000000000000 := by unfold capped; split <;> omega
  have t3 : 0 ≤ bounded d v q ∧ bounded d v q ≤ 10000000000000000000 * perOf d + 100000000000000000000000 := by unfold bounded; split <;> omega
  omega

theorem near_bd {Y p : Int} (h0 : 0 ≤ Y) (h1 : Y ≤ 10000000000000000000 * p + 100000000000000000000000) (hp : 1 ≤ p) : 0 ≤ near Y (1000000 * p) ∧ near Y (1000000 * p) < 18446744073709551616 := by
  refine ⟨near_nonneg h0 (by omega), ?_⟩
  unfold near
  apply Int.ediv_lt_of_lt_mul (by omega)
  omega

theorem endE {Y p : Int} (h0 : 0 ≤ Y) (h1 : Y ≤ 10000000000000000000 * p + 100000000000000000000000) (hp : 1 ≤ p) (hp2 : p ≤ 1000000) :
    ((exactDiv (mkE Y) (IntKind.u64.wrap ((1000000 : Int) * (IntKind.u64.wrap p))) (2 : Int)).bind fun v11 =>
      if (bif (v11.2 != (0 : Int)) then true else (decide ((1000000000000 : Int) < v11.1))) = true then some ((0 : Int), (3 : Int)) else some ((IntKind.i64.wrap v11.1), (0 : Int))) = some (answer (near Y (1000000 * p))) := by
  have hb := near_bd h0 h1 hp
  rw [IntWalk.u64_in p (by omega), IntWalk.u64_in (1000000 * p) (by omega), exactDiv_ok h0 (by omega) (by omega) (by omega) hb.2]
  simp only [Option.bind_some]
  unfold answer
  by_cases h : (1000000000000 : Int) < near Y (1000000 * p)
  · simp [h]
  · rw [if_neg (by simpa using h), if_neg h, IntWalk.i64_in _ (by omega)]
theorem endR {Y p : Int} (h0 : 0 ≤ Y) (h1 : Y ≤ 10000000000000000000 * p + 100000000000000000000000) (hp : 1 ≤ p) (hp2 : p ≤ 1000000) :
    ((r01Div (mkR Y) (IntKind.u64.wrap ((IntKind.u64.wrap p) * (1000000 : Int))) (2 : Int)).bind fun v11 =>
      if (bif (v11.2 != (0 : Int)) then true else (decide ((1000000000000 : Int) < v11.1))) = true then some ((0 : Int), (3 : Int)) else some ((IntKind.i64.wrap v11.1), (0 : Int))) = some (answer (near Y (1000000 * p))) := by
  have hb := near_bd h0 h1 hp
  rw [IntWalk.u64_in p (by omega), Int.mul_comm p 1000000, IntWalk.u64_in (1000000 * p) (by omega), r01Div_ok h0 (by omega) (by omega) (by omega) hb.2]
  simp only [Option.bind_some]
  unfold answer
  by_cases h : (1000000000000 : Int) < near Y (1000000 * p)
  · simp [h]
  · rw [if_neg (by simpa using h), if_neg h, IntWalk.i64_in _ (by omega)]

theorem dutyEvaluate_in {d : ApiDuty} {v q : Int} (hd : DOk d) (hv : 0 ≤ v) (hv2 : v ≤ 1000000000000) (hq : 0 ≤ q) (hq2 : q ≤ 1000000000) : dutyEvaluate d v q = some (evalP d v q) := by
  have hp := per_bd hd
  have hbd := bounded_bd hd hv hv2 hq hq2
  have b1 := part_bd hd.rate.1 hd.rate.2 hv hv2 hp.1
  have b2 := part_bd hd.most.1 hd.most.2 hv hv2 hp.1
  have b3 := part_bd hd.least.1 hd.least.2 hv hv2 hp.1
  have b4 := mul_bd hd.amount.1 hd.amount.2 hq hq2
  have ha := hd.amount
  unfold dutyEvaluate
  rw [validate_zero hd]
  simp only [Option.bind_some]
  rw [if_neg (by decide), if_neg (by simp; omega)]
  rw [show (if (1 : Int) > d.Per then (1 : Int) else d.Per) = perOf d from rfl]
  have hpw : IntKind.u64.wrap (perOf d) = perOf d := IntWalk.u64_in _ (by omega)
  rw [IntWalk.u64_in d.Amount (by omega), IntWalk.u64_in q (by omega), IntWalk.u64_in (d.Amount * q) (by omega)]
  have D1 := dutyPart_ok hd.rate.1 hd.rate.2 hv hv2 hp.1 hp.2
  have D2 := dutyPart_ok hd.most.1 hd.most.2 hv hv2 hp.1 hp.2
  have D3 := dutyPart_ok hd.least.1 hd.least.2 hv hv2 hp.1 hp.2
  have D4 := exactMul_ok (a := d.Amount * q) (b := 1000000) (by omega) (by omega) (by omega) (by omega)
  have D5 := exactAdd_ok (m := d.Rate * v * perOf d) (n := d.Amount * q * 1000000) (by omega) (by omega) (by omega)
  obtain ⟨c1, C1, C1a, C1b⟩ := exactCmp_ok (m := total d v q) (n := d.Most * v * perOf d) (by omega) (by omega)
  obtain ⟨c2, C2, C2a, C2b⟩ := exactCmp_ok (m := d.Most * v * perOf d) (n := d.Least * v * perOf d) (by omega) (by omega)
  obtain ⟨c3, C3, C3a, C3b⟩ := exactCmp_ok (m := total d v q) (n := d.Least * v * perOf d) (by omega) (by omega)
  rw [show d.Rate * v * perOf d + d.Amount * q * 1000000 = total d v q from rfl] at D5
  simp only [hpw, D1, D2, D3, D4, D5, Option.bind_some]
  rw [if_neg (by decide)]
  have e1 := fun (Y : Int) (h0 : 0 ≤ Y) (h1 : Y ≤ 10000000000000000000 * perOf d + 100000000000000000000000) => endE h0 h1 hp.1 hp.2
  rw [hpw] at e1
  unfold evalP bounded capped
  cases hm : d.HasMost <;> cases hl : d.HasLeast
  · simp only [cond_false, cond_true, Bool.false_eq_true, if_false, if_true, false_and, true_and, Option.bind_some]
    exact e1 _ (by omega) (by omega)
  · simp only [cond_false, cond_true, Bool.false_eq_true, if_false, if_true, false_and, true_and, Option.bind_some, C3, C3b]
    by_cases h : total d v q < d.Least * v * perOf d
    · simp only [h, decide_true, if_true]; exact e1 _ (by omega) (by omega)
    · simp only [h, decide_false, Bool.false_eq_true, if_false]; exact e1 _ (by omega) (by omega)
  · simp only [cond_false, cond_true, Bool.false_eq_true, if_false, if_true, false_and, true_and, Option.bind_some, C1, C1a]
    by_cases h : d.Most * v * perOf d < total d v q
    · simp only [h, decide_true, if_true]; exact e1 _ (by omega) (by omega)
    · simp only [h, decide_false, Bool.false_eq_true, if_false]; exact e1 _ (by omega) (by omega)
  · simp only [cond_false, cond_true, Bool.false_eq_true, if_false, if_true, false_and, true_and, Option.bind_some, C1, C1a]
    by_cases h : d.Most * v * perOf d < total d v q
    · simp only [h, decide_true, if_true, C2, C2b, Option.bind_some]
      by_cases h' : d.Most * v * perOf d < d.Least * v * perOf d
      · simp only [h', decide_true, if_true]; exact e1 _ (by omega) (by omega)
      · simp only [h', decide_false, Bool.false_eq_true, if_false]; exact e1 _ (by omega) (by omega)
    · simp only [h, decide_false, Bool.false_eq_true, if_false, C3, C3b, Option.bind_some]
      by_cases h' : total d v q < d.Least * v * perOf d
      · simp only [h', decide_true, if_true]; exact e1 _ (by omega) (by omega)
      · simp only [h', decide_false, Bool.false_eq_true, if_false]; exact e1 _ (by omega) (by omega)

theorem refEvaluate_in {d : ApiDuty} {v q : Int} (hd : DOk d) (hv : 0 ≤ v) (hv2 : v ≤ 1000000000000) (hq : 0 ≤ q) (hq2 : q ≤ 1000000000) : refEvaluate d v q = some (evalP d v q) := by
  have hp := per_bd hd
  have hbd := bounded_bd hd hv hv2 hq hq2
  have b1 := part_bd hd.rate.1 hd.rate.2 hv hv2 hp.1
  have b2 := part_bd hd.most.1 hd.most.2 hv hv2 hp.1
  have b3 := part_bd hd.least.1 hd.least.2 hv hv2 hp.1
  have b4 := mul_bd hd.amount.1 hd.amount.2 hq hq2
  have ha := hd.amount
  have i1 : refIn v 1000000000000 = some true := by unfold refIn; simp [hv, hv2]
  have i2 : refIn q 1000000000 = some true := by unfold refIn; simp [hq, hq2]
  unfold refEvaluate
  rw [refDuty_eq, validate_zero hd]
  simp only [Option.bind_some, i1, i2, Bool.not_true, Bool.not_false, if_true, cond_false, Bool.false_eq_true, if_false]
  rw [if_neg (by decide)]
  rw [show (if (1 : Int) > d.Per then (1 : Int) else d.Per) = perOf d from rfl]
  have hpw : IntKind.u64.wrap (perOf d) = perOf d := IntWalk.u64_in _ (by omega)
  rw [IntWalk.u64_in d.Amount (by omega), IntWalk.u64_in q (by omega), IntWalk.u64_in (d.Amount * q) (by omega)]
  have D1 := refScaled_ok hd.rate.1 hd.rate.2 hv hv2 hp.1 hp.2
  have D2 := refScaled_ok hd.most.1 hd.most.2 hv hv2 hp.1 hp.2
  have D3 := refScaled_ok hd.least.1 hd.least.2 hv hv2 hp.1 hp.2
  have D4 := r01Mul_ok (a := d.Amount * q) (b := 1000000) (by omega) (by omega) (by omega) (by omega)
  have D5 := r01Add_ok (m := d.Rate * v * perOf d) (n := d.Amount * q * 1000000) (by omega) (by omega) (by omega)
  have C1 := r01Less_ok (m := d.Most * v * perOf d) (n := total d v q) (by omega) (by omega)
  have C2 := r01Less_ok (m := d.Most * v * perOf d) (n := d.Least * v * perOf d) (by omega) (by omega)
  have C3 := r01Less_ok (m := total d v q) (n := d.Least * v * perOf d) (by omega) (by omega)
  rw [show d.Rate * v * perOf d + d.Amount * q * 1000000 = total d v q from rfl] at D5
  simp only [hpw, D1, D2, D3, D4, D5, Option.bind_some]
  have e1 := fun (Y : Int) (h0 : 0 ≤ Y) (h1 : Y ≤ 10000000000000000000 * perOf d + 100000000000000000000000) => endR h0 h1 hp.1 hp.2
  rw [hpw] at e1
  unfold evalP bounded capped
  cases hm : d.HasMost <;> cases hl : d.HasLeast
  · simp only [cond_false, cond_true, Bool.false_eq_true, if_false, if_true, false_and, true_and, Option.bind_some]
    exact e1 _ (by omega) (by omega)
  · simp only [cond_false, cond_true, Bool.false_eq_true, if_false, if_true, false_and, true_and, Option.bind_some, C3]
    by_cases h : total d v q < d.Least * v * perOf d
    · simp only [h, decide_true, if_true]; exact e1 _ (by omega) (by omega)
    · simp only [h, decide_false, Bool.false_eq_true, if_false]; exact e1 _ (by omega) (by omega)
  · simp only [cond_false, cond_true, Bool.false_eq_true, if_false, if_true, false_and, true_and, Option.bind_some, C1]
    by_cases h : d.Most * v * perOf d < total d v q
    · simp only [h, decide_true, if_true]; exact e1 _ (by omega) (by omega)
    · simp only [h, decide_false, Bool.false_eq_true, if_false]; exact e1 _ (by omega) (by omega)
  · simp only [cond_false, cond_true, Bool.false_eq_true, if_false, if_true, false_and, true_and, Option.bind_some, C1]
    by_cases h : d.Most * v * perOf d < total d v q
    · simp only [h, decide_true, if_true, C2, Option.bind_some]
      by_cases h' : d.Most * v * perOf d < d.Least * v * perOf d
      · simp only [h', decide_true, if_true]; exact e1 _ (by omega) (by omega)
      · simp only [h', decide_false, Bool.false_eq_true, if_false]; exact e1 _ (by omega) (by omega)
    · simp only [h, decide_false, Bool.false_eq_true, if_false, C3, Option.bind_some]
      by_cases h' : total d v q < d.Least * v * perOf d
      · simp only [h', decide_true, if_true]; exact e1 _ (by omega) (by omega)
      · simp only [h', decide_false, Bool.false_eq_true, if_false]; exact e1 _ (by omega) (by omega)

theorem evaluate_same (d : ApiDuty) (v q : Int) : ∃ r, dutyEvaluate d v q = some r ∧ refEvaluate d v q = some r := by
  obtain ⟨e, he, he2⟩ := validate_some d
  by_cases h0 : e = 0
  · subst h0
    have hd := validate_dok he
    by_cases hr : 0 ≤ v ∧ v ≤ 1000000000000 ∧ 0 ≤ q ∧ q ≤ 1000000000
    · obtain ⟨h1, h2, h3, h4⟩ := hr
      exact ⟨_, dutyEvaluate_in hd h1 h2 h3 h4, refEvaluate_in hd h1 h2 h3 h4⟩
    · refine ⟨(0, 2), ?_, ?_⟩
      · unfold dutyEvaluate
        rw [he]
        simp only [Option.bind_some]
        rw [if_neg (by decide), if_pos (by simp; omega)]
      · unfold refEvaluate refIn
        rw [refDuty_eq, he]
        simp only [Option.bind_some]
        rw [if_neg (by decide)]
        by_cases hv : 0 ≤ v ∧ v ≤ 1000000000000
        · have hq : ¬ (0 ≤ q ∧ q ≤ 1000000000) := fun h => hr ⟨hv.1, hv.2, h.1, h.2⟩
          have e1 : (bif decide (0 ≤ v) then decide (v ≤ 1000000000000) else false) = true := by simp [hv]
          have e2 : (bif decide (0 ≤ q) then decide (q ≤ 1000000000) else false) = false := by
            simp; omega
          simp [e1, e2]
        · have e1 : (bif decide (0 ≤ v) then decide (v ≤ 1000000000000) else false) = false := by
            simp; omega
          simp [e1]
  · refine ⟨(0, e), ?_, ?_⟩
    · unfold dutyEvaluate
      rw [he]
      simp [h0]
    · unfold refEvaluate
      rw [refDuty_eq, he]
      simp [h0]

end Go.C
