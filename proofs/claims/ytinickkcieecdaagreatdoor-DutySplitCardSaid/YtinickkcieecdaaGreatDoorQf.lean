/- Plain laws: how amounts and duties are written. No program in sight. -/
import Derived.Test.YtinickkcieecdaaGreatDoorQe
set_option linter.unusedVariables false
set_option linter.unusedSimpArgs false
namespace Go.C
open Go.V
open Go.Lib (decDigits)

theorem moneyWithin_one (low high n : Int) : moneyWithin low high [n] = some (decide (low ≤ n ∧ n ≤ high)) := by
  unfold moneyWithin
  by_cases h : low ≤ n ∧ n ≤ high
  · rw [loop_step (x := (1 : Int)) (by
      simp only [moneyWithin_b1]
      rw [if_pos (by simp), if_pos (by simp)]
      simp only [Int.toNat_zero, List.getElem?_cons_zero, Option.bind_some]
      rw [if_neg (by simp; omega)]
      rfl), loop_stop (r := .inr ()) (by simp [moneyWithin_b1])]
    simp [h]
  · rw [loop_stop (r := .inl false) (by
      simp only [moneyWithin_b1]
      rw [if_pos (by simp), if_pos (by simp)]
      simp only [Int.toNat_zero, List.getElem?_cons_zero, Option.bind_some]
      rw [if_pos (by simp; omega)])]
    simp [h]

theorem isAmount_ok (n : Int) : moneyIsAmount n = some (decide (-1000000000000 ≤ n ∧ n ≤ 1000000000000)) := by
  unfold moneyIsAmount
  rw [moneyWithin_one]; rfl

/-- An amount, as it is written. -/
def mny (a : Nat) : Str := (decDigits (a / 100) ++ [46]) ++ [dg (a / 10 % 10), dg (a % 10)]

theorem dec2 {a : Nat} (h : a < 100) : (if (decDigits a).length < 2 then [48] ++ decDigits a else decDigits a) = [dg (a / 10), dg (a % 10)] := by
  by_cases h1 : a < 10
  · rw [dec_small h1]
    have e1 : a / 10 = 0 := by omega
    have e2 : a % 10 = a := by omega
    rw [e1, e2]; rfl
  · rw [dec_big h1, dec_small (u := a / 10) (by omega)]; rfl

theorem moneyFormat_ok {n : Int} (h : 0 ≤ n) (h2 : n ≤ 1000000000000) : moneyFormat n = some (mny n.toNat) := by
  obtain ⟨a, rfl⟩ := Int.eq_ofNat_of_zero_le h
  have l1 := dec_len19 (u := a / 100) (by omega)
  have hd := dec2 (a := a % 100) (by omega)
  have e0 : a % 100 / 10 = a / 10 % 10 := by omega
  have e1 : a % 100 % 10 = a % 10 := by omega
  rw [e0, e1] at hd
  unfold moneyFormat
  rw [isAmount_ok]
  simp only [Option.bind_some]
  rw [if_neg (by simp; omega), if_neg (by simp), Int.tmod_eq_emod_of_nonneg (by omega), IntWalk.i64_quo _ _ (by omega), itoa_ok (by omega) (by omega), itoa_ok (by omega) (by omega)]
  simp only [Option.bind_some]
  rw [show ((a : Int) % 100).toNat = a % 100 by omega, show ((a : Int) / 100).toNat = a / 100 by omega]
  by_cases hl : (decDigits (a % 100)).length < 2
  · rw [if_pos hl] at hd
    rw [if_pos (by simp; omega), if_pos (by simp; omega), if_pos (by simp; omega), if_pos (by simp; omega), hd, if_pos (by simp; omega)]
    simp [mny]
  · rw [if_neg hl] at hd
    rw [if_neg (by simp; omega), if_pos (by simp; omega), if_pos (by simp; omega), hd, if_pos (by simp; omega)]
    simp [mny]

theorem r02Format_ok {n : Int} (h : 0 ≤ n) (h2 : n ≤ 1000000000000) : r02Format n = some (mny n.toNat) := by
  obtain ⟨a, rfl⟩ := Int.eq_ofNat_of_zero_le h
  have l1 := dec_len19 (u := a / 100) (by omega)
  unfold r02Format
  show r02Format_F (r02Format_n 1) (a : Int) = _
  unfold r02Format_F r02Amount
  simp only [Option.bind_some]
  rw [if_neg (by simp; omega), if_neg (by simp), IntWalk.i64_quo (a : Int) 100 (by omega), IntWalk.i64_quo (a : Int) 10 (by omega), Int.tmod_eq_emod_of_nonneg (by omega), Int.tmod_eq_emod_of_nonneg (by omega), digits_ok (by omega) (by omega), digits_ok (by omega) (by omega), digits_ok (by omega) (by omega)]
  simp only [Option.bind_some]
  rw [show ((a : Int) / 100).toNat = a / 100 by omega, show ((a : Int) / 10 % 10).toNat = a / 10 % 10 by omega, show ((a : Int) % 10).toNat = a % 10 by omega, dec_small (u := a / 10 % 10) (by omega), dec_small (u := a % 10) (by omega)]
  rw [if_pos (by simp; omega), if_pos (by simp; omega), if_pos (by simp; omega)]
  simp [mny]

def amt (d : ApiDuty) : Str := (mny d.Amount.toNat ++ [47]) ++ decDigits d.Per.toNat
def terms (d : ApiDuty) : Str := if d.Amount = 0 then pct d.Rate.toNat else if d.Rate = 0 then amt d else (pct d.Rate.toNat ++ [32, 43, 32]) ++ amt d
def bnds (d : ApiDuty) : Str := (if d.HasMost = true then [32, 109, 97, 120, 32] ++ pct d.Most.toNat else []) ++ (if d.HasLeast = true then [32, 109, 105, 110, 32] ++ pct d.Least.toNat else [])
/-- A duty that holds, as it is written. -/
def fmt (d : ApiDuty) : Str := terms d ++ bnds d

theorem pct_len {u : Nat} (h : u ≤ 10000000000000000) : (pct u).length ≤ 25 := by
  have l1 := dec_len19 (u := u / 10000) (by omega)
  have l2 := frac_len (u % 10000)
  unfold pct
  split <;> simp <;> omega
theorem amt_len {d : ApiDuty} (hd : DOk d) : (amt d).length ≤ 42 := by
  have h1 := hd.amount; have h2 := hd.per; have h3 := hd.noper
  have l1 := dec_len19 (u := d.Amount.toNat / 100) (by omega)
  have l2 := dec_len19 (u := d.Per.toNat) (by omega)
  unfold amt mny
  simp; omega

theorem join1 (x sep : Str) (h : x.length ≤ 1000) : joinS [x] sep = some x := by
  unfold joinS
  rw [Lib.join_one, if_pos ⟨by simp, by omega⟩]
theorem join2 (x y sep : Str) (h : x.length + y.length + sep.length ≤ 1000) : joinS [x, y] sep = some ((x ++ sep) ++ y) := by
  unfold joinS
  have e : Lib.join [x, y] sep = (x ++ sep) ++ y := by rw [Lib.join_cons]; simp [Lib.joinTail]
  rw [e, if_pos ⟨by simp, by simp; omega⟩]

theorem dutyFormat_ok {d : ApiDuty} (hd : DOk d) : dutyFormat d = some (fmt d) := by
  have h1 := hd.rate; have h2 := hd.amount; have h3 := hd.per; have h4 := hd.noper; have h5 := hd.most; have h6 := hd.least
  have p1 := dutyPercentage_ok h1.1 (by omega)
  have p2 := dutyPercentage_ok h5.1 (by omega)
  have p3 := dutyPercentage_ok h6.1 (by omega)
  have p4 := moneyFormat_ok h2.1 (by omega)
  have p5 := itoa_ok (n := d.Per) (by omega) (by omega)
  have l1 := pct_len (u := d.Rate.toNat) (by omega)
  have l2 := pct_len (u := d.Most.toNat) (by omega)
  have l3 := pct_len (u := d.Least.toNat) (by omega)
  have l4 := amt_len hd
  have l5 : (mny d.Amount.toNat).length + (decDigits d.Per.toNat).length ≤ 41 := by unfold amt at l4; simp at l4; omega
  have jj : ∀ x : Str, x.length ≤ 1000 → joinS [x] [32, 43, 32] = some x := fun x hx => join1 _ _ hx
  unfold dutyFormat
  rw [validate_zero hd]
  simp only [Option.bind_some, p1, p2, p3, p4, p5]
  rw [if_neg (by decide)]
  unfold fmt terms bnds
  by_cases ha : d.Amount = 0
  · rw [if_pos (by simp [ha]), if_pos (by simp), if_neg (by simp [ha]), join1 _ _ (by omega), if_pos ha]
    simp only [Option.bind_some]
    cases d.HasMost <;> cases d.HasLeast
    · simp
    · simp only [Bool.false_eq_true, if_false, if_true]
      rw [if_pos (by simp; omega), if_pos (by simp; omega)]; simp
    · simp only [Bool.false_eq_true, if_false, if_true]
      rw [if_pos (by simp; omega), if_pos (by simp; omega)]; simp
    · simp only [Bool.false_eq_true, if_false, if_true]
      rw [if_pos (by simp; omega), if_pos (by simp; omega), if_pos (by simp; omega), if_pos (by simp; omega)]; simp
  · by_cases hr : d.Rate = 0
    · rw [if_neg (by simp [ha, hr]), if_pos (by simpa using ha), if_pos (by simp; omega), if_pos (by simp; omega), if_pos (by simp), show (mny d.Amount.toNat ++ [47]) ++ decDigits d.Per.toNat = amt d from rfl, join1 _ _ (by omega), if_neg ha, if_pos hr]
      simp only [Option.bind_some]
      cases d.HasMost <;> cases d.HasLeast
      · simp
      · simp only [Bool.false_eq_true, if_false, if_true]
        rw [if_pos (by simp; omega), if_pos (by simp; omega)]; simp
      · simp only [Bool.false_eq_true, if_false, if_true]
        rw [if_pos (by simp; omega), if_pos (by simp; omega)]; simp
      · simp only [Bool.false_eq_true, if_false, if_true]
        rw [if_pos (by simp; omega), if_pos (by simp; omega), if_pos (by simp; omega), if_pos (by simp; omega)]; simp
    · rw [if_pos (by simp [hr]), if_pos (by simp), if_pos (by simpa using ha), if_pos (by simp; omega), if_pos (by simp; omega), if_pos (by simp), show (mny d.Amount.toNat ++ [47]) ++ decDigits d.Per.toNat = amt d from rfl]
      rw [show [pct d.Rate.toNat] ++ [amt d] = [pct d.Rate.toNat, amt d] from rfl, join2 _ _ _ (by simp; omega), if_neg ha, if_neg hr]
      simp only [Option.bind_some]
      cases d.HasMost <;> cases d.HasLeast
      · simp
      · simp only [Bool.false_eq_true, if_false, if_true]
        rw [if_pos (by simp; omega), if_pos (by simp; omega)]; simp
      · simp only [Bool.false_eq_true, if_false, if_true]
        rw [if_pos (by simp; omega), if_pos (by simp; omega)]; simp
      · simp only [Bool.false_eq_true, if_false, if_true]
        rw [if_pos (by simp; omega), if_pos (by simp; omega), if_pos (by simp; omega), if_pos (by simp; omega)]; simp

theorem refFormatDuty_ok {d : ApiDuty} (hd : DOk d) : refFormatDuty d = some (fmt d) := by
  have h1 := hd.rate; have h2 := hd.amount; have h3 := hd.per; have h4 := hd.noper; have h5 := hd.most; have h6 := hd.least
  have p1 := r12Percent_ok h1.1 (by omega)
  have p2 := r12Percent_ok h5.1 (by omega)
  have p3 := r12Percent_ok h6.1 (by omega)
  have p4 := r02Format_ok h2.1 (by omega)
  have p5 := digits_ok (n := d.Per) (by omega) (by omega)
  have l1 := pct_len (u := d.Rate.toNat) (by omega)
  have l2 := pct_len (u := d.Most.toNat) (by omega)
  have l3 := pct_len (u := d.Least.toNat) (by omega)
  have l4 := amt_len hd
  have l5 : (mny d.Amount.toNat).length + (decDigits d.Per.toNat).length ≤ 41 := by unfold amt at l4; simp at l4; omega
  unfold refFormatDuty
  rw [refDuty_eq, validate_zero hd]
  simp only [Option.bind_some, p1, p2, p3, p4, p5]
  rw [if_neg (by decide)]
  unfold fmt terms bnds
  by_cases ha : d.Amount = 0
  · rw [if_neg (by simp [ha]), if_pos ha]
    cases d.HasMost <;> cases d.HasLeast
    · simp
    · simp only [Bool.false_eq_true, if_false, if_true]
      rw [if_pos (by simp; omega), if_pos (by simp; omega)]; simp
    · simp only [Bool.false_eq_true, if_false, if_true]
      rw [if_pos (by simp; omega), if_pos (by simp; omega)]; simp
    · simp only [Bool.false_eq_true, if_false, if_true]
      rw [if_pos (by simp; omega), if_pos (by simp; omega), if_pos (by simp; omega), if_pos (by simp; omega)]; simp
  · rw [if_pos (by simp; omega), if_pos (by simp; omega), if_pos (by simp; omega), if_neg ha, show (mny d.Amount.toNat ++ [47]) ++ decDigits d.Per.toNat = amt d from rfl]
    by_cases hr : d.Rate = 0
    · rw [if_pos (by simpa using hr), if_pos hr]
      cases d.HasMost <;> cases d.HasLeast
      · simp
      · simp only [Bool.false_eq_true, if_false, if_true]
        rw [if_pos (by simp; omega), if_pos (by simp; omega)]; simp
      · simp only [Bool.false_eq_true, if_false, if_true]
        rw [if_pos (by simp; omega), if_pos (by simp; omega)]; simp
      · simp only [Bool.false_eq_true, if_false, if_true]
        rw [if_pos (by simp; omega), if_pos (by simp; omega), if_pos (by simp; omega), if_pos (by simp; omega)]; simp
    · rw [if_neg (by simpa using hr), if_neg hr, if_pos (by simp; omega), if_pos (by simp; omega)]
      cases d.HasMost <;> cases d.HasLeast
      · simp
      · simp only [Bool.false_eq_true, if_false, if_true]
        rw [if_pos (by simp; omega), if_pos (by simp; omega)]; simp
      · simp only [Bool.false_eq_true, if_false, if_true]
        rw [if_pos (by simp; omega), if_pos (by simp; omega)]; simp
      · simp only [Bool.false_eq_true, if_false, if_true]
        rw [if_pos (by simp; omega), if_pos (by simp; omega), if_pos (by simp; omega), if_pos (by simp; omega)]; simp

theorem format_same (d : ApiDuty) : ∃ s, dutyFormat d = some s ∧ refFormatDuty d = some s := by
  obtain ⟨e, he, he2⟩ := validate_some d
  by_cases h0 : e = 0
  · subst h0
    exact ⟨_, dutyFormat_ok (validate_dok he), refFormatDuty_ok (validate_dok he)⟩
  · refine ⟨[], ?_, ?_⟩
    · unfold dutyFormat
      rw [he]; simp [h0]
    · unfold refFormatDuty
      rw [refDuty_eq, he]; simp [h0]

end Go.C
