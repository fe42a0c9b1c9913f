/- Plain laws: a duty that is written is read back. No program in sight. -/
import Derived.Test.YtinickkcieecdaaGreatDoorQg
set_option linter.unusedVariables false
set_option linter.unusedSimpArgs false
namespace Go.C
open Go.V
open Go.Lib (decDigits)

abbrev maxW : Str := [109, 97, 120]
abbrev minW : Str := [109, 105, 110]
def bw (d : ApiDuty) : List Str := (if d.HasMost = true then [maxW, pct d.Most.toNat] else []) ++ (if d.HasLeast = true then [minW, pct d.Least.toNat] else [])
def tw (d : ApiDuty) : List Str := if d.Amount = 0 then [pct d.Rate.toNat] else if d.Rate = 0 then [amt d] else [pct d.Rate.toNat, [43], amt d]

theorem pct_no {u : Nat} {c : UInt8} (h : c.toNat < 48 ∨ 57 < c.toNat) (h1 : c ≠ 46) (h2 : c ≠ 37) : c ∉ pct u := by
  have d1 := (isDig_dec (u / 10000)).1.not_mem h
  have d2 := (frac_dig (r := u % 10000) (by omega)).not_mem h
  unfold pct
  split <;> simp [d1, d2, h1, h2]
theorem mny_no {u : Nat} {c : UInt8} (h : c.toNat < 48 ∨ 57 < c.toNat) (h1 : c ≠ 46) : c ∉ mny u := by
  have d1 := (isDig_dec (u / 100)).1.not_mem h
  have d2 := ((isDig_dg (n := u / 10 % 10) (by omega)).append (isDig_dg (n := u % 10) (by omega))).not_mem h
  rw [mny_parts]
  intro hm
  rcases List.mem_append.1 hm with hm | hm
  · exact d1 hm
  · rcases List.mem_cons.1 hm with hm | hm
    · exact h1 hm
    · exact d2 hm
theorem amt_no {d : ApiDuty} {c : UInt8} (h : c.toNat < 48 ∨ 57 < c.toNat) (h1 : c ≠ 46) (h2 : c ≠ 47) : c ∉ amt d := by
  have d1 := mny_no (u := d.Amount.toNat) h h1
  have d2 := (isDig_dec d.Per.toNat).1.not_mem h
  unfold amt
  intro hm
  rcases List.mem_append.1 hm with hm | hm
  · rcases List.mem_append.1 hm with hm | hm
    · exact d1 hm
    · exact h2 (List.mem_singleton.1 hm)
  · exact d2 hm

theorem split_bnds {w : Str} (d : ApiDuty) (hw : (32 : UInt8) ∉ w) : Lib.split (w ++ bnds d) [32] = w :: bw d := by
  have n1 : (32 : UInt8) ∉ pct d.Most.toNat := pct_no (by decide) (by decide) (by decide)
  have n2 : (32 : UInt8) ∉ pct d.Least.toNat := pct_no (by decide) (by decide) (by decide)
  have n3 : (32 : UInt8) ∉ maxW := by decide
  have n4 : (32 : UInt8) ∉ minW := by decide
  unfold bnds bw
  cases d.HasMost <;> cases d.HasLeast
  · simp only [Bool.false_eq_true, if_false, List.append_nil]
    exact split_miss hw
  · simp only [Bool.false_eq_true, if_false, if_true, List.nil_append]
    rw [show w ++ ([32, 109, 105, 110, 32] ++ pct d.Least.toNat) = w ++ 32 :: (minW ++ 32 :: pct d.Least.toNat) by simp, split_at hw, split_at n4, split_miss n2]
  · simp only [Bool.false_eq_true, if_false, if_true, List.append_nil]
    rw [show w ++ ([32, 109, 97, 120, 32] ++ pct d.Most.toNat) = w ++ 32 :: (maxW ++ 32 :: pct d.Most.toNat) by simp, split_at hw, split_at n3, split_miss n1]
  · simp only [Bool.false_eq_true, if_false, if_true, List.append_nil]
    rw [show w ++ ([32, 109, 97, 120, 32] ++ pct d.Most.toNat ++ ([32, 109, 105, 110, 32] ++ pct d.Least.toNat)) = w ++ 32 :: (maxW ++ 32 :: (pct d.Most.toNat ++ 32 :: (minW ++ 32 :: pct d.Least.toNat))) by simp, split_at hw, split_at n3, split_at n1, split_at n4, split_miss n2]
    rfl

theorem split_fmt (d : ApiDuty) : Lib.split (fmt d) [32] = tw d ++ bw d := by
  have n1 : (32 : UInt8) ∉ pct d.Rate.toNat := pct_no (by decide) (by decide) (by decide)
  have n2 : (32 : UInt8) ∉ amt d := amt_no (by decide) (by decide) (by decide)
  have n3 : (32 : UInt8) ∉ ([43] : Str) := by decide
  unfold fmt terms tw
  split
  · exact split_bnds d n1
  · split
    · exact split_bnds d n2
    · rw [show (pct d.Rate.toNat ++ [32, 43, 32]) ++ amt d ++ bnds d = pct d.Rate.toNat ++ 32 :: ([43] ++ 32 :: (amt d ++ bnds d)) by simp, split_at n1, split_at n3, split_bnds d n2]
      rfl

theorem parsePct_int {n : Int} (h : 0 ≤ n) (h2 : n ≤ 10000000) : dutyParsePercentage (pct n.toNat) = some (n, true) := by
  rw [parsePct (by omega), Int.toNat_of_nonneg h]

theorem parsePct_amt {d : ApiDuty} (hd : DOk d) : dutyParsePercentage (amt d) = some (0, false) := by
  have l := amt_len hd
  have n1 : (37 : UInt8) ∉ amt d := amt_no (by decide) (by decide) (by decide)
  unfold dutyParsePercentage cutSuffixS cutS
  rw [if_pos (by omega), (suffix_no n1).1, (suffix_no n1).2]
  simp only [Option.bind_some]
  rw [if_pos (by omega)]
  simp

theorem parseAmt {d : ApiDuty} (hd : DOk d) (ha : d.Amount ≠ 0) : cutS (amt d) [47] = some (mny d.Amount.toNat, decDigits d.Per.toNat, true) ∧ moneyParse (mny d.Amount.toNat) = some (d.Amount, 0) ∧ atoiS (decDigits d.Per.toNat) = some (d.Per, true) := by
  have l := amt_len hd
  have h1 := hd.amount; have h2 := hd.per
  have n1 : (47 : UInt8) ∉ mny d.Amount.toNat := mny_no (by decide) (by decide)
  obtain ⟨e1, e2, e3⟩ := isDig_dec d.Per.toNat
  have l2 : (decDigits d.Per.toNat).length ≤ 7 := dec_len 6 _ (by omega)
  refine ⟨?_, ?_, ?_⟩
  · unfold cutS
    rw [if_pos (by omega), show amt d = mny d.Amount.toNat ++ 47 :: decDigits d.Per.toNat by simp [amt], cut_at n1]
  · rw [moneyParse_ok (by omega), Int.toNat_of_nonneg h1.1]
  · rw [atoi_dig e1 e3 (by omega), e2, Int.toNat_of_nonneg (by omega)]

theorem bw_second (d : ApiDuty) (w : Str) : (w :: bw d).length < 3 ∨ ((w :: bw d).getD 1 default == ([43] : Str)) = false := by
  unfold bw
  cases d.HasMost <;> cases d.HasLeast <;> simp <;> decide

theorem terms_ok {d : ApiDuty} (hd : DOk d) : dutyParseTerms (⟨0, 0, 0, false, 0, false, 0⟩ : ApiDuty) (tw d ++ bw d) = some (bw d, true, (⟨d.Rate, d.Amount, d.Per, false, 0, false, 0⟩ : ApiDuty)) := by
  have h1 := hd.rate
  have p1 := parsePct_int h1.1 h1.2
  unfold dutyParseTerms tw
  by_cases ha : d.Amount = 0
  · have hp := hd.noper ha
    rw [if_pos ha]
    simp only [List.cons_append, List.nil_append, List.getElem?_cons_zero, Option.bind_some, p1, if_true]
    have hlen : 1 ≤ (pct d.Rate.toNat :: bw d).length := by simp
    rw [if_pos (by
      intro h
      simp at h ⊢; omega), if_pos (by
      rcases bw_second d (pct d.Rate.toNat) with h | h
      · have : decide (((pct d.Rate.toNat :: bw d).length : Int) < 3) = true := by simpa using (show ((pct d.Rate.toNat :: bw d).length : Int) < 3 by omega)
        rw [this]; rfl
      · rw [h]; simp), if_pos (by omega)]
    rw [ha, hp]; rfl
  · obtain ⟨q1, q2, q3⟩ := parseAmt hd ha
    rw [if_neg ha]
    by_cases hr : d.Rate = 0
    · rw [if_pos hr]
      simp only [List.cons_append, List.nil_append, List.getElem?_cons_zero, Option.bind_some, parsePct_amt hd, Bool.false_eq_true, if_false, q1, q2, q3]
      rw [if_pos (by simp; omega), hr]; rfl
    · rw [if_neg hr]
      simp only [List.cons_append, List.nil_append, List.getElem?_cons_zero, Option.bind_some, p1, if_true]
      have e2 : (pct d.Rate.toNat :: [43] :: amt d :: bw d).drop (2 : Int).toNat = amt d :: bw d := rfl
      rw [if_pos (by intro _; simp; omega), if_neg (by simp; omega), if_pos (by simp; omega), e2]
      simp only [List.getElem?_cons_zero, Option.bind_some, q1, q2, q3]
      rw [if_pos (by simp; omega)]; rfl

theorem words_ok {d : ApiDuty} (hd : DOk d) : dutyParseWords (tw d ++ bw d) = some (d, true) := by
  have h5 := hd.most; have h6 := hd.least
  have p2 := parsePct_int h5.1 h5.2
  have p3 := parsePct_int h6.1 h6.2
  have hM := hd.hasMost; have hL := hd.hasLeast
  unfold dutyParseWords
  rw [terms_ok hd]
  simp only [Option.bind_some]
  obtain ⟨R, A, P, hm, M, hl, L⟩ := d
  simp only at *
  unfold bw
  cases hm <;> cases hl
  · have e1 : M = 0 := by false_or_by_contra; rename_i h; exact absurd (hM h) (by simp)
    have e2 : L = 0 := by false_or_by_contra; rename_i h; exact absurd (hL h) (by simp)
    subst e1 e2
    simp
  · have e1 : M = 0 := by false_or_by_contra; rename_i h; exact absurd (hM h) (by simp)
    subst e1
    simp [dutyParseWords_j1, dutyParseBound, p3]
  · have e2 : L = 0 := by false_or_by_contra; rename_i h; exact absurd (hL h) (by simp)
    subst e2
    simp [dutyParseWords_j1, dutyParseBound, p2]
  · simp [dutyParseWords_j1, dutyParseBound, p2, p3]

theorem fmt_len {d : ApiDuty} (hd : DOk d) : (fmt d).length ≤ 200 := by
  have h1 := hd.rate; have h5 := hd.most; have h6 := hd.least
  have l1 := pct_len (u := d.Rate.toNat) (by omega)
  have l2 := pct_len (u := d.Most.toNat) (by omega)
  have l3 := pct_len (u := d.Least.toNat) (by omega)
  have l4 := amt_len hd
  have t : (terms d).length ≤ 80 := by
    unfold terms
    split
    · omega
    · split
      · omega
      · simp; omega
  have b : (bnds d).length ≤ 70 := by unfold bnds; cases d.HasMost <;> cases d.HasLeast <;> simp <;> omega
  unfold fmt
  rw [List.length_append]; omega

/-- What is written is read back. -/
theorem parse_fmt {d : ApiDuty} (hd : DOk d) : dutyParse (fmt d) = some (d, 0) := by
  have l := fmt_len hd
  unfold dutyParse splitS
  rw [if_pos ⟨by omega, by simp⟩, split_fmt]
  simp only [Option.bind_some, words_ok hd, validate_zero hd, dutyFormat_ok hd, Bool.not_true, Bool.not_false, if_true, cond_false, bne_self_eq_false]
  simp

end Go.C
