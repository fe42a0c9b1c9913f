/- Plain laws: what is written is read back. No program in sight. -/
import Derived.Test.YtinickkcieecdaaGreatDoorQf
import Derived.Lib.SplitLaws
import Derived.Lib.IndexLaws
import Derived.Lib.AtoiAllCases
set_option linter.unusedVariables false
set_option linter.unusedSimpArgs false
namespace Go.C
open Go.V
open Go.Lib (decDigits)

/-- Digits alone. -/
def IsDig (l : Str) : Prop := ∀ c, c ∈ l → 48 ≤ c.toNat ∧ c.toNat ≤ 57
def valF (acc : Nat) : Str → Nat
  | [] => acc
  | c :: r => valF (acc * 10 + (c.toNat - 48)) r

theorem valF_append (l r : Str) : ∀ acc, valF acc (l ++ r) = valF (valF acc l) r := by
  induction l with
  | nil => intro acc; rfl
  | cons c l ih => intro acc; exact ih _
theorem dg_toNat {n : Nat} (h : n < 10) : (dg n).toNat = 48 + n := by
  show (UInt8.ofNat (48 + n)).toNat = 48 + n
  rw [UInt8.toNat_ofNat']; omega
theorem isDig_dg {n : Nat} (h : n < 10) : IsDig [dg n] := fun c hc => by
  have hc' := List.mem_singleton.1 hc
  rw [hc', dg_toNat h]; omega
theorem valF_one (acc : Nat) {n : Nat} (h : n < 10) : valF acc [dg n] = acc * 10 + n := by
  show acc * 10 + ((dg n).toNat - 48) = _
  rw [dg_toNat h]; omega
theorem IsDig.append {l r : Str} (h : IsDig l) (k : IsDig r) : IsDig (l ++ r) := fun c hc => by
  rcases List.mem_append.1 hc with hc | hc
  · exact h c hc
  · exact k c hc
theorem isDig_dec (u : Nat) : IsDig (decDigits u) ∧ valF 0 (decDigits u) = u ∧ decDigits u ≠ [] := by
  induction u using Nat.strongRecOn with
  | ind u ih =>
    rcases Nat.lt_or_ge u 10 with h | h
    · have e := dec_small h
      refine ⟨e ▸ isDig_dg h, ?_, ?_⟩
      · rw [e, valF_one 0 h]; omega
      · rw [e]; exact List.cons_ne_nil _ _
    · obtain ⟨h1, h2, h3⟩ := ih (u / 10) (by omega)
      have e := dec_big (u := u) (by omega)
      refine ⟨?_, ?_, ?_⟩
      · rw [e]; exact h1.append (isDig_dg (by omega))
      · rw [e, valF_append, h2, valF_one _ (by omega)]; omega
      · rw [e]; exact fun h => by simp at h
theorem IsDig.not_mem {l : Str} (h : IsDig l) {c : UInt8} (hc : c.toNat < 48 ∨ 57 < c.toNat) : c ∉ l := fun hm => by
  have := h c hm; omega

theorem pow_le17 {acc k : Nat} (ha : acc < 10 ^ k) (hk : k ≤ 17) : acc < 100000000000000000 := by
  have h1 : (10 : Nat) ^ k ≤ 10 ^ 17 := Nat.pow_le_pow_right (by omega) hk
  have h2 : (10 : Nat) ^ 17 = 100000000000000000 := rfl
  rw [h2] at h1
  exact Nat.lt_of_lt_of_le ha h1
theorem pow_next {acc k d : Nat} (ha : acc < 10 ^ k) (hd : d ≤ 9) : acc * 10 + d < 10 ^ (k + 1) := by
  rw [Nat.pow_succ]
  generalize 10 ^ k = p at *
  omega
theorem parse_ok (l : Str) : ∀ (acc k : Nat), IsDig l → acc < 10 ^ k → l.length + k ≤ 18 → Lib.parseUint10 acc l = .ok (valF acc l) := by
  induction l with
  | nil => intro acc k _ _ _; rfl
  | cons c r ih =>
    intro acc k hd ha hl
    have hc := hd c List.mem_cons_self
    rw [List.length_cons] at hl
    have h17 := pow_le17 ha (by omega)
    have hn := pow_next ha (show c.toNat - 48 ≤ 9 by omega)
    clear ha
    unfold Lib.parseUint10 valF
    rw [if_pos hc, if_neg (by omega), if_neg (by omega)]
    exact ih _ (k + 1) (fun c hc => hd c (List.mem_cons_of_mem _ hc)) hn (by omega)
theorem valF_lt (l : Str) : ∀ (acc k : Nat), IsDig l → acc < 10 ^ k → valF acc l < 10 ^ (k + l.length) := by
  induction l with
  | nil => intro acc k _ ha; exact ha
  | cons c r ih =>
    intro acc k hd ha
    have hc := hd c List.mem_cons_self
    have := ih _ (k + 1) (fun c hc => hd c (List.mem_cons_of_mem _ hc)) (pow_next ha (show c.toNat - 48 ≤ 9 by omega))
    rw [List.length_cons, show k + (r.length + 1) = k + 1 + r.length by omega]
    exact this

theorem atoi_dig {l : Str} (hd : IsDig l) (hne : l ≠ []) (hl : l.length ≤ 18) : atoiS l = some ((valF 0 l : Int), true) := by
  have hp := parse_ok l 0 0 hd (by decide) (by omega)
  have hv := valF_lt l 0 0 hd (by decide)
  have hv2 : valF 0 l < 1000000000000000000 := Nat.lt_of_lt_of_le hv (Nat.le_trans (Nat.pow_le_pow_right (by omega) (show 0 + l.length ≤ 18 by omega)) (Nat.le_of_eq rfl))
  clear hv
  unfold atoiS
  rw [if_pos (by omega)]
  have : Lib.atoiAll l = .ok (valF 0 l : Int) := by
    cases l with
    | nil => exact absurd rfl hne
    | cons c r =>
      have hc := hd c List.mem_cons_self
      rw [Lib.atoiAll_plain c r (by omega) (by omega)]
      unfold Lib.parseMag
      rw [if_neg (by simp), hp]
      unfold Lib.signless
      simp only
      rw [if_neg (by omega)]
  rw [this]

/-! ### One byte as a separator -/

theorem index_miss {c : UInt8} : ∀ {w : Str}, c ∉ w → Lib.index w [c] = -1
  | [], _ => rfl
  | b :: w, h => by
    have hb : c ≠ b := fun e => h (by rw [e]; exact List.mem_cons_self)
    have ih := index_miss (w := w) (fun hm => h (List.mem_cons_of_mem _ hm))
    simp only [Lib.index, List.isPrefixOf, Bool.and_true, ih]
    rw [if_neg (by simpa using hb)]
    rfl
theorem index_at {c : UInt8} {r : Str} : ∀ {w : Str}, c ∉ w → Lib.index (w ++ c :: r) [c] = w.length
  | [], _ => by simp [Lib.index, List.isPrefixOf]
  | b :: w, h => by
    have hb : c ≠ b := fun e => h (by rw [e]; exact List.mem_cons_self)
    have ih := index_at (r := r) (w := w) (fun hm => h (List.mem_cons_of_mem _ hm))
    simp only [List.cons_append, Lib.index, List.isPrefixOf, Bool.and_true, ih]
    rw [if_neg (by simpa using hb), if_neg (by simp)]
    simp

theorem split_miss {c : UInt8} {w : Str} (h : c ∉ w) : Lib.split w [c] = [w] := by
  unfold Lib.split
  rw [Lib.count_one, List.count_eq_zero.2 h]
  rfl
theorem split_at {c : UInt8} {w r : Str} (h : c ∉ w) : Lib.split (w ++ c :: r) [c] = w :: Lib.split r [c] := by
  unfold Lib.split
  rw [Lib.count_one, Lib.count_one, List.count_append, List.count_eq_zero.2 h, List.count_cons_self, Nat.zero_add]
  simp only [Lib.splitK, index_at h]
  rw [if_neg (by simp)]
  simp
theorem cut_miss {c : UInt8} {w : Str} (h : c ∉ w) : Lib.cut w [c] = (w, [], false) := by
  unfold Lib.cut
  rw [index_miss h, if_neg (by omega)]
theorem cut_at {c : UInt8} {w r : Str} (h : c ∉ w) : Lib.cut (w ++ c :: r) [c] = (w, r, true) := by
  unfold Lib.cut
  rw [index_at h, if_pos (by omega)]
  simp
theorem suffix_yes (x : Str) (c : UInt8) : Lib.hasSuffix (x ++ [c]) [c] = true ∧ Lib.trimSuffix (x ++ [c]) [c] = x := by
  have h : Lib.hasSuffix (x ++ [c]) [c] = true := by
    unfold Lib.hasSuffix
    rw [List.isSuffixOf_iff_suffix]
    exact List.suffix_append _ _
  refine ⟨h, ?_⟩
  unfold Lib.trimSuffix
  rw [if_pos h]
  simp
theorem suffix_no {x : Str} {c : UInt8} (h : c ∉ x) : Lib.hasSuffix x [c] = false ∧ Lib.trimSuffix x [c] = x := by
  have h : Lib.hasSuffix x [c] = false := by
    rw [Bool.eq_false_iff]
    intro hs
    unfold Lib.hasSuffix at hs
    rw [List.isSuffixOf_iff_suffix] at hs
    obtain ⟨t, ht⟩ := hs
    exact h (by rw [← ht]; simp)
  refine ⟨h, ?_⟩
  unfold Lib.trimSuffix
  rw [if_neg (by simp [h])]

/-! ### Percentages and amounts -/

theorem frac_dig {r : Nat} (h : r < 10000) : IsDig (frac r) := by
  have a := isDig_dg (n := r / 1000) (by omega)
  have b := isDig_dg (n := r / 100 % 10) (by omega)
  have c := isDig_dg (n := r / 10 % 10) (by omega)
  have d := isDig_dg (n := r % 10) (by omega)
  unfold frac
  repeat' split
  · exact a
  · exact a.append b
  · exact (a.append b).append c
  · exact ((a.append b).append c).append d
theorem frac_pad {r : Nat} (h : r < 10000) : frac r ++ ([48, 48, 48, 48] : Str).drop (frac r).length = [dg (r / 1000), dg (r / 100 % 10), dg (r / 10 % 10), dg (r % 10)] := by
  have z : dg 0 = 48 := by decide
  unfold frac
  split
  · rename_i h1
    rw [show r / 100 % 10 = 0 by omega, show r / 10 % 10 = 0 by omega, show r % 10 = 0 by omega, z]; rfl
  · split
    · rename_i h1
      rw [show r / 10 % 10 = 0 by omega, show r % 10 = 0 by omega, z]; rfl
    · split
      · rename_i h1
        rw [h1, z]; rfl
      · rfl
theorem valF_snoc (w : Str) {n : Nat} (h : n < 10) (r : Str) : valF 0 (w ++ dg n :: r) = valF (valF 0 w * 10 + n) r := by
  rw [show w ++ dg n :: r = (w ++ [dg n]) ++ r by simp only [List.append_assoc, List.singleton_append], valF_append, valF_append, valF_one _ h]
theorem valF_cons (acc : Nat) {n : Nat} (h : n < 10) (r : Str) : valF acc (dg n :: r) = valF (acc * 10 + n) r := by
  rw [show dg n :: r = [dg n] ++ r from rfl, valF_append, valF_one _ h]
theorem four_val (w : Str) {r : Nat} (h : r < 10000) : valF 0 (w ++ [dg (r / 1000), dg (r / 100 % 10), dg (r / 10 % 10), dg (r % 10)]) = valF 0 w * 10000 + r := by
  rw [valF_snoc w (by omega), valF_cons _ (by omega), valF_cons _ (by omega), valF_cons _ (by omega)]
  show ((((valF 0 w * 10 + r / 1000) * 10 + r / 100 % 10) * 10 + r / 10 % 10) * 10 + r % 10) = _
  generalize valF 0 w = v
  omega

theorem parsePct {u : Nat} (hu : u ≤ 10000000) : dutyParsePercentage (pct u) = some ((u : Int), true) := by
  obtain ⟨d1, d2, d3⟩ := isDig_dec (u / 10000)
  have l1 : (decDigits (u / 10000)).length ≤ 4 := dec_len 3 _ (by omega)
  have l2 := frac_len (u % 10000)
  have hdot : (46 : UInt8) ∉ decDigits (u / 10000) := d1.not_mem (by decide)
  have hpl := pct_len (u := u) (by omega)
  unfold dutyParsePercentage cutSuffixS
  rw [if_pos (by omega)]
  unfold pct
  rw [(suffix_yes _ _).1, (suffix_yes _ _).2]
  simp only [Option.bind_some]
  have e4 := four_val (decDigits (u / 10000)) (r := u % 10000) (by omega)
  have h4 : IsDig [dg (u % 10000 / 1000), dg (u % 10000 / 100 % 10), dg (u % 10000 / 10 % 10), dg (u % 10000 % 10)] :=
    (((isDig_dg (by omega)).append (isDig_dg (by omega))).append (isDig_dg (by omega))).append (isDig_dg (by omega))
  rw [d2] at e4
  have hat := atoi_dig (l := decDigits (u / 10000) ++ [dg (u % 10000 / 1000), dg (u % 10000 / 100 % 10), dg (u % 10000 / 10 % 10), dg (u % 10000 % 10)]) (d1.append h4) (by simp) (by simp; omega)
  rw [e4] at hat
  have hval : (((u / 10000 * 10000 + u % 10000 : Nat)) : Int) = u := by omega
  rw [hval] at hat
  unfold cutS
  by_cases hr : u % 10000 = 0
  · rw [if_pos hr, List.append_nil, if_pos (by omega), cut_miss hdot]
    simp only [Option.bind_some]
    rw [if_neg (by simp; omega), if_pos (by simp; omega), if_pos (by simp), if_pos (by simp; omega)]
    simp only [List.append_nil, List.length_nil]
    have : ([48, 48, 48, 48] : Str).drop (((0 : Nat) : Int)).toNat = [dg (u % 10000 / 1000), dg (u % 10000 / 100 % 10), dg (u % 10000 / 10 % 10), dg (u % 10000 % 10)] := by rw [hr]; decide
    rw [this, hat]; rfl
  · rw [if_neg hr, if_pos (by simp; omega), cut_at hdot]
    simp only [Option.bind_some]
    rw [if_neg (by simp; omega), if_pos (by omega), if_pos (by simp; omega), if_pos (by simp; omega)]
    rw [Int.toNat_natCast, List.append_assoc, frac_pad (by omega), hat]; rfl

theorem mny_parts (a : Nat) : mny a = decDigits (a / 100) ++ 46 :: [dg (a / 10 % 10), dg (a % 10)] := by simp [mny]

theorem moneyParse_ok {a : Nat} (h : a ≤ 1000000000000) : moneyParse (mny a) = some ((a : Int), 0) := by
  obtain ⟨d1, d2, d3⟩ := isDig_dec (a / 100)
  have l1 : (decDigits (a / 100)).length ≤ 11 := dec_len 10 _ (by omega)
  have l0 : 1 ≤ (decDigits (a / 100)).length := by
    rcases Nat.eq_zero_or_pos (decDigits (a / 100)).length with h | h
    · exact absurd (List.eq_nil_of_length_eq_zero h) d3
    · exact h
  have hlen : (mny a).length = (decDigits (a / 100)).length + 3 := by simp [mny]
  have hw : IntKind.i64.wrap (((mny a).length : Int) - 3) = ((decDigits (a / 100)).length : Int) := by
    rw [IntWalk.i64_in _ (by omega), hlen]; omega
  have hw2 : IntKind.i64.wrap (((decDigits (a / 100)).length : Int) + 1) = (((decDigits (a / 100)).length + 1 : Nat) : Int) := by
    rw [IntWalk.i64_in _ (by omega)]; omega
  have ht : (mny a).take (decDigits (a / 100)).length = decDigits (a / 100) := by rw [mny_parts]; simp
  have hdr : (mny a).drop ((decDigits (a / 100)).length + 1) = [dg (a / 10 % 10), dg (a % 10)] := by
    rw [mny_parts, List.drop_append]; simp
  have h2 : IsDig [dg (a / 10 % 10), dg (a % 10)] := (isDig_dg (by omega)).append (isDig_dg (by omega))
  have hat := atoi_dig (l := decDigits (a / 100) ++ [dg (a / 10 % 10), dg (a % 10)]) (d1.append h2) (by simp) (by simp; omega)
  have hv : valF 0 (decDigits (a / 100) ++ [dg (a / 10 % 10), dg (a % 10)]) = a := by
    rw [valF_append, d2, valF_cons _ (by omega), valF_cons _ (by omega)]
    show (a / 100 * 10 + a / 10 % 10) * 10 + a % 10 = a
    omega
  rw [hv] at hat
  unfold moneyParse
  simp only [hw, hw2, Int.toNat_natCast, Int.toNat_zero, List.drop_zero, ht, hdr]
  rw [if_neg (by simp; omega), if_pos (by omega), if_pos (by omega), if_pos (by simp; omega), hat]
  simp only [Option.bind_some, Bool.not_true, Bool.not_false, if_true, cond_false]
  rw [moneyFormat_ok (by omega) (by omega)]
  simp

end Go.C
