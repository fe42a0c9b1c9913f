/- Plain laws of duties, for the seat of chapter 18: both parsers (Dy). No program in sight. -/
import Derived.Test.YtinickkcieecdaaGreatDoorEz
set_option linter.unusedVariables false
set_option linter.unusedSimpArgs false
namespace Go.C
open Go.V
open Go.Lib (decDigits)

abbrev zeroD : ApiDuty := ⟨0, 0, 0, false, 0, false, 0⟩

theorem trimSuffix_len (s p : Str) : (Lib.trimSuffix s p).length ≤ s.length := by
  unfold Lib.trimSuffix
  split
  · simp
  · exact Nat.le_refl _
theorem cut_len (s p : Str) : (Lib.cut s p).1.length ≤ s.length ∧ (Lib.cut s p).2.1.length ≤ s.length := by
  unfold Lib.cut
  split
  · exact ⟨by simp; omega, by simp⟩
  · exact ⟨Nat.le_refl _, by simp⟩

theorem parsePct_any {s : Str} (h : s.length ≤ 1000000) : ∃ n b, dutyParsePercentage s = some (n, b) := by
  unfold dutyParsePercentage cutSuffixS
  rw [if_pos (by omega), Option.bind_some]
  unfold cutS
  have h1 := trimSuffix_len s [37]
  dsimp only
  rw [if_pos (by omega), Option.bind_some]
  generalize Lib.cut (Lib.trimSuffix s [37]) [46] = v
  split
  · exact ⟨_, _, rfl⟩
  · rename_i hc
    have hl : v.1.length ≤ 4 ∧ v.2.1.length ≤ 4 := by
      cases hb : Lib.hasSuffix s [37] with
      | false => rw [hb] at hc; simp at hc
      | true =>
        rw [hb] at hc
        by_cases c1 : (4 : Int) < (v.1.length : Int)
        · simp [c1] at hc
        · by_cases c2 : (4 : Int) < (v.2.1.length : Int)
          · simp [c2] at hc
          · omega
    rw [if_pos (by omega), if_pos (by simp only [List.length_cons, List.length_nil]; omega), if_pos (by simp only [List.length_append, List.length_drop, List.length_cons, List.length_nil]; omega)]
    obtain ⟨n, b, e, _⟩ := atoi_any (s := (v.1 ++ v.2.1) ++ (([48, 48, 48, 48] : Str).drop (v.2.1.length : Int).toNat)) (by simp only [List.length_append, List.length_drop, List.length_cons, List.length_nil]; omega)
    rw [e]
    exact ⟨_, _, rfl⟩

theorem moneyFormat_any {n : Int} (h : okI_i64 n) : ∃ s, moneyFormat n = some s := by
  unfold okI_i64 at h
  have fin2 : ∀ (a : Int) (g c : Str), 0 ≤ a → a ≤ 1000000000000 → g.length ≤ 100 → c.length ≤ 100 → ∃ s, moneyFormat_j2 a g c = some s := fun a g c a1 a2 hg hc => by
    unfold moneyFormat_j2
    rw [IntWalk.i64_quo _ _ (by omega)]
    obtain ⟨s, e, hl⟩ := itoa_any (n := a / 100) (by unfold okI_i64; omega)
    rw [e, Option.bind_some, if_pos (by omega), if_pos (by simp; omega), if_pos (by simp; omega)]
    exact ⟨_, rfl⟩
  have fin : ∀ (a : Int) (g : Str), 0 ≤ a → a ≤ 1000000000000 → g.length ≤ 100 → ∃ s, moneyFormat_j1 a g = some s := fun a g a1 a2 hg => by
    unfold moneyFormat_j1
    rw [Int.tmod_eq_emod_of_nonneg (by omega)]
    obtain ⟨s, e, hl⟩ := itoa_any (n := a % 100) (by unfold okI_i64; omega)
    rw [e, Option.bind_some]
    split
    · rw [if_pos (by simp; omega)]; exact fin2 _ _ _ a1 a2 hg (by simp; omega)
    · exact fin2 _ _ _ a1 a2 hg (by omega)
  unfold moneyFormat
  rw [isAmount_ok, Option.bind_some]
  by_cases hc : -1000000000000 ≤ n ∧ n ≤ 1000000000000
  · rw [decide_eq_true hc, if_neg (by simp)]
    split
    · rename_i hneg
      have := of_decide_eq_true hneg
      rw [w64 (by omega)]; exact fin _ _ (by omega) (by omega) (by simp)
    · rename_i hneg
      have hneg : ¬ n < 0 := fun h => hneg (decide_eq_true h)
      exact fin _ _ (by omega) (by omega) (by simp)
  · rw [decide_eq_false hc, if_pos (by simp)]; exact ⟨_, rfl⟩
theorem moneyParse_any {s : Str} (h : s.length ≤ 1000000) : ∃ n e, moneyParse s = some (n, e) := by
  unfold moneyParse
  rw [w64 (n := (s.length : Int) - 3) (by omega)]
  split
  · exact ⟨_, _, rfl⟩
  · rename_i hc
    have hl : 1 ≤ (s.length : Int) - 3 := by
      by_cases c : (s.length : Int) - 3 < 1
      · simp [c] at hc
      · omega
    rw [w64 (n := (s.length : Int) - 3 + 1) (by omega), if_pos (by omega), if_pos (by omega), if_pos (by simp only [List.length_drop, List.length_take]; omega)]
    obtain ⟨n, b, e, hn⟩ := atoi_any (s := ((s.take ((s.length : Int) - 3).toNat).drop (0 : Int).toNat) ++ (s.drop ((s.length : Int) - 3 + 1).toNat)) (by simp only [List.length_append, List.length_drop, List.length_take]; omega)
    rw [e, Option.bind_some]
    cases b with
    | false => exact ⟨_, _, rfl⟩
    | true =>
      obtain ⟨t, et⟩ := moneyFormat_any hn
      simp only [Bool.not_true, Bool.not_false, if_true, et, Option.bind_some, cond_false]
      split <;> exact ⟨_, _, rfl⟩

/-- Words within bounds. -/
def WB (l : List Str) : Prop := ∀ x, x ∈ l → x.length ≤ 1000000
theorem WB.drop {l : List Str} (h : WB l) (n : Nat) : WB (l.drop n) := fun x hx => h x (List.mem_of_mem_drop hx)
theorem terms1_any (d : ApiDuty) {ws : List Str} (h : WB ws) (hn : ws ≠ []) (c : Int) : ∃ r b d', dutyParseTerms_j1 d ws c = some (r, b, d') ∧ WB r := by
  unfold dutyParseTerms_j1
  cases ws with
  | nil => exact absurd rfl hn
  | cons w ws =>
    have hw := h w List.mem_cons_self
    rw [List.getElem?_cons_zero, Option.bind_some]
    unfold cutS
    rw [if_pos (by omega), Option.bind_some]
    have hc := cut_len w [47]
    obtain ⟨n, e, e1⟩ := moneyParse_any (s := (Lib.cut w [47]).1) (by omega)
    obtain ⟨m, b, e2, _⟩ := atoi_any (s := (Lib.cut w [47]).2.1) (by omega)
    rw [e1, Option.bind_some, e2, Option.bind_some, if_pos (by simp only [List.length_cons]; omega)]
    exact ⟨_, _, _, rfl, h.drop _⟩
theorem terms_any (d : ApiDuty) {ws : List Str} (h : WB ws) (hn : ws ≠ []) : ∃ r b d', dutyParseTerms d ws = some (r, b, d') ∧ WB r := by
  unfold dutyParseTerms
  cases ws with
  | nil => exact absurd rfl hn
  | cons w ws =>
    have hw := h w List.mem_cons_self
    rw [List.getElem?_cons_zero, Option.bind_some]
    obtain ⟨n, b, e⟩ := parsePct_any hw
    rw [e, Option.bind_some]
    cases b with
    | false => exact terms1_any d h hn _
    | true =>
      rw [if_pos rfl, if_pos (fun hh => by
        have : ¬ (((w :: ws).length : Int) < 3) := by simpa using hh
        omega)]
      split
      · rw [if_pos (by simp only [List.length_cons]; omega)]
        exact ⟨_, _, _, rfl, h.drop _⟩
      · rename_i hc
        have h3 : ¬ (((w :: ws).length : Int) < 3) := fun hlt => by rw [decide_eq_true hlt] at hc; simp at hc
        rw [if_pos (by omega)]
        refine terms1_any d (h.drop _) (fun he => ?_) _
        have := congrArg List.length he
        simp only [List.length_drop, List.length_nil, List.length_cons] at this h3; omega
theorem bound_any (d : ApiDuty) {a b : Str} (h : b.length ≤ 1000000) : ∃ q d', dutyParseBound d a b = some (q, d') := by
  unfold dutyParseBound dutyParseBound_j1
  obtain ⟨n, c, e⟩ := parsePct_any h
  rw [e, Option.bind_some]
  split
  · exact ⟨_, _, rfl⟩
  · split <;> exact ⟨_, _, rfl⟩
theorem words2_any {ws : List Str} (h : WB ws) (hl : ws.length = 2) (ok : Bool) (a b c : Int) (e : Bool) (f : Int) (g : Bool) (i : Int) : ∃ d q, dutyParseWords_j2 ws ok a b c e f g i = some (d, q) := by
  unfold dutyParseWords_j2 dutyParseWords_j1
  match ws, hl, h with
  | [x, y], _, h =>
    rw [List.getElem?_cons_zero, Option.bind_some, List.getElem?_cons_succ, List.getElem?_cons_zero, Option.bind_some]
    obtain ⟨q, d', e2⟩ := bound_any (⟨a, b, c, e, f, g, i⟩ : ApiDuty) (a := x) (b := y) (h y (by simp))
    rw [e2]
    exact ⟨_, _, rfl⟩
theorem words_any {ws : List Str} (h : WB ws) (hn : ws ≠ []) : ∃ d q, dutyParseWords ws = some (d, q) := by
  unfold dutyParseWords
  obtain ⟨r, b, d', e, hr⟩ := terms_any (⟨0, 0, 0, false, 0, false, 0⟩ : ApiDuty) h hn
  rw [e, Option.bind_some]
  dsimp only
  by_cases h4 : r.length = 4
  · rw [if_pos (by rw [beq_iff_eq]; omega)]
    match r, h4, hr with
    | [x, y, z, w], _, hr =>
      rw [List.getElem?_cons_zero, Option.bind_some, List.getElem?_cons_succ, List.getElem?_cons_zero, Option.bind_some]
      obtain ⟨q, d2, e2⟩ := bound_any d' (a := x) (b := y) (hr y (by simp))
      rw [e2, Option.bind_some, if_pos (by simp)]
      exact words2_any (hr.drop _) rfl _ _ _ _ _ _ _ _
  · rw [if_neg (by rw [beq_iff_eq]; omega)]
    by_cases h2 : r.length = 2
    · rw [if_pos (by rw [beq_iff_eq]; omega)]
      exact words2_any hr h2 _ _ _ _ _ _ _ _
    · rw [if_neg (by rw [beq_iff_eq]; omega)]
      unfold dutyParseWords_j1
      split <;> exact ⟨_, _, rfl⟩

/-- At any text: what is read is written so, or nothing is. -/
theorem dutyParse_any {s : Str} (h : s.length ≤ 1000000) : (∃ d, DOk d ∧ fmt d = s ∧ dutyParse s = some (d, 0)) ∨ ((∀ d, DOk d → fmt d ≠ s) ∧ dutyParse s = some (zeroD, 4)) := by
  by_cases hd : ∃ d, DOk d ∧ fmt d = s
  · obtain ⟨d, h1, rfl⟩ := hd
    exact .inl ⟨d, h1, rfl, parse_fmt h1⟩
  · right
    refine ⟨fun d h1 h2 => hd ⟨d, h1, h2⟩, ?_⟩
    unfold dutyParse
    rw [splitS_eq (by omega), Option.bind_some]
    have hsl := spl_len 32 s
    obtain ⟨d, q, e⟩ := words_any (ws := spl 32 s) (fun x hx => by have := (hsl.2.1 x hx).1; omega) (spl_ne _ _)
    rw [e, Option.bind_some]
    dsimp only
    cases q with
    | false => rfl
    | true =>
      obtain ⟨ev, e1, _⟩ := validate_some d
      simp only [Bool.not_true, Bool.not_false, if_true, e1, Option.bind_some, cond_false]
      by_cases h0 : ev = 0
      · subst h0
        have hok := validate_dok e1
        rw [if_pos (by simp), dutyFormat_ok hok, Option.bind_some]
        have : (fmt d == s) = false := by
          rw [beq_eq_false_iff_ne]; exact fun h2 => hd ⟨d, hok, h2⟩
        rw [this]; rfl
      · have e3 : (ev != (0 : Int)) = true := by simpa using h0
        rw [e3]; rfl

end Go.C

namespace Go.C
open Go.V
open Go.Lib (decDigits)

/-! ### Percentages -/
def shF (b : Bool × Int × Int) (c : UInt8) : Bool × Int × Int :=
  if c = 46 then (true, b.2.1, b.2.2) else if 48 ≤ c.toNat ∧ c.toNat ≤ 57 then
    (if b.1 = false then (b.1, b.2.1, IntKind.i64.wrap (IntKind.i64.wrap ((10 : Int) * b.2.2) + IntKind.i64.wrap ((10000 : Int) * IntKind.i64.wrap (IntKind.u8.wrap ((c.toNat : Int) - 48)))))
     else (b.1, IntKind.i64.wrap (b.2.1.tdiv (10 : Int)), IntKind.i64.wrap (b.2.2 + IntKind.i64.wrap (IntKind.i64.wrap (b.2.1.tdiv (10 : Int)) * IntKind.i64.wrap (IntKind.u8.wrap ((c.toNat : Int) - 48)))))) else b
theorem refShare_eq {s : Str} (h : s.length ≤ 9223372036854775807) : refShare s = some (((s.take 12).foldl shF (false, 10000, 0)).2.2) := by
  unfold refShare refShare_j1
  have hl := loop_fold (s.take 12) (refShare_b1 s) (fun i (b : Bool × Int × Int) => ((i : Int), b.1, b.2.1, b.2.2)) shF (fun b => b.2.2) (fun _ _ => True) (fun _ _ _ _ _ => trivial)
    (fun i x b _ hx => by
      have hlt := lt_of_get hx
      rw [List.length_take] at hlt
      have hx2 : s[i]? = some x := by rw [List.getElem?_take, if_pos (by omega)] at hx; exact hx
      unfold refShare_b1 refShare_j2
      dsimp only
      have hc : (bif (decide ((i : Int) < (s.length : Int))) then (decide ((i : Int) < (12 : Int))) else false) = true := by
        rw [decide_eq_true (show (i : Int) < (s.length : Int) by omega), cond_true]; exact decide_eq_true (by omega)
      rw [if_pos hc, if_pos (by omega), Int.toNat_natCast, getD_of hx2, w64 (n := (i : Int) + 1) (by omega)]
      unfold shF
      by_cases h46 : x = 46
      · rw [if_pos (by subst h46; rfl), if_pos h46]; rfl
      · have h46' : ¬ x.toNat = 46 := fun h => h46 (UInt8.toNat_inj.1 h)
        rw [if_neg (by rw [beq_iff_eq]; omega), if_neg h46, if_pos (by omega), if_pos (fun _ => by omega)]
        by_cases hd : 48 ≤ x.toNat ∧ x.toNat ≤ 57
        · rw [if_pos hd]
          have e1 : decide ((48 : Int) ≤ (x.toNat : Int)) = true := decide_eq_true (by omega)
          have e2 : decide ((x.toNat : Int) ≤ (57 : Int)) = true := decide_eq_true (by omega)
          rw [e1, e2, cond_true, cond_true]
          cases b.1 with
          | false => simp only [Bool.not_false, if_true]; rw [if_pos (by omega)]; rfl
          | true =>
            simp only [Bool.not_true, Bool.false_eq_true, if_false, cond_true, if_true, reduceCtorEq]
            rw [if_pos (by omega), if_pos (fun _ => by omega), if_pos (by omega)]; rfl
        · rw [if_neg hd]
          have e : (bif (decide ((48 : Int) ≤ (x.toNat : Int))) then (decide ((x.toNat : Int) ≤ (57 : Int))) else false) = false := by
            by_cases c1 : (48 : Int) ≤ (x.toNat : Int)
            · rw [decide_eq_true c1, cond_true]; exact decide_eq_false (by omega)
            · rw [decide_eq_false c1]; rfl
          rw [e, cond_false, if_neg (by simp), if_pos (by omega), if_pos (fun _ => by omega), if_neg (by simp)]; rfl)
    (fun b _ => by
      unfold refShare_b1
      dsimp only
      rw [if_neg]
      rw [List.length_take]
      by_cases c1 : s.length ≤ 12
      · rw [decide_eq_false (show ¬ ((min 12 s.length : Nat) : Int) < (s.length : Int) by omega)]; simp
      · rw [decide_eq_false (show ¬ ((min 12 s.length : Nat) : Int) < 12 by omega)]; cases decide (((min 12 s.length : Nat) : Int) < (s.length : Int)) <;> simp) (false, 10000, 0) trivial
  rw [show ((0 : Int) = ((0 : Nat) : Int)) from rfl] 
  have hl' : loopO (refShare_b1 s) (((0 : Nat) : Int), false, (10000 : Int), ((0 : Nat) : Int)) = _ := hl
  rw [hl']
  rfl
theorem valF_ge (w : Str) : ∀ k, k ≤ valF k w := by
  induction w with
  | nil => intro k; exact Nat.le_refl _
  | cons c w ih => intro k; exact Nat.le_trans (by omega) (ih _)
theorem shF_dig (w : Str) : ∀ (k : Nat) (pl : Int), IsDig w → valF k w ≤ 1000000 → w.foldl shF (false, pl, 10000 * (k : Int)) = (false, pl, 10000 * (valF k w : Int)) := by
  induction w with
  | nil => intro k pl _ _; rfl
  | cons c w ih =>
    intro k pl hd hv
    have hc := hd c List.mem_cons_self
    have hge := valF_ge w (k * 10 + (c.toNat - 48))
    have hv' : valF (k * 10 + (c.toNat - 48)) w ≤ 1000000 := hv
    rw [List.foldl_cons]
    have e : shF (false, pl, 10000 * (k : Int)) c = (false, pl, 10000 * ((k * 10 + (c.toNat - 48) : Nat) : Int)) := by
      unfold shF
      have h46 : ¬ c = 46 := fun h => by subst h; simp at hc
      rw [if_neg h46, if_pos hc, if_pos rfl]
      simp only
      rw [IntWalk.u8_in _ (by omega), w64 (n := (c.toNat : Int) - 48) (by omega), w64 (n := 10000 * ((c.toNat : Int) - 48)) (by omega), w64 (n := 10 * (10000 * (k : Int))) (by omega), w64 (by omega)]
      congr 2; omega
    rw [e]
    exact ih _ pl (fun c hc => hd c (List.mem_cons_of_mem _ hc)) hv'
theorem shF_point (pl n : Int) : shF (false, pl, n) 46 = (true, pl, n) := rfl
theorem shF_frac {pl n : Int} {d : Nat} (hd : d < 10) (hp : 0 ≤ pl) (hp2 : pl ≤ 10000) (hn : 0 ≤ n) (hn2 : n ≤ 100000000) : shF (true, pl, n) (dg d) = (true, pl / 10, n + pl / 10 * (d : Int)) := by
  unfold shF
  have ht := dg_toNat hd
  have h46 : ¬ dg d = 46 := fun h => by rw [h] at ht; simp at ht; omega
  have hm : 0 ≤ pl / 10 * (d : Int) ∧ pl / 10 * (d : Int) ≤ 10000 := by
    have : d = 0 ∨ d = 1 ∨ d = 2 ∨ d = 3 ∨ d = 4 ∨ d = 5 ∨ d = 6 ∨ d = 7 ∨ d = 8 ∨ d = 9 := by omega
    rcases this with rfl | rfl | rfl | rfl | rfl | rfl | rfl | rfl | rfl | rfl <;> constructor <;> simp <;> omega
  rw [if_neg h46, if_pos (by omega), if_neg (by simp)]
  simp only
  rw [IntWalk.i64_quo _ _ (by omega), IntWalk.u8_in _ (by omega), w64 (n := ((dg d).toNat : Int) - 48) (by omega), show ((dg d).toNat : Int) - 48 = (d : Int) by omega, w64 (n := pl / 10 * (d : Int)) (by omega), w64 (by omega)]
theorem frac_fold {r : Nat} (hr0 : 0 < r) (hr : r < 10000) {n : Int} (hn : 0 ≤ n) (hn2 : n ≤ 10000000) : ((frac r).foldl shF (true, 10000, n)).2.2 = n + (r : Int) ∧ ((frac r).foldl shF (true, 10000, n)).1 = true := by
  have s1 := shF_frac (pl := 10000) (n := n) (d := r / 1000) (by omega) (by omega) (by omega) hn (by omega)
  have s2 := shF_frac (pl := 1000) (n := n + 1000 * ((r / 1000 : Nat) : Int)) (d := r / 100 % 10) (by omega) (by omega) (by omega) (by omega) (by omega)
  have s3 := shF_frac (pl := 100) (n := n + 1000 * ((r / 1000 : Nat) : Int) + 100 * ((r / 100 % 10 : Nat) : Int)) (d := r / 10 % 10) (by omega) (by omega) (by omega) (by omega) (by omega)
  have s4 := shF_frac (pl := 10) (n := n + 1000 * ((r / 1000 : Nat) : Int) + 100 * ((r / 100 % 10 : Nat) : Int) + 10 * ((r / 10 % 10 : Nat) : Int)) (d := r % 10) (by omega) (by omega) (by omega) (by omega) (by omega)
  rw [show (10000 : Int) / 10 = 1000 from rfl] at s1
  rw [show (1000 : Int) / 10 = 100 from rfl] at s2
  rw [show (100 : Int) / 10 = 10 from rfl] at s3
  rw [show (10 : Int) / 10 = 1 from rfl] at s4
  unfold frac
  split
  · simp only [List.foldl_cons, List.foldl_nil, s1]; exact ⟨by omega, trivial⟩
  · split
    · simp only [List.foldl_cons, List.foldl_nil, s1, s2]; exact ⟨by omega, trivial⟩
    · split
      · simp only [List.foldl_cons, List.foldl_nil, s1, s2, s3]; exact ⟨by omega, trivial⟩
      · simp only [List.foldl_cons, List.foldl_nil, s1, s2, s3, s4]; exact ⟨by omega, trivial⟩
theorem dec_short {u : Nat} (h : u ≤ 1000) : (decDigits u).length ≤ 4 := dec_len 3 u (by omega)
theorem refShare_pct {n : Int} (h : 0 ≤ n) (h2 : n ≤ 10000000) : refShare (pct n.toNat) = some n := by
  obtain ⟨u, rfl⟩ := Int.eq_ofNat_of_zero_le h
  rw [Int.toNat_natCast]
  obtain ⟨d1, d2, d3⟩ := isDig_dec (u / 10000)
  have l1 := dec_short (u := u / 10000) (by omega)
  have l2 := frac_len (u % 10000)
  have hlen : (pct u).length ≤ 10 := by
    unfold pct
    split <;> simp <;> omega
  rw [refShare_eq (by omega), List.take_of_length_le (by omega)]
  unfold pct
  have a := shF_dig (decDigits (u / 10000)) 0 10000 d1 (by rw [d2]; omega)
  rw [d2] at a
  have a' : (decDigits (u / 10000)).foldl shF (false, 10000, 0) = (false, 10000, 10000 * ((u / 10000 : Nat) : Int)) := a
  have hp : ∀ b : Bool × Int × Int, shF b 37 = b := fun b => by unfold shF; rw [if_neg (by decide), if_neg (by decide)]
  rw [List.foldl_append, List.foldl_append, a', List.foldl_cons, List.foldl_nil, hp]
  split
  · rename_i h0
    rw [List.foldl_nil]
    simp only
    congr 1; omega
  · rename_i h0
    rw [List.foldl_cons, shF_point]
    have f := (frac_fold (r := u % 10000) (by omega) (by omega) (n := 10000 * ((u / 10000 : Nat) : Int)) (by omega) (by omega)).1
    rw [f]
    congr 1; omega
theorem refShare_any {s : Str} (h : s.length ≤ 1000000) : ∃ n, refShare s = some n := ⟨_, refShare_eq (by omega)⟩

/-! ### Amounts -/
def paF (b : Int × Int) (c : UInt8) : Int × Int :=
  if c = 45 then (-1, b.2) else if 48 ≤ c.toNat ∧ c.toNat ≤ 57 ∧ b.2 ≤ 1000000000000 then (b.1, IntKind.i64.wrap (IntKind.i64.wrap ((10 : Int) * b.2) + IntKind.i64.wrap (IntKind.u8.wrap ((c.toNat : Int) - 48)))) else b
theorem r02Parse_loop {s : Str} (h : s.length ≤ 9223372036854775807) : loopO (r02Parse_b1 s) ((0 : Int), (1 : Int), (0 : Int)) = some (((s.take 20).foldl paF (1, 0))) := by
  have hl := loop_fold (s.take 20) (r02Parse_b1 s) (fun i (b : Int × Int) => ((i : Int), b.1, b.2)) paF (fun b => b) (fun _ _ => True) (fun _ _ _ _ _ => trivial)
    (fun i x b _ hx => by
      have hlt := lt_of_get hx
      rw [List.length_take] at hlt
      have hx2 : s[i]? = some x := by rw [List.getElem?_take, if_pos (by omega)] at hx; exact hx
      unfold r02Parse_b1 r02Parse_j2
      dsimp only
      have hc : (bif (decide ((i : Int) < (s.length : Int))) then (decide ((i : Int) < (20 : Int))) else false) = true := by
        rw [decide_eq_true (show (i : Int) < (s.length : Int) by omega), cond_true]; exact decide_eq_true (by omega)
      rw [if_pos hc, if_pos (by omega), Int.toNat_natCast, getD_of hx2, w64 (n := (i : Int) + 1) (by omega)]
      unfold paF
      by_cases h45 : x = 45
      · rw [if_pos (by subst h45; rfl), if_pos h45]; rfl
      · have h45' : ¬ x.toNat = 45 := fun h => h45 (UInt8.toNat_inj.1 h)
        rw [if_neg (by rw [beq_iff_eq]; omega), if_neg h45, if_pos (by omega), if_pos (fun _ => by omega)]
        by_cases hd : 48 ≤ x.toNat ∧ x.toNat ≤ 57 ∧ b.2 ≤ 1000000000000
        · rw [if_pos hd, if_pos ?_, if_pos (by omega)]; rfl
          rw [decide_eq_true (show (48 : Int) ≤ (x.toNat : Int) by omega), cond_true, decide_eq_true (show (x.toNat : Int) ≤ (57 : Int) by omega), cond_true]
          exact decide_eq_true hd.2.2
        · rw [if_neg hd, if_neg ?_]; rfl
          intro hh
          apply hd
          by_cases c1 : (48 : Int) ≤ (x.toNat : Int)
          · by_cases c2 : (x.toNat : Int) ≤ 57
            · rw [decide_eq_true c1, cond_true, decide_eq_true c2, cond_true] at hh
              exact ⟨by omega, by omega, of_decide_eq_true hh⟩
            · rw [decide_eq_true c1, cond_true, decide_eq_false c2] at hh; cases hh
          · rw [decide_eq_false c1] at hh; cases hh)
    (fun b _ => by
      unfold r02Parse_b1
      dsimp only
      rw [if_neg]
      rw [List.length_take]
      by_cases c1 : s.length ≤ 20
      · rw [decide_eq_false (show ¬ ((min 20 s.length : Nat) : Int) < (s.length : Int) by omega)]; simp
      · rw [decide_eq_false (show ¬ ((min 20 s.length : Nat) : Int) < 20 by omega)]; cases decide (((min 20 s.length : Nat) : Int) < (s.length : Int)) <;> simp) (1, 0) trivial
  exact hl
theorem paF_bound (w : Str) : ∀ b : Int × Int, (b.1 = 1 ∨ b.1 = -1) → 0 ≤ b.2 → b.2 ≤ 10000000000010 → ((w.foldl paF b).1 = 1 ∨ (w.foldl paF b).1 = -1) ∧ 0 ≤ (w.foldl paF b).2 ∧ (w.foldl paF b).2 ≤ 10000000000010 := by
  induction w with
  | nil => intro b h1 h2 h3; exact ⟨h1, h2, h3⟩
  | cons c w ih =>
    intro b h1 h2 h3
    rw [List.foldl_cons]
    have : ((paF b c).1 = 1 ∨ (paF b c).1 = -1) ∧ 0 ≤ (paF b c).2 ∧ (paF b c).2 ≤ 10000000000010 := by
      unfold paF
      split
      · exact ⟨.inr rfl, h2, h3⟩
      · split
        · rename_i hc
          refine ⟨h1, ?_⟩
          simp only
          rw [IntWalk.u8_in _ (by omega), w64 (n := (c.toNat : Int) - 48) (by omega), w64 (n := 10 * b.2) (by omega), w64 (by omega)]
          omega
        · exact ⟨h1, h2, h3⟩
    exact ih _ this.1 this.2.1 this.2.2
theorem paF_dig (w : Str) : ∀ k : Nat, IsDig w → valF k w ≤ 1000000000000 → w.foldl paF (1, (k : Int)) = (1, (valF k w : Int)) := by
  induction w with
  | nil => intro k _ _; rfl
  | cons c w ih =>
    intro k hd hv
    have hc := hd c List.mem_cons_self
    have hge := valF_ge w (k * 10 + (c.toNat - 48))
    have hv' : valF (k * 10 + (c.toNat - 48)) w ≤ 1000000000000 := hv
    rw [List.foldl_cons]
    have e : paF (1, (k : Int)) c = (1, ((k * 10 + (c.toNat - 48) : Nat) : Int)) := by
      unfold paF
      have h45 : ¬ c = 45 := fun h => by subst h; simp at hc
      rw [if_neg h45, if_pos ⟨hc.1, hc.2, by simp only; omega⟩]
      simp only
      rw [IntWalk.u8_in _ (by omega), w64 (n := (c.toNat : Int) - 48) (by omega), w64 (n := 10 * (k : Int)) (by omega), w64 (by omega)]
      congr 1; omega
    rw [e]
    exact ih _ (fun c hc => hd c (List.mem_cons_of_mem _ hc)) hv'
theorem r02Parse_mny {a : Nat} (h : a ≤ 1000000000) : r02Parse (mny a) = some ((a : Int), 0) := by
  obtain ⟨d1, d2, d3⟩ := isDig_dec (a / 100)
  have l1 := dec_len 7 (a / 100) (by omega)
  have hl : (mny a).length ≤ 12 := by unfold mny; simp; omega
  unfold r02Parse
  rw [r02Parse_loop (by omega), List.take_of_length_le (by omega), mny_parts, List.foldl_append]
  have e1 := paF_dig (decDigits (a / 100)) 0 d1 (by rw [d2]; omega)
  rw [d2] at e1
  have e1' : (decDigits (a / 100)).foldl paF (1, 0) = (1, ((a / 100 : Nat) : Int)) := e1
  rw [e1', List.foldl_cons]
  have e2 : paF (1, ((a / 100 : Nat) : Int)) 46 = (1, ((a / 100 : Nat) : Int)) := by
    unfold paF; rw [if_neg (by decide), if_neg (fun h => absurd h.1 (by decide))]
  have e3 := paF_dig [dg (a / 10 % 10), dg (a % 10)] (a / 100) (fun c hc => by
    simp only [List.mem_cons, List.not_mem_nil, or_false] at hc
    rcases hc with rfl | rfl
    · rw [dg_toNat (by omega)]; omega
    · rw [dg_toNat (by omega)]; omega) (by rw [valF_cons _ (by omega), valF_one _ (by omega)]; omega)
  rw [valF_cons _ (by omega), valF_one _ (by omega)] at e3
  rw [e2, e3, Option.bind_some]
  have hval : ((a / 100 * 10 + a / 10 % 10) * 10 + a % 10 : Nat) = a := by omega
  rw [hval]
  show r02Parse_j1 (decDigits (a / 100) ++ [46, dg (a / 10 % 10), dg (a % 10)]) 1 (a : Int) = _
  rw [← mny_parts]
  unfold r02Parse_j1
  have hne : (mny a == ([] : Str)) = false := by
    rw [beq_eq_false_iff_ne]; unfold mny; simp
  rw [hne, w64 (n := 1 * (a : Int)) (by omega), Int.one_mul]
  simp only [Bool.not_false, if_true, cond_false]
  rw [r02Format_ok (by omega) (by omega), Option.bind_some, Int.toNat_natCast, if_neg (by simp)]
theorem r02Format_any {n : Int} (h : -100000000000000 ≤ n ∧ n ≤ 100000000000000) : ∃ s, r02Format n = some s := by
  by_cases h1 : 0 ≤ n ∧ n ≤ 1000000000000
  · exact ⟨_, r02Format_ok h1.1 h1.2⟩
  unfold r02Format
  show ∃ s, r02Format_F (r02Format_n 1) n = some s
  unfold r02Format_F r02Amount
  rw [Option.bind_some]
  by_cases h2 : -1000000000000 ≤ n ∧ n ≤ 1000000000000
  · rw [decide_eq_true h2.1, decide_eq_true h2.2, if_neg (by simp), if_pos (decide_eq_true (by omega)), w64 (by omega)]
    have hn : ∃ s, r02Format_n 1 (0 - n) = some s ∧ s.length ≤ 100 := by
      show ∃ s, r02Format_F (r02Format_n 0) (0 - n) = some s ∧ s.length ≤ 100
      obtain ⟨a, ha⟩ := Int.eq_ofNat_of_zero_le (show 0 ≤ 0 - n by omega)
      rw [ha]
      have l1 := dec_len19 (u := a / 100) (by omega)
      unfold r02Format_F r02Amount
      simp only [Option.bind_some]
      rw [if_neg (by simp; omega), if_neg (by simp), IntWalk.i64_quo (a : Int) 100 (by omega), IntWalk.i64_quo (a : Int) 10 (by omega), Int.tmod_eq_emod_of_nonneg (by omega), Int.tmod_eq_emod_of_nonneg (by omega), digits_ok (by omega) (by omega), digits_ok (by omega) (by omega), digits_ok (by omega) (by omega)]
      simp only [Option.bind_some]
      rw [show ((a : Int) / 100).toNat = a / 100 by omega, show ((a : Int) / 10 % 10).toNat = a / 10 % 10 by omega, show ((a : Int) % 10).toNat = a % 10 by omega, dec_small (u := a / 10 % 10) (by omega), dec_small (u := a % 10) (by omega)]
      rw [if_pos (by simp; omega), if_pos (by simp; omega), if_pos (by simp; omega)]
      exact ⟨_, rfl, by simp; omega⟩
    obtain ⟨s, e, hs⟩ := hn
    rw [e, Option.bind_some, if_pos (by simp; omega)]
    exact ⟨_, rfl⟩
  · refine ⟨[], ?_⟩
    rw [if_pos]
    by_cases c1 : -1000000000000 ≤ n
    · rw [decide_eq_true c1, decide_eq_false (by omega)]; rfl
    · rw [decide_eq_false c1]; rfl
theorem r02Parse_any {s : Str} (h : s.length ≤ 1000000) : ∃ n e, r02Parse s = some (n, e) := by
  unfold r02Parse
  rw [r02Parse_loop (by omega), Option.bind_some]
  obtain ⟨b1, b2, b3⟩ := paF_bound (s.take 20) (1, 0) (.inl rfl) (by simp) (by simp)
  generalize (s.take 20).foldl paF (1, 0) = b at b1 b2 b3
  show ∃ n e, r02Parse_j1 s b.1 b.2 = some (n, e)
  unfold r02Parse_j1
  have hw : -100000000000000 ≤ IntKind.i64.wrap (b.1 * b.2) ∧ IntKind.i64.wrap (b.1 * b.2) ≤ 100000000000000 := by
    rcases b1 with h1 | h1 <;> rw [h1]
    · rw [w64 (by omega)]; omega
    · rw [w64 (by omega)]; omega
  obtain ⟨t, et⟩ := r02Format_any hw
  cases (s == ([] : Str)) with
  | true => exact ⟨_, _, rfl⟩
  | false =>
    simp only [Bool.not_false, if_true, et, Option.bind_some, cond_false]
    split <;> exact ⟨_, _, rfl⟩

end Go.C

namespace Go.C
open Go.V
open Go.Lib (decDigits)

/-- The state of the reference's loop. -/
def rst (i : Int) (d : ApiDuty) : Int × Int × Int × Int × Bool × Int × Bool × Int := (i, d.Rate, d.Amount, d.Per, d.HasMost, d.Most, d.HasLeast, d.Least)
def ren1 (d : ApiDuty) : Int × Int × Int × Bool × Int × Bool × Int := (d.Rate, d.Amount, d.Per, d.HasMost, d.Most, d.HasLeast, d.Least)

theorem rstep_amt {s : Str} {v : List Str} {i : Nat} {x a p : Str} {n m : Int} {d : ApiDuty} (hl : v.length ≤ 1000000) (hx : v[i]? = some x) (hs : r08Split x 47 = some [a, p]) (ha : r02Parse a = some (n, 0)) (hp : r08Num p = some m) :
    refParseDuty_b1 s v (rst (i : Int) d) = some (.inl (rst ((i + 1 : Nat) : Int) ⟨d.Rate, n, m, d.HasMost, d.Most, d.HasLeast, d.Least⟩)) := by
  have hlt := lt_of_get hx
  unfold refParseDuty_b1 refParseDuty_j2 rst
  dsimp only
  rw [if_pos (decide_eq_true (by omega)), if_pos (by omega), Int.toNat_natCast, hx, Option.bind_some, hs, Option.bind_some, if_pos (by rfl), w64 (by omega)]
  simp only [List.getElem?_cons_zero, List.getElem?_cons_succ, Option.bind_some, ha, hp]
  rfl
theorem rstep_one {s : Str} {v : List Str} {i : Nat} {x : Str} {d : ApiDuty} (hl : v.length ≤ 1000000) (hx : v[i]? = some x) (h47 : (47 : UInt8) ∉ x) (hxl : x.length ≤ 1000000) :
    refParseDuty_b1 s v (rst (i : Int) d) =
      (if (bif (x == ([109, 97, 120] : Str)) then (decide (((i + 1 : Nat) : Int) < (v.length : Int))) else false) = true then
        (v[i + 1]?).bind fun y => (refShare y).bind fun q => some (.inl (rst ((i + 2 : Nat) : Int) ⟨d.Rate, d.Amount, d.Per, true, q, d.HasLeast, d.Least⟩))
       else if (bif (x == ([109, 105, 110] : Str)) then (decide (((i + 1 : Nat) : Int) < (v.length : Int))) else false) = true then
        (v[i + 1]?).bind fun y => (refShare y).bind fun q => some (.inl (rst ((i + 2 : Nat) : Int) ⟨d.Rate, d.Amount, d.Per, d.HasMost, d.Most, true, q⟩))
       else if i = 0 then (refShare x).bind fun q => some (.inl (rst ((i + 1 : Nat) : Int) ⟨q, d.Amount, d.Per, d.HasMost, d.Most, d.HasLeast, d.Least⟩))
       else some (.inl (rst ((i + 1 : Nat) : Int) d))) := by
  have hlt := lt_of_get hx
  have hsp := r08Split_eq (47 : UInt8) (s := x) (by omega)
  rw [show (((47 : UInt8).toNat : Nat) : Int) = (47 : Int) from rfl, spl_miss h47] at hsp
  unfold refParseDuty_b1 refParseDuty_j2 rst
  dsimp only
  rw [if_pos (decide_eq_true (by omega)), if_pos (by omega), Int.toNat_natCast, hx, Option.bind_some, hsp, Option.bind_some, if_neg (by simp), Option.bind_some]
  rw [w64 (n := (i : Int) + 1) (by omega)]
  have e1 : (i : Int) + 1 = ((i + 1 : Nat) : Int) := by omega
  rw [e1]
  rw [Int.toNat_natCast, if_pos (show (0 : Int) ≤ ((i + 1 : Nat) : Int) by omega), if_pos (show (0 : Int) ≤ ((i + 1 : Nat) : Int) by omega), if_pos (show (0 : Int) ≤ (i : Int) by omega), Option.bind_some]
  have e2 : IntKind.i64.wrap (((i + 1 : Nat) : Int) + 1) = ((i + 2 : Nat) : Int) := by rw [w64 (by omega)]; omega
  rw [e2]
  split
  · rfl
  · rw [if_pos (show (0 : Int) ≤ (i : Int) by omega), Option.bind_some]
    split
    · rfl
    · by_cases h0 : i = 0
      · subst h0; rw [if_pos (show (((0 : Nat) : Int) == (0 : Int)) = true by rfl), if_pos (show (0 : Int) ≤ ((0 : Nat) : Int) by omega), if_pos rfl]
      · rw [if_neg (by rw [beq_iff_eq]; omega), if_neg h0]

theorem pct_no47 (u : Nat) : (47 : UInt8) ∉ pct u := pct_no (.inl (by decide)) (by decide) (by decide)
theorem rstep_rate {s : Str} {v : List Str} {n : Int} {d : ApiDuty} (hl : v.length ≤ 1000000) (hx : v[0]? = some (pct n.toNat)) (h : 0 ≤ n ∧ n ≤ 10000000) :
    refParseDuty_b1 s v (rst 0 d) = some (.inl (rst 1 ⟨n, d.Amount, d.Per, d.HasMost, d.Most, d.HasLeast, d.Least⟩)) := by
  have hp := pct_len (u := n.toNat) (by omega)
  have h1 : (pct n.toNat == ([109, 97, 120] : Str)) = false := by
    rw [beq_eq_false_iff_ne]; intro he
    have : (37 : UInt8) ∈ pct n.toNat := by unfold pct; simp
    rw [he] at this; simp at this
  have h2 : (pct n.toNat == ([109, 105, 110] : Str)) = false := by
    rw [beq_eq_false_iff_ne]; intro he
    have : (37 : UInt8) ∈ pct n.toNat := by unfold pct; simp
    rw [he] at this; simp at this
  have := rstep_one (s := s) (i := 0) (d := d) hl hx (pct_no47 _) (by omega)
  rw [h1, h2] at this
  simp only [cond_false, Bool.false_eq_true, if_false, if_true] at this
  rw [refShare_pct h.1 h.2] at this
  exact this
theorem rstep_plus {s : Str} {v : List Str} {i : Nat} {d : ApiDuty} (hl : v.length ≤ 1000000) (hx : v[i]? = some [43]) (hi : i ≠ 0) :
    refParseDuty_b1 s v (rst (i : Int) d) = some (.inl (rst ((i + 1 : Nat) : Int) d)) := by
  have := rstep_one (s := s) (d := d) hl hx (by decide) (by decide)
  rw [this, if_neg (by simp), if_neg (by simp), if_neg hi]
theorem rstep_max {s : Str} {v : List Str} {i : Nat} {n : Int} {d : ApiDuty} (hl : v.length ≤ 1000000) (hx : v[i]? = some maxW) (hy : v[i + 1]? = some (pct n.toNat)) (h : 0 ≤ n ∧ n ≤ 10000000) :
    refParseDuty_b1 s v (rst (i : Int) d) = some (.inl (rst ((i + 2 : Nat) : Int) ⟨d.Rate, d.Amount, d.Per, true, n, d.HasLeast, d.Least⟩)) := by
  have hlt := lt_of_get hy
  have := rstep_one (s := s) (d := d) hl hx (by decide) (by decide)
  rw [this, if_pos ?_, hy, Option.bind_some, refShare_pct h.1 h.2]; rfl
  show (bif true then _ else false) = true
  rw [cond_true]; exact decide_eq_true (by omega)
theorem rstep_min {s : Str} {v : List Str} {i : Nat} {n : Int} {d : ApiDuty} (hl : v.length ≤ 1000000) (hx : v[i]? = some minW) (hy : v[i + 1]? = some (pct n.toNat)) (h : 0 ≤ n ∧ n ≤ 10000000) :
    refParseDuty_b1 s v (rst (i : Int) d) = some (.inl (rst ((i + 2 : Nat) : Int) ⟨d.Rate, d.Amount, d.Per, d.HasMost, d.Most, true, n⟩)) := by
  have hlt := lt_of_get hy
  have := rstep_one (s := s) (d := d) hl hx (by decide) (by decide)
  rw [this, if_neg (show ¬ (bif (minW == ([109, 97, 120] : Str)) then _ else false) = true by simp), if_pos ?_, hy, Option.bind_some, refShare_pct h.1 h.2]; rfl
  show (bif true then _ else false) = true
  rw [cond_true]; exact decide_eq_true (by omega)
theorem rstep_end {s : Str} {v : List Str} {i : Nat} {d : ApiDuty} (h : v.length ≤ i) : refParseDuty_b1 s v (rst (i : Int) d) = some (.inr (ren1 d)) := by
  unfold refParseDuty_b1 rst
  dsimp only
  rw [if_neg (fun h => by have := of_decide_eq_true h; omega)]; rfl

theorem amt_split {d : ApiDuty} (hd : DOk d) (ha : d.Amount ≠ 0) : r08Split (amt d) 47 = some [mny d.Amount.toNat, decDigits d.Per.toNat] := by
  have h47 : (47 : UInt8) ∉ mny d.Amount.toNat := mny_no (.inl (by decide)) (by decide)
  have l := amt_len hd
  have hsp := r08Split_eq (47 : UInt8) (s := amt d) (by omega)
  rw [show (((47 : UInt8).toNat : Nat) : Int) = (47 : Int) from rfl] at hsp
  rw [hsp]
  have e : amt d = mny d.Amount.toNat ++ 47 :: decDigits d.Per.toNat := by unfold amt; simp
  rw [e, spl_at h47, spl_miss ((isDig_dec _).1.not_mem (.inl (by decide)))]
theorem rstep_amount {s : Str} {v : List Str} {i : Nat} {d d0 : ApiDuty} (hl : v.length ≤ 1000000) (hd : DOk d) (ha : d.Amount ≠ 0) (hx : v[i]? = some (amt d)) :
    refParseDuty_b1 s v (rst (i : Int) d0) = some (.inl (rst ((i + 1 : Nat) : Int) ⟨d0.Rate, d.Amount, d.Per, d0.HasMost, d0.Most, d0.HasLeast, d0.Least⟩)) := by
  have h2 := hd.amount; have h3 := hd.per
  have e1 := r02Parse_mny (a := d.Amount.toNat) (by omega)
  rw [show ((d.Amount.toNat : Nat) : Int) = d.Amount by omega] at e1
  exact rstep_amt hl hx (amt_split hd ha) e1 (r08Num_dec (by omega) (by omega))

/-- The words of the bounds are read. -/
theorem bw_loop {s : Str} {pre : List Str} {d : ApiDuty} (hd : DOk d) (hp : pre.length ≤ 10) : loopO (refParseDuty_b1 s (pre ++ bw d)) (rst ((pre.length : Nat) : Int) ⟨d.Rate, d.Amount, d.Per, false, 0, false, 0⟩) = some (ren1 d) := by
  have h5 := hd.most; have h6 := hd.least
  have hM := hd.hasMost; have hL := hd.hasLeast
  obtain ⟨R, A, P, hm, M, hl, L⟩ := d
  simp only at h5 h6 hM hL
  have g : ∀ (l : List Str) (k : Nat), (pre ++ l)[pre.length + k]? = l[k]? := fun l k => by
    rw [List.getElem?_append_right (by omega)]; congr 1; omega
  cases hm <;> cases hl
  · have e1 : M = 0 := by false_or_by_contra; rename_i h; exact absurd (hM h) (by simp)
    have e2 : L = 0 := by false_or_by_contra; rename_i h; exact absurd (hL h) (by simp)
    subst e1 e2
    exact loop_stop (rstep_end (by simp [bw]))
  · have e1 : M = 0 := by false_or_by_contra; rename_i h; exact absurd (hM h) (by simp)
    subst e1
    have hb : bw (⟨R, A, P, false, 0, true, L⟩ : ApiDuty) = [minW, pct L.toNat] := rfl
    rw [hb]
    rw [loop_step (rstep_min (n := L) (by simp; omega) (g _ 0) (g _ 1) h6), loop_stop (rstep_end (by simp))]
  · have e2 : L = 0 := by false_or_by_contra; rename_i h; exact absurd (hL h) (by simp)
    subst e2
    have hb : bw (⟨R, A, P, true, M, false, 0⟩ : ApiDuty) = [maxW, pct M.toNat] := rfl
    rw [hb]
    rw [loop_step (rstep_max (n := M) (by simp; omega) (g _ 0) (g _ 1) h5), loop_stop (rstep_end (by simp))]
  · have hb : bw (⟨R, A, P, true, M, true, L⟩ : ApiDuty) = [maxW, pct M.toNat, minW, pct L.toNat] := rfl
    rw [hb]
    rw [loop_step (rstep_max (n := M) (by simp; omega) (g _ 0) (g _ 1) h5), loop_step (rstep_min (n := L) (by simp; omega) (g _ 2) (g _ 3) h6), loop_stop (rstep_end (by simp))]

theorem refParse_loop {s : Str} {d : ApiDuty} (hd : DOk d) : loopO (refParseDuty_b1 s (tw d ++ bw d)) (rst 0 zeroD) = some (ren1 d) := by
  have h1 := hd.rate; have h2 := hd.amount; have h4 := hd.noper
  have hbl : (bw d).length ≤ 4 := by
    unfold bw
    cases d.HasMost <;> cases d.HasLeast <;> simp
  unfold tw
  by_cases ha : d.Amount = 0
  · rw [if_pos ha]
    rw [loop_step (rstep_rate (n := d.Rate) (by simp; omega) (by simp) h1)]
    have := bw_loop (s := s) (pre := [pct d.Rate.toNat]) hd (by simp)
    rw [ha, h4 ha] at this
    exact this
  · rw [if_neg ha]
    by_cases hr : d.Rate = 0
    · rw [if_pos hr]
      rw [show (0 : Int) = ((0 : Nat) : Int) from rfl, loop_step (rstep_amount (by simp; omega) hd ha (by simp))]
      have := bw_loop (s := s) (pre := [amt d]) hd (by simp)
      rw [hr] at this
      exact this
    · rw [if_neg hr]
      rw [loop_step (rstep_rate (n := d.Rate) (by simp; omega) (by simp) h1)]
      rw [show (1 : Int) = ((1 : Nat) : Int) from rfl, loop_step (rstep_plus (by simp; omega) (by simp) (by omega)), loop_step (rstep_amount (by simp; omega) hd ha (by simp))]
      exact bw_loop (s := s) (pre := [pct d.Rate.toNat, [43], amt d]) hd (by simp)

theorem fmt_ne {d : ApiDuty} : fmt d ≠ [] := by
  have h : ∀ u, pct u ≠ [] := fun u => by unfold pct; simp
  unfold fmt terms
  intro he
  have := (List.append_eq_nil_iff.1 he).1
  split at this
  · exact h _ this
  · split at this
    · unfold amt mny at this; simp at this
    · simp at this
theorem refFormat_some {d : ApiDuty} {t : Str} (h : refFormatDuty d = some t) (ht : t ≠ []) : DOk d ∧ t = fmt d := by
  obtain ⟨e, he, _⟩ := validate_some d
  by_cases h0 : e = 0
  · subst h0
    have hd := validate_dok he
    rw [refFormatDuty_ok hd] at h
    exact ⟨hd, (Option.some.inj h).symm⟩
  · unfold refFormatDuty at h
    rw [refDuty_eq, he, Option.bind_some, if_pos (by simpa using h0)] at h
    exact absurd (Option.some.inj h).symm ht

theorem ref_total {s : Str} {v : List Str} (hv : v.length ≤ 1000000) (hw : ∀ x, x ∈ v → x.length ≤ 1000000) : ∃ d, loopO (refParseDuty_b1 s v) (rst 0 zeroD) = some (ren1 d) := by
  obtain ⟨r, e, d, rfl⟩ := loop_inv (f := refParseDuty_b1 s v)
    (fun m x => ∃ (i : Nat) (d : ApiDuty), x = rst (i : Int) d ∧ m = v.length - i)
    (fun r => ∃ d, r = ren1 d)
    (fun m x hx => by
      obtain ⟨i, d, rfl, rfl⟩ := hx
      by_cases hi : i < v.length
      · left
        have hx : v[i]? = some v[i] := List.getElem?_eq_getElem hi
        have hxl := hw _ (List.getElem_mem hi)
        by_cases h47 : (47 : UInt8) ∈ v[i]
        · have hsp := r08Split_eq (47 : UInt8) (s := v[i]) (by omega)
          rw [show (((47 : UInt8).toNat : Nat) : Int) = (47 : Int) from rfl] at hsp
          have hsl := spl_len 47 v[i]
          by_cases h2 : (spl 47 v[i]).length = 2
          · match hq : spl 47 v[i], h2 with
            | [a, p], _ =>
              have ha := (hsl.2.1 a (by rw [hq]; simp)).1
              have hp := (hsl.2.1 p (by rw [hq]; simp)).1
              obtain ⟨n, en, e1⟩ := r02Parse_any (s := a) (by omega)
              obtain ⟨q, e2, _⟩ := r08Num_any (s := p) (by omega)
              refine ⟨rst ((i + 1 : Nat) : Int) ⟨d.Rate, n, q, d.HasMost, d.Most, d.HasLeast, d.Least⟩, v.length - (i + 1), by omega, ?_, i + 1, _, rfl, rfl⟩
              unfold refParseDuty_b1 refParseDuty_j2 rst
              dsimp only
              rw [if_pos (decide_eq_true (by omega)), if_pos (by omega), Int.toNat_natCast, hx, Option.bind_some, hsp, hq, Option.bind_some, if_pos (by rfl), w64 (by omega)]
              simp only [List.getElem?_cons_zero, List.getElem?_cons_succ, Option.bind_some, e1, e2]
              rfl
          · -- more than two pieces: as a word
            have hgen : ∃ j d', refParseDuty_b1 s v (rst (i : Int) d) = some (.inl (rst ((j : Nat) : Int) d')) ∧ i < j := by
              unfold refParseDuty_b1 refParseDuty_j2 rst
              dsimp only
              rw [if_pos (decide_eq_true (by omega)), if_pos (by omega), Int.toNat_natCast, hx, Option.bind_some, hsp, Option.bind_some, if_neg (by rw [beq_iff_eq]; omega), Option.bind_some, w64 (n := (i : Int) + 1) (by omega)]
              have hm : ∀ w : Str, (47 : UInt8) ∉ w → (v[i] == w) = false := fun w hw => by
                rw [beq_eq_false_iff_ne]; intro he; rw [he] at h47; exact hw h47
              rw [hm [109, 97, 120] (by decide), if_pos (show (0 : Int) ≤ (i : Int) by omega), cond_false, if_neg (show ¬ false = true by simp), if_pos (show (0 : Int) ≤ (i : Int) by omega), Option.bind_some, hm [109, 105, 110] (by decide), cond_false, if_neg (show ¬ false = true by simp)]
              obtain ⟨q, eq⟩ := refShare_any hxl
              by_cases h0 : i = 0
              · rw [if_pos (by rw [beq_iff_eq]; omega), if_pos (by omega), Option.bind_some, eq, Option.bind_some]
                exact ⟨i + 1, ⟨q, d.Amount, d.Per, d.HasMost, d.Most, d.HasLeast, d.Least⟩, rfl, by omega⟩
              · rw [if_neg (by rw [beq_iff_eq]; omega)]
                exact ⟨i + 1, d, rfl, by omega⟩
            obtain ⟨j, d', e, hj⟩ := hgen
            exact ⟨_, v.length - j, by omega, e, j, d', rfl, rfl⟩
        · have h1 := rstep_one (s := s) (d := d) hv hx h47 hxl
          have hnext : ∀ {c : Prop} [Decidable c], ∀ y, v[i + 1]? = some y → ∃ q, refShare y = some q := fun {c} _ y hy => refShare_any (hw y (List.mem_of_getElem? hy))
          rw [h1]
          by_cases c1 : (bif (v[i] == ([109, 97, 120] : Str)) then (decide (((i + 1 : Nat) : Int) < (v.length : Int))) else false) = true
          · have hlt : i + 1 < v.length := by
              cases h : (v[i] == ([109, 97, 120] : Str)) with
              | false => rw [h] at c1; cases c1
              | true => rw [h, cond_true] at c1; have := of_decide_eq_true c1; omega
            obtain ⟨q, eq⟩ := refShare_any (hw _ (List.getElem_mem hlt))
            rw [if_pos c1, List.getElem?_eq_getElem hlt, Option.bind_some, eq, Option.bind_some]
            exact ⟨_, v.length - (i + 2), by omega, rfl, i + 2, _, rfl, rfl⟩
          · rw [if_neg c1]
            by_cases c2 : (bif (v[i] == ([109, 105, 110] : Str)) then (decide (((i + 1 : Nat) : Int) < (v.length : Int))) else false) = true
            · have hlt : i + 1 < v.length := by
                cases h : (v[i] == ([109, 105, 110] : Str)) with
                | false => rw [h] at c2; cases c2
                | true => rw [h, cond_true] at c2; have := of_decide_eq_true c2; omega
              obtain ⟨q, eq⟩ := refShare_any (hw _ (List.getElem_mem hlt))
              rw [if_pos c2, List.getElem?_eq_getElem hlt, Option.bind_some, eq, Option.bind_some]
              exact ⟨_, v.length - (i + 2), by omega, rfl, i + 2, _, rfl, rfl⟩
            · rw [if_neg c2]
              by_cases h0 : i = 0
              · obtain ⟨q, eq⟩ := refShare_any hxl
                rw [if_pos h0, eq, Option.bind_some]
                exact ⟨_, v.length - (i + 1), by omega, rfl, i + 1, _, rfl, rfl⟩
              · rw [if_neg h0]
                exact ⟨_, v.length - (i + 1), by omega, rfl, i + 1, _, rfl, rfl⟩
      · right
        exact ⟨_, rstep_end (by omega), d, rfl⟩)
    v.length (rst 0 zeroD) ⟨0, zeroD, rfl, rfl⟩
  exact ⟨d, e⟩

theorem refParse_tail {s : Str} {d : ApiDuty} : (∃ (h : DOk d) , fmt d = s ∧ refParseDuty_j1 s d.Rate d.Amount d.Per d.HasMost d.Most d.HasLeast d.Least = some (d, 0)) ∨ ((¬ (DOk d ∧ fmt d = s)) ∧ refParseDuty_j1 s d.Rate d.Amount d.Per d.HasMost d.Most d.HasLeast d.Least = some (zeroD, 4)) := by
  have hj : refParseDuty_j1 s d.Rate d.Amount d.Per d.HasMost d.Most d.HasLeast d.Least = ((if (!(s == ([] : Str))) = true then refFormatDuty d else some default).bind fun v2 => if (bif (s == ([] : Str)) then true else (!(v2 == s))) = true then some (zeroD, (4 : Int)) else some (d, (0 : Int))) := rfl
  rw [hj]
  by_cases h0 : s = []
  · subst h0
    right
    exact ⟨fun h => fmt_ne h.2, rfl⟩
  · have e0 : (s == ([] : Str)) = false := by rw [beq_eq_false_iff_ne]; exact h0
    rw [e0]
    simp only [Bool.not_false, if_true, cond_false]
    obtain ⟨t, _, et⟩ := format_same d
    rw [et, Option.bind_some]
    by_cases hts : t = s
    · left
      subst hts
      obtain ⟨hd, rfl⟩ := refFormat_some et h0
      exact ⟨hd, rfl, by simp⟩
    · right
      refine ⟨fun h => hts ?_, ?_⟩
      · rw [refFormatDuty_ok h.1] at et
        rw [← Option.some.inj et]; exact h.2
      · have : (t == s) = false := by rw [beq_eq_false_iff_ne]; exact hts
        rw [this]; rfl

theorem refParse_fmt {d : ApiDuty} (hd : DOk d) : refParseDuty (fmt d) = some (d, 0) := by
  have hl := fmt_len hd
  unfold refParseDuty
  have hsp := r08Split_eq (32 : UInt8) (s := fmt d) (by omega)
  rw [show (((32 : UInt8).toNat : Nat) : Int) = (32 : Int) from rfl, ← split_spl 32 _ _ (Nat.le_refl _), split_fmt] at hsp
  rw [hsp, Option.bind_some]
  have hlo := refParse_loop (s := fmt d) hd
  have hlo' : loopO (refParseDuty_b1 (fmt d) (tw d ++ bw d)) ((0 : Int), 0, 0, 0, false, 0, false, 0) = some (ren1 d) := hlo
  rw [hlo', Option.bind_some]
  show refParseDuty_j1 (fmt d) d.Rate d.Amount d.Per d.HasMost d.Most d.HasLeast d.Least = _
  rcases refParse_tail (s := fmt d) (d := d) with ⟨_, _, h⟩ | ⟨h, _⟩
  · exact h
  · exact absurd ⟨hd, rfl⟩ h
theorem refParse_any {s : Str} (h : s.length ≤ 100000) : (∃ d, DOk d ∧ fmt d = s ∧ refParseDuty s = some (d, 0)) ∨ ((∀ d, DOk d → fmt d ≠ s) ∧ refParseDuty s = some (zeroD, 4)) := by
  by_cases hd : ∃ d, DOk d ∧ fmt d = s
  · obtain ⟨d, h1, rfl⟩ := hd
    exact .inl ⟨d, h1, rfl, refParse_fmt h1⟩
  · right
    refine ⟨fun d h1 h2 => hd ⟨d, h1, h2⟩, ?_⟩
    unfold refParseDuty
    have hsp := r08Split_eq (32 : UInt8) (s := s) (by omega)
    rw [show (((32 : UInt8).toNat : Nat) : Int) = (32 : Int) from rfl] at hsp
    rw [hsp, Option.bind_some]
    have hsl := spl_len 32 s
    obtain ⟨d, e⟩ := ref_total (s := s) (v := spl 32 s) (by omega) (fun x hx => by have := (hsl.2.1 x hx).1; omega)
    have e' : loopO (refParseDuty_b1 s (spl 32 s)) ((0 : Int), 0, 0, 0, false, 0, false, 0) = some (ren1 d) := e
    rw [e', Option.bind_some]
    show refParseDuty_j1 s d.Rate d.Amount d.Per d.HasMost d.Most d.HasLeast d.Least = _
    rcases refParse_tail (s := s) (d := d) with ⟨h1, h2, _⟩ | ⟨_, h⟩
    · exact absurd ⟨d, h1, h2⟩ hd
    · exact h
/-- Two duties that hold and are written alike are the same. -/
theorem fmt_inj {d e : ApiDuty} (hd : DOk d) (he : DOk e) (h : fmt d = fmt e) : d = e := by
  have h1 := refParse_fmt hd
  rw [h, refParse_fmt he] at h1
  exact (congrArg Prod.fst (Option.some.inj h1)).symm
theorem parse_same {s : Str} (h : s.length ≤ 100000) : dutyParse s = refParseDuty s := by
  rcases dutyParse_any (s := s) (by omega) with ⟨d, h1, h2, h3⟩ | ⟨h1, h2⟩
  · subst h2; rw [h3, refParse_fmt h1]
  · rcases refParse_any h with ⟨d, h3, h4, _⟩ | ⟨_, h3⟩
    · exact absurd h4 (h1 d h3)
    · rw [h2, h3]

end Go.C
