/- Plain laws of chapter 19, as far as the reading of measures needs them (Ma to Me). No program in sight. -/
import Derived.Test.YtbilobjddflpeaaGreatDoorDz
import Derived.Test.YtbilobjddflpeaaGreatDoorPf
import Derived.Test.YtbilobjddflpeaaGreatDoorPg
import Derived.Test.YtbilobjddflpeaaGreatDoorPe
set_option linter.unusedVariables false
set_option linter.unusedSimpArgs false
namespace Go.C
open Go.V

abbrev Mea := ApiMeasure

theorem pre_nat {i : Nat} (h : i ≤ 9223372036854775807) (h0 : 0 < i) : (IntKind.i64.wrap ((i : Int) - (1 : Int))).toNat = i - 1 := by
  rw [w64 (by omega)]; omega

/-- The error of a duty. -/
noncomputable def dE (d : ApiDuty) : Int := (dutyValidate d).getD 0
theorem dutyValidate_eq (d : ApiDuty) : dutyValidate d = some (dE d) := by
  obtain ⟨e, h, _⟩ := validate_some d
  unfold dE; rw [h]; rfl
theorem refDuty_eq2 (d : ApiDuty) : refDuty d = some (dE d) := by rw [refDuty_eq, dutyValidate_eq]
theorem dE_zero {d : ApiDuty} : dE d = 0 ↔ DOk d := by
  constructor
  · intro h; exact validate_dok (by rw [dutyValidate_eq, h])
  · intro h; have := validate_zero h; rw [dutyValidate_eq] at this; exact Option.some.inj this

/-- Two capitals. -/
def capB (b : UInt8) : Bool := decide (65 ≤ b.toNat) && decide (b.toNat ≤ 90)
def ctry (s : Str) : Bool := decide (s.length = 2) && (capB (s.getD 0 0) && capB (s.getD 1 0))
theorem cap_int (b : UInt8) : (bif (decide ((65 : Int) ≤ (b.toNat : Int))) then (decide ((b.toNat : Int) ≤ (90 : Int))) else false) = capB b := by
  unfold capB
  have e1 : decide ((65 : Int) ≤ (b.toNat : Int)) = decide (65 ≤ b.toNat) := by congr 1; apply propext; omega
  have e2 : decide ((b.toNat : Int) ≤ (90 : Int)) = decide (b.toNat ≤ 90) := by congr 1; apply propext; omega
  rw [e1, e2]; cases decide (65 ≤ b.toNat) <;> rfl
theorem validCountry_eq (s : Str) : validCountry s = some (ctry s) := by
  unfold validCountry isCapital ctry
  by_cases h : s.length = 2
  · have h2 : ((s.length : Int) == (2 : Int)) = true := by simp; omega
    simp only [h2, if_true, cond_true, Option.bind_some, forall_const]
    rw [if_pos (by omega), if_pos (fun _ => by omega), cap_int, show (0 : Int).toNat = 0 from rfl, show (1 : Int).toNat = 1 from rfl]
    cases h3 : capB (s.getD 0 0) with
    | true => simp only [if_true, Option.bind_some, cap_int, cond_true, h]; simp
    | false => simp [h]
  · have h2 : ((s.length : Int) == (2 : Int)) = false := by simp; omega
    simp [h2, h]
theorem refCountry_eq (s : Str) : refCountry s = some (ctry s) := by
  unfold refCountry ctry
  by_cases h : s.length = 2
  · have h2 : ((s.length : Int) == (2 : Int)) = true := by simp; omega
    simp only [h2, cond_true, forall_const]
    rw [if_pos (by omega), if_pos (fun _ => by omega), if_pos (fun _ => by omega), if_pos (fun _ => by omega), cap_int, show (0 : Int).toNat = 0 from rfl, show (1 : Int).toNat = 1 from rfl]
    have e2 := cap_int (s.getD 1 0)
    cases h3 : capB (s.getD 0 0) with
    | true => simp only [cond_true, e2, h]; simp
    | false => simp
  · have h2 : ((s.length : Int) == (2 : Int)) = false := by simp; omega
    simp [h2, h]

/-- The origin at this place is a country, and behind the one ahead of it. -/
def opl (l : List Str) (i : Nat) : Bool := ctry (l.getD i default) && (decide (i = 0) || Op.bytesLess (l.getD (i - 1) default) (l.getD i default))
def orgs (l : List Str) : Bool := (List.range l.length).all (opl l)
theorem opl_cond {l : List Str} {i : Nat} : (bif (!ctry (l.getD i default)) then true else (bif (decide ((0 : Int) < (i : Int))) then (!Op.bytesLess (l.getD (i - 1) default) (l.getD i default)) else false)) = !opl l i := by
  unfold opl
  by_cases h0 : i = 0
  · subst h0; cases ctry (l.getD 0 default) <;> simp
  · have e : ((0 : Int) < (i : Int)) := by omega
    simp only [e, h0, decide_true, decide_false, cond_true, Bool.false_or]
    cases ctry (l.getD i default) <;> simp

theorem validOrigins_eq {l : List Str} (hl : l.length ≤ 9223372036854775807) : validOrigins l = some (orgs l) := by
  have step : ∀ (i : Nat) (x : Str), l[i]? = some x → validOrigins_b1 l (i : Int) = if (!opl l i) = true then some (.inr (.inl false)) else some (.inl ((i + 1 : Nat) : Int)) := fun i x hx => by
    have hlt := lt_of_get hx
    unfold validOrigins_b1
    rw [if_pos (by simp; omega), if_pos (by omega), Int.toNat_natCast, hx, Option.bind_some, validCountry_eq, Option.bind_some]
    rw [if_pos (fun h => by
      have : (0 : Int) < (i : Int) := by simp at h; omega
      rw [w64 (by omega)]; omega)]
    rw [← opl_cond, getD_of hx, bl_total, w64 (n := (i : Int) + 1) (by omega)]
    by_cases h0 : i = 0
    · subst h0; rfl
    · rw [pre_nat (by omega) (by omega)]; rfl
  have hgo : ∀ (i : Nat) (x : Str) (b : Unit), True → l[i]? = some x → opl l i = true → validOrigins_b1 l (i : Int) = some (.inl ((i + 1 : Nat) : Int)) := fun i x b _ hx hp => by rw [step i x hx, hp]; rfl
  have hbad : ∀ (i : Nat) (x : Str) (b : Unit), True → l[i]? = some x → opl l i = false → validOrigins_b1 l (i : Int) = some (.inr (.inl false)) := fun i x b _ hx hp => by rw [step i x hx, hp]; rfl
  have hend : ∀ b : Unit, True → validOrigins_b1 l (l.length : Int) = some (.inr (.inr ())) := fun b _ => by
    unfold validOrigins_b1
    rw [if_neg (by simp)]
  have := loop_list (β := Unit) l (validOrigins_b1 l) (fun i _ => (i : Int)) (fun _ _ => ()) (opl l) (.inl false) (fun _ => .inr ()) (fun _ _ => True) (fun _ _ _ _ _ => trivial) hgo hbad hend () trivial
  unfold validOrigins orgs
  rw [show ((0 : Int) = ((0 : Nat) : Int)) from rfl, this]
  by_cases hall : ((List.range l.length).all (opl l)) = true
  · rw [if_pos hall]; simp only [Option.bind_some, validOrigins_j1, hall]
  · rw [if_neg hall]; simp only [Option.bind_some, Bool.not_eq_true] at hall ⊢; rw [hall]

/-- The error of a measure by itself. -/
def farM (m : Mea) : Bool := decide (m.ID < 1 ∨ 1000000 < m.ID ∨ m.Kind < 1 ∨ 6 < m.Kind ∨ m.Company < 0 ∨ 999 < m.Company)
def rngM (m : Mea) : Bool := decide (m.From < 0 ∨ m.To ≤ m.From ∨ 36525 < m.To ∨ m.Registered < -1 ∨ m.From < m.Registered)
noncomputable def oneM (m : Mea) : Int := if farM m = true then 2 else if lvl m.Prefix = 0 then 1 else if 20 < m.Origins.length then 8 else if orgs m.Origins = false then 1 else if rngM m = true then 2 else dE m.Duty
theorem far_int (x2 : Mea) : (bif (bif (bif (bif (bif (decide (x2.ID < (1 : Int))) then true else (decide ((1000000 : Int) < x2.ID))) then true else (decide (x2.Kind < (1 : Int)))) then true else (decide ((6 : Int) < x2.Kind))) then true else (decide (x2.Company < (0 : Int)))) then true else (decide ((999 : Int) < x2.Company))) = farM x2 := by
  unfold farM
  by_cases h1 : x2.ID < 1 <;> by_cases h2 : 1000000 < x2.ID <;> by_cases h3 : x2.Kind < 1 <;> by_cases h4 : 6 < x2.Kind <;> by_cases h5 : x2.Company < 0 <;> simp [h1, h2, h3, h4, h5]
theorem rng_int (x2 : Mea) : (bif (bif (bif (bif (decide (x2.From < (0 : Int))) then true else (decide (x2.To ≤ x2.From))) then true else (decide ((36525 : Int) < x2.To))) then true else (decide (x2.Registered < (-1 : Int)))) then true else (decide (x2.From < x2.Registered))) = rngM x2 := by
  unfold rngM
  by_cases h1 : x2.From < 0 <;> by_cases h2 : x2.To ≤ x2.From <;> by_cases h3 : 36525 < x2.To <;> by_cases h4 : x2.Registered < -1 <;> simp [h1, h2, h3, h4]

theorem refOne_eq {m : Mea} (hp : m.Prefix.length ≤ 9223372036854775807) (ho : m.Origins.length ≤ 9223372036854775807) : refOne m = some (oneM m, oneM m == 0) := by
  unfold refOne oneM
  rw [far_int]
  by_cases h1 : farM m = true
  · rw [if_pos h1, if_pos h1]; rfl
  rw [if_neg h1, if_neg h1, refLevel_eq hp, Option.bind_some]
  by_cases h2 : lvl m.Prefix = 0
  · rw [if_pos (by simpa using h2), if_pos h2]; rfl
  rw [if_neg (by simpa using h2), if_neg h2]
  by_cases h3 : 20 < m.Origins.length
  · rw [if_pos (by simp; omega), if_pos h3]; rfl
  rw [if_neg (by simp; omega), if_neg h3]
  have step : ∀ (i : Nat) (x : Str), m.Origins[i]? = some x → refOne_b1 m (i : Int) = if (!opl m.Origins i) = true then some (.inr (.inl ((1 : Int), false))) else some (.inl ((i + 1 : Nat) : Int)) := fun i x hx => by
    have hlt := lt_of_get hx
    unfold refOne_b1
    rw [if_pos (by simp; omega), if_pos (by omega), Int.toNat_natCast, hx, Option.bind_some, refCountry_eq, Option.bind_some]
    rw [if_pos (fun h => by
      have : (0 : Int) < (i : Int) := by simp at h; omega
      rw [w64 (by omega)]; omega), if_pos (fun _ => by omega)]
    rw [← opl_cond, getD_of hx, w64 (n := (i : Int) + 1) (by omega)]
    by_cases h0 : i = 0
    · subst h0; rfl
    · rw [pre_nat (by omega) (by omega)]; rfl
  have hgo : ∀ (i : Nat) (x : Str) (b : Unit), True → m.Origins[i]? = some x → opl m.Origins i = true → refOne_b1 m (i : Int) = some (.inl ((i + 1 : Nat) : Int)) := fun i x b _ hx hp => by rw [step i x hx, hp]; rfl
  have hbad : ∀ (i : Nat) (x : Str) (b : Unit), True → m.Origins[i]? = some x → opl m.Origins i = false → refOne_b1 m (i : Int) = some (.inr (.inl ((1 : Int), false))) := fun i x b _ hx hp => by rw [step i x hx, hp]; rfl
  have hend : ∀ b : Unit, True → refOne_b1 m (m.Origins.length : Int) = some (.inr (.inr ())) := fun b _ => by
    unfold refOne_b1
    rw [if_neg (by simp)]
  have hl := loop_list (β := Unit) m.Origins (refOne_b1 m) (fun i _ => (i : Int)) (fun _ _ => ()) (opl m.Origins) (.inl ((1 : Int), false)) (fun _ => .inr ()) (fun _ _ => True) (fun _ _ _ _ _ => trivial) hgo hbad hend () trivial
  rw [show ((0 : Int) = ((0 : Nat) : Int)) from rfl, hl]
  unfold orgs
  by_cases hall : ((List.range m.Origins.length).all (opl m.Origins)) = true
  · rw [if_pos hall, hall, Option.bind_some]
    show refOne_j1 m = _
    unfold refOne_j1
    rw [rng_int, if_neg (show ¬ true = false by simp)]
    by_cases h5 : rngM m = true
    · rw [if_pos h5, if_pos h5]; rfl
    · rw [if_neg h5, if_neg h5, refDuty_eq2]; rfl
  · rw [if_neg hall]
    have hall : (List.range m.Origins.length).all (opl m.Origins) = false := by simpa using hall
    rw [hall]; rfl

/-- The error at a place of a list. -/
noncomputable def errM (l : List Mea) (i : Nat) : Int := if farM (l.getD i default) = true then 2 else if 0 < i ∧ (l.getD i default).ID ≤ (l.getD (i - 1) default).ID then 9 else oneM (l.getD i default)
noncomputable def ms (l : List Mea) : Int := if 300 < l.length then 8 else ferr l.length (errM l)

theorem ord_cond {l : List Mea} {i : Nat} {x : Mea} (hi : i ≤ 9223372036854775807) : (bif (decide ((0 : Int) < (i : Int))) then (decide (x.ID ≤ ((l.getD (IntKind.i64.wrap ((i : Int) - (1 : Int))).toNat default).ID))) else false) = decide (0 < i ∧ x.ID ≤ (l.getD (i - 1) default).ID) := by
  by_cases h0 : i = 0
  · subst h0; simp
  · rw [pre_nat hi (by omega)]
    have e : ((0 : Int) < (i : Int)) := by omega
    have e2 : 0 < i := by omega
    simp [e2]

theorem meValidate_eq {l : List Mea} (hok : ∀ x, x ∈ l → x.Origins.length ≤ 9223372036854775807) : meValidate l = some (ms l) := by
  unfold meValidate ms
  by_cases h : 300 < l.length
  · rw [if_pos (by simp; omega), if_pos h]
  rw [if_neg (by simp; omega), if_neg h]
  rw [loop_err l (meValidate_b1 l) (errM l) (fun i x hx _ => by
    have hlt := lt_of_get hx
    have hm := hok x (List.mem_of_getElem? hx)
    unfold meValidate_b1
    rw [if_pos (by simp; omega), if_pos (by omega), Int.toNat_natCast, hx, Option.bind_some, far_int]
    unfold errM
    rw [getD_of hx]
    by_cases h1 : farM x = true
    · rw [if_pos h1, if_pos h1]; rfl
    rw [if_neg h1, if_neg h1, if_pos (fun h => by
      have : (0 : Int) < (i : Int) := by simp at h; omega
      rw [w64 (by omega)]; omega), ord_cond (by omega)]
    by_cases h2 : 0 < i ∧ x.ID ≤ (l.getD (i - 1) default).ID
    · rw [if_pos (by simpa using h2), if_pos h2]; rfl
    rw [if_neg (by simpa using h2), if_neg h2, nomLevel_eq, Option.bind_some]
    unfold oneM
    rw [if_neg h1]
    by_cases h3 : lvl x.Prefix = 0
    · rw [if_pos (by simpa using h3), if_pos h3]; rfl
    rw [if_neg (by simpa using h3), if_neg h3]
    by_cases h4 : 20 < x.Origins.length
    · rw [if_pos (by simp; omega), if_pos h4]; rfl
    rw [if_neg (by simp; omega), if_neg h4, validOrigins_eq hm, Option.bind_some]
    cases h5 : orgs x.Origins with
    | false => rfl
    | true =>
      rw [if_neg (show ¬ (!true) = true by simp), if_neg (show ¬ true = false by simp), rng_int]
      by_cases h6 : rngM x = true
      · rw [if_pos h6, if_pos h6]; rfl
      rw [if_neg h6, if_neg h6, dutyValidate_eq, Option.bind_some, w64 (n := (i : Int) + 1) (by omega)]
      by_cases h7 : dE x.Duty = 0
      · rw [if_neg (by simpa using h7), if_pos h7]; rfl
      · rw [if_pos (by simpa using h7), if_neg h7]) (by unfold meValidate_b1; rw [if_neg (by simp)]), Option.bind_some]
  by_cases h8 : ferr l.length (errM l) = 0
  · rw [if_pos h8, h8]; rfl
  · rw [if_neg h8]

theorem refMeasures_eq {l : List Mea} (hok : ∀ x, x ∈ l → x.Prefix.length ≤ 9223372036854775807 ∧ x.Origins.length ≤ 9223372036854775807) : refMeasures l = some (ms l) := by
  unfold refMeasures ms
  by_cases h : 300 < l.length
  · rw [if_pos (by simp; omega), if_pos h]
  rw [if_neg (by simp; omega), if_neg h]
  rw [loop_err l (refMeasures_b1 l) (errM l) (fun i x hx _ => by
    have hlt := lt_of_get hx
    have hm := hok x (List.mem_of_getElem? hx)
    unfold refMeasures_b1
    rw [if_pos (by simp; omega), if_pos (by omega), Int.toNat_natCast, hx, Option.bind_some, far_int]
    unfold errM
    rw [getD_of hx]
    by_cases h1 : farM x = true
    · rw [if_pos h1, if_pos h1]; rfl
    rw [if_neg h1, if_neg h1, if_pos (fun h => by
      have : (0 : Int) < (i : Int) := by simp at h; omega
      rw [w64 (by omega)]; omega), ord_cond (by omega)]
    by_cases h2 : 0 < i ∧ x.ID ≤ (l.getD (i - 1) default).ID
    · rw [if_pos (by simpa using h2), if_pos h2]; rfl
    rw [if_neg (by simpa using h2), if_neg h2, refOne_eq hm.1 hm.2, Option.bind_some, w64 (n := (i : Int) + 1) (by omega)]
    by_cases h7 : oneM x = 0
    · rw [if_neg (by simpa using h7), if_pos h7]; rfl
    · rw [if_pos (by simpa using h7), if_neg h7]) (by unfold refMeasures_b1; rw [if_neg (by simp)]), Option.bind_some]
  by_cases h8 : ferr l.length (errM l) = 0
  · rw [if_pos h8, h8]; rfl
  · rw [if_neg h8]

end Go.C

namespace Go.C
open Go.V

/-! ### Codes -/
theorem dgI {r : Int} (h0 : 0 ≤ r) (h1 : r < 3) : bytesI [48, IntKind.u8.wrap (IntKind.i64.wrap ((49 : Int) + r))] = [48, dg (r.toNat + 1)] := by
  have : r = 0 ∨ r = 1 ∨ r = 2 := by omega
  rcases this with rfl | rfl | rfl <;> decide
theorem srcCode_ok {s : CustomsmadeSource} (hs : SOk s) (n : Nat) (hn : n = 2 ∨ n = 4 ∨ n = 6 ∨ n = 8) : ∃ r s', srcCode s (n : Int) = some (r, s') ∧ r.length = n ∧ r.all isD = true ∧ SOk s' := by
  unfold srcCode
  obtain ⟨r1, s1, e1, h1, h2, k1⟩ := next_ok (n := 2) hs (by omega) (by omega)
  rw [e1, Option.bind_some]
  obtain ⟨⟨b, L, I⟩, e2, h3, h4, h5⟩ := loop_inv (f := srcCode_b1 (n : Int))
    (fun m (x : List Int × List Int × Int) => x.1.length ≤ n ∧ m = n - x.1.length ∧ x.1.length % 2 = 0 ∧ 2 ≤ x.1.length ∧ (bytesI x.1).all isD = true ∧ SOk ⟨x.2.1, x.2.2⟩)
    (fun x => x.1.length = n ∧ (bytesI x.1).all isD = true ∧ SOk ⟨x.2.1, x.2.2⟩)
    (fun m x hx => by
      obtain ⟨b, L, I⟩ := x
      obtain ⟨h1, h2, h3, h4, h5, h6⟩ := hx
      simp only at h1 h2 h3 h4 h5 h6 ⊢
      unfold srcCode_b1
      dsimp only
      by_cases hc : b.length < n
      · left
        obtain ⟨r, s', e, g1, g2, g3⟩ := next_ok (n := 3) h6 (by omega) (by omega)
        refine ⟨(b ++ [(48 : Int), (IntKind.u8.wrap (IntKind.i64.wrap ((49 : Int) + r)))], s'.L, s'.I), n - (b.length + 2), by omega, ?_, ?_⟩
        · rw [if_pos (by simp; omega), e, Option.bind_some, if_pos (by simp; omega)]
        · refine ⟨by simp; omega, by simp, by simp; omega, by simp, ?_, g3⟩
          have hb : bytesI (b ++ [(48 : Int), (IntKind.u8.wrap (IntKind.i64.wrap ((49 : Int) + r)))]) = bytesI b ++ bytesI [(48 : Int), (IntKind.u8.wrap (IntKind.i64.wrap ((49 : Int) + r)))] := by unfold bytesI; rw [List.map_append]
          rw [hb, dgI g1 g2, List.all_append, h5]
          have : r = 0 ∨ r = 1 ∨ r = 2 := by omega
          rcases this with rfl | rfl | rfl <;> decide
      · right
        rw [if_neg (by simp; omega)]
        exact ⟨_, rfl, by simp only; omega, h5, h6⟩)
    (n - 2) ([(57 : Int), (IntKind.u8.wrap (IntKind.i64.wrap ((52 : Int) + r1)))], s1.L, s1.I)
    (by
      refine ⟨by simp; omega, by simp, by simp, by simp, ?_, k1⟩
      have : r1 = 0 ∨ r1 = 1 := by omega
      show (bytesI [(57 : Int), (IntKind.u8.wrap (IntKind.i64.wrap ((52 : Int) + r1)))]).all isD = true
      rcases this with rfl | rfl <;> decide)
  rw [e2, Option.bind_some]
  simp only at h3 h4 h5
  exact ⟨bytesI b, _, rfl, by unfold bytesI; simp; exact h3, h4, h5⟩

theorem lvl_code {s : Str} {n : Nat} (hn : n = 2 ∨ n = 4 ∨ n = 6 ∨ n = 8) (hl : s.length = n) (hd : s.all isD = true) : lvl s = n := by
  unfold lvl
  rw [if_pos ⟨hd, by omega⟩, hl]

/-! ### Lists of measures that hold -/
structure AscM (l : List Mea) : Prop where
  pw : l.Pairwise (fun a b => a.ID < b.ID)
  one : ∀ x, x ∈ l → oneM x = 0
theorem oneM_far {x : Mea} (h : oneM x = 0) : farM x = false := by
  unfold oneM at h
  by_cases c : farM x = true
  · rw [if_pos c] at h; cases h
  · simpa using c
structure MVal (x : Mea) : Prop where
  id : 1 ≤ x.ID ∧ x.ID ≤ 1000000
  kind : 1 ≤ x.Kind ∧ x.Kind ≤ 6
  company : 0 ≤ x.Company ∧ x.Company ≤ 999
  lvl : lvl x.Prefix ≠ 0
  origins : x.Origins.length ≤ 20
  orgs : orgs x.Origins = true
  days : 0 ≤ x.From ∧ x.From < x.To ∧ x.To ≤ 36525
  reg : -1 ≤ x.Registered ∧ x.Registered ≤ x.From
  duty : DOk x.Duty
theorem oneM_val {x : Mea} : oneM x = 0 ↔ MVal x := by
  constructor
  · intro h
    unfold oneM at h
    split at h
    · cases h
    rename_i h1
    split at h
    · cases h
    rename_i h2
    split at h
    · cases h
    rename_i h3
    split at h
    · cases h
    rename_i h4
    split at h
    · cases h
    rename_i h5
    simp only [farM, rngM, decide_eq_true_eq] at h1 h5
    exact ⟨by omega, by omega, by omega, h2, by omega, by simpa using h4, by omega, by omega, dE_zero.1 h⟩
  · intro h
    have h1 := h.id; have h2 := h.kind; have h3 := h.company; have h4 := h.days; have h5 := h.reg; have h6 := h.origins
    unfold oneM farM rngM
    rw [if_neg (by simp only [decide_eq_true_eq]; omega), if_neg h.lvl, if_neg (by omega), if_neg (by rw [h.orgs]; simp), if_neg (by simp only [decide_eq_true_eq]; omega)]
    exact dE_zero.2 h.duty
theorem AscM.val {l : List Mea} (h : AscM l) {x : Mea} (hx : x ∈ l) : MVal x := oneM_val.1 (h.one x hx)
theorem getD_in {l : List Mea} {i : Nat} (h : i < l.length) : l.getD i default = l[i] := by rw [List.getD_eq_getElem?_getD, List.getElem?_eq_getElem h]; rfl
theorem ms_zero {l : List Mea} : ms l = 0 ↔ l.length ≤ 300 ∧ AscM l := by
  constructor
  · intro h
    unfold ms at h
    split at h
    · cases h
    rename_i hl
    have h0 := ferr_zero.1 h
    have hone : ∀ i, i < l.length → farM (l.getD i default) ≠ true ∧ ¬ (0 < i ∧ (l.getD i default).ID ≤ (l.getD (i - 1) default).ID) ∧ oneM (l.getD i default) = 0 := fun i hi => by
      have := h0 i hi
      unfold errM at this
      split at this
      · cases this
      rename_i c1
      split at this
      · cases this
      rename_i c2
      exact ⟨c1, c2, this⟩
    refine ⟨by omega, ⟨?_, fun x hx => ?_⟩⟩
    · rw [List.pairwise_iff_getElem]
      have key : ∀ (d i : Nat) (h1 : i + d + 1 < l.length), (l[i]'(by omega)).ID < (l[i + d + 1]).ID := by
        intro d
        induction d with
        | zero =>
          intro i h1
          have := (hone (i + 1) h1).2.1
          rw [getD_in h1, Nat.add_sub_cancel, getD_in (show i < l.length by omega)] at this
          have e : (l[i + 0 + 1]'h1).ID = (l[i + 1]'(by omega)).ID := rfl
          omega
        | succ d ih =>
          intro i h1
          have g1 := ih i (by omega)
          have g2 := (hone (i + d + 1 + 1) (by omega)).2.1
          rw [getD_in (show i + d + 1 + 1 < l.length by omega), Nat.add_sub_cancel, getD_in (show i + d + 1 < l.length by omega)] at g2
          have : l[i + (d + 1) + 1] = l[i + d + 1 + 1]'(by omega) := by congr 1
          rw [this]; omega
      intro i j hi hj hij
      have := key (j - i - 1) i (by omega)
      have e : l[i + (j - i - 1) + 1]'(by omega) = l[j] := by congr 1; omega
      rw [e] at this; exact this
    · obtain ⟨i, hi, rfl⟩ := List.getElem_of_mem hx
      have := (hone i hi).2.2
      rwa [getD_in hi] at this
  · rintro ⟨hl, hp, h1⟩
    unfold ms
    rw [if_neg (by omega)]
    refine ferr_zero.2 fun i hi => ?_
    have hx := h1 _ (List.getElem_mem hi)
    unfold errM
    rw [getD_in hi, if_neg (by rw [oneM_far hx]; simp), if_neg ?_, hx]
    rintro ⟨h0, h2⟩
    rw [getD_in (show i - 1 < l.length by omega)] at h2
    have := (List.pairwise_iff_getElem.1 hp) (i - 1) i (by omega) hi (by omega)
    omega
theorem AscM.snoc {l : List Mea} {x : Mea} (h : AscM l) (hx : oneM x = 0) (hl : ∀ y, y ∈ l → y.ID < x.ID) : AscM (l ++ [x]) := ⟨by
  rw [List.pairwise_append]
  exact ⟨h.pw, List.pairwise_singleton _ _, fun a ha b hb => by simp at hb; subst hb; exact hl a ha⟩, fun y hy => by
  rcases List.mem_append.1 hy with hy | hy
  · exact h.one y hy
  · simp at hy; subst hy; exact hx⟩
theorem AscM.nil : AscM [] := ⟨List.Pairwise.nil, fun x hx => by cases hx⟩

/-! ### What is made -/
abbrev AA : Str := [65, 65]
abbrev BB2 : Str := [66, 66]
abbrev CC : Str := [67, 67]
def orgAt : Nat → List (List Str)
  | 0 => [[]]
  | 1 => [[], [AA]]
  | 2 => [[], [AA], [BB2], [AA, BB2]]
  | _ => [[], [AA], [BB2], [AA, BB2], [CC], [AA, CC], [BB2, CC], [AA, BB2, CC]]
theorem orgAt_ok : ∀ k, k ≤ 3 → ∀ c, c ∈ orgAt k → orgs c = true ∧ c.length ≤ 3 := by decide
theorem orgAt_same : ∀ k, k < 3 → ∀ c, c ∈ orgAt k → c ∈ orgAt (k + 1) := by decide
theorem orgAt_more : ∀ k, k < 3 → ∀ c, c ∈ orgAt k → c ++ [[AA, BB2, CC].getD k []] ∈ orgAt (k + 1) := by decide
theorem org_loop (v3 : Int × CustomsmadeSource) (i : Int) (v18 : Int × CustomsmadeSource) (v20 : Str × CustomsmadeSource) (v21 : Int × CustomsmadeSource) (v22 : ApiDuty × CustomsmadeSource) (v23 : Int × CustomsmadeSource) (a b : Int) (v26 : Int × CustomsmadeSource) (out : List Mea) :
    ∃ c, loopO (madeMeasures_b2 v3 i v18 v20 v21 v22 v23 a b v26) ((0 : Int), out, []) = some (out, c) ∧ orgs c = true ∧ c.length ≤ 3 := by
  obtain ⟨⟨o, c⟩, e, h1, h2, h3⟩ := loop_inv (f := madeMeasures_b2 v3 i v18 v20 v21 v22 v23 a b v26)
    (fun m (x : Int × List Mea × List Str) => m ≤ 3 ∧ x.1 = ((3 - m : Nat) : Int) ∧ x.2.1 = out ∧ x.2.2 ∈ orgAt (3 - m))
    (fun (x : List Mea × List Str) => x.1 = out ∧ orgs x.2 = true ∧ x.2.length ≤ 3)
    (fun m x hx => by
      obtain ⟨k, o, c⟩ := x
      obtain ⟨h0, h1, h2, h3⟩ := hx
      simp only at h1 h2 h3 ⊢
      subst h1; subst h2
      unfold madeMeasures_b2
      generalize hq : 3 - m = q at *
      dsimp only
      by_cases hc : (bif (decide ((q : Int) < (3 : Int))) then (decide ((7 : Int) < v26.1)) else false) = true
      · left
        have hq3 : q < 3 := by
          by_cases h : (q : Int) < 3
          · omega
          · simp [h] at hc
        rw [if_pos hc, if_pos (by omega)]
        by_cases hb : ((IntKind.i64.wrap ((BitVec.ofInt (IntKind.i64).bits (v26.1.fdiv (2 ^ (min (q : Int).toNat (IntKind.i64).bits))) &&& BitVec.ofInt (IntKind.i64).bits (1 : Int)).toNat : Int)) == (1 : Int)) = true
        · rw [if_pos hb]
          have hw := orgAt_ok q (by omega) c h3
          have hg : ([[65, 65], [66, 66], [67, 67], [68, 68], [69, 69], [70, 70]] : List Str)[q]? = some ([AA, BB2, CC].getD q []) := by
            have : q = 0 ∨ q = 1 ∨ q = 2 := by omega
            rcases this with rfl | rfl | rfl <;> rfl
          refine ⟨(((q + 1 : Nat) : Int), o, c ++ [[AA, BB2, CC].getD q []]), m - 1, by omega, ?_, by omega, ?_, rfl, ?_⟩
          · unfold countries
            rw [Option.bind_some, if_pos (by omega), Int.toNat_natCast, hg, Option.bind_some, if_pos (by simp; omega)]
            unfold madeMeasures_j7
            rw [w64 (by omega)]; rfl
          · simp only; congr 1; omega
          · have := orgAt_more q hq3 c h3
            rw [show 3 - (m - 1) = q + 1 by omega]; exact this
        · rw [if_neg hb]
          refine ⟨(((q + 1 : Nat) : Int), o, c), m - 1, by omega, ?_, by omega, ?_, rfl, ?_⟩
          · unfold madeMeasures_j7
            rw [w64 (by omega)]; rfl
          · simp only; congr 1; omega
          · have := orgAt_same q hq3 c h3
            rw [show 3 - (m - 1) = q + 1 by omega]; exact this
      · right
        rw [if_neg hc]
        exact ⟨_, rfl, rfl, orgAt_ok q (by omega) c h3⟩) 3 ((0 : Int), out, []) ⟨Nat.le_refl _, rfl, rfl, by show ([] : List Str) ∈ orgAt 0; decide⟩
  simp only at h1 h2 h3
  subst h1
  exact ⟨c, e, h2, h3⟩

theorem code_bind {s : CustomsmadeSource} {n : Int} {β : Type} {f : Str × CustomsmadeSource → Option β} {Q : β → Prop} (hs : SOk s) (hn : n = 2 ∨ n = 4 ∨ n = 6 ∨ n = 8)
    (h : ∀ r s', lvl r = n → r.length ≤ 8 → SOk s' → ∃ b, f (r, s') = some b ∧ Q b) : ∃ b, (srcCode s n).bind f = some b ∧ Q b := by
  obtain ⟨N, rfl⟩ := Int.eq_ofNat_of_zero_le (show 0 ≤ n by omega)
  obtain ⟨r, s', e, h1, h2, h3⟩ := srcCode_ok hs N (by omega)
  rw [e]; exact h r s' (lvl_code (by omega) h1 h2) (by omega) h3
theorem duty_bind {s : CustomsmadeSource} {β : Type} {f : ApiDuty × CustomsmadeSource → Option β} {Q : β → Prop} (hs : SOk s)
    (h : ∀ d s', DOk d → SOk s' → ∃ b, f (d, s') = some b ∧ Q b) : ∃ b, (srcDuty s).bind f = some b ∧ Q b := by
  obtain ⟨⟨d, s'⟩, e, ⟨h1, _⟩, h2⟩ := srcDuty_ok hs
  rw [e]; exact h d s' h1 h2

structure MadeM (l : List Mea) : Prop where
  asc : AscM l
  len : l.length ≤ 14
  small : ∀ x, x ∈ l → x.ID ≤ 100

def Rnd (x : Int × List Mea × List Int × Int) (k : Nat) (q : Int × List Mea × List Int × Int) : Prop := True

/-- One round: one measure more. -/
theorem made_round {v3 : Int × CustomsmadeSource} {i : Nat} {out : List Mea} {L : List Int} {I : Int} (hi : (i : Int) < v3.1) (hv : v3.1 ≤ 12) (hs : SOk ⟨L, I⟩) (hm : AscM out) (hl : out.length ≤ i + 2) (hid : ∀ x, x ∈ out → x.ID < 3 + 2 * (i : Int)) :
    ∃ out' L' I', madeMeasures_b1 v3 ((i : Int), out, L, I) = some (.inl (((i + 1 : Nat) : Int), out', L', I')) ∧ SOk ⟨L', I'⟩ ∧ AscM out' ∧ out'.length ≤ i + 1 + 2 ∧ ∀ x, x ∈ out' → x.ID < 3 + 2 * ((i + 1 : Nat) : Int) := by
  suffices h : ∃ b, madeMeasures_b1 v3 ((i : Int), out, L, I) = some b ∧ ∃ out' L' I', b = .inl (((i + 1 : Nat) : Int), out', L', I') ∧ SOk ⟨L', I'⟩ ∧ AscM out' ∧ out'.length ≤ i + 1 + 2 ∧ ∀ x, x ∈ out' → x.ID < 3 + 2 * ((i + 1 : Nat) : Int) by
    obtain ⟨b, e, out', L', I', rfl, h⟩ := h
    exact ⟨out', L', I', e, h⟩
  unfold madeMeasures_b1
  dsimp only
  rw [if_pos (by simpa using hi)]
  refine next_bind hs (by omega) (by omega) fun r1 s1 a1 b1 k1 => ?_
  refine next_bind k1 (by omega) (by omega) fun r2 s2 a2 b2 k2 => ?_
  dsimp only
  rw [w64 (n := 2 * r2) (by omega), w64 (n := 2 + 2 * r2) (by omega)]
  refine code_bind k2 (by omega) fun code s3 c1 c2 k3 => ?_
  refine next_bind k3 (by omega) (by omega) fun r3 s4 a3 b3 k4 => ?_
  refine duty_bind k4 fun d s5 hd k5 => ?_
  refine next_bind k5 (by omega) (by omega) fun r4 s6 a4 b4 k6 => ?_
  have fin : ∀ (reg : Int) (s : CustomsmadeSource), -1 ≤ reg → reg ≤ r3 → SOk s → ∃ b, madeMeasures_j4 v3 (i : Int) (r1, s1) (code, s3) (r3, s4) (d, s5) (r4, s6) out s.L s.I reg = some b ∧ ∃ out' L' I', b = .inl (((i + 1 : Nat) : Int), out', L', I') ∧ SOk ⟨L', I'⟩ ∧ AscM out' ∧ out'.length ≤ i + 1 + 2 ∧ ∀ x, x ∈ out' → x.ID < 3 + 2 * ((i + 1 : Nat) : Int) := by
    intro reg s q1 q2 ks
    have fin2 : ∀ (comp : Int) (s : CustomsmadeSource), 0 ≤ comp → comp ≤ 2 → SOk s → ∃ b, madeMeasures_j5 v3 (i : Int) (r1, s1) (code, s3) (r3, s4) (d, s5) (r4, s6) reg out s.L s.I comp = some b ∧ ∃ out' L' I', b = .inl (((i + 1 : Nat) : Int), out', L', I') ∧ SOk ⟨L', I'⟩ ∧ AscM out' ∧ out'.length ≤ i + 1 + 2 ∧ ∀ x, x ∈ out' → x.ID < 3 + 2 * ((i + 1 : Nat) : Int) := by
      intro comp s p1 p2 ks
      unfold madeMeasures_j5
      refine next_bind ks (by omega) (by omega) fun r5 s7 a5 b5 k7 => ?_
      obtain ⟨c, e, o1, o2⟩ := org_loop v3 (i : Int) (r1, s1) (code, s3) (r3, s4) (d, s5) (r4, s6) reg comp (r5, s7) out
      rw [e, Option.bind_some]
      dsimp only
      unfold madeMeasures_j6 madeMeasures_j3
      rw [if_pos (by simp; omega)]
      rw [w64 (n := 2 * (i : Int)) (by omega), w64 (n := 3 + 2 * (i : Int)) (by omega), w64 (n := 1 + r1) (by omega), w64 (n := r3 + 1) (by omega), w64 (n := r3 + 1 + r4) (by omega), w64 (n := (i : Int) + 1) (by omega)]
      refine ⟨_, rfl, _, _, _, rfl, k7, hm.snoc (oneM_val.2 ⟨by simp only; omega, by simp only; omega, by simp only; omega, by simp only; omega, by simp only; omega, o1, by simp only; omega, by simp only; omega, hd⟩) (fun y hy => by have := hid y hy; simp only; omega), by simp; omega, fun x hx => ?_⟩
      rcases List.mem_append.1 hx with h | h
      · have := hid x h; omega
      · simp at h; subst h; simp only; omega
    unfold madeMeasures_j4
    refine next_bind ks (by omega) (by omega) fun r6 s8 a6 b6 k8 => ?_
    split
    · refine next_bind k8 (by omega) (by omega) fun r7 s9 a7 b7 k9 => ?_
      dsimp only
      rw [w64 (by omega)]
      exact fin2 _ s9 (by omega) (by omega) k9
    · exact fin2 0 s8 (by omega) (by omega) k8
  refine next_bind k6 (by omega) (by omega) fun r8 s10 a8 b8 k10 => ?_
  split
  · dsimp only
    rw [w64 (n := r3 + 1) (by omega)]
    refine next_bind k10 (by omega) (by omega) fun r9 s11 a9 b9 k11 => ?_
    exact fin r9 s11 (by omega) (by omega) k11
  · exact fin (-1) s10 (by omega) (by omega) k10

theorem made_tail {out : List Mea} {s : CustomsmadeSource} (hs : SOk s) (hm : AscM out) (hl : out.length ≤ 2) (hid : ∀ x, x ∈ out → x.ID < 3) : ∃ v, madeMeasures_j1 out s.L s.I = some v ∧ MadeM v := by
  unfold madeMeasures_j1 madeMeasures_j2
  obtain ⟨r, s', e, h1, h2, k⟩ := next_ok (s := ⟨s.L, s.I⟩) (n := 13) hs (by omega) (by omega)
  rw [e, Option.bind_some]
  obtain ⟨v, e2, hv⟩ := loop_inv (f := madeMeasures_b1 (r, s'))
    (fun m (x : Int × List Mea × List Int × Int) => ∃ i : Nat, m = r.toNat - i ∧ (i : Int) ≤ r ∧ x.1 = (i : Int) ∧ AscM x.2.1 ∧ x.2.1.length ≤ i + 2 ∧ (∀ y, y ∈ x.2.1 → y.ID < 3 + 2 * (i : Int)) ∧ SOk ⟨x.2.2.1, x.2.2.2⟩)
    (fun v => MadeM v)
    (fun m x hx => by
      obtain ⟨i0, out, L, I⟩ := x
      obtain ⟨i, q1, q2, q3, q4, q5, q6, q7⟩ := hx
      simp only at q3 q4 q5 q6 q7
      subst q3
      by_cases hc : (i : Int) < r
      · left
        obtain ⟨out', L', I', e, g1, g2, g3, g4⟩ := made_round (v3 := (r, s')) hc (by simp only; omega) q7 q4 q5 q6
        exact ⟨_, r.toNat - (i + 1), by omega, e, i + 1, rfl, by omega, rfl, g2, g3, g4, g1⟩
      · right
        unfold madeMeasures_b1
        dsimp only
        rw [if_neg (by simpa using hc)]
        exact ⟨_, rfl, q4, by omega, fun x hx => by have := q6 x hx; omega⟩)
    r.toNat ((0 : Int), out, s'.L, s'.I) ⟨0, rfl, by omega, rfl, hm, hl, hid, k⟩
  rw [e2]
  exact ⟨v, rfl, hv⟩

theorem madeMeasures_ok (l : List Int) : ∃ v, madeMeasures l = some v ∧ MadeM v := by
  unfold madeMeasures
  obtain ⟨v, e, hv⟩ := cut_ok l 300 (by omega)
  rw [show ((300 : Nat) : Int) = 300 from rfl] at e
  rw [e, Option.bind_some]
  refine next_bind (s := ⟨v, 0⟩) ⟨by simp, by simp, by simp only; omega⟩ (by omega) (by omega) fun r1 s1 a1 b1 k1 => ?_
  split
  · refine duty_bind k1 fun d1 s2 hd1 k2 => ?_
    refine duty_bind k2 fun d2 s3 hd2 k3 => ?_
    rw [if_pos (by simp)]
    dsimp only
    have l1 : lvl [57, 52] ≠ 0 := by decide
    have l2 : lvl [57, 53] ≠ 0 := by decide
    have o0 : orgs [] = true := by decide
    refine made_tail k3 ⟨?_, fun x hx => ?_⟩ (by simp) (fun x hx => ?_)
    · simp
    · simp at hx
      rcases hx with rfl | rfl
      · exact oneM_val.2 ⟨by simp, by simp, by simp, l1, by simp, o0, by simp, by simp, hd1⟩
      · exact oneM_val.2 ⟨by simp, by simp, by simp, l2, by simp, o0, by simp, by simp, hd2⟩
    · simp at hx
      rcases hx with rfl | rfl <;> simp
  · exact made_tail k1 AscM.nil (by simp) (fun x hx => by cases hx)
theorem madeMeasuresR_eq (l : List Int) : madeMeasuresR l = madeMeasures l := rfl

end Go.C

namespace Go.C
open Go.V

/-! ### Membership, prefixes -/
theorem sContains_eq {l : List Str} (hl : l.length ≤ 9223372036854775806) (v : Str) : sContains l v = some (l.contains v) := by
  have key : ∀ (m k : Nat), k + m = l.length → ∃ r, loopO (sIndex_b1 l v) (k : Int) = some r ∧ ((l.drop k).contains v = true → ∃ j : Nat, r = .inl (j : Int)) ∧ ((l.drop k).contains v = false → r = .inr ()) := by
    intro m
    induction m with
    | zero =>
      intro k hk
      have : k = l.length := by omega
      subst this
      refine ⟨.inr (), loop_stop ?_, ?_, fun _ => rfl⟩
      · unfold sIndex_b1; rw [if_neg (by simp)]
      · rw [List.drop_length]; simp
    | succ m ih =>
      intro k hk
      have hlt : k < l.length := by omega
      have hx : l[k]? = some l[k] := List.getElem?_eq_getElem hlt
      by_cases he : v = l[k]
      · refine ⟨.inl (k : Int), loop_stop ?_, fun _ => ⟨k, rfl⟩, fun h => ?_⟩
        · unfold sIndex_b1
          rw [if_pos (by simp; omega), if_pos (by omega), Int.toNat_natCast, hx, Option.bind_some, if_pos (by simpa using he)]
        · rw [List.drop_eq_getElem_cons hlt] at h
          rw [List.contains_cons, beq_iff_eq.2 he, Bool.true_or] at h
          cases h
      · obtain ⟨r, h1, h2, h3⟩ := ih (k + 1) (by omega)
        have hd : (l.drop k).contains v = (l.drop (k + 1)).contains v := by
          rw [List.drop_eq_getElem_cons hlt, List.contains_cons]
          have : (v == l[k]) = false := by simpa using he
          rw [this, Bool.false_or]
        refine ⟨r, ?_, by rw [hd]; exact h2, by rw [hd]; exact h3⟩
        rw [loop_step (x := ((k + 1 : Nat) : Int)), h1]
        unfold sIndex_b1
        rw [if_pos (by simp; omega), if_pos (by omega), Int.toNat_natCast, hx, Option.bind_some, if_neg (by simpa using he), w64 (by omega)]
        rfl
  obtain ⟨r, h1, h2, h3⟩ := key l.length 0 (by omega)
  rw [List.drop_zero] at h2 h3
  unfold sContains sIndex
  rw [show ((0 : Int) = ((0 : Nat) : Int)) from rfl, h1, Option.bind_some]
  cases hc : l.contains v with
  | true =>
    obtain ⟨j, rfl⟩ := h2 hc
    rw [Option.bind_some]
    have : (0 : Int) ≤ (j : Int) := by omega
    simp
  | false =>
    rw [h3 hc]
    unfold sIndex_j1
    rfl
theorem refHas_eq {l : List Str} (hl : l.length ≤ 9223372036854775806) (v : Str) : refHas l v = some (l.contains v) := by
  have key : ∀ (m k : Nat), k + m = l.length → loopO (refHas_b1 l v) (k : Int) = some (if (l.drop k).contains v = true then .inl true else .inr ()) := by
    intro m
    induction m with
    | zero =>
      intro k hk
      have : k = l.length := by omega
      subst this
      rw [loop_stop (r := .inr ())]
      · rw [List.drop_length]; simp
      · unfold refHas_b1; rw [if_neg (by simp)]
    | succ m ih =>
      intro k hk
      have hlt : k < l.length := by omega
      have hx : l[k]? = some l[k] := List.getElem?_eq_getElem hlt
      by_cases he : l[k] = v
      · rw [loop_stop (r := .inl true)]
        · rw [List.drop_eq_getElem_cons hlt]; simp [he]
        · unfold refHas_b1
          rw [if_pos (by simp; omega), if_pos (by omega), Int.toNat_natCast, hx, Option.bind_some, if_pos (by simpa using he)]
      · have hd : (l.drop k).contains v = (l.drop (k + 1)).contains v := by
          rw [List.drop_eq_getElem_cons hlt, List.contains_cons]
          have : (v == l[k]) = false := by simpa using fun h => he h.symm
          rw [this, Bool.false_or]
        rw [loop_step (x := ((k + 1 : Nat) : Int)), ih (k + 1) (by omega), hd]
        unfold refHas_b1
        rw [if_pos (by simp; omega), if_pos (by omega), Int.toNat_natCast, hx, Option.bind_some, if_neg (by simpa using he), w64 (by omega)]
        rfl
  unfold refHas
  rw [show ((0 : Int) = ((0 : Nat) : Int)) from rfl, key l.length 0 (by omega), List.drop_zero, Option.bind_some]
  cases hc : l.contains v <;> rfl
theorem hasPrefix_take (s p : Str) : Lib.hasPrefix s p = (bif (decide ((p.length : Int) ≤ (s.length : Int))) then (((s.take (p.length : Int).toNat).drop (0 : Int).toNat) == p) else false) := by
  have e : Lib.hasPrefix s p = p.isPrefixOf s := rfl
  rw [e, Int.toNat_natCast, show (0 : Int).toNat = 0 from rfl, List.drop_zero]
  by_cases h : p.length ≤ s.length
  · have : (p.length : Int) ≤ (s.length : Int) := by omega
    simp only [this, decide_true, cond_true]
    by_cases hp : p <+: s
    · have h1 := List.prefix_iff_eq_take.1 hp
      rw [List.isPrefixOf_iff_prefix.2 hp]
      exact (beq_iff_eq.2 h1.symm).symm
    · have h2 : ¬ s.take p.length = p := fun h => hp (List.prefix_iff_eq_take.2 h.symm)
      have h3 : p.isPrefixOf s = false := by
        cases hq : p.isPrefixOf s with
        | false => rfl
        | true => exact absurd (List.isPrefixOf_iff_prefix.1 hq) hp
      rw [h3]; symm; simpa using h2
  · have h2 : ¬ (p.length : Int) ≤ (s.length : Int) := by omega
    simp only [h2, decide_false, cond_false]
    cases hq : p.isPrefixOf s with
    | false => rfl
    | true => exact absurd (List.IsPrefix.length_le (List.isPrefixOf_iff_prefix.1 hq)) h
theorem refPrefix_eq (s p : Str) : refPrefix s p = some (Lib.hasPrefix s p) := by
  unfold refPrefix
  rw [if_pos (fun h => by simp at h; omega), hasPrefix_take]

/-! ### Covers -/
def forceS (m : Mea) (day : Int) : Bool := decide (m.From ≤ day ∧ day < m.To ∨ m.Registered ≠ -1 ∧ m.Registered ≤ day ∧ day < m.From)
theorem meInForce_eq (m : Mea) (day : Int) : meInForce m day = some (forceS m day) := by
  unfold meInForce forceS
  congr 1
  by_cases h1 : m.From ≤ day <;> by_cases h2 : day < m.To <;> by_cases h3 : m.Registered = -1 <;> by_cases h4 : m.Registered ≤ day <;> by_cases h5 : day < m.From <;> simp [h1, h2, h3, h4, h5]
theorem refInForce_eq {m : Mea} (hr : -1 ≤ m.Registered) (day : Int) : refInForce m day = some (forceS m day) := by
  unfold refInForce forceS
  congr 1
  have e : decide (0 ≤ m.Registered) = !decide (m.Registered = -1) := by
    by_cases h : m.Registered = -1
    · rw [h]; decide
    · have : 0 ≤ m.Registered := by omega
      simp [h, this]
  rw [e]
  by_cases h1 : m.From ≤ day <;> by_cases h2 : day < m.To <;> by_cases h3 : m.Registered = -1 <;> by_cases h4 : m.Registered ≤ day <;> by_cases h5 : day < m.From <;> simp [h1, h2, h3, h4, h5]
def covS (m : Mea) (code origin : Str) (company day : Int) : Bool := forceS m day && (Lib.hasPrefix code m.Prefix && ((decide (m.Origins.length = 0) || m.Origins.contains origin) && (m.Company == 0 || m.Company == company)))
theorem meCovers_eq {m : Mea} (ho : m.Origins.length ≤ 1000) (code origin : Str) (company day : Int) : meCovers m code origin company day = some (covS m code origin company day) := by
  unfold meCovers covS hasPrefixS
  rw [meInForce_eq, Option.bind_some, sContains_eq (by omega)]
  cases forceS m day with
  | false => simp
  | true =>
    simp only [if_true, Option.bind_some, cond_true, Bool.true_and]
    have e : ((m.Origins.length : Int) == (0 : Int)) = decide (m.Origins.length = 0) := by
      by_cases h : m.Origins.length = 0
      · simp [h]
      · have : ¬ (m.Origins.length : Int) = 0 := by omega
        simp only [h, decide_false]; simpa using this
    rw [e]
    cases Lib.hasPrefix code m.Prefix <;> cases decide (m.Origins.length = 0) <;> cases m.Origins.contains origin <;> cases (m.Company == 0) <;> rfl
theorem refCovers_eq {m : Mea} (hr : -1 ≤ m.Registered) (ho : m.Origins.length ≤ 1000) (code origin : Str) (company day : Int) : refCovers m code origin company day = some (covS m code origin company day) := by
  unfold refCovers covS
  rw [refInForce_eq hr, Option.bind_some, refHas_eq (by omega), refPrefix_eq]
  cases forceS m day with
  | false => simp
  | true =>
    simp only [if_true, Option.bind_some, cond_true, Bool.true_and]
    have e : ((m.Origins.length : Int) == (0 : Int)) = decide (m.Origins.length = 0) := by
      by_cases h : m.Origins.length = 0
      · simp [h]
      · have : ¬ (m.Origins.length : Int) = 0 := by omega
        simp only [h, decide_false]; simpa using this
    rw [e]
    cases Lib.hasPrefix code m.Prefix <;> cases decide (m.Origins.length = 0) <;> cases m.Origins.contains origin <;> cases (m.Company == 0) <;> rfl

/-! ### The order of measures -/
def rankS (m : Mea) : Int := (((m.Prefix.length : Int) * 2 + (if m.Company = 0 then 0 else 1)) * 100 + 50 - (if m.Origins.length = 0 then 21 else (m.Origins.length : Int))) * 10000000 + m.ID
theorem lvl_len {s : Str} (h : lvl s ≠ 0) : s.length ≤ 8 := by
  unfold lvl at h
  split at h
  · omega
  · exact absurd rfl h
theorem rank_val (m : Mea) : ∃ c n : Int, rankS m = (((m.Prefix.length : Int) * 2 + c) * 100 + 50 - n) * 10000000 + m.ID ∧ (m.Company = 0 ∧ c = 0 ∨ m.Company ≠ 0 ∧ c = 1) ∧ (m.Origins.length = 0 ∧ n = 21 ∨ m.Origins.length ≠ 0 ∧ n = (m.Origins.length : Int)) := by
  refine ⟨_, _, rfl, ?_, ?_⟩
  · by_cases h : m.Company = 0
    · exact .inl ⟨h, if_pos h⟩
    · exact .inr ⟨h, if_neg h⟩
  · by_cases h : m.Origins.length = 0
    · exact .inl ⟨h, if_pos h⟩
    · exact .inr ⟨h, if_neg h⟩
theorem neI {a b : Int} (h : a ≠ b) : (a != b) = true := by simpa using h
theorem eqI {a b : Int} (h : a = b) : (a != b) = false := by simpa using h
theorem refRank_eq {m : Mea} (h : MVal m) : refRank m = some (rankS m) := by
  have h1 := h.id; have h2 := lvl_len h.lvl; have h3 := h.origins
  obtain ⟨c, n, e, hc, hn⟩ := rank_val m
  have fin : refRank_j2 m n c = some (rankS m) := by
    rw [e]
    unfold refRank_j2
    rw [w64 (n := (m.Prefix.length : Int) * 2) (by omega), w64 (n := (m.Prefix.length : Int) * 2 + c) (by omega), w64 (n := ((m.Prefix.length : Int) * 2 + c) * 100) (by omega), w64 (n := ((m.Prefix.length : Int) * 2 + c) * 100 + 50) (by omega), w64 (n := ((m.Prefix.length : Int) * 2 + c) * 100 + 50 - n) (by omega), w64 (n := (((m.Prefix.length : Int) * 2 + c) * 100 + 50 - n) * 10000000) (by omega), w64 (by omega)]
  unfold refRank refRank_j1
  rcases hc with ⟨c1, c2⟩ | ⟨c1, c2⟩ <;> rcases hn with ⟨o1, o2⟩ | ⟨o1, o2⟩ <;> subst c2 <;> subst o2
  · rw [if_neg (fun h => by have := of_decide_eq_true h; omega), if_neg (by rw [eqI c1]; simp)]; exact fin
  · rw [if_pos (decide_eq_true (by omega)), if_neg (by rw [eqI c1]; simp)]; exact fin
  · rw [if_neg (fun h => by have := of_decide_eq_true h; omega), if_pos (neI c1)]; exact fin
  · rw [if_pos (decide_eq_true (by omega)), if_pos (neI c1)]; exact fin
theorem mePrecedes_eq {x y : Mea} (hx : MVal x) (hy : MVal y) : mePrecedes x y = some (decide (rankS y < rankS x)) := by
  have a1 := hx.id; have a2 := lvl_len hx.lvl; have a3 := hx.origins
  have b1 := hy.id; have b2 := lvl_len hy.lvl; have b3 := hy.origins
  obtain ⟨cx, nx, ex, hcx, hnx⟩ := rank_val x
  obtain ⟨cy, ny, ey, hcy, hny⟩ := rank_val y
  rw [ex, ey]
  unfold mePrecedes
  by_cases hp : x.Prefix.length = y.Prefix.length
  · rw [if_neg (by rw [eqI (by omega)]; simp)]
    by_cases hc : x.Company = 0 ↔ y.Company = 0
    · have e1 : (x.Company != (0 : Int)) = (y.Company != (0 : Int)) := by
        by_cases h : x.Company = 0
        · rw [eqI h, eqI (hc.1 h)]
        · rw [neI h, neI (fun h' => h (hc.2 h'))]
      rw [if_neg (by rw [e1]; simp)]
      by_cases ho : x.Origins.length = y.Origins.length
      · rw [if_neg (by rw [eqI (by omega)]; simp)]
        congr 1; congr 1; apply propext; constructor <;> intro <;> omega
      · rw [if_pos (neI (by omega))]
        congr 1
        by_cases h0 : y.Origins.length = 0
        · have e : ((y.Origins.length : Int) == (0 : Int)) = true := by rw [beq_iff_eq]; omega
          rw [e, cond_true]; symm; rw [decide_eq_true_eq]; omega
        · have e : ((y.Origins.length : Int) == (0 : Int)) = false := by rw [beq_eq_false_iff_ne]; omega
          rw [e, cond_false]
          by_cases h1 : x.Origins.length = 0
          · rw [eqI (by omega), cond_false]; symm; rw [decide_eq_false_iff_not]; omega
          · rw [neI (by omega), cond_true]
            congr 1; apply propext; constructor <;> intro <;> omega
    · by_cases h : x.Company = 0
      · have h' : y.Company ≠ 0 := fun h' => hc ⟨fun _ => h', fun _ => h⟩
        rw [eqI h, neI h', if_pos (by simp)]
        congr 1; symm; rw [decide_eq_false_iff_not]; omega
      · have h' : y.Company = 0 := by
          by_cases h2 : y.Company = 0
          · exact h2
          · exact absurd ⟨fun h3 => absurd h3 h, fun h3 => absurd h3 h2⟩ hc
        rw [neI h, eqI h', if_pos (by simp)]
        congr 1; symm; rw [decide_eq_true_eq]; omega
  · rw [if_pos (neI (by omega))]
    congr 1; congr 1; apply propext; constructor <;> intro <;> omega

end Go.C

namespace Go.C
open Go.V

/-! ### The best one of a list -/
def stepB (p : Mea → Bool) (b : Option Mea) (x : Mea) : Option Mea := if p x = true ∧ (∀ y, b = some y → rankS y < rankS x) then some x else b
def best (p : Mea → Bool) (l : List Mea) : Option Mea := l.foldl (stepB p) none
theorem best_snoc (p : Mea → Bool) (l : List Mea) (x : Mea) : best p (l ++ [x]) = stepB p (best p l) x := by unfold best; rw [List.foldl_append]; rfl
theorem best_mem {p : Mea → Bool} {l : List Mea} {y : Mea} (h : best p l = some y) : y ∈ l ∧ p y = true := by
  have key : ∀ (l : List Mea) (b : Option Mea), (∀ y, b = some y → p y = true) → ∀ y, l.foldl (stepB p) b = some y → (y ∈ l ∨ b = some y) ∧ p y = true := by
    intro l
    induction l with
    | nil => intro b hb y h; exact ⟨.inr h, hb y h⟩
    | cons x l ih =>
      intro b hb y h
      rw [List.foldl_cons] at h
      obtain ⟨h1, h2⟩ := ih (stepB p b x) (fun y hy => by
        unfold stepB at hy
        split at hy
        · rename_i c; cases hy; exact c.1
        · exact hb y hy) y h
      refine ⟨?_, h2⟩
      rcases h1 with h1 | h1
      · exact .inl (List.mem_cons_of_mem _ h1)
      · unfold stepB at h1
        split at h1
        · cases h1; exact .inl List.mem_cons_self
        · exact .inr h1
  obtain ⟨h1, h2⟩ := key l none (fun y h => by cases h) y h
  exact ⟨h1.elim id (fun h => by cases h), h2⟩
theorem best_filter {p q : Mea → Bool} (l : List Mea) (h : ∀ x, p x = true → q x = true) : best p (l.filter q) = best p l := by
  have key : ∀ (l : List Mea) (b : Option Mea), (l.filter q).foldl (stepB p) b = l.foldl (stepB p) b := by
    intro l
    induction l with
    | nil => intro b; rfl
    | cons x l ih =>
      intro b
      by_cases hq : q x = true
      · rw [List.filter_cons_of_pos hq, List.foldl_cons, List.foldl_cons, ih]
      · rw [List.filter_cons_of_neg hq, List.foldl_cons, ih]
        have : stepB p b x = b := by
          unfold stepB
          rw [if_neg (fun hc => hq (h x hc.1))]
        rw [this]
  exact key l none
theorem best_none {p : Mea → Bool} {l : List Mea} {x : Mea} (hx : x ∈ l) (hp : p x = true) : best p l ≠ none := by
  have key : ∀ (l : List Mea) (b : Option Mea), (b ≠ none ∨ x ∈ l) → l.foldl (stepB p) b ≠ none := by
    intro l
    induction l with
    | nil => intro b h; rcases h with h | h; exact h; cases h
    | cons y l ih =>
      intro b h
      rw [List.foldl_cons]
      refine ih _ ?_
      by_cases hb : b = none
      · rcases h with h | h
        · exact absurd hb h
        · rcases List.mem_cons.1 h with rfl | h
          · left; unfold stepB; rw [if_pos ⟨hp, fun y hy => by rw [hb] at hy; cases hy⟩]; exact fun h => by cases h
          · exact .inr h
      · left
        unfold stepB
        split
        · exact fun h => by cases h
        · exact hb
  exact key l none (.inr hx)

/-- What an index says of the best one of the first k. -/
def IdxOk (p : Mea → Bool) (l : List Mea) (k : Nat) (b : Int) : Prop := (b = -1 ∧ best p (l.take k) = none) ∨ ∃ j : Nat, b = (j : Int) ∧ ∃ h : j < l.length, best p (l.take k) = some l[j]
theorem IdxOk.step {p : Mea → Bool} {l : List Mea} {k : Nat} {b : Int} (h : IdxOk p l k b) (hk : k < l.length) {c : Bool}
    (hc : c = (bif p l[k] then (bif (decide (b < (0 : Int))) then true else (decide (rankS (l.getD b.toNat default) < rankS l[k]))) else false)) : IdxOk p l (k + 1) (if c = true then (k : Int) else b) := by
  have ht : l.take (k + 1) = l.take k ++ [l[k]] := by rw [List.take_add_one, List.getElem?_eq_getElem hk]; rfl
  unfold IdxOk at h ⊢
  rw [ht, best_snoc]
  rcases h with ⟨rfl, h⟩ | ⟨j, rfl, hj, h⟩
  · have e : decide ((-1 : Int) < 0) = true := by decide
    rw [e, cond_true] at hc
    rw [h]
    unfold stepB
    cases hp : p l[k] with
    | true =>
      rw [hp, cond_true] at hc; subst hc
      right
      exact ⟨k, rfl, hk, by rw [if_pos ⟨rfl, fun y hy => by cases hy⟩]⟩
    | false =>
      rw [hp, cond_false] at hc; subst hc
      left
      exact ⟨rfl, by rw [if_neg (fun h => by cases h.1)]⟩
  · have e : decide ((j : Int) < 0) = false := by rw [decide_eq_false_iff_not]; omega
    rw [e, cond_false, Int.toNat_natCast, getD_in hj] at hc
    rw [h]
    unfold stepB
    cases hp : p l[k] with
    | true =>
      rw [hp, cond_true] at hc
      by_cases hr : rankS l[j] < rankS l[k]
      · rw [decide_eq_true hr] at hc; subst hc
        right
        exact ⟨k, rfl, hk, by rw [if_pos ⟨rfl, fun y hy => by cases hy; exact hr⟩]⟩
      · rw [decide_eq_false hr] at hc; subst hc
        right
        exact ⟨j, rfl, hj, by rw [if_neg (fun h => hr (h.2 _ rfl))]⟩
    | false =>
      rw [hp, cond_false] at hc; subst hc
      right
      exact ⟨j, rfl, hj, by rw [if_neg (fun h => by cases h.1)]⟩

def kindP (kind : Int) (code origin : Str) (company day : Int) (x : Mea) : Bool := x.Kind == kind && covS x code origin company day
def bestK (l : List Mea) (code origin : Str) (company day : Int) (kind : Int) : Option Mea := best (kindP kind code origin company day) l
/-- The measures that apply. -/
def appS (l : List Mea) (code origin : Str) (company day : Int) : List Mea := ([1, 2, 3, 4, 5, 6] : List Int).filterMap (bestK l code origin company day)

theorem kp_bif (x : Mea) (kind : Int) (code origin : Str) (company day : Int) : (bif (x.Kind == kind) then (covS x code origin company day) else false) = kindP kind code origin company day x := by
  unfold kindP; cases (x.Kind == kind) <;> rfl

theorem meApp_inner {l : List Mea} (hl : l.length ≤ 1000) (hv : ∀ x, x ∈ l → MVal x) (code origin : Str) (company day kind : Int) (res : List Mea) :
    ∃ b, loopO (meApplicable_b2 l code origin company day kind) ((0 : Int), (-1 : Int), res) = some (b, res) ∧ IdxOk (kindP kind code origin company day) l l.length b := by
  obtain ⟨⟨b, r⟩, e, h1, h2⟩ := loop_inv (f := meApplicable_b2 l code origin company day kind)
    (fun m (x : Int × Int × List Mea) => ∃ i : Nat, m = l.length - i ∧ i ≤ l.length ∧ x.1 = (i : Int) ∧ x.2.2 = res ∧ IdxOk (kindP kind code origin company day) l i x.2.1)
    (fun (x : Int × List Mea) => x.2 = res ∧ IdxOk (kindP kind code origin company day) l l.length x.1)
    (fun m x hx => by
      obtain ⟨i0, b, r⟩ := x
      obtain ⟨i, q1, q2, q3, q4, q5⟩ := hx
      simp only at q3 q4 q5
      subst q3; subst q4
      unfold meApplicable_b2
      dsimp only
      by_cases hi : i < l.length
      · left
        have hx := hv _ (List.getElem_mem hi)
        have ho := hx.origins
        have hb : 0 ≤ b → b < (l.length : Int) ∧ MVal (l.getD b.toNat default) := fun h0 => by
          rcases q5 with ⟨rfl, _⟩ | ⟨j, rfl, hj, _⟩
          · omega
          · rw [Int.toNat_natCast, getD_in hj]; exact ⟨by omega, hv _ (List.getElem_mem hj)⟩
        refine ⟨(((i + 1 : Nat) : Int), (if (bif kindP kind code origin company day l[i] then (bif (decide (b < (0 : Int))) then true else (decide (rankS (l.getD b.toNat default) < rankS l[i]))) else false) = true then (i : Int) else b), r), l.length - (i + 1), by omega, ?_, i + 1, rfl, by omega, rfl, rfl, q5.step hi rfl⟩
        rw [if_pos (decide_eq_true (by omega)), if_pos (by omega), Int.toNat_natCast, List.getElem?_eq_getElem hi, Option.bind_some, meCovers_eq (by omega)]
        have e1 : (if (l[i].Kind == kind) = true then some (covS l[i] code origin company day) else some default) = some (if (l[i].Kind == kind) = true then covS l[i] code origin company day else default) := by split <;> rfl
        rw [e1, Option.bind_some]
        have e2 : (bif (l[i].Kind == kind) then (if (l[i].Kind == kind) = true then covS l[i] code origin company day else default) else false) = kindP kind code origin company day l[i] := by
          rw [← kp_bif]; cases (l[i].Kind == kind) <;> rfl
        rw [e2]
        unfold meApplicable_j4
        rw [w64 (n := (i : Int) + 1) (by omega)]
        cases hk : kindP kind code origin company day l[i] with
        | false => simp
        | true =>
          by_cases hn : b < 0
          · rw [decide_eq_true hn]; simp
          · rw [decide_eq_false hn]
            have hb2 := hb (by omega)
            rw [if_pos (fun _ => ⟨by omega, hb2.1⟩)]
            simp only [Bool.not_false, Bool.and_self, if_true, cond_true, cond_false]
            rw [mePrecedes_eq hx hb2.2, Option.bind_some]
            by_cases hr : rankS (l.getD b.toNat default) < rankS l[i]
            · rw [if_pos (decide_eq_true hr), if_pos (decide_eq_true hr)]; rfl
            · rw [if_neg (fun h => hr (of_decide_eq_true h)), if_neg (fun h => hr (of_decide_eq_true h))]; rfl
      · right
        have : i = l.length := by omega
        subst this
        rw [if_neg (fun h => by have := of_decide_eq_true h; omega)]
        exact ⟨_, rfl, rfl, q5⟩)
    l.length ((0 : Int), (-1 : Int), res) ⟨0, by omega, by omega, rfl, rfl, .inl ⟨rfl, rfl⟩⟩
  simp only at h1 h2
  subst h1
  exact ⟨b, e, h2⟩

theorem idx_res {p : Mea → Bool} {l : List Mea} {b : Int} (h : IdxOk p l l.length b) : (b = -1 ∧ best p l = none) ∨ ∃ j : Nat, b = (j : Int) ∧ ∃ h : j < l.length, best p l = some l[j] := by
  unfold IdxOk at h
  rwa [List.take_length] at h

/-- A loop over the six kinds. -/
theorem kinds_loop {f : (Int × List Mea) → Option ((Int × List Mea) ⊕ List Mea)} {g : Int → Option Mea}
    (hstep : ∀ (k : Int) (r : List Mea), 1 ≤ k → k ≤ 6 → r.length ≤ 6 → f (k, r) = some (.inl (k + 1, r ++ (g k).toList)))
    (hend : ∀ r, f (7, r) = some (.inr r)) : loopO f ((1 : Int), []) = some (([1, 2, 3, 4, 5, 6] : List Int).filterMap g) := by
  have tl : ∀ (o : Option Mea), o.toList.length ≤ 1 := fun o => by cases o <;> simp
  have t1 := tl (g 1); have t2 := tl (g 2); have t3 := tl (g 3); have t4 := tl (g 4); have t5 := tl (g 5)
  rw [loop_step (hstep 1 [] (by omega) (by omega) (by simp)), loop_step (hstep (1 + 1) _ (by omega) (by omega) (by simp; omega)), loop_step (hstep (1 + 1 + 1) _ (by omega) (by omega) (by simp; omega)), loop_step (hstep (1 + 1 + 1 + 1) _ (by omega) (by omega) (by simp; omega)), loop_step (hstep (1 + 1 + 1 + 1 + 1) _ (by omega) (by omega) (by simp; omega)), loop_step (hstep (1 + 1 + 1 + 1 + 1 + 1) _ (by omega) (by omega) (by simp; omega))]
  rw [show (1 + 1 + 1 + 1 + 1 + 1 + 1 : Int) = 7 by omega, loop_stop (hend _)]
  congr 1
  show [] ++ (g 1).toList ++ (g 2).toList ++ (g 3).toList ++ (g 4).toList ++ (g 5).toList ++ (g 6).toList = _
  have fm : ∀ (a : Int) (l : List Int), (a :: l).filterMap g = (g a).toList ++ l.filterMap g := fun a l => by
    rw [List.filterMap_cons]
    cases g a <;> rfl
  rw [fm, fm, fm, fm, fm, fm]
  simp

theorem meApplicable_eq {l : List Mea} (hl : l.length ≤ 1000) (hv : ∀ x, x ∈ l → MVal x) (code origin : Str) (company day : Int) : meApplicable l code origin company day = some (appS l code origin company day) := by
  unfold meApplicable
  rw [kinds_loop (f := meApplicable_b1 l code origin company day) (g := bestK l code origin company day) (fun k r h1 h6 hr => by
    unfold meApplicable_b1
    dsimp only
    rw [if_pos (decide_eq_true h6)]
    obtain ⟨b, e, hb⟩ := meApp_inner hl hv code origin company day k r
    rw [e, Option.bind_some]
    dsimp only
    unfold meApplicable_j3 meApplicable_j2 bestK
    rw [w64 (n := k + 1) (by omega)]
    rcases idx_res hb with ⟨rfl, h⟩ | ⟨j, rfl, hj, h⟩
    · rw [h, if_neg (by decide)]; simp
    · have ho := (hv _ (List.getElem_mem hj)).origins
      rw [h, if_pos (decide_eq_true (by omega)), if_pos (by omega), Int.toNat_natCast, List.getElem?_eq_getElem hj, Option.bind_some]
      unfold cloneS
      rw [if_pos (by omega), Option.bind_some, if_pos (by simp; omega)]
      rfl) (fun r => by unfold meApplicable_b1; rfl), Option.bind_some]
  rfl

theorem refOf_eq {l : List Mea} (hl : l.length ≤ 1000) (hv : ∀ x, x ∈ l → MVal x) (code origin : Str) (company day kind : Int) :
    ∃ m, refOf l kind code origin company day = some (m, (bestK l code origin company day kind).isSome) ∧ ∀ y, bestK l code origin company day kind = some y → m = y := by
  obtain ⟨b, e, hb⟩ := loop_inv (f := refOf_b1 l kind code origin company day)
    (fun m (x : Int × Int) => ∃ i : Nat, m = l.length - i ∧ i ≤ l.length ∧ x.1 = (i : Int) ∧ IdxOk (kindP kind code origin company day) l i x.2)
    (fun (x : Int) => IdxOk (kindP kind code origin company day) l l.length x)
    (fun m x hx => by
      obtain ⟨i0, b⟩ := x
      obtain ⟨i, q1, q2, q3, q5⟩ := hx
      simp only at q3 q5
      subst q3
      unfold refOf_b1
      dsimp only
      by_cases hi : i < l.length
      · left
        have hx := hv _ (List.getElem_mem hi)
        have ho := hx.origins
        have hrg := hx.reg
        have hb : 0 ≤ b → b < (l.length : Int) ∧ MVal (l.getD b.toNat default) := fun h0 => by
          rcases q5 with ⟨rfl, _⟩ | ⟨j, rfl, hj, _⟩
          · omega
          · rw [Int.toNat_natCast, getD_in hj]; exact ⟨by omega, hv _ (List.getElem_mem hj)⟩
        refine ⟨(((i + 1 : Nat) : Int), (if (bif kindP kind code origin company day l[i] then (bif (decide (b < (0 : Int))) then true else (decide (rankS (l.getD b.toNat default) < rankS l[i]))) else false) = true then (i : Int) else b)), l.length - (i + 1), by omega, ?_, i + 1, rfl, by omega, rfl, q5.step hi rfl⟩
        rw [if_pos (decide_eq_true (by omega)), if_pos (by omega), Int.toNat_natCast, List.getElem?_eq_getElem hi, Option.bind_some, if_pos (fun _ => by omega), getD_in hi]
        show ((if (l[i].Kind == kind) = true then refCovers l[i] code origin company day else some default).bind _) = _
        rw [refCovers_eq hrg.1 (by omega)]
        have e1 : (if (l[i].Kind == kind) = true then some (covS l[i] code origin company day) else some default) = some (if (l[i].Kind == kind) = true then covS l[i] code origin company day else default) := by split <;> rfl
        rw [e1, Option.bind_some]
        have e2 : (bif (l[i].Kind == kind) then (if (l[i].Kind == kind) = true then covS l[i] code origin company day else default) else false) = kindP kind code origin company day l[i] := by
          rw [← kp_bif]; cases (l[i].Kind == kind) <;> rfl
        rw [e2]
        unfold refOf_j2
        rw [w64 (n := (i : Int) + 1) (by omega)]
        cases hk : kindP kind code origin company day l[i] with
        | false => simp
        | true =>
          by_cases hn : b < 0
          · rw [decide_eq_true hn]; simp
          · rw [decide_eq_false hn]
            have hb2 := hb (by omega)
            rw [if_pos (fun _ => by omega)]
            simp only [Bool.not_false, Bool.and_self, if_true, cond_true, cond_false]
            show ((refRank l[i]).bind _) = _
            rw [refRank_eq hx, Option.bind_some, if_pos (fun _ => ⟨by omega, hb2.1⟩)]
            show ((refRank (l.getD b.toNat default)).bind _) = _
            rw [refRank_eq hb2.2, Option.bind_some]
            by_cases hr : rankS (l.getD b.toNat default) < rankS l[i]
            · rw [if_pos (decide_eq_true hr), if_pos (decide_eq_true hr)]; rfl
            · rw [if_neg (fun h => hr (of_decide_eq_true h)), if_neg (fun h => hr (of_decide_eq_true h))]; rfl
      · right
        have : i = l.length := by omega
        subst this
        rw [if_neg (fun h => by have := of_decide_eq_true h; omega)]
        exact ⟨_, rfl, q5⟩)
    l.length ((0 : Int), (-1 : Int)) ⟨0, by omega, by omega, rfl, .inl ⟨rfl, rfl⟩⟩
  unfold refOf
  rw [e, Option.bind_some]
  dsimp only
  unfold refOf_j1 bestK
  rcases idx_res hb with ⟨rfl, h⟩ | ⟨j, rfl, hj, h⟩
  · rw [h, if_pos (by decide)]
    exact ⟨_, rfl, fun y hy => by cases hy⟩
  · rw [h, if_neg (fun h => by have := of_decide_eq_true h; omega), if_pos (by omega), Int.toNat_natCast, List.getElem?_eq_getElem hj, Option.bind_some]
    exact ⟨_, rfl, fun y hy => by cases hy; rfl⟩

theorem refApplicable_eq {l : List Mea} (hl : l.length ≤ 1000) (hv : ∀ x, x ∈ l → MVal x) (code origin : Str) (company day : Int) : refApplicable l code origin company day = some (appS l code origin company day) := by
  unfold refApplicable
  rw [kinds_loop (f := refApplicable_b1 l code origin company day) (g := bestK l code origin company day) (fun k r h1 h6 hr => by
    unfold refApplicable_b1
    dsimp only
    rw [if_pos (decide_eq_true h6)]
    obtain ⟨m, e, hm⟩ := refOf_eq hl hv code origin company day k
    rw [e, Option.bind_some]
    dsimp only
    unfold refApplicable_j2
    rw [w64 (n := k + 1) (by omega)]
    cases hb : bestK l code origin company day k with
    | none => simp
    | some y =>
      rw [hm y hb]
      simp only [Option.isSome_some, if_true, Option.toList_some]
      rw [if_pos (by simp; omega)]) (fun r => by unfold refApplicable_b1; rfl), Option.bind_some]
  rfl

/-! ### Equal lists are the same -/
theorem sameStrings_refl {a : List Str} (h : a.length ≤ 1000000) : sameStrings a a = some true := by
  unfold sameStrings
  rw [if_neg (by rw [eqI rfl]; simp)]
  have := loop_list (β := Unit) a (sameStrings_b1 a a) (fun i _ => (i : Int)) (fun _ _ => ()) (fun _ => true) (.inl false) (fun _ => .inr ()) (fun _ _ => True) (fun _ _ _ _ _ => trivial)
    (fun i x b _ hx _ => by
      have hlt := lt_of_get hx
      unfold sameStrings_b1
      rw [if_pos (decide_eq_true (by omega)), if_pos (by omega), Int.toNat_natCast, hx, Option.bind_some, if_pos (by omega), Option.bind_some, if_neg (by simp), w64 (by omega)]
      rfl)
    (fun i x b _ hx h => by cases h)
    (fun b _ => by unfold sameStrings_b1; rw [if_neg (by simp)]) () trivial
  rw [show ((0 : Int) = ((0 : Nat) : Int)) from rfl, this]
  simp [sameStrings_j1]
theorem sameMeasures_refl {a : List Mea} (h : a.length ≤ 1000000) (ho : ∀ x, x ∈ a → x.Origins.length ≤ 1000000) : sameMeasures a a = some true := by
  unfold sameMeasures
  rw [if_neg (by rw [eqI rfl]; simp)]
  have := loop_list (β := Unit) a (sameMeasures_b1 a a) (fun i _ => (i : Int)) (fun _ _ => ()) (fun _ => true) (.inl false) (fun _ => .inr ()) (fun _ _ => True) (fun _ _ _ _ _ => trivial)
    (fun i x b _ hx _ => by
      have hlt := lt_of_get hx
      have hxo := ho x (List.mem_of_getElem? hx)
      unfold sameMeasures_b1
      rw [if_pos (decide_eq_true (by omega)), if_pos (by omega), Int.toNat_natCast, hx, Option.bind_some, if_pos (by omega), Option.bind_some, w64 (by omega)]
      simp only [bne_self_eq_false, beq_self_eq_true, Bool.and_self, Bool.not_true, cond_false, Bool.not_false, if_true]
      rw [sameStrings_refl hxo]
      rfl)
    (fun i x b _ hx h => by cases h)
    (fun b _ => by unfold sameMeasures_b1; rw [if_neg (by simp)]) () trivial
  rw [show ((0 : Int) = ((0 : Nat) : Int)) from rfl, this]
  simp [sameMeasures_j1]

end Go.C

namespace Go.C
open Go.V

abbrev al1 : Str := [49, 32, 49, 32, 57, 52, 32, 42, 32, 48, 32, 48, 32, 49, 48, 48, 32, 45, 32, 53, 37]
abbrev al2 : Str := [50, 32, 49, 32, 57, 52, 48, 49, 32, 65, 65, 32, 48, 32, 49, 48, 32, 49, 48, 48, 32, 52, 32, 51, 37]
def ad1 : ApiDuty := ⟨50000, 0, 0, false, 0, false, 0⟩
def ad2 : ApiDuty := ⟨30000, 0, 0, false, 0, false, 0⟩
def am1 : Mea := ⟨1, 1, [57, 52], [], 0, 0, 100, -1, ad1⟩
def am2 : Mea := ⟨2, 1, [57, 52, 48, 49], [[65, 65]], 0, 10, 100, 4, ad2⟩
theorem ad1_ok : DOk ad1 := ⟨by decide, by decide, by decide, by decide, by decide, by decide, by decide, by decide, by decide⟩
theorem ad2_ok : DOk ad2 := ⟨by decide, by decide, by decide, by decide, by decide, by decide, by decide, by decide, by decide⟩
theorem am1_val : MVal am1 := ⟨by decide, by decide, by decide, by decide, by decide, by decide, by decide, by decide, ad1_ok⟩
theorem am2_val : MVal am2 := ⟨by decide, by decide, by decide, by decide, by decide, by decide, by decide, by decide, ad2_ok⟩
theorem ams_asc : AscM [am1, am2] := ⟨by simp [am1, am2], fun x hx => by
  simp at hx
  rcases hx with rfl | rfl
  · exact oneM_val.2 am1_val
  · exact oneM_val.2 am2_val⟩
theorem val_one {m : Mea} (h : MVal m) : meValidate [m] = some 0 := by
  rw [meValidate_eq (fun x hx => by simp at hx; subst hx; have := h.origins; omega), ms_zero.2 ⟨by simp, List.pairwise_singleton _ _, fun x hx => by simp at hx; subst hx; exact oneM_val.2 h⟩]
theorem ad1_fmt : fmt ad1 = [53, 37] := by kernel_rfl
theorem ad2_fmt : fmt ad2 = [51, 37] := by kernel_rfl
theorem am1_line : formatMeasure am1 = some al1 := by
  unfold formatMeasure
  rw [if_neg (by decide)]
  unfold formatMeasure_j1
  rw [if_neg (by decide)]
  unfold formatMeasure_j2
  have e1 : itoa am1.ID = some [49] := by kernel_rfl
  have e2 : itoa am1.Kind = some [49] := by kernel_rfl
  have e3 : itoa am1.Company = some [48] := by kernel_rfl
  have e4 : itoa am1.From = some [48] := by kernel_rfl
  have e5 : itoa am1.To = some [49, 48, 48] := by kernel_rfl
  have e6 : dutyFormat am1.Duty = some [53, 37] := by rw [← ad1_fmt]; exact dutyFormat_ok ad1_ok
  have e8 : joinS [[49], [49], [57, 52], [42], [48], [48], [49, 48, 48], [45], [53, 37]] [32] = some al1 := by kernel_rfl
  rw [e1, e2, e3, e4, e5, e6]
  show (joinS [[49], [49], [57, 52], [42], [48], [48], [49, 48, 48], [45], [53, 37]] [32]).bind (fun v7 => some v7) = _
  rw [e8]; rfl
theorem am2_line : formatMeasure am2 = some al2 := by
  unfold formatMeasure
  rw [if_pos (by decide)]
  have e0 : joinS am2.Origins [44] = some [65, 65] := by kernel_rfl
  rw [e0, Option.bind_some]
  unfold formatMeasure_j1
  have e7 : itoa am2.Registered = some [52] := by kernel_rfl
  rw [if_pos (by decide), e7, Option.bind_some]
  unfold formatMeasure_j2
  have e1 : itoa am2.ID = some [50] := by kernel_rfl
  have e2 : itoa am2.Kind = some [49] := by kernel_rfl
  have e3 : itoa am2.Company = some [48] := by kernel_rfl
  have e4 : itoa am2.From = some [49, 48] := by kernel_rfl
  have e5 : itoa am2.To = some [49, 48, 48] := by kernel_rfl
  have e6 : dutyFormat am2.Duty = some [51, 37] := by rw [← ad2_fmt]; exact dutyFormat_ok ad2_ok
  have e8 : joinS [[50], [49], [57, 52, 48, 49], [65, 65], [48], [49, 48], [49, 48, 48], [52], [51, 37]] [32] = some al2 := by kernel_rfl
  rw [e1, e2, e3, e4, e5, e6]
  show (joinS [[50], [49], [57, 52, 48, 49], [65, 65], [48], [49, 48], [49, 48, 48], [52], [51, 37]] [32]).bind (fun v7 => some v7) = _
  rw [e8]; rfl

theorem tail_ok {m : Mea} {line x9 : Str} {v : List Str} (h9 : v[8]? = some x9) (hd : dutyParse x9 = some (m.Duty, 0)) (hv : MVal m) (hl : formatMeasure m = some line) {a b c e g : Int} {h1 h2 : Bool} :
    parseMeasure_j2 line v true m.ID m.Kind m.Prefix m.Origins m.Company m.From m.To m.Registered a b c h1 e h2 g = some (m, true) := by
  unfold parseMeasure_j2
  rw [h9, Option.bind_some, hd, Option.bind_some]
  show (meValidate [m]).bind _ = _
  rw [val_one hv, Option.bind_some]
  show (formatMeasure m).bind _ = _
  rw [hl, Option.bind_some, if_neg (by simp)]
theorem am1_parse : parseMeasure al1 = some (am1, true) := by
  unfold parseMeasure
  have e1 : splitNS al1 [32] 9 = some [[49], [49], [57, 52], [42], [48], [48], [49, 48, 48], [45], [53, 37]] := by kernel_rfl
  rw [e1, Option.bind_some, if_neg (by decide)]
  show (Option.bind (some ([57, 52] : Str)) _) = _
  rw [Option.bind_some]
  show (Option.bind (some ([42] : Str)) _) = _
  rw [Option.bind_some, if_neg (by decide)]
  unfold parseMeasure_j1 parseNumID parseNumKind parseNumCompany parseNumFrom parseNumTo
  have a1 : atoiS [49] = some (1, true) := by kernel_rfl
  have a0 : atoiS [48] = some (0, true) := by kernel_rfl
  have a2 : atoiS [49, 48, 48] = some (100, true) := by kernel_rfl
  simp only [List.getElem?_cons_zero, List.getElem?_cons_succ, Option.bind_some, a1, a0, a2]
  rw [if_neg (by decide)]
  refine tail_ok (m := am1) rfl ?_ am1_val am1_line
  have := parse_fmt ad1_ok
  rw [ad1_fmt] at this; exact this
theorem am2_parse : parseMeasure al2 = some (am2, true) := by
  unfold parseMeasure
  have e1 : splitNS al2 [32] 9 = some [[50], [49], [57, 52, 48, 49], [65, 65], [48], [49, 48], [49, 48, 48], [52], [51, 37]] := by kernel_rfl
  rw [e1, Option.bind_some, if_neg (by decide)]
  show (Option.bind (some ([57, 52, 48, 49] : Str)) _) = _
  rw [Option.bind_some]
  show (Option.bind (some ([65, 65] : Str)) _) = _
  have e2 : splitS [65, 65] [44] = some [[65, 65]] := by kernel_rfl
  rw [Option.bind_some, if_pos (by decide)]
  show (Option.bind (some ([65, 65] : Str)) _) = _
  rw [Option.bind_some, e2, Option.bind_some]
  unfold parseMeasure_j1 parseNumID parseNumKind parseNumCompany parseNumFrom parseNumTo parseNumRegistered
  have a1 : atoiS [49] = some (1, true) := by kernel_rfl
  have a0 : atoiS [48] = some (0, true) := by kernel_rfl
  have a2 : atoiS [49, 48, 48] = some (100, true) := by kernel_rfl
  have a3 : atoiS [50] = some (2, true) := by kernel_rfl
  have a4 : atoiS [49, 48] = some (10, true) := by kernel_rfl
  have a5 : atoiS [52] = some (4, true) := by kernel_rfl
  simp only [List.getElem?_cons_zero, List.getElem?_cons_succ, Option.bind_some, a1, a0, a2, a3, a4, a5]
  rw [if_pos (by decide)]
  refine tail_ok (m := am2) rfl ?_ am2_val am2_line
  have := parse_fmt ad2_ok
  rw [ad2_fmt] at this; exact this

theorem aw_parse : meParse [49, 32, 49, 32, 57, 52, 32, 42, 32, 48, 32, 48, 32, 49, 48, 48, 32, 45, 32, 53, 37, 10, 50, 32, 49, 32, 57, 52, 48, 49, 32, 65, 65, 32, 48, 32, 49, 48, 32, 49, 48, 48, 32, 52, 32, 51, 37, 10] = some ([am1, am2], 2, 0) := by
  unfold meParse
  have e1 : splitS [49, 32, 49, 32, 57, 52, 32, 42, 32, 48, 32, 48, 32, 49, 48, 48, 32, 45, 32, 53, 37, 10, 50, 32, 49, 32, 57, 52, 48, 49, 32, 65, 65, 32, 48, 32, 49, 48, 32, 49, 48, 48, 32, 52, 32, 51, 37, 10] [10] = some [al1, al2, []] := by kernel_rfl
  have w2 : IntKind.i64.wrap ((([al1, al2, []] : List Str).length : Int) - 1) = 2 := by decide
  rw [e1, Option.bind_some, w2, if_pos (by decide)]
  have hl : loopO (meParse_b1 [al1, al2, []]) ((0 : Int), []) = some (.inr [am1, am2]) := by
    rw [loop_step (x := ((1 : Int), [am1])), loop_step (x := ((2 : Int), [am1, am2])), loop_stop]
    · unfold meParse_b1; dsimp only; rw [w2, if_neg (by decide)]
    · unfold meParse_b1
      dsimp only
      rw [w2, if_pos (by decide), if_pos (by decide)]
      show (Option.bind (some al2) _) = _
      rw [Option.bind_some, am2_parse, Option.bind_some, if_neg (by decide), if_pos (by decide)]
      rfl
    · unfold meParse_b1
      dsimp only
      rw [w2, if_pos (by decide), if_pos (by decide)]
      show (Option.bind (some al1) _) = _
      rw [Option.bind_some, am1_parse, Option.bind_some, if_neg (by decide), if_pos (by decide)]
      rfl
  rw [hl, Option.bind_some]
  show meParse_j1 [al1, al2, []] [am1, am2] = _
  unfold meParse_j1
  rw [w2, if_pos (by decide)]
  show (Option.bind (some ([] : Str)) _) = _
  rw [Option.bind_some, if_neg (by decide), meValidate_eq (fun x hx => by have := (ams_asc.val hx).origins; omega), ms_zero.2 ⟨by decide, ams_asc⟩]
  rfl

theorem awake_true : awake19 = some true := by
  unfold awake19
  rw [aw_parse, Option.bind_some]
  dsimp only
  have hv : ∀ x, x ∈ [am1, am2] → MVal x := fun x hx => ams_asc.val hx
  rw [meApplicable_eq (by decide) hv, meApplicable_eq (by decide) hv, meApplicable_eq (by decide) hv]
  have e1 : appS [am1, am2] [57, 52, 48, 49, 51, 48, 48, 48] [65, 65] 0 12 = [am2] := by rfl
  have e2 : appS [am1, am2] [57, 52, 48, 49, 51, 48, 48, 48] [65, 65] 0 3 = [am1] := by rfl
  have e3 : appS [am1, am2] [57, 52, 48, 49, 51, 48, 48, 48] [65, 65] 0 4 = [am2] := by rfl
  rw [e1, e2, e3]
  rfl

end Go.C

namespace Go.C
open Go.V
def okL (m : Mea) : Prop := m.Prefix.length ≤ 9223372036854775807 ∧ m.Origins.length ≤ 9223372036854775807
theorem MVal.okL {m : Mea} (h : MVal m) : okL m := ⟨by have := lvl_len h.lvl; omega, by have := h.origins; omega⟩
theorem meV {l : List Mea} (h : ∀ x, x ∈ l → okL x) : meValidate l = some (ms l) := meValidate_eq fun x hx => (h x hx).2
theorem MadeM.vals {l : List Mea} (h : MadeM l) : ∀ x, x ∈ l → MVal x := fun x hx => h.asc.val hx
end Go.C
