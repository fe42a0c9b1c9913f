/- Plain laws of duties: DutyParse. No program in sight. -/
import Derived.Test.YtinickkcieecdaaGreatDoorEy
import Derived.Test.YtinickkcieecdaaGreatDoorPg
set_option linter.unusedVariables false
set_option linter.unusedSimpArgs false
namespace Go.C
open Go.V
open Go.Lib (decDigits)

def d0 : ApiDuty := ⟨50000, 320, 100, true, 100000, true, 20000⟩
theorem d0_ok : DOk d0 := validate_dok (by unfold dutyValidate d0; rfl)
def dz : ApiDuty := ⟨0, 0, 0, false, 0, false, 0⟩
theorem dz_ok : DOk dz := validate_dok (by unfold dutyValidate dz; rfl)
theorem d0_fmt : fmt d0 = [53, 37, 32, 43, 32, 51, 46, 50, 48, 47, 49, 48, 48, 32, 109, 97, 120, 32, 49, 48, 37, 32, 109, 105, 110, 32, 50, 37] := by
  have a : decDigits 5 = [53] := by rw [dec_small (by omega)]; rfl
  have b : decDigits 3 = [51] := by rw [dec_small (by omega)]; rfl
  have c : decDigits 100 = [49, 48, 48] := by rw [dec_big (by omega), dec_big (u := 100 / 10) (by omega), dec_small (u := 100 / 10 / 10) (by omega)]; rfl
  have d : decDigits 10 = [49, 48] := by rw [dec_big (by omega), dec_small (u := 10 / 10) (by omega)]; rfl
  have e : decDigits 2 = [50] := by rw [dec_small (by omega)]; rfl
  simp [fmt, terms, bnds, pct, amt, mny, d0, a, b, c, d, e]
theorem dz_fmt : fmt dz = [48, 37] := by
  have a : decDigits 0 = [48] := by rw [dec_small (by omega)]; rfl
  simp [fmt, terms, bnds, pct, dz, a]

set_option maxRecDepth 100000 in
theorem ev0 : dutyEvaluate d0 10000 100 = some (820, 0) := by kernel_rfl
theorem awake18_ok : awake18 = some true := by
  unfold awake18
  rw [← d0_fmt, parse_fmt d0_ok]
  simp only [Option.bind_some]
  rw [ev0]
  have z := dutyFormat_ok dz_ok
  rw [dz_fmt] at z
  unfold dz at z
  simp only [Option.bind_some]
  rw [if_pos (by decide), z]
  rfl


theorem madeDuty_ok (l : List Int) : ∃ d, madeDuty l = some d ∧ DOk d := by
  unfold madeDuty
  obtain ⟨v, e, h⟩ := cut_ok l 12 (by omega)
  rw [show ((12 : Nat) : Int) = 12 from rfl] at e
  rw [e]
  obtain ⟨b, e2, h2, _⟩ := srcDuty_ok (s := ⟨v, 0⟩) ⟨by simp, by simp, by simp only; omega⟩
  simp only [Option.bind_some, e2]
  exact ⟨_, rfl, h2.1⟩
theorem pct_pos (u : Nat) : 0 < (pct u).length := by unfold pct; simp only [List.length_append, List.length_cons, List.length_nil]; omega
theorem amt_pos (d : ApiDuty) : 0 < (amt d).length := by unfold amt; simp only [List.length_append, List.length_cons, List.length_nil]; omega
theorem fmt_pos (d : ApiDuty) : 0 < (fmt d).length := by
  have h1 := pct_pos d.Rate.toNat
  have h2 := amt_pos d
  unfold fmt terms
  split
  · simp only [List.length_append]; omega
  · split
    · simp only [List.length_append]; omega
    · simp only [List.length_append]; omega
theorem bytesI_len (l : List Int) : (bytesI l).length = l.length := by unfold bytesI; simp
theorem intsB_len (l : Str) : (intsB l).length = l.length := by unfold intsB; simp

theorem law_j3 {s2 : Str} {b : List Int} (hs : s2.length ≤ 100) (hb : b.length ≤ 1000) : lawParse_j3 s2 b = some true := by
  unfold lawParse_j3
  have hbl := bytesI_len b
  generalize bytesI b = t at *
  have e1 := (parse_same (s := t) (by omega)).symm
  have e2 := (parse_same (s := s2) (by omega)).symm
  obtain ⟨r2, h2⟩ : ∃ r, dutyParse s2 = some r := by
    rcases dutyParse_any (s := s2) (by omega) with ⟨d, _, _, h⟩ | ⟨_, h⟩
    · exact ⟨_, h⟩
    · exact ⟨_, h⟩
  rw [e1, e2, h2]
  rcases dutyParse_any (s := t) (by omega) with ⟨d, h3, h4, h5⟩ | ⟨_, h5⟩
  · rw [h5]
    simp only [Option.bind_some, beq_self_eq_true, Bool.and_self, cond_true, Bool.and_true, Bool.true_and, if_true]
    rw [if_pos (by decide), dutyFormat_ok h3, h4]
    simp [awake18_ok]
  · rw [h5]
    simp [awake18_ok]
theorem piece_ok : ∀ n : Nat, n < 7 → ∃ x, ([([48] : Str), ([46] : Str), ([32, 43, 32] : Str), ([32, 109, 97, 120, 32, 53, 37] : Str), ([32, 109, 105, 110, 32, 49, 37] : Str), ([37] : Str), ([49, 46, 48, 48, 47, 49] : Str)][n]?) = some x ∧ x.length ≤ 7
  | 0, _ => ⟨_, rfl, by decide⟩
  | 1, _ => ⟨_, rfl, by decide⟩
  | 2, _ => ⟨_, rfl, by decide⟩
  | 3, _ => ⟨_, rfl, by decide⟩
  | 4, _ => ⟨_, rfl, by decide⟩
  | 5, _ => ⟨_, rfl, by decide⟩
  | 6, _ => ⟨_, rfl, by decide⟩
  | n + 7, h => by omega
theorem law_j2 {from_ piece : Int} {s2 : Str} {b : List Int} (hs : s2.length ≤ 100) (hb : b.length ≤ 200) : lawParse_j2 from_ piece s2 b = some true := by
  unfold lawParse_j2
  rw [w64 (by omega), within_eq (by omega) (by omega), Option.bind_some]
  have p1 := Int.emod_nonneg from_ (by omega : ((b.length : Int) + 1) ≠ 0)
  have p2 := Int.emod_lt_of_pos from_ (by omega : (0 : Int) < (b.length : Int) + 1)
  generalize from_ % ((b.length : Int) + 1) = p at p1 p2
  split
  · rw [within_eq (by omega) (by omega), Option.bind_some]
    have q1 := Int.emod_nonneg piece (by omega : (7 : Int) ≠ 0)
    have q2 := Int.emod_lt_of_pos piece (by omega : (0 : Int) < 7)
    generalize piece % 7 = q at q1 q2
    obtain ⟨x, hx, hxl⟩ := piece_ok q.toNat (by omega)
    have t1 : ((b.take p.toNat).drop (0 : Int).toNat).length ≤ b.length := by
      simp only [List.length_drop, List.length_take]; omega
    have t2 : (b.drop p.toNat).length ≤ b.length := by simp only [List.length_drop]; omega
    have t3 := intsB_len x
    rw [if_pos q1, hx, Option.bind_some, if_pos (by omega), if_pos (by omega), if_pos (by omega), if_pos (by omega), if_pos (by rw [List.length_append]; omega)]
    exact law_j3 hs (by rw [List.length_append, List.length_append]; omega)
  · exact law_j3 hs (by omega)
theorem law_j1 {l at_ by_ : List Int} {from_ piece : Int} {s2 : Str} (hs : s2.length ≤ 100) (ha : at_.length ≤ 9223372036854775807) (hby : by_.length ≤ 9223372036854775807) : lawParse_j1 l at_ by_ from_ piece s2 = some true := by
  unfold lawParse_j1
  obtain ⟨d, e1, hd⟩ := madeDuty_ok l
  have hfl := fmt_len hd
  have hfp := fmt_pos d
  have hil := intsB_len (fmt d)
  rw [e1, Option.bind_some, refFormatDuty_ok hd, Option.bind_some, if_pos (by omega)]
  obtain ⟨b, e2, h2⟩ := loop_inv (f := lawParse_b1 at_ by_ from_ piece s2)
    (fun k (x : Int × List Int) => ∃ i : Nat, x.1 = (i : Int) ∧ k = 3 - i ∧ i ≤ 2 ∧ 0 < x.2.length ∧ x.2.length ≤ 200)
    (fun (x : List Int) => x.length ≤ 200)
    (fun k x hx => by
      obtain ⟨i0, b⟩ := x
      obtain ⟨i, h1, h2, h3, h4, h5⟩ := hx
      simp only at h1 h4 h5
      subst h1
      unfold lawParse_b1
      dsimp only
      by_cases hc : (bif (bif (decide ((i : Int) < (at_.length : Int))) then (decide ((i : Int) < (by_.length : Int))) else false) then (decide ((i : Int) < (2 : Int))) else false) = true
      · left
        have hcc : i < at_.length ∧ i < by_.length ∧ i < 2 := by
          simp only [Bool.cond_false_right, Bool.and_eq_true, decide_eq_true_eq] at hc
          omega
        obtain ⟨c1, c2, c3⟩ := hcc
        rw [if_pos hc, if_pos (by omega), Int.toNat_natCast, List.getElem?_eq_getElem c1, Option.bind_some, within_eq (by omega) (by omega), Option.bind_some, if_pos (by omega), List.getElem?_eq_getElem c2, Option.bind_some,
          if_pos ⟨Int.emod_nonneg _ (by omega), Int.emod_lt_of_pos _ (by omega)⟩, w64 (by omega)]
        exact ⟨_, 3 - (i + 1), by omega, rfl, i + 1, rfl, rfl, by omega, by simp only [List.length_set]; exact h4, by simp only [List.length_set]; exact h5⟩
      · right
        rw [if_neg hc]
        exact ⟨_, rfl, h5⟩)
    3 ((0 : Int), intsB (fmt d)) ⟨0, rfl, rfl, by omega, by simp only; omega, by simp only; omega⟩
  rw [e2, Option.bind_some]
  exact law_j2 hs h2
theorem lawParse_true {s : Str} {l at_ by_ : List Int} {from_ piece : Int} (hs : s.length ≤ 9223372036854775807) (hl : l.length ≤ 9223372036854775807 ∧ ∀ x, x ∈ l → okI_i64 x) (ha : at_.length ≤ 9223372036854775807 ∧ ∀ x, x ∈ at_ → okI_i64 x) (hby : by_.length ≤ 9223372036854775807 ∧ ∀ x, x ∈ by_ → okI_u8 x) (hf : okI_i64 from_) (ht : okI_i64 piece) : lawParse s l at_ by_ from_ piece = some true := by
  unfold lawParse
  split
  · rename_i hc
    have hc := of_decide_eq_true hc
    rw [if_pos (by omega)]
    exact law_j1 (by simp; omega) ha.1 hby.1
  · rename_i hc
    have hc : ¬ (100 : Int) < (s.length : Int) := fun h => hc (decide_eq_true h)
    exact law_j1 (by omega) ha.1 hby.1

end Go.C
