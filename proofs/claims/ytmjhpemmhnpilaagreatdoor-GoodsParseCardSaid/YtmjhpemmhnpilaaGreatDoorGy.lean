/- Plain laws of chapter 8: Parse. No program in sight. -/
import Derived.Test.YtmjhpemmhnpilaaGreatDoorGx
import Derived.Test.YtmjhpemmhnpilaaGreatDoorPg
set_option linter.unusedVariables false
set_option linter.unusedSimpArgs false
namespace Go.C
open Go.V

theorem bytesI_len (l : List Int) : (bytesI l).length = l.length := by unfold bytesI; simp
theorem intsB_len (l : Str) : (intsB l).length = l.length := by unfold intsB; simp

theorem parse_tail {t0 : Str} {t9 : List Int} (h0 : t0.length ≤ 1000) (h9 : t9.length ≤ 1000) : lawParse_j2 t0 t9 = some true := by
  obtain ⟨g, e, e1, e2, hc⟩ := parse_same (s := bytesI t9) (by rw [bytesI_len]; exact h9)
  obtain ⟨g', e', e1', e2', hc'⟩ := parse_same h0
  have s1 : sameGood g g = some true := sameGood_refl (by rcases hc with h | h; exact .inl (gv_gok h.2.1); exact .inr h.1)
  have s2 : sameGood g' g' = some true := sameGood_refl (by rcases hc' with h | h; exact .inl (gv_gok h.2.1); exact .inr h.1)
  unfold lawParse_j2
  rw [e1, Option.bind_some, e2, Option.bind_some, e1', Option.bind_some, e2', Option.bind_some, if_pos (by simp), s1, Option.bind_some, if_pos (by simp), s2, Option.bind_some]
  rcases hc with ⟨rfl, h1, h2⟩ | ⟨rfl, rfl⟩
  · rw [if_pos (by simp), goodsFormat_ok h1, Option.bind_some, if_pos (by simp [h2]), awake_true, Option.bind_some]
    simp [h2]
  · rw [if_neg (by simp), Option.bind_some, if_pos (by simp), awake_true, Option.bind_some]
    simp

theorem lawParse_true {s : Str} {l : List Int} {at_ : List Int} {by_ : List Int} (hs : s.length ≤ 9223372036854775807) (hl : l.length ≤ 9223372036854775807 ∧ ∀ x, x ∈ l → okI_i64 x) (ha : at_.length ≤ 9223372036854775807 ∧ ∀ x, x ∈ at_ → okI_i64 x) (hb : by_.length ≤ 9223372036854775807 ∧ ∀ x, x ∈ by_ → okI_u8 x) : lawParse s l at_ by_ = some true := by
  have main : ∀ t0 : Str, t0.length ≤ 1000 → lawParse_j1 l at_ by_ t0 = some true := fun t0 h0 => by
    unfold lawParse_j1
    obtain ⟨g, e2, hg⟩ := madeGood_ok l
    have hgv := hg.gv
    have hgo := gv_gok hgv
    have hfl := hgo.flen
    rw [e2, Option.bind_some, refFormat_ok hgo.ok hgv, Option.bind_some, if_pos (by omega)]
    obtain ⟨r, er, hr⟩ := loop_inv (f := lawParse_b1 at_ by_ t0) (fun m x => ∃ k : Nat, k ≤ 2 ∧ m = 2 - k ∧ x.1 = (k : Int) ∧ x.2.length = (fmtG g).length) (fun r => r.length = (fmtG g).length) (by
      rintro m ⟨i, t⟩ ⟨k, hk, rfl, hi, ht⟩
      simp only at hi ht
      subst hi
      unfold lawParse_b1
      dsimp only
      by_cases hc : k < at_.length ∧ k < by_.length ∧ k < 2
      · refine .inl ?_
        have c1 : (k : Int) < (at_.length : Int) := by omega
        have c2 : (k : Int) < (by_.length : Int) := by omega
        have c3 : (k : Int) < 2 := by omega
        have hpos : (0 : Int) < (t.length : Int) := by omega
        rw [if_pos (by simp [c1, c2, c3]), if_pos (by omega), Int.toNat_natCast, List.getElem?_eq_getElem hc.1, Option.bind_some, within_eq hpos (by omega), Option.bind_some, if_pos (by omega), List.getElem?_eq_getElem hc.2.1, Option.bind_some]
        have m1 := Int.emod_nonneg at_[k] (by omega : (t.length : Int) ≠ 0)
        have m2 := Int.emod_lt_of_pos at_[k] hpos
        rw [if_pos ⟨m1, m2⟩, w64 (n := (k : Int) + 1) (by omega)]
        exact ⟨_, 2 - (k + 1), by omega, rfl, k + 1, by omega, rfl, rfl, by simp; exact ht⟩
      · refine .inr ?_
        rw [if_neg (by
          by_cases c1 : (k : Int) < (at_.length : Int)
          · by_cases c2 : (k : Int) < (by_.length : Int)
            · have c3 : ¬ (k : Int) < 2 := by omega
              simp [c3]
            · simp [c2]
          · simp [c1])]
        exact ⟨_, rfl, ht⟩) 2 ((0 : Int), intsB (fmtG g)) ⟨0, by omega, rfl, rfl, intsB_len _⟩
    rw [er, Option.bind_some]
    exact parse_tail h0 (by omega)
  unfold lawParse
  split
  · rename_i c
    simp only [decide_eq_true_eq] at c
    rw [if_pos (by omega)]
    exact main _ (by simp; omega)
  · rename_i c
    simp only [decide_eq_true_eq] at c
    exact main _ (by omega)

end Go.C
