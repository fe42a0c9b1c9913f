/- Plain laws of chapter 8: Format. No program in sight. -/
import Derived.Test.YtmjhpemmhnpilaaGreatDoorGl
set_option linter.unusedVariables false
set_option linter.unusedSimpArgs false
namespace Go.C
open Go.V

theorem sameGood_refl {g : ApiGood} (h : GOk g ∨ g = zeroG) : sameGood g g = some true := by
  have hw : g.Words.length ≤ 1000 := by
    rcases h with h | h
    · have := h.words.2.1; omega
    · subst h; simp
  have hm : g.Materials.length ≤ 1000 := by
    rcases h with h | h
    · have := h.mats.1; omega
    · subst h; simp
  have hp : g.Parts.length ≤ 1000 ∧ ∀ x, x ∈ g.Parts → x.Words.length ≤ 1000 := by
    rcases h with h | h
    · exact ⟨by have := h.parts.1; omega, fun x hx => by have := (h.parts.2 x hx).1.2.1; omega⟩
    · subst h; simp
  unfold sameGood
  rw [sameStrings_refl _ hw, Option.bind_some, if_neg (by simp)]
  have := loop_seq (f := sameGood_b1 g g) g.Materials.length (fun i => (i : Int)) (.inr ()) (fun i hi => by
    unfold sameGood_b1
    dsimp only
    rw [if_pos (by simp only [decide_eq_true_eq]; omega), if_pos (by omega), Int.toNat_natCast, List.getElem?_eq_getElem hi, Option.bind_some, if_pos (by omega), Option.bind_some, if_neg (by simp), w64 (n := (i : Int) + 1) (by omega)]; rfl)
    (by unfold sameGood_b1; dsimp only; rw [if_neg (by simp)])
  rw [show ((0 : Int)) = ((0 : Nat) : Int) from rfl, this, Option.bind_some]
  dsimp only
  unfold sameGood_j1
  rw [sameParts_refl _ hp.1 hp.2]; rfl

theorem format_both {g : ApiGood} (h : okApiGood g) : ∃ s, goodsFormat g = some s ∧ refFormatGood g = some s := by
  by_cases hv : gv g = 0
  · exact ⟨_, goodsFormat_ok hv, refFormat_ok h hv⟩
  · exact ⟨_, goodsFormat_bad hv, refFormat_bad h hv⟩

theorem lawFormat_true {l : List Int} {raw : ApiGood} (hl : l.length ≤ 9223372036854775807 ∧ ∀ x, x ∈ l → okI_i64 x) (hraw : okApiGood raw) : lawFormat l raw = some true := by
  unfold lawFormat
  obtain ⟨g, e2, hg⟩ := madeGood_ok l
  obtain ⟨v, e1, hv⟩ := small_ok hraw
  obtain ⟨s, e3, e4⟩ := format_both hv
  have hgv := hg.gv
  have hgo := gv_gok hgv
  rw [e2, Option.bind_some, goodsFormat_ok hgv, Option.bind_some, refFormat_ok hgo.ok hgv, Option.bind_some, if_pos (by simp), e1, Option.bind_some, if_pos (by simp), e3, Option.bind_some, Option.bind_some, if_pos (by simp), e4, Option.bind_some, if_neg (by simp), goodsParse_fmt hgv, Option.bind_some, if_pos (by simp), sameGood_refl (.inl hgo), Option.bind_some, if_pos (by simp), awake_true]
  simp

end Go.C
