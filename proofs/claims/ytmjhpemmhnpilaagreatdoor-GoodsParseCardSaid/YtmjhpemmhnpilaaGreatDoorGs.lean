/- Plain laws of chapter 8: lists that are the same. No program in sight. -/
import Derived.Test.YtmjhpemmhnpilaaGreatDoorGg
import Derived.Test.YtmjhpemmhnpilaaGreatDoorPd
set_option linter.unusedVariables false
set_option linter.unusedSimpArgs false
namespace Go.C
open Go.V

theorem sameStrings_refl (l : List Str) (hl : l.length ≤ 1000) : sameStrings l l = some true := by
  unfold sameStrings
  rw [if_neg (by simp)]
  have := loop_fold (β := Unit) l (sameStrings_b1 l l) (fun i _ => (i : Int)) (fun _ _ => ()) (fun _ => .inr ()) (fun _ _ => True) (fun _ _ _ _ _ => trivial) (fun i x b _ hx => by
    have hlt := lt_of_get hx
    unfold sameStrings_b1
    dsimp only
    rw [if_pos (by simp only [decide_eq_true_eq]; omega), if_pos (by omega), Int.toNat_natCast, hx, Option.bind_some, if_pos (by omega), Option.bind_some, if_neg (by simp), w64 (n := (i : Int) + 1) (by omega)]
    rfl) (fun b _ => by unfold sameStrings_b1; dsimp only; rw [if_neg (by simp)]) () trivial
  rw [show ((0 : Int) = ((0 : Nat) : Int)) from rfl, this]; rfl
theorem sameParts_refl (l : List ApiComponent) (hl : l.length ≤ 1000) (hw : ∀ x, x ∈ l → x.Words.length ≤ 1000) : sameParts l l = some true := by
  unfold sameParts
  rw [if_neg (by simp)]
  have := loop_fold (β := Unit) l (sameParts_b1 l l) (fun i _ => (i : Int)) (fun _ _ => ()) (fun _ => .inr ()) (fun _ _ => True) (fun _ _ _ _ _ => trivial) (fun i x b _ hx => by
    have hlt := lt_of_get hx
    unfold sameParts_b1
    dsimp only
    rw [if_pos (by simp only [decide_eq_true_eq]; omega), if_pos (by omega), Int.toNat_natCast, hx, Option.bind_some, if_pos (by omega), Option.bind_some, if_pos (fun _ => by omega), if_pos (fun _ => by omega), if_pos (by simp), getD_of hx, sameStrings_refl _ (hw x (List.mem_of_getElem? hx)), Option.bind_some, if_neg (by simp), w64 (n := (i : Int) + 1) (by omega)]
    rfl) (fun b _ => by unfold sameParts_b1; dsimp only; rw [if_neg (by simp)]) () trivial
  rw [show ((0 : Int) = ((0 : Nat) : Int)) from rfl, this]; rfl

end Go.C
