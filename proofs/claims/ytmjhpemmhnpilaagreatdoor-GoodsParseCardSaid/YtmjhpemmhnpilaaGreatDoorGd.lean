/- Plain laws of chapter 8: the reference's Validate. No program in sight. -/
import Derived.Test.YtmjhpemmhnpilaaGreatDoorGc
set_option linter.unusedVariables false
set_option linter.unusedSimpArgs false
namespace Go.C
open Go.V

theorem ref_sums (g : ApiGood) (h1 : g.Materials.length ≤ 8) (h2 : g.Parts.length ≤ 6) (t : Bool) : refGood_j3 g t = some (if t = true then 2 else if (full (g.Materials.map (·.Share)) && full (g.Parts.map (·.Share))) = true then 0 else 1) := by
  unfold refGood_j3
  cases t with
  | true => rfl
  | false =>
    simp only [Bool.false_eq_true, if_false]
    have l1 := loop_fold (β := Int) g.Materials (refGood_b2 g) (fun i b => ((i : Int), b)) (fun b x => IntKind.i64.wrap (b + x.Share)) (fun b => b) (fun _ _ => True) (fun _ _ _ _ _ => trivial) (fun i x b _ hx => by
      have hlt := lt_of_get hx
      unfold refGood_b2
      dsimp only
      rw [if_pos (by simp only [decide_eq_true_eq]; omega), if_pos (by omega), Int.toNat_natCast, hx, Option.bind_some, w64 (n := (i : Int) + 1) (by omega)]
      rfl) (fun b _ => by unfold refGood_b2; dsimp only; rw [if_neg (by simp)]) 0 trivial
    rw [show ((0 : Int), (0 : Int)) = (((0 : Nat) : Int), (0 : Int)) from rfl, l1, Option.bind_some, foldl_sum (fun x : ApiMaterial => x.Share)]
    try dsimp only
    unfold refGood_j4
    have l2 := loop_fold (β := Int) g.Parts (refGood_b1 g (sumW (g.Materials.map (·.Share)))) (fun i b => ((i : Int), b)) (fun b x => IntKind.i64.wrap (b + x.Share)) (fun b => b) (fun _ _ => True) (fun _ _ _ _ _ => trivial) (fun i x b _ hx => by
      have hlt := lt_of_get hx
      unfold refGood_b1
      dsimp only
      rw [if_pos (by simp only [decide_eq_true_eq]; omega), if_pos (by omega), Int.toNat_natCast, hx, Option.bind_some, w64 (n := (i : Int) + 1) (by omega)]
      rfl) (fun b _ => by unfold refGood_b1; dsimp only; rw [if_neg (by simp)]) 0 trivial
    rw [show ((0 : Int), (0 : Int)) = (((0 : Nat) : Int), (0 : Int)) from rfl, l2, Option.bind_some, foldl_sum (fun x : ApiComponent => x.Share)]
    try dsimp only
    unfold refGood_j5 full
    have e1 : decide ((0 : Int) < (g.Materials.length : Int)) = !decide (g.Materials.map (·.Share) = []) := by
      cases g.Materials with
      | nil => rfl
      | cons x l => simp only [List.length_cons, List.map_cons]; simp
    have e2 : decide ((0 : Int) < (g.Parts.length : Int)) = !decide (g.Parts.map (·.Share) = []) := by
      cases g.Parts with
      | nil => rfl
      | cons x l => simp only [List.length_cons, List.map_cons]; simp
    rw [e1, e2]
    have e3 : ∀ x : Int, (x != 1000000) = !(x == 1000000) := fun _ => rfl
    rw [e3, e3]
    cases decide (g.Materials.map (·.Share) = []) <;> cases decide (g.Parts.map (·.Share) = []) <;> cases (sumW (g.Materials.map (·.Share)) == 1000000) <;> cases (sumW (g.Parts.map (·.Share)) == 1000000) <;> rfl

theorem refGood_eq (g : ApiGood) (hok : okApiGood g) : refGood g = some (gv g) := by
  obtain ⟨⟨hw1, hw2⟩, ⟨hm1, hm2⟩, ⟨hp1, hp2⟩⟩ := hok
  unfold refGood gv
  rw [refWords_eq _ hw1 hw2, Option.bind_some]
  have e0 : (bif (!wordsOk g.Words) then true else ((g.Words.length : Int) == (0 : Int))) = !some1 g.Words := by
    unfold some1
    cases g.Words with
    | nil => cases wordsOk [] <;> rfl
    | cons x l =>
      have e : (((x :: l).length : Int) == 0) = false := by simp only [List.length_cons, beq_eq_false_iff_ne, ne_eq]; omega
      rw [e]; cases wordsOk (x :: l) <;> rfl
  rw [e0]
  cases hw : some1 g.Words with
  | false => rfl
  | true =>
    simp only [Bool.not_true, Bool.false_eq_true, if_false, Bool.true_eq_false]
    by_cases hlim : 8 < g.Materials.length ∨ 6 < g.Parts.length
    · rw [if_pos hlim, if_pos]
      rcases hlim with h | h
      · have e : ((8 : Int) < (g.Materials.length : Int)) := by omega
        simp [e]
      · have e : ((6 : Int) < (g.Parts.length : Int)) := by omega
        simp [e]
    · rw [if_neg hlim, if_neg (by
        have e1 : ¬ ((8 : Int) < (g.Materials.length : Int)) := by omega
        have e2 : ¬ ((6 : Int) < (g.Parts.length : Int)) := by omega
        simp [e1, e2])]
      have step : ∀ (i : Nat) (x : ApiMaterial), g.Materials[i]? = some x → refGood_b5 g (i : Int) = if (!wp (g.Materials.map (·.Name)) i) = true then some (.inr (.inl 1)) else some (.inl ((i + 1 : Nat) : Int)) := fun i x hx => by
        have hlt := lt_of_get hx
        unfold refGood_b5
        dsimp only
        rw [if_pos (by simp only [decide_eq_true_eq]; omega), if_pos (by omega), Int.toNat_natCast, hx, Option.bind_some, refWord_eq x.Name (hm2 x (List.mem_of_getElem? hx)).1, Option.bind_some]
        rw [if_pos (fun h => by
          have : (0 : Int) < (i : Int) := by simp at h; omega
          rw [w64 (by omega)]; omega)]
        have hn : ∀ j, (g.Materials.map (·.Name)).getD j default = (g.Materials.getD j default).Name := fun j => by
          simp only [List.getD_eq_getElem?_getD, List.getElem?_map]
          cases g.Materials[j]? <;> rfl
        rw [← wp_cond, hn, hn, getD_of hx, w64 (n := (i : Int) + 1) (by omega)]
        by_cases h0 : i = 0
        · subst h0; rfl
        · rw [pre_nat (by omega) (by omega)]; rfl
      have l1 := loop_list (β := Unit) g.Materials (refGood_b5 g) (fun i _ => (i : Int)) (fun _ _ => ()) (wp (g.Materials.map (·.Name))) (.inl (1 : Int)) (fun _ => .inr ()) (fun _ _ => True) (fun _ _ _ _ _ => trivial)
        (fun i x b _ hx hp => by rw [step i x hx, hp]; rfl) (fun i x b _ hx hp => by rw [step i x hx, hp]; rfl) (fun b _ => by unfold refGood_b5; dsimp only; rw [if_neg (by simp)]) () trivial
      rw [show ((0 : Int) = ((0 : Nat) : Int)) from rfl, l1]
      cases hm : (List.range g.Materials.length).all (wp (g.Materials.map (·.Name))) with
      | false => rfl
      | true =>
        simp only [if_true, Option.bind_some, Bool.true_eq_false, if_false]
        unfold refGood_j1
        have cnd : ∀ (i : Nat) (x : ApiComponent), g.Parts[i]? = some x → (bif (!wordsOk x.Words) then true else ((x.Words.length : Int) == (0 : Int))) = !some1 x.Words := fun i x hx => by
          unfold some1
          cases x.Words with
          | nil => cases wordsOk [] <;> rfl
          | cons y l =>
            have e : (((y :: l).length : Int) == 0) = false := by simp only [List.length_cons, beq_eq_false_iff_ne, ne_eq]; omega
            rw [e]; cases wordsOk (y :: l) <;> rfl
        have l2 := loop_list (β := Bool) g.Parts (refGood_b4 g) (fun i b => ((i : Int), b)) (fun b x => bif (bif b then true else (decide (x.Share < (1 : Int)))) then true else (decide ((1000000 : Int) < x.Share))) (fun i => some1 (g.Parts.getD i default).Words) (.inl (1 : Int)) (fun b => .inr b) (fun _ _ => True) (fun _ _ _ _ _ => trivial)
          (fun i x b _ hx hp => by
            have hlt := lt_of_get hx
            rw [getD_of hx] at hp
            have hr := (hp2 x (List.mem_of_getElem? hx)).1
            unfold refGood_b4
            dsimp only
            rw [if_pos (by simp only [decide_eq_true_eq]; omega), if_pos (by omega), Int.toNat_natCast, hx, Option.bind_some, refWords_eq _ hr.1 hr.2, Option.bind_some, if_pos (fun _ => by omega), getD_of hx, cnd i x hx, hp, if_neg (by simp), if_pos (fun _ => by omega), if_pos (fun _ => by omega), w64 (n := (i : Int) + 1) (by omega)]
            rfl)
          (fun i x b _ hx hp => by
            have hlt := lt_of_get hx
            rw [getD_of hx] at hp
            have hr := (hp2 x (List.mem_of_getElem? hx)).1
            unfold refGood_b4
            dsimp only
            rw [if_pos (by simp only [decide_eq_true_eq]; omega), if_pos (by omega), Int.toNat_natCast, hx, Option.bind_some, refWords_eq _ hr.1 hr.2, Option.bind_some, if_pos (fun _ => by omega), getD_of hx, cnd i x hx, hp]
            rfl)
          (fun b _ => by unfold refGood_b4; dsimp only; rw [if_neg (by simp)]) false trivial
        rw [show ((0 : Int), false) = (((0 : Nat) : Int), false) from rfl, l2, range_all (fun p : ApiComponent => some1 p.Words), foldl_far (fun x : ApiComponent => x.Share)]
        cases hp : (g.Parts.all fun p => some1 p.Words) with
        | false => rfl
        | true =>
          simp only [if_true, Option.bind_some, Bool.true_eq_false, if_false, Bool.false_or]
          unfold refGood_j2
          have l3 := loop_fold (β := Bool) g.Materials (refGood_b3 g) (fun i b => ((i : Int), b)) (fun b x => bif (bif b then true else (decide (x.Share < (1 : Int)))) then true else (decide ((1000000 : Int) < x.Share))) (fun b => b) (fun _ _ => True) (fun _ _ _ _ _ => trivial)
            (fun i x b _ hx => by
              have hlt := lt_of_get hx
              unfold refGood_b3
              dsimp only
              rw [if_pos (by simp only [decide_eq_true_eq]; omega), if_pos (fun _ => by omega), if_pos (fun _ => by omega), Int.toNat_natCast, getD_of hx, w64 (n := (i : Int) + 1) (by omega)]
              rfl)
            (fun b _ => by unfold refGood_b3; dsimp only; rw [if_neg (by simp)]) (far (g.Parts.map (·.Share))) trivial
          rw [show ∀ b : Bool, ((0 : Int), b) = (((0 : Nat) : Int), b) from fun _ => rfl, l3, Option.bind_some, foldl_far (fun x : ApiMaterial => x.Share)]
          try dsimp only
          rw [ref_sums g (by omega) (by omega)]
          unfold gvTail
          cases far (g.Parts.map (·.Share)) <;> cases far (g.Materials.map (·.Share)) <;> rfl

end Go.C
