/- Plain laws of chapter 8: Validate is the reference's. No program in sight. -/
import Derived.Test.YtmjhpemmhnpilaaGreatDoorGb
set_option linter.unusedVariables false
set_option linter.unusedSimpArgs false
namespace Go.C
open Go.V

def sumW (l : List Int) : Int := l.foldl (fun s x => IntKind.i64.wrap (s + x)) 0
def out1 (x : Int) : Bool := bif (decide (x < (1 : Int))) then true else (decide ((1000000 : Int) < x))
def far (l : List Int) : Bool := l.any out1
def full (l : List Int) : Bool := decide (l = []) || (sumW l == 1000000)
def gvTail (ms ps : List Int) : Int := if (far ms || far ps) = true then 2 else if (full ms && full ps) = true then 0 else 1
def some1 (l : List Str) : Bool := decide (l ≠ []) && wordsOk l
def gv (g : ApiGood) : Int :=
  if some1 g.Words = false then 1
  else if 8 < g.Materials.length ∨ 6 < g.Parts.length then 8
  else if (List.range g.Materials.length).all (wp (g.Materials.map (·.Name))) = false then 1
  else if (g.Parts.all fun p => some1 p.Words) = false then 1
  else gvTail (g.Materials.map (·.Share)) (g.Parts.map (·.Share))

theorem range_all {α : Type} (q : α → Bool) (d : α) : ∀ xs : List α, ((List.range xs.length).all fun i => q (xs.getD i d)) = xs.all q := by
  intro xs
  rw [Bool.eq_iff_iff, List.all_eq_true, List.all_eq_true]
  constructor
  · intro h x hx
    obtain ⟨i, hi, rfl⟩ := List.getElem_of_mem hx
    have := h i (List.mem_range.2 hi)
    rwa [List.getD_eq_getElem?_getD, List.getElem?_eq_getElem hi] at this
  · intro h i hi
    have hi := List.mem_range.1 hi
    rw [List.getD_eq_getElem?_getD, List.getElem?_eq_getElem hi]
    exact h _ (List.getElem_mem hi)
theorem all_out (l : List Int) : (l.all fun x => !out1 x) = !far l := by
  unfold far
  induction l with
  | nil => rfl
  | cons x l ih => simp only [List.all_cons, List.any_cons, ih]; cases out1 x <;> cases l.any out1 <;> rfl

theorem complete_eq (l : List Int) (hl : l.length ≤ 1000) : complete l = some (full l) := by
  have := loop_fold (β := Int) l (complete_b1 l) (fun i b => ((i : Int), b)) (fun b x => IntKind.i64.wrap (b + x)) (fun b => b) (fun _ _ => True) (fun _ _ _ _ _ => trivial) (fun i x b _ hx => by
    have hlt := lt_of_get hx
    unfold complete_b1
    dsimp only
    rw [if_pos (by simp; omega), if_pos (by omega), Int.toNat_natCast, hx, Option.bind_some, w64 (n := (i : Int) + 1) (by omega)]
    rfl) (fun b _ => by unfold complete_b1; dsimp only; rw [if_neg (by simp)]) 0 trivial
  unfold complete
  rw [show ((0 : Int), (0 : Int)) = (((0 : Nat) : Int), (0 : Int)) from rfl, this, Option.bind_some]
  unfold complete_j1 full sumW
  cases l with
  | nil => rfl
  | cons x l =>
    have e : (((x :: l).length : Int) == 0) = false := by simp only [List.length_cons, beq_eq_false_iff_ne, ne_eq]; omega
    rw [e]; simp

theorem concatInt_eq (a b : List Int) (ha : a.length ≤ 1000) (hb : b.length ≤ 1000) : concatInt [a, b] = some (a ++ b) := by
  have e1 : loopO (concatInt_b2 [a, b]) ((0 : Int), (0 : Int)) = some ((a.length : Int) + (b.length : Int)) := by
    rw [loop_step (x := ((1 : Int), (a.length : Int)))]
    · rw [loop_step (x := ((2 : Int), (a.length : Int) + (b.length : Int)))]
      · rw [loop_stop]
        unfold concatInt_b2; rfl
      · unfold concatInt_b2
        dsimp only
        rw [if_pos (by rfl), if_pos (by decide)]
        show Option.bind (some b) _ = _
        rw [Option.bind_some, w64 (n := (a.length : Int) + (b.length : Int)) (by omega), if_neg (by simp; omega)]; rfl
    · unfold concatInt_b2
      dsimp only
      rw [if_pos (by rfl), if_pos (by decide)]
      show Option.bind (some a) _ = _
      rw [Option.bind_some, w64 (n := (0 : Int) + (a.length : Int)) (by omega), if_neg (by simp), Int.zero_add (a.length : Int)]; rfl
  have e2 : growInt ((a.length : Int) + (b.length : Int)) = some [] := by
    unfold growInt growInt_j1
    rw [if_neg (by simp; omega)]
    have : (IntKind.i64.wrap (((a.length : Int) + (b.length : Int)) - (IntKind.i64.wrap ((0 : Int) - (0 : Int))))) = (a.length : Int) + (b.length : Int) := by rw [w64 (n := (0 : Int) - 0) (by omega), w64 (by omega)]; omega
    rw [this]
    split
    · rename_i h; rw [if_pos (by simp at h; omega)]
    · rfl
  have e3 : loopO (concatInt_b1 [a, b]) ((0 : Int), []) = some (a ++ b) := by
    rw [loop_step (x := ((1 : Int), a))]
    · rw [loop_step (x := ((2 : Int), a ++ b))]
      · rw [loop_stop]
        unfold concatInt_b1; rfl
      · unfold concatInt_b1
        dsimp only
        rw [if_pos (by rfl), if_pos (by decide)]
        show Option.bind (some b) _ = _
        rw [Option.bind_some, if_pos (by omega)]; rfl
    · unfold concatInt_b1
      dsimp only
      rw [if_pos (by rfl), if_pos (by decide)]
      show Option.bind (some a) _ = _
      rw [Option.bind_some, if_pos (by simp; omega)]; rfl
  unfold concatInt
  rw [e1, Option.bind_some]
  unfold concatInt_j1
  dsimp only
  rw [e2, Option.bind_some, e3, Option.bind_some]
  rfl

theorem foldl2 {α β γ : Type} (f : α → β) (g : α → γ) : ∀ (xs : List α) (a : List β) (b : List γ), xs.foldl (fun (s : List β × List γ) x => (s.1 ++ [f x], s.2 ++ [g x])) (a, b) = (a ++ xs.map f, b ++ xs.map g)
  | [], a, b => by simp
  | x :: xs, a, b => by rw [List.foldl_cons, foldl2 f g xs]; simp
theorem foldl1 {α β γ : Type} (f : α → β) : ∀ (xs : List α) (a : List β) (b : γ), xs.foldl (fun (s : List β × γ) x => (s.1 ++ [f x], s.2)) (a, b) = (a ++ xs.map f, b)
  | [], a, b => by simp
  | x :: xs, a, b => by rw [List.foldl_cons, foldl1 f xs]; simp
theorem foldl_far {α : Type} (f : α → Int) : ∀ (xs : List α) (b : Bool), xs.foldl (fun s x => bif (bif s then true else (decide (f x < (1 : Int)))) then true else (decide ((1000000 : Int) < f x))) b = (b || far (xs.map f))
  | [], b => by simp [far]
  | x :: xs, b => by
    rw [List.foldl_cons, foldl_far f xs]
    have : far ((x :: xs).map f) = (out1 (f x) || far (xs.map f)) := rfl
    rw [this]
    unfold out1
    cases b <;> cases decide (f x < 1) <;> cases decide (1000000 < f x) <;> rfl
theorem foldl_sum {α : Type} (f : α → Int) (xs : List α) : xs.foldl (fun s x => IntKind.i64.wrap (s + f x)) 0 = sumW (xs.map f) := by
  unfold sumW; rw [List.foldl_map]

theorem validate_tail (ms ps : List Int) (h1 : ms.length ≤ 8) (h2 : ps.length ≤ 6) : goodsValidate_j2 ps ms = some (gvTail ms ps) := by
  unfold goodsValidate_j2
  rw [concatInt_eq ms ps (by omega) (by omega), Option.bind_some]
  have := loop_list (β := Unit) (ms ++ ps) (goodsValidate_b1 ps ms (ms ++ ps)) (fun i _ => ((i : Int), ms ++ ps)) (fun _ _ => ()) (fun i => !out1 ((ms ++ ps).getD i default)) (.inl (2 : Int)) (fun _ => .inr ()) (fun _ _ => True) (fun _ _ _ _ _ => trivial)
    (fun i x b _ hx hp => by
      have hlt := lt_of_get hx
      have hl2 : (ms ++ ps).length ≤ 14 := by simp; omega
      unfold goodsValidate_b1
      dsimp only
      rw [if_pos (by simp only [decide_eq_true_eq]; omega), if_pos (by omega), Int.toNat_natCast]
      simp only [out1, Bool.not_eq_true'] at hp
      rw [hp, w64 (n := (i : Int) + 1) (by omega)]; rfl)
    (fun i x b _ hx hp => by
      have hlt := lt_of_get hx
      unfold goodsValidate_b1
      dsimp only
      rw [if_pos (by simp only [decide_eq_true_eq]; omega), if_pos (by omega), Int.toNat_natCast]
      simp only [out1, Bool.not_eq_false'] at hp
      rw [hp]; rfl)
    (fun b _ => by unfold goodsValidate_b1; dsimp only; rw [if_neg (by simp)]) () trivial
  rw [show ((0 : Int), ms ++ ps) = (((0 : Nat) : Int), ms ++ ps) from rfl, this, range_all (fun x => !out1 x), all_out]
  have hf : far (ms ++ ps) = (far ms || far ps) := by simp [far]
  rw [hf]
  unfold gvTail
  cases hfar : (far ms || far ps) with
  | true => rfl
  | false =>
    simp only [Bool.not_false, if_true, Option.bind_some, Bool.false_eq_true, if_false]
    unfold goodsValidate_j3
    rw [complete_eq ms (by omega), complete_eq ps (by omega), Option.bind_some]
    cases full ms <;> cases full ps <;> rfl

theorem goodsValidate_eq (g : ApiGood) : goodsValidate g = some (gv g) := by
  unfold goodsValidate gv
  rw [described_eq, Option.bind_some]
  show (if (!some1 g.Words) = true then _ else _) = _
  cases hw : some1 g.Words with
  | false => rfl
  | true =>
    simp only [Bool.not_true, Bool.false_eq_true, if_false, Bool.true_eq_false]
    by_cases hlim : 8 < g.Materials.length ∨ 6 < g.Parts.length
    · rw [if_pos hlim, if_pos]
      rcases hlim with h | h
      · have e : ((8 : Int) < (g.Materials.length : Int)) := by omega
        simp [e]
      · have e : ((6 : Int) < (g.Parts.length : Int)) := by omega
        simp [e]
    · rw [if_neg hlim, if_neg (by
        have e1 : ¬ ((8 : Int) < (g.Materials.length : Int)) := by omega
        have e2 : ¬ ((6 : Int) < (g.Parts.length : Int)) := by omega
        simp [e1, e2])]
      have l1 := loop_fold (β := List Int × List Str) g.Materials (goodsValidate_b3 g) (fun i b => ((i : Int), b.1, b.2)) (fun b x => (b.1 ++ [x.Share], b.2 ++ [x.Name])) (fun b => (b.1, b.2)) (fun i b => b.1.length = i ∧ b.2.length = i)
        (fun i x b hI hx => by simp [hI.1, hI.2])
        (fun i x b hI hx => by
          have hlt := lt_of_get hx
          unfold goodsValidate_b3
          dsimp only
          rw [if_pos (by simp only [decide_eq_true_eq]; omega), if_pos (by omega), Int.toNat_natCast, hx, Option.bind_some, if_pos (by rw [hI.2]; simp; omega), if_pos (by rw [hI.1]; simp; omega), w64 (n := (i : Int) + 1) (by omega)]
          rfl)
        (fun b hI => by unfold goodsValidate_b3; dsimp only; rw [if_neg (by simp)]) ([], []) ⟨rfl, rfl⟩
      rw [show ((0 : Int), ([] : List Int), ([] : List Str)) = (((0 : Nat) : Int), ([] : List Int), ([] : List Str)) from rfl]
      rw [l1, foldl2 (fun x : ApiMaterial => x.Share) (fun x : ApiMaterial => x.Name), Option.bind_some]
      simp only [List.nil_append]
      unfold goodsValidate_j1
      rw [validWords_eq, Option.bind_some]
      have hwk : wordsOk (g.Materials.map (·.Name)) = (List.range g.Materials.length).all (wp (g.Materials.map (·.Name))) := by
        unfold wordsOk
        rw [List.length_map]
        have : g.Materials.length ≤ 8 := by omega
        simp [this]
      rw [hwk]
      cases hm : (List.range g.Materials.length).all (wp (g.Materials.map (·.Name))) with
      | false => rfl
      | true =>
        simp only [Bool.not_true, Bool.false_eq_true, if_false, Bool.true_eq_false]
        have l2 := loop_list (β := List Int × List Int) g.Parts (goodsValidate_b2 g) (fun i b => ((i : Int), b.1, b.2)) (fun b x => (b.1 ++ [x.Share], b.2)) (fun i => some1 (g.Parts.getD i default).Words) (.inl (1 : Int)) (fun b => .inr (b.1, b.2)) (fun i b => b.1.length = i)
          (fun i x b hI hx => by simp [hI])
          (fun i x b hI hx hp => by
            have hlt := lt_of_get hx
            rw [getD_of hx] at hp
            unfold goodsValidate_b2
            dsimp only
            rw [if_pos (by simp only [decide_eq_true_eq]; omega), if_pos (by omega), Int.toNat_natCast, hx, Option.bind_some, described_eq, Option.bind_some]
            show (if (!some1 x.Words) = true then _ else _) = _
            rw [hp, if_neg (by simp), if_pos (by rw [hI]; simp; omega), w64 (n := (i : Int) + 1) (by omega)]
            rfl)
          (fun i x b hI hx hp => by
            have hlt := lt_of_get hx
            rw [getD_of hx] at hp
            unfold goodsValidate_b2
            dsimp only
            rw [if_pos (by simp only [decide_eq_true_eq]; omega), if_pos (by omega), Int.toNat_natCast, hx, Option.bind_some, described_eq, Option.bind_some]
            show (if (!some1 x.Words) = true then _ else _) = _
            rw [hp]; rfl)
          (fun b hI => by unfold goodsValidate_b2; dsimp only; rw [if_neg (by simp)]) ([], g.Materials.map (·.Share)) rfl
        rw [show ((0 : Int), ([] : List Int), g.Materials.map (·.Share)) = (((0 : Nat) : Int), ([] : List Int), g.Materials.map (·.Share)) from rfl]
        rw [l2, range_all (fun p : ApiComponent => some1 p.Words), foldl1 (fun x : ApiComponent => x.Share)]
        cases hp : (g.Parts.all fun p => some1 p.Words) with
        | false => rfl
        | true =>
          simp only [if_true, Option.bind_some, Bool.true_eq_false, if_false, List.nil_append]
          exact validate_tail _ _ (by simp; omega) (by simp; omega)

end Go.C
