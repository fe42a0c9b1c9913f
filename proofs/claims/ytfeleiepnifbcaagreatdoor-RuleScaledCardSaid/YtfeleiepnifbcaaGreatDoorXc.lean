/- Plain laws of chapter 12: rules of parts: what holds, by which path. No program in sight. -/
import Derived.Test.YtfeleiepnifbcaaGreatDoorXb
import Derived.Test.YtfeleiepnifbcaaGreatDoorPv
set_option linter.unusedVariables false
set_option linter.unusedSimpArgs false
set_option maxHeartbeats 1000000
namespace Go.C
open Go.V

/-! ### What holds -/
def hS : Nat → ApiRule → ApiCase → Bool
  | 0, _, _ => false
  | n + 1, r, c => if r.Kind = 5 then r.Args.all (fun a => hS n a c) else if r.Kind = 6 then r.Args.any (fun a => hS n a c) else leafS r c
theorem hS_succ (n : Nat) (r : ApiRule) (c : ApiCase) : hS (n + 1) r c = if r.Kind = 5 then r.Args.all (fun a => hS n a c) else if r.Kind = 6 then r.Args.any (fun a => hS n a c) else leafS r c := rfl
def RV : Nat → ApiRule → Prop
  | 0, _ => False
  | n + 1, r => LOk r ∧ (1 ≤ r.Kind ∧ r.Kind ≤ 6) ∧ r.Args.length ≤ 6 ∧ (r.Kind < 5 → r.Args = []) ∧ ∀ a, a ∈ r.Args → RV n a
theorem RV.lok : ∀ {n : Nat} {r : ApiRule}, RV n r → LOk r
  | n + 1, _, h => h.1
theorem cnt_all {α : Type} (p : α → Bool) : ∀ l : List α, ((l.filter p).length = l.length) ↔ l.all p = true
  | [] => by simp
  | x :: l => by
    have h1 := List.length_filter_le p l
    have h2 := cnt_all p l
    cases hp : p x with
    | true => rw [List.filter_cons_of_pos hp, List.all_cons, hp, Bool.true_and, ← h2]; simp
    | false => rw [List.filter_cons_of_neg (by simp [hp]), List.all_cons, hp, Bool.false_and]; simp; omega
theorem cnt_any {α : Type} (p : α → Bool) (l : List α) : (0 < (l.filter p).length) ↔ l.any p = true := by
  rw [List.length_pos_iff, ne_eq, List.filter_eq_nil_iff, List.any_eq_true]
  constructor
  · intro h
    refine Classical.byContradiction fun h2 => h fun a ha h3 => h2 ⟨a, ha, h3⟩
  · rintro ⟨a, h1, h2⟩ h
    exact h a h1 h2
theorem rHolds_eq {c : ApiCase} (hc : COk c) : ∀ (n : Nat) (r : ApiRule) (k : Nat), RV n r → n ≤ k → rHolds_n k r c = some (hS n r c)
  | 0, _, _, h, _ => h.elim
  | n + 1, r, 0, _, hk => by omega
  | n + 1, r, k + 1, h, hk => by
    obtain ⟨hr, hkd, hal, hleaf, hargs⟩ := h
    have ih := rHolds_eq hc n
    have hcl := lvl_of hc.code
    have hl := hc.few
    have hpr := hc.price
    have hwl := wordsOk_len hc.words
    show rHolds_F (rHolds_n k) r c = _
    unfold rHolds_F
    have hloop := loop_seq (f := rHolds_b2 (rHolds_n k) r c) c.Inputs.length (fun i => ((i : Int), ((c.Inputs.take i).map cv).sum, ((c.Inputs.take i).map (rvv r c)).sum)) ((c.Inputs.map cv).sum, (c.Inputs.map (rvv r c)).sum) (fun i hi => by
      have b1 := sum_all cv 1 (cv_b c) (by decide) hl i
      have b2 := sum_all (rvv r c) 1000000000000 (rvv_b hc r) (by decide) hl i
      have hx := hc.ins _ (List.getElem_mem hi)
      have hxl := lvl_of hx.1
      rw [sum_take cv hi, sum_take (rvv r c) hi]
      unfold rHolds_b2 rHolds_j4
      dsimp only
      rw [if_pos (decide_eq_true (by omega)), if_pos (by omega), Int.toNat_natCast, List.getElem?_eq_getElem hi, Option.bind_some, w64 (n := (i : Int) + 1) (by omega)]
      unfold cv rvv
      unfold cv at b1; unfold rvv at b2
      cases ho : c.Inputs[i].Originating with
      | true => simp
      | false =>
        simp only [Bool.false_eq_true, if_false]
        by_cases h3 : r.Kind = 3
        · have e3 : (r.Kind == (3 : Int)) = true := beq_iff_eq.2 h3
          rw [e3, if_neg (by simp), Option.bind_some, cond_true, if_pos rfl, if_pos (.inl h3), w64 (by omega), w64 (by omega)]; rfl
        · have e3 : (r.Kind == (3 : Int)) = false := beq_eq_false_iff_ne.2 h3
          by_cases h2 : r.Kind = 2
          · have e2 : (r.Kind == (2 : Int)) = true := beq_iff_eq.2 h2
            rw [e3, e2, if_pos (by rfl), rViolates_eq hr h2 (by omega) (by omega), Option.bind_some, cond_false, cond_true]
            cases hv : viol r c.Code c.Inputs[i] with
            | true => rw [if_pos rfl, if_pos (.inr ⟨h2, rfl⟩), w64 (by omega), w64 (by omega)]; rfl
            | false => rw [if_neg (by simp), if_neg (fun e => e.elim h3 fun e => by cases e.2), w64 (by omega), Int.add_zero]; rfl
          · have e2 : (r.Kind == (2 : Int)) = false := beq_eq_false_iff_ne.2 h2
            rw [e3, e2, if_neg (by simp), Option.bind_some, cond_false, cond_false, if_neg (by simp), if_neg (fun e => e.elim h3 fun e => h2 e.1), w64 (by omega), Int.add_zero]; rfl) (by
      unfold rHolds_b2
      dsimp only
      rw [if_neg (by simp), List.take_length])
    have hloop' : loopO (rHolds_b2 (rHolds_n k) r c) ((0 : Int), (0 : Int), (0 : Int)) = some ((c.Inputs.map cv).sum, (c.Inputs.map (rvv r c)).sum) := hloop
    rw [hloop', Option.bind_some]
    show rHolds_j1 (rHolds_n k) r c (c.Inputs.map cv).sum (c.Inputs.map (rvv r c)).sum = _
    unfold rHolds_j1
    have hloop2 := loop_seq (f := rHolds_b1 (rHolds_n k) r c (c.Inputs.map cv).sum (c.Inputs.map (rvv r c)).sum) r.Args.length (fun i => ((i : Int), (((r.Args.take i).filter (fun a => hS n a c)).length : Int))) ((r.Args.filter (fun a => hS n a c)).length : Int) (fun i hi => by
      have ha := hargs _ (List.getElem_mem hi)
      have hfl : ((r.Args.take i).filter (fun a => hS n a c)).length ≤ 6 := Nat.le_trans (List.length_filter_le _ _) (by rw [List.length_take]; omega)
      unfold rHolds_b1 rHolds_j3
      dsimp only
      rw [if_pos (decide_eq_true (by omega)), if_pos (by omega), Int.toNat_natCast, List.getElem?_eq_getElem hi, Option.bind_some, ih _ k ha (by omega), Option.bind_some, w64 (n := (i : Int) + 1) (by omega), take_snoc hi, List.filter_append]
      cases hb : hS n r.Args[i] c with
      | true => rw [if_pos rfl, w64 (by omega), List.length_append]; simp [hb]
      | false => rw [if_neg (by simp)]; simp [hb]) (by
      unfold rHolds_b1
      dsimp only
      rw [if_neg (by simp), List.take_length])
    have hloop2' : loopO (rHolds_b1 (rHolds_n k) r c (c.Inputs.map cv).sum (c.Inputs.map (rvv r c)).sum) ((0 : Int), (0 : Int)) = some ((r.Args.filter (fun a => hS n a c)).length : Int) := by simpa using hloop2
    rw [hloop2', Option.bind_some]
    show rHolds_j2 (rHolds_n k) r c (c.Inputs.map cv).sum (c.Inputs.map (rvv r c)).sum ((r.Args.filter (fun a => hS n a c)).length : Int) = _
    have b2 := sum_all (rvv r c) 1000000000000 (rvv_b hc r) (by decide) hl c.Inputs.length
    rw [List.take_length] at b2
    rw [hS_succ]
    unfold rHolds_j2 leafS
    by_cases k5 : r.Kind = 5
    · rw [if_pos k5, k5]
      simp only [show ((5 : Int) == 1) = false from rfl, show ((5 : Int) == 2) = false from rfl, show ((5 : Int) == 3) = false from rfl, show ((5 : Int) == 4) = false from rfl, show ((5 : Int) == 5) = true from rfl, Bool.false_eq_true, if_false, if_true]
      congr 1
      have := cnt_all (fun a => hS n a c) r.Args
      rw [Bool.eq_iff_iff, beq_iff_eq, ← this]; omega
    by_cases k6 : r.Kind = 6
    · rw [if_neg k5, if_pos k6, k6]
      simp only [show ((6 : Int) == 1) = false from rfl, show ((6 : Int) == 2) = false from rfl, show ((6 : Int) == 3) = false from rfl, show ((6 : Int) == 4) = false from rfl, show ((6 : Int) == 5) = false from rfl, Bool.false_eq_true, if_false, if_true]
      congr 1
      have := cnt_any (fun a => hS n a c) r.Args
      rw [Bool.eq_iff_iff, decide_eq_true_eq, ← this]; omega
    rw [if_neg k5, if_neg k6]
    by_cases k1 : r.Kind = 1
    · rw [if_pos (beq_iff_eq.2 k1), if_pos k1]
      cases c.Obtained <;> rfl
    rw [if_neg (fun e => k1 (beq_iff_eq.1 e)), if_neg k1]
    by_cases k2 : r.Kind = 2
    · have e : c.Inputs.map (rvv r c) = c.Inputs.map (vv r c) := List.map_congr_left fun x _ => by
        unfold rvv vv; simp [k2]
      rw [e] at b2 ⊢
      rw [if_pos (beq_iff_eq.2 k2), if_pos k2, rWithin_eq ⟨b2.1, by omega⟩ hr.tol ⟨by omega, by omega⟩]; rfl
    rw [if_neg (fun e => k2 (beq_iff_eq.1 e)), if_neg k2]
    by_cases k3 : r.Kind = 3
    · have e : c.Inputs.map (rvv r c) = c.Inputs.map fv := List.map_congr_left fun x _ => by
        unfold rvv fv; simp [k3]
      rw [e] at b2 ⊢
      rw [if_pos (beq_iff_eq.2 k3), if_pos k3, rWithin_eq ⟨b2.1, by omega⟩ hr.lim ⟨by omega, by omega⟩]; rfl
    rw [if_neg (fun e => k3 (beq_iff_eq.1 e)), if_neg k3]
    have k4 : r.Kind = 4 := by omega
    rw [if_pos (beq_iff_eq.2 k4), if_pos k4, refHas_eq _ (by omega)]; rfl
end Go.C
