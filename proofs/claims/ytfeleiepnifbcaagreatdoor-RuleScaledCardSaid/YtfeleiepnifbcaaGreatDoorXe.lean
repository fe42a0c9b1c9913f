/- Plain laws of chapter 12: the program's tests. No program in sight. -/
import Derived.Test.YtfeleiepnifbcaaGreatDoorXd
set_option linter.unusedVariables false
set_option linter.unusedSimpArgs false
set_option maxHeartbeats 1000000
namespace Go.C
open Go.V

/-! ### The tests of a rule -/
def tst : Nat → ApiRule → RuleTest
  | 0, r => .one ⟨r⟩
  | n + 1, r => if r.Kind = 5 then .all (r.Args.map (tst n)) else if r.Kind = 6 then .any (r.Args.map (tst n)) else .one ⟨r⟩
theorem tst_succ (n : Nat) (r : ApiRule) : tst (n + 1) r = if r.Kind = 5 then .all (r.Args.map (tst n)) else if r.Kind = 6 then .any (r.Args.map (tst n)) else .one ⟨r⟩ := rfl
theorem testOf_eq : ∀ (n : Nat) (r : ApiRule) (k : Nat), RV n r → n ≤ k → testOf_n k r = some (tst n r)
  | 0, _, _, h, _ => h.elim
  | n + 1, r, 0, _, hk => by omega
  | n + 1, r, k + 1, h, hk => by
    obtain ⟨hr, hkd, hal, hleaf, hargs⟩ := h
    have ih := fun a ha => testOf_eq n a k (hargs a ha) (by omega)
    show testOf_F (testOf_n k) r = _
    unfold testOf_F
    have hloop := loop_seq (f := testOf_b1 (testOf_n k) r) r.Args.length (fun i => ((i : Int), (r.Args.take i).map (tst n))) (r.Args.map (tst n)) (fun i hi => by
      unfold testOf_b1
      dsimp only
      rw [if_pos (decide_eq_true (by omega)), if_pos (by omega), Int.toNat_natCast, List.getElem?_eq_getElem hi, Option.bind_some, ih _ (List.getElem_mem hi), Option.bind_some, if_pos (by simp only [List.length_map, List.length_take, List.length_cons, List.length_nil]; omega), w64 (by omega), take_snoc hi, List.map_append]; rfl) (by
      unfold testOf_b1
      dsimp only
      rw [if_neg (by simp), List.take_length])
    have hloop' : loopO (testOf_b1 (testOf_n k) r) ((0 : Int), ([] : List RuleTest)) = some (r.Args.map (tst n)) := hloop
    rw [hloop', Option.bind_some]
    show testOf_j1 (testOf_n k) r (r.Args.map (tst n)) = _
    unfold testOf_j1
    rw [tst_succ]
    by_cases k5 : r.Kind = 5
    · rw [if_pos (beq_iff_eq.2 k5), if_pos k5]
    rw [if_neg (fun e => k5 (beq_iff_eq.1 e)), if_neg k5]
    by_cases k6 : r.Kind = 6
    · rw [if_pos (beq_iff_eq.2 k6), if_pos k6]
    · rw [if_neg (fun e => k6 (beq_iff_eq.1 e)), if_neg k6]
theorem fA_no {α : Type} {g : α → List Int → List Int × Bool} : ∀ {l : List α} {q : List Int}, (fA g l q).2 = false → (fA g l q).1 = []
  | [], q, h => by cases h
  | a :: l, q, h => by
    unfold fA at h ⊢
    by_cases hb : (g a q).2 = true
    · rw [if_pos hb] at h ⊢; exact fA_no h
    · rw [if_neg hb]
theorem map_get {α β : Type} {f : α → β} {l : List α} {i : Nat} {y : β} (h : (l.map f)[i]? = some y) : ∃ x, l[i]? = some x ∧ y = f x := by
  rw [List.getElem?_map] at h
  cases hx : l[i]? with
  | none => rw [hx] at h; cases h
  | some x => rw [hx] at h; exact ⟨x, rfl, (Option.some.inj h).symm⟩
theorem witI_eq {c : ApiCase} (hc : COk c) : ∀ (n : Nat) (r : ApiRule) (k : Nat), RV n r → n ≤ k → n ≤ 4 → witI k (tst n r) c = some (wS n r c)
  | 0, _, _, h, _, _ => h.elim
  | n + 1, r, 0, _, hk, _ => by omega
  | n + 1, r, k + 1, h, hk, h8 => by
    obtain ⟨hr, hkd, hal, hleaf, hargs⟩ := h
    have ih := fun a ha => witI_eq hc n a k (hargs a ha) (by omega) (by omega)
    have il := fun a ha => wS_len c n a (hargs a ha)
    have hp : 7 ^ n ≤ 7 ^ 3 := Nat.pow_le_pow_right (by omega) (by omega)
    have hp7 : 7 ^ 3 = 343 := by decide
    rw [tst_succ, wS_succ]
    by_cases k5 : r.Kind = 5
    · rw [if_pos k5, if_pos k5]
      show everyW (witI k) (r.Args.map (tst n)) c = _
      unfold everyW
      have hl : (r.Args.map (tst n)).length ≤ 6 := by rw [List.length_map]; exact hal
      have hfa := fA_w (fun a => wS n a c) r.Args []
      rw [seq_loop (l := r.Args) (fun a p => (p ++ (wS n a c).1, (wS n a c).2)) (fun i p => p.length ≤ i * 343) (everyW_b1 (witI k) (r.Args.map (tst n)) c) (fun i a p hx hp0 => ⟨by
        have hlt := lt_of_get hx
        have ha := List.mem_of_getElem? hx
        have l1 := il a ha
        have hx2 : (r.Args.map (tst n))[i]? = some (tst n a) := by rw [List.getElem?_map, hx]; rfl
        unfold everyW_b1
        dsimp only
        rw [List.length_map, if_pos (decide_eq_true (by omega)), if_pos (by omega), Int.toNat_natCast, hx2, Option.bind_some, ih a ha, Option.bind_some]
        cases hb : (wS n a c).2 with
        | true => rw [if_neg (by simp), if_pos (by omega), if_pos rfl, w64 (by omega)]; rfl
        | false => rfl, fun _ => by
        have l1 := il a (List.mem_of_getElem? hx)
        show (p ++ (wS n a c).1).length ≤ (i + 1) * 343
        rw [List.length_append]; omega⟩) (fun q => by unfold everyW_b1; dsimp only; rw [List.length_map, if_neg (by simp)]) [] (by simp), Option.bind_some, hfa]
      cases (r.Args.all fun a => (wS n a c).2) <;> rfl
    rw [if_neg k5, if_neg k5]
    by_cases k6 : r.Kind = 6
    · rw [if_pos k6, if_pos k6]
      show someW (witI k) (r.Args.map (tst n)) c = _
      unfold someW
      rw [idx_loop (l := r.Args) (fun a => (wS n a c).2) (someW_b1 (witI k) (r.Args.map (tst n)) c) (fun i => ((i : Int) :: (wS n (r.Args.getD i default) c).1, true)) (fun i a hx => by
        have hlt := lt_of_get hx
        have ha := List.mem_of_getElem? hx
        have l1 := il a ha
        have hx2 : (r.Args.map (tst n))[i]? = some (tst n a) := by rw [List.getElem?_map, hx]; rfl
        unfold someW_b1
        rw [List.length_map, if_pos (decide_eq_true (by omega)), if_pos (by omega), Int.toNat_natCast, hx2, Option.bind_some, ih a ha, Option.bind_some, getD_of hx, w64 (by omega)]
        cases hb : (wS n a c).2 with
        | true => rw [if_pos rfl, concatInt_eq _ _ (by simp) (by omega)]; rfl
        | false => rfl) (by unfold someW_b1; rw [List.length_map, if_neg (by simp)]), Option.bind_some]
      cases fi (fun a => (wS n a c).2) r.Args <;> rfl
    · rw [if_neg k6, if_neg k6]
      show singleW ⟨r⟩ c = _
      unfold singleW
      rw [holds_eq hc hr]; rfl
theorem folI_eq {c : ApiCase} (hc : COk c) : ∀ (n : Nat) (r : ApiRule) (k : Nat) (p : List Int), RV n r → n ≤ k → folI k (tst n r) c p = some (fS n r c p)
  | 0, _, _, _, h, _ => h.elim
  | n + 1, r, 0, _, _, hk => by omega
  | n + 1, r, k + 1, p, h, hk => by
    obtain ⟨hr, hkd, hal, hleaf, hargs⟩ := h
    have ih := fun a ha p => folI_eq hc n a k p (hargs a ha) (by omega)
    rw [tst_succ, fS_succ]
    by_cases k5 : r.Kind = 5
    · rw [if_pos k5, if_pos k5]
      show everyF (folI k) (r.Args.map (tst n)) c p = _
      unfold everyF
      rw [seq_loop (l := r.Args) (fun a p => fS n a c p) (fun _ _ => True) (everyF_b1 (folI k) (r.Args.map (tst n)) c) (fun i a q hx _ => ⟨by
        have hlt := lt_of_get hx
        have hx2 : (r.Args.map (tst n))[i]? = some (tst n a) := by rw [List.getElem?_map, hx]; rfl
        unfold everyF_b1
        dsimp only
        rw [List.length_map, if_pos (decide_eq_true (by omega)), if_pos (by omega), Int.toNat_natCast, hx2, Option.bind_some, ih _ (List.mem_of_getElem? hx), Option.bind_some, w64 (by omega)]
        cases (fS n a c q).2 <;> rfl, fun _ => trivial⟩) (fun q => by unfold everyF_b1; dsimp only; rw [List.length_map, if_neg (by simp)]) p trivial, Option.bind_some]
      generalize hz : fA (fun a p => fS n a c p) r.Args p = z
      obtain ⟨z1, z2⟩ := z
      cases z2 with
      | true => rfl
      | false =>
        have := fA_no (g := fun a p => fS n a c p) (l := r.Args) (q := p) (by rw [hz])
        rw [hz] at this
        have e : z1 = [] := this
        rw [e]; rfl
    rw [if_neg k5, if_neg k5]
    by_cases k6 : r.Kind = 6
    · rw [if_pos k6, if_pos k6]
      show someF (folI k) (r.Args.map (tst n)) c p = _
      unfold someF
      cases p with
      | nil => rfl
      | cons i q =>
        have hpl : (0 : Int) < ((i :: q).length : Int) := by simp only [List.length_cons]; omega
        have e0 : (((i :: q).length : Int) == (0 : Int)) = false := by rw [beq_eq_false_iff_ne]; omega
        rw [List.length_map, if_pos (fun _ => ⟨by omega, hpl⟩), if_pos (fun _ => ⟨by omega, hpl⟩), e0]
        have eg : (i :: q).getD 0 default = i := rfl
        rw [eg]
        by_cases hi : 0 ≤ i ∧ i < (r.Args.length : Int)
        · have hl : i.toNat < r.Args.length := by omega
          have hx2 : (r.Args.map (tst n))[i.toNat]? = some (tst n r.Args[i.toNat]) := by rw [List.getElem?_map, List.getElem?_eq_getElem hl]; rfl
          rw [cond_false, decide_eq_false (by omega : ¬ i < 0), cond_false, if_neg (by simp; omega), show (i :: q)[0]? = some i from rfl, Option.bind_some, if_pos hi.1, hx2, Option.bind_some, if_pos ⟨by omega, by omega⟩]
          dsimp only
          rw [if_pos hi, getD_get hl]
          have ed : (i :: q).drop (1 : Int).toNat = q := rfl
          rw [ed, ih _ (List.getElem_mem hl)]; rfl
        · dsimp only
          rw [if_neg hi, if_pos]
          rw [cond_false]
          by_cases h3 : i < 0
          · rw [decide_eq_true h3]; rfl
          · rw [decide_eq_false h3, cond_false, decide_eq_true_eq]; omega
    · rw [if_neg k6, if_neg k6]
      show singleF ⟨r⟩ c p = _
      unfold singleF
      rw [holds_eq hc hr]; rfl

/-! ### Rules that are valid -/
theorem applicable_eq {r : ApiRule} {c : ApiCase} {e : Int} (h : ruleValidate r = some e) : applicable r c = some (if e = 0 then vcS c == 0 else false) := by
  unfold applicable
  rw [h, Option.bind_some]
  by_cases h0 : e = 0
  · rw [if_pos (beq_iff_eq.2 h0), validateCase_eq, Option.bind_some, beq_iff_eq.2 h0, if_pos h0]; rfl
  · rw [if_neg (fun q => h0 (beq_iff_eq.1 q)), Option.bind_some, beq_eq_false_iff_ne.2 h0, if_neg h0]; rfl
theorem witness_eq {n : Nat} {r : ApiRule} (hr : RV n r) (h4 : n ≤ 4) (hv : ruleValidate r = some 0) {c : ApiCase} (hc : COk c) : witness r c = some (wS n r c) := by
  unfold witness testOf
  rw [applicable_eq hv, Option.bind_some, if_pos rfl, hc.vc, if_neg (by decide), testOf_eq n r 8 hr (by omega), Option.bind_some, witI_eq hc n r 8 hr (by omega) h4]; rfl
theorem ruleHolds_eq {n : Nat} {r : ApiRule} (hr : RV n r) (h4 : n ≤ 4) (hv : ruleValidate r = some 0) {c : ApiCase} (hc : COk c) : ruleHolds r c = some (hS n r c) := by
  unfold ruleHolds
  rw [witness_eq hr h4 hv hc, Option.bind_some, wS_hS]
theorem verify_eq {n : Nat} {r : ApiRule} (hr : RV n r) (h4 : n ≤ 4) (hv : ruleValidate r = some 0) {c : ApiCase} (hc : COk c) (p : List Int) : verify r c p = some ((fS n r c p).2 && decide ((fS n r c p).1 = [])) := by
  unfold verify testOf
  rw [applicable_eq hv, Option.bind_some, if_pos rfl, hc.vc, if_neg (by decide), testOf_eq n r 8 hr (by omega), Option.bind_some, folI_eq hc n r 8 p hr (by omega), Option.bind_some]
  congr 1
  cases (fS n r c p).2 with
  | false => rfl
  | true =>
    cases (fS n r c p).1 with
    | nil => rfl
    | cons x l => rw [cond_true, Bool.true_and, decide_eq_false (by simp), beq_eq_false_iff_ne]; simp only [List.length_cons]; omega
theorem rVerify_eq {n : Nat} {r : ApiRule} (hr : RV n r) (h4 : n ≤ 4) {c : ApiCase} (hc : COk c) (p : List Int) : rVerify r c p = some ((fS n r c p).2 && decide ((fS n r c p).1 = [])) := by
  unfold rVerify rVerifyIn
  rw [rVerifyIn_eq hc n r 8 p hr (by omega) (by omega), Option.bind_some]
  congr 1
  cases (fS n r c p).2 with
  | false => rfl
  | true =>
    cases (fS n r c p).1 with
    | nil => rfl
    | cons x l => rw [cond_true, Bool.true_and, decide_eq_false (by simp), beq_eq_false_iff_ne]; simp only [List.length_cons]; omega
end Go.C
