/- Plain laws of chapter 12: paths. No program in sight. -/
import Derived.Test.YtfeleiepnifbcaaGreatDoorXc
set_option linter.unusedVariables false
set_option linter.unusedSimpArgs false
set_option maxHeartbeats 1000000
namespace Go.C
open Go.V

/-! ### A list gone through with a path, which may fail -/
def fA {α : Type} (g : α → List Int → List Int × Bool) : List α → List Int → List Int × Bool
  | [], p => (p, true)
  | a :: l, p => if (g a p).2 = true then fA g l (g a p).1 else ([], false)
theorem seq_loop {α : Type} {l : List α} (g : α → List Int → List Int × Bool) (I : Nat → List Int → Prop) (f : Int × List Int → Option ((Int × List Int) ⊕ ((List Int × Bool) ⊕ List Int)))
    (hgo : ∀ (i : Nat) a p, l[i]? = some a → I i p → f ((i : Int), p) = (if (g a p).2 = true then some (.inl (((i + 1 : Nat) : Int), (g a p).1)) else some (.inr (.inl ([], false)))) ∧ ((g a p).2 = true → I (i + 1) (g a p).1))
    (hend : ∀ p, f ((l.length : Int), p) = some (.inr (.inr p))) (p0 : List Int) (h0 : I 0 p0) : loopO f ((0 : Int), p0) = some (if (fA g l p0).2 = true then .inr (fA g l p0).1 else .inl ([], false)) := by
  have key : ∀ m k p, k + m = l.length → I k p → loopO f ((k : Int), p) = some (if (fA g (l.drop k) p).2 = true then .inr (fA g (l.drop k) p).1 else .inl ([], false)) := by
    intro m
    induction m with
    | zero =>
      intro k p hk hp
      have : k = l.length := by omega
      subst this
      rw [loop_stop (hend p), List.drop_length]; rfl
    | succ m ih =>
      intro k p hk hp
      have h1 : k < l.length := by omega
      obtain ⟨hb, hi⟩ := hgo k _ p (List.getElem?_eq_getElem h1) hp
      rw [List.drop_eq_getElem_cons h1]
      unfold fA
      by_cases hq : (g l[k] p).2 = true
      · rw [if_pos hq] at hb
        rw [loop_step hb, ih (k + 1) _ (by omega) (hi hq), if_pos hq]
      · rw [if_neg hq] at hb
        rw [loop_stop hb, if_neg hq]; rfl
  have := key l.length 0 p0 (by omega) h0
  rw [List.drop_zero] at this
  exact this
theorem fA_w {α : Type} (w : α → List Int × Bool) : ∀ (l : List α) (p : List Int), fA (fun a p => (p ++ (w a).1, (w a).2)) l p = if (l.all fun a => (w a).2) = true then (p ++ (l.map fun a => (w a).1).flatten, true) else ([], false)
  | [], p => by simp [fA]
  | a :: l, p => by
    unfold fA
    cases h : (w a).2 with
    | true =>
      rw [if_pos (by simp [h]), fA_w w l]
      simp [h]
    | false => rw [if_neg (by simp [h]), if_neg (by simp [h])]
theorem fA_ok {α : Type} {g : α → List Int → List Int × Bool} {q : α → Bool} : ∀ {l : List α} {p : List Int}, (∀ a, a ∈ l → ∀ p, (g a p).2 = true → q a = true) → (fA g l p).2 = true → l.all q = true
  | [], p, _, _ => rfl
  | a :: l, p, hg, h => by
    unfold fA at h
    by_cases hq : (g a p).2 = true
    · rw [if_pos hq] at h
      rw [List.all_cons, hg a (by simp) p hq, fA_ok (fun b hb => hg b (List.mem_cons_of_mem _ hb)) h]; rfl
    · rw [if_neg hq] at h; cases h
theorem fA_path {α : Type} {g : α → List Int → List Int × Bool} {w : α → List Int} : ∀ {l : List α} (q : List Int), (∀ a, a ∈ l → ∀ q, g a (w a ++ q) = (q, true)) → fA g l ((l.map w).flatten ++ q) = (q, true)
  | [], q, _ => by simp [fA]
  | a :: l, q, h => by
    unfold fA
    have e : ((a :: l).map w).flatten ++ q = w a ++ ((l.map w).flatten ++ q) := by simp
    rw [e, h a (by simp), if_pos rfl]
    exact fA_path q (fun b hb => h b (List.mem_cons_of_mem _ hb))
theorem fA_map {α β : Type} (g : β → List Int → List Int × Bool) (h : α → β) : ∀ (l : List α) (p : List Int), fA g (l.map h) p = fA (fun a => g (h a)) l p
  | [], p => rfl
  | a :: l, p => by rw [List.map_cons]; unfold fA; rw [fA_map g h l]

/-! ### The path by which a rule holds; how a path is followed -/
def wS : Nat → ApiRule → ApiCase → List Int × Bool
  | 0, _, _ => ([], false)
  | n + 1, r, c => if r.Kind = 5 then (if (r.Args.all fun a => (wS n a c).2) = true then ((r.Args.map fun a => (wS n a c).1).flatten, true) else ([], false))
    else if r.Kind = 6 then (match fi (fun a => (wS n a c).2) r.Args with | some i => ((i : Int) :: (wS n (r.Args.getD i default) c).1, true) | none => ([], false))
    else ([], leafS r c)
theorem wS_succ (n : Nat) (r : ApiRule) (c : ApiCase) : wS (n + 1) r c = if r.Kind = 5 then (if (r.Args.all fun a => (wS n a c).2) = true then ((r.Args.map fun a => (wS n a c).1).flatten, true) else ([], false))
    else if r.Kind = 6 then (match fi (fun a => (wS n a c).2) r.Args with | some i => ((i : Int) :: (wS n (r.Args.getD i default) c).1, true) | none => ([], false))
    else ([], leafS r c) := rfl
def fS : Nat → ApiRule → ApiCase → List Int → List Int × Bool
  | 0, _, _, _ => ([], false)
  | n + 1, r, c, p => if r.Kind = 5 then fA (fun a p => fS n a c p) r.Args p
    else if r.Kind = 6 then (match p with | [] => ([], false) | i :: q => if 0 ≤ i ∧ i < (r.Args.length : Int) then fS n (r.Args.getD i.toNat default) c q else ([], false))
    else (p, leafS r c)
theorem fS_succ (n : Nat) (r : ApiRule) (c : ApiCase) (p : List Int) : fS (n + 1) r c p = if r.Kind = 5 then fA (fun a p => fS n a c p) r.Args p
    else if r.Kind = 6 then (match p with | [] => ([], false) | i :: q => if 0 ≤ i ∧ i < (r.Args.length : Int) then fS n (r.Args.getD i.toNat default) c q else ([], false))
    else (p, leafS r c) := rfl
theorem wS_hS (c : ApiCase) : ∀ (n : Nat) (r : ApiRule), (wS n r c).2 = hS n r c
  | 0, _ => rfl
  | n + 1, r => by
    have ih : (fun a => (wS n a c).2) = fun a => hS n a c := funext (wS_hS c n)
    rw [wS_succ, hS_succ, ih]
    by_cases k5 : r.Kind = 5
    · rw [if_pos k5, if_pos k5]
      cases r.Args.all fun a => hS n a c <;> rfl
    rw [if_neg k5, if_neg k5]
    by_cases k6 : r.Kind = 6
    · rw [if_pos k6, if_pos k6, any_fi]
      cases fi (fun a => hS n a c) r.Args <;> rfl
    · rw [if_neg k6, if_neg k6]
theorem fS_hS (c : ApiCase) : ∀ (n : Nat) (r : ApiRule) (p : List Int), (fS n r c p).2 = true → hS n r c = true
  | 0, _, _, h => by cases h
  | n + 1, r, p, h => by
    rw [fS_succ] at h
    rw [hS_succ]
    by_cases k5 : r.Kind = 5
    · rw [if_pos k5] at h ⊢
      exact fA_ok (fun a _ p hp => fS_hS c n a p hp) h
    rw [if_neg k5] at h ⊢
    by_cases k6 : r.Kind = 6
    · rw [if_pos k6] at h ⊢
      cases p with
      | nil => cases h
      | cons i q =>
        dsimp only at h
        by_cases hi : 0 ≤ i ∧ i < (r.Args.length : Int)
        · rw [if_pos hi] at h
          rw [List.any_eq_true]
          have hl : i.toNat < r.Args.length := by omega
          rw [getD_get hl] at h
          exact ⟨_, List.getElem_mem hl, fS_hS c n _ q h⟩
        · rw [if_neg hi] at h; cases h
    · rw [if_neg k6] at h ⊢; exact h
theorem fS_wS (c : ApiCase) : ∀ (n : Nat) (r : ApiRule) (q : List Int), hS n r c = true → fS n r c ((wS n r c).1 ++ q) = (q, true)
  | 0, _, _, h => by cases h
  | n + 1, r, q, h => by
    rw [fS_succ, wS_succ]
    rw [hS_succ] at h
    by_cases k5 : r.Kind = 5
    · rw [if_pos k5] at h
      rw [if_pos k5, if_pos k5]
      have e : (r.Args.all fun a => (wS n a c).2) = true := by simpa only [wS_hS] using h
      rw [if_pos e]
      exact fA_path q (fun a ha q => fS_wS c n a q (List.all_eq_true.1 h a ha))
    rw [if_neg k5] at h
    rw [if_neg k5, if_neg k5]
    by_cases k6 : r.Kind = 6
    · rw [if_pos k6] at h
      rw [if_pos k6, if_pos k6]
      have hf : ∃ i, fi (fun a => (wS n a c).2) r.Args = some i := by
        have : (fun a => (wS n a c).2) = fun a => hS n a c := funext (wS_hS c n)
        rw [this]
        rw [any_fi] at h
        exact Option.isSome_iff_exists.1 h
      obtain ⟨i, hi⟩ := hf
      rw [hi]
      obtain ⟨x, h1, h2, _⟩ := fi_some hi
      have hlt := lt_of_get h1
      dsimp only
      rw [List.cons_append]
      dsimp only
      rw [if_pos ⟨by omega, by omega⟩, Int.toNat_natCast]
      have hx : r.Args.getD i default = x := getD_of h1
      rw [hx]
      exact fS_wS c n x q (by rw [← wS_hS]; exact h2)
    · rw [if_neg k6] at h
      rw [if_neg k6, if_neg k6, h]; rfl
theorem flat_len {α : Type} (w : α → List Int) (B : Nat) : ∀ l : List α, (∀ a, a ∈ l → (w a).length ≤ B) → ((l.map w).flatten).length ≤ l.length * B
  | [], _ => by simp
  | a :: l, h => by
    have h1 := h a (by simp)
    have h2 := flat_len w B l (fun b hb => h b (List.mem_cons_of_mem _ hb))
    have e : (a :: l).length * B = l.length * B + B := by rw [List.length_cons, Nat.succ_mul]
    rw [e]
    simp only [List.map_cons, List.flatten_cons, List.length_append]
    omega
theorem wS_len (c : ApiCase) : ∀ (n : Nat) (r : ApiRule), RV n r → (wS n r c).1.length ≤ 7 ^ n
  | 0, _, h => h.elim
  | n + 1, r, h => by
    obtain ⟨hr, hkd, hal, hleaf, hargs⟩ := h
    have hp : 0 < 7 ^ n := Nat.pow_pos (by omega)
    have e7 : 7 ^ (n + 1) = 7 ^ n * 7 := Nat.pow_succ ..
    have ih := fun a ha => wS_len c n a (hargs a ha)
    rw [wS_succ, e7]
    by_cases k5 : r.Kind = 5
    · rw [if_pos k5]
      split
      · have h1 := flat_len (fun a => (wS n a c).1) (7 ^ n) r.Args ih
        have h2 : r.Args.length * 7 ^ n ≤ 6 * 7 ^ n := Nat.mul_le_mul_right _ hal
        dsimp only; omega
      · simp
    rw [if_neg k5]
    by_cases k6 : r.Kind = 6
    · rw [if_pos k6]
      split
      · rename_i i hi
        obtain ⟨x, h1, _⟩ := fi_some hi
        have h2 := ih x (List.mem_of_getElem? h1)
        rw [getD_of h1]
        simp only [List.length_cons]; omega
      · simp
    · rw [if_neg k6]; simp

/-! ### The reference -/
theorem rWitness_eq {c : ApiCase} (hc : COk c) : ∀ (n : Nat) (r : ApiRule) (k : Nat), RV n r → n ≤ k → n ≤ 8 → rWitness_n k r c = some (wS n r c)
  | 0, _, _, h, _, _ => h.elim
  | n + 1, r, 0, _, hk, _ => by omega
  | n + 1, r, k + 1, h, hk, h8 => by
    have h0 := h
    obtain ⟨hr, hkd, hal, hleaf, hargs⟩ := h
    have ih := fun a ha => rWitness_eq hc n a k (hargs a ha) (by omega) (by omega)
    have il := fun a ha => wS_len c n a (hargs a ha)
    have hp : 7 ^ n ≤ 7 ^ 7 := Nat.pow_le_pow_right (by omega) (by omega)
    have hp7 : 7 ^ 7 = 823543 := by decide
    have e2 := wS_hS c (n + 1) r
    show rWitness_F (rWitness_n k) r c = _
    unfold rWitness_F rHolds
    rw [rHolds_eq hc (n + 1) r 8 h0 (by omega), Option.bind_some]
    cases hh : hS (n + 1) r c with
    | false =>
      rw [if_pos (show (!false) = true from rfl)]
      rw [hh] at e2
      congr 1
      rw [wS_succ] at e2 ⊢
      by_cases k5 : r.Kind = 5
      · rw [if_pos k5] at e2 ⊢
        split
        · rename_i q; rw [if_pos q] at e2; cases e2
        · rfl
      rw [if_neg k5] at e2 ⊢
      by_cases k6 : r.Kind = 6
      · rw [if_pos k6] at e2 ⊢
        split
        · rename_i q; rw [q] at e2; cases e2
        · rfl
      · rw [if_neg k6] at e2 ⊢
        dsimp only at e2
        rw [e2]
    | true =>
      rw [if_neg (by simp)]
      rw [hS_succ] at hh
      rw [wS_succ]
      by_cases k5 : r.Kind = 5
      · rw [if_pos k5] at hh
        have hall := List.all_eq_true.1 hh
        rw [if_pos k5, if_pos (by simpa only [wS_hS] using hh)]
        have hloop := loop_seq (f := rWitness_b1 (rWitness_n k) r c) r.Args.length (fun i => ((i : Int), ((r.Args.take i).map fun a => (wS n a c).1).flatten)) (.inr ((r.Args.map fun a => (wS n a c).1).flatten)) (fun i hi => by
          have ha := List.getElem_mem hi
          have l1 := il _ ha
          have l2 := flat_len (fun a => (wS n a c).1) (7 ^ n) (r.Args.take i) (fun a ha => il a (List.mem_of_mem_take ha))
          have l3 : (r.Args.take i).length * 7 ^ n ≤ 6 * 7 ^ n := Nat.mul_le_mul_right _ (by rw [List.length_take]; omega)
          unfold rWitness_b1 rWitness_j2
          dsimp only
          rw [if_pos (decide_eq_true (by omega)), if_pos (by omega), Int.toNat_natCast, List.getElem?_eq_getElem hi, Option.bind_some, ih _ ha, Option.bind_some, wS_hS, hall _ ha, if_neg (by simp), if_neg (by rw [k5]; decide), if_pos (by omega), w64 (by omega), take_snoc hi]
          simp only [List.map_append, List.flatten_append, List.map_cons, List.map_nil, List.flatten_cons, List.flatten_nil, List.append_nil]; rfl) (by
          unfold rWitness_b1
          dsimp only
          rw [if_neg (by simp), List.take_length])
        have hloop' : loopO (rWitness_b1 (rWitness_n k) r c) ((0 : Int), ([] : List Int)) = some (.inr ((r.Args.map fun a => (wS n a c).1).flatten)) := hloop
        rw [hloop', Option.bind_some]; rfl
      rw [if_neg k5] at hh
      rw [if_neg k5]
      by_cases k6 : r.Kind = 6
      · rw [if_pos k6] at hh
        rw [if_pos k6]
        have hf : ∃ i, fi (fun a => (wS n a c).2) r.Args = some i := by
          have : (fun a => (wS n a c).2) = fun a => hS n a c := funext (wS_hS c n)
          rw [this]
          rw [any_fi] at hh
          exact Option.isSome_iff_exists.1 hh
        obtain ⟨j, hj⟩ := hf
        obtain ⟨x, h1, h2, h3⟩ := fi_some hj
        have hjl := lt_of_get h1
        have hx : r.Args.getD j default = x := getD_of h1
        have hxm := List.mem_of_getElem? h1
        rw [hj]
        dsimp only
        rw [hx]
        have hstep : ∀ i, i < j → rWitness_b1 (rWitness_n k) r c ((i : Int), ([] : List Int)) = some (.inl (((i + 1 : Nat) : Int), ([] : List Int))) := fun i hi => by
          have hil : i < r.Args.length := by omega
          have ha := List.getElem_mem hil
          unfold rWitness_b1 rWitness_j2
          dsimp only
          rw [if_pos (decide_eq_true (by omega)), if_pos (by omega), Int.toNat_natCast, List.getElem?_eq_getElem hil, Option.bind_some, ih _ ha, Option.bind_some, h3 i _ hi (List.getElem?_eq_getElem hil), if_pos (show (!false) = true from rfl), w64 (by omega)]; rfl
        have hlast : rWitness_b1 (rWitness_n k) r c ((j : Int), ([] : List Int)) = some (.inr (.inl ((j : Int) :: (wS n x c).1, true))) := by
          have l1 := il _ hxm
          unfold rWitness_b1
          dsimp only
          rw [if_pos (decide_eq_true (by omega)), if_pos (by omega), Int.toNat_natCast, h1, Option.bind_some, ih _ hxm, Option.bind_some, h2, if_neg (by simp), if_pos (by rw [k6]; rfl), if_pos (by simp only [List.length_cons, List.length_nil]; omega)]; rfl
        have hloop := loop_seq (f := rWitness_b1 (rWitness_n k) r c) j (fun i => ((i : Int), ([] : List Int))) _ hstep hlast
        have hloop' : loopO (rWitness_b1 (rWitness_n k) r c) ((0 : Int), ([] : List Int)) = some (.inl ((j : Int) :: (wS n x c).1, true)) := hloop
        rw [hloop', Option.bind_some]
      · rw [if_neg k6] at hh
        rw [if_neg k6, hh]
        have hz : r.Args = [] := hleaf (by omega)
        have hstop : rWitness_b1 (rWitness_n k) r c ((0 : Int), ([] : List Int)) = some (.inr (.inr [])) := by
          unfold rWitness_b1
          dsimp only
          rw [hz, if_neg (by simp)]
        rw [loop_stop hstop, Option.bind_some]; rfl
theorem rVerifyIn_eq {c : ApiCase} (hc : COk c) : ∀ (n : Nat) (r : ApiRule) (k : Nat) (p : List Int), RV n r → n ≤ k → n ≤ 8 → rVerifyIn_n k r c p = some (fS n r c p)
  | 0, _, _, _, h, _, _ => h.elim
  | n + 1, r, 0, _, _, hk, _ => by omega
  | n + 1, r, k + 1, p, h, hk, h8 => by
    have h0 := h
    obtain ⟨hr, hkd, hal, hleaf, hargs⟩ := h
    have ih := fun a ha p => rVerifyIn_eq hc n a k p (hargs a ha) (by omega) (by omega)
    show rVerifyIn_F (rVerifyIn_n k) r c p = _
    unfold rVerifyIn_F
    rw [fS_succ]
    by_cases k5 : r.Kind = 5
    · rw [if_pos (beq_iff_eq.2 k5), if_pos k5]
      rw [seq_loop (l := r.Args) (fun a p => fS n a c p) (fun _ _ => True) (rVerifyIn_b1 (rVerifyIn_n k) r c p) (fun i a q hx _ => ⟨by
        have hlt := lt_of_get hx
        unfold rVerifyIn_b1
        dsimp only
        rw [if_pos (decide_eq_true (by omega)), if_pos (by omega), Int.toNat_natCast, hx, Option.bind_some, ih _ (List.mem_of_getElem? hx), Option.bind_some, w64 (by omega)]
        cases (fS n a c q).2 <;> rfl, fun _ => trivial⟩) (fun q => by unfold rVerifyIn_b1; dsimp only; rw [if_neg (by simp)]) p trivial, Option.bind_some]
      generalize hz : fA (fun a p => fS n a c p) r.Args p = z
      obtain ⟨z1, z2⟩ := z
      cases z2 with
      | true => rfl
      | false =>
        have : z1 = [] := by
          have hq : ∀ (l : List ApiRule) (q : List Int), (fA (fun a p => fS n a c p) l q).2 = false → (fA (fun a p => fS n a c p) l q).1 = [] := fun l => by
            induction l with
            | nil => intro q h; cases h
            | cons a l ih2 =>
              intro q h
              unfold fA at h ⊢
              by_cases hb : (fS n a c q).2 = true
              · rw [if_pos hb] at h ⊢; exact ih2 _ h
              · rw [if_neg hb]
          have := hq r.Args p (by rw [hz])
          rw [hz] at this
          exact this
        rw [this]; rfl
    rw [if_neg (fun e => k5 (beq_iff_eq.1 e)), if_neg k5]
    by_cases k6 : r.Kind = 6
    · rw [if_pos (beq_iff_eq.2 k6), if_pos k6]
      cases p with
      | nil => rfl
      | cons i q =>
        have hpl : (0 : Int) < ((i :: q).length : Int) := by simp only [List.length_cons]; omega
        have e0 : (((i :: q).length : Int) == (0 : Int)) = false := by rw [beq_eq_false_iff_ne]; omega
        rw [if_pos (fun _ => ⟨by omega, hpl⟩), if_pos (fun _ => ⟨by omega, hpl⟩), e0]
        have eg : (i :: q).getD 0 default = i := rfl
        rw [eg]
        by_cases hi : 0 ≤ i ∧ i < (r.Args.length : Int)
        · have hl : i.toNat < r.Args.length := by omega
          rw [cond_false, decide_eq_false (by omega : ¬ i < 0), cond_false, if_neg (by simp; omega), show (i :: q)[0]? = some i from rfl, Option.bind_some, if_pos hi.1, List.getElem?_eq_getElem hl, Option.bind_some, if_pos ⟨by omega, by omega⟩]
          dsimp only
          rw [if_pos hi, getD_get hl]
          have ed : (i :: q).drop (1 : Int).toNat = q := rfl
          rw [ed, ih _ (List.getElem_mem hl)]; rfl
        · dsimp only
          rw [if_neg hi, if_pos]
          rw [cond_false]
          by_cases h3 : i < 0
          · rw [decide_eq_true h3]; rfl
          · rw [decide_eq_false h3, cond_false, decide_eq_true_eq]; omega
    · rw [if_neg (fun e => k6 (beq_iff_eq.1 e)), if_neg k6]
      unfold rVerifyIn_j1 rHolds
      rw [rHolds_eq hc (n + 1) r 8 h0 (by omega), hS_succ, if_neg k5, if_neg k6]; rfl
end Go.C
