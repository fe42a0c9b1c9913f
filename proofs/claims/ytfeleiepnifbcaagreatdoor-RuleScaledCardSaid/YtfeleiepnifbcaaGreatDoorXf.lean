/- Plain laws of chapter 12: rules that are valid, rules that are made. No program in sight. -/
import Derived.Test.YtfeleiepnifbcaaGreatDoorXe
set_option linter.unusedVariables false
set_option linter.unusedSimpArgs false
set_option maxHeartbeats 1000000
namespace Go.C
open Go.V

/-! ### Nodes -/
def szS : Nat → ApiRule → Nat
  | 0, _ => 1
  | n + 1, r => 1 + (r.Args.map (szS n)).sum
theorem szS_succ (n : Nat) (r : ApiRule) : szS (n + 1) r = 1 + (r.Args.map (szS n)).sum := rfl
theorem szS_pos : ∀ (n : Nat) (r : ApiRule), 1 ≤ szS n r
  | 0, _ => Nat.le_refl 1
  | n + 1, r => by rw [szS_succ]; omega
theorem nodes_eq : ∀ (n : Nat) (r : ApiRule) (k lim : Nat), RV n r → n ≤ k → szS n r ≤ lim → lim ≤ 1000 → nodes_n k r (lim : Int) = some (szS n r : Int)
  | 0, _, _, _, h, _, _, _ => h.elim
  | n + 1, r, 0, _, _, hk, _, _ => by omega
  | n + 1, r, k + 1, lim, h, hk, hs, hl => by
    obtain ⟨hr, hkd, hal, hleaf, hargs⟩ := h
    have ih := fun a ha lim => nodes_eq n a k lim (hargs a ha) (by omega)
    rw [szS_succ] at hs
    show nodes_F (nodes_n k) r (lim : Int) = _
    unfold nodes_F
    have hsum : ∀ i, i ≤ r.Args.length → ((r.Args.take i).map (szS n)).sum + ((r.Args.drop i).map (szS n)).sum = (r.Args.map (szS n)).sum := fun i hi => by
      rw [← List.sum_append_nat, ← List.map_append, List.take_append_drop]
    have hloop := loop_seq (f := nodes_b1 (nodes_n k) r (lim : Int)) r.Args.length (fun i => ((i : Int), ((1 + ((r.Args.take i).map (szS n)).sum : Nat) : Int))) (.inr ((1 + (r.Args.map (szS n)).sum : Nat) : Int)) (fun i hi => by
      have h1 := hsum i (by omega)
      rw [List.drop_eq_getElem_cons hi, List.map_cons, List.sum_cons] at h1
      have h2 := szS_pos n r.Args[i]
      have h3 : (((r.Args.take (i + 1)).map (szS n)).sum) = ((r.Args.take i).map (szS n)).sum + szS n r.Args[i] := by
        rw [take_snoc hi, List.map_append, List.sum_append_nat]; simp
      unfold nodes_b1
      dsimp only
      rw [if_pos (decide_eq_true (by omega)), if_pos (by omega), Int.toNat_natCast, List.getElem?_eq_getElem hi, Option.bind_some, if_neg (fun e => by have := of_decide_eq_true e; omega), w64 (by omega)]
      have e : (lim : Int) - ((1 + ((r.Args.take i).map (szS n)).sum : Nat) : Int) = ((lim - (1 + ((r.Args.take i).map (szS n)).sum) : Nat) : Int) := by omega
      rw [e, ih _ (List.getElem_mem hi) _ (by omega) (by omega), Option.bind_some, w64 (by omega), w64 (by omega), h3]
      congr 3 <;> omega) (by
      unfold nodes_b1
      dsimp only
      rw [if_neg (by simp), List.take_length])
    have hloop' : loopO (nodes_b1 (nodes_n k) r (lim : Int)) ((0 : Int), (1 : Int)) = some (.inr ((1 + (r.Args.map (szS n)).sum : Nat) : Int)) := hloop
    rw [hloop', Option.bind_some]; rfl

/-! ### Valid rules -/
theorem valid_node {F : ApiRule → Option Bool} {K : Int} (hK : K = 5 ∨ K = 6) {args : List ApiRule} (h2 : 2 ≤ args.length) (h6 : args.length ≤ 6) (ha : ∀ a, a ∈ args → F a = some true) :
    ruleValid_F F ⟨K, 0, [], 0, 0, [], args⟩ = some (args.all fun a => !(a.Kind == K)) := by
  have hp : rulePlain (⟨K, 0, [], 0, 0, [], args⟩ : ApiRule) = some true := by
    rcases hK with rfl | rfl <;> rfl
  unfold ruleValid_F
  rw [hp, Option.bind_some, if_neg (by simp)]
  have hj : ruleValid_j2 F (⟨K, 0, [], 0, 0, [], args⟩ : ApiRule) true = some (args.all fun a => !(a.Kind == K)) := by
    unfold ruleValid_j2
    rw [if_pos rfl, if_neg (by rw [or_b]; simp; omega)]
    rw [idx_loop (l := args) (fun a => a.Kind == K) (ruleValid_b1 F ⟨K, 0, [], 0, 0, [], args⟩) (fun _ => false) (fun i a hx => by
      have hlt := lt_of_get hx
      unfold ruleValid_b1
      dsimp only
      rw [if_pos (decide_eq_true (by omega)), if_pos (by omega), Int.toNat_natCast, hx, Option.bind_some, w64 (by omega)]
      cases hq : (a.Kind == K) with
      | true => rfl
      | false => rw [if_pos (by rfl), ha a (List.mem_of_getElem? hx)]; rfl) (by unfold ruleValid_b1; rw [if_neg (by simp)]), Option.bind_some]
    have hall : (args.all fun a => !(a.Kind == K)) = !(args.any fun a => a.Kind == K) := by rw [List.not_any_eq_all_not]
    rw [hall, any_fi]
    cases fi (fun a => a.Kind == K) args <;> rfl
  rcases hK with rfl | rfl
  · exact hj
  · exact hj
theorem valid_of {n : Nat} {r : ApiRule} (hr : RV n r) (h8 : n ≤ 8) (hs : szS n r ≤ 32) {b : Bool} (hv : ruleValid r = some b) : ruleValidate r = some (if b = true then 0 else 1) := by
  unfold ruleValidate nodes
  have := nodes_eq n r 8 33 hr h8 (by omega) (by omega)
  rw [show (33 : Int) = ((33 : Nat) : Int) from rfl, this, Option.bind_some, if_neg (by simp; omega), hv, Option.bind_some]
  cases b <;> rfl

/-! ### Rules that are made -/
def words5 : List Str := [[97, 110, 100], [99, 117, 116], [111, 114], [115, 101, 119], [115, 112, 105, 110]]
def exc2 : List Str := [[57, 52, 48, 49], [57, 53, 48, 50]]
inductive LF : ApiRule → Prop
  | obt : LF ⟨1, 0, [], 0, 0, [], []⟩
  | fore (l : Int) (h : 0 ≤ l ∧ l ≤ 1000000) : LF ⟨3, 0, [], 0, l, [], []⟩
  | proc (w : Str) (h : w ∈ words5) : LF ⟨4, 0, [], 0, 0, w, []⟩
  | chg (d : Int) (e : List Str) (t : Int) (hd : d = 2 ∨ d = 4 ∨ d = 6) (he : e.length ≤ 6 ∧ validCodes e = some true) (ht : 0 ≤ t ∧ t ≤ 1000000) : LF ⟨2, d, e, t, 0, [], []⟩
def MR : Nat → Int → ApiRule → Prop
  | 0, _, _ => False
  | n + 1, but, r => LF r ∨ ∃ K args, (K = 5 ∨ K = 6) ∧ K ≠ but ∧ r = ⟨K, 0, [], 0, 0, [], args⟩ ∧ 2 ≤ args.length ∧ args.length ≤ 3 ∧ ∀ a, a ∈ args → MR n K a
theorem LF.rv {r : ApiRule} (h : LF r) (n : Nat) : RV (n + 1) r := by
  cases h with
  | obt => exact ⟨⟨(fun e => by cases e), by simp, by simp, by simp⟩, by simp, by simp, fun _ => rfl, fun a ha => by cases ha⟩
  | fore l h => exact ⟨⟨(fun e => by cases e), by simp, by simp, h⟩, by simp, by simp, fun _ => rfl, fun a ha => by cases ha⟩
  | proc w h => exact ⟨⟨(fun e => by cases e), by simp, by simp, by simp⟩, by simp, by simp, fun _ => rfl, fun a ha => by cases ha⟩
  | chg d e t hd he ht => exact ⟨⟨fun _ => hd, he.1, ht, by simp⟩, by simp, by simp, fun _ => rfl, fun a ha => by cases ha⟩
theorem LF.sz {r : ApiRule} (h : LF r) (n : Nat) : szS n r = 1 := by
  cases n with
  | zero => rfl
  | succ n => cases h <;> rfl
theorem LF.kind {r : ApiRule} (h : LF r) : r.Kind < 5 := by cases h <;> simp
theorem millionths_eq {n : Int} (h : 0 ≤ n ∧ n ≤ 1000000) : millionths n = some true := by
  unfold millionths
  rw [decide_eq_true h.1, decide_eq_true h.2]; rfl
theorem LF.valid {r : ApiRule} (h : LF r) (F : ApiRule → Option Bool) : ruleValid_F F r = some true := by
  cases h with
  | obt => rfl
  | fore l h =>
    have hp : rulePlain (⟨3, 0, [], 0, l, [], []⟩ : ApiRule) = some true := rfl
    unfold ruleValid_F
    rw [hp, Option.bind_some]
    show (millionths l).bind _ = _
    rw [millionths_eq h]; rfl
  | proc w h =>
    have hp : rulePlain (⟨4, 0, [], 0, 0, w, []⟩ : ApiRule) = some true := by
      unfold rulePlain; rfl
    unfold ruleValid_F
    rw [hp, Option.bind_some]
    show (validWords [w]).bind _ = _
    rw [validWords_eq]
    unfold words5 at h
    simp only [List.mem_cons, List.not_mem_nil, or_false] at h
    rcases h with rfl | rfl | rfl | rfl | rfl <;> rfl
  | chg d e t hd he ht =>
    have hp : rulePlain (⟨2, d, e, t, 0, [], []⟩ : ApiRule) = some true := by
      unfold rulePlain; rfl
    unfold ruleValid_F
    rw [hp, Option.bind_some]
    have h3 : (bif (bif (d == (2 : Int)) then true else (d == (4 : Int))) then true else (d == (6 : Int))) = true := by
      rcases hd with rfl | rfl | rfl <;> rfl
    show (if (bif (bif (d == (2 : Int)) then true else (d == (4 : Int))) then true else (d == (6 : Int))) = true then validCodes e else some default).bind _ = _
    rw [if_pos h3, he.2, Option.bind_some, h3]
    show (millionths t).bind _ = _
    rw [millionths_eq ht]; rfl
theorem MR.kind : ∀ {n : Nat} {but : Int} {r : ApiRule}, MR n but r → r.Kind ≠ but ∨ r.Kind < 5
  | n + 1, _, _, .inl h => .inr h.kind
  | n + 1, _, _, .inr ⟨K, args, _, hb, e, _⟩ => .inl (by rw [e]; exact hb)
theorem MR.rv : ∀ {n : Nat} {but : Int} {r : ApiRule}, MR n but r → RV n r
  | n + 1, _, _, .inl h => h.rv n
  | n + 1, _, _, .inr ⟨K, args, hK, hb, e, h2, h3, ha⟩ => by
    subst e
    exact ⟨⟨(fun e => by rcases hK with rfl | rfl <;> cases e), by simp, by simp, by simp⟩, by simp only; omega, by simp only; omega, fun e => by simp only at e; omega, fun a h => (ha a h).rv⟩
theorem sum_le (f : ApiRule → Nat) (B : Nat) : ∀ l : List ApiRule, (∀ a, a ∈ l → f a ≤ B) → (l.map f).sum ≤ l.length * B
  | [], _ => by simp
  | a :: l, h => by
    have h1 := h a (by simp)
    have h2 := sum_le f B l (fun b hb => h b (List.mem_cons_of_mem _ hb))
    have e : (a :: l).length * B = l.length * B + B := by rw [List.length_cons, Nat.succ_mul]
    rw [e]
    simp only [List.map_cons, List.sum_cons]
    omega
theorem MR.sz3 {but : Int} {r : ApiRule} (h : MR 3 but r) : szS 3 r ≤ 13 := by
  have h1 : ∀ {but : Int} {r : ApiRule}, MR 1 but r → szS 1 r ≤ 1 := fun h => by
    rcases h with h | ⟨K, args, hK, hb, e, h2, h3, ha⟩
    · rw [h.sz]; exact Nat.le_refl 1
    · cases args with
      | nil => simp at h2
      | cons a l => exact (ha a (by simp)).elim
  have h2 : ∀ {but : Int} {r : ApiRule}, MR 2 but r → szS 2 r ≤ 4 := fun h => by
    rcases h with h | ⟨K, args, hK, hb, e, h2, h3, ha⟩
    · rw [h.sz]; omega
    · subst e
      have := sum_le (szS 1) 1 args (fun a h => h1 (ha a h))
      rw [szS_succ]; dsimp only; omega
  rcases h with h | ⟨K, args, hK, hb, e, h2', h3, ha⟩
  · rw [h.sz]; omega
  · subst e
    have := sum_le (szS 2) 4 args (fun a h => h2 (ha a h))
    rw [szS_succ]; dsimp only; omega
theorem MR.valid : ∀ {n : Nat} {but : Int} {r : ApiRule} (k : Nat), MR n but r → n ≤ k → ruleValid_n k r = some true
  | 0, _, _, _, h, _ => h.elim
  | n + 1, _, _, 0, _, hk => by omega
  | n + 1, _, _, k + 1, .inl h, _ => h.valid _
  | n + 1, _, _, k + 1, .inr ⟨K, args, hK, hb, e, h2, h3, ha⟩, hk => by
    subst e
    show ruleValid_F (ruleValid_n k) _ = _
    rw [valid_node hK h2 (by omega) (fun a h => MR.valid k (ha a h) (by omega))]
    congr 1
    rw [List.all_eq_true]
    intro a h
    rcases (ha a h).kind with q | q
    · simpa using q
    · have : a.Kind ≠ K := by omega
      simpa using this
theorem MR.validate {but : Int} {r : ApiRule} (h : MR 3 but r) : ruleValidate r = some 0 := by
  have hs := h.sz3
  exact valid_of h.rv (by omega) (by omega) (MR.valid 8 h (by omega))
end Go.C
