/- Plain laws of chapter 12: the six laws. No program in sight. -/
import Derived.Test.YtfeleiepnifbcaaGreatDoorXi
import Derived.Test.YtfeleiepnifbcaaGreatDoorPv
set_option linter.unusedVariables false
set_option linter.unusedSimpArgs false
set_option maxHeartbeats 1000000
namespace Go.C
open Go.V

theorem same_refl {p : List Int} (h : p.length ≤ 1000000) : r02Same p p = some true := by
  unfold r02Same
  rw [if_neg (by simp)]
  have l1 : loopO (r02Same_b1 p p) ((0 : Nat) : Int) = some (.inr ()) := loop_seq (f := r02Same_b1 p p) p.length (fun i => (i : Int)) (.inr ()) (fun i hi => by
    unfold r02Same_b1
    rw [if_pos (decide_eq_true (by omega)), if_pos (by omega), Int.toNat_natCast, List.getElem?_eq_getElem hi, Option.bind_some, if_pos (by omega), Option.bind_some, if_neg (by simp), w64 (by omega)]; rfl) (by unfold r02Same_b1; rw [if_neg (by simp)])
  replace l1 : loopO (r02Same_b1 p p) (0 : Int) = some (.inr ()) := l1
  rw [l1]; rfl
theorem awake_true : awake12 = some true := by
  have hv := aw_val
  have hw : witness awR awC = some ([1], true) := by rw [witness_eq aw_mr.rv (by omega) hv aw_case]; kernel_rfl
  have hh : ruleHolds awR awC = some true := by rw [ruleHolds_eq aw_mr.rv (by omega) hv aw_case]; kernel_rfl
  have h1 : verify awR awC [1] = some true := by rw [verify_eq aw_mr.rv (by omega) hv aw_case]; kernel_rfl
  have h0 : verify awR awC [0] = some false := by rw [verify_eq aw_mr.rv (by omega) hv aw_case]; kernel_rfl
  unfold awake12
  rw [aw_parse, Option.bind_some]
  dsimp only
  show (witness awR awC).bind _ = _
  rw [hw, Option.bind_some, if_pos (by decide), aw_format, Option.bind_some, if_pos (by decide)]
  show (ruleHolds awR awC).bind _ = _
  rw [hh, Option.bind_some, if_pos (by decide), same_refl (by decide), Option.bind_some, if_pos (by decide)]
  show (verify awR awC [1]).bind _ = _
  rw [h1, Option.bind_some, if_pos (by decide)]
  show (verify awR awC [0]).bind _ = _
  rw [h0, Option.bind_some]
  rfl
theorem wit {r : ApiRule} (hr : MR 3 0 r) {c : ApiCase} (hc : COk c) : witness r c = some (wS 3 r c) := witness_eq hr.rv (by omega) hr.validate hc
theorem hol {r : ApiRule} (hr : MR 3 0 r) {c : ApiCase} (hc : COk c) : ruleHolds r c = some (hS 3 r c) := ruleHolds_eq hr.rv (by omega) hr.validate hc
theorem ver {r : ApiRule} (hr : MR 3 0 r) {c : ApiCase} (hc : COk c) (p : List Int) : verify r c p = some ((fS 3 r c p).2 && decide ((fS 3 r c p).1 = [])) := verify_eq hr.rv (by omega) hr.validate hc p
theorem rwit {r : ApiRule} (hr : MR 3 0 r) {c : ApiCase} (hc : COk c) : rWitness r c = some (wS 3 r c) := rWitness_eq hc 3 r 8 hr.rv (by omega) (by omega)
theorem rhol {r : ApiRule} (hr : MR 3 0 r) {c : ApiCase} (hc : COk c) : rHolds r c = some (hS 3 r c) := rHolds_eq hc 3 r 8 hr.rv (by omega)
theorem rver {r : ApiRule} (hr : MR 3 0 r) {c : ApiCase} (hc : COk c) (p : List Int) : rVerify r c p = some ((fS 3 r c p).2 && decide ((fS 3 r c p).1 = [])) := rVerify_eq hr.rv (by omega) hc p

theorem lawRuleHolds_true {l m : List Int} {P Q : Prop} (_ : P) (_ : Q) : lawRuleHolds l m = some true := by
  obtain ⟨r, e1, hr⟩ := madeRule_ok l
  obtain ⟨c, e2, hc⟩ := madeCase_ok m
  have h7 := wS_len c 3 r hr.rv
  have e : (wS 3 r c).2 = hS 3 r c := wS_hS c 3 r
  unfold lawRuleHolds
  rw [e1, Option.bind_some, e2, Option.bind_some, wit hr hc, Option.bind_some, rwit hr hc, Option.bind_some, hol hr hc, Option.bind_some, rhol hr hc, Option.bind_some, if_pos (by simp), Option.bind_some, if_pos (by simp [e]), same_refl (by omega), Option.bind_some, if_pos (by simp [e]), awake_true, Option.bind_some]
  simp [e]

theorem lawRuleVerify_true {l m path : List Int} {raw : Bool} {P Q R : Prop} (_ : P) (_ : Q) (_ : R) : lawRuleVerify l m path raw = some true := by
  obtain ⟨r, e1, hr⟩ := madeRule_ok l
  obtain ⟨c, e2, hc⟩ := madeCase_ok m
  have e : (wS 3 r c).2 = hS 3 r c := wS_hS c 3 r
  have hj : ∀ p : List Int, lawRuleVerify_j1 r c p = some true := fun p => by
    unfold lawRuleVerify_j1
    rw [ver hr hc, Option.bind_some, rver hr hc, Option.bind_some, if_pos (by simp), Option.bind_some]
    cases hq : ((fS 3 r c p).2 && decide ((fS 3 r c p).1 = [])) with
    | false => rw [if_neg (by simp), Option.bind_some, if_pos (by simp), awake_true, Option.bind_some]; rfl
    | true =>
      have h2 := fS_hS c 3 r p (by rw [Bool.and_eq_true] at hq; exact hq.1)
      rw [if_pos (by simp), hol hr hc, Option.bind_some, h2, if_pos (by simp), awake_true, Option.bind_some]; rfl
  obtain ⟨v, e3, h3⟩ := cut_ok path 10 (by omega)
  replace e3 : madeCut path 10 = some v := e3
  obtain ⟨p, e4, _⟩ := loop_inv (f := lawRuleVerify_b1 raw r c) (fun n (x : Int × List Int) => 0 ≤ x.1 ∧ x.1 + n = x.2.length ∧ x.2.length ≤ 10) (fun _ => True) (fun n x hx => by
    obtain ⟨i, p⟩ := x
    obtain ⟨g1, g2, g3⟩ := hx
    dsimp only at g1 g2 g3 ⊢
    unfold lawRuleVerify_b1
    dsimp only
    by_cases hi : (bif (decide (i < (p.length : Int))) then (!raw) else false) = true
    · left
      have hlt : i < (p.length : Int) := by
        cases hd : decide (i < (p.length : Int)) with
        | true => exact of_decide_eq_true hd
        | false => rw [hd] at hi; simp at hi
      refine ⟨(i + 1, p.set i.toNat (p.getD i.toNat default % 4)), n - 1, by omega, ?_, by dsimp only; omega, ?_, ?_⟩
      · rw [if_pos hi, if_pos ⟨g1, hlt⟩, within_eq (by omega) (by omega), Option.bind_some, if_pos ⟨g1, hlt⟩, w64 (by omega)]
      · dsimp only; rw [List.length_set]; omega
      · dsimp only; rw [List.length_set]; omega
    · right
      rw [if_neg hi]; exact ⟨_, rfl, trivial⟩) v.length ((0 : Int), v) ⟨by simp, by simp, h3⟩
  unfold lawRuleVerify
  rw [e1, Option.bind_some, e2, Option.bind_some, wit hr hc, Option.bind_some]
  cases hh : hS 3 r c with
  | false =>
    rw [hh] at e
    rw [if_neg (by simp [e]), Option.bind_some, if_neg (by simp [e]), e3, Option.bind_some, if_pos (by omega), e4, Option.bind_some]
    exact hj p
  | true =>
    rw [hh] at e
    have h2 := fS_wS c 3 r [] hh
    rw [List.append_nil] at h2
    rw [if_pos e, ver hr hc, h2, Option.bind_some, if_neg (by simp [e]), e3, Option.bind_some, if_pos (by omega), e4, Option.bind_some]
    exact hj p

theorem lawRuleCase_true {raw : ApiCase} {l : List Int} {which at_ : Int} {by_ : ApiInput} {P Q R : Prop} (hraw : okApiCase raw) (_ : P) (_ : Q) (hby : okApiInput by_) (_ : R) : lawRuleCase raw l which by_ at_ = some true := by
  obtain ⟨c, e1, hc⟩ := madeCase_ok l
  have hcok := hc.ok
  have hj2 : ∀ (code : Str) (price : Int) (ps : List Str) (ins : List ApiInput), okApiCase ⟨code, price, c.Obtained, ps, ins⟩ → lawRuleCase_j2 c code price ps ins = some true := fun code price ps ins h => by
    unfold lawRuleCase_j2
    rw [validateCase_eq, Option.bind_some, rCase_eq h, Option.bind_some, if_pos (by simp), awake_true, Option.bind_some]
    simp
  obtain ⟨k1, k2, k3, k4⟩ := hraw
  obtain ⟨q1, q2, q3, q4⟩ := hcok
  have hj1 : ∀ ins : List ApiInput, okApiCase ⟨raw.Code, raw.Price, raw.Obtained, raw.Processes, ins⟩ → lawRuleCase_j1 raw l which by_ at_ ins = some true := fun ins h => by
    unfold lawRuleCase_j1
    rw [e1, Option.bind_some, validateCase_eq, Option.bind_some, rCase_eq h, Option.bind_some, if_pos (by simp), validateCase_eq, Option.bind_some, hc.vc, if_neg (by simp), within_eq (by omega) (by omega), Option.bind_some]
    have hf := hc.few
    split
    · exact hj2 _ _ _ _ ⟨k1, q2, q3, q4⟩
    · split
      · exact hj2 _ _ _ _ ⟨q1, k2, q3, q4⟩
      · split
        · exact hj2 _ _ _ _ ⟨q1, q2, k3, q4⟩
        · rw [if_pos (by omega)]
          by_cases hp : 0 < c.Inputs.length
          · rw [if_pos (decide_eq_true (by omega)), within_eq (by omega) (by omega), Option.bind_some]
            have a1 := Int.emod_nonneg at_ (show (c.Inputs.length : Int) ≠ 0 by omega)
            have a2 := Int.emod_lt_of_pos at_ (show (0 : Int) < (c.Inputs.length : Int) by omega)
            rw [if_pos ⟨a1, a2⟩]
            refine hj2 _ _ _ _ ⟨q1, q2, q3, by dsimp only; rw [List.length_set]; omega, fun x hx => ?_⟩
            rcases List.mem_or_eq_of_mem_set hx with h | rfl
            · exact q4.2 x h
            · exact hby
          · rw [if_neg (by simp; simpa using hp)]
            exact hj2 _ _ _ _ ⟨q1, q2, q3, q4⟩
  unfold lawRuleCase
  split
  · rename_i h
    have h := of_decide_eq_true h
    rw [if_pos (by omega)]
    exact hj1 _ ⟨k1, k2, k3, by dsimp only; simp only [List.length_drop, List.length_take]; omega, fun x hx => k4.2 x (List.mem_of_mem_take (List.mem_of_mem_drop hx))⟩
  · exact hj1 _ ⟨k1, k2, k3, k4⟩

/-! ### Better inputs -/
structure L5 (ins cur : List ApiInput) : Prop where
  len : cur.length = ins.length
  le : ∀ (i : Nat) x y, ins[i]? = some x → cur[i]? = some y → LeI x y
  ok : ∀ y, y ∈ cur → okIn y
theorem LeI.refl {x : ApiInput} (h : 0 ≤ x.Value) : LeI x x := ⟨rfl, .inr rfl, Int.le_refl _, h⟩
theorem LeI.trans {x y z : ApiInput} (h1 : LeI x y) (h2 : LeI y z) : LeI x z := by
  obtain ⟨a1, a2, a3, a4⟩ := h1
  obtain ⟨b1, b2, b3, b4⟩ := h2
  refine ⟨b1.trans a1, ?_, by omega, a4⟩
  rcases b2 with h | h
  · exact .inl h
  · rw [h]; exact a2
theorem L5.set {ins cur : List ApiInput} (h : L5 ins cur) {i : Nat} (hi : i < cur.length) {y : ApiInput} (hy : LeI cur[i] y) (hk : okIn y) : L5 ins (cur.set i y) := by
  refine ⟨by rw [List.length_set]; exact h.len, fun j a b ha hb => ?_, okIn_set h.ok hk⟩
  rw [List.getElem?_set] at hb
  by_cases hj : i = j
  · subst hj
    rw [if_pos rfl, if_pos hi] at hb
    cases hb
    exact (h.le i a _ ha (List.getElem?_eq_getElem hi)).trans hy
  · rw [if_neg hj] at hb
    exact h.le j a b ha hb
theorem lawRuleMonotone_true {l m origin value : List Int} {P Q : Prop} (_ : P) (_ : Q) (ho : origin.length ≤ 9223372036854775807 ∧ ∀ x, x ∈ origin → okI_i64 x) (hvl : value.length ≤ 9223372036854775807 ∧ ∀ x, x ∈ value → okI_i64 x) : lawRuleMonotone l m origin value = some true := by
  obtain ⟨r, e1, hr⟩ := madeRule_ok l
  obtain ⟨c, e2, hc⟩ := madeCase_ok m
  have hfew := hc.few
  have hj2 : ∀ ins, L5 c.Inputs ins → lawRuleMonotone_j2 r c ins = some true := fun ins h => by
    have hd : COk ⟨c.Code, c.Price, c.Obtained, words5, ins⟩ := ⟨hc.code, hc.price, by dsimp only; decide +kernel, by dsimp only; rw [h.len]; exact hfew, h.ok⟩
    have hle : LeC c ⟨c.Code, c.Price, c.Obtained, words5, ins⟩ := ⟨rfl, rfl, rfl, fun w hw => List.contains_iff_mem.2 hw, h.len, h.le⟩
    unfold lawRuleMonotone_j2
    rw [hol hr hc, Option.bind_some]
    cases hq : hS 3 r c with
    | false => rw [if_neg (by simp), Option.bind_some, if_pos (by simp), awake_true, Option.bind_some]; rfl
    | true =>
      rw [if_pos (by simp)]
      show (ruleHolds r ⟨c.Code, c.Price, c.Obtained, words5, ins⟩).bind _ = _
      rw [hol hr hd, Option.bind_some, hS_mono hle hr hq, if_pos (by simp), awake_true, Option.bind_some]; rfl
  have hj1 : ∀ ins, L5 c.Inputs ins → lawRuleMonotone_j1 value r c ins = some true := fun ins h => by
    unfold lawRuleMonotone_j1
    have hil := h.len
    obtain ⟨ins2, e3, h3⟩ := loop_inv (f := lawRuleMonotone_b1 value r c) (fun n (x : Int × List ApiInput) => 0 ≤ x.1 ∧ x.1 + n = x.2.length ∧ L5 c.Inputs x.2) (fun x => L5 c.Inputs x) (fun n x hx => by
      obtain ⟨i, p⟩ := x
      obtain ⟨g1, g2, g3⟩ := hx
      dsimp only at g1 g2 g3 ⊢
      have gl := g3.len
      unfold lawRuleMonotone_b1
      dsimp only
      by_cases hi : (bif (decide (i < (value.length : Int))) then (decide (i < (p.length : Int))) else false) = true
      · left
        have hlt : i < (value.length : Int) ∧ i < (p.length : Int) := by
          cases hd : decide (i < (value.length : Int)) with
          | true => rw [hd] at hi; exact ⟨of_decide_eq_true hd, of_decide_eq_true hi⟩
          | false => rw [hd] at hi; simp at hi
        obtain ⟨hl1, hl2⟩ := hlt
        have hl3 : i.toNat < value.length := by omega
        have hl4 : i.toNat < p.length := by omega
        have b1 := Int.emod_nonneg value[i.toNat] (show (500 : Int) ≠ 0 by omega)
        have hok := g3.ok _ (List.getElem_mem hl4)
        refine ⟨(i + 1, p.set i.toNat ⟨(p.getD i.toNat default).Code, (if value[i.toNat] % 500 < (p.getD i.toNat default).Value then value[i.toNat] % 500 else (p.getD i.toNat default).Value), (p.getD i.toNat default).Originating⟩), n - 1, by omega, ?_, by dsimp only; omega, ?_, ?_⟩
        · rw [if_pos hi, if_pos ⟨g1, hl2⟩, if_pos g1, List.getElem?_eq_getElem hl3, Option.bind_some, within_eq (by omega) (by omega), Option.bind_some, if_pos ⟨g1, hl2⟩, w64 (by omega)]
        · dsimp only; rw [List.length_set]; omega
        · dsimp only
          rw [getD_get hl4]
          obtain ⟨o1, o2, o3⟩ := hok
          refine g3.set hl4 ⟨rfl, .inr rfl, ?_, o2⟩ ⟨o1, ?_, ?_⟩
          · dsimp only; split <;> omega
          · dsimp only; split <;> omega
          · dsimp only; split <;> omega
      · right
        rw [if_neg hi]; exact ⟨_, rfl, g3⟩) ins.length ((0 : Int), ins) ⟨by simp, by simp, h⟩
    rw [e3, Option.bind_some]
    exact hj2 ins2 h3
  obtain ⟨ins1, e4, h4⟩ := loop_inv (f := lawRuleMonotone_b2 origin value r c) (fun n (x : Int × List ApiInput) => 0 ≤ x.1 ∧ x.1 + n = origin.length ∧ L5 c.Inputs x.2) (fun x => L5 c.Inputs x) (fun n x hx => by
      obtain ⟨i, p⟩ := x
      obtain ⟨g1, g2, g3⟩ := hx
      dsimp only at g1 g2 g3 ⊢
      have gl := g3.len
      unfold lawRuleMonotone_b2
      dsimp only
      by_cases hi : i < (origin.length : Int)
      · left
        have hl3 : i.toNat < origin.length := by omega
        rw [if_pos (decide_eq_true hi)]
        by_cases hp : 0 < p.length
        · have b1 := Int.emod_nonneg origin[i.toNat] (show (p.length : Int) ≠ 0 by omega)
          have b2 := Int.emod_lt_of_pos origin[i.toNat] (show (0 : Int) < (p.length : Int) by omega)
          have hl4 : (origin[i.toNat] % (p.length : Int)).toNat < p.length := by omega
          have hok := g3.ok _ (List.getElem_mem hl4)
          refine ⟨(i + 1, p.set (origin[i.toNat] % (p.length : Int)).toNat ⟨(p.getD (origin[i.toNat] % (p.length : Int)).toNat default).Code, (p.getD (origin[i.toNat] % (p.length : Int)).toNat default).Value, true⟩), n - 1, by omega, ?_, by dsimp only; omega, by dsimp only; omega, ?_⟩
          · rw [if_pos (decide_eq_true (by omega)), if_pos g1, List.getElem?_eq_getElem hl3, Option.bind_some, within_eq (by omega) (by omega), Option.bind_some, if_pos ⟨b1, b2⟩]
            unfold lawRuleMonotone_j3
            rw [w64 (by omega)]
          · dsimp only
            rw [getD_get hl4]
            obtain ⟨o1, o2, o3⟩ := hok
            exact g3.set hl4 ⟨rfl, .inl rfl, Int.le_refl _, o2⟩ ⟨o1, o2, o3⟩
        · refine ⟨(i + 1, p), n - 1, by omega, ?_, by dsimp only; omega, by dsimp only; omega, g3⟩
          rw [if_neg (by simp; simpa using hp)]
          unfold lawRuleMonotone_j3
          rw [w64 (by omega)]
      · right
        rw [if_neg (by simpa using hi)]; exact ⟨_, rfl, g3⟩) origin.length ((0 : Int), c.Inputs) ⟨by simp, by simp, rfl, fun i x y hx hy => by rw [hx] at hy; cases hy; exact .refl (hc.ins x (List.mem_of_getElem? hx)).2.1, hc.ins⟩
  unfold lawRuleMonotone
  rw [e1, Option.bind_some, e2, Option.bind_some, if_pos (by omega), e4, Option.bind_some]
  exact hj1 ins1 h4

theorem lawRuleConnectives_true {l k m : List Int} {P Q R : Prop} (_ : P) (_ : Q) (_ : R) : lawRuleConnectives l k m = some true := by
  obtain ⟨r, e1, hr⟩ := madeRule_ok l
  obtain ⟨q, e2, hq⟩ := madeRule_ok k
  obtain ⟨c, e3, hc⟩ := madeCase_ok m
  have hmem : ∀ a, a ∈ [r, q] → MR 3 0 a := fun a ha => by
    rcases List.mem_cons.1 ha with rfl | ha
    · exact hr
    · rw [List.mem_singleton.1 ha]; exact hq
  have hrv : ∀ K : Int, (K = 5 ∨ K = 6) → RV 4 ⟨K, 0, [], 0, 0, [], [r, q]⟩ := fun K hK =>
    ⟨⟨(fun e => by rcases hK with rfl | rfl <;> cases e), by simp, by simp, by simp⟩, by simp only; omega, by simp, fun e => by simp only at e; omega, fun a ha => (hmem a ha).rv⟩
  have hval : ∀ K : Int, (K = 5 ∨ K = 6) → ∃ b : Bool, ruleValidate ⟨K, 0, [], 0, 0, [], [r, q]⟩ = some (if b = true then 0 else 1) := fun K hK => by
    refine ⟨_, valid_of (hrv K hK) (by omega) ?_ (b := [r, q].all fun a => !(a.Kind == K)) ?_⟩
    · rw [szS_succ]
      have := hr.sz3
      have := hq.sz3
      simp only [List.map_cons, List.map_nil, List.sum_cons, List.sum_nil]
      omega
    · show ruleValid_F (ruleValid_n 7) _ = _
      exact valid_node hK (by simp) (by simp) (fun a ha => MR.valid 7 (hmem a ha) (by omega))
  have hhol : ∀ K : Int, (K = 5 ∨ K = 6) → ruleValidate ⟨K, 0, [], 0, 0, [], [r, q]⟩ = some 0 → ruleHolds ⟨K, 0, [], 0, 0, [], [r, q]⟩ c = some (hS 4 ⟨K, 0, [], 0, 0, [], [r, q]⟩ c) := fun K hK h => ruleHolds_eq (hrv K hK) (by omega) h hc
  have h5 : hS 4 ⟨5, 0, [], 0, 0, [], [r, q]⟩ c = (hS 3 r c && hS 3 q c) := by
    rw [hS_succ, if_pos rfl]; simp
  have h6 : hS 4 ⟨6, 0, [], 0, 0, [], [r, q]⟩ c = (hS 3 r c || hS 3 q c) := by
    have h6 : ¬ ((6 : Int) = 5) := by decide
    rw [hS_succ]; dsimp only
    rw [if_neg h6, if_pos rfl]; simp
  have tail : ∀ v4 v5 : Bool, v4 = hS 3 r c → v5 = hS 3 q c → ((ruleValidate (⟨(6 : Int), 0, [], 0, 0, [], [r, q]⟩ : ApiRule)).bind fun v8 =>
      (if (!(v8 != (0 : Int))) = true then ruleHolds (⟨(6 : Int), 0, [], 0, 0, [], [r, q]⟩ : ApiRule) c else some default).bind fun v9 =>
        (if (bif (v8 != (0 : Int)) then true else (v9 == (bif v4 then true else v5))) = true then awake12 else some default).bind fun v10 =>
          some (bif (bif (v8 != (0 : Int)) then true else (v9 == (bif v4 then true else v5))) then v10 else false)) = some true := fun v4 v5 e4 e5 => by
    obtain ⟨b, hb⟩ := hval 6 (.inr rfl)
    cases b with
    | true =>
      rw [if_pos rfl] at hb
      have hx : (hS 3 r c || hS 3 q c) = (bif v4 then true else v5) := by rw [e4, e5]; cases hS 3 r c <;> rfl
      rw [hb, Option.bind_some, if_pos (by simp), hhol 6 (.inr rfl) hb, Option.bind_some, h6, hx, if_pos (by simp), awake_true, Option.bind_some]; simp
    | false =>
      rw [if_neg (by simp)] at hb
      rw [hb, Option.bind_some, if_neg (by simp), Option.bind_some, if_pos (by simp), awake_true, Option.bind_some]; rfl
  unfold lawRuleConnectives
  rw [e1, Option.bind_some, e2, Option.bind_some, e3, Option.bind_some, hol hr hc, Option.bind_some, hol hq hc, Option.bind_some]
  obtain ⟨b, hb⟩ := hval 5 (.inl rfl)
  cases b with
  | true =>
    rw [if_pos rfl] at hb
    have hx : (hS 3 r c && hS 3 q c) = (bif hS 3 r c then hS 3 q c else false) := by cases hS 3 r c <;> rfl
    rw [hb, Option.bind_some, if_pos (by simp), hhol 5 (.inl rfl) hb, Option.bind_some, h5, hx, if_neg (by simp)]
    exact tail _ _ rfl rfl
  | false =>
    rw [if_neg (by simp)] at hb
    rw [hb, Option.bind_some, if_neg (by simp), Option.bind_some, if_neg (by simp)]
    exact tail _ _ rfl rfl

/-! ### One factor -/
theorem mid_get {k : Int} {l : List ApiInput} {i : Nat} (h : i < l.length) : ((l.take i).map (scI k) ++ l.drop i).getD i default = l[i] := by
  rw [List.getD_eq_getElem?_getD, List.getElem?_append_right (by simp; omega), List.length_map, List.length_take, Nat.min_eq_left (by omega), Nat.sub_self, List.drop_eq_getElem_cons h]; rfl
theorem mid_set {k : Int} {l : List ApiInput} {i : Nat} (h : i < l.length) : ((l.take i).map (scI k) ++ l.drop i).set i (scI k l[i]) = (l.take (i + 1)).map (scI k) ++ l.drop (i + 1) := by
  rw [List.set_append_right _ _ (by simp; omega), List.length_map, List.length_take, Nat.min_eq_left (by omega), Nat.sub_self, List.drop_eq_getElem_cons h, List.set_cons_zero, take_snoc h, List.map_append]
  simp
theorem lawRuleScaled_true {l m : List Int} {factor : Int} {P Q R : Prop} (_ : P) (_ : Q) (_ : R) : lawRuleScaled l m factor = some true := by
  obtain ⟨r, e1, hr⟩ := madeRule_ok l
  obtain ⟨c, e2, hc⟩ := madeCase_ok m
  have hfew := hc.few
  have hpr := hc.price
  have f0 := Int.emod_nonneg factor (show (1000 : Int) ≠ 0 by omega)
  have f1 := Int.emod_lt_of_pos factor (show (0 : Int) < 1000 by omega)
  have ef : IntKind.i64.wrap ((1 : Int) + factor % 1000) = 1 + factor % 1000 := w64 (by omega)
  have hloop := loop_seq (f := lawRuleScaled_b1 r c (factor % 1000)) c.Inputs.length (fun i => ((i : Int), (decide ((1000000 : Int) < c.Price) || (c.Inputs.take i).any fun x => decide ((1000000 : Int) < x.Value)), (c.Inputs.take i).map (scI (1 + factor % 1000)) ++ c.Inputs.drop i)) ((decide ((1000000 : Int) < c.Price) || c.Inputs.any fun x => decide ((1000000 : Int) < x.Value)), c.Inputs.map (scI (1 + factor % 1000))) (fun i hi => by
    have hx := hc.ins _ (List.getElem_mem hi)
    have h1 : 0 ≤ c.Inputs[i].Value * (1 + factor % 1000) := Int.mul_nonneg hx.2.1 (by omega)
    have h2 : c.Inputs[i].Value * (1 + factor % 1000) ≤ 1000000000000 * 1000 := Int.mul_le_mul hx.2.2 (by omega) (by omega) (by omega)
    have hlen : ((c.Inputs.take i).map (scI (1 + factor % 1000)) ++ c.Inputs.drop i).length = c.Inputs.length := by
      rw [List.length_append, List.length_map, List.length_take, List.length_drop]; omega
    unfold lawRuleScaled_b1
    dsimp only
    rw [hlen, if_pos (decide_eq_true (by omega)), if_pos (fun _ => ⟨by omega, by omega⟩), if_pos ⟨by omega, by omega⟩, if_pos ⟨by omega, by omega⟩, Int.toNat_natCast, mid_get hi, ef, w64 (n := c.Inputs[i].Value * _) (by omega), w64 (by omega)]
    have hs := mid_set (k := 1 + factor % 1000) hi
    unfold scI at hs ⊢
    try dsimp only at hs ⊢
    rw [hs, take_snoc hi, List.any_append]
    congr 3
    simp only [List.any_cons, List.any_nil, Bool.or_false]
    cases decide ((1000000 : Int) < c.Price) <;> cases ((c.Inputs.take i).any fun x => decide ((1000000 : Int) < x.Value)) <;> rfl) (by
    unfold lawRuleScaled_b1
    dsimp only
    rw [if_neg (by simp), List.take_length, List.drop_length, List.append_nil])
  have hloop' : loopO (lawRuleScaled_b1 r c (factor % 1000)) ((0 : Int), (decide ((1000000 : Int) < c.Price)), c.Inputs) = some ((decide ((1000000 : Int) < c.Price) || c.Inputs.any fun x => decide ((1000000 : Int) < x.Value)), c.Inputs.map (scI (1 + factor % 1000))) := by simpa using hloop
  unfold lawRuleScaled
  rw [e1, Option.bind_some, e2, Option.bind_some, within_eq (by omega) (by omega), Option.bind_some, if_pos (by omega), hloop', Option.bind_some]
  dsimp only
  unfold lawRuleScaled_j1
  cases hb : (decide ((1000000 : Int) < c.Price) || c.Inputs.any fun x => decide ((1000000 : Int) < x.Value)) with
  | true => rw [if_neg (by simp), Option.bind_some, if_neg (by simp), Option.bind_some, if_pos (by simp), awake_true, Option.bind_some]; rfl
  | false =>
    rw [Bool.or_eq_false_iff, decide_eq_false_iff_not, List.any_eq_false] at hb
    have p0 : 1 * 1 ≤ c.Price * (1 + factor % 1000) := Int.mul_le_mul hpr.1 (by omega) (by omega) (by omega)
    have p1 : c.Price * (1 + factor % 1000) ≤ 1000000 * 1000 := Int.mul_le_mul (by omega) (by omega) (by omega) (by omega)
    have hd : COk (scC (1 + factor % 1000) c) := ⟨hc.code, ⟨by show 1 ≤ c.Price * _; omega, by show c.Price * _ ≤ _; omega⟩, hc.words, by show (c.Inputs.map _).length ≤ 100; rw [List.length_map]; exact hfew, fun x hx => by
      obtain ⟨y, hy, rfl⟩ := List.mem_map.1 hx
      have hx := hc.ins y hy
      have hv := hb.2 y hy
      simp only [decide_eq_true_eq] at hv
      have h1 : 0 ≤ y.Value * (1 + factor % 1000) := Int.mul_nonneg hx.2.1 (by omega)
      have h2 : y.Value * (1 + factor % 1000) ≤ 1000000 * 1000 := Int.mul_le_mul (by omega) (by omega) (by omega) (by omega)
      exact ⟨hx.1, h1, by show y.Value * _ ≤ _; omega⟩⟩
    rw [if_pos (by simp), hol hr hc, Option.bind_some, if_pos (by simp), ef, w64 (by omega)]
    show (ruleHolds r (scC (1 + factor % 1000) c)).bind _ = _
    rw [hol hr hd, Option.bind_some, hS_sc (by omega) c hr, if_pos (by simp), awake_true, Option.bind_some]
    simp
end Go.C
