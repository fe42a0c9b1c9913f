/- Plain laws of chapter 12: cases, and rules without parts. No program in sight. -/
import Derived.Test.YtfeleiepnifbcaaGreatDoorXa
import Derived.Test.YtfeleiepnifbcaaGreatDoorPc
set_option linter.unusedVariables false
set_option linter.unusedSimpArgs false
set_option maxHeartbeats 1000000
namespace Go.C
open Go.V

/-! ### A case -/
theorem lvl_of {s : Str} (h : 6 ≤ lvl s) : s.length = 6 ∨ s.length = 8 := by
  unfold lvl at h
  split at h
  · omega
  · omega
theorem goodsCode_eq (s : Str) : goodsCode s = some (decide (6 ≤ lvl s)) := by
  unfold goodsCode
  rw [nomLevel_eq]; rfl
theorem rLong_eq {s : Str} (h : s.length ≤ 9223372036854775807) : rLong s = some (decide (6 ≤ lvl s)) := by
  unfold rLong
  rw [refLevel_eq h]; rfl
def inErr (x : ApiInput) : Int := if 6 ≤ lvl x.Code then (if x.Value < 0 ∨ 1000000000000 < x.Value then 2 else 0) else 1
def badI (x : ApiInput) : Bool := !(inErr x == 0)
def vcS (c : ApiCase) : Int :=
  if 6 ≤ lvl c.Code then (if c.Price < 1 ∨ 1000000000000 < c.Price then 2 else if wordsOk c.Processes = false then 1 else if 100 < c.Inputs.length then 8
    else match fi badI c.Inputs with | some i => inErr (c.Inputs.getD i default) | none => 0) else 1
theorem or_b (p q : Prop) [Decidable p] [Decidable q] : (bif decide p then true else decide q) = decide (p ∨ q) := by
  by_cases h : p <;> by_cases h2 : q <;> simp [h, h2]
theorem validateCase_eq (c : ApiCase) : validateCase c = some (vcS c) := by
  unfold validateCase vcS
  rw [goodsCode_eq, Option.bind_some]
  by_cases h1 : 6 ≤ lvl c.Code
  · rw [decide_eq_true h1, if_neg (by simp), if_pos h1, or_b]
    by_cases h2 : c.Price < 1 ∨ 1000000000000 < c.Price
    · rw [if_pos (decide_eq_true h2), if_pos h2]
    · rw [if_neg (fun e => h2 (of_decide_eq_true e)), if_neg h2, validWords_eq, Option.bind_some]
      cases h3 : wordsOk c.Processes with
      | false => rfl
      | true =>
        rw [if_neg (show ¬ (!true) = true by simp), if_neg (show ¬ (true = false) by simp)]
        by_cases h4 : 100 < c.Inputs.length
        · rw [if_pos (decide_eq_true (by omega)), if_pos h4]
        · rw [if_neg (by simp; omega), if_neg h4]
          rw [idx_loop (l := c.Inputs) badI (validateCase_b1 c) (fun i => inErr (c.Inputs.getD i default)) (fun i x hx => by
            have hlt := lt_of_get hx
            unfold validateCase_b1
            rw [if_pos (decide_eq_true (by omega)), if_pos (by omega), Int.toNat_natCast, hx, Option.bind_some, goodsCode_eq, Option.bind_some, getD_of hx, or_b, w64 (by omega)]
            unfold badI inErr
            by_cases q1 : 6 ≤ lvl x.Code
            · by_cases q2 : x.Value < 0 ∨ 1000000000000 < x.Value
              · simp [q1, q2]
              · simp [q1, q2]
            · simp [q1]) (by unfold validateCase_b1; rw [if_neg (by simp)]), Option.bind_some]
          cases fi badI c.Inputs <;> rfl
  · rw [decide_eq_false h1, if_neg h1]; rfl
theorem rCase_eq {c : ApiCase} (hok : okApiCase c) : rCase c = some (vcS c) := by
  obtain ⟨k1, k2, k3, k4⟩ := hok
  unfold rCase vcS
  rw [rLong_eq k1, Option.bind_some]
  by_cases h1 : 6 ≤ lvl c.Code
  · rw [decide_eq_true h1, if_neg (by simp), if_pos h1, or_b]
    by_cases h2 : c.Price < 1 ∨ 1000000000000 < c.Price
    · rw [if_pos (decide_eq_true h2), if_pos h2]
    · rw [if_neg (fun e => h2 (of_decide_eq_true e)), if_neg h2, refWords_eq _ k3.1 k3.2, Option.bind_some]
      cases h3 : wordsOk c.Processes with
      | false => rfl
      | true =>
        rw [if_neg (show ¬ (!true) = true by simp), if_neg (show ¬ (true = false) by simp)]
        by_cases h4 : 100 < c.Inputs.length
        · rw [if_pos (decide_eq_true (by omega)), if_pos h4]
        · rw [if_neg (by simp; omega), if_neg h4]
          rw [idx_loop (l := c.Inputs) badI (rCase_b1 c) (fun i => inErr (c.Inputs.getD i default)) (fun i x hx => by
            have hlt := lt_of_get hx
            have hxk := (k4.2 x (List.mem_of_getElem? hx)).1
            have h0 : (0 : Int) ≤ (i : Int) := by omega
            unfold rCase_b1
            rw [if_pos (decide_eq_true (by omega)), if_pos h0, Int.toNat_natCast, hx, Option.bind_some, rLong_eq hxk, Option.bind_some, getD_of hx]
            unfold badI inErr
            by_cases q1 : 6 ≤ lvl x.Code
            · rw [decide_eq_true q1, if_neg (by simp), if_pos h0, Option.bind_some, if_pos (fun _ => by omega), or_b, w64 (by omega)]
              by_cases q2 : x.Value < 0 ∨ 1000000000000 < x.Value
              · simp [q1, q2]
              · simp [q1, q2]
            · simp [q1]) (by unfold rCase_b1; rw [if_neg (by simp)]), Option.bind_some]
          cases fi badI c.Inputs <;> rfl
  · rw [decide_eq_false h1, if_neg h1]; rfl
structure COk (c : ApiCase) : Prop where
  code : 6 ≤ lvl c.Code
  price : 1 ≤ c.Price ∧ c.Price ≤ 1000000000000
  words : wordsOk c.Processes = true
  few : c.Inputs.length ≤ 100
  ins : ∀ x, x ∈ c.Inputs → 6 ≤ lvl x.Code ∧ 0 ≤ x.Value ∧ x.Value ≤ 1000000000000
theorem COk.vc {c : ApiCase} (h : COk c) : vcS c = 0 := by
  unfold vcS
  have h2 := h.price
  have h4 := h.few
  rw [if_pos h.code, if_neg (by omega), h.words, if_neg (by simp), if_neg (by omega)]
  have : fi badI c.Inputs = none := fi_none.2 fun x hx => by
    obtain ⟨q1, q2, q3⟩ := h.ins x hx
    unfold badI inErr
    rw [if_pos q1, if_neg (by omega)]; rfl
  rw [this]
theorem wordsOk_len {l : List Str} (h : wordsOk l = true) : l.length ≤ 8 := by
  unfold wordsOk at h
  rw [Bool.and_eq_true] at h
  exact of_decide_eq_true h.1

/-! ### Shares -/
theorem wu_in {n : Int} (h : 0 ≤ n) (h2 : n < 18446744073709551616) : IntKind.u64.wrap n = n := by rw [wu]; omega
theorem atMost_eq {v s p : Int} (hv : 0 ≤ v ∧ v ≤ 1000000000000000) (hs : 0 ≤ s ∧ s ≤ 1000000) (hp : 0 ≤ p ∧ p ≤ 1000000000000000) : atMost v s p = some (decide (v * 1000000 ≤ s * p)) := by
  have h0 : 0 ≤ s * p := Int.mul_nonneg hs.1 hp.1
  unfold atMost
  rw [wu_in hv.1 (by omega), exactMul_ok hv.1 (by omega) (by decide) (by decide), Option.bind_some, wu_in hs.1 (by omega), wu_in hp.1 (by omega), exactMul_ok hs.1 (by omega) hp.1 (by omega), Option.bind_some]
  obtain ⟨r, e, h1, _⟩ := exactCmp_ok (m := v * 1000000) (n := s * p) (by omega) h0
  rw [e, Option.bind_some]
  congr 1
  have h2 : (0 < r) ↔ s * p < v * 1000000 := by simpa using h1
  rw [Bool.eq_iff_iff, decide_eq_true_eq, decide_eq_true_eq]
  omega
theorem rWithin_eq {v s p : Int} (hv : 0 ≤ v ∧ v ≤ 1000000000000000) (hs : 0 ≤ s ∧ s ≤ 1000000) (hp : 0 ≤ p ∧ p ≤ 1000000000000000) : rWithin v s p = some (decide (v * 1000000 ≤ s * p)) := by
  have h0 : 0 ≤ s * p := Int.mul_nonneg hs.1 hp.1
  unfold rWithin
  rw [wu_in hv.1 (by omega), r01Mul_ok hv.1 (by omega) (by decide) (by decide), Option.bind_some, wu_in hs.1 (by omega), wu_in hp.1 (by omega), r01Mul_ok hs.1 (by omega) hp.1 (by omega), Option.bind_some]
  unfold r01Order
  rw [r01Less_ok (by omega) h0, Option.bind_some]
  by_cases h1 : v * 1000000 < s * p
  · rw [decide_eq_true h1, if_pos rfl, Option.bind_some, decide_eq_true (by omega : v * 1000000 ≤ s * p)]; rfl
  · rw [decide_eq_false h1, if_neg (by simp), r01Less_ok h0 (by omega), Option.bind_some]
    by_cases h2 : s * p < v * 1000000
    · rw [decide_eq_true h2, if_pos rfl, Option.bind_some, decide_eq_false (by omega : ¬ v * 1000000 ≤ s * p)]; rfl
    · rw [decide_eq_false h2, if_neg (by simp), Option.bind_some, decide_eq_true (by omega : v * 1000000 ≤ s * p)]; rfl

/-! ### Words and codes -/
theorem sContains_eq {s : List Str} (v : Str) (h : s.length ≤ 1000) : sContains s v = some (s.contains v) := by
  unfold sContains sIndex
  rw [idx_loop (l := s) (fun x => v == x) (sIndex_b1 s v) (fun i => (i : Int)) (fun i x hx => by
    have hlt := lt_of_get hx
    unfold sIndex_b1
    rw [if_pos (decide_eq_true (by omega)), if_pos (by omega), Int.toNat_natCast, hx, Option.bind_some, w64 (by omega)]; rfl) (by unfold sIndex_b1; rw [if_neg (by simp)])]
  cases hf : fi (fun x => v == x) s with
  | none =>
    have h1 : s.contains v = false := by
      rw [Bool.eq_false_iff]
      intro e
      have := fi_none.1 hf v (List.contains_iff_mem.1 e)
      simp at this
    rw [h1]; rfl
  | some i =>
    obtain ⟨x, h2, h3, _⟩ := fi_some hf
    have h1 : s.contains v = true := List.contains_iff_mem.2 (by rw [beq_iff_eq.1 h3]; exact List.mem_of_getElem? h2)
    rw [h1]
    show some (decide ((0 : Int) ≤ (i : Int))) = some true
    rw [decide_eq_true (by omega)]
theorem refHas_eq {s : List Str} (v : Str) (h : s.length ≤ 1000) : refHas s v = some (s.contains v) := by
  unfold refHas
  rw [idx_loop (l := s) (fun x => x == v) (refHas_b1 s v) (fun _ => true) (fun i x hx => by
    have hlt := lt_of_get hx
    unfold refHas_b1
    rw [if_pos (decide_eq_true (by omega)), if_pos (by omega), Int.toNat_natCast, hx, Option.bind_some, w64 (by omega)]; rfl) (by unfold refHas_b1; rw [if_neg (by simp)]), Option.bind_some]
  cases hf : fi (fun x => x == v) s with
  | none =>
    have h1 : s.contains v = false := by
      rw [Bool.eq_false_iff]
      intro e
      have := fi_none.1 hf v (List.contains_iff_mem.1 e)
      simp at this
    rw [h1]; rfl
  | some i =>
    obtain ⟨x, h2, h3, _⟩ := fi_some hf
    have h1 : s.contains v = true := List.contains_iff_mem.2 (by rw [← beq_iff_eq.1 h3]; exact List.mem_of_getElem? h2)
    rw [h1]

/-! ### Which inputs count -/
def pre (s p : Str) : Bool := s.take p.length == p
def viol (r : ApiRule) (code : Str) (x : ApiInput) : Bool := (x.Code.take r.Digits.toNat == code.take r.Digits.toNat) || r.Except.any fun e => pre x.Code e
theorem refPrefix_eq (s p : Str) : refPrefix s p = some (pre s p) := by
  unfold refPrefix pre
  by_cases h : p.length ≤ s.length
  · rw [decide_eq_true (by omega : (p.length : Int) ≤ (s.length : Int)), if_pos (fun _ => by omega), cond_true, Int.toNat_natCast, show ((0 : Int)).toNat = 0 from rfl, List.drop_zero]
  · rw [decide_eq_false (by omega : ¬ (p.length : Int) ≤ (s.length : Int)), if_pos (fun e => by cases e), cond_false]
    congr 1
    symm
    rw [beq_eq_false_iff_ne]
    intro e
    have := congrArg List.length e
    rw [List.length_take] at this
    omega
theorem any_fi {α : Type} (p : α → Bool) (l : List α) : l.any p = (fi p l).isSome := by
  cases h : fi p l with
  | none =>
    rw [List.any_eq_false.2 (fun x hx => by rw [fi_none.1 h x hx]; simp)]; rfl
  | some i =>
    obtain ⟨x, h2, h3, _⟩ := fi_some h
    rw [List.any_eq_true.2 ⟨x, List.mem_of_getElem? h2, h3⟩]; rfl
structure LOk (r : ApiRule) : Prop where
  digits : r.Kind = 2 → (r.Digits = 2 ∨ r.Digits = 4 ∨ r.Digits = 6)
  exc : r.Except.length ≤ 6
  tol : 0 ≤ r.Tolerance ∧ r.Tolerance ≤ 1000000
  lim : 0 ≤ r.Limit ∧ r.Limit ≤ 1000000
theorem violates_eq {r : ApiRule} (hr : LOk r) (hk : r.Kind = 2) {code : Str} (hc : 6 ≤ code.length) {x : ApiInput} : violates r code x.Code = some (viol r code x) := by
  have hd := hr.digits hk
  have he := hr.exc
  unfold violates viol hasPrefixS
  rw [if_pos ⟨by omega, by omega, by omega⟩, Option.bind_some, show ((0 : Int)).toNat = 0 from rfl, List.drop_zero, pre_take, List.length_take, Nat.min_eq_left (by omega)]
  cases h : (x.Code.take r.Digits.toNat == code.take r.Digits.toNat) with
  | true => rfl
  | false =>
    rw [if_neg (by simp), Bool.false_or, any_fi]
    unfold violContains violIndex
    rw [idx_loop (l := r.Except) (fun e => pre x.Code e) (violIndex_b1 r.Except x.Code) (fun i => (i : Int)) (fun i e hx => by
      have hlt := lt_of_get hx
      unfold violIndex_b1 violatesIn hasPrefixS
      rw [if_pos (decide_eq_true (by omega)), if_pos (by omega), Int.toNat_natCast, hx, Option.bind_some, Option.bind_some, pre_take, w64 (by omega)]; rfl) (by unfold violIndex_b1; rw [if_neg (by simp)])]
    cases hf : fi (fun e => pre x.Code e) r.Except with
    | none => rfl
    | some i =>
      show some (decide ((0 : Int) ≤ (i : Int))) = some true
      rw [decide_eq_true (by omega)]
theorem rViolates_eq {r : ApiRule} (hr : LOk r) (hk : r.Kind = 2) {c : ApiCase} (hc : 6 ≤ c.Code.length) {x : ApiInput} (hx : 6 ≤ x.Code.length) : rViolates r c x = some (viol r c.Code x) := by
  have hd := hr.digits hk
  have he := hr.exc
  unfold rViolates viol
  rw [if_pos ⟨by omega, by omega, by omega⟩, if_pos ⟨by omega, by omega, by omega⟩, show ((0 : Int)).toNat = 0 from rfl, List.drop_zero, List.drop_zero]
  cases h : (x.Code.take r.Digits.toNat == c.Code.take r.Digits.toNat) with
  | true => rfl
  | false =>
    rw [if_neg (by simp), Bool.false_or, any_fi]
    rw [idx_loop (l := r.Except) (fun e => pre x.Code e) (rViolates_b1 r x) (fun _ => true) (fun i e hx => by
      have hlt := lt_of_get hx
      unfold rViolates_b1
      rw [if_pos (decide_eq_true (by omega)), if_pos (by omega), Int.toNat_natCast, hx, Option.bind_some, refPrefix_eq, Option.bind_some, w64 (by omega)]; rfl) (by unfold rViolates_b1; rw [if_neg (by simp)]), Option.bind_some]
    cases hf : fi (fun e => pre x.Code e) r.Except with
    | none => rfl
    | some i => rfl

/-! ### A rule without parts -/
def fv (x : ApiInput) : Int := if x.Originating = true then 0 else x.Value
def vv (r : ApiRule) (c : ApiCase) (x : ApiInput) : Int := if x.Originating = true then 0 else if r.Kind = 2 ∧ viol r c.Code x = true then x.Value else 0
def cv (x : ApiInput) : Int := if x.Originating = true then 0 else 1
def rvv (r : ApiRule) (c : ApiCase) (x : ApiInput) : Int := if x.Originating = true then 0 else if r.Kind = 3 ∨ (r.Kind = 2 ∧ viol r c.Code x = true) then x.Value else 0
def leafS (r : ApiRule) (c : ApiCase) : Bool :=
  if r.Kind = 1 then (c.Obtained && decide ((c.Inputs.map cv).sum = 0)) else if r.Kind = 2 then decide ((c.Inputs.map (vv r c)).sum * 1000000 ≤ r.Tolerance * c.Price)
  else if r.Kind = 3 then decide ((c.Inputs.map fv).sum * 1000000 ≤ r.Limit * c.Price) else if r.Kind = 4 then c.Processes.contains r.Name else false
theorem sum_bnd {α : Type} (f : α → Int) (B : Int) : ∀ (l : List α), (∀ x, x ∈ l → 0 ≤ f x ∧ f x ≤ B) → 0 ≤ (l.map f).sum ∧ (l.map f).sum ≤ B * l.length
  | [], _ => by simp
  | x :: l, h => by
    have h1 := h x (by simp)
    have h2 := sum_bnd f B l (fun y hy => h y (List.mem_cons_of_mem _ hy))
    have e : B * ((x :: l).length : Int) = B * (l.length : Int) + B := by
      rw [List.length_cons, Int.natCast_add, Int.mul_add]; simp
    rw [e]
    simp only [List.map_cons, List.sum_cons]
    omega
theorem sum_take {α : Type} (f : α → Int) {l : List α} {i : Nat} (h : i < l.length) : ((l.take (i + 1)).map f).sum = ((l.take i).map f).sum + f l[i] := by
  rw [take_snoc h, List.map_append, List.sum_append]; simp
theorem sum_all {α : Type} (f : α → Int) (B : Int) {l : List α} (hb : ∀ x, x ∈ l → 0 ≤ f x ∧ f x ≤ B) (hB : 0 ≤ B) (hl : l.length ≤ 100) (i : Nat) : 0 ≤ ((l.take i).map f).sum ∧ ((l.take i).map f).sum ≤ B * 100 := by
  have h := sum_bnd f B (l.take i) (fun x hx => hb x (List.mem_of_mem_take hx))
  refine ⟨h.1, Int.le_trans h.2 (Int.mul_le_mul_of_nonneg_left ?_ hB)⟩
  rw [List.length_take]; omega
theorem cv_b (c : ApiCase) : ∀ x, x ∈ c.Inputs → 0 ≤ cv x ∧ cv x ≤ 1 := fun x hx => by unfold cv; split <;> omega
theorem fv_b {c : ApiCase} (hc : COk c) : ∀ x, x ∈ c.Inputs → 0 ≤ fv x ∧ fv x ≤ 1000000000000 := fun x hx => by
  have := hc.ins x hx; unfold fv; split <;> omega
theorem vv_b {c : ApiCase} (hc : COk c) (r : ApiRule) : ∀ x, x ∈ c.Inputs → 0 ≤ vv r c x ∧ vv r c x ≤ 1000000000000 := fun x hx => by
  have := hc.ins x hx; unfold vv; split
  · omega
  · split <;> omega
theorem rvv_b {c : ApiCase} (hc : COk c) (r : ApiRule) : ∀ x, x ∈ c.Inputs → 0 ≤ rvv r c x ∧ rvv r c x ≤ 1000000000000 := fun x hx => by
  have := hc.ins x hx; unfold rvv; split
  · omega
  · split <;> omega
theorem holds_eq {c : ApiCase} (hc : COk c) {r : ApiRule} (hr : LOk r) : holds r c = some (leafS r c) := by
  have hcl := lvl_of hc.code
  have hl := hc.few
  have hpr := hc.price
  have hwl := wordsOk_len hc.words
  unfold holds
  have hloop := loop_seq (f := holds_b1 r c) c.Inputs.length (fun i => ((i : Int), ((c.Inputs.take i).map cv).sum, ((c.Inputs.take i).map (vv r c)).sum, ((c.Inputs.take i).map fv).sum)) ((c.Inputs.map cv).sum, (c.Inputs.map (vv r c)).sum, (c.Inputs.map fv).sum) (fun i hi => by
    have b1 := sum_all cv 1 (cv_b c) (by decide) hl i
    have b2 := sum_all (vv r c) 1000000000000 (vv_b hc r) (by decide) hl i
    have b3 := sum_all fv 1000000000000 (fv_b hc) (by decide) hl i
    have hx := hc.ins _ (List.getElem_mem hi)
    rw [sum_take cv hi, sum_take (vv r c) hi, sum_take fv hi]
    unfold holds_b1 holds_j2
    dsimp only
    rw [if_pos (decide_eq_true (by omega)), if_pos (by omega), Int.toNat_natCast, List.getElem?_eq_getElem hi, Option.bind_some, w64 (n := (i : Int) + 1) (by omega)]
    unfold cv vv fv
    unfold cv at b1; unfold vv at b2; unfold fv at b3
    cases ho : c.Inputs[i].Originating with
    | true => simp
    | false =>
      simp only [Bool.false_eq_true, if_false]
      by_cases h2 : r.Kind = 2
      · rw [if_pos (beq_iff_eq.2 h2), violates_eq hr h2 (by omega), Option.bind_some, beq_iff_eq.2 h2, cond_true]
        cases viol r c.Code c.Inputs[i] with
        | true => rw [if_pos rfl, if_pos ⟨h2, rfl⟩, w64 (by omega), w64 (by omega), w64 (by omega)]; rfl
        | false => rw [if_neg (by simp), if_neg (by simp), w64 (by omega), w64 (by omega), Int.add_zero]; rfl
      · rw [if_neg (fun e => h2 (beq_iff_eq.1 e)), Option.bind_some, beq_eq_false_iff_ne.2 h2, cond_false, if_neg (by simp), if_neg (fun e => h2 e.1), w64 (by omega), w64 (by omega), Int.add_zero]; rfl) (by
    unfold holds_b1
    dsimp only
    rw [if_neg (by simp), List.take_length])
  have hloop' : loopO (holds_b1 r c) ((0 : Int), (0 : Int), (0 : Int), (0 : Int)) = some ((c.Inputs.map cv).sum, (c.Inputs.map (vv r c)).sum, (c.Inputs.map fv).sum) := hloop
  rw [hloop', Option.bind_some]
  show holds_j1 r c (c.Inputs.map cv).sum (c.Inputs.map (vv r c)).sum (c.Inputs.map fv).sum = _
  have b2 := sum_all (vv r c) 1000000000000 (vv_b hc r) (by decide) hl c.Inputs.length
  have b3 := sum_all fv 1000000000000 (fv_b hc) (by decide) hl c.Inputs.length
  rw [List.take_length] at b2 b3
  unfold holds_j1 leafS
  by_cases k1 : r.Kind = 1
  · rw [if_pos (beq_iff_eq.2 k1), if_pos k1]
    cases c.Obtained <;> rfl
  rw [if_neg (fun e => k1 (beq_iff_eq.1 e)), if_neg k1]
  by_cases k2 : r.Kind = 2
  · rw [if_pos (beq_iff_eq.2 k2), if_pos k2, atMost_eq ⟨b2.1, by omega⟩ hr.tol ⟨by omega, by omega⟩]; rfl
  rw [if_neg (fun e => k2 (beq_iff_eq.1 e)), if_neg k2]
  by_cases k3 : r.Kind = 3
  · rw [if_pos (beq_iff_eq.2 k3), if_pos k3, atMost_eq ⟨b3.1, by omega⟩ hr.lim ⟨by omega, by omega⟩]; rfl
  rw [if_neg (fun e => k3 (beq_iff_eq.1 e)), if_neg k3]
  by_cases k4 : r.Kind = 4
  · rw [if_pos (beq_iff_eq.2 k4), if_pos k4, sContains_eq _ (by omega)]; rfl
  rw [if_neg (fun e => k4 (beq_iff_eq.1 e)), if_neg k4]
end Go.C
