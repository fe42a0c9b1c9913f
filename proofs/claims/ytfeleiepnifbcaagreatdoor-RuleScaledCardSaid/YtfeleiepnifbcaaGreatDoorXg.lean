/- Plain laws of chapter 12: what grows, what scales. No program in sight. -/
import Derived.Test.YtfeleiepnifbcaaGreatDoorXf
set_option linter.unusedVariables false
set_option linter.unusedSimpArgs false
set_option maxHeartbeats 1000000
namespace Go.C
open Go.V

/-! ### A rule still holds when inputs get better -/
def LeI (x y : ApiInput) : Prop := y.Code = x.Code ∧ (y.Originating = true ∨ y.Originating = x.Originating) ∧ y.Value ≤ x.Value ∧ 0 ≤ x.Value
structure LeC (c d : ApiCase) : Prop where
  code : d.Code = c.Code
  price : d.Price = c.Price
  obt : d.Obtained = c.Obtained
  proc : ∀ w, w ∈ words5 → d.Processes.contains w = true
  len : d.Inputs.length = c.Inputs.length
  ins : ∀ (i : Nat) x y, c.Inputs[i]? = some x → d.Inputs[i]? = some y → LeI x y
theorem sum_le2 (f g : ApiInput → Int) : ∀ (xs ys : List ApiInput), ys.length = xs.length → (∀ (i : Nat) x y, xs[i]? = some x → ys[i]? = some y → g y ≤ f x) → (ys.map g).sum ≤ (xs.map f).sum
  | [], [], _, _ => by simp
  | x :: xs, y :: ys, hl, h => by
    have h1 := h 0 x y rfl rfl
    have h2 := sum_le2 f g xs ys (by simpa using hl) (fun i a b ha hb => h (i + 1) a b (by simpa using ha) (by simpa using hb))
    simp only [List.map_cons, List.sum_cons]
    omega
  | [], _ :: _, hl, _ => by simp at hl
  | _ :: _, [], hl, _ => by simp at hl
theorem leaf1 (c : ApiCase) : leafS ⟨1, 0, [], 0, 0, [], []⟩ c = (c.Obtained && decide ((c.Inputs.map cv).sum = 0)) := rfl
theorem leaf2 (d : Int) (e : List Str) (t : Int) (c : ApiCase) : leafS ⟨2, d, e, t, 0, [], []⟩ c = decide ((c.Inputs.map (vv ⟨2, d, e, t, 0, [], []⟩ c)).sum * 1000000 ≤ t * c.Price) := rfl
theorem leaf3 (l : Int) (c : ApiCase) : leafS ⟨3, 0, [], 0, l, [], []⟩ c = decide ((c.Inputs.map fv).sum * 1000000 ≤ l * c.Price) := rfl
theorem leaf4 (w : Str) (c : ApiCase) : leafS ⟨4, 0, [], 0, 0, w, []⟩ c = c.Processes.contains w := rfl
theorem leaf_mono {r : ApiRule} (hr : LF r) {c d : ApiCase} (h : LeC c d) (hl : leafS r c = true) : leafS r d = true := by
  cases hr with
  | obt =>
    rw [leaf1, Bool.and_eq_true, decide_eq_true_eq] at hl ⊢
    have e1 : (d.Inputs.map cv).sum ≤ (c.Inputs.map cv).sum := sum_le2 cv cv _ _ h.len fun i x y hx hy => by
      obtain ⟨a1, a2, a3, a4⟩ := h.ins i x y hx hy
      unfold cv
      rcases a2 with e | e
      · rw [if_pos e]; split <;> omega
      · rw [e]; exact Int.le_refl _
    have e0 := (sum_bnd cv 1 d.Inputs (cv_b d)).1
    refine ⟨by rw [h.obt]; exact hl.1, by omega⟩
  | fore l hq =>
    rw [leaf3, decide_eq_true_eq] at hl ⊢
    have e1 : (d.Inputs.map fv).sum ≤ (c.Inputs.map fv).sum := sum_le2 fv fv _ _ h.len fun i x y hx hy => by
      obtain ⟨a1, a2, a3, a4⟩ := h.ins i x y hx hy
      unfold fv
      rcases a2 with e | e
      · rw [if_pos e]; split <;> omega
      · rw [e]; split <;> omega
    rw [h.price]; omega
  | proc w hw =>
    rw [leaf4]; exact h.proc w hw
  | chg dg e t hd he ht =>
    rw [leaf2, decide_eq_true_eq] at hl ⊢
    have e1 : (d.Inputs.map (vv ⟨2, dg, e, t, 0, [], []⟩ d)).sum ≤ (c.Inputs.map (vv ⟨2, dg, e, t, 0, [], []⟩ c)).sum := sum_le2 _ _ _ _ h.len fun i x y hx hy => by
      obtain ⟨a1, a2, a3, a4⟩ := h.ins i x y hx hy
      have ev : viol ⟨2, dg, e, t, 0, [], []⟩ d.Code y = viol ⟨2, dg, e, t, 0, [], []⟩ c.Code x := by unfold viol; rw [a1, h.code]
      unfold vv
      rw [ev]
      rcases a2 with q | q
      · rw [if_pos q]; split
        · omega
        · split <;> omega
      · rw [q]; split
        · omega
        · split <;> omega
    rw [h.price]; omega
theorem hS_mono {c d : ApiCase} (h : LeC c d) : ∀ {n : Nat} {but : Int} {r : ApiRule}, MR n but r → hS n r c = true → hS n r d = true
  | 0, _, _, hr, _ => hr.elim
  | n + 1, _, r, .inl hr, hl => by
    have hk := hr.kind
    rw [hS_succ, if_neg (by omega), if_neg (by omega)] at hl ⊢
    exact leaf_mono hr h hl
  | n + 1, _, r, .inr ⟨K, args, hK, hb, e, h2, h3, ha⟩, hl => by
    subst e
    rw [hS_succ] at hl ⊢
    dsimp only at hl ⊢
    rcases hK with rfl | rfl
    · rw [if_pos rfl] at hl ⊢
      exact List.all_eq_true.2 fun a hm => hS_mono h (ha a hm) (List.all_eq_true.1 hl a hm)
    · rw [if_neg (by decide), if_pos rfl] at hl ⊢
      obtain ⟨a, hm, hl⟩ := List.any_eq_true.1 hl
      exact List.any_eq_true.2 ⟨a, hm, hS_mono h (ha a hm) hl⟩

/-! ### A rule of shares, when the price and all values grow by one factor -/
def scI (k : Int) (x : ApiInput) : ApiInput := { x with Value := x.Value * k }
def scC (k : Int) (c : ApiCase) : ApiCase := { c with Price := c.Price * k, Inputs := c.Inputs.map (scI k) }
theorem sum_sc (f g : ApiInput → Int) (k : Int) (h : ∀ x, g (scI k x) = f x * k) : ∀ l : List ApiInput, ((l.map (scI k)).map g).sum = (l.map f).sum * k
  | [] => by simp
  | x :: l => by
    have := sum_sc f g k h l
    simp only [List.map_cons, List.sum_cons]
    rw [this, h, Int.add_mul]
theorem le_sc {a b k : Int} (hk : 0 < k) : (a * k * 1000000 ≤ b * k) ↔ (a * 1000000 ≤ b) := by
  have : a * k * 1000000 = a * 1000000 * k := by rw [Int.mul_assoc, Int.mul_comm k, ← Int.mul_assoc]
  rw [this]
  exact ⟨fun h => Int.le_of_mul_le_mul_right h hk, fun h => Int.mul_le_mul_of_nonneg_right h (by omega)⟩
theorem leaf_sc {k : Int} (hk : 0 < k) {r : ApiRule} (hr : LF r) (c : ApiCase) : leafS r (scC k c) = leafS r c := by
  cases hr with
  | obt =>
    rw [leaf1, leaf1]
    have e : ((scC k c).Inputs.map cv) = c.Inputs.map cv := by
      show (c.Inputs.map (scI k)).map cv = _
      rw [List.map_map]; rfl
    rw [e]; rfl
  | fore l hq =>
    rw [leaf3, leaf3]
    have e : ((scC k c).Inputs.map fv).sum = (c.Inputs.map fv).sum * k := sum_sc fv fv k (fun x => by
      unfold fv scI; dsimp only; split
      · rw [Int.zero_mul]
      · rfl) _
    rw [e]
    show decide (_ ≤ l * (c.Price * k)) = _
    rw [← Int.mul_assoc]
    exact decide_eq_decide.2 (le_sc hk)
  | proc w hw => rw [leaf4, leaf4]; rfl
  | chg dg e t hd he ht =>
    rw [leaf2, leaf2]
    have e : ((scC k c).Inputs.map (vv ⟨2, dg, e, t, 0, [], []⟩ (scC k c))).sum = (c.Inputs.map (vv ⟨2, dg, e, t, 0, [], []⟩ c)).sum * k := sum_sc _ _ k (fun x => by
      have ev : viol ⟨2, dg, e, t, 0, [], []⟩ (scC k c).Code (scI k x) = viol ⟨2, dg, e, t, 0, [], []⟩ c.Code x := rfl
      unfold vv
      rw [ev]
      unfold scI; dsimp only
      split
      · rw [Int.zero_mul]
      · split
        · rfl
        · rw [Int.zero_mul]) _
    rw [e]
    show decide (_ ≤ t * (c.Price * k)) = _
    rw [← Int.mul_assoc]
    exact decide_eq_decide.2 (le_sc hk)
theorem hS_sc {k : Int} (hk : 0 < k) (c : ApiCase) : ∀ {n : Nat} {but : Int} {r : ApiRule}, MR n but r → hS n r (scC k c) = hS n r c
  | 0, _, _, hr => hr.elim
  | n + 1, _, r, .inl hr => by
    have hq := hr.kind
    rw [hS_succ, hS_succ, if_neg (by omega), if_neg (by omega), if_neg (by omega), if_neg (by omega)]
    exact leaf_sc hk hr c
  | n + 1, _, r, .inr ⟨K, args, hK, hb, e, h2, h3, ha⟩ => by
    subst e
    rw [hS_succ, hS_succ]
    dsimp only
    have e : args.map (fun a => hS n a (scC k c)) = args.map (fun a => hS n a c) := List.map_congr_left fun a hm => hS_sc hk c (ha a hm)
    have e5 : (args.all fun a => hS n a (scC k c)) = args.all fun a => hS n a c := by
      have := congrArg (fun l => l.all id) e
      simpa [List.all_map] using this
    have e6 : (args.any fun a => hS n a (scC k c)) = args.any fun a => hS n a c := by
      have := congrArg (fun l => l.any id) e
      simpa [List.any_map] using this
    rw [e5, e6]
    rcases hK with rfl | rfl
    · rw [if_pos rfl, if_pos rfl]
    · have h6 : ¬ ((6 : Int) = 5) := by decide
      rw [if_neg h6, if_neg h6, if_pos rfl, if_pos rfl]
end Go.C
