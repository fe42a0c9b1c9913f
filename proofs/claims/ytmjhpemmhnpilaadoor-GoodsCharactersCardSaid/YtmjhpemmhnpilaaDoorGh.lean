/- Plain laws of chapter 8: Characters. No program in sight. -/
import Derived.Test.YtmjhpemmhnpilaaDoorGg
set_option linter.unusedVariables false
set_option linter.unusedSimpArgs false
namespace Go.C
open Go.V

abbrev Cp := ApiComponent
/-- Put in behind all that have at least its share. -/
def insR : List Cp → Cp → List Cp
  | [], x => [x]
  | y :: p, x => if y.Share < x.Share then x :: y :: p else y :: insR p x
def Desc (l : List Cp) : Prop := l.Pairwise (fun a b => b.Share ≤ a.Share)

theorem insR_split {x : Cp} {B : List Cp} (hB : ∀ b, b ∈ B → b.Share < x.Share) : ∀ {A : List Cp}, (∀ a, a ∈ A → x.Share ≤ a.Share) → insR (A ++ B) x = A ++ x :: B
  | [], _ => by
    cases B with
    | nil => rfl
    | cons b B => simp only [List.nil_append, insR]; rw [if_pos (hB b (by simp))]
  | a :: A, h => by
    simp only [List.cons_append, insR]
    rw [if_neg (by have := h a (by simp); omega), insR_split hB (fun b hb => h b (by simp [hb]))]
theorem insR_mem {x y : Cp} : ∀ {p : List Cp}, y ∈ insR p x → y = x ∨ y ∈ p
  | [], h => by simp [insR] at h; exact .inl h
  | z :: p, h => by
    simp only [insR] at h
    split at h
    · simp only [List.mem_cons] at h ⊢; exact h
    · rcases List.mem_cons.1 h with rfl | h
      · simp
      · rcases insR_mem h with h | h <;> simp [h]
theorem insR_desc {x : Cp} : ∀ {p : List Cp}, Desc p → Desc (insR p x)
  | [], h => by simp [insR, Desc]
  | z :: p, h => by
    unfold Desc at h ⊢
    rw [List.pairwise_cons] at h
    simp only [insR]
    split
    · rename_i hz
      refine List.pairwise_cons.2 ⟨fun b hb => ?_, List.pairwise_cons.2 h⟩
      rcases List.mem_cons.1 hb with rfl | hb
      · omega
      · have := h.1 b hb; omega
    · rename_i hz
      refine List.pairwise_cons.2 ⟨fun b hb => ?_, insR_desc h.2⟩
      rcases insR_mem hb with rfl | hb
      · omega
      · exact h.1 b hb
theorem insR_len {x : Cp} : ∀ {p : List Cp}, (insR p x).length = p.length + 1
  | [] => rfl
  | z :: p => by simp only [insR]; split <;> simp [insR_len]
theorem insR_sum {x : Cp} : ∀ {p : List Cp}, ((insR p x).map (·.Share)).sum = (p.map (·.Share)).sum + x.Share
  | [] => by simp [insR]
  | z :: p => by
    simp only [insR]
    split
    · simp only [List.map_cons, List.sum_cons]; omega
    · simp only [List.map_cons, List.sum_cons, insR_sum (p := p)]; omega

def isort (l : List Cp) : List Cp := l.foldl insR []
theorem isort_snoc (l : List Cp) (x : Cp) : isort (l ++ [x]) = insR (isort l) x := by simp [isort]
theorem snoc_ind {α : Type} {P : List α → Prop} (h0 : P []) (h1 : ∀ l x, P l → P (l ++ [x])) : ∀ l, P l := by
  intro l
  have : ∀ n, ∀ l : List α, l.length = n → P l := by
    intro n
    induction n with
    | zero => intro l hl; rw [List.eq_nil_of_length_eq_zero hl]; exact h0
    | succ n ih =>
      intro l hl
      have hne : l ≠ [] := fun h => by subst h; cases hl
      rw [← List.dropLast_concat_getLast hne]
      exact h1 _ _ (ih _ (by simp [hl]))
  exact this _ l rfl
theorem isort_desc : ∀ l, Desc (isort l) := snoc_ind (by simp [isort, Desc]) (fun l x h => by rw [isort_snoc]; exact insR_desc h)
theorem isort_len : ∀ l, (isort l).length = l.length := snoc_ind (P := fun l => (isort l).length = l.length) rfl (fun l x h => by rw [isort_snoc, insR_len, h]; simp)
theorem isort_sum : ∀ l, ((isort l).map (·.Share)).sum = (l.map (·.Share)).sum := snoc_ind (P := fun l => ((isort l).map (·.Share)).sum = (l.map (·.Share)).sum) rfl (fun l x h => by rw [isort_snoc, insR_sum, h]; simp)
theorem isort_mem : ∀ l, ∀ y, y ∈ isort l → y ∈ l := snoc_ind (P := fun l => ∀ y, y ∈ isort l → y ∈ l) (fun y h => h) (fun l x h y hy => by
  rw [isort_snoc] at hy
  rcases insR_mem hy with rfl | hy
  · simp
  · simp [h y hy])

/-! ### The program's insertion sort -/

theorem charLess_eq (a b : Cp) : ∃ v, charLess a b = some v ∧ (v < 0 ↔ b.Share < a.Share) := by
  unfold charLess cmpInt isNaN
  simp only [Option.bind_some, bne_self_eq_false, Bool.false_eq_true, if_false]
  by_cases h1 : b.Share < a.Share
  · exact ⟨-1, by simp [h1], by omega⟩
  · by_cases h2 : a.Share < b.Share
    · exact ⟨1, by simp [h1, h2], by omega⟩
    · exact ⟨0, by simp [h1, h2], by omega⟩

theorem ins_inner (x : Cp) (rest : List Cp) (b i : Int) : ∀ (m : Nat) (A B : List Cp), A.length = m → Desc (A ++ B) → (∀ y, y ∈ B → y.Share < x.Share) → (A ++ x :: (B ++ rest)).length ≤ 1000 →
    loopO (insSort_b2 0 b i) ((A.length : Int), A ++ x :: (B ++ rest)) = some (insR (A ++ B) x ++ rest) := by
  intro m
  induction m with
  | zero =>
    intro A B hm hd hB hlen
    have hA : A = [] := List.eq_nil_of_length_eq_zero hm
    subst hA
    rw [loop_stop (r := x :: (B ++ rest))]
    · have := insR_split hB (A := []) (fun a h => by cases h)
      rw [this]; rfl
    · unfold insSort_b2
      dsimp only
      rw [if_pos (by simp), if_pos (by simp), if_neg (by simp), Option.bind_some, if_neg (by simp)]
      rfl
  | succ m ih =>
    intro A B hm hd hB hlen
    have hne : A ≠ [] := fun h => by subst h; cases hm
    obtain ⟨A', a, rfl⟩ : ∃ A' a, A = A' ++ [a] := ⟨_, _, (List.dropLast_concat_getLast hne).symm⟩
    have hA' : A'.length = m := by simpa using hm
    have hl : ((A' ++ [a]).length : Int) = (m : Int) + 1 := by simp [hA']
    generalize hrow : (A' ++ [a]) ++ x :: (B ++ rest) = row at hlen
    have hrl : m + 1 < row.length := by rw [← hrow]; simp; omega
    have g1 : row.getD (m + 1) default = x := by
      rw [← hrow, List.getD_eq_getElem?_getD, List.getElem?_append_right (by simp; omega)]; simp [hA']
    have g2 : row.getD m default = a := by
      rw [← hrow, List.append_assoc, List.getD_eq_getElem?_getD, List.getElem?_append_right (by omega)]; simp [hA']
    have w1 : IntKind.i64.wrap ((m : Int) + 1 - 1) = (m : Int) := by rw [w64 (by omega)]; omega
    have t1 : ((m : Int) + 1).toNat = m + 1 := by omega
    obtain ⟨v, hv1, hv2⟩ := charLess_eq x a
    have hset : (row.set (m + 1) a).set m x = A' ++ x :: ((a :: B) ++ rest) := by
      rw [← hrow]
      have e1 : ((A' ++ [a]) ++ x :: (B ++ rest)).set (m + 1) a = (A' ++ [a]) ++ a :: (B ++ rest) := by
        rw [List.set_append_right _ _ (by simp; omega)]; simp [hA']
      rw [e1, List.append_assoc, List.set_append_right _ _ (by omega)]
      simp [hA']
    have body : insSort_b2 0 b i ((m : Int) + 1, row) = if v < 0 then some (.inl ((m : Int), A' ++ x :: ((a :: B) ++ rest))) else some (.inr row) := by
      unfold insSort_b2
      dsimp only
      rw [w1, t1, Int.toNat_natCast, g1, g2, if_pos (fun _ => by omega), if_pos (fun _ => by omega), if_pos (by simp only [decide_eq_true_eq]; omega), hv1, Option.bind_some]
      have e0 : decide ((0 : Int) < (m : Int) + 1) = true := by simp only [decide_eq_true_eq]; omega
      rw [e0]
      by_cases hv : v < 0
      · rw [if_pos (by simp [hv]), if_pos (by omega), if_pos (by omega), if_pos (by omega), if_pos (by simp only [List.length_set]; omega), if_pos hv, hset]
      · rw [if_neg (by simp [hv]), if_neg hv]
    rw [hl]
    by_cases hv : v < 0
    · rw [loop_step (x := ((m : Int), A' ++ x :: ((a :: B) ++ rest))) (by rw [body, if_pos hv])]
      have := ih A' (a :: B) hA' (by simpa using hd) (fun y hy => by
        rcases List.mem_cons.1 hy with rfl | hy
        · exact hv2.1 hv
        · exact hB y hy) (by rw [← hrow] at hlen; simp at hlen ⊢; omega)
      rw [hA'] at this
      rw [this]; simp
    · rw [loop_stop (r := row) (by rw [body, if_neg hv]), ← hrow]
      have hge : x.Share ≤ a.Share := by
        have : ¬ a.Share < x.Share := fun h => hv (hv2.2 h)
        omega
      rw [insR_split hB (A := A' ++ [a]) (fun y hy => by
        rcases List.mem_append.1 hy with h | h
        · have hd1 : Desc (A' ++ ([a] ++ B)) := by simpa using hd
          have := (List.pairwise_append.1 hd1).2.2 y h a (by simp)
          omega
        · simp at h; subst h; exact hge)]
      simp

theorem insSort_eq (l : List Cp) (hl : l.length ≤ 500) : insSort l 0 (l.length : Int) = some (isort l) := by
  unfold insSort
  rw [w64 (n := (0 : Int) + 1) (by omega)]
  have key : ∀ (m k : Nat), k + m = l.length → 1 ≤ k → loopO (insSort_b1 0 (l.length : Int)) ((k : Int), isort (l.take k) ++ l.drop k) = some (isort l) := by
    intro m
    induction m with
    | zero =>
      intro k hk _
      have : k = l.length := by omega
      subst this
      rw [loop_stop (r := isort l)]
      unfold insSort_b1
      dsimp only
      rw [if_neg (by simp)]; simp
    | succ m ih =>
      intro k hk h1
      have hlt : k < l.length := by omega
      rw [loop_step (x := (((k + 1 : Nat) : Int), isort (l.take (k + 1)) ++ l.drop (k + 1)))]
      · exact ih (k + 1) (by omega) (by omega)
      · unfold insSort_b1
        dsimp only
        rw [if_pos (by simp only [decide_eq_true_eq]; omega)]
        have hil : (isort (l.take k)).length = k := by rw [isort_len]; simp; omega
        have := ins_inner l[k] (l.drop (k + 1)) (l.length : Int) (k : Int) k (isort (l.take k)) [] hil (by simpa using isort_desc _) (fun y hy => by cases hy) (by simp [hil]; omega)
        simp only [List.nil_append, List.append_nil, hil] at this
        rw [List.drop_eq_getElem_cons hlt, this, Option.bind_some]
        try dsimp only
        unfold insSort_j1
        rw [w64 (n := (k : Int) + 1) (by omega), ← isort_snoc, List.take_add_one, List.getElem?_eq_getElem hlt]
        rfl
  cases l with
  | nil =>
    rw [loop_stop (r := [])]
    · rfl
    · unfold insSort_b1
      rfl
  | cons y l =>
    have := key l.length 1 (by simp; omega) (by omega)
    have e : isort ((y :: l).take 1) ++ (y :: l).drop 1 = y :: l := rfl
    rw [e] at this
    show (loopO _ (((1 : Nat) : Int), y :: l)).bind _ = _
    rw [this]; rfl

end Go.C
