/- Plain laws of chapter 8: Characters is the reference's. No program in sight. -/
import Derived.Test.YtmjhpemmhnpilaaDoorGh
set_option linter.unusedVariables false
set_option linter.unusedSimpArgs false
namespace Go.C
open Go.V

/-- k is the first place of a greatest share. -/
structure Best (l : List Cp) (k : Nat) : Prop where
  lt : k < l.length
  before : ∀ i, i < k → (l.getD i default).Share < (l.getD k default).Share
  all : ∀ i, i < l.length → (l.getD i default).Share ≤ (l.getD k default).Share
theorem Best.unique {l : List Cp} {k k' : Nat} (h : Best l k) (h' : Best l k') : k = k' := by
  rcases Nat.lt_trichotomy k k' with hlt | rfl | hlt
  · have := h'.before k hlt; have := h.all k' h'.lt; omega
  · rfl
  · have := h.before k' hlt; have := h'.all k h.lt; omega

inductive Sel : List Cp → List Cp → Prop
  | nil : Sel [] []
  | cons {l r : List Cp} {k : Nat} : Best l k → Sel (l.eraseIdx k) r → Sel l (l.getD k default :: r)

theorem Sel.fn {l r r' : List Cp} (h : Sel l r) (h' : Sel l r') : r = r' := by
  induction h generalizing r' with
  | nil =>
    cases h' with
    | nil => rfl
    | cons hb _ => have := hb.lt; simp at this
  | cons hb hs ih =>
    cases h' with
    | nil => have := hb.lt; simp at this
    | cons hb' hs' =>
      obtain rfl := hb.unique hb'
      rw [ih hs']

theorem getD_app_l {l m : List Cp} {i : Nat} (h : i < l.length) : (l ++ m).getD i default = l.getD i default := by
  rw [List.getD_eq_getElem?_getD, List.getD_eq_getElem?_getD, List.getElem?_append_left h]
theorem getD_app_r {l : List Cp} {x : Cp} : (l ++ [x]).getD l.length default = x := by
  rw [List.getD_eq_getElem?_getD, List.getElem?_append_right (Nat.le_refl _)]; simp

theorem Sel.snoc {l r : List Cp} (h : Sel l r) (x : Cp) : Sel (l ++ [x]) (insR r x) := by
  induction h with
  | nil =>
    have hb : Best [x] 0 := ⟨by simp, fun i h => by omega, fun i h => by simp at h; subst h; exact Int.le_refl _⟩
    exact Sel.cons hb Sel.nil
  | @cons l r k hb hs ih =>
    simp only [insR]
    split
    · rename_i hx
      have hb' : Best (l ++ [x]) l.length := ⟨by simp, fun i hi => by
        rw [getD_app_l hi, getD_app_r]
        have := hb.all i hi; omega, fun i hi => by
        rw [getD_app_r]
        by_cases h : i < l.length
        · rw [getD_app_l h]; have := hb.all i h; omega
        · have : i = l.length := by simp at hi; omega
          subst this; rw [getD_app_r]; exact Int.le_refl _⟩
      have e : (l ++ [x]).eraseIdx l.length = l := by rw [List.eraseIdx_append_of_length_le (Nat.le_refl _)]; simp
      have := Sel.cons (r := l.getD k default :: r) hb' (by rw [e]; exact Sel.cons hb hs)
      rwa [getD_app_r] at this
    · rename_i hx
      have hb' : Best (l ++ [x]) k := ⟨by have := hb.lt; simp; omega, fun i hi => by
        rw [getD_app_l (by have := hb.lt; omega), getD_app_l hb.lt]; exact hb.before i hi, fun i hi => by
        rw [getD_app_l hb.lt]
        by_cases h : i < l.length
        · rw [getD_app_l h]; exact hb.all i h
        · have : i = l.length := by simp at hi; omega
          subst this; rw [getD_app_r]; omega⟩
      have := Sel.cons (r := insR r x) hb' (by rw [List.eraseIdx_append_of_lt_length hb.lt]; exact ih)
      rwa [getD_app_l hb.lt] at this
theorem sel_isort : ∀ l, Sel l (isort l) := snoc_ind (P := fun l => Sel l (isort l)) Sel.nil (fun l x h => by rw [isort_snoc]; exact h.snoc x)

theorem ref_best (out l : List Cp) (hl : 0 < l.length) (hb : l.length ≤ 1000) : ∃ k : Nat, loopO refCharacters_b2 ((1 : Int), (0 : Int), out, l) = some ((k : Int), out, l) ∧ Best l k := by
  obtain ⟨r, e, k, rfl, hk⟩ := loop_inv (f := refCharacters_b2) (fun n s => ∃ i k : Nat, n = l.length - i ∧ i ≤ l.length ∧ s = ((i : Int), (k : Int), out, l) ∧ k < l.length ∧ (∀ j, j < k → (l.getD j default).Share < (l.getD k default).Share) ∧ ∀ j, j < i → (l.getD j default).Share ≤ (l.getD k default).Share)
    (fun r => ∃ k : Nat, r = ((k : Int), out, l) ∧ Best l k) (by
    rintro n s ⟨i, k, rfl, hi, rfl, hk, h1, h2⟩
    unfold refCharacters_b2 refCharacters_j4
    dsimp only
    by_cases hlt : i < l.length
    · refine .inl ?_
      rw [if_pos (by simp only [decide_eq_true_eq]; omega), if_pos (by omega), if_pos (by omega), Int.toNat_natCast, Int.toNat_natCast, w64 (n := (i : Int) + 1) (by omega)]
      by_cases hc : (l.getD k default).Share < (l.getD i default).Share
      · rw [if_pos (by simpa using hc)]
        refine ⟨_, l.length - (i + 1), by omega, rfl, i + 1, i, rfl, by omega, rfl, hlt, fun j hj => ?_, fun j hj => ?_⟩
        · have := h2 j hj; omega
        · by_cases e : j = i
          · subst e; exact Int.le_refl _
          · have := h2 j (by omega); omega
      · rw [if_neg (by simpa using hc)]
        refine ⟨_, l.length - (i + 1), by omega, rfl, i + 1, k, rfl, by omega, rfl, hk, h1, fun j hj => ?_⟩
        by_cases e : j = i
        · subst e; omega
        · exact h2 j (by omega)
    · refine .inr ?_
      rw [if_neg (by simp only [decide_eq_true_eq]; omega)]
      exact ⟨_, rfl, k, rfl, hk, h1, fun j hj => h2 j (by omega)⟩) (l.length - 1) ((1 : Int), (0 : Int), out, l) ⟨1, 0, rfl, by omega, rfl, hl, fun j hj => by omega, fun j hj => by
      have : j = 0 := by omega
      subst this; exact Int.le_refl _⟩
  exact ⟨k, e, hk⟩

theorem ref_sel : ∀ (n : Nat) (l out : List Cp), l.length = n → n ≤ 500 → out.length + n ≤ 1000 → ∃ r, Sel l r ∧ loopO refCharacters_b1 (out, l) = some (out ++ r) := by
  intro n
  induction n with
  | zero =>
    intro l out hl _ _
    have : l = [] := List.eq_nil_of_length_eq_zero hl
    subst this
    refine ⟨[], Sel.nil, ?_⟩
    rw [loop_stop (r := out)]
    · simp
    · unfold refCharacters_b1
      rfl
  | succ n ih =>
    intro l out hl hn ho
    obtain ⟨k, e1, hk⟩ := ref_best out l (by omega) (by omega)
    have hkl := hk.lt
    obtain ⟨r, hr, e2⟩ := ih (l.eraseIdx k) (out ++ [l.getD k default]) (by rw [List.length_eraseIdx_of_lt hkl]; omega) (by omega) (by simp; omega)
    refine ⟨_, Sel.cons hk hr, ?_⟩
    rw [loop_step (x := (out ++ [l.getD k default], l.eraseIdx k)), e2]
    · simp
    · unfold refCharacters_b1
      dsimp only
      rw [if_pos (by simp only [decide_eq_true_eq]; omega), e1, Option.bind_some]
      dsimp only
      unfold refCharacters_j3
      rw [w64 (n := (k : Int) + 1) (by omega), Int.toNat_natCast, if_pos (by omega), if_pos (by simp; omega), if_pos (by omega), if_pos (by simp; omega), if_pos (by omega), if_pos (by simp; omega)]
      have e3 : ((k : Int) + 1).toNat = k + 1 := by omega
      rw [e3, List.eraseIdx_eq_take_drop_succ]
      rfl

/-- What may give the goods their character. -/
def chars (g : ApiGood) : List Cp := if g.Parts = [] then g.Materials.map (fun m => ⟨[m.Name], m.Share⟩) else g.Parts

theorem foldl_map1 {α β : Type} (f : α → β) : ∀ (xs : List α) (a : List β), xs.foldl (fun b x => b ++ [f x]) a = a ++ xs.map f
  | [], a => by simp
  | x :: xs, a => by rw [List.foldl_cons, foldl_map1 f xs]; simp

theorem goodsCharacters_eq {g : ApiGood} (h : MOk g) : goodsCharacters g = some (isort (chars g)) := by
  have c1 := h.mats.2.1
  have c2 := h.parts.2.1
  unfold goodsCharacters
  have l1 := loop_fold (β := List Cp) g.Parts (goodsCharacters_b2 g) (fun i b => ((i : Int), b)) (fun b x => b ++ [x]) (fun b => b) (fun i b => b.length = i)
    (fun i x b hI hx => by simp [hI])
    (fun i x b hI hx => by
      have hlt := lt_of_get hx
      have hw := (h.parts.1 x (List.mem_of_getElem? hx)).2.2
      unfold goodsCharacters_b2 cloneS
      dsimp only
      rw [if_pos (by simp only [decide_eq_true_eq]; omega), if_pos (by omega), Int.toNat_natCast, hx, Option.bind_some, if_pos (by omega), Option.bind_some, if_pos (by rw [hI]; simp; omega), w64 (n := (i : Int) + 1) (by omega)]
      rfl)
    (fun b hI => by unfold goodsCharacters_b2; dsimp only; rw [if_neg (by simp)]) [] rfl
  rw [show ((0 : Int), ([] : List Cp)) = (((0 : Nat) : Int), ([] : List Cp)) from rfl, l1, foldl_map1 (fun x : Cp => x), Option.bind_some]
  simp only [List.nil_append, List.map_id']
  have fin : ∀ l : List Cp, l.length ≤ 4 → goodsCharacters_j2 l = some (isort l) := fun l hl => by
    unfold goodsCharacters_j2
    rw [sort_small l (by omega), insSort_eq l (by omega)]; rfl
  unfold goodsCharacters_j1 chars
  by_cases hp : g.Parts = []
  · rw [if_pos (by rw [hp]; rfl), if_pos hp, hp]
    have l2 := loop_fold (β := List Cp) g.Materials (goodsCharacters_b1 g) (fun i b => ((i : Int), b)) (fun b x => b ++ [(⟨[x.Name], x.Share⟩ : Cp)]) (fun b => b) (fun i b => b.length = i)
      (fun i x b hI hx => by simp [hI])
      (fun i x b hI hx => by
        have hlt := lt_of_get hx
        unfold goodsCharacters_b1
        dsimp only
        rw [if_pos (by simp only [decide_eq_true_eq]; omega), if_pos (by omega), Int.toNat_natCast, hx, Option.bind_some, if_pos (by rw [hI]; simp; omega), w64 (n := (i : Int) + 1) (by omega)]
        rfl)
      (fun b hI => by unfold goodsCharacters_b1; dsimp only; rw [if_neg (by simp)]) [] rfl
    rw [show ((0 : Int), ([] : List Cp)) = (((0 : Nat) : Int), ([] : List Cp)) from rfl, l2, foldl_map1 (fun x : ApiMaterial => (⟨[x.Name], x.Share⟩ : Cp)), Option.bind_some, List.nil_append]
    exact fin _ (by simp; omega)
  · have hpl : g.Parts.length ≠ 0 := fun h => hp (List.eq_nil_of_length_eq_zero h)
    rw [if_neg (by simp only [beq_iff_eq]; omega), if_neg hp]
    exact fin _ (by omega)

theorem refCharacters_eq {g : ApiGood} (h : MOk g) : refCharacters g = some (isort (chars g)) := by
  have c1 := h.mats.2.1
  have c2 := h.parts.2.1
  have fin : ∀ l : List Cp, l.length ≤ 4 → refCharacters_j1 l = some (isort l) := fun l hl => by
    unfold refCharacters_j1 refCharacters_j2
    obtain ⟨r, h1, h2⟩ := ref_sel l.length l [] rfl (by omega) (by simp; omega)
    rw [h2, h1.fn (sel_isort l)]; rfl
  unfold refCharacters chars
  rw [if_pos (by omega)]
  by_cases hp : g.Parts = []
  · rw [if_pos (by rw [hp]; rfl), if_pos hp, hp]
    have l2 := loop_fold (β := List Cp) g.Materials (refCharacters_b3 g) (fun i b => ((i : Int), b)) (fun b x => b ++ [(⟨[x.Name], x.Share⟩ : Cp)]) (fun b => b) (fun i b => b.length = i)
      (fun i x b hI hx => by simp [hI])
      (fun i x b hI hx => by
        have hlt := lt_of_get hx
        unfold refCharacters_b3
        dsimp only
        rw [if_pos (by simp only [decide_eq_true_eq]; omega), if_pos (by omega), Int.toNat_natCast, hx, Option.bind_some, if_pos (by omega), Option.bind_some, if_pos (by rw [hI]; simp; omega), w64 (n := (i : Int) + 1) (by omega)]
        rfl)
      (fun b hI => by unfold refCharacters_b3; dsimp only; rw [if_neg (by simp)]) [] rfl
    rw [show ((0 : Int), ([] : List Cp)) = (((0 : Nat) : Int), ([] : List Cp)) from rfl, l2, foldl_map1 (fun x : ApiMaterial => (⟨[x.Name], x.Share⟩ : Cp)), Option.bind_some, List.nil_append]
    exact fin _ (by simp; omega)
  · have hpl : g.Parts.length ≠ 0 := fun h => hp (List.eq_nil_of_length_eq_zero h)
    rw [if_neg (by simp only [beq_iff_eq]; omega), if_neg hp]
    exact fin _ (by omega)

theorem sameStrings_refl (l : List Str) (hl : l.length ≤ 1000) : sameStrings l l = some true := by
  unfold sameStrings
  rw [if_neg (by simp)]
  have := loop_fold (β := Unit) l (sameStrings_b1 l l) (fun i _ => (i : Int)) (fun _ _ => ()) (fun _ => .inr ()) (fun _ _ => True) (fun _ _ _ _ _ => trivial) (fun i x b _ hx => by
    have hlt := lt_of_get hx
    unfold sameStrings_b1
    dsimp only
    rw [if_pos (by simp only [decide_eq_true_eq]; omega), if_pos (by omega), Int.toNat_natCast, hx, Option.bind_some, if_pos (by omega), Option.bind_some, if_neg (by simp), w64 (n := (i : Int) + 1) (by omega)]
    rfl) (fun b _ => by unfold sameStrings_b1; dsimp only; rw [if_neg (by simp)]) () trivial
  rw [show ((0 : Int) = ((0 : Nat) : Int)) from rfl, this]; rfl
theorem sameParts_refl (l : List Cp) (hl : l.length ≤ 1000) (hw : ∀ x, x ∈ l → x.Words.length ≤ 1000) : sameParts l l = some true := by
  unfold sameParts
  rw [if_neg (by simp)]
  have := loop_fold (β := Unit) l (sameParts_b1 l l) (fun i _ => (i : Int)) (fun _ _ => ()) (fun _ => .inr ()) (fun _ _ => True) (fun _ _ _ _ _ => trivial) (fun i x b _ hx => by
    have hlt := lt_of_get hx
    unfold sameParts_b1
    dsimp only
    rw [if_pos (by simp only [decide_eq_true_eq]; omega), if_pos (by omega), Int.toNat_natCast, hx, Option.bind_some, if_pos (by omega), Option.bind_some, if_pos (fun _ => by omega), if_pos (fun _ => by omega), if_pos (by simp), getD_of hx, sameStrings_refl _ (hw x (List.mem_of_getElem? hx)), Option.bind_some, if_neg (by simp), w64 (n := (i : Int) + 1) (by omega)]
    rfl) (fun b _ => by unfold sameParts_b1; dsimp only; rw [if_neg (by simp)]) () trivial
  rw [show ((0 : Int) = ((0 : Nat) : Int)) from rfl, this]; rfl

theorem lawCharacters_true {l : List Int} (hl : l.length ≤ 9223372036854775807 ∧ ∀ x, x ∈ l → okI_i64 x) : lawCharacters l = some true := by
  unfold lawCharacters
  obtain ⟨g, e2, hg⟩ := madeGood_ok l
  have c1 := hg.mats.2.1
  have c2 := hg.parts.2.1
  have hcl : (chars g).length ≤ 4 := by
    unfold chars
    split
    · rw [List.length_map]; omega
    · omega
  have hcw : ∀ x, x ∈ chars g → x.Words.length ≤ 1000 := fun x hx => by
    unfold chars at hx
    split at hx
    · obtain ⟨m, _, rfl⟩ := List.mem_map.1 hx; simp
    · have := (hg.parts.1 x hx).2.2; omega
  have hil := isort_len (chars g)
  rw [e2, Option.bind_some, goodsCharacters_eq hg, Option.bind_some, refCharacters_eq hg, Option.bind_some, sameParts_refl _ (by omega) (fun x hx => hcw x (isort_mem _ x hx)), Option.bind_some, if_neg (by simp)]
  have hshs : Shs ((chars g).map (·.Share)) := by
    unfold chars
    split
    · have := hg.mats.2.2; rw [List.map_map]; exact this
    · exact hg.parts.2.2
  have hrng : ∀ x, x ∈ (isort (chars g)).map (·.Share) → 1 ≤ x ∧ x ≤ 1000000 := fun x hx => by
    obtain ⟨y, hy, rfl⟩ := List.mem_map.1 hx
    rcases hshs with h | h
    · rw [List.map_eq_nil_iff] at h; have := isort_mem _ y hy; rw [h] at this; cases this
    · exact h.rng _ (List.mem_map.2 ⟨y, isort_mem _ y hy, rfl⟩)
  have hsum : ((isort (chars g)).map (·.Share)).sum = ((chars g).map (·.Share)).sum := isort_sum _
  have hdesc := isort_desc (chars g)
  generalize isort (chars g) = v at hil hrng hsum hdesc
  have hloop := loop_fold (β := Int) v (lawCharacters_b1 g v) (fun i b => ((i : Int), b)) (fun b x => IntKind.i64.wrap (b + x.Share)) (fun b => .inr b) (fun _ _ => True) (fun _ _ _ _ _ => trivial) (fun i x b _ hx => by
    have hlt := lt_of_get hx
    unfold lawCharacters_b1
    dsimp only
    rw [if_pos (by simp only [decide_eq_true_eq]; omega), if_pos (by omega), Int.toNat_natCast, hx, Option.bind_some, if_pos (fun h => by simp only [decide_eq_true_eq] at h; rw [w64 (by omega)]; omega), if_pos (fun _ => by omega), w64 (n := (i : Int) + 1) (by omega)]
    rw [if_neg]
    · rfl
    · by_cases h0 : i = 0
      · subst h0; simp
      · rw [pre_nat (by omega) (by omega)]
        have hd := List.pairwise_iff_getElem.1 hdesc (i - 1) i (by omega) hlt (by omega)
        have g1 : v.getD (i - 1) default = v[i - 1] := by rw [List.getD_eq_getElem?_getD, List.getElem?_eq_getElem (by omega)]; rfl
        have g2 : v.getD i default = v[i] := by rw [List.getD_eq_getElem?_getD, List.getElem?_eq_getElem hlt]; rfl
        rw [g1, g2]
        have : ¬ (v[i - 1].Share < v[i].Share) := by omega
        simp [this]) (fun b _ => by unfold lawCharacters_b1; dsimp only; rw [if_neg (by simp)]) 0 trivial
  rw [show ((0 : Int), (0 : Int)) = (((0 : Nat) : Int), (0 : Int)) from rfl, hloop, Option.bind_some, foldl_sum (fun x : Cp => x.Share)]
  dsimp only
  unfold lawCharacters_j1
  rcases hshs with h | h
  · have hc : chars g = [] := List.map_eq_nil_iff.1 h
    have hv : v = [] := by rw [hc] at hil; exact List.eq_nil_of_length_eq_zero hil
    have hboth : g.Materials = [] ∧ g.Parts = [] := by
      unfold chars at hc
      split at hc
      · rename_i hp; exact ⟨List.map_eq_nil_iff.1 hc, hp⟩
      · rename_i hp; exact absurd hc hp
    rw [hboth.1, hboth.2, hv, if_pos (by decide), awake_true]
    decide
  · have hs : sumW (v.map (·.Share)) = 1000000 := by
      have := sumW_acc hrng 0 (by omega) (by rw [hsum, h.sum]; omega)
      unfold sumW
      rw [this, hsum, h.sum]; rfl
    rw [hs, if_pos (by simp), awake_true]
    simp

end Go.C
