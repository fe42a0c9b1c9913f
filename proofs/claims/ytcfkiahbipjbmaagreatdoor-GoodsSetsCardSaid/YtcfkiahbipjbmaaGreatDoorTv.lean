/- Plain laws of sets of texts, for GoodsSets; cut by mktv.py out of Nb, Nd, Ne, Nr, Td, Ts. No program in sight. -/
import Derived.Test.YtcfkiahbipjbmaaGreatDoorTu
import Derived.Test.YtcfkiahbipjbmaaGreatDoorPg
import Derived.Test.YtcfkiahbipjbmaaGreatDoorHs
import Derived.Sort.Walk0
set_option linter.unusedVariables false
set_option linter.unusedSimpArgs false
namespace Go.C
open Go.V

theorem bl_irrefl : ∀ a : Str, Op.bytesLess a a = false
  | [] => rfl
  | x :: a => by simp [Op.bytesLess, bl_irrefl a, UInt8.lt_irrefl]
theorem bl_asymm {a b : Str} (h : Op.bytesLess a b = true) : Op.bytesLess b a = false ∧ a ≠ b := by
  have := bl_total a b
  rw [h] at this
  refine ⟨by simpa using this.symm, fun e => ?_⟩
  rw [e, bl_irrefl] at h; cases h
theorem getD_get {α : Type} [Inhabited α] {l : List α} {i : Nat} (h : i < l.length) : l.getD i default = l[i] := by rw [List.getD_eq_getElem?_getD, List.getElem?_eq_getElem h]; rfl
theorem take_snoc {α : Type} {l : List α} {i : Nat} (h : i < l.length) : l.take (i + 1) = l.take i ++ [l[i]] := by rw [List.take_add_one, List.getElem?_eq_getElem h]; rfl
def subS (a b : List Str) : Bool := a.all fun x => b.contains x
theorem sIndex_eq {s : List Str} (v : Str) (h : s.length ≤ 1000) : ∃ n, sIndex s v = some n ∧ (decide ((0 : Int) ≤ n) = s.contains v) := by
  unfold sIndex
  obtain ⟨r, e, hr⟩ := loop_all s (sIndex_b1 s v) (fun i (_ : Unit) => (i : Int)) (fun i _ => ∀ j, j < i → s.getD j default ≠ v) (fun r => match r with | .inl n => 0 ≤ n ∧ s.contains v = true | .inr _ => s.contains v = false) (fun i x b hx hI => by
    have hlt := lt_of_get hx
    unfold sIndex_b1
    rw [if_pos (by simp only [decide_eq_true_eq]; omega), if_pos (by omega), Int.toNat_natCast, hx, Option.bind_some, w64 (n := (i : Int) + 1) (by omega)]
    by_cases hv : v = x
    · refine .inr ⟨_, if_pos (by simpa using hv), Int.natCast_nonneg _, ?_⟩
      rw [List.contains_iff_mem, hv]; exact List.mem_of_getElem? hx
    · refine .inl ⟨(), by rw [if_neg (by simpa using hv)]; rfl, fun j hj => ?_⟩
      by_cases e : j = i
      · subst e; rw [getD_of hx]; exact fun h => hv h.symm
      · exact hI j (by omega))
    (fun b hI => ⟨.inr (), by unfold sIndex_b1; rw [if_neg (by simp)], by
      rw [Bool.eq_false_iff]
      intro hc
      have hm := List.contains_iff_mem.1 hc
      obtain ⟨j, hj, he⟩ := List.getElem_of_mem hm
      exact hI j hj (by rw [getD_get hj]; exact he)⟩) () (fun j hj => by omega)
  rw [show ((0 : Int)) = ((0 : Nat) : Int) from rfl, e, Option.bind_some]
  cases r with
  | inl n => exact ⟨n, rfl, by rw [hr.2]; simpa using hr.1⟩
  | inr _ => exact ⟨-1, rfl, by rw [hr]; decide⟩
theorem memberIn_eq {l : List Str} (v : Str) (h : l.length ≤ 1000) : memberIn v l = some (l.contains v) := by
  obtain ⟨n, e, hn⟩ := sIndex_eq v h
  unfold memberIn sContains
  rw [e, Option.bind_some, Option.bind_some, hn]
theorem subset_eq {a b : List Str} (ha : a.length ≤ 1000) (hb : b.length ≤ 50) : subset a b = some (subS a b) := by
  unfold subset member
  rw [if_pos (by simp only [decide_eq_true_eq]; omega), Option.bind_some]
  have step : ∀ (i : Nat) (x : Str), a[i]? = some x → subset_b1 a b (i : Int) = if (!b.contains x) = true then some (.inr (.inl false)) else some (.inl ((i + 1 : Nat) : Int)) := fun i x hx => by
    have hlt := lt_of_get hx
    unfold subset_b1
    rw [if_pos (by simp only [decide_eq_true_eq]; omega), if_pos (by omega), Int.toNat_natCast, hx, Option.bind_some, memberIn_eq x (by omega), Option.bind_some, w64 (n := (i : Int) + 1) (by omega)]; rfl
  have l1 := loop_list (β := Unit) a (subset_b1 a b) (fun i _ => (i : Int)) (fun _ _ => ()) (fun i => b.contains (a.getD i default)) (.inl false) (fun _ => .inr ()) (fun _ _ => True) (fun _ _ _ _ _ => trivial)
    (fun i x _ _ hx hp => by rw [getD_of hx] at hp; rw [step i x hx, hp]; rfl) (fun i x _ _ hx hp => by rw [getD_of hx] at hp; rw [step i x hx, hp]; rfl) (fun _ _ => by unfold subset_b1; rw [if_neg (by simp)]) () trivial
  rw [show ((0 : Int)) = ((0 : Nat) : Int) from rfl, l1, range_all (fun x => b.contains x)]
  unfold subS
  cases (a.all fun x => b.contains x) <;> rfl
theorem refHas_eq {l : List Str} (s : Str) (h : l.length ≤ 1000) : refHas l s = some (l.contains s) := by
  unfold refHas
  have step : ∀ (i : Nat) (x : Str), l[i]? = some x → refHas_b1 l s (i : Int) = if (x == s) = true then some (.inr (.inl true)) else some (.inl ((i + 1 : Nat) : Int)) := fun i x hx => by
    have hlt := lt_of_get hx
    unfold refHas_b1
    rw [if_pos (by simp only [decide_eq_true_eq]; omega), if_pos (by omega), Int.toNat_natCast, hx, Option.bind_some, w64 (n := (i : Int) + 1) (by omega)]; rfl
  have l1 := loop_list (β := Unit) l (refHas_b1 l s) (fun i _ => (i : Int)) (fun _ _ => ()) (fun i => !(l.getD i default == s)) (.inl true) (fun _ => .inr ()) (fun _ _ => True) (fun _ _ _ _ _ => trivial)
    (fun i x _ _ hx hp => by rw [getD_of hx] at hp; rw [step i x hx, if_neg (by intro hh; rw [hh] at hp; cases hp)]) (fun i x _ _ hx hp => by rw [getD_of hx] at hp; rw [step i x hx, if_pos (by simpa using hp)]) (fun _ _ => by unfold refHas_b1; rw [if_neg (by simp)]) () trivial
  rw [show ((0 : Int)) = ((0 : Nat) : Int) from rfl, l1, range_all (fun x => !(x == s))]
  have e : (l.all fun x => !(x == s)) = !l.contains s := by
    rw [← List.not_any_eq_all_not]
    congr 1
    rw [Bool.eq_iff_iff, List.any_eq_true, List.contains_iff_mem]
    constructor
    · rintro ⟨x, hx, he⟩; rw [← beq_iff_eq.1 he]; exact hx
    · intro hx; exact ⟨s, hx, by simp⟩
  rw [e]
  cases l.contains s <;> rfl
theorem refSubset_eq {a b : List Str} (ha : a.length ≤ 1000) (hb : b.length ≤ 1000) : refSubset a b = some (subS a b) := by
  unfold refSubset
  have step : ∀ (i : Nat) (x : Str), a[i]? = some x → refSubset_b1 a b (i : Int) = if (!b.contains x) = true then some (.inr (.inl false)) else some (.inl ((i + 1 : Nat) : Int)) := fun i x hx => by
    have hlt := lt_of_get hx
    unfold refSubset_b1
    rw [if_pos (by simp only [decide_eq_true_eq]; omega), if_pos (by omega), Int.toNat_natCast, hx, Option.bind_some, refHas_eq x hb, Option.bind_some, w64 (n := (i : Int) + 1) (by omega)]; rfl
  have l1 := loop_list (β := Unit) a (refSubset_b1 a b) (fun i _ => (i : Int)) (fun _ _ => ()) (fun i => b.contains (a.getD i default)) (.inl false) (fun _ => .inr ()) (fun _ _ => True) (fun _ _ _ _ _ => trivial)
    (fun i x _ _ hx hp => by rw [getD_of hx] at hp; rw [step i x hx, hp]; rfl) (fun i x _ _ hx hp => by rw [getD_of hx] at hp; rw [step i x hx, hp]; rfl) (fun _ _ => by unfold refSubset_b1; rw [if_neg (by simp)]) () trivial
  rw [show ((0 : Int)) = ((0 : Nat) : Int) from rfl, l1, range_all (fun x => b.contains x)]
  unfold subS
  cases (a.all fun x => b.contains x) <;> rfl
theorem subS_mono {a w u : List Str} (h : ∀ x, x ∈ w → x ∈ u) (hs : subS a w = true) : subS a u = true := by
  unfold subS at *
  rw [List.all_eq_true] at *
  intro x hx
  exact List.contains_iff_mem.2 (h x (List.contains_iff_mem.1 (hs x hx)))

/-! ### Sets -/
def dd (a : List Str) : List Str := a.foldl addKey []
theorem addKey_mem {ks : List Str} {s x : Str} : x ∈ addKey ks s ↔ x ∈ ks ∨ x = s := by
  unfold addKey
  split
  · rename_i h
    constructor
    · exact .inl
    · rintro (h1 | rfl)
      · exact h1
      · simpa using h
  · simp
theorem addKey_nodup {ks : List Str} {s : Str} (h : ks.Nodup) : (addKey ks s).Nodup := by
  unfold addKey
  split
  · exact h
  · rename_i hc
    rw [List.nodup_append]
    refine ⟨h, by simp, fun x hx y hy => ?_⟩
    rw [List.mem_singleton] at hy
    subst hy
    intro e; subst e
    exact hc (by simpa using hx)
theorem ddF {a : List Str} : ∀ ks : List Str, ks.Nodup → (a.foldl addKey ks).Nodup ∧ ∀ x, x ∈ a.foldl addKey ks ↔ x ∈ ks ∨ x ∈ a := by
  induction a with
  | nil => intro ks h; exact ⟨h, fun x => by simp⟩
  | cons y a ih =>
    intro ks h
    have h1 := ih (addKey ks y) (addKey_nodup h)
    refine ⟨h1.1, fun x => ?_⟩
    rw [List.foldl_cons, h1.2 x, addKey_mem, List.mem_cons, or_assoc]
theorem dd_nodup (a : List Str) : (dd a).Nodup := (ddF [] List.nodup_nil).1
theorem dd_mem (a : List Str) (x : Str) : x ∈ dd a ↔ x ∈ a := by rw [dd, (ddF [] List.nodup_nil).2 x]; simp
theorem addKey_len (ks : List Str) (s : Str) : (addKey ks s).length ≤ ks.length + 1 := by unfold addKey; split <;> simp
theorem ddF_len {a : List Str} : ∀ ks : List Str, (a.foldl addKey ks).length ≤ ks.length + a.length := by
  induction a with
  | nil => intro ks; simp
  | cons y a ih => intro ks; have h1 := ih (addKey ks y); have h2 := addKey_len ks y; rw [List.foldl_cons, List.length_cons]; omega
theorem dd_len (a : List Str) : (dd a).length ≤ a.length := by have := ddF_len (a := a) []; simpa [dd] using this
theorem setOf_eq {a : List Str} (ha : a.length ≤ 1000000) : setOf a = some (dd a) := by
  unfold setOf
  have := loop_seq (f := setOf_b1 a) a.length (fun i => ((i : Int), (a.take i).foldl addKey [])) (dd a) (fun i hi => by
    unfold setOf_b1
    dsimp only
    rw [if_pos (decide_eq_true (by omega)), if_pos (by omega), Int.toNat_natCast, List.getElem?_eq_getElem hi, Option.bind_some, w64 (by omega), take_snoc hi, List.foldl_append]; rfl) (by
    unfold setOf_b1
    dsimp only
    rw [if_neg (by simp), List.take_length]; rfl)
  rw [show ((0 : Int), ([] : List Str)) = (((0 : Nat) : Int), (a.take 0).foldl addKey []) from rfl, this]; rfl
theorem perm_nodup : ∀ {l m : List Str}, l.Nodup → m.Nodup → (∀ x, x ∈ l ↔ x ∈ m) → l.Perm m
  | [], m, _, _, h => by
    have : m = [] := List.eq_nil_iff_forall_not_mem.2 fun x hx => by have := (h x).2 hx; cases this
    rw [this]
  | x :: l, m, h1, h2, h => by
    have hx : x ∈ m := (h x).1 (by simp)
    have hl := List.nodup_cons.1 h1
    have hp := List.perm_cons_erase hx
    refine ((perm_nodup hl.2 (h2.erase x) fun y => ?_).cons x).trans hp.symm
    rw [h2.mem_erase_iff]
    constructor
    · intro hy
      exact ⟨fun e => hl.1 (e ▸ hy), (h y).1 (List.mem_cons_of_mem _ hy)⟩
    · rintro ⟨h3, h4⟩
      rcases List.mem_cons.1 ((h y).2 h4) with h5 | h5
      · exact absurd h5 h3
      · exact h5
/-- How many different elements of a are elements of w. -/
def comS (a w : List Str) : Int := ((dd a).countP fun x => w.contains x : Nat)
theorem contains_congr {w u : List Str} (h : ∀ x, x ∈ w ↔ x ∈ u) (x : Str) : w.contains x = u.contains x := by
  rw [Bool.eq_iff_iff, List.contains_iff_mem, List.contains_iff_mem]; exact h x
theorem comS_congr {a w u : List Str} (h : ∀ x, x ∈ w ↔ x ∈ u) : comS a w = comS a u := by
  unfold comS
  congr 1
  congr 1
  funext x
  exact contains_congr h x
theorem comS_perm {a v w : List Str} (hv : v.Nodup) (hm : ∀ x, x ∈ v ↔ x ∈ a) : (v.countP fun x => w.contains x : Nat) = comS a w := by
  unfold comS
  rw [(perm_nodup hv (dd_nodup a) (fun x => by rw [hm, dd_mem])).countP_eq]
theorem comS_le (a w : List Str) : 0 ≤ comS a w ∧ comS a w ≤ a.length := by
  unfold comS
  have h1 := List.countP_le_length (p := fun x => w.contains x) (l := dd a)
  have h2 := dd_len a
  omega
theorem fold_count {f : Str → Int → Option Int} {p : Str → Bool} (hf : ∀ x (n : Nat), n ≤ 2000000 → f x n = some (((n + if p x = true then 1 else 0 : Nat)) : Int)) : ∀ (o : List Str) (n : Nat), n + o.length ≤ 1000000 → foldO f o n = some ((n + o.countP p : Nat) : Int)
  | [], n, _ => by simp [foldO]
  | x :: o, n, h => by
    rw [List.length_cons] at h
    rw [foldO, hf x n (by omega), Option.bind_some, fold_count hf o _ (by split <;> omega), List.countP_cons]
    congr 2
    split <;> omega
theorem commonS_eq {a b : List Str} (ha : a.length ≤ 1000) (hb : b.length ≤ 50) : commonS a b = some (comS a b) := by
  have hm : member b = some b := by unfold member; rw [if_pos (decide_eq_true (by omega))]
  unfold commonS
  rw [hm, Option.bind_some, setOf_eq (by omega), Option.bind_some]
  have hs : setFold (commonS_b1 b) (dd a) (0 : Int) = some (comS a b) := setFold_of fun o ho => by
    have hl := ho.length_eq
    have := dd_len a
    have h1 := fold_count (f := commonS_b1 b) (p := fun x => b.contains x) (fun x n hn => by
      unfold commonS_b1
      dsimp only
      rw [memberIn_eq x (by omega), Option.bind_some]
      cases b.contains x with
      | true => simp only [if_true]; rw [w64 (by omega)]; rfl
      | false => simp) o 0 (by omega)
    rw [show ((0 : Int)) = ((0 : Nat) : Int) from rfl, h1, ho.countP_eq]
    unfold comS; simp
  rw [hs]; rfl
theorem commonB_eq {a b : List Str} (ha : a.length ≤ 1000) (hb : 50 < b.length) (hb2 : b.length ≤ 1000) : commonB a b = some (comS a b) := by
  have hm : memberB b = some (dd b) := by unfold memberB; rw [if_neg (fun h => by have := of_decide_eq_true h; omega), setOf_eq (by omega)]; rfl
  unfold commonB
  rw [hm, Option.bind_some, setOf_eq (by omega), Option.bind_some]
  have hs : setFold (commonB_b1 (dd b)) (dd a) (0 : Int) = some (comS a b) := setFold_of fun o ho => by
    have hl := ho.length_eq
    have := dd_len a
    have h1 := fold_count (f := commonB_b1 (dd b)) (p := fun x => b.contains x) (fun x n hn => by
      unfold commonB_b1 memberIn2
      dsimp only
      rw [contains_congr (dd_mem b) x, Option.bind_some]
      cases b.contains x with
      | true => simp only [if_true]; rw [w64 (by omega)]; rfl
      | false => simp) o 0 (by omega)
    rw [show ((0 : Int)) = ((0 : Nat) : Int) from rfl, h1, ho.countP_eq]
    unfold comS; simp
  rw [hs]; rfl
theorem commonP_eq {a b : List Str} (ha : a.length ≤ 1000) (hb : b.length ≤ 1000) : commonP a b = some (comS a b) := by
  unfold commonP
  split
  · rename_i h; exact commonS_eq ha h
  · rename_i h; exact commonB_eq ha (by omega) hb

/-! ### The reference's lists, in order -/
theorem bl_trans : ∀ {a b c : Str}, Op.bytesLess a b = true → Op.bytesLess b c = true → Op.bytesLess a c = true
  | a, [], c, h, _ => by cases a <;> simp [Op.bytesLess] at h
  | a, x :: b, [], _, h => by simp [Op.bytesLess] at h
  | [], x :: b, y :: c, _, _ => by simp [Op.bytesLess]
  | z :: a, x :: b, y :: c, h1, h2 => by
    simp only [Op.bytesLess, Bool.or_eq_true, Bool.and_eq_true, decide_eq_true_eq, beq_iff_eq] at h1 h2 ⊢
    rcases h1 with h1 | ⟨rfl, h1⟩
    · rcases h2 with h2 | ⟨rfl, h2⟩
      · exact .inl (UInt8.lt_trans h1 h2)
      · exact .inl h1
    · rcases h2 with h2 | ⟨rfl, h2⟩
      · exact .inl h2
      · exact .inr ⟨rfl, bl_trans h1 h2⟩
def AscB (l : List Str) : Prop := l.Pairwise fun a b => Op.bytesLess a b = true
theorem AscB.nodup {l : List Str} (h : AscB l) : l.Nodup := List.Pairwise.imp (fun {a b} hab e => by subst e; rw [bl_irrefl] at hab; cases hab) h
def withS : List Str → Str → List Str
  | [], s => [s]
  | x :: l, s => if Op.bytesLess x s = true then x :: withS l s else if x = s then x :: l else s :: x :: l
theorem withS_mem : ∀ {l : List Str} {s x : Str}, x ∈ withS l s ↔ x ∈ l ∨ x = s
  | [], s, x => by simp [withS]
  | y :: l, s, x => by
    unfold withS
    split
    · rw [List.mem_cons, withS_mem, List.mem_cons, or_assoc]
    · split
      · rename_i e
        subst e
        constructor
        · exact .inl
        · rintro (h | rfl)
          · exact h
          · simp
      · simp only [List.mem_cons]
        constructor
        · rintro (h | h | h)
          · exact .inr h
          · exact .inl (.inl h)
          · exact .inl (.inr h)
        · rintro ((h | h) | h)
          · exact .inr (.inl h)
          · exact .inr (.inr h)
          · exact .inl h
theorem withS_asc : ∀ {l : List Str} {s : Str}, AscB l → AscB (withS l s)
  | [], s, _ => by simp [withS, AscB]
  | x :: l, s, h => by
    have hp := List.pairwise_cons.1 h
    unfold withS
    split
    · rename_i h1
      refine List.pairwise_cons.2 ⟨fun y hy => ?_, withS_asc hp.2⟩
      rcases withS_mem.1 hy with hy | rfl
      · exact hp.1 y hy
      · exact h1
    · rename_i h1
      split
      · exact h
      · rename_i h2
        have h3 : Op.bytesLess s x = true := by
          have := bl_total x s
          have h4 : Op.bytesLess x s = false := by simpa using h1
          have h5 : (x == s) = false := by rw [beq_eq_false_iff_ne]; exact h2
          rw [h4, h5] at this
          simpa using this
        refine List.pairwise_cons.2 ⟨fun y hy => ?_, h⟩
        rcases List.mem_cons.1 hy with rfl | hy
        · exact h3
        · exact bl_trans h3 (hp.1 y hy)
theorem withS_len : ∀ (l : List Str) (s : Str), (withS l s).length ≤ l.length + 1
  | [], s => by simp [withS]
  | x :: l, s => by
    have := withS_len l s
    unfold withS
    split
    · simp; omega
    · split <;> simp
/-- How far the elements are less than s. -/
def tw (l : List Str) (s : Str) : Nat := (l.takeWhile fun x => Op.bytesLess x s).length
theorem tw_le : ∀ (l : List Str) (s : Str), tw l s ≤ l.length
  | [], s => by simp [tw]
  | x :: l, s => by
    have ih := tw_le l s
    unfold tw at ih ⊢
    rw [List.takeWhile_cons]
    split <;> simp
    omega
theorem tw_lt : ∀ (l : List Str) (s : Str) (i : Nat), i < tw l s → Op.bytesLess (l.getD i default) s = true
  | [], s, i, h => by simp [tw] at h
  | x :: l, s, i, h => by
    unfold tw at h
    rw [List.takeWhile_cons] at h
    split at h
    · rename_i hx
      cases i with
      | zero => exact hx
      | succ i => rw [List.getD_cons_succ]; exact tw_lt l s i (by simpa [tw] using h)
    · simp at h
theorem tw_at : ∀ (l : List Str) (s : Str), tw l s < l.length → Op.bytesLess (l.getD (tw l s) default) s = false
  | [], s, h => by simp at h
  | x :: l, s, h => by
    by_cases hx : Op.bytesLess x s = true
    · have e : tw (x :: l) s = tw l s + 1 := by unfold tw; rw [List.takeWhile_cons, if_pos hx]; rfl
      rw [e] at h ⊢
      rw [List.getD_cons_succ]
      exact tw_at l s (by simpa using h)
    · have e : tw (x :: l) s = 0 := by unfold tw; rw [List.takeWhile_cons, if_neg hx]; rfl
      rw [e, List.getD_cons_zero]; simpa using hx
theorem withS_tw : ∀ (l : List Str) (s : Str), withS l s = if tw l s < l.length ∧ l.getD (tw l s) default = s then l else (l.take (tw l s) ++ [s]) ++ l.drop (tw l s)
  | [], s => by simp [withS, tw]
  | x :: l, s => by
    by_cases hx : Op.bytesLess x s = true
    · have e : tw (x :: l) s = tw l s + 1 := by unfold tw; rw [List.takeWhile_cons, if_pos hx]; rfl
      rw [withS, if_pos hx, e, withS_tw l s, List.getD_cons_succ, List.length_cons]
      by_cases hc : tw l s < l.length ∧ l.getD (tw l s) default = s
      · rw [if_pos hc, if_pos ⟨by omega, hc.2⟩]
      · rw [if_neg hc, if_neg (fun h => hc ⟨by omega, h.2⟩)]; rfl
    · have e : tw (x :: l) s = 0 := by unfold tw; rw [List.takeWhile_cons, if_neg hx]; rfl
      rw [withS, if_neg hx, e, List.getD_cons_zero]
      by_cases hc : x = s
      · rw [if_pos hc, if_pos ⟨by simp, hc⟩]
      · rw [if_neg hc, if_neg (fun h => hc h.2)]; rfl
theorem refWith_eq {l : List Str} (s : Str) (hl : l.length ≤ 100000) : refWith l s = some (withS l s) := by
  have ht := tw_le l s
  unfold refWith
  have h1 := loop_seq (f := refWith_b1 l s) (tw l s) (fun i => (i : Int)) ((tw l s : Nat) : Int) (fun i hi => by
    unfold refWith_b1
    rw [if_pos (fun _ => by omega), decide_eq_true (by omega : (i : Int) < (l.length : Int)), cond_true, Int.toNat_natCast, tw_lt l s i hi, if_pos rfl, w64 (by omega)]; rfl) (by
    unfold refWith_b1
    rw [if_pos (fun h => by have := of_decide_eq_true h; omega), Int.toNat_natCast]
    by_cases h : tw l s < l.length
    · rw [decide_eq_true (by omega : ((tw l s : Nat) : Int) < (l.length : Int)), cond_true, tw_at l s h]; rfl
    · rw [decide_eq_false (by omega : ¬ ((tw l s : Nat) : Int) < (l.length : Int)), cond_false]; rfl)
  rw [show ((0 : Int)) = ((0 : Nat) : Int) from rfl, h1, Option.bind_some]
  show refWith_j1 l s ((tw l s : Nat) : Int) = _
  unfold refWith_j1
  rw [if_pos (fun h => by have := of_decide_eq_true h; omega), Int.toNat_natCast, withS_tw]
  by_cases hc : tw l s < l.length ∧ l.getD (tw l s) default = s
  · rw [if_pos hc, decide_eq_true (by omega : ((tw l s : Nat) : Int) < (l.length : Int)), cond_true, if_pos (beq_iff_eq.2 hc.2)]
  · rw [if_neg hc]
    have hn : ¬ (bif (decide (((tw l s : Nat) : Int) < (l.length : Int))) then ((l.getD (tw l s) default) == s) else false) = true := fun h => by
      by_cases h2 : tw l s < l.length
      · rw [decide_eq_true (by omega : ((tw l s : Nat) : Int) < (l.length : Int)), cond_true, beq_iff_eq] at h; exact hc ⟨h2, h⟩
      · rw [decide_eq_false (by omega : ¬ ((tw l s : Nat) : Int) < (l.length : Int)), cond_false] at h; cases h
    rw [if_neg hn, if_pos (by omega), if_pos (by simp only [List.length_drop, List.length_take]; omega), if_pos (by simp only [List.length_drop, List.length_take, List.length_cons, List.length_nil]; omega), if_pos (by omega), if_pos (by simp only [List.length_append, List.length_drop, List.length_take, List.length_cons, List.length_nil]; omega)]
    rfl
def uniS (a b : List Str) : List Str := b.foldl withS (a.foldl withS [])
theorem withF : ∀ {b : List Str} (l : List Str), AscB l → AscB (b.foldl withS l) ∧ (∀ x, x ∈ b.foldl withS l ↔ x ∈ l ∨ x ∈ b) ∧ (b.foldl withS l).length ≤ l.length + b.length
  | [], l, h => ⟨h, fun x => by simp, by simp⟩
  | y :: b, l, h => by
    have h1 := withF (b := b) (withS l y) (withS_asc h)
    have h2 := withS_len l y
    refine ⟨h1.1, fun x => ?_, ?_⟩
    · rw [List.foldl_cons, h1.2.1 x, withS_mem, List.mem_cons, or_assoc]
    · rw [List.foldl_cons, List.length_cons]; have := h1.2.2; omega
theorem uniS_asc (a b : List Str) : AscB (uniS a b) := (withF _ (withF [] (by simp [AscB])).1).1
theorem uniS_mem (a b : List Str) (x : Str) : x ∈ uniS a b ↔ x ∈ a ∨ x ∈ b := by
  rw [uniS, (withF _ (withF [] (by simp [AscB])).1).2.1 x, (withF [] (by simp [AscB])).2.1 x]; simp
theorem uniS_len (a b : List Str) : (uniS a b).length ≤ a.length + b.length := by
  have h1 := (withF (b := a) [] (by simp [AscB])).2.2
  have h2 := (withF (b := b) _ (withF (b := a) [] (by simp [AscB])).1).2.2
  unfold uniS
  simp only [List.length_nil] at h1
  omega
theorem refUnion_eq {a b : List Str} (ha : a.length ≤ 10000) (hb : b.length ≤ 10000) : refUnion a b = some (uniS a b) := by
  have hlen : ∀ i, ((a.take i).foldl withS []).length ≤ 10000 := fun i => by
    have := (withF (b := a.take i) [] (by simp [AscB])).2.2
    rw [List.length_take] at this
    simp only [List.length_nil] at this
    omega
  unfold refUnion
  have h1 := loop_seq (f := refUnion_b2 a b) a.length (fun i => ((i : Int), (a.take i).foldl withS [])) (a.foldl withS []) (fun i hi => by
    unfold refUnion_b2
    dsimp only
    rw [if_pos (decide_eq_true (by omega)), if_pos (by omega), Int.toNat_natCast, List.getElem?_eq_getElem hi, Option.bind_some, refWith_eq _ (by have := hlen i; omega), Option.bind_some, w64 (by omega), take_snoc hi, List.foldl_append]; rfl) (by
    unfold refUnion_b2
    dsimp only
    rw [if_neg (by simp), List.take_length])
  rw [show ((0 : Int), ([] : List Str)) = (((0 : Nat) : Int), (a.take 0).foldl withS []) from rfl, h1, Option.bind_some]
  show refUnion_j1 b (a.foldl withS []) = _
  unfold refUnion_j1
  have ha2 := (withF (b := a) [] (by simp [AscB]))
  have h2 := loop_seq (f := refUnion_b1 b) b.length (fun i => ((i : Int), (b.take i).foldl withS (a.foldl withS []))) (uniS a b) (fun i hi => by
    have h3 := (withF (b := b.take i) _ ha2.1).2.2
    rw [List.length_take] at h3
    have h4 := ha2.2.2
    simp only [List.length_nil] at h4
    unfold refUnion_b1
    dsimp only
    rw [if_pos (decide_eq_true (by omega)), if_pos (by omega), Int.toNat_natCast, List.getElem?_eq_getElem hi, Option.bind_some, refWith_eq _ (by omega), Option.bind_some, w64 (by omega), take_snoc hi, List.foldl_append]; rfl) (by
    unfold refUnion_b1
    dsimp only
    rw [if_neg (by simp), List.take_length]; rfl)
  rw [show ((0 : Int), a.foldl withS []) = (((0 : Nat) : Int), (b.take 0).foldl withS (a.foldl withS [])) from rfl, h2]; rfl
theorem refCommon_eq {a b : List Str} (ha : a.length ≤ 1000) (hb : b.length ≤ 1000) : refCommon a b = some (comS a b) := by
  have hul := uniS_len a []
  simp only [List.length_nil] at hul
  unfold refCommon
  rw [refUnion_eq (by omega) (by simp), Option.bind_some]
  have h1 := loop_seq (f := refCommon_b1 b (uniS a [])) (uniS a []).length (fun i => ((i : Int), ((((uniS a []).take i).countP fun x => b.contains x : Nat) : Int))) (comS a b) (fun i hi => by
    have h2 := List.countP_le_length (p := fun x => b.contains x) (l := (uniS a []).take i)
    rw [List.length_take] at h2
    unfold refCommon_b1 refCommon_j2
    dsimp only
    rw [if_pos (decide_eq_true (by omega)), if_pos (by omega), Int.toNat_natCast, List.getElem?_eq_getElem hi, Option.bind_some, refHas_eq _ hb, Option.bind_some, take_snoc hi, List.countP_append, List.countP_singleton, w64 (n := (i : Int) + 1) (by omega)]
    cases b.contains (uniS a [])[i] with
    | true => simp only [if_true]; rw [w64 (by omega)]; rfl
    | false => simp) (by
    unfold refCommon_b1
    dsimp only
    rw [if_neg (by simp), List.take_length, comS_perm (a := a) (uniS_asc a []).nodup (fun x => by rw [uniS_mem]; simp)])
  rw [show ((0 : Int), (0 : Int)) = (((0 : Nat) : Int), ((((uniS a []).take 0).countP fun x => b.contains x : Nat) : Int)) from rfl, h1]; rfl

/-! ### The program's union -/
theorem compact_mem {l : List Str} {x : Str} : x ∈ Lib.compact l ↔ x ∈ l := by
  unfold Lib.compact Lib.compactUpTo
  constructor
  · intro h
    obtain ⟨j, hj, rfl⟩ := List.mem_map.1 h
    have hjl : j < l.length := by simpa using (List.mem_filter.1 hj).1
    simp [hjl]
  · intro h
    obtain ⟨i, hi, rfl⟩ := List.getElem_of_mem h
    have key : ∀ i, ∀ hi : i < l.length, ∃ j, j ≤ i ∧ ∃ hj : j < l.length, l[j] = l[i] ∧ Lib.keeps l.toArray j = true := by
      intro i
      induction i with
      | zero => intro hi; exact ⟨0, Nat.le_refl _, hi, rfl, by simp [Lib.keeps]⟩
      | succ i ih =>
        intro hi
        by_cases he : l[i + 1] = l[i]
        · obtain ⟨j, h1, h2, h3, h4⟩ := ih (by omega)
          exact ⟨j, by omega, h2, by rw [h3, he], h4⟩
        · refine ⟨i + 1, Nat.le_refl _, hi, rfl, ?_⟩
          unfold Lib.keeps
          simp [hi, (by omega : i < l.length), he]
    obtain ⟨j, h1, h2, h3, h4⟩ := key i hi
    refine List.mem_map.2 ⟨j, List.mem_filter.2 ⟨by simpa using h2, h4⟩, ?_⟩
    simp [h2, h3]
theorem compact_len (l : List Str) : (Lib.compact l).length ≤ l.length := by
  unfold Lib.compact Lib.compactUpTo
  rw [List.length_map]
  exact Nat.le_trans (List.length_filter_le _ _) (by simp)
theorem concat2 {a b : List Str} (ha : a.length ≤ 1000000) (hb : b.length ≤ 1000000) : concatStr [a, b] = some (a ++ b) := by
  have hn : ∀ k n : Nat, k + n ≤ 3000000 → IntKind.i64.wrap ((k : Int) + (n : Int)) = ((k + n : Nat) : Int) := fun k n h => by rw [w64 (by omega)]; omega
  unfold concatStr
  have h1 : loopO (concatStr_b2 [a, b]) ((0 : Int), (0 : Int)) = some (((a.length + b.length : Nat)) : Int) := by
    have e := hn 0 a.length (by omega)
    simp only [Nat.zero_add] at e
    rw [loop_step (x := ((1 : Int), (a.length : Int))), loop_step (x := ((2 : Int), (((a.length + b.length : Nat)) : Int))), loop_stop]
    · unfold concatStr_b2
      dsimp only
      rw [if_neg (by simp)]
    · unfold concatStr_b2
      dsimp only
      rw [if_pos (by rfl), if_pos (by decide), show ([a, b][(1 : Int).toNat]?) = some b from rfl, Option.bind_some, hn _ _ (by omega), if_neg (fun h => by have := of_decide_eq_true h; omega)]; rfl
    · unfold concatStr_b2
      dsimp only
      rw [if_pos (by rfl), if_pos (by decide), show ([a, b][(0 : Int).toNat]?) = some a from rfl, Option.bind_some, show (0 : Int) + (a.length : Int) = ((0 : Nat) : Int) + (a.length : Int) from rfl, e, if_neg (fun h => by have := of_decide_eq_true h; omega)]; rfl
  rw [h1, Option.bind_some]
  show concatStr_j1 [a, b] (((a.length + b.length : Nat)) : Int) = _
  have hg : growStr (((a.length + b.length : Nat)) : Int) = some [] := by
    have e0 : IntKind.i64.wrap ((0 : Int) - 0) = 0 := rfl
    unfold growStr growStr_j1
    rw [if_neg (fun h => by have := of_decide_eq_true h; omega), e0, w64 (by omega), Int.sub_zero]
    split
    · rename_i h
      rw [if_pos ⟨of_decide_eq_true h, by omega⟩]
    · rfl
  unfold concatStr_j1
  rw [hg, Option.bind_some]
  have h2 : loopO (concatStr_b1 [a, b]) ((0 : Int), ([] : List Str)) = some (a ++ b) := by
    rw [loop_step (x := ((1 : Int), a)), loop_step (x := ((2 : Int), a ++ b)), loop_stop]
    · unfold concatStr_b1
      dsimp only
      rw [if_neg (by simp)]
    · unfold concatStr_b1
      dsimp only
      rw [if_pos (by rfl), if_pos (by decide), show ([a, b][(1 : Int).toNat]?) = some b from rfl, Option.bind_some, if_pos (by omega)]; rfl
    · unfold concatStr_b1
      dsimp only
      rw [if_pos (by rfl), if_pos (by decide), show ([a, b][(0 : Int).toNat]?) = some a from rfl, Option.bind_some, if_pos (by simp; omega)]; rfl
  rw [h2]; rfl
theorem union_ok {a b : List Str} (ha : a.length ≤ 1000) (hb : b.length ≤ 1000) : ∃ r, union a b = some r ∧ (∀ x, x ∈ r ↔ x ∈ a ∨ x ∈ b) ∧ r.length ≤ a.length + b.length := by
  unfold union sortS compactS
  rw [concat2 (by omega) (by omega), Option.bind_some, if_pos (by simp only [List.length_append]; omega), Option.bind_some, if_pos (by rw [List.length_mergeSort]; simp only [List.length_append]; omega), Option.bind_some]
  refine ⟨_, rfl, fun x => ?_, ?_⟩
  · rw [compact_mem, List.mem_mergeSort, List.mem_append]
  · have := compact_len ((a ++ b).mergeSort fun x y => decide (x ≤ y))
    rw [List.length_mergeSort, List.length_append] at this
    exact this


theorem bl_or (x y : Str) : Op.bytesLess x y = true ∨ x = y ∨ Op.bytesLess y x = true := by
  have h := bl_total x y
  cases h1 : Op.bytesLess y x with
  | true => exact .inr (.inr rfl)
  | false =>
    rw [h1, Bool.not_false, Bool.or_eq_true, beq_iff_eq] at h
    rcases h with h | h
    · exact .inl h
    · exact .inr (.inl h)
theorem nle_trans {a b c : Str} (h1 : Op.bytesLess b a = false) (h2 : Op.bytesLess c b = false) : Op.bytesLess c a = false := by
  cases h : Op.bytesLess c a with
  | false => rfl
  | true =>
    rcases bl_or a b with h3 | h3 | h3
    · rw [bl_trans h h3] at h2; cases h2
    · subst h3; rw [h] at h2; cases h2
    · rw [h3] at h1; cases h1
theorem nle_lt {a b c : Str} (h1 : Op.bytesLess b a = false) (h2 : Op.bytesLess b c = true) : Op.bytesLess a c = true := by
  rcases bl_or a b with h | h | h
  · exact bl_trans h h2
  · subst h; exact h2
  · rw [h] at h1; cases h1
theorem le_bl : (fun x y : Str => decide (x ≤ y)) = fun x y => !Op.bytesLess y x := by
  funext x y
  rw [Go.Proofs.bytesLess_eq, ← decide_not]
  congr 1
def srt (l : List Str) : List Str := l.mergeSort fun x y => decide (x ≤ y)
theorem srt_sorted (l : List Str) : (srt l).Pairwise fun x y => Op.bytesLess y x = false := by
  unfold srt
  rw [le_bl]
  have := List.pairwise_mergeSort (le := fun x y : Str => !Op.bytesLess y x) (fun a b c h1 h2 => by
    simp only [Bool.not_eq_true'] at h1 h2 ⊢
    exact nle_trans h1 h2) (fun a b => by
    simp only [Bool.or_eq_true, Bool.not_eq_true']
    rcases bl_or a b with h | h | h
    · exact .inl (bl_asymm h).1
    · subst h; exact .inl (bl_irrefl _)
    · exact .inr (bl_asymm h).1) l
  exact this.imp fun h => by simpa using h
theorem compact_asc {l : List Str} (h : l.Pairwise fun x y => Op.bytesLess y x = false) : AscB (Lib.compact l) := by
  have get : ∀ {j : Nat}, j < l.length → l.toArray[j]! = l.getD j default := fun {j} hj => by simp [List.getD_eq_getElem?_getD, hj]
  have key : ∀ m, m ≤ l.length → AscB (Lib.compactUpTo l.toArray m) ∧ (∀ x, x ∈ Lib.compactUpTo l.toArray m → ∀ j, m ≤ j + 1 → j < l.length → Op.bytesLess (l.getD j default) x = false) := by
    intro m
    induction m with
    | zero => intro _; exact ⟨by simp [Lib.compactUpTo, AscB], fun x hx => by simp [Lib.compactUpTo] at hx⟩
    | succ m ih =>
      intro hm
      obtain ⟨h1, h2⟩ := ih (by omega)
      have later : ∀ j, m ≤ j → j < l.length → Op.bytesLess (l.getD j default) (l.getD m default) = false := fun j hj hjl => by
        by_cases e : j = m
        · subst e; exact bl_irrefl _
        · rw [getD_get hjl, getD_get (by omega)]
          exact List.pairwise_iff_getElem.1 h m j (by omega) hjl (by omega)
      rw [Lib.compactUpTo_succ]
      by_cases hk : Lib.keeps l.toArray m = true
      · rw [if_pos hk]
        rw [get (by omega : m < l.length)]
        refine ⟨?_, fun x hx j hj hjl => ?_⟩
        · unfold AscB
          rw [List.pairwise_append]
          refine ⟨h1, by simp, fun x hx y hy => ?_⟩
          rw [List.mem_singleton.1 hy]
          have hm0 : m ≠ 0 := fun e => by subst e; simp [Lib.compactUpTo] at hx
          have hne : l.getD m default ≠ l.getD (m - 1) default := by
            unfold Lib.keeps at hk
            rw [get (by omega), get (by omega)] at hk
            simp only [decide_eq_true_eq] at hk
            rcases hk with hk | hk
            · exact absurd hk hm0
            · exact hk
          have hx1 := h2 x hx (m - 1) (by omega) (by omega)
          have hx2 : Op.bytesLess (l.getD m default) (l.getD (m - 1) default) = false := by
            rw [getD_get (by omega : m < l.length), getD_get (by omega : m - 1 < l.length)]
            exact List.pairwise_iff_getElem.1 h (m - 1) m (by omega) (by omega) (by omega)
          have hx3 : Op.bytesLess (l.getD (m - 1) default) (l.getD m default) = true := by
            rcases bl_or (l.getD (m - 1) default) (l.getD m default) with h3 | h3 | h3
            · exact h3
            · exact absurd h3.symm hne
            · rw [h3] at hx2; cases hx2
          exact nle_lt hx1 hx3
        · rcases List.mem_append.1 hx with hx | hx
          · exact h2 x hx j (by omega) hjl
          · rw [List.mem_singleton.1 hx]; exact later j (by omega) hjl
      · rw [if_neg hk, List.append_nil]
        exact ⟨h1, fun x hx j hj hjl => h2 x hx j (by omega) hjl⟩
  exact (key l.length (Nat.le_refl _)).1
theorem asc_ext : ∀ {l m : List Str}, AscB l → AscB m → (∀ x, x ∈ l ↔ x ∈ m) → l = m
  | [], m, _, _, h => by
    have : m = [] := List.eq_nil_iff_forall_not_mem.2 fun x hx => by have := (h x).2 hx; cases this
    rw [this]
  | x :: l, [], _, _, h => by have := (h x).1 (by simp); cases this
  | x :: l, y :: m, h1, h2, h => by
    have p1 := List.pairwise_cons.1 h1; have p2 := List.pairwise_cons.1 h2
    have e : x = y := by
      rcases List.mem_cons.1 ((h x).1 (by simp)) with hx | hx
      · exact hx
      · rcases List.mem_cons.1 ((h y).2 (by simp)) with hy | hy
        · exact hy.symm
        · have q1 := p2.1 x hx; have q2 := p1.1 y hy
          rw [(bl_asymm q1).1] at q2; cases q2
    subst e
    rw [asc_ext p1.2 p2.2 fun z => ?_]
    have hz := h z
    rw [List.mem_cons, List.mem_cons] at hz
    have n1 : x ∉ l := fun hx => by have := p1.1 x hx; rw [bl_irrefl] at this; cases this
    have n2 : x ∉ m := fun hx => by have := p2.1 x hx; rw [bl_irrefl] at this; cases this
    constructor
    · intro hl
      rcases hz.1 (.inr hl) with rfl | hm
      · exact absurd hl n1
      · exact hm
    · intro hm
      rcases hz.2 (.inr hm) with rfl | hl
      · exact absurd hm n2
      · exact hl
theorem union_eq {a b : List Str} (ha : a.length ≤ 1000) (hb : b.length ≤ 1000) : union a b = some (uniS a b) := by
  have e : Lib.compact (srt (a ++ b)) = uniS a b := asc_ext (compact_asc (srt_sorted _)) (uniS_asc a b) fun x => by
    unfold srt
    rw [compact_mem, List.mem_mergeSort, List.mem_append, uniS_mem]
  unfold union sortS compactS
  rw [concat2 (by omega) (by omega), Option.bind_some, if_pos (by simp only [List.length_append]; omega), Option.bind_some, if_pos (by rw [List.length_mergeSort]; simp only [List.length_append]; omega), Option.bind_some]
  exact congrArg some e

/-! ### How many -/
theorem comS_filter (a b : List Str) : comS a b = (((dd a).filter fun x => b.contains x).length : Nat) := by
  unfold comS; rw [List.countP_eq_length_filter]
theorem comS_comm (a b : List Str) : comS a b = comS b a := by
  rw [comS_filter, comS_filter]
  have := perm_nodup (l := (dd a).filter fun x => b.contains x) (m := (dd b).filter fun x => a.contains x) ((dd_nodup a).filter _) ((dd_nodup b).filter _) fun x => by
    simp only [List.mem_filter, dd_mem, List.contains_iff_mem]
    exact ⟨fun h => ⟨h.2, h.1⟩, fun h => ⟨h.2, h.1⟩⟩
  rw [this.length_eq]
theorem uni1_len (a : List Str) : (uniS a []).length = (dd a).length :=
  (perm_nodup (uniS_asc a []).nodup (dd_nodup a) fun x => by rw [uniS_mem, dd_mem]; simp).length_eq
theorem uni_count (a b : List Str) : ((uniS a b).length : Int) + comS a b = ((uniS a []).length : Int) + ((uniS b []).length : Int) := by
  rw [uni1_len, uni1_len]
  have h1 : (uniS a b).length = (dd a ++ (dd b).filter fun x => !a.contains x).length :=
    (perm_nodup (uniS_asc a b).nodup (by
      rw [List.nodup_append]
      refine ⟨dd_nodup a, (dd_nodup b).filter _, fun x hx y hy e => ?_⟩
      subst e
      have := (List.mem_filter.1 hy).2
      rw [dd_mem, ← List.contains_iff_mem] at hx
      rw [hx] at this; cases this) fun x => by
      rw [uniS_mem, List.mem_append, List.mem_filter, dd_mem, dd_mem]
      by_cases hx : x ∈ a
      · simp [hx]
      · simp [hx]).length_eq
  have h2 : comS a b = (((dd b).filter fun x => a.contains x).length : Nat) := by rw [comS_comm, comS_filter]
  have h3 : (dd b).length = ((dd b).filter fun x => a.contains x).length + ((dd b).filter fun x => !a.contains x).length := by
    generalize dd b = q
    induction q with
    | nil => rfl
    | cons x l ih =>
      rw [List.filter_cons, List.filter_cons, List.length_cons]
      cases hx : a.contains x with
      | true => rw [if_pos rfl, if_neg (by simp), List.length_cons]; omega
      | false => rw [if_neg (by simp), if_pos (by rfl), List.length_cons]; omega
  rw [h1, h2, List.length_append]
  omega


/-! ### Subset, Common, short or long -/
theorem subsetB_eq {a b : List Str} (ha : a.length ≤ 1000) (hb : 50 < b.length) (hb2 : b.length ≤ 1000) : subsetB a b = some (subS a b) := by
  have hm : memberB b = some (dd b) := by unfold memberB; rw [if_neg (fun h => by have := of_decide_eq_true h; omega), setOf_eq (by omega)]; rfl
  unfold subsetB
  rw [hm, Option.bind_some]
  have step : ∀ (i : Nat) (x : Str), a[i]? = some x → subsetB_b1 a (dd b) (i : Int) = if (!b.contains x) = true then some (.inr (.inl false)) else some (.inl ((i + 1 : Nat) : Int)) := fun i x hx => by
    have hlt := lt_of_get hx
    unfold subsetB_b1 memberIn2
    dsimp only
    rw [if_pos (by simp only [decide_eq_true_eq]; omega), if_pos (by omega), Int.toNat_natCast, hx, Option.bind_some, contains_congr (dd_mem b) x, Option.bind_some, w64 (n := (i : Int) + 1) (by omega)]; rfl
  have l1 := loop_list (β := Unit) a (subsetB_b1 a (dd b)) (fun i _ => (i : Int)) (fun _ _ => ()) (fun i => b.contains (a.getD i default)) (.inl false) (fun _ => .inr ()) (fun _ _ => True) (fun _ _ _ _ _ => trivial)
    (fun i x _ _ hx hp => by rw [getD_of hx] at hp; rw [step i x hx, hp]; rfl) (fun i x _ _ hx hp => by rw [getD_of hx] at hp; rw [step i x hx, hp]; rfl) (fun _ _ => by unfold subsetB_b1; rw [if_neg (by simp)]) () trivial
  rw [show ((0 : Int)) = ((0 : Nat) : Int) from rfl, l1, range_all (fun x => b.contains x)]
  unfold subS
  cases (a.all fun x => b.contains x) <;> rfl
theorem subsetP_eq {a b : List Str} (ha : a.length ≤ 1000) (hb : b.length ≤ 1000) : subsetP a b = some (subS a b) := by
  unfold subsetP
  split
  · rename_i h; exact subset_eq ha h
  · rename_i h; exact subsetB_eq ha (by omega) hb

end Go.C
