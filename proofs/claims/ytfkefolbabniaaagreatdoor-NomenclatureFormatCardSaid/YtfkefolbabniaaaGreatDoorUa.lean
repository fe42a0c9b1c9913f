/- Plain laws of texts: digits, splitting, joining. No program in sight. -/
import Derived.Test.YtfkefolbabniaaaGreatDoorPl
import Derived.Test.YtfkefolbabniaaaGreatDoorGa
import Derived.Lib.SplitLaws
import Derived.Lib.IndexLaws
import Derived.Lib.AtoiAllCases
set_option linter.unusedVariables false
set_option linter.unusedSimpArgs false
namespace Go.C
open Go.V
open Go.Lib (decDigits)

abbrev dg (n : Nat) : UInt8 := UInt8.ofNat (48 + n)

theorem dec_small {u : Nat} (h : u < 10) : decDigits u = [dg u] := by rw [decDigits, dif_pos h]
theorem dec_big {u : Nat} (h : ¬ u < 10) : decDigits u = decDigits (u / 10) ++ [dg (u % 10)] := by rw [decDigits, dif_neg h]

theorem dec_len (k : Nat) : ∀ u : Nat, u < 10 ^ (k + 1) → (decDigits u).length ≤ k + 1 := by
  induction k with
  | zero => intro u h; rw [dec_small (by simpa using h)]; simp
  | succ k ih =>
    intro u h
    by_cases hu : u < 10
    · rw [dec_small hu]; simp
    · rw [dec_big hu, List.length_append]
      have := ih (u / 10) (by rw [Nat.pow_succ] at h; omega)
      simp; omega
theorem dec_len19 {u : Nat} (h : u < 10000000000000000000) : (decDigits u).length ≤ 19 := dec_len 18 u (by simpa using h)

theorem itoa_ok {n : Int} (h : 0 ≤ n) (h2 : n ≤ 9223372036854775807) : Go.C.itoa n = some (decDigits n.toNat) := by
  unfold Go.C.itoa Lib.itoa
  rw [if_pos (by unfold i64 okI_i64; omega), if_neg (by omega)]
/-- A number is written with at most 20 bytes. -/
theorem itoa_any {n : Int} (h : okI_i64 n) : ∃ s, Go.C.itoa n = some s ∧ s.length ≤ 20 := by
  unfold Go.C.itoa Lib.itoa
  rw [if_pos h]
  unfold okI_i64 at h
  split
  · have := dec_len19 (u := n.natAbs) (by omega)
    exact ⟨_, rfl, by simp; omega⟩
  · have := dec_len19 (u := n.toNat) (by omega)
    exact ⟨_, rfl, by omega⟩

theorem byte_dg {n : Int} (h : 0 ≤ n) (h2 : n < 10) : bytesI [IntKind.u8.wrap (IntKind.i64.wrap ((48 : Int) + n))] = [dg n.toNat] := by
  rw [IntWalk.i64_in _ (by omega), IntWalk.u8_in _ (by omega)]
  have : n = 0 ∨ n = 1 ∨ n = 2 ∨ n = 3 ∨ n = 4 ∨ n = 5 ∨ n = 6 ∨ n = 7 ∨ n = 8 ∨ n = 9 := by omega
  rcases this with rfl | rfl | rfl | rfl | rfl | rfl | rfl | rfl | rfl | rfl <;> decide

/-- Digits alone. -/
def IsDig (l : Str) : Prop := ∀ c, c ∈ l → 48 ≤ c.toNat ∧ c.toNat ≤ 57
def valF (acc : Nat) : Str → Nat
  | [] => acc
  | c :: r => valF (acc * 10 + (c.toNat - 48)) r

theorem valF_append (l r : Str) : ∀ acc, valF acc (l ++ r) = valF (valF acc l) r := by
  induction l with
  | nil => intro acc; rfl
  | cons c l ih => intro acc; exact ih _
theorem dg_toNat {n : Nat} (h : n < 10) : (dg n).toNat = 48 + n := by
  show (UInt8.ofNat (48 + n)).toNat = 48 + n
  rw [UInt8.toNat_ofNat']; omega
theorem isDig_dg {n : Nat} (h : n < 10) : IsDig [dg n] := fun c hc => by
  have hc' := List.mem_singleton.1 hc
  rw [hc', dg_toNat h]; omega
theorem valF_one (acc : Nat) {n : Nat} (h : n < 10) : valF acc [dg n] = acc * 10 + n := by
  show acc * 10 + ((dg n).toNat - 48) = _
  rw [dg_toNat h]; omega
theorem IsDig.append {l r : Str} (h : IsDig l) (k : IsDig r) : IsDig (l ++ r) := fun c hc => by
  rcases List.mem_append.1 hc with hc | hc
  · exact h c hc
  · exact k c hc
theorem isDig_dec (u : Nat) : IsDig (decDigits u) ∧ valF 0 (decDigits u) = u ∧ decDigits u ≠ [] := by
  induction u using Nat.strongRecOn with
  | ind u ih =>
    rcases Nat.lt_or_ge u 10 with h | h
    · have e := dec_small h
      refine ⟨e ▸ isDig_dg h, ?_, ?_⟩
      · rw [e, valF_one 0 h]; omega
      · rw [e]; exact List.cons_ne_nil _ _
    · obtain ⟨h1, h2, h3⟩ := ih (u / 10) (by omega)
      have e := dec_big (u := u) (by omega)
      refine ⟨?_, ?_, ?_⟩
      · rw [e]; exact h1.append (isDig_dg (by omega))
      · rw [e, valF_append, h2, valF_one _ (by omega)]; omega
      · rw [e]; exact fun h => by simp at h
theorem IsDig.not_mem {l : Str} (h : IsDig l) {c : UInt8} (hc : c.toNat < 48 ∨ 57 < c.toNat) : c ∉ l := fun hm => by
  have := h c hm; omega

theorem pow_le17 {acc k : Nat} (ha : acc < 10 ^ k) (hk : k ≤ 17) : acc < 100000000000000000 := by
  have h1 : (10 : Nat) ^ k ≤ 10 ^ 17 := Nat.pow_le_pow_right (by omega) hk
  have h2 : (10 : Nat) ^ 17 = 100000000000000000 := rfl
  rw [h2] at h1
  exact Nat.lt_of_lt_of_le ha h1
theorem pow_next {acc k d : Nat} (ha : acc < 10 ^ k) (hd : d ≤ 9) : acc * 10 + d < 10 ^ (k + 1) := by
  rw [Nat.pow_succ]
  generalize 10 ^ k = p at *
  omega
theorem parse_ok (l : Str) : ∀ (acc k : Nat), IsDig l → acc < 10 ^ k → l.length + k ≤ 18 → Lib.parseUint10 acc l = .ok (valF acc l) := by
  induction l with
  | nil => intro acc k _ _ _; rfl
  | cons c r ih =>
    intro acc k hd ha hl
    have hc := hd c List.mem_cons_self
    rw [List.length_cons] at hl
    have h17 := pow_le17 ha (by omega)
    have hn := pow_next ha (show c.toNat - 48 ≤ 9 by omega)
    clear ha
    unfold Lib.parseUint10 valF
    rw [if_pos hc, if_neg (by omega), if_neg (by omega)]
    exact ih _ (k + 1) (fun c hc => hd c (List.mem_cons_of_mem _ hc)) hn (by omega)
theorem valF_lt (l : Str) : ∀ (acc k : Nat), IsDig l → acc < 10 ^ k → valF acc l < 10 ^ (k + l.length) := by
  induction l with
  | nil => intro acc k _ ha; exact ha
  | cons c r ih =>
    intro acc k hd ha
    have hc := hd c List.mem_cons_self
    have := ih _ (k + 1) (fun c hc => hd c (List.mem_cons_of_mem _ hc)) (pow_next ha (show c.toNat - 48 ≤ 9 by omega))
    rw [List.length_cons, show k + (r.length + 1) = k + 1 + r.length by omega]
    exact this

theorem atoi_dig {l : Str} (hd : IsDig l) (hne : l ≠ []) (hl : l.length ≤ 18) : atoiS l = some ((valF 0 l : Int), true) := by
  have hp := parse_ok l 0 0 hd (by decide) (by omega)
  have hv := valF_lt l 0 0 hd (by decide)
  have hv2 : valF 0 l < 1000000000000000000 := Nat.lt_of_lt_of_le hv (Nat.le_trans (Nat.pow_le_pow_right (by omega) (show 0 + l.length ≤ 18 by omega)) (Nat.le_of_eq rfl))
  clear hv
  unfold atoiS
  rw [if_pos (by omega)]
  have : Lib.atoiAll l = .ok (valF 0 l : Int) := by
    cases l with
    | nil => exact absurd rfl hne
    | cons c r =>
      have hc := hd c List.mem_cons_self
      rw [Lib.atoiAll_plain c r (by omega) (by omega)]
      unfold Lib.parseMag
      rw [if_neg (by simp), hp]
      unfold Lib.signless
      simp only
      rw [if_neg (by omega)]
  rw [this]
theorem atoi_dec {n : Int} (h : 0 ≤ n) (h2 : n < 1000000000000000000) : atoiS (decDigits n.toNat) = some (n, true) := by
  obtain ⟨d1, d2, d3⟩ := isDig_dec n.toNat
  rw [atoi_dig d1 d3 (dec_len 17 _ (by omega)), d2, Int.toNat_of_nonneg h]
/-- Whatever the text, a number within bounds is read. -/
theorem atoi_any {s : Str} (h : s.length ≤ 281474976710656) : ∃ v b, atoiS s = some (v, b) ∧ okI_i64 v := by
  unfold atoiS
  rw [if_pos h]
  cases hx : Lib.atoiAll s with
  | ok v => exact ⟨_, _, rfl, Lib.atoiAll_bounds hx⟩
  | range => exact ⟨_, _, rfl, Lib.atoiSat_bounds s⟩
  | _ => exact ⟨_, _, rfl, by unfold okI_i64; omega⟩

/-! ### One byte as a separator -/

theorem index_miss {c : UInt8} : ∀ {w : Str}, c ∉ w → Lib.index w [c] = -1
  | [], _ => rfl
  | b :: w, h => by
    have hb : c ≠ b := fun e => h (by rw [e]; exact List.mem_cons_self)
    have ih := index_miss (w := w) (fun hm => h (List.mem_cons_of_mem _ hm))
    simp only [Lib.index, List.isPrefixOf, Bool.and_true, ih]
    rw [if_neg (by simpa using hb)]
    rfl
theorem index_at {c : UInt8} {r : Str} : ∀ {w : Str}, c ∉ w → Lib.index (w ++ c :: r) [c] = w.length
  | [], _ => by simp [Lib.index, List.isPrefixOf]
  | b :: w, h => by
    have hb : c ≠ b := fun e => h (by rw [e]; exact List.mem_cons_self)
    have ih := index_at (r := r) (w := w) (fun hm => h (List.mem_cons_of_mem _ hm))
    simp only [List.cons_append, Lib.index, List.isPrefixOf, Bool.and_true, ih]
    rw [if_neg (by simpa using hb), if_neg (by simp)]
    simp

theorem split_miss {c : UInt8} {w : Str} (h : c ∉ w) : Lib.split w [c] = [w] := by
  unfold Lib.split
  rw [Lib.count_one, List.count_eq_zero.2 h]
  rfl
theorem split_at {c : UInt8} {w r : Str} (h : c ∉ w) : Lib.split (w ++ c :: r) [c] = w :: Lib.split r [c] := by
  unfold Lib.split
  rw [Lib.count_one, Lib.count_one, List.count_append, List.count_eq_zero.2 h, List.count_cons_self, Nat.zero_add]
  simp only [Lib.splitK, index_at h]
  rw [if_neg (by simp)]
  simp
theorem cut_miss {c : UInt8} {w : Str} (h : c ∉ w) : Lib.cut w [c] = (w, [], false) := by
  unfold Lib.cut
  rw [index_miss h, if_neg (by omega)]
theorem cut_at {c : UInt8} {w r : Str} (h : c ∉ w) : Lib.cut (w ++ c :: r) [c] = (w, r, true) := by
  unfold Lib.cut
  rw [index_at h, if_pos (by omega)]
  simp

/-- A text, cut at a byte. -/
def spl (c : UInt8) : Str → List Str
  | [] => [[]]
  | b :: s => if b = c then [] :: spl c s else match spl c s with | x :: r => (b :: x) :: r | [] => [[b]]

theorem spl_ne (c : UInt8) : ∀ s, spl c s ≠ []
  | [] => by simp [spl]
  | b :: s => by
    unfold spl
    split
    · simp
    · split <;> simp
theorem spl_miss {c : UInt8} : ∀ {w : Str}, c ∉ w → spl c w = [w]
  | [], _ => rfl
  | b :: w, h => by
    have hb : ¬ b = c := fun e => h (by rw [e]; exact List.mem_cons_self)
    unfold spl
    rw [if_neg hb, spl_miss (w := w) (fun hm => h (List.mem_cons_of_mem _ hm))]
theorem spl_at {c : UInt8} {r : Str} : ∀ {w : Str}, c ∉ w → spl c (w ++ c :: r) = w :: spl c r
  | [], _ => by simp [spl]
  | b :: w, h => by
    have hb : ¬ b = c := fun e => h (by rw [e]; exact List.mem_cons_self)
    rw [List.cons_append]
    show (if b = c then [] :: spl c (w ++ c :: r) else match spl c (w ++ c :: r) with | x :: r => (b :: x) :: r | [] => [[b]]) = _
    rw [if_neg hb, spl_at (w := w) (fun hm => h (List.mem_cons_of_mem _ hm))]
theorem spl_cases (c : UInt8) : ∀ s : Str, c ∉ s ∨ ∃ w r, s = w ++ c :: r ∧ c ∉ w
  | [] => .inl (by simp)
  | b :: s => by
    by_cases hb : b = c
    · subst hb; exact .inr ⟨[], s, rfl, by simp⟩
    · rcases spl_cases c s with h | ⟨w, r, rfl, hw⟩
      · exact .inl (by simp only [List.mem_cons, not_or]; exact ⟨fun e => hb e.symm, h⟩)
      · exact .inr ⟨b :: w, r, rfl, by simp only [List.mem_cons, not_or]; exact ⟨fun e => hb e.symm, hw⟩⟩
theorem split_spl (c : UInt8) : ∀ (n : Nat) (s : Str), s.length ≤ n → Lib.split s [c] = spl c s := by
  intro n
  induction n with
  | zero =>
    intro s hs
    have : s = [] := List.eq_nil_of_length_eq_zero (by omega)
    subst this
    rw [split_miss (by simp), spl_miss (by simp)]
  | succ n ih =>
    intro s hs
    rcases spl_cases c s with h | ⟨w, r, rfl, hw⟩
    · rw [split_miss h, spl_miss h]
    · rw [split_at hw, spl_at hw, ih r (by simp at hs; omega)]
theorem splitS_eq {c : UInt8} {s : Str} (h : s.length < 4294967281) : splitS s [c] = some (spl c s) := by
  unfold splitS
  rw [if_pos ⟨h, by simp⟩, split_spl c _ s (Nat.le_refl _)]

theorem join_cons2 (x y : Str) (r : List Str) (sep : Str) : Lib.join (x :: y :: r) sep = x ++ sep ++ Lib.join (y :: r) sep := by
  rw [Lib.join_cons, Lib.join_cons]
  simp [Lib.joinTail]
theorem join_spl (c : UInt8) : ∀ (n : Nat) (s : Str), s.length ≤ n → Lib.join (spl c s) [c] = s := by
  intro n
  induction n with
  | zero =>
    intro s hs
    have : s = [] := List.eq_nil_of_length_eq_zero (by omega)
    subst this
    rw [spl_miss (by simp), Lib.join_one]
  | succ n ih =>
    intro s hs
    rcases spl_cases c s with h | ⟨w, r, rfl, hw⟩
    · rw [spl_miss h, Lib.join_one]
    · rw [spl_at hw]
      have := ih r (by simp at hs; omega)
      cases hr : spl c r with
      | nil => exact absurd hr (spl_ne c r)
      | cons y t => rw [join_cons2, ← hr, this]; simp
/-- What is joined is cut again. -/
theorem spl_join {c : UInt8} : ∀ {l : List Str}, l ≠ [] → (∀ x, x ∈ l → c ∉ x) → spl c (Lib.join l [c]) = l
  | [], h, _ => absurd rfl h
  | [x], _, h => by rw [Lib.join_one, spl_miss (h x (by simp))]
  | x :: y :: r, _, h => by
    rw [join_cons2, List.append_assoc, List.singleton_append, spl_at (h x (by simp)), spl_join (by simp) (fun z hz => h z (List.mem_cons_of_mem _ hz))]
/-- The parts of a text are not longer than it. -/
theorem spl_len (c : UInt8) : ∀ s : Str, (spl c s).length ≤ s.length + 1 ∧ (∀ x, x ∈ spl c s → x.length ≤ s.length ∧ c ∉ x) ∧ Lib.lens (spl c s) + (spl c s).length = s.length + 1
  | [] => by simp [spl, Lib.lens]
  | b :: s => by
    obtain ⟨h1, h2, h3⟩ := spl_len c s
    unfold spl
    split
    · refine ⟨by simp; omega, fun x hx => ?_, by simp [Lib.lens] at h3 ⊢; omega⟩
      rcases List.mem_cons.1 hx with rfl | hx
      · simp
      · have := h2 x hx; exact ⟨by simp; omega, this.2⟩
    · rename_i hb
      split
      · rename_i x r hr
        rw [hr] at h1 h2 h3
        refine ⟨by simp at h1 ⊢; omega, fun y hy => ?_, by simp [Lib.lens] at h3 ⊢; omega⟩
        rcases List.mem_cons.1 hy with rfl | hy
        · have := h2 x (by simp)
          refine ⟨by simp; omega, ?_⟩
          simp only [List.mem_cons, not_or]
          exact ⟨fun e => hb e.symm, this.2⟩
        · have := h2 y (by simp [hy]); exact ⟨by simp; omega, this.2⟩
      · rename_i hr; exact absurd hr (spl_ne c s)
theorem join_len (l : List Str) (sep : Str) : (Lib.join l sep).length ≤ sep.length * l.length + Lib.lens l := by
  cases l with
  | nil => simp [Lib.join_nil]
  | cons x r =>
    rw [Lib.join_cons, List.length_append, Lib.joinTail_length]
    simp only [Lib.lens, List.map_cons, List.sum_cons, List.length_cons, Nat.mul_succ]
    omega
theorem lens_le {l : List Str} {k : Nat} (h : ∀ x, x ∈ l → x.length ≤ k) : Lib.lens l ≤ k * l.length := by
  induction l with
  | nil => simp [Lib.lens]
  | cons x r ih =>
    have h1 := h x (by simp)
    have h2 := ih (fun y hy => h y (by simp [hy]))
    simp only [Lib.lens, List.map_cons, List.sum_cons, List.length_cons, Nat.mul_succ] at h2 ⊢
    omega
theorem join_snoc {l : List Str} (hl : l ≠ []) (x sep : Str) : Lib.join (l ++ [x]) sep = Lib.join l sep ++ sep ++ x := by
  cases l with
  | nil => exact absurd rfl hl
  | cons y r => rw [List.cons_append, Lib.join_cons, Lib.join_cons]; simp [Lib.joinTail, List.append_assoc]

/-! ### Loops -/

/-- A loop whose states are known one by one. -/
theorem loop_seq {σ τ : Type} {f : σ → Option (σ ⊕ τ)} (n : Nat) (s : Nat → σ) (r : τ) (hgo : ∀ i, i < n → f (s i) = some (.inl (s (i + 1)))) (hend : f (s n) = some (.inr r)) : loopO f (s 0) = some r := by
  have key : ∀ m k, k + m = n → loopO f (s k) = some r := by
    intro m
    induction m with
    | zero => intro k hk; have : k = n := by omega
              subst this; exact loop_stop hend
    | succ m ih => intro k hk; rw [loop_step (hgo k (by omega))]; exact ih (k + 1) (by omega)
  exact key n 0 (by omega)

/-- A list gone through from the left, which may be left early. -/
def foldE {α β τ : Type} (g : Nat → α → β → Option (β ⊕ τ)) (fin : β → τ) : Nat → List α → β → Option τ
  | _, [], b => some (fin b)
  | i, x :: xs, b => match g i x b with
    | some (.inl b') => foldE g fin (i + 1) xs b'
    | some (.inr r) => some r
    | none => none
def mapL {β σ τ : Type} (m : β → σ) : Option (β ⊕ τ) → Option (σ ⊕ τ)
  | some (.inl b) => some (.inl (m b))
  | some (.inr r) => some (.inr r)
  | none => none
theorem loop_none {σ τ : Type} {f : σ → Option (σ ⊕ τ)} {s : σ} (h : f s = none) : loopO f s = none := by rw [loopO_eq, h]
theorem loop_foldE {α β σ τ : Type} (xs : List α) (f : σ → Option (σ ⊕ τ)) (mk : Nat → β → σ) (g : Nat → α → β → Option (β ⊕ τ)) (fin : β → τ)
    (hgo : ∀ i x b, xs[i]? = some x → f (mk i b) = mapL (mk (i + 1)) (g i x b)) (hend : ∀ b, f (mk xs.length b) = some (.inr (fin b))) (b0 : β) : loopO f (mk 0 b0) = foldE g fin 0 xs b0 := by
  have key : ∀ (m k : Nat) (b : β), k + m = xs.length → loopO f (mk k b) = foldE g fin k (xs.drop k) b := by
    intro m
    induction m with
    | zero =>
      intro k b hk
      have : k = xs.length := by omega
      subst this
      rw [loop_stop (hend b)]; simp [foldE]
    | succ m ih =>
      intro k b hk
      have hlt : k < xs.length := by omega
      have h1 := hgo k xs[k] b (List.getElem?_eq_getElem hlt)
      rw [List.drop_eq_getElem_cons hlt, foldE]
      cases hg : g k xs[k] b with
      | none => rw [hg] at h1; rw [loop_none h1]
      | some x =>
        rw [hg] at h1
        cases x with
        | inl b' => rw [loop_step h1]; exact ih (k + 1) b' (by omega)
        | inr r => rw [loop_stop h1]
  have := key xs.length 0 b0 (by omega)
  rwa [List.drop_zero] at this
/-- A loop over a list, with what holds on the way and at its end. -/
theorem loop_all {α β σ τ : Type} (xs : List α) (f : σ → Option (σ ⊕ τ)) (mk : Nat → β → σ) (I : Nat → β → Prop) (R : τ → Prop)
    (hgo : ∀ i x b, xs[i]? = some x → I i b → (∃ b', f (mk i b) = some (.inl (mk (i + 1) b')) ∧ I (i + 1) b') ∨ (∃ r, f (mk i b) = some (.inr r) ∧ R r))
    (hend : ∀ b, I xs.length b → ∃ r, f (mk xs.length b) = some (.inr r) ∧ R r) (b0 : β) (h0 : I 0 b0) : ∃ r, loopO f (mk 0 b0) = some r ∧ R r := by
  have key : ∀ (m k : Nat) (b : β), k + m = xs.length → I k b → ∃ r, loopO f (mk k b) = some r ∧ R r := by
    intro m
    induction m with
    | zero =>
      intro k b hk hb
      have : k = xs.length := by omega
      subst this
      obtain ⟨r, h1, h2⟩ := hend b hb
      exact ⟨r, loop_stop h1, h2⟩
    | succ m ih =>
      intro k b hk hb
      have hlt : k < xs.length := by omega
      rcases hgo k xs[k] b (List.getElem?_eq_getElem hlt) hb with ⟨b', h1, h2⟩ | ⟨r, h1, h2⟩
      · obtain ⟨r, h3, h4⟩ := ih (k + 1) b' (by omega) h2
        exact ⟨r, by rw [loop_step h1]; exact h3, h4⟩
      · exact ⟨r, loop_stop h1, h2⟩
  exact key xs.length 0 b0 (by omega) h0

end Go.C
