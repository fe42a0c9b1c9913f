/- The engine: a walk in the text's order serves every order that may be drawn. No program in sight. -/
import Derived.Test.YtinickkcieecdaaGreatDoorVe
set_option linter.unusedVariables false
namespace Go.V
open Go.RowKit

def has (t : Nat) : List Nat → Bool
  | [] => false
  | x :: r => match Nat.beq x t with | true => true | false => has t r

theorem has_iff {t : Nat} : ∀ {l : List Nat}, has t l = true ↔ t ∈ l
  | [] => by simp [has]
  | x :: r => by
    simp only [has]
    split
    · rename_i h; simp [Nat.eq_of_beq_eq_true h]
    · rename_i h
      have : x ≠ t := beq_ne h
      simp [has_iff (l := r), Ne.symm this]

/-- What an operation adds. -/
structure Dl where
  s : List (Nat × SV)
  o : List (Nat × Ob)
def St.add (st : St) (d : Dl) : St := ⟨d.s ++ st.S, d.o ++ st.O⟩

/-- Two states say the same of these slots and these names. -/
structure Agree (sl : List Nat) (ns : List Nat) (st st' : St) : Prop where
  S : ∀ t, t ∈ sl → get st'.S t = get st.S t
  O : ∀ t, t ∈ ns → get st'.O t = get st.O t

structure Key where
  sl : List Nat
  ns : List Nat
  ws : List Nat
  wn : List Nat

def meet : List Nat → List Nat → Bool
  | [], _ => false
  | x :: r, l => match has x l with | true => true | false => meet r l
theorem meet_false {l r : List Nat} (h : meet l r = false) : ∀ x, x ∈ l → x ∉ r := by
  induction l with
  | nil => intro x hx; cases hx
  | cons y l ih =>
    simp only [meet] at h
    split at h
    · cases h
    · rename_i hy
      intro x hx
      rcases List.mem_cons.1 hx with rfl | hx
      · exact fun hr => by rw [has_iff.2 hr] at hy; cases hy
      · exact ih h x hx

def clash (a b : Key) : Bool := meet a.ws b.sl || meet a.ws b.ws || meet a.sl b.ws || meet a.wn b.ns || meet a.ns b.wn

/-- Operation j waits for number i, through others perhaps. -/
inductive Anc (ops : List Oper) : Nat → Nat → Prop
  | one {j i : Nat} {o : Oper} {e : Edge} (h : ops[j]? = some o) (he : e ∈ o.after) (hb : Region.binds .any e = true) (hi : e.on = i) : Anc ops j i
  | step {j i : Nat} {o : Oper} {e : Edge} (h : ops[j]? = some o) (he : e ∈ o.after) (hb : Region.binds .any e = true) (hi : Anc ops e.on i) : Anc ops j i

/-- For whom an operation waits, as a number's bits. -/
def ancOf (A : List Nat) : List Edge → Nat
  | [] => 0
  | e :: r => match Region.binds .any e with | true => Nat.lor (Nat.lor (2 ^ e.on) (match nth A e.on with | some x => x | none => 0)) (ancOf A r) | false => ancOf A r
def ancs : List Nat → List Oper → List Nat
  | A, [] => A
  | A, o :: os => ancs (A ++ [ancOf A o.after.toList]) os

theorem ancOf_spec {ops : List Oper} {A : List Nat} {j : Nat} {o : Oper} (ho : ops[j]? = some o) (hA : ∀ k x, A[k]? = some x → ∀ i, x.testBit i = true → Anc ops k i) : ∀ {es : List Edge}, (∀ e, e ∈ es → e ∈ o.after) → ∀ i, (ancOf A es).testBit i = true → Anc ops j i
  | [], _, i, h => by simp [ancOf] at h
  | e :: r, hs, i, h => by
    simp only [ancOf] at h
    split at h
    · rename_i hb
      change ((2 ^ e.on ||| _) ||| ancOf A r).testBit i = true at h
      rw [Nat.testBit_or, Nat.testBit_or, Bool.or_eq_true, Bool.or_eq_true] at h
      rcases h with (h | h) | h
      · rw [Nat.testBit_two_pow] at h
        exact .one ho (hs e (by simp)) hb (by simpa using h)
      · split at h
        · rename_i x hx
          rw [nth_eq] at hx
          exact .step ho (hs e (by simp)) hb (hA e.on x hx i h)
        · simp at h
      · exact ancOf_spec ho hA (fun e he => hs e (by simp [he])) i h
    · exact ancOf_spec ho hA (fun e he => hs e (by simp [he])) i h

theorem ancs_spec {ops : List Oper} : ∀ {os : List Oper} {A : List Nat}, (∀ j o, os[j]? = some o → ops[A.length + j]? = some o) → (∀ k x, A[k]? = some x → ∀ i, x.testBit i = true → Anc ops k i) → ∀ k x, (ancs A os)[k]? = some x → ∀ i, x.testBit i = true → Anc ops k i
  | [], A, _, hA => hA
  | o :: os, A, ho, hA => by
    simp only [ancs]
    refine ancs_spec (fun j o' hj => by have := ho (j + 1) o' (by simpa using hj); simpa [Nat.add_assoc, Nat.add_comm 1 j] using this) (fun k x hx i hi => ?_)
    by_cases hk : k < A.length
    · rw [List.getElem?_append_left hk] at hx; exact hA k x hx i hi
    · rw [List.getElem?_append_right (by omega)] at hx
      cases hk0 : k - A.length with
      | zero =>
        rw [hk0] at hx
        simp at hx
        subst hx
        have : k = A.length := by omega
        subst this
        exact ancOf_spec (by simpa using ho 0 o rfl) hA (fun e he => by simpa using he) i hi
      | succ m => rw [hk0] at hx; simp at hx

/-- Of two operations that touch one thing the later waits for the earlier; each waits for earlier ones alone. -/
def chk2 (k : Key) (i : Nat) : List Nat → List Key → Bool
  | a :: as, k' :: ks => (!clash k k' || a.testBit i) && chk2 k i as ks
  | _, _ => true
def chkA (i : Nat) : List Oper → List Key → List Nat → Bool
  | o :: os, k :: ks, _ :: as => o.after.toList.all (fun e => !Region.binds .any e || Nat.blt e.on i) && chk2 k i as ks && chkA (i + 1) os ks as
  | [], [], [] => true
  | _, _, _ => false
def chk (i : Nat) (ops : List Oper) (ks : List Key) : Bool := chkA i ops ks (ancs [] ops)

theorem chk2_spec {k : Key} {i : Nat} : ∀ {as : List Nat} {ks : List Key}, chk2 k i as ks = true → ∀ (j : Nat) (a : Nat) (k' : Key), as[j]? = some a → ks[j]? = some k' → clash k k' = true → a.testBit i = true
  | [], _, _, j, o, k', h1, _, _ => by simp at h1
  | _ :: _, [], _, j, o, k', _, h2, _ => by simp at h2
  | o' :: os, k2 :: ks, h, j, o, k', h1, h2, hc => by
    simp only [chk2, Bool.and_eq_true, Bool.or_eq_true, Bool.not_eq_true'] at h
    cases j with
    | zero =>
      simp at h1 h2; subst h1; subst h2
      rcases h.1 with h3 | h3
      · rw [hc] at h3; cases h3
      · exact h3
    | succ j => exact chk2_spec h.2 j o k' (by simpa using h1) (by simpa using h2) hc
theorem chkA_spec : ∀ {i : Nat} {os : List Oper} {ks : List Key} {as : List Nat}, chkA i os ks as = true → as.length = os.length ∧ ∀ (j : Nat) (o : Oper) (k : Key), os[j]? = some o → ks[j]? = some k →
    (∀ e, e ∈ o.after → Region.binds .any e = true → e.on < i + j) ∧ ∀ (j' : Nat) (a : Nat) (k' : Key), j < j' → as[j']? = some a → ks[j']? = some k' → clash k k' = true → a.testBit (i + j) = true
  | _, [], [], [], _ => ⟨rfl, fun j o k h1 _ => by simp at h1⟩
  | i, o1 :: os, k1 :: ks, a1 :: as, h => by
    simp only [chkA, Bool.and_eq_true, List.all_eq_true, Bool.or_eq_true, Bool.not_eq_true'] at h
    obtain ⟨⟨h3, h4⟩, h5⟩ := h
    have ih := chkA_spec h5
    refine ⟨by simp [ih.1], fun j o k h1 h2 => ?_⟩
    cases j with
    | zero =>
      simp at h1 h2; subst h1; subst h2
      refine ⟨fun e he hb => ?_, fun j' o' k' hj h6 h7 hc => ?_⟩
      · rcases h3 e (by simpa using he) with h8 | h8
        · rw [hb] at h8; cases h8
        · have h9 : e.on + 1 ≤ i := by simpa [Nat.blt] using h8
          omega
      · cases j' with
        | zero => omega
        | succ j' => exact chk2_spec h4 j' o' k' (by simpa using h6) (by simpa using h7) hc
    | succ j =>
      obtain ⟨h6, h7⟩ := ih.2 j o k (by simpa using h1) (by simpa using h2)
      refine ⟨fun e he hb => by have := h6 e he hb; omega, fun j' o' k' hj h8 h9 hc => ?_⟩
      cases j' with
      | zero => omega
      | succ j' =>
        have := h7 j' o' k' (by omega) (by simpa using h8) (by simpa using h9) hc
        rwa [show i + 1 + j = i + (j + 1) by omega] at this
  | _, [], [], _ :: _, h => by simp [chkA] at h
  | _, [], _ :: _, _, h => by simp [chkA] at h
  | _, _ :: _, [], _, h => by simp [chkA] at h
  | _, _ :: _, _ :: _, [], h => by simp [chkA] at h
theorem chk_spec {ops : List Oper} {ks : List Key} (h : chk 0 ops ks = true) (j : Nat) (o : Oper) (k : Key) (h1 : ops[j]? = some o) (h2 : ks[j]? = some k) :
    (∀ e, e ∈ o.after → Region.binds .any e = true → e.on < j) ∧ ∀ (j' : Nat) (o' : Oper) (k' : Key), j < j' → ops[j']? = some o' → ks[j']? = some k' → clash k k' = true → Anc ops j' j := by
  obtain ⟨hl, hs⟩ := chkA_spec h
  obtain ⟨h3, h4⟩ := hs j o k h1 h2
  refine ⟨fun e he hb => by have := h3 e he hb; omega, fun j' o' k' hj ho' hk' hc => ?_⟩
  have hlt : j' < (ancs [] ops).length := by rw [hl]; exact (List.getElem?_eq_some_iff.1 ho').1
  have hg := List.getElem?_eq_getElem hlt
  have := h4 j' _ k' hj hg hk' hc
  rw [Nat.zero_add] at this
  exact ancs_spec (ops := ops) (os := ops) (A := []) (fun j o hj => by simpa using hj) (fun k x hx => by simp at hx) j' _ hg j this

theorem get_app {α : Type} {t : Nat} : ∀ {l r : List (Nat × α)}, t ∉ l.map (·.1) → get (l ++ r) t = get r t
  | [], r, _ => rfl
  | (k, x) :: l, r, h => by
    simp at h
    rw [List.cons_append, get_cons_ne _ _ (fun e => h.1 e.symm)]
    exact get_app (by simpa using h.2)
theorem get_app_some {α : Type} {t : Nat} : ∀ {l r : List (Nat × α)}, t ∈ l.map (·.1) → get (l ++ r) t = get l t ∧ (get l t).isSome = true
  | [], r, h => by simp at h
  | (k, x) :: l, r, h => by
    by_cases e : k = t
    · subst e; simp [get_cons_self]
    · rw [List.cons_append, get_cons_ne _ _ e, get_cons_ne _ _ e]
      rcases List.mem_cons.1 h with h | h
      · exact absurd h.symm e
      · exact get_app_some h

/-- The state once the operations in f have come up: the adds in the text's order. -/
def stX (st : St) : List Dl → (Nat → Bool) → Nat → St
  | [], _, _ => st
  | d :: r, f, i => stX (if f i then st.add d else st) r f (i + 1)

/-- A name that the listed adds touch alike reads alike. -/
theorem stX_S {t : Nat} {f g : Nat → Bool} : ∀ {ds : List Dl} {st st' : St} {i : Nat}, get st.S t = get st'.S t → (∀ j d, ds[j]? = some d → t ∈ d.s.map (·.1) → f (i + j) = g (i + j)) → get (stX st ds f i).S t = get (stX st' ds g i).S t
  | [], st, st', i, h, _ => h
  | d :: r, st, st', i, h, hd => by
    simp only [stX]
    refine stX_S ?_ (fun j d' hj ht => by have := hd (j + 1) d' (by simpa using hj) ht; rwa [show i + (j + 1) = i + 1 + j by omega] at this)
    by_cases ht : t ∈ d.s.map (·.1)
    · have := hd 0 d rfl ht
      simp only [Nat.add_zero] at this
      rw [this]
      split
      · show get (d.s ++ st.S) t = get (d.s ++ st'.S) t
        rw [(get_app_some ht).1, (get_app_some ht).1]
      · exact h
    · have e1 : get (if f i = true then st.add d else st).S t = get st.S t := by
        split
        · exact get_app ht
        · rfl
      have e2 : get (if g i = true then st'.add d else st').S t = get st'.S t := by
        split
        · exact get_app ht
        · rfl
      rw [e1, e2, h]
theorem stX_O {t : Nat} {f g : Nat → Bool} : ∀ {ds : List Dl} {st st' : St} {i : Nat}, get st.O t = get st'.O t → (∀ j d, ds[j]? = some d → t ∈ d.o.map (·.1) → f (i + j) = g (i + j)) → get (stX st ds f i).O t = get (stX st' ds g i).O t
  | [], st, st', i, h, _ => h
  | d :: r, st, st', i, h, hd => by
    simp only [stX]
    refine stX_O ?_ (fun j d' hj ht => by have := hd (j + 1) d' (by simpa using hj) ht; rwa [show i + (j + 1) = i + 1 + j by omega] at this)
    by_cases ht : t ∈ d.o.map (·.1)
    · have := hd 0 d rfl ht
      simp only [Nat.add_zero] at this
      rw [this]
      split
      · show get (d.o ++ st.O) t = get (d.o ++ st'.O) t
        rw [(get_app_some ht).1, (get_app_some ht).1]
      · exact h
    · have e1 : get (if f i = true then st.add d else st).O t = get st.O t := by
        split
        · exact get_app ht
        · rfl
      have e2 : get (if g i = true then st'.add d else st').O t = get st'.O t := by
        split
        · exact get_app ht
        · rfl
      rw [e1, e2, h]
theorem stX_S_at {t : Nat} {f : Nat → Bool} : ∀ {ds : List Dl} {st : St} {i k : Nat} {d : Dl}, ds[k]? = some d → t ∈ d.s.map (·.1) → f (i + k) = true → (∀ j d', k < j → ds[j]? = some d' → t ∈ d'.s.map (·.1) → f (i + j) = false) → get (stX st ds f i).S t = get d.s t
  | [], st, i, k, d, h, _, _, _ => by simp at h
  | d0 :: r, st, i, 0, d, h, ht, hf, hl => by
    simp at h; subst h
    simp only [stX]
    simp only [Nat.add_zero] at hf
    rw [hf, if_pos rfl]
    rw [stX_S (g := fun _ => false) (st' := st.add d0) rfl (fun j d' hj ht' => by rw [show i + 1 + j = i + (j + 1) by omega]; exact hl (j + 1) d' (by omega) (by simpa using hj) ht')]
    have : ∀ (ds : List Dl) (st : St) (i : Nat), stX st ds (fun _ => false) i = st := fun ds => by
      induction ds with
      | nil => intros; rfl
      | cons d r ih => intro st i; simp only [stX, Bool.false_eq_true, if_false, ih]
    rw [this]
    exact (get_app_some ht).1
  | d0 :: r, st, i, k + 1, d, h, ht, hf, hl => by
    simp only [stX]
    exact stX_S_at (by simpa using h) ht (by rw [show i + 1 + k = i + (k + 1) by omega]; exact hf) (fun j d' hj hd ht' => by rw [show i + 1 + j = i + (j + 1) by omega]; exact hl (j + 1) d' (by omega) (by simpa using hd) ht')
theorem stX_O_at {t : Nat} {f : Nat → Bool} : ∀ {ds : List Dl} {st : St} {i k : Nat} {d : Dl}, ds[k]? = some d → t ∈ d.o.map (·.1) → f (i + k) = true → (∀ j d', k < j → ds[j]? = some d' → t ∈ d'.o.map (·.1) → f (i + j) = false) → get (stX st ds f i).O t = get d.o t
  | [], st, i, k, d, h, _, _, _ => by simp at h
  | d0 :: r, st, i, 0, d, h, ht, hf, hl => by
    simp at h; subst h
    simp only [stX]
    simp only [Nat.add_zero] at hf
    rw [hf, if_pos rfl]
    rw [stX_O (g := fun _ => false) (st' := st.add d0) rfl (fun j d' hj ht' => by rw [show i + 1 + j = i + (j + 1) by omega]; exact hl (j + 1) d' (by omega) (by simpa using hj) ht')]
    have : ∀ (ds : List Dl) (st : St) (i : Nat), stX st ds (fun _ => false) i = st := fun ds => by
      induction ds with
      | nil => intros; rfl
      | cons d r ih => intro st i; simp only [stX, Bool.false_eq_true, if_false, ih]
    rw [this]
    exact (get_app_some ht).1
  | d0 :: r, st, i, k + 1, d, h, ht, hf, hl => by
    simp only [stX]
    exact stX_O_at (by simpa using h) ht (by rw [show i + 1 + k = i + (k + 1) by omega]; exact hf) (fun j d' hj hd ht' => by rw [show i + 1 + j = i + (j + 1) by omega]; exact hl (j + 1) d' (by omega) (by simpa using hd) ht')
variable {P : Program} {n : Nat} {B : Base} {st : St} {ρ : Nat → Value} {a : Act} {w : World} {L : Nat → Prop} {tb : List (Nat × TI)} {Q : Exit → Act → World → Prop}

theorem Sat.congr {st st' : St} (hs : Sat B n st ρ a w L) (hS : ∀ t, get st'.S t = get st.S t) (hO : ∀ t, get st'.O t = get st.O t) : Sat B n st' ρ a w L := by
  have hN : nmO st'.O = nmO st.O := funext fun k => by unfold nmO; rw [hO]
  refine hs.go (Step.refl _ _) (fun b hb => hs.low b (.inr hb)) (fun k h => ⟨by rw [hN]; exact h, rfl⟩) hs.size hs.defers (fun t y hy => ?_) (fun k o hk => ?_) (fun k o k' o' hk hk' => ?_)
  · rw [hS] at hy; rw [hN]; exact hs.slot t y hy
  · rw [hO] at hk; rw [hN]; exact hs.obj k o hk
  · rw [hO] at hk hk'; exact hs.inj k o k' o' hk hk'

/-- Behind an operation: what it adds is known. -/
def After (B : Base) (n : Nat) (st' : St) (a : Act) (w' : World) : Prop := ∃ ρ L', Sat B n st' ρ a w' L'

/-- An operation, wherever it comes up: it adds 'd' to whatever says the same of what it touches as 'view' does. -/
def OpOk (P : Program) (B : Base) (n : Nat) (ops : List Oper) (Q : Exit → Act → World → Prop) (o : Oper) (k : Key) (view : St) (d : Dl) : Prop :=
  ∀ st' a ρ w' L' (K : Act → World → Prop), Agree k.sl k.ns view st' → Sat B n st' ρ a w' L' → (∀ a' w'', After B n (st'.add d) a' w'' → K a' w'') → wpO P ops Q o K a w'

theorem wpOp_of {ops : List Oper} {o : Oper} {i : Nat} {K : Act → World → Prop} (ho : ops[i]? = some o) (h : wpO P ops Q o K a w) : wpOp P ops.toArray Q i K a w := by
  unfold wpOp
  simp only [List.getElem?_toArray, ho]
  unfold wpO at h
  split
  · rename_i hw; rw [if_pos hw] at h; exact .inl h
  · rename_i hw; rw [if_neg hw] at h; exact h

structure Info where
  key : Key
  d : Dl

def keyOk (i : Info) : Prop := i.d.s.map (·.1) = i.key.ws ∧ (∀ k, k ∈ i.d.o.map (·.1) → k ∈ i.key.wn) ∧ ∀ k, k ∈ i.key.wn → k ∈ i.key.ns

theorem mem_ready {ops : List Oper} {listed : Array Bool} {i : Nat} (h : i ∈ Region.ready .any ops.toArray listed) : listed.getD i true = false ∧ ∃ o, ops[i]? = some o ∧ ∀ e, e ∈ o.after → Region.binds .any e = true → listed.getD e.on false = true := by
  simp only [Region.ready, List.mem_filter, Bool.and_eq_true, Bool.not_eq_true'] at h
  obtain ⟨h1, h2, h3⟩ := h
  refine ⟨h2, ?_⟩
  cases ho : ops[i]? with
  | none => simp [ho] at h3
  | some o =>
    simp only [List.getElem?_toArray, ho, Option.map_some, Option.getD_some, Array.all_eq_true_iff_forall_mem, Bool.or_eq_true, Bool.not_eq_true'] at h3
    refine ⟨o, rfl, fun e he hb => ?_⟩
    rcases h3 e he with h4 | h4
    · rw [hb] at h4; cases h4
    · exact h4

theorem ready_mem {ops : List Oper} {listed : Array Bool} {i : Nat} {o : Oper} (hl : listed.getD i true = false) (ho : ops[i]? = some o) (he : ∀ e, e ∈ o.after → Region.binds .any e = true → listed.getD e.on false = true) : i ∈ Region.ready .any ops.toArray listed := by
  have hlt := (List.getElem?_eq_some_iff.1 ho).1
  simp only [Region.ready, List.mem_filter, List.mem_range, Bool.and_eq_true, Bool.not_eq_true', List.size_toArray]
  refine ⟨hlt, hl, ?_⟩
  simp only [List.getElem?_toArray, ho, Option.map_some, Option.getD_some, Array.all_eq_true_iff_forall_mem, Bool.or_eq_true, Bool.not_eq_true']
  intro e h1
  cases hb : Region.binds .any e with
  | false => exact .inl rfl
  | true => exact .inr (he e h1 hb)

/-- Which operations have come up. -/
def lf (listed : Array Bool) : Nat → Bool := fun i => listed.getD i false

structure Inv (ops : List Oper) (listed : Array Bool) : Prop where
  size : listed.size = ops.length
  down : ∀ (j : Nat) (o : Oper), ops[j]? = some o → lf listed j = true → ∀ e, e ∈ o.after → Region.binds .any e = true → lf listed e.on = true

theorem Inv.anc {ops : List Oper} {listed : Array Bool} (inv : Inv ops listed) {j i : Nat} (h : Anc ops j i) : lf listed j = true → lf listed i = true := by
  induction h with
  | one h he hb hi => intro hj; exact hi ▸ inv.down _ _ h hj _ he hb
  | step h he hb _ ih => intro hj; exact ih (inv.down _ _ h hj _ he hb)

theorem lf_false {listed : Array Bool} {i : Nat} (h : listed.getD i true = false) : lf listed i = false := by
  simp only [lf, Array.getD_eq_getD_getElem?] at *
  cases hi : listed[i]? with
  | none => rw [hi] at h; cases h
  | some b => rw [hi] at h; simpa using h
theorem lf_true {listed : Array Bool} {i : Nat} (hi : i < listed.size) (h : lf listed i = false) : listed.getD i true = false := by
  simp only [lf, Array.getD_eq_getD_getElem?, Array.getElem?_eq_getElem hi, Option.getD_some] at *
  exact h
theorem lf_set {listed : Array Bool} {i j : Nat} (hi : i < listed.size) : lf (listed.setIfInBounds i true) j = if j = i then true else lf listed j := by
  simp only [lf, Array.getD_eq_getD_getElem?]
  by_cases e : j = i
  · subst e; simp [hi]
  · rw [if_neg e, Array.getElem?_setIfInBounds_ne (fun e' => e e'.symm)]

theorem key_clash {a b : Key} {x : Nat} (h : (x ∈ a.ws ∧ (x ∈ b.sl ∨ x ∈ b.ws)) ∨ (x ∈ a.sl ∧ x ∈ b.ws) ∨ (x ∈ a.wn ∧ x ∈ b.ns) ∨ (x ∈ a.ns ∧ x ∈ b.wn)) : clash a b = true := by
  cases hc : clash a b with
  | true => rfl
  | false =>
    simp only [clash, Bool.or_eq_false_iff] at hc
    obtain ⟨⟨⟨⟨c1, c2⟩, c3⟩, c4⟩, c5⟩ := hc
    rcases h with ⟨h1, h2 | h2⟩ | ⟨h1, h2⟩ | ⟨h1, h2⟩ | ⟨h1, h2⟩
    · exact absurd h2 (meet_false c1 x h1)
    · exact absurd h2 (meet_false c2 x h1)
    · exact absurd h2 (meet_false c3 x h1)
    · exact absurd h2 (meet_false c4 x h1)
    · exact absurd h2 (meet_false c5 x h1)

/-- Where i may come up now: an operation that clashes with it has come up just if it stands ahead of it in the text. -/
theorem clash_side {ops : List Oper} {ks : List Key} (hchk : chk 0 ops ks = true) {listed : Array Bool} (inv : Inv ops listed) {i : Nat} {oi : Oper} {ki : Key} (hoi : ops[i]? = some oi) (hki : ks[i]? = some ki) (hl : lf listed i = false)
    (hr : ∀ e, e ∈ oi.after → Region.binds .any e = true → lf listed e.on = true) {j : Nat} {oj : Oper} {kj : Key} (hoj : ops[j]? = some oj) (hkj : ks[j]? = some kj) (hne : j ≠ i) (hc : (j < i → clash kj ki = true) ∧ (i < j → clash ki kj = true)) :
    lf listed j = decide (j < i) := by
  by_cases hlt : j < i
  · rw [decide_eq_true hlt]
    have := (chk_spec hchk j oj kj hoj hkj).2 i oi ki hlt hoi hki (hc.1 hlt)
    cases this with
    | one h he hb hi => rw [hoi] at h; cases h; exact hi ▸ hr _ he hb
    | step h he hb hi => rw [hoi] at h; cases h; exact inv.anc hi (hr _ he hb)
  · have hgt : i < j := by omega
    rw [decide_eq_false hlt]
    have := (chk_spec hchk i oi ki hoi hki).2 j oj kj hgt hoj hkj (hc.2 hgt)
    cases hj : lf listed j with
    | false => rfl
    | true =>
      have := inv.anc this hj
      rw [hl] at this; cases this

theorem keys_get {infos : List Info} {j : Nat} {d : Dl} (h : (infos.map (·.d))[j]? = some d) : ∃ inf, infos[j]? = some inf ∧ inf.d = d ∧ (infos.map (·.key))[j]? = some inf.key := by
  rw [List.getElem?_map] at h
  cases hi : infos[j]? with
  | none => rw [hi] at h; cases h
  | some inf =>
    rw [hi] at h
    exact ⟨inf, rfl, by simpa using h, by simp [List.getElem?_map, hi]⟩

/-- The view of operation i: what the operations ahead of it in the text have added. -/
def viewOf (st : St) (ds : List Dl) (i : Nat) : St := stX st ds (fun j => decide (j < i)) 0

theorem region_order {l : List Oper} (infos : List Info) (hlen : infos.length = l.length) (hkey : ∀ inf, inf ∈ infos → keyOk inf)
    (hok : ∀ i inf o, infos[i]? = some inf → l[i]? = some o → OpOk P B n l Q o inf.key (viewOf st (infos.map (·.d)) i) inf.d) (hchk : chk 0 l (infos.map (·.key)) = true)
    (hk : ∀ a w', After B n (viewOf st (infos.map (·.d)) l.length) a w' → Q .normal a w') :
    ∀ (fuel : Nat) (listed : Array Bool) (a : Act) (w' : World), (listed.toList.filter (! ·)).length ≤ fuel → Inv l listed → After B n (stX st (infos.map (·.d)) (lf listed) 0) a w' → wpAny P .any l.toArray Q fuel listed a w' := by
  have hall : ∀ {listed : Array Bool}, Inv l listed → Region.ready .any l.toArray listed = [] → ∀ j, j < l.length → lf listed j = true := fun {listed} inv hr j => by
    induction j using Nat.strongRecOn with
    | _ j ih =>
      intro hj
      cases hf : lf listed j with
      | true => rfl
      | false =>
        have hoj : l[j]? = some l[j] := List.getElem?_eq_getElem hj
        have hkj : (infos.map (·.key))[j]? = some (infos[j]'(by omega)).key := by simp [List.getElem?_map, List.getElem?_eq_getElem (show j < infos.length by omega)]
        have := ready_mem (lf_true (by rw [inv.size]; exact hj) hf) hoj (fun e h1 h2 => by
          have hlt := (chk_spec hchk j _ _ hoj hkj).1 e h1 h2
          exact ih e.on (by omega) (by omega))
        rw [hr] at this; cases this
  have hdone : ∀ {listed : Array Bool} {a : Act} {w' : World}, Inv l listed → Region.ready .any l.toArray listed = [] → After B n (stX st (infos.map (·.d)) (lf listed) 0) a w' → Q .normal a w' := fun {listed a w'} inv hr h => by
    obtain ⟨ρ, L', s'⟩ := h
    have hfe : ∀ j d, (infos.map (·.d))[j]? = some d → decide (0 + j < l.length) = lf listed (0 + j) := fun j d hj => by
      have hlt := (List.getElem?_eq_some_iff.1 hj).1
      simp only [List.length_map] at hlt
      rw [Nat.zero_add, hall inv hr j (by omega), decide_eq_true (by omega)]
    exact hk a w' ⟨ρ, L', s'.congr (fun t => stX_S rfl (fun j d hj _ => hfe j d hj)) (fun t => stX_O rfl (fun j d hj _ => hfe j d hj))⟩
  intro fuel
  induction fuel with
  | zero =>
    intro listed a w' hf inv h
    have hnone : Region.ready .any l.toArray listed = [] := by
      cases hr : Region.ready .any l.toArray listed with
      | nil => rfl
      | cons i r =>
        obtain ⟨h1, o, ho, _⟩ := mem_ready (i := i) (by rw [hr]; simp)
        have hlt : i < listed.size := by rw [inv.size]; exact (List.getElem?_eq_some_iff.1 ho).1
        have : false ∈ listed.toList.filter (! ·) := by
          simp only [List.mem_filter, Bool.not_false, and_true]
          have e : listed[i] = false := by simpa [Array.getD_eq_getD_getElem?, hlt] using h1
          rw [← e]; exact Array.getElem_mem_toList hlt
        have := List.length_pos_of_mem this
        omega
    exact ⟨hnone, hdone inv hnone h⟩
  | succ fuel ih =>
    intro listed a w' hf inv h
    refine ⟨fun hr => hdone inv hr h, fun i hi => ?_⟩
    obtain ⟨h1, oi, hoi, hre⟩ := mem_ready hi
    have hil : i < l.length := (List.getElem?_eq_some_iff.1 hoi).1
    have hisz : i < listed.size := by rw [inv.size]; exact hil
    have hlfi := lf_false h1
    have hinf : infos[i]? = some (infos[i]'(by omega)) := List.getElem?_eq_getElem (by omega)
    obtain ⟨ρ, L', s'⟩ := h
    generalize hinfo : infos[i]'(by omega) = inf at hinf
    have hki : (infos.map (·.key))[i]? = some inf.key := by simp [List.getElem?_map, hinf]
    obtain ⟨kw, ko, kn⟩ := hkey inf (List.mem_of_getElem? hinf)
    -- an operation that clashes with i stands on one side
    have side : ∀ j d, (infos.map (·.d))[j]? = some d → j ≠ i → ∀ {x : Nat}, (x ∈ d.s.map (·.1) ∧ (x ∈ inf.key.sl ∨ x ∈ inf.key.ws)) ∨ (x ∈ d.o.map (·.1) ∧ x ∈ inf.key.ns) → lf listed j = decide (j < i) := fun j d hj hne {x} hx => by
      obtain ⟨ij, hij, rfl, hkj⟩ := keys_get hj
      obtain ⟨jw, jo, jn⟩ := hkey ij (List.mem_of_getElem? hij)
      have hjl : j < l.length := by have := (List.getElem?_eq_some_iff.1 hij).1; omega
      refine clash_side hchk inv hoi hki hlfi hre (List.getElem?_eq_getElem hjl) hkj hne ⟨fun _ => key_clash (x := x) ?_, fun _ => key_clash (x := x) ?_⟩
      · rcases hx with ⟨h3, h4⟩ | ⟨h3, h4⟩
        · rw [jw] at h3; exact .inl ⟨h3, h4⟩
        · exact .inr (.inr (.inl ⟨jo x h3, h4⟩))
      · rcases hx with ⟨h3, h4 | h4⟩ | ⟨h3, h4⟩
        · rw [jw] at h3; exact .inr (.inl ⟨h4, h3⟩)
        · rw [jw] at h3; exact .inl ⟨h4, .inr h3⟩
        · exact .inr (.inr (.inr ⟨h4, jo x h3⟩))
    have self : ∀ j d, (infos.map (·.d))[j]? = some d → ∀ {x : Nat}, (x ∈ d.s.map (·.1) ∧ (x ∈ inf.key.sl ∨ x ∈ inf.key.ws)) ∨ (x ∈ d.o.map (·.1) ∧ x ∈ inf.key.ns) → lf listed (0 + j) = decide (0 + j < i) := fun j d hj {x} hx => by
      rw [Nat.zero_add]
      by_cases e : j = i
      · subst e; rw [hlfi, decide_eq_false (by omega)]
      · exact side j d hj e hx
    have hagree : Agree inf.key.sl inf.key.ns (viewOf st (infos.map (·.d)) i) (stX st (infos.map (·.d)) (lf listed) 0) :=
      ⟨fun t ht => stX_S rfl (fun j d hj hm => self j d hj (.inl ⟨hm, .inl ht⟩)), fun t ht => stX_O rfl (fun j d hj hm => self j d hj (.inr ⟨hm, ht⟩))⟩
    refine wpOp_of hoi (hok i inf oi hinf hoi _ a ρ w' L' _ hagree s' (fun a2 w2 h2 => ?_))
    obtain ⟨ρ2, L2, s2⟩ := h2
    have hdi : (infos.map (·.d))[i]? = some inf.d := by simp [List.getElem?_map, hinf]
    -- the new list
    refine ih (listed.setIfInBounds i true) a2 w2 ?_ ⟨by simp [inv.size], fun j o hj hlj e he hb => ?_⟩ ⟨ρ2, L2, s2.congr (fun t => ?_) (fun t => ?_)⟩
    · have hcount : ∀ (l : List Bool) (i : Nat), i < l.length → l[i]? = some false → ((l.set i true).filter (! ·)).length + 1 = (l.filter (! ·)).length := by
        intro l
        induction l with
        | nil => intro i hi; simp at hi
        | cons b l ih =>
          intro i hi hb
          cases i with
          | zero => simp at hb; subst hb; simp
          | succ i =>
            have := ih i (by simpa using hi) (by simpa using hb)
            simp only [List.set_cons_succ, List.filter_cons]
            split <;> simp at this ⊢ <;> omega
      have hb : listed.toList[i]? = some false := by
        have e : listed[i] = false := by simpa [Array.getD_eq_getD_getElem?, hisz] using h1
        rw [Array.getElem?_toList, Array.getElem?_eq_getElem hisz, e]
      have := hcount listed.toList i (by simpa using hisz) hb
      rw [Array.toList_setIfInBounds]
      omega
    · rw [lf_set hisz] at hlj ⊢
      split
      · rfl
      · split at hlj
        · rename_i hne heq
          subst heq
          rw [hoi] at hj; cases hj
          exact hre e he hb
        · exact inv.down j o hj hlj e he hb
    · show get (stX _ _ _ _).S t = get (inf.d.s ++ _) t
      by_cases ht : t ∈ inf.d.s.map (·.1)
      · rw [(get_app_some ht).1]
        refine stX_S_at hdi ht (by rw [Nat.zero_add, lf_set hisz, if_pos rfl]) (fun j d' hj hd ht' => ?_)
        rw [Nat.zero_add, lf_set hisz, if_neg (by omega), side j d' hd (by omega) (.inl ⟨ht', .inr (kw ▸ ht)⟩), decide_eq_false (by omega)]
      · rw [get_app ht]
        refine stX_S rfl (fun j d' hd ht' => ?_)
        rw [Nat.zero_add, lf_set hisz, if_neg (fun e => by subst e; rw [hdi] at hd; cases hd; exact ht ht')]
    · show get (stX _ _ _ _).O t = get (inf.d.o ++ _) t
      by_cases ht : t ∈ inf.d.o.map (·.1)
      · rw [(get_app_some ht).1]
        refine stX_O_at hdi ht (by rw [Nat.zero_add, lf_set hisz, if_pos rfl]) (fun j d' hj hd ht' => ?_)
        rw [Nat.zero_add, lf_set hisz, if_neg (by omega), side j d' hd (by omega) (.inr ⟨ht', kn _ (ko _ ht)⟩), decide_eq_false (by omega)]
      · rw [get_app ht]
        refine stX_O rfl (fun j d' hd ht' => ?_)
        rw [Nat.zero_add, lf_set hisz, if_neg (fun e => by subst e; rw [hdi] at hd; cases hd; exact ht ht')]

end Go.V
