/- The engine: cuts, loops, contracts, results, calls. No program in sight. -/
import Derived.Test.YtinickkcieecdaaGreatDoorVg
set_option linter.unusedVariables false
namespace Go.V
open Go.RowKit

/-- Names in other words. -/
def rn : List (Nat × Nat) → Nat → Nat
  | [], k => k
  | (a, b) :: r, k => match Nat.beq a k with | true => b | false => rn r k
mutual
def ren (π : List (Nat × Nat)) : SV → SV
  | .v x => .v x
  | .g c x => .g c (ren π x)
  | .p k o => .p (rn π k) o
  | .at cs o => .at cs o
  | .r k => .r (rn π k)
  | .re k sz i o => .re (rn π k) sz i o
  | .sp k => .sp (rn π k)
  | .fn f cs => .fn f (rens π cs)
  | .tup xs => .tup (rens π xs)
  | .u => .u
def rens (π : List (Nat × Nat)) : List SV → List SV
  | [] => []
  | x :: r => ren π x :: rens π r
end
def renO (π : List (Nat × Nat)) : Ob → Ob
  | .blk ty cs => .blk ty (rens π cs)
  | .row ty sz es => .row ty sz es
  | .it s pos => .it s pos
  | .dead => .dead

mutual
/-- A symbolic value names nothing but what is listed. -/
def wfB (O : List (Nat × Ob)) : SV → Bool
  | .v _ => true
  | .g _ x => wfB O x
  | .p k _ => isSomeB (get O k)
  | .at _ _ => true
  | .r k => isSomeB (get O k)
  | .re k _ _ _ => isSomeB (get O k)
  | .sp k => isSomeB (get O k)
  | .fn _ cs => wfBs O cs
  | .tup xs => wfBs O xs
  | .u => true
def wfBs (O : List (Nat × Ob)) : List SV → Bool
  | [] => true
  | x :: r => match wfB O x with | true => wfBs O r | false => false
def isSomeB : Option Ob → Bool
  | some _ => true
  | none => false
end
theorem isSomeB_eq {o : Option Ob} (h : isSomeB o = true) : o.isSome = true := by cases o <;> simp_all [isSomeB]

mutual
theorem VRep.ren {N : Nat → Prop} {ρ : Nat → Value} {w : World} {X : Nat → Prop} {π : List (Nat × Nat)} {O : List (Nat × Ob)} : ∀ (x : SV) (v : Value), wfB O x = true → VRep N ρ w X (V.ren π x) v → VRep (nmO O) (fun k => ρ (rn π k)) w X x v
  | .v d, v, _, h => by simpa only [VRep, V.ren] using h
  | .g c x, v, hw, h => by
    simp only [wfB] at hw
    simp only [VRep, V.ren] at h ⊢
    exact ⟨fun hc => VRep.ren x v hw (h.1 hc), h.2⟩
  | .p k o, v, hw, h => by
    simp only [wfB] at hw
    simp only [VRep, V.ren] at h ⊢
    exact ⟨isSomeB_eq hw, h.2⟩
  | .at cs o, v, _, h => by simpa only [VRep, V.ren] using h
  | .r k, v, hw, h => by
    simp only [wfB] at hw
    simp only [VRep, V.ren] at h ⊢
    exact ⟨isSomeB_eq hw, h.2⟩
  | .re k sz i o, v, hw, h => by
    simp only [wfB] at hw
    simp only [VRep, V.ren] at h ⊢
    exact ⟨isSomeB_eq hw, h.2⟩
  | .sp k, v, hw, h => by
    simp only [wfB] at hw
    simp only [VRep, V.ren] at h ⊢
    exact ⟨isSomeB_eq hw, h.2⟩
  | .fn f cs, v, hw, h => by
    simp only [wfB] at hw
    simp only [VRep, V.ren] at h ⊢
    obtain ⟨vs, h1, h2⟩ := h
    exact ⟨vs, h1, VReps.ren cs vs hw h2⟩
  | .tup xs, v, hw, h => by
    simp only [wfB] at hw
    simp only [VRep, V.ren] at h ⊢
    obtain ⟨vs, h1, h2⟩ := h
    exact ⟨vs, h1, VReps.ren xs vs hw h2⟩
  | .u, v, _, h => by simp only [VRep]
theorem VReps.ren {N : Nat → Prop} {ρ : Nat → Value} {w : World} {X : Nat → Prop} {π : List (Nat × Nat)} {O : List (Nat × Ob)} : ∀ (xs : List SV) (vs : List Value), wfBs O xs = true → VReps N ρ w X (V.rens π xs) vs → VReps (nmO O) (fun k => ρ (rn π k)) w X xs vs
  | [], vs, _, h => by simpa only [VReps, V.rens] using h
  | x :: xs, vs, hw, h => by
    simp only [wfBs] at hw
    split at hw
    · rename_i hx
      simp only [VReps, V.rens] at h ⊢
      obtain ⟨v, r, h1, h2, h3⟩ := h
      exact ⟨v, r, h1, VRep.ren x v hx h2, VReps.ren xs r hw h3⟩
    · cases hw
end

mutual
/-- The other way: names that are known there. -/
theorem VRep.renI {N N' : Nat → Prop} {ρ ρ' : Nat → Value} {w : World} {X : Nat → Prop} {π : List (Nat × Nat)} (h0 : ∀ k, N k → N' (rn π k) ∧ ρ' (rn π k) = ρ k) : ∀ (x : SV) (v : Value), VRep N ρ w X x v → VRep N' ρ' w X (V.ren π x) v
  | .v d, v, h => by simpa only [VRep, V.ren] using h
  | .g c x, v, h => by
    simp only [VRep, V.ren] at h ⊢
    exact ⟨fun hc => VRep.renI h0 x v (h.1 hc), h.2⟩
  | .p k o, v, h => by
    simp only [VRep, V.ren] at h ⊢
    obtain ⟨h1, h2⟩ := h0 k h.1
    exact ⟨h1, by rw [h2]; exact h.2⟩
  | .at cs o, v, h => by simpa only [VRep, V.ren] using h
  | .r k, v, h => by
    simp only [VRep, V.ren] at h ⊢
    obtain ⟨h1, h2⟩ := h0 k h.1
    exact ⟨h1, by rw [h2]; exact h.2⟩
  | .re k sz i o, v, h => by
    simp only [VRep, V.ren] at h ⊢
    obtain ⟨h1, h2⟩ := h0 k h.1
    exact ⟨h1, by rw [h2]; exact h.2⟩
  | .sp k, v, h => by
    simp only [VRep, V.ren] at h ⊢
    obtain ⟨h1, h2⟩ := h0 k h.1
    exact ⟨h1, by rw [h2]; exact h.2⟩
  | .fn f cs, v, h => by
    simp only [VRep, V.ren] at h ⊢
    obtain ⟨vs, h1, h2⟩ := h
    exact ⟨vs, h1, VReps.renI h0 cs vs h2⟩
  | .tup xs, v, h => by
    simp only [VRep, V.ren] at h ⊢
    obtain ⟨vs, h1, h2⟩ := h
    exact ⟨vs, h1, VReps.renI h0 xs vs h2⟩
  | .u, v, h => by simp only [VRep, V.ren]
theorem VReps.renI {N N' : Nat → Prop} {ρ ρ' : Nat → Value} {w : World} {X : Nat → Prop} {π : List (Nat × Nat)} (h0 : ∀ k, N k → N' (rn π k) ∧ ρ' (rn π k) = ρ k) : ∀ (xs : List SV) (vs : List Value), VReps N ρ w X xs vs → VReps N' ρ' w X (V.rens π xs) vs
  | [], vs, h => by simpa only [VReps, V.rens] using h
  | x :: xs, vs, h => by
    simp only [VReps, V.rens] at h ⊢
    obtain ⟨v, r, h1, h2, h3⟩ := h
    exact ⟨v, r, h1, VRep.renI h0 x v h2, VReps.renI h0 xs r h3⟩
end

def wfO (O : List (Nat × Ob)) : Ob → Bool
  | .blk _ cs => wfBs O cs
  | _ => true

theorem ObOk.ren {N : Nat → Prop} {ρ : Nat → Value} {w : World} {X L : Nat → Prop} {v : Value} {π : List (Nat × Nat)} {O : List (Nat × Ob)} {o : Ob} (hw : wfO O o = true) (h : ObOk N ρ w X L v (renO π o)) : ObOk (nmO O) (fun k => ρ (rn π k)) w X L v o := by
  cases o with
  | blk ty cs =>
    obtain ⟨b, vs, h1, h2, h3, h4⟩ := h
    exact ⟨b, vs, h1, h2, h3, VReps.ren cs vs hw h4⟩
  | row ty sz es => exact h
  | it s pos => exact h
  | dead => exact h
theorem ObOk.renI {N N' : Nat → Prop} {ρ ρ' : Nat → Value} {w : World} {X L : Nat → Prop} {v : Value} {π : List (Nat × Nat)} {o : Ob} (h0 : ∀ k, N k → N' (rn π k) ∧ ρ' (rn π k) = ρ k) (h : ObOk N ρ w X L v o) : ObOk N' ρ' w X L v (renO π o) := by
  cases o with
  | blk ty cs =>
    obtain ⟨b, vs, h1, h2, h3, h4⟩ := h
    exact ⟨b, vs, h1, h2, h3, VReps.renI h0 cs vs h4⟩
  | row ty sz es => exact h
  | it s pos => exact h
  | dead => exact h
theorem renO_live {π : List (Nat × Nat)} {o : Ob} : (renO π o).live = o.live := by cases o <;> rfl

def subS (π : List (Nat × Nat)) (S1 : List (Nat × SV)) : List (Nat × SV) → Prop
  | [] => True
  | (t, y) :: r => get S1 t = some (ren π y) ∧ subS π S1 r
def subO (π : List (Nat × Nat)) (O1 : List (Nat × Ob)) : List (Nat × Ob) → Prop
  | [] => True
  | (k, .dead) :: r => isSomeB (get O1 (rn π k)) = true ∧ subO π O1 r
  | (k, o) :: r => get O1 (rn π k) = some (renO π o) ∧ subO π O1 r
theorem subS_get {π : List (Nat × Nat)} {S1 : List (Nat × SV)} : ∀ {S2 : List (Nat × SV)}, subS π S1 S2 → ∀ t y, get S2 t = some y → get S1 t = some (ren π y)
  | [], h, t, y, hy => by simp [get] at hy
  | (t', y') :: r, h, t, y, hy => by
    simp only [subS] at h
    by_cases e : t' = t
    · subst e; rw [get_cons_self] at hy; cases hy; exact h.1
    · rw [get_cons_ne _ _ e] at hy; exact subS_get h.2 t y hy
theorem subO_get {π : List (Nat × Nat)} {O1 : List (Nat × Ob)} : ∀ {O2 : List (Nat × Ob)}, subO π O1 O2 → ∀ t y, get O2 t = some y → (y = .dead ∧ nmO O1 (rn π t)) ∨ get O1 (rn π t) = some (renO π y)
  | [], h, t, y, hy => by simp [get] at hy
  | (t', y') :: r, h, t, y, hy => by
    have h2 : subO π O1 r := by cases y' <;> exact h.2
    by_cases e : t' = t
    · subst e; rw [get_cons_self] at hy; cases hy
      cases y' with
      | dead => exact .inl ⟨rfl, isSomeB_eq h.1⟩
      | blk ty cs => exact .inr h.1
      | row ty sz es => exact .inr h.1
      | it s pos => exact .inr h.1
    · rw [get_cons_ne _ _ e] at hy; exact subO_get h2 t y hy
theorem subO_live {π : List (Nat × Nat)} {O1 O2 : List (Nat × Ob)} (h : subO π O1 O2) {t : Nat} {y : Ob} (hy : get O2 t = some y) (hl : y.live = true) : get O1 (rn π t) = some (renO π y) := by
  rcases subO_get h t y hy with ⟨rfl, _⟩ | h1
  · cases hl
  · exact h1

def wfAllS (O : List (Nat × Ob)) : List (Nat × SV) → Bool
  | [] => true
  | (_, y) :: r => match wfB O y with | true => wfAllS O r | false => false
def wfAllO (O : List (Nat × Ob)) : List (Nat × Ob) → Bool
  | [] => true
  | (_, y) :: r => match wfO O y with | true => wfAllO O r | false => false
theorem wfAllS_get {O : List (Nat × Ob)} : ∀ {S : List (Nat × SV)}, wfAllS O S = true → ∀ t y, get S t = some y → wfB O y = true
  | [], _, t, y, hy => by simp [get] at hy
  | (t', y') :: r, h, t, y, hy => by
    simp only [wfAllS] at h
    split at h
    · rename_i h1
      by_cases e : t' = t
      · subst e; rw [get_cons_self] at hy; cases hy; exact h1
      · rw [get_cons_ne _ _ e] at hy; exact wfAllS_get h t y hy
    · cases h
theorem wfAllO_get {O : List (Nat × Ob)} : ∀ {S : List (Nat × Ob)}, wfAllO O S = true → ∀ t y, get S t = some y → wfO O y = true
  | [], _, t, y, hy => by simp [get] at hy
  | (t', y') :: r, h, t, y, hy => by
    simp only [wfAllO] at h
    split at h
    · rename_i h1
      by_cases e : t' = t
      · subst e; rw [get_cons_self] at hy; cases hy; exact h1
      · rw [get_cons_ne _ _ e] at hy; exact wfAllO_get h t y hy
    · cases h

/-- No live name of the list but k itself is turned into what k is. -/
def inj1 (π : List (Nat × Nat)) (k : Nat) : List (Nat × Ob) → Bool
  | [] => true
  | (_, .dead) :: r => inj1 π k r
  | (k', _) :: r => match Nat.beq (rn π k) (rn π k'), Nat.beq k k' with | true, false => false | _, _ => inj1 π k r
def injA (π : List (Nat × Nat)) (l : List (Nat × Ob)) : List (Nat × Ob) → Bool
  | [] => true
  | (_, .dead) :: r => injA π l r
  | (k, _) :: r => match inj1 π k l with | true => injA π l r | false => false
def injB (π : List (Nat × Nat)) (l : List (Nat × Ob)) : Bool :=
  match π with
  | [] => true
  | _ => injA π l l
theorem get_mem {α : Type} : ∀ {l : List (Nat × α)} {k : Nat} {y : α}, get l k = some y → (k, y) ∈ l
  | [], k, y, h => by simp [get] at h
  | (k', x) :: r, k, y, h => by
    by_cases e : k' = k
    · subst e; rw [get_cons_self] at h; cases h; simp
    · rw [get_cons_ne _ _ e] at h; simp [get_mem h]
theorem inj1_sound {π : List (Nat × Nat)} {k : Nat} : ∀ {l : List (Nat × Ob)}, inj1 π k l = true → ∀ k' x, (k', x) ∈ l → x.live = true → rn π k = rn π k' → k = k'
  | [], _, k', x, h, _, _ => by simp at h
  | (k2, x2) :: r, h, k', x, hm, hl, he => by
    rcases List.mem_cons.1 hm with e | hm
    · cases e
      cases x2 with
      | dead => cases hl
      | _ =>
        simp only [inj1] at h
        split at h
        · cases h
        · rename_i hne
          cases hb : Nat.beq k k2 with
          | true => exact Nat.eq_of_beq_eq_true hb
          | false => exact (hne (by rw [he]; exact Nat.beq_refl _) hb).elim
    · have hr : inj1 π k r = true := by
        cases x2 with
        | dead => exact h
        | _ =>
          simp only [inj1] at h
          split at h
          · cases h
          · exact h
      exact inj1_sound hr k' x hm hl he
theorem injA_sound {π : List (Nat × Nat)} {l : List (Nat × Ob)} : ∀ {r : List (Nat × Ob)}, injA π l r = true → ∀ k x, (k, x) ∈ r → x.live = true → inj1 π k l = true
  | [], _, k, x, h, _ => by simp at h
  | (k2, x2) :: r, h, k, x, hm, hl => by
    rcases List.mem_cons.1 hm with e | hm
    · cases e
      cases x2 with
      | dead => cases hl
      | _ =>
        simp only [injA] at h
        split at h
        · rename_i h1; exact h1
        · cases h
    · have hr : injA π l r = true := by
        cases x2 with
        | dead => exact h
        | _ =>
          simp only [injA] at h
          split at h
          · exact h
          · cases h
      exact injA_sound hr k x hm hl
theorem injB_sound {π : List (Nat × Nat)} {l : List (Nat × Ob)} (h : injB π l = true) {k k' : Nat} {y y' : Ob} (hk : get l k = some y) (hk' : get l k' = some y') (l1 : y.live = true) (l2 : y'.live = true) (he : rn π k = rn π k') : k = k' := by
  unfold injB at h
  split at h
  · exact he
  · exact inj1_sound (injA_sound h k y (get_mem hk) l1) k' y' (get_mem hk') l2 he

/-- Pinned names are there, and are not turned. -/
def pinAll (π : List (Nat × Nat)) (O : List (Nat × Ob)) : List (Nat × Value) → Bool
  | [] => true
  | (k, _) :: r => match get O k, Nat.beq (rn π k) k with | some _, true => pinAll π O r | _, _ => false
theorem pinAll_get {π : List (Nat × Nat)} {O : List (Nat × Ob)} : ∀ {N : List (Nat × Value)}, pinAll π O N = true → ∀ k v, get N k = some v → nmO O k ∧ rn π k = k
  | [], _, k, v, h => by simp [get] at h
  | (k', v') :: r, h, k, v, hk => by
    simp only [pinAll] at h
    split at h
    · rename_i h1 h2
      by_cases e : k' = k
      · subst e; exact ⟨by simp [nmO, h1], Nat.eq_of_beq_eq_true h2⟩
      · rw [get_cons_ne _ _ e] at hk; exact pinAll_get h k v hk
    · cases h

/-- st2 is known where st1 is, under other names. -/
structure Sub (B : Base) (π : List (Nat × Nat)) (st1 st2 : St) : Prop where
  S : subS π st1.S st2.S
  O : subO π st1.O st2.O
  wS : wfAllS st2.O st2.S = true
  wO : wfAllO st2.O st2.O = true
  inj : injB π st2.O = true
  pin : pinAll π st2.O B.N = true

variable {P : Program} {n : Nat} {B : Base} {st : St} {tb : List (Nat × TI)} {Q : Exit → Act → World → Prop} {ρ : Nat → Value} {a : Act} {w : World} {L : Nat → Prop} {π : List (Nat × Nat)}

theorem Sat.sub {st1 st2 : St} (hs : Sat B n st1 ρ a w L) (h : Sub B π st1 st2) : Sat B n st2 (fun k => ρ (rn π k)) a w L := by
  refine ⟨hs.size, hs.defers, fun t y hy => ?_, fun k o hk => ?_, fun k o k' o' hk hk' hne l1 l2 b hb hb' => ?_, hs.low, hs.step, hs.ext, hs.glob, fun k v hk => ?_, hs.dis⟩
  · obtain ⟨v, h1, h2⟩ := hs.slot t _ (subS_get h.S t y hy)
    exact ⟨v, h1, VRep.ren y v (wfAllS_get h.wS t y hy) h2⟩
  · rcases subO_get h.O k o hk with ⟨rfl, h1⟩ | h1
    · exact hs.cellN _ h1
    · exact ObOk.ren (wfAllO_get h.wO k o hk) (hs.obj (rn π k) _ h1)
  · exact hs.inj _ _ _ _ (subO_live h.O hk l1) (subO_live h.O hk' l2) (fun e => hne (injB_sound h.inj hk hk' l1 l2 e)) (by rw [renO_live]; exact l1) (by rw [renO_live]; exact l2) b hb hb'
  · obtain ⟨h1, h2⟩ := pinAll_get h.pin k v hk
    exact ⟨by simp only [h2]; exact (hs.pin k v hk).1, h1⟩

/-- What holds at a cut. -/
def AtCut (B : Base) (n : Nat) {X : Type} (st' : X → St) (I : X → Prop) (a : Act) (w : World) : Prop := ∃ x ρ L, Sat B n (st' x) ρ a w L ∧ I x

/-- The ways meet again. -/
theorem WC.seqCut {x y : Code} {X : Type} (st' : X → St) (I : X → Prop) (hx : WC P B n st x (Exit.then (AtCut B n st' I) Q)) (hy : ∀ g, I g → WC P B n (st' g) y Q) : WC P B n st (.seq x y) Q := fun a ρ w L hs =>
  wp_seq (Code.wp_mono (fun e a' w' q => by
    cases e <;> first | exact q | skip
    obtain ⟨g, ρ', L', s', i'⟩ := q
    exact hy g i' a' ρ' w' L' s') (hx a ρ w L hs))

theorem WQ.cut {X : Type} {st' : X → St} {I : X → Prop} (π : List (Nat × Nat)) (g : X) (hsub : Sub B π st (st' g)) (hI : I g) : WQ B n st (Exit.then (AtCut B n st' I) Q) .normal :=
  fun a ρ w L hs => ⟨g, _, L, hs.sub hsub, hI⟩

/-! ### Loops -/

/-- Round after round. -/
def iter {σ τ : Type} (f : σ → Option (σ ⊕ τ)) : Nat → σ → Option τ
  | 0, _ => none
  | k + 1, s => match f s with | some (.inl s') => iter f k s' | some (.inr r) => some r | none => none

/-- A loop: what it ends with, if it ends. -/
noncomputable def loopO {σ τ : Type} (f : σ → Option (σ ⊕ τ)) (s : σ) : Option τ :=
  open Classical in if h : ∃ k r, iter f k s = some r then some (Classical.choose (Classical.choose_spec h)) else none

theorem iter_det {σ τ : Type} {f : σ → Option (σ ⊕ τ)} : ∀ {k k' : Nat} {s : σ} {r r' : τ}, iter f k s = some r → iter f k' s = some r' → r = r'
  | 0, _, s, r, r', h, _ => by simp [iter] at h
  | k + 1, 0, s, r, r', _, h => by simp [iter] at h
  | k + 1, k' + 1, s, r, r', h, h' => by
    simp only [iter] at h h'
    split at h
    · rename_i s' e; rw [e] at h'; exact iter_det h h'
    · rename_i r2 e; rw [e] at h'; cases h; cases h'; rfl
    · cases h
theorem loopO_iff {σ τ : Type} {f : σ → Option (σ ⊕ τ)} {s : σ} {r : τ} : loopO f s = some r ↔ ∃ k, iter f k s = some r := by
  unfold loopO
  constructor
  · intro h
    split at h
    · rename_i hx
      cases h
      exact ⟨_, Classical.choose_spec (Classical.choose_spec hx)⟩
    · cases h
  · rintro ⟨k, hk⟩
    rw [dif_pos ⟨k, r, hk⟩]
    have hx : ∃ k r, iter f k s = some r := ⟨k, r, hk⟩
    have := Classical.choose_spec (Classical.choose_spec hx)
    rw [iter_det this hk]
/-- One round. -/
theorem loopO_eq {σ τ : Type} (f : σ → Option (σ ⊕ τ)) (s : σ) : loopO f s = match f s with | some (.inl s') => loopO f s' | some (.inr r) => some r | none => none := by
  apply Option.ext
  intro r
  rw [loopO_iff]
  constructor
  · rintro ⟨k, hk⟩
    cases k with
    | zero => simp [iter] at hk
    | succ k =>
      simp only [iter] at hk
      split at hk
      · rename_i s' e; exact loopO_iff.2 ⟨k, hk⟩
      · exact hk
      · cases hk
  · intro h
    split at h
    · rename_i s' e
      obtain ⟨k, hk⟩ := loopO_iff.1 h
      exact ⟨k + 1, by simp only [iter, e]; exact hk⟩
    · rename_i r' e; exact ⟨1, by simp only [iter, e]; exact h⟩
    · cases h

/-- Behind a round: the loop goes on from there. -/
def AtNext (B : Base) (n : Nat) {σ : Type} (st' : σ → St) (I : σ → Nat → Prop) (m : Nat) (a : Act) (w : World) : Prop := ∃ s ρ L m', Sat B n (st' s) ρ a w L ∧ I s m' ∧ m' < m

theorem WC.loop {body : Code} {σ τ : Type} (st' : σ → St) (f : σ → Option (σ ⊕ τ)) (π : List (Nat × Nat)) (s0 : σ) {r : τ} (h0 : loopO f s0 = some r) (hsub : Sub B π st (st' s0))
    (round : ∀ s m, (∀ s', f s = some (.inl s') → iter f m s' = some r) → (∀ r', f s = some (.inr r') → r' = r) → f s ≠ none →
      WC P B n (st' s) body (Exit.then (AtNext B n st' (fun s' m' => iter f m' s' = some r) (m + 1)) Q)) : WC P B n st (.loop body) Q := by
  intro a ρ w L hs
  obtain ⟨k0, hk0⟩ := loopO_iff.1 h0
  refine wp_loop_ghost (fun m a' w' => ∃ s ρ' L', Sat B n (st' s) ρ' a' w' L' ∧ iter f m s = some r) k0 ⟨s0, _, L, hs.sub hsub, hk0⟩ ?_
  intro m a' w' ⟨s, ρ', L', s', i'⟩
  cases m with
  | zero => simp [iter] at i'
  | succ m =>
    refine Code.wp_mono (fun e a2 w2 q => ?_) (round s m (fun s' e => by simp only [iter, e] at i'; exact i') (fun r' e => by simp only [iter, e] at i'; cases i'; rfl) (fun e => by simp [iter, e] at i') a' ρ' w' L' s')
    cases e <;> first | exact q | skip
    obtain ⟨x2, ρ2, L2, m', s2, i2, hlt⟩ := q
    exact ⟨m', hlt, x2, ρ2, L2, s2, i2⟩

theorem WQ.next {σ τ : Type} {st' : σ → St} {f : σ → Option (σ ⊕ τ)} {r : τ} {m : Nat} (π : List (Nat × Nat)) (s : σ) (hsub : Sub B π st (st' s)) (hI : iter f m s = some r) :
    WQ B n st (Exit.then (AtNext B n st' (fun s' m' => iter f m' s' = some r) (m + 1)) Q) .normal := fun a ρ w L hs => ⟨s, _, L, m, hs.sub hsub, hI, Nat.lt_succ_self _⟩

/-! ### Contracts -/

/-- Things that are somebody's own. -/
structure ObsOk (O : List (Nat × Ob)) (ρ : Nat → Value) (w : World) (X L : Nat → Prop) : Prop where
  obj : ∀ k o, get O k = some o → ObOk (nmO O) ρ w X L (ρ k) o
  inj : ∀ k o k' o', get O k = some o → get O k' = some o' → k ≠ k' → o.live = true → o'.live = true → ∀ b, ob (ρ k) = some b → ob (ρ k') ≠ some b

/-- The names of a list, pinned. -/
def pinsOf (ρ : Nat → Value) : List (Nat × Ob) → List (Nat × Value)
  | [] => []
  | (k, _) :: r => (k, ρ k) :: pinsOf ρ r
theorem pinsOf_get {ρ : Nat → Value} : ∀ {O : List (Nat × Ob)} {k : Nat} {v : Value}, get (pinsOf ρ O) k = some v → ρ k = v ∧ nmO O k
  | [], k, v, h => by simp [pinsOf, get] at h
  | (k', o) :: r, k, v, h => by
    simp only [pinsOf] at h
    by_cases e : k' = k
    · subst e; rw [get_cons_self] at h; cases h; exact ⟨rfl, nmO_self⟩
    · rw [get_cons_ne _ _ e] at h; obtain ⟨h1, h2⟩ := pinsOf_get h; exact ⟨h1, nmO_cons h2⟩
theorem pinsOf_mem {ρ : Nat → Value} : ∀ {O : List (Nat × Ob)} {k : Nat}, nmO O k → get (pinsOf ρ O) k = some (ρ k)
  | [], k, h => by simp [nmO, get] at h
  | (k', o) :: r, k, h => by
    simp only [pinsOf]
    by_cases e : k' = k
    · subst e; rw [get_cons_self]
    · rw [get_cons_ne _ _ e]; exact pinsOf_mem (by simpa [nmO, get_cons_ne _ _ e] using h)
/-- Pinned names are not turned. -/
def pinFix (π : List (Nat × Nat)) : List (Nat × Value) → Bool
  | [] => true
  | (k, _) :: r => match Nat.beq (rn π k) k with | true => pinFix π r | false => false
theorem pinFix_get {π : List (Nat × Nat)} : ∀ {N : List (Nat × Value)}, pinFix π N = true → ∀ k v, get N k = some v → rn π k = k
  | [], _, k, v, h => by simp [get] at h
  | (k', v') :: r, h, k, v, hk => by
    simp only [pinFix] at h
    split at h
    · rename_i h2
      by_cases e : k' = k
      · subst e; exact Nat.eq_of_beq_eq_true h2
      · rw [get_cons_ne _ _ e] at hk; exact pinFix_get h k v hk
    · cases h

/-- f, called with these arguments, where O is the caller's own that they reach, returns r and leaves O'. -/
def Con (P : Program) (wg : World) (G : List (Nat × List D)) (f : FuncId) (args : List SV) (O : List (Nat × Ob)) (r : SV) (O' : List (Nat × Ob)) : Prop :=
  ∀ w ρ F L vals, (∀ b, un F L b → b < w.heap.size) → (∀ b, F b → ¬ L b) → Ext wg w (un F L) → GlobOk G w (un F L) → ObsOk O ρ w (un F L) L → VReps (nmO O) ρ w (un F L) args vals →
    Calls P f vals.toArray w fun e w' => ∃ v ρ' L', e = .returned v ∧ VRep (nmO O') ρ' w' (un F L') r v ∧ ObsOk O' ρ' w' (un F L') L' ∧ Step L w L' w' ∧ (∀ b, L' b → b < w'.heap.size) ∧ ∀ k v, get (pinsOf ρ O) k = some v → nmO O' k → ρ' k = v

/-- Into a function. -/
theorem con_of_WC {wg : World} {G : List (Nat × List D)} {f : FuncId} {fn : Func} {c : Code} {args : List SV} {O : List (Nat × Ob)} {r : SV} {O' : List (Nat × Ob)} {S : List (Nat × SV)} (hf : P.funcs[f]? = some fn) (hb : fn.body = some c) (hn : fn.ntmps = n) (hl : Nat.ble args.length n = true)
    (hS : ∀ t x, get S t = some x → nth args t = some x)
    (h : ∀ (F L : Nat → Prop) (w : World) (ρ0 : Nat → Value) (R : Ending → World → Prop),
      (∀ v ρ' w' L', VRep (nmO O') ρ' w' (un F L') r v → ObsOk O' ρ' w' (un F L') L' → Step L w L' w' → (∀ b, L' b → b < w'.heap.size) → (∀ k v, get (pinsOf ρ0 O) k = some v → nmO O' k → ρ' k = v) → R (.returned v) w') →
      WC P ⟨F, L, w, wg, G, pinsOf ρ0 O⟩ n ⟨S, O⟩ c (bodyPost P fn R)) : Con P wg G f args O r O' := by
  intro w ρ F L vals hlow hdis hext hglob hobs hargs
  have hl := Nat.le_of_ble_eq_true hl
  have hlen := hargs.length
  refine calls_of_wp hf hb (h F L w ρ _ (fun v ρ' w' L' h1 h2 h3 h4 h5 => ⟨v, ρ', L', rfl, h1, h2, h3, h4, h5⟩) _ ρ w L ?_)
  refine ⟨by simp [hn]; omega, rfl, fun t x hx => ?_, hobs.obj, hobs.inj, hlow, Step.refl _ _, hext, hglob, fun k v hk => pinsOf_get hk, hdis⟩
  have h3 := hS t x hx
  rw [nth_eq] at h3
  obtain ⟨v, h4, h5⟩ := hargs.get h3
  refine ⟨v, ?_, h5⟩
  have hlt := (List.getElem?_eq_some_iff.1 h4).1
  rw [Array.getElem?_append_left (by simpa using hlt)]
  simpa using h4

/-- The arguments in their slots. -/
def slotsOf : Nat → List SV → List (Nat × SV)
  | _, [] => []
  | i, x :: r => (i, x) :: slotsOf (i + 1) r
theorem slotsOf_get : ∀ {i : Nat} {args : List SV} {t : Nat} {x : SV}, get (slotsOf i args) t = some x → i ≤ t ∧ nth args (t - i) = some x
  | i, [], t, x, h => by simp [slotsOf, get] at h
  | i, y :: r, t, x, h => by
    simp only [slotsOf] at h
    by_cases e : i = t
    · subst e; rw [get_cons_self] at h; cases h; simp [nth]
    · rw [get_cons_ne _ _ e] at h
      obtain ⟨h1, h2⟩ := slotsOf_get h
      refine ⟨by omega, ?_⟩
      rw [show t - i = (t - (i + 1)) + 1 by omega]
      exact h2

/-! ### Results -/

/-- One result. -/
def res1 (tb : List (Nat × TI)) (st : St) : ResultVar → Option SV
  | .tmp t =>
    match get st.S t with
    | some (.g _ _) => none
    | some y => some y
    | none => none
  | .cell t T =>
    match get st.S t, get tb T with
    | some (.p k off), some ⟨size, _, agg, _, _, _, _⟩ =>
      match get st.O k with
      | some (.blk _ cs) => cellsS cs off size agg
      | _ => none
    | _, _ => none
def resL (tb : List (Nat × TI)) (st : St) : List ResultVar → Option (List SV)
  | [] => some []
  | r :: l =>
    match res1 tb st r, resL tb st l with
    | some v, some vs => some (v :: vs)
    | _, _ => none
def resV : List SV → SV
  | [v] => v
  | vs => .tup vs

def resF (a : Act) : ResultVar → Sem Value
  | .tmp t => pure (a.tmps.getD t undef)
  | .cell ad t => do loadVar t (← asAddr (a.tmps.getD ad undef))
theorem results_eq (fn : Func) (a : Act) : results fn a.tmps = (do let vs ← fn.results.mapM (resF a); pure (if h : vs.size = 1 then vs[0] else .tuple vs)) :=
  congrArg (fun F : ResultVar → Sem Value => (do let vs ← fn.results.mapM F; pure (if h : vs.size = 1 then vs[0] else .tuple vs))) (funext fun x => by cases x <;> rfl)

theorem run_res1 (hP : TblOk P tb) (hs : Sat B n st ρ a w L) {r : ResultVar} {x : SV} (h : res1 tb st r = some x) : ∃ v, (resF a r).run P w = .ok v w ∧ VRep (nmO st.O) ρ w (un B.F L) x v := by
  cases r with
  | tmp t =>
    simp only [res1] at h
    split at h
    · cases h
    · rename_i y hne hy
      cases h
      obtain ⟨v, h1, h2⟩ := hs.slot t _ hy
      exact ⟨v, by simp [resF, Array.getD_eq_getD_getElem?, h1], h2⟩
    · cases h
  | cell t T =>
    simp only [res1] at h
    split at h
    · rename_i k off size _ agg _ _ _ _ hy hT
      split at h
      · rename_i ty cs hk
        obtain ⟨v, h1, h2⟩ := hs.slot t _ hy
        simp only [VRep] at h2
        obtain ⟨_, b, e2, rfl⟩ := h2
        obtain ⟨b', us, e4, hb, _, hr⟩ := hs.obj k _ hk
        rw [e4] at e2; cases e2
        obtain ⟨v, hl, hrep⟩ := run_loadS (P := P) (hP.get hT) hr (b := b) (fun j z hz => by simp only [World.cell?, hb, Nat.zero_add]; simpa using hz) h
        exact ⟨v, by simp only [resF, Array.getD_eq_getD_getElem?, h1, Option.getD_some, asAddr, Sem.run_bind, Sem.run_pure, Result.andThen_ok, hl], hrep⟩
      · cases h
    · cases h

theorem run_resL (hP : TblOk P tb) (hs : Sat B n st ρ a w L) : ∀ {l : List ResultVar} {xs : List SV}, resL tb st l = some xs → ∃ vs, (l.mapM (resF a)).run P w = .ok vs w ∧ VReps (nmO st.O) ρ w (un B.F L) xs vs
  | [], xs, h => by simp only [resL] at h; cases h; exact ⟨[], by simp, by simp [VReps]⟩
  | r :: l, xs, h => by
    simp only [resL] at h
    split at h
    · rename_i x xs' h1 h2
      cases h
      obtain ⟨v, h3, h4⟩ := run_res1 hP hs h1
      obtain ⟨vs, h5, h6⟩ := run_resL hP hs h2
      exact ⟨v :: vs, by simp only [List.mapM_cons, Sem.run_bind, h3, Result.andThen_ok, h5, Sem.run_pure], by simp only [VReps]; exact ⟨v, vs, rfl, h4, h6⟩⟩
    · cases h

/-- Whatever is x is y. -/
def Le (x y : SV) : Prop := ∀ N ρ w X v, VRep N ρ w X x v → VRep N ρ w X y v
theorem Le.refl (x : SV) : Le x x := fun _ _ _ _ _ h => h

/-- A function's end. -/
theorem WQ.rets (hP : TblOk P tb) {fn : Func} {R : Ending → World → Prop} {r : SV} {O' : List (Nat × Ob)}
    (hR : ∀ v ρ' w' L', VRep (nmO O') ρ' w' (un B.F L') r v → ObsOk O' ρ' w' (un B.F L') L' → Step B.L0 B.w0 L' w' → (∀ b, L' b → b < w'.heap.size) → (∀ k v, get B.N k = some v → nmO O' k → ρ' k = v) → R (.returned v) w')
    (π : List (Nat × Nat)) {l : List ResultVar} {xs : List SV} {e : Exit} (he : e = .ret ∨ e = .normal) (hr : fn.results = l.toArray) (h : resL tb st l = some xs) (hx : Le (resV xs) (ren π r)) (hO : subO π st.O O') (hw : wfB O' r = true) (hwO : wfAllO O' O' = true) (hi : injB π O' = true)
    (hpn : pinFix π B.N = true) : WQ B n st (bodyPost P fn R) e := by
  intro a ρ w L hs
  obtain ⟨vs, h1, h2⟩ := run_resL hP hs h
  have key : ∃ v, (results fn a.tmps).run P w = .ok v w ∧ VRep (nmO st.O) ρ w (un B.F L) (resV xs) v := by
    rw [results_eq, hr]
    simp only [Sem.run_bind, List.mapM_toArray, Sem.run_map, h1, Result.andThen_ok, Sem.run_pure]
    refine ⟨_, rfl, ?_⟩
    match xs, vs, h2 with
    | [], vs, h2 => simp only [VReps] at h2; subst h2; simp only [resV, VRep]; exact ⟨[], rfl, by simp [VReps]⟩
    | [x], vs, h2 =>
      simp only [VReps] at h2
      obtain ⟨v, r, rfl, h3, rfl⟩ := h2
      simpa [resV] using h3
    | x :: y :: zs, vs, h2 =>
      have hl := h2.length
      simp only [resV, VRep]
      refine ⟨vs, ?_, h2⟩
      rw [dif_neg (by simp at hl ⊢; omega)]
  obtain ⟨v, h3, h4⟩ := key
  have h4 := hx _ _ _ _ _ h4
  have hfin : R (.returned v) w := hR v (fun k => ρ (rn π k)) w L (VRep.ren r v hw h4)
    ⟨fun k o hk => by
      rcases subO_get hO k o hk with ⟨rfl, h1⟩ | h1
      · exact hs.cellN _ h1
      · exact ObOk.ren (wfAllO_get hwO k o hk) (hs.obj (rn π k) _ h1), fun k o k' o' hk hk' hne l1 l2 b hb hb' => hs.inj _ _ _ _ (subO_live hO hk l1) (subO_live hO hk' l2) (fun e => hne (injB_sound hi hk hk' l1 l2 e)) (by rw [renO_live]; exact l1) (by rw [renO_live]; exact l2) b hb hb'⟩
    hs.step (fun b hb => hs.low b (.inr hb)) (fun k v hk hn => by simp only [pinFix_get hpn k v hk]; exact (hs.pin k v hk).1)
  rcases he with rfl | rfl
  · exact ⟨hs.defers, _, h3, hfin⟩
  · exact ⟨hs.defers, _, h3, hfin⟩

end Go.V
