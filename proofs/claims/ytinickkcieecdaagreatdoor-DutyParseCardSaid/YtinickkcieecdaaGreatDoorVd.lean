/- The engine: what operations make of what is known. No program in sight. -/
import Derived.Test.YtinickkcieecdaaGreatDoorVc
set_option linter.unusedVariables false
namespace Go.V
open Go.RowKit

def inB (n d : Nat) : Bool := Nat.blt d n

/-- The condition under which a guarded operation is carried out. -/
def gcond (ops : List Oper) (S : List (Nat × SV)) (j : Nat) (want : Bool) : Option Bool :=
  match nth ops j with
  | some ⟨some d, _, _, _, _, _⟩ =>
    match get S d, want with
    | some (.v (.bool b)), true => some b
    | some (.v (.bool b)), false => some (!b)
    | some (.g c (.v (.bool b))), true => some (c && b)
    | some (.g c (.v (.bool b))), false => some (c && !b)
    | _, _ => none
  | _ => none

def gvc (c : Bool) : List Prop → List Prop
  | [] => []
  | p :: l => [c = true → vcs (p :: l)]

def optC {α : Type} : Option α → List α → List α
  | some x, l => x :: l
  | none, l => l

/-- What one operation adds, and which names it writes. -/
inductive R2 where
  | no
  | yes (s : Option (Nat × SV)) (o : Option (Nat × Ob)) (wn : List Nat) (l : List Prop)

/-- The rows of a slice that is written out in full. -/
def rowsOf (sz : Nat) (G : List (Nat × List D)) (S : List (Nat × SV)) : Nat → List (Nat × Operand) → Option (List (List D) × List Prop)
  | _, [] => some ([], [])
  | i, (j, x) :: r =>
    match Nat.beq i j, o1 G S x with
    | true, some (.v d, l) =>
      match cellsOfD d with
      | some cs =>
        match Nat.beq cs.length sz, rowsOf sz G S (i + 1) r with
        | true, some (rs, m) => forceL cs fun cs => some (cs :: rs, l ++ m)
        | _, _ => none
      | none => none
    | _, _ => none

/-- One quiet operation. -/
def d1 (tb : List (Nat × TI)) (G : List (Nat × List D)) (n : Nat) (ops : List Oper) (o : Oper) (S : List (Nat × SV)) (O : List (Nat × Ob)) : R2 :=
  match o with
  | ⟨some d, op, _, _, _, guard⟩ =>
    match inB n d, ev tb G S O op, guard with
    | true, some (x, l), none => .yes (some (d, x)) none [] l
    | true, some (x, l), some (j, want) =>
      match gcond ops S j want with
      | some c => .yes (some (d, .g c x)) none [] (gvc c l)
      | none => .no
    | _, _, _ => .no
  | _ => .no

/-- One operation that makes or writes a block of the call's own. -/
def dW (tb : List (Nat × TI)) (G : List (Nat × List D)) (n : Nat) (o : Oper) (S : List (Nat × SV)) (O : List (Nat × Ob)) : R2 :=
  match o with
  | ⟨some d, .alloc T, _, _, _, none⟩ =>
    match inB n d, get tb T, get O d with
    | true, some ⟨_, zero, _, _, _, _, _⟩, none =>
      match cellsOfS (.v (ofV zero)) with
      | some cs => forceL cs fun cs => .yes (some (d, .p d 0)) (some (d, .blk T cs)) [d] []
      | none => .no
    | _, _, _ => .no
  | ⟨some d, .box T x, _, _, _, none⟩ =>
    match inB n d, o1 G S x, get O d with
    | true, some (y, l), none =>
      match cellsOfS y with
      | some cs => forceL cs fun cs => .yes (some (d, .p d 0)) (some (d, .blk T cs)) [d] l
      | none => .no
    | _, _, _ => .no
  | ⟨none, .store T ad x, _, _, _, none⟩ =>
    match get tb T, o1 G S ad, o1 G S x with
    | some ⟨size, _, _, _, _, _, _⟩, some (.p k off, l), some (y, m) =>
      match cellsOfS y, get O k with
      | some vc, some (.blk ty cs) =>
        match Nat.beq vc.length size, Nat.ble (off + vc.length) cs.length, cellSs vc with
        | true, true, true => forceL (splice cs off vc) fun cs' => .yes none (some (k, .blk ty cs')) [k] (l ++ m)
        | _, _, _ => .no
      | _, _ => .no
    | _, _, _ => .no
  | ⟨some d, .buildSlice T len ⟨parts⟩, _, _, _, none⟩ =>
    match inB n d, get tb T with
    | true, some ⟨_, _, _, _, _, some sz, so⟩ =>
      match get tb (so - 4), rowsOf sz G S 0 parts, Nat.beq len parts.length, Nat.ble (len * sz) 16777216 with
      | some _, some (rows, l), true, true => forceL rows fun rows' => .yes (some (d, .v (.sl sz rows'))) none [] l
      | _, _, _, _ => .no
    | _, _ => .no
  | _ => .no

variable {P : Program} {n : Nat} {B : Base} {st : St} {ρ : Nat → Value} {a : Act} {w : World} {L : Nat → Prop} {tb : List (Nat × TI)} {S : List (Nat × SV)} {O : List (Nat × Ob)}

theorem ObOk.keep {N N' : Nat → Prop} {ρ ρ' : Nat → Value} {w w' : World} {X X' L L' : Nat → Prop} {v : Value} {o : Ob} (h : ObOk N ρ w X L v o) (hN : ∀ k, N k → N' k ∧ ρ' k = ρ k) (k : Keep w X w' X')
    (hb : o.live = true → ∀ b, ob v = some b → w'.heap[b]? = w.heap[b]? ∧ (L b → L' b)) : ObOk N' ρ' w' X' L' v o := by
  cases o with
  | blk ty cs =>
    obtain ⟨b, vs, h1, h2, h3, h4⟩ := h
    obtain ⟨h5, h6⟩ := hb rfl b (by rw [h1]; rfl)
    exact ⟨b, vs, h1, by rw [h5]; exact h2, h6 h3, VReps.keep hN k cs vs h4⟩
  | row ty sz es =>
    obtain ⟨rows, h1, h2, h3, h4⟩ := h
    refine ⟨rows, RepRows.keep k es rows h1, h2, ⟨h3.1, ?_⟩, fun b hb' => (hb rfl b hb').2 (h4 b hb')⟩
    rcases h3.2 with h5 | ⟨g, cap, cur, fz, e, h6, h7⟩
    · exact .inl h5
    · exact .inr ⟨g, cap, cur, fz, e, by rw [(hb rfl g (by rw [e]; rfl)).1]; exact h6, h7⟩
  | it s pos =>
    obtain ⟨b, h1, h2, h3⟩ := h
    obtain ⟨h5, h6⟩ := hb rfl b (by rw [h1]; rfl)
    exact ⟨b, h1, by rw [h5]; exact h2, h6 h3⟩
  | dead => exact h

/-- What a live thing owns is in L. -/
theorem Sat.own (hs : Sat B n st ρ a w L) {k : Nat} {o : Ob} (hk : get st.O k = some o) (hl : o.live = true) {b : Nat} (hb : ob (ρ k) = some b) : L b := by
  have h := hs.obj k o hk
  cases o with
  | blk ty cs => obtain ⟨b', vs, h1, h2, h3, h4⟩ := h; rw [h1] at hb; cases hb; exact h3
  | row ty sz es => obtain ⟨rows, h1, h2, h3, h4⟩ := h; exact h4 b hb
  | it s pos => obtain ⟨b', h1, h2, h3⟩ := h; rw [h1] at hb; cases hb; exact h3
  | dead => cases hl

theorem Sat.go (hs : Sat B n st ρ a w L) {st' : St} {ρ' : Nat → Value} {a' : Act} {w' : World} {L' : Nat → Prop} (hstep : Step L w L' w') (hlow : ∀ b, L' b → b < w'.heap.size) (hN : ∀ k, nmO st.O k → nmO st'.O k ∧ ρ' k = ρ k) (hsz : a'.tmps.size = n) (hdf : a'.defers = [])
    (slot : ∀ t x, get st'.S t = some x → ∃ v, a'.tmps[t]? = some v ∧ VRep (nmO st'.O) ρ' w' (un B.F L') x v)
    (obj : ∀ k o, get st'.O k = some o → ObOk (nmO st'.O) ρ' w' (un B.F L') L' (ρ' k) o)
    (inj : ∀ k o k' o', get st'.O k = some o → get st'.O k' = some o' → k ≠ k' → o.live = true → o'.live = true → ∀ b, ob (ρ' k) = some b → ob (ρ' k') ≠ some b) : Sat B n st' ρ' a' w' L' :=
  ⟨hsz, hdf, slot, obj, inj, fun b hb => by
    rcases hb with hb | hb
    · exact Nat.lt_of_lt_of_le (hs.low b (.inl hb)) hstep.size
    · exact hlow b hb, hs.step.trans hstep, hs.ext.keep (keep_of_step hstep), hs.glob.keep (keep_of_step hstep), fun k v hk => by
      obtain ⟨h1, h2⟩ := hs.pin k v hk
      exact ⟨by rw [(hN k h2).2]; exact h1, (hN k h2).1⟩, fun b hF hL => by
      rcases hstep.new b hL with h1 | h1
      · exact hs.dis b hF h1
      · have := hs.low b (.inl hF); omega⟩

/-- A slot is written. -/
theorem sat_put (hs : Sat B n st ρ a w L) {d : Nat} {x : SV} {v : Value} (hd : inB n d = true) (hx : VRep (nmO st.O) ρ w (un B.F L) x v) : Sat B n ⟨(d, x) :: st.S, st.O⟩ ρ (a.put (some d) v) w L := by
  have hd' : d < n := by simpa [inB] using hd
  refine hs.go (Step.refl _ _) (fun b hb => hs.low b (.inr hb)) (fun _ h => ⟨h, rfl⟩) (by simp [Act.put, hs.size]) hs.defers (fun t y hy => ?_) hs.obj hs.inj
  simp only [Act.put]
  by_cases hdt : d = t
  · subst hdt
    rw [get_cons_self] at hy
    cases hy
    exact ⟨v, by simp [hs.size, hd'], hx⟩
  · rw [get_cons_ne _ _ hdt] at hy
    obtain ⟨v', h1, h2⟩ := hs.slot t y hy
    exact ⟨v', by rw [Array.getElem?_setIfInBounds_ne hdt]; exact h1, h2⟩

theorem step_of_below {L : Nat → Prop} {w w' : World} (h : Below w.heap.size w w') : Step L w L w' :=
  ⟨h.os, h.tape, h.output, h.size, fun b hb _ => h.block b hb, fun _ h => .inl h⟩

theorem Sat.below (hs : Sat B n st ρ a w L) {w' : World} (h : Below w.heap.size w w') : Sat B n st ρ a w' L := by
  have hstep : Step L w L w' := step_of_below h
  have hk : Keep w (un B.F L) w' (un B.F L) := keep_of_step hstep
  refine hs.go hstep (fun b hb => Nat.lt_of_lt_of_le (hs.low b (.inr hb)) h.size) (fun _ h => ⟨h, rfl⟩) hs.size hs.defers (fun t x hx => ?_) (fun k o hk' => ?_) hs.inj
  · obtain ⟨v, h1, h2⟩ := hs.slot t x hx
    exact ⟨v, h1, VRep.keep (fun _ h => ⟨h, rfl⟩) hk x v h2⟩
  · exact (hs.obj k o hk').keep (fun _ h => ⟨h, rfl⟩) hk (fun hl b hb => ⟨h.block b (hs.low b (.inr (hs.own hk' hl hb))), id⟩)

def upd (ρ : Nat → Value) (d : Nat) (v : Value) (k : Nat) : Value := if k = d then v else ρ k

theorem nmO_cons {O : List (Nat × Ob)} {d k : Nat} {o : Ob} (h : nmO O k) : nmO ((d, o) :: O) k := by
  unfold nmO at *
  by_cases e : d = k
  · subst e; rw [get_cons_self]; rfl
  · rw [get_cons_ne _ _ e]; exact h
theorem nmO_self {O : List (Nat × Ob)} {d : Nat} {o : Ob} : nmO ((d, o) :: O) d := by unfold nmO; rw [get_cons_self]; rfl
theorem nmO_ne {O : List (Nat × Ob)} {d k : Nat} (h : nmO O k) (hd : get O d = none) : k ≠ d := fun e => by subst e; simp [nmO, hd] at h
theorem upd_ne {ρ : Nat → Value} {d k : Nat} {v : Value} (h : k ≠ d) : upd ρ d v k = ρ k := if_neg h
theorem upd_self {ρ : Nat → Value} {d : Nat} {v : Value} : upd ρ d v d = v := if_pos rfl

/-- A new thing of the call's own, under a new name: it lies in new memory, or nowhere. -/
theorem sat_new (hs : Sat B n st ρ a w L) {d : Nat} {v : Value} {o : Ob} {w' : World} (hd : inB n d = true) (hfr : get st.O d = none) (hb : Below w.heap.size w w') (hnew : ∀ b, ob v = some b → w.heap.size ≤ b ∧ b < w'.heap.size)
    {x : SV} (hx : VRep (nmO ((d, o) :: st.O)) (upd ρ d v) w' (un B.F (fun b => L b ∨ ob v = some b)) x v)
    (ho : ∀ X, (∀ b, X b → un B.F L b ∨ w.heap.size ≤ b) → Keep w (un B.F L) w' X → ObOk (nmO ((d, o) :: st.O)) (upd ρ d v) w' X (fun b => L b ∨ ob v = some b) v o) :
    Sat B n ⟨(d, x) :: st.S, (d, o) :: st.O⟩ (upd ρ d v) (a.put (some d) v) w' (fun b => L b ∨ ob v = some b) := by
  have hd' : d < n := by simpa [inB] using hd
  have hstep : Step L w (fun b => L b ∨ ob v = some b) w' := ⟨hb.os, hb.tape, hb.output, hb.size, fun b h1 _ => hb.block b h1, fun b h => h.imp id (fun h => (hnew b h).1)⟩
  have hk : Keep w (un B.F L) w' (un B.F (fun b => L b ∨ ob v = some b)) := keep_of_step hstep
  have hN : ∀ k, nmO st.O k → nmO ((d, o) :: st.O) k ∧ upd ρ d v k = ρ k := fun k h => ⟨nmO_cons h, upd_ne (nmO_ne h hfr)⟩
  refine hs.go hstep (fun b hb' => ?_) hN (by simp [Act.put, hs.size]) hs.defers (fun t y hy => ?_) (fun k o' hk' => ?_) (fun k o1 k' o2 h1 h2 hne l1 l2 b hb1 hb2 => ?_)
  · rcases hb' with h1 | h1
    · exact Nat.lt_of_lt_of_le (hs.low b (.inr h1)) hb.size
    · exact (hnew b h1).2
  · simp only [Act.put]
    by_cases hdt : d = t
    · subst hdt
      rw [get_cons_self] at hy
      cases hy
      exact ⟨v, by simp [hs.size, hd'], hx⟩
    · rw [get_cons_ne _ _ hdt] at hy
      obtain ⟨v', h1, h2⟩ := hs.slot t y hy
      exact ⟨v', by rw [Array.getElem?_setIfInBounds_ne hdt]; exact h1, VRep.keep hN hk y v' h2⟩
  · by_cases e : d = k
    · subst e
      rw [get_cons_self] at hk'
      cases hk'
      rw [upd_self]
      exact ho _ (fun b h => by
        rcases h with h | h | h
        · exact .inl (.inl h)
        · exact .inl (.inr h)
        · exact .inr (hnew b h).1) hk
    · rw [get_cons_ne _ _ e] at hk'
      rw [upd_ne (fun e' => e e'.symm)]
      exact (hs.obj k o' hk').keep hN hk (fun hl b hb' => ⟨hb.block b (hs.low b (.inr (hs.own hk' hl hb'))), .inl⟩)
  · have key : ∀ {k o}, k ≠ d → get ((d, o) :: st.O) k = get st.O k := fun {k o} h => get_cons_ne _ _ (fun e => h e.symm)
    by_cases e1 : k = d <;> by_cases e2 : k' = d
    · exact hne (e1.trans e2.symm)
    · subst e1
      rw [upd_self] at hb1
      rw [upd_ne e2] at hb2
      rw [key e2] at h2
      have := hs.low b (.inr (hs.own h2 l2 hb2))
      have := (hnew b hb1).1
      omega
    · subst e2
      rw [upd_ne e1] at hb1
      rw [upd_self] at hb2
      rw [key e1] at h1
      have := hs.low b (.inr (hs.own h1 l1 hb1))
      have := (hnew b hb2).1
      omega
    · rw [upd_ne e1] at hb1
      rw [upd_ne e2] at hb2
      rw [key e1] at h1
      rw [key e2] at h2
      exact hs.inj k o1 k' o2 h1 h2 hne l1 l2 b hb1 hb2

/-- Nothing but block b has changed, of what was there. -/
structure But (w w' : World) (b : Nat) : Prop where
  os : w'.os = w.os
  tape : w'.tape = w.tape
  output : w'.output = w.output
  size : w.heap.size ≤ w'.heap.size
  block : ∀ k, k < w.heap.size → k ≠ b → w'.heap[k]? = w.heap[k]?

/-- The thing k of the call's own is another one now, in the same block. -/
theorem sat_but (hs : Sat B n st ρ a w L) {k b : Nat} {o o' : Ob} (hk : get st.O k = some o) (hl : o.live = true) (hob : ob (ρ k) = some b) {w' : World} (hb : But w w' b)
    (ho : ObOk (nmO ((k, o') :: st.O)) ρ w' (un B.F L) L (ρ k) o') : Sat B n ⟨st.S, (k, o') :: st.O⟩ ρ a w' L := by
  have hL := hs.own hk hl hob
  have hstep : Step L w L w' := ⟨hb.os, hb.tape, hb.output, hb.size, fun b' h1 h2 => hb.block b' h1 (fun e => h2 (e ▸ hL)), fun _ h => .inl h⟩
  have hkp : Keep w (un B.F L) w' (un B.F L) := keep_of_step hstep
  have hN : ∀ j, nmO st.O j → nmO ((k, o') :: st.O) j ∧ ρ j = ρ j := fun j h => ⟨nmO_cons h, rfl⟩
  refine hs.go hstep (fun b' hb' => Nat.lt_of_lt_of_le (hs.low b' (.inr hb')) hb.size) hN hs.size hs.defers (fun t y hy => ?_) (fun j o2 hj => ?_) (fun j o1 j' o2 h1 h2 hne l1 l2 c hb1 hb2 => ?_)
  · obtain ⟨v, h1, h2⟩ := hs.slot t y hy
    exact ⟨v, h1, VRep.keep hN hkp y v h2⟩
  · by_cases e : k = j
    · subst e; rw [get_cons_self] at hj; cases hj; exact ho
    · rw [get_cons_ne _ _ e] at hj
      exact (hs.obj j o2 hj).keep hN hkp (fun hl2 c hc => ⟨hb.block c (hs.low c (.inr (hs.own hj hl2 hc))) (fun e' => hs.inj k o j o2 hk hj e hl hl2 b hob (e' ▸ hc)), id⟩)
  · have key : ∀ {j o1}, get ((k, o') :: st.O) j = some o1 → o1.live = true → ∃ o3, get st.O j = some o3 ∧ o3.live = true := fun {j o1} h l => by
      by_cases e : k = j
      · subst e; exact ⟨o, hk, hl⟩
      · rw [get_cons_ne _ _ e] at h; exact ⟨o1, h, l⟩
    obtain ⟨o3, g1, g2⟩ := key h1 l1
    obtain ⟨o4, g3, g4⟩ := key h2 l2
    exact hs.inj j o3 j' o4 g1 g3 hne g2 g4 c hb1 hb2

theorem gcond_sound (hs : Sat B n st ρ a w L) (hS : ∀ t x, get S t = some x → get st.S t = some x) {ops : List Oper} {j : Nat} {want c : Bool} (h : gcond ops S j want = some c) :
    (yielded ops.toArray a.tmps j == some want) = c := by
  unfold gcond at h
  split at h
  · rename_i d _ _ _ _ _ ho
    rw [nth_eq] at ho
    have hop : ((ops.toArray[j]?).bind (·.dst)) = some d := by simp [ho]
    split at h
    · rename_i b hb
      obtain ⟨v, h1, h2⟩ := hs.slot d _ (hS d _ hb)
      simp only [VRep, Rep] at h2; subst h2
      simp only [yielded, hop, Option.bind_some, h1]
      cases h; cases c <;> rfl
    · rename_i b hb
      obtain ⟨v, h1, h2⟩ := hs.slot d _ (hS d _ hb)
      simp only [VRep, Rep] at h2; subst h2
      simp only [yielded, hop, Option.bind_some, h1]
      cases h; cases b <;> rfl
    · rename_i c' b hb
      obtain ⟨v, h1, h2⟩ := hs.slot d _ (hS d _ hb)
      cases h
      simp only [VRep, Rep] at h2
      simp only [yielded, hop, Option.bind_some, h1]
      cases c' with
      | true => rw [h2.1 rfl]; cases b <;> rfl
      | false => rw [h2.2 rfl]; rfl
    · rename_i c' b hb
      obtain ⟨v, h1, h2⟩ := hs.slot d _ (hS d _ hb)
      cases h
      simp only [VRep, Rep] at h2
      simp only [yielded, hop, Option.bind_some, h1]
      cases c' with
      | true => rw [h2.1 rfl]; cases b <;> rfl
      | false => rw [h2.2 rfl]; rfl
    · cases h
  · cases h

theorem vcs_gvc {c : Bool} {l : List Prop} (h : vcs (gvc c l)) (hc : c = true) : vcs l := by
  cases l with
  | nil => trivial
  | cons p l => exact h hc

end Go.V
