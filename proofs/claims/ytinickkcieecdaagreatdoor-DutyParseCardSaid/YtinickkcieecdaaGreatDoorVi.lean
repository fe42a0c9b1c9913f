/- The engine: calls. No program in sight. -/
import Derived.Test.YtinickkcieecdaaGreatDoorVh
set_option linter.unusedVariables false
namespace Go.V
open Go.RowKit

variable {P : Program} {n : Nat} {B : Base} {st : St} {tb : List (Nat × TI)} {Q : Exit → Act → World → Prop} {ρ : Nat → Value} {a : Act} {w : World} {L : Nat → Prop} {π π' : List (Nat × Nat)}

/-- What a called function must be: it has a body. -/
structure HasBody (P : Program) (f : FuncId) : Prop where
  ok : ∃ fn, P.funcs[f]? = some fn ∧ fn.body.isNone = false ∧ (fn.name == "runtime.NumGoroutine") = false
theorem hasBody {f : FuncId} {fn : Func} (h : P.funcs[f]? = some fn) (hb : fn.body.isNone = false) (hn : (fn.name == "runtime.NumGoroutine") = false) : HasBody P f := ⟨fn, h, hb, hn⟩

theorem execOp_call {o : Oper} {f : FuncId} {c : Operand} {xs : List Operand} {ats : Array TypeId} (hop : o.op = .call ⟨.value c, xs.toArray, ats⟩) {a : Act} {cvs : List Value} (hc : a.eval c = .func (.func f) #[] ⟨cvs⟩) (hf : HasBody P f) (w : World) :
    (execOp a.eval o).run P w = .ok (.enter f (xs.map a.eval ++ cvs).toArray) w := by
  obtain ⟨fn, h1, h2, h3⟩ := hf.ok
  unfold execOp
  rw [hop]
  simp only [resolve, hc, Deferred.ofValue, invoke, callFunc, Sem.run_bind, Sem.run_pure, Result.andThen_ok, program, Sem.run, h1, h3, h2]
  simp

/-- The caller's names for what a callee leaves. -/
def outO (π : List (Nat × Nat)) : List (Nat × Ob) → List (Nat × Ob)
  | [] => []
  | (k, o) :: r => (rn π k, renO π o) :: outO π r
/-- Which of the callee's names is j. -/
def invO (π : List (Nat × Nat)) (j : Nat) : List (Nat × Ob) → Option Nat
  | [] => none
  | (k, _) :: r => match Nat.beq (rn π k) j with | true => some k | false => invO π j r

theorem invO_some {π : List (Nat × Nat)} {j k : Nat} : ∀ {O : List (Nat × Ob)}, invO π j O = some k → rn π k = j ∧ nmO O k
  | [], h => by simp [invO] at h
  | (k', o) :: r, h => by
    simp only [invO] at h
    split at h
    · rename_i e; cases h; exact ⟨Nat.eq_of_beq_eq_true e, nmO_self⟩
    · obtain ⟨h1, h2⟩ := invO_some h; exact ⟨h1, nmO_cons h2⟩
theorem invO_none {π : List (Nat × Nat)} {j : Nat} : ∀ {O : List (Nat × Ob)}, invO π j O = none → ∀ k, nmO O k → rn π k ≠ j
  | [], _, k, h => by simp [nmO, get] at h
  | (k', o) :: r, h, k, hk => by
    simp only [invO] at h
    split at h
    · cases h
    · rename_i e
      by_cases e' : k' = k
      · subst e'; exact beq_ne e
      · exact invO_none h k (by simpa [nmO, get_cons_ne _ _ e'] using hk)
/-- The names of a list are turned into different ones. -/
def injN (π : List (Nat × Nat)) : List (Nat × Ob) → Bool
  | [] => true
  | (k, _) :: r => match invO π (rn π k) r with | some k' => (match Nat.beq k k' with | true => injN π r | false => false) | none => injN π r

theorem get_out {π : List (Nat × Nat)} {j : Nat} {R : List (Nat × Ob)} : ∀ {O : List (Nat × Ob)}, get (outO π O ++ R) j = (match invO π j O with | some k => (get O k).map (renO π) | none => get R j) ∨ injN π O = false
  | [] => .inl rfl
  | (k, o) :: r => by
    simp only [outO, List.cons_append, invO]
    by_cases e : rn π k = j
    · subst e
      refine .inl ?_
      simp only [Nat.beq_refl, get_cons_self, Option.map_some]
    · have e' : Nat.beq (rn π k) j = false := by cases hb : Nat.beq (rn π k) j with | false => rfl | true => exact absurd (Nat.eq_of_beq_eq_true hb) e
      rw [get_cons_ne _ _ e, e']
      rcases get_out (π := π) (j := j) (R := R) (O := r) with ih | ih
      · rw [ih]
        cases hi : invO π j r with
        | none => exact .inl rfl
        | some k2 =>
          obtain ⟨h1, h2⟩ := invO_some hi
          by_cases e2 : k = k2
          · exact absurd (e2 ▸ h1) e
          · exact .inl (by simp only [get_cons_ne _ _ e2])
      · right
        simp only [injN]
        split
        · split
          · exact ih
          · rfl
        · exact ih
theorem invO_rn {π : List (Nat × Nat)} : ∀ {O : List (Nat × Ob)}, injN π O = true → ∀ {k : Nat}, nmO O k → invO π (rn π k) O = some k
  | [], _, k, h => by simp [nmO, get] at h
  | (k', o) :: r, hi, k, hk => by
    simp only [injN] at hi
    simp only [invO]
    by_cases e : k' = k
    · subst e; rw [Nat.beq_refl]
    · have hk' : nmO r k := by simpa [nmO, get_cons_ne _ _ e] using hk
      have hr : injN π r = true := by
        split at hi
        · split at hi
          · exact hi
          · cases hi
        · exact hi
      have ih := invO_rn hr hk'
      cases hb : Nat.beq (rn π k') (rn π k) with
      | false => exact ih
      | true =>
        have hb := Nat.eq_of_beq_eq_true hb
        rw [hb, ih] at hi
        simp only at hi
        split at hi
        · rename_i h3; exact absurd (Nat.eq_of_beq_eq_true h3) e
        · cases hi

/-- Every name of O is one of O', under the same name of the caller's. -/
def covB (π π' : List (Nat × Nat)) (O' : List (Nat × Ob)) : List (Nat × Ob) → Bool
  | [] => true
  | (k, _) :: r => match isSomeB (get O' k), Nat.beq (rn π k) (rn π' k) with | true, true => covB π π' O' r | _, _ => false
theorem covB_spec {π π' : List (Nat × Nat)} {O' : List (Nat × Ob)} : ∀ {O : List (Nat × Ob)}, covB π π' O' O = true → ∀ k, nmO O k → nmO O' k ∧ rn π k = rn π' k
  | [], _, k, h => by simp [nmO, get] at h
  | (k', o) :: r, h, k, hk => by
    simp only [covB] at h
    split at h
    · rename_i h1 h2
      by_cases e : k' = k
      · subst e; exact ⟨isSomeB_eq h1, Nat.eq_of_beq_eq_true h2⟩
      · exact covB_spec h k (by simpa [nmO, get_cons_ne _ _ e] using hk)
    · cases h
/-- The names of O' that O has not are new to the caller. -/
def freshB (π' : List (Nat × Nat)) (ns : List Nat) (O Oc : List (Nat × Ob)) : List (Nat × Ob) → Bool
  | [] => true
  | (k, _) :: r =>
    match isSomeB (get O k), isSomeB (get Oc (rn π' k)), has (rn π' k) ns with
    | true, _, true => freshB π' ns O Oc r
    | false, false, true => freshB π' ns O Oc r
    | _, _, _ => false
theorem freshB_spec {π' : List (Nat × Nat)} {ns : List Nat} {O Oc : List (Nat × Ob)} : ∀ {O' : List (Nat × Ob)}, freshB π' ns O Oc O' = true → ∀ k, nmO O' k → (rn π' k ∈ ns) ∧ (nmO O k ∨ get Oc (rn π' k) = none)
  | [], _, k, h => by simp [nmO, get] at h
  | (k', o) :: r, h, k, hk => by
    simp only [freshB] at h
    have key : ∀ {x : Option Ob}, isSomeB x = false → x = none := fun {x} hx => by cases x <;> simp_all [isSomeB]
    by_cases e : k' = k
    · subst e
      split at h
      · rename_i h1 h3; exact ⟨has_iff.1 h3, .inl (isSomeB_eq h1)⟩
      · rename_i h1 h2 h3; exact ⟨has_iff.1 h3, .inr (key h2)⟩
      · cases h
    · have hk' : nmO r k := by simpa [nmO, get_cons_ne _ _ e] using hk
      split at h
      · exact freshB_spec h k hk'
      · exact freshB_spec h k hk'
      · cases h

theorem ObsOk.own {O : List (Nat × Ob)} {ρ : Nat → Value} {w : World} {X L : Nat → Prop} (hs : ObsOk O ρ w X L) {k : Nat} {o : Ob} (hk : get O k = some o) (hl : o.live = true) {b : Nat} (hb : ob (ρ k) = some b) : L b := by
  have h := hs.obj k o hk
  cases o with
  | blk ty cs => obtain ⟨b', vs, h1, h2, h3, h4⟩ := h; rw [h1] at hb; cases hb; exact h3
  | row ty sz es => obtain ⟨rows, h1, h2, h3, h4⟩ := h; exact h4 b hb
  | it s pos => obtain ⟨b', h1, h2, h3⟩ := h; rw [h1] at hb; cases hb; exact h3
  | dead => cases hl

theorem ObOk.toL {N : Nat → Prop} {ρ : Nat → Value} {w : World} {X L L' : Nat → Prop} {v : Value} {o : Ob} (h : ObOk N ρ w X L v o) (hb : o.live = true → ∀ b, ob v = some b → L' b) : ObOk N ρ w X L' v o := by
  cases o with
  | blk ty cs =>
    obtain ⟨b, vs, h1, h2, h3, h4⟩ := h
    exact ⟨b, vs, h1, h2, hb rfl b (by rw [h1]; rfl), h4⟩
  | row ty sz es =>
    obtain ⟨rows, h1, h2, h3, h4⟩ := h
    exact ⟨rows, h1, h2, h3, fun b hb' => hb rfl b hb'⟩
  | it s pos =>
    obtain ⟨b, h1, h2, h3⟩ := h
    exact ⟨b, h1, h2, hb rfl b (by rw [h1]; rfl)⟩
  | dead => exact h

def insO : Option Nat → SV → List (Nat × SV)
  | some d, x => [(d, x)]
  | none, _ => []

/-- A call by a contract: the callee is handed things of the caller's own (O), and leaves O'. -/
theorem call_core (hs : Sat B n st ρ a w L) {f : FuncId} {args : List SV} {O O' : List (Nat × Ob)} {r : SV} {vals : List Value} {d : Option Nat} (con : Con P B.wg B.G f args O r O') (hd : ∀ d', d = some d' → inB n d' = true) (hargs : VReps (nmO st.O) ρ w (un B.F L) (rens π args) vals)
    (hw : wfBs O args = true) (hO : subO π st.O O) (hwO : wfAllO O O = true) (hinj : injB π O = true) (hcov : covB π π' O' O = true) (hfr : ∀ k, nmO O' k → nmO O k ∨ get st.O (rn π' k) = none) (hiN : injN π' O' = true)
    {K : Act → World → Prop} (hK : ∀ v a' ρ' w' L', a' = a.put d v → Sat B n ⟨insO d (ren π' r) ++ st.S, outO π' O' ++ st.O⟩ ρ' a' w' L' → K a' w') {Kp : Ending → World → Prop} (hKp : ∀ v w', K (a.put d v) w' → Kp (.returned v) w') :
    Calls P f vals.toArray w Kp := by
  let Lp : Nat → Prop := fun b => ∃ k o, get O k = some o ∧ o.live = true ∧ ob (ρ (rn π k)) = some b
  have hLp : ∀ b, Lp b → L b := fun b ⟨k, o, h1, h2, h3⟩ => hs.own (subO_live hO h1 h2) (by rw [renO_live]; exact h2) h3
  let F : Nat → Prop := fun b => B.F b ∨ (L b ∧ ¬ Lp b)
  have hX : un F Lp = un B.F L := by
    funext b
    apply propext
    constructor
    · rintro ((h | h) | h)
      · exact .inl h
      · exact .inr h.1
      · exact .inr (hLp b h)
    · rintro (h | h)
      · exact .inl (.inl h)
      · by_cases hp : Lp b
        · exact .inr hp
        · exact .inl (.inr ⟨h, hp⟩)
  have hobs : ObsOk O (fun k => ρ (rn π k)) w (un F Lp) Lp := by
    rw [hX]
    refine ⟨fun k o hk => ?_, fun k o k' o' hk hk' hne l1 l2 b hb hb' => ?_⟩
    · rcases subO_get hO k o hk with ⟨rfl, h1⟩ | h1
      · exact hs.cellN _ h1
      · exact (ObOk.ren (wfAllO_get hwO k o hk) (hs.obj (rn π k) _ h1)).toL (fun hl b hb => ⟨k, o, hk, hl, hb⟩)
    · exact hs.inj _ _ _ _ (subO_live hO hk l1) (subO_live hO hk' l2) (fun e => hne (injB_sound hinj hk hk' l1 l2 e)) (by rw [renO_live]; exact l1) (by rw [renO_live]; exact l2) b hb hb'
  refine (con w (fun k => ρ (rn π k)) F Lp vals (by rw [hX]; exact hs.low) (fun b hF hp => by
    rcases hF with h | h
    · exact hs.dis b h (hLp b hp)
    · exact h.2 hp) (by rw [hX]; exact hs.ext) (by rw [hX]; exact hs.glob) hobs (by rw [hX]; exact VReps.ren args vals hw hargs)).mono ?_
  rintro e w' ⟨v, ρ', L', rfl, hv, hobs', hstep, hlow', hpin⟩
  refine hKp v w' ?_
  let Ln : Nat → Prop := fun b => (L b ∧ ¬ Lp b) ∨ L' b
  have hX' : un F L' = un B.F Ln := by
    funext b
    apply propext
    constructor
    · rintro ((h | h) | h)
      · exact .inl h
      · exact .inr (.inl h)
      · exact .inr (.inr h)
    · rintro (h | h | h)
      · exact .inl (.inl h)
      · exact .inl (.inr h)
      · exact .inr h
  have hst : Step L w Ln w' := ⟨hstep.os, hstep.tape, hstep.output, hstep.size, fun b h1 h2 => hstep.block b h1 (fun h => h2 (hLp b h)), fun b h => by
    rcases h with h | h
    · exact .inl h.1
    · exact (hstep.new b h).imp (hLp b) id⟩
  have hkeep : Keep w (un B.F L) w' (un B.F Ln) := keep_of_step hst
  let ρn : Nat → Value := fun j => match invO π' j O' with | some k => ρ' k | none => ρ j
  have hout : ∀ j, get (outO π' O' ++ st.O) j = (match invO π' j O' with | some k => (get O' k).map (renO π') | none => get st.O j) := fun j => by
    rcases get_out (π := π') (j := j) (R := st.O) (O := O') with h | h
    · exact h
    · rw [hiN] at h; cases h
  have hρn : ∀ k, nmO O' k → ρn (rn π' k) = ρ' k := fun k hk => by simp only [ρn, invO_rn hiN hk]
  have hNn : ∀ k, nmO O' k → nmO (outO π' O' ++ st.O) (rn π' k) ∧ ρn (rn π' k) = ρ' k := fun k hk => by
    refine ⟨?_, hρn k hk⟩
    unfold nmO
    rw [hout, invO_rn hiN hk]
    simp only [Option.isSome_map]; exact hk
  have hN : ∀ j, nmO st.O j → nmO (outO π' O' ++ st.O) j ∧ ρn j = ρ j := fun j hj => by
    cases hi : invO π' j O' with
    | none => exact ⟨by unfold nmO; rw [hout, hi]; exact hj, by simp only [ρn, hi]⟩
    | some k =>
      obtain ⟨h1, h2⟩ := invO_some hi
      subst h1
      refine ⟨(hNn k h2).1, ?_⟩
      rw [hρn k h2]
      rcases hfr k h2 with h3 | h3
      · obtain ⟨_, h4⟩ := covB_spec hcov k h3
        rw [hpin k _ (pinsOf_mem h3) h2]
        simp only [h4]
      · simp [nmO, h3] at hj
  refine hK v _ ρn w' Ln rfl (hs.go hst (fun b hb => ?_) hN (by cases d <;> simp [Act.put, hs.size]) (by cases d <;> exact hs.defers) (fun t y hy => ?_) (fun j o hj => ?_) (fun j o j' o' hj hj' hne l1 l2 b hb hb' => ?_))
  · rcases hb with hb | hb
    · exact Nat.lt_of_lt_of_le (hs.low b (.inr hb.1)) hst.size
    · exact hlow' b hb
  · cases d with
    | none =>
      obtain ⟨v', h1, h2⟩ := hs.slot t y hy
      exact ⟨v', h1, VRep.keep hN hkeep y v' h2⟩
    | some d =>
      have hd' : d < n := by simpa [inB] using hd d rfl
      change get ((d, ren π' r) :: st.S) t = some y at hy
      simp only [Act.put]
      by_cases hdt : d = t
      · subst hdt
        rw [get_cons_self] at hy
        cases hy
        exact ⟨v, by simp [hs.size, hd'], by rw [← hX']; exact VRep.renI hNn r v hv⟩
      · rw [get_cons_ne _ _ hdt] at hy
        obtain ⟨v', h1, h2⟩ := hs.slot t y hy
        exact ⟨v', by rw [Array.getElem?_setIfInBounds_ne hdt]; exact h1, VRep.keep hN hkeep y v' h2⟩
  · rw [hout] at hj
    cases hi : invO π' j O' with
    | some k =>
      obtain ⟨h1, h2⟩ := invO_some hi
      subst h1
      rw [hi] at hj
      simp only [Option.map_eq_some_iff] at hj
      obtain ⟨o1, h3, rfl⟩ := hj
      show ObOk _ ρn _ _ _ (ρn (rn π' k)) _
      rw [hρn k h2, ← hX']
      exact ((hobs'.obj k o1 h3).renI hNn).toL (fun hl b hb => .inr (hobs'.own h3 (by rw [renO_live] at hl; exact hl) hb))
    | none =>
      rw [hi] at hj
      have e : ρn j = ρ j := by simp only [ρn, hi]
      show ObOk _ ρn _ _ _ (ρn j) _
      rw [e]
      refine (hs.obj j o hj).keep hN hkeep (fun hl b hb => ?_)
      have hnp : ¬ Lp b := fun ⟨k, o1, h1, h2, h3⟩ => by
        obtain ⟨h4, h5⟩ := covB_spec hcov k (by simp [nmO, h1])
        exact hs.inj j o (rn π k) _ hj (subO_live hO h1 h2) (fun e2 => invO_none hi k h4 (by rw [← h5]; exact e2.symm)) hl (by rw [renO_live]; exact h2) b hb h3
      exact ⟨hstep.block b (hs.low b (.inr (hs.own hj hl hb))) hnp, fun hL => .inl ⟨hL, hnp⟩⟩
  · rw [hout] at hj hj'
    cases hi : invO π' j O' with
    | some k =>
      obtain ⟨e1, h2⟩ := invO_some hi
      rw [hi] at hj
      simp only [Option.map_eq_some_iff] at hj
      obtain ⟨o1, h3, rfl⟩ := hj
      rw [renO_live] at l1
      have hb1 : ob (ρ' k) = some b := by rw [← hρn k h2, e1]; exact hb
      cases hi' : invO π' j' O' with
      | some k' =>
        obtain ⟨e1', h2'⟩ := invO_some hi'
        rw [hi'] at hj'
        simp only [Option.map_eq_some_iff] at hj'
        obtain ⟨o1', h3', rfl⟩ := hj'
        rw [renO_live] at l2
        have hb2 : ob (ρ' k') = some b := by rw [← hρn k' h2', e1']; exact hb'
        exact hobs'.inj k o1 k' o1' h3 h3' (fun e => hne (by rw [← e1, ← e1', e])) l1 l2 b hb1 hb2
      | none =>
        rw [hi'] at hj'
        have e : ρn j' = ρ j' := by simp only [ρn, hi']
        rw [e] at hb'
        have hL' := hobs'.own h3 l1 hb1
        have hlt := hs.low b (.inr (hs.own hj' l2 hb'))
        rcases hstep.new b hL' with ⟨k2, o2, g1, g2, g3⟩ | hge
        · obtain ⟨h4, h5⟩ := covB_spec hcov k2 (by simp [nmO, g1])
          exact hs.inj j' o' (rn π k2) _ hj' (subO_live hO g1 g2) (fun e2 => invO_none hi' k2 h4 (by rw [← h5]; exact e2.symm)) l2 (by rw [renO_live]; exact g2) b hb' g3
        · omega
    | none =>
      rw [hi] at hj
      have e : ρn j = ρ j := by simp only [ρn, hi]
      rw [e] at hb
      cases hi' : invO π' j' O' with
      | some k' =>
        obtain ⟨e1', h2'⟩ := invO_some hi'
        rw [hi'] at hj'
        simp only [Option.map_eq_some_iff] at hj'
        obtain ⟨o1', h3', rfl⟩ := hj'
        rw [renO_live] at l2
        have hb2 : ob (ρ' k') = some b := by rw [← hρn k' h2', e1']; exact hb'
        have hL' := hobs'.own h3' l2 hb2
        have hlt := hs.low b (.inr (hs.own hj l1 hb))
        rcases hstep.new b hL' with ⟨k2, o2, g1, g2, g3⟩ | hge
        · obtain ⟨h4, h5⟩ := covB_spec hcov k2 (by simp [nmO, g1])
          exact hs.inj j o (rn π k2) _ hj (subO_live hO g1 g2) (fun e2 => invO_none hi k2 h4 (by rw [← h5]; exact e2.symm)) l1 (by rw [renO_live]; exact g2) b hb g3
        · omega
      | none =>
        rw [hi'] at hj'
        have e' : ρn j' = ρ j' := by simp only [ρn, hi']
        rw [e'] at hb'
        exact hs.inj j o j' o' hj hj' hne l1 l2 b hb hb'

theorem VReps.app {N : Nat → Prop} {ρ : Nat → Value} {w : World} {X : Nat → Prop} : ∀ {xs ys : List SV} {us vs : List Value}, VReps N ρ w X xs us → VReps N ρ w X ys vs → VReps N ρ w X (xs ++ ys) (us ++ vs)
  | [], ys, us, vs, h, h' => by simp only [VReps] at h; subst h; exact h'
  | x :: xs, ys, us, vs, h, h' => by
    simp only [VReps] at h
    obtain ⟨v, r, rfl, h2, h3⟩ := h
    simp only [List.cons_append, VReps]
    exact ⟨v, r ++ vs, rfl, h2, VReps.app h3 h'⟩

/-- What is called: a function and what it has captured; its arguments. -/
def callee (G : List (Nat × List D)) (S : List (Nat × SV)) : Op → Option (Nat × List SV × List Prop × Option Operand)
  | .call ⟨.value c, ⟨xs⟩, _⟩ =>
    match o1 G S c, o1s G S xs with
    | some (.fn f caps, l), some (ys, m) => some (f, ys ++ caps, l ++ m, some c)
    | _, _ => none
  | _ => none

theorem callee_sound (hs : Sat B n st ρ a w L) {S : List (Nat × SV)} (hS : ∀ t x, get S t = some x → get st.S t = some x) {o : Oper} {f : Nat} {ys : List SV} {l : List Prop} {c : Option Operand} (h : callee B.G S o.op = some (f, ys, l, c)) (hv : vcs l) (hf : HasBody P f) :
    ∃ vals : List Value, (execOp a.eval o).run P w = .ok (.enter f vals.toArray) w ∧ VReps (nmO st.O) ρ w (un B.F L) ys vals := by
  unfold callee at h
  split at h
  · rename_i c xs ats hop
    split at h
    · rename_i f' caps l1 ys' m h1 h2
      cases h
      obtain ⟨v1, v2⟩ := vcs_append hv
      have e1 := o1_sound hs hS h1 v1
      have e2 := o1s_sound hs hS h2 v2
      simp only [VRep] at e1
      obtain ⟨cvs, e1, e3⟩ := e1
      exact ⟨_, execOp_call hop e1 hf w, e2.app e3⟩
    · cases h
  · cases h

def wnO (π : List (Nat × Nat)) : List (Nat × Ob) → List Nat
  | [] => []
  | (k, _) :: r => rn π k :: wnO π r
theorem wnO_eq (π : List (Nat × Nat)) : ∀ (O : List (Nat × Ob)), (outO π O).map (·.1) = wnO π O
  | [] => rfl
  | (k, o) :: r => by simp [outO, wnO, wnO_eq π r]
theorem mem_wnO {π : List (Nat × Nat)} {j : Nat} : ∀ {O : List (Nat × Ob)}, j ∈ wnO π O → ∃ k, nmO O k ∧ rn π k = j
  | [], h => by simp [wnO] at h
  | (k, o) :: r, h => by
    simp only [wnO, List.mem_cons] at h
    rcases h with rfl | h
    · exact ⟨k, nmO_self, rfl⟩
    · obtain ⟨k', h1, h2⟩ := mem_wnO h; exact ⟨k', nmO_cons h1, h2⟩

theorem subO_mono {π : List (Nat × Nat)} {O1 O1' : List (Nat × Ob)} (hm : ∀ k o, get O1 k = some o → get O1' k = some o) : ∀ {O : List (Nat × Ob)}, subO π O1 O → subO π O1' O
  | [], _ => trivial
  | (k, .dead) :: r, h => by
    refine ⟨?_, subO_mono hm h.2⟩
    cases hg : get O1 (rn π k) with
    | none => have := h.1; rw [hg] at this; cases this
    | some o => rw [hm _ _ hg]; rfl
  | (k, .blk ty cs) :: r, h => ⟨hm _ _ h.1, subO_mono hm h.2⟩
  | (k, .row ty sz es) :: r, h => ⟨hm _ _ h.1, subO_mono hm h.2⟩
  | (k, .it s pos) :: r, h => ⟨hm _ _ h.1, subO_mono hm h.2⟩

/-- A call by a contract, wherever it comes up. -/
theorem OpOk.call {ops : List Oper} {o : Oper} {f : Nat} {ys : List SV} {l : List Prop} {c : Option Operand} {sl ns ws : List Nat} {args : List SV} {O O' : List (Nat × Ob)} {r : SV} (π π' : List (Nat × Nat)) (hf : HasBody P f) (hg : o.guard = none) (hd : ∀ d', o.dst = some d' → inB n d' = true)
    (hc : callee B.G (pickL st.S sl) o.op = some (f, ys, l, c)) (hl : vcs l) (con : Con P B.wg B.G f args O r O') (hargs : ys = rens π args) (hw : wfBs O args = true) (hO : subO π (pickL st.O ns) O) (hwO : wfAllO O O = true) (hinj : injB π O = true) (hcov : covB π π' O' O = true)
    (hfr : freshB π' ns O (pickL st.O ns) O' = true) (hiN : injN π' O' = true) : OpOk P B n ops Q o ⟨sl, ns, ws, wnO π' O'⟩ st ⟨insO o.dst (ren π' r), outO π' O'⟩ := by
  intro st' a ρ w L K hag hs hK
  unfold wpO
  rw [if_pos (by simp [Region.wanted, hg])]
  have hS : ∀ t x, get (pickL st.S sl) t = some x → get st'.S t = some x := fun t x ht => by obtain ⟨h1, h2⟩ := pickL_some ht; rw [hag.S t h1]; exact h2
  obtain ⟨vals, h1, h2⟩ := callee_sound hs hS hc hl hf
  rw [hargs] at h2
  simp only [Oper.wp, h1, Oper.upon]
  refine call_core hs (π := π) (π' := π') (d := o.dst) con hd h2 hw (subO_mono (fun k o' hk => by obtain ⟨h1, h2⟩ := pickL_some hk; rw [hag.O k h1]; exact h2) hO) hwO hinj hcov (fun k hk => ?_) hiN (K := K) (fun v a' ρ' w' L' _ s' => hK a' w' ⟨ρ', L', s'⟩) (fun v w' h => h)
  obtain ⟨h3, h4⟩ := freshB_spec hfr k hk
  rcases h4 with h4 | h4
  · exact .inl h4
  · exact .inr (by rw [hag.O _ h3]; exact pickL_none h3 h4)

/-- A guarded call that makes nothing. -/
theorem OpOk.gcall {ops : List Oper} {o : Oper} {f : Nat} {ys : List SV} {l : List Prop} {c : Option Operand} {sl ns ws : List Nat} {args : List SV} {r : SV} {j : Nat} {want g : Bool} {d : Nat} (hf : HasBody P f) (hg : o.guard = some (j, want)) (ho : o.dst = some d) (hd : inB n d = true)
    (hgc : gcond ops (pickL st.S sl) j want = some g) (hc : callee B.G (pickL st.S sl) o.op = some (f, ys, l, c)) (hl : g = true → vcs l) (con : g = true → Con P B.wg B.G f args [] r []) (hargs : ys = rens [] args) (hw : wfBs [] args = true) :
    OpOk P B n ops Q o ⟨sl, ns, ws, []⟩ st ⟨[(d, .g g (ren [] r))], []⟩ := by
  intro st' a ρ w L K hag hs hK
  unfold wpO
  have hS : ∀ t x, get (pickL st.S sl) t = some x → get st'.S t = some x := fun t x ht => by obtain ⟨h1, h2⟩ := pickL_some ht; rw [hag.S t h1]; exact h2
  have hwd : Region.wanted o (yielded ops.toArray a.tmps) = g := by simp only [Region.wanted, hg]; exact gcond_sound hs hS hgc
  rw [hwd]
  cases g with
  | true =>
    rw [if_pos rfl]
    obtain ⟨vals, h1, h2⟩ := callee_sound hs hS hc (hl rfl) hf
    rw [hargs] at h2
    simp only [Oper.wp, h1, Oper.upon]
    refine call_core hs (π := []) (π' := []) (d := some d) (con rfl) (fun d' e => by cases e; exact hd) h2 hw trivial rfl rfl rfl (fun k hk => by simp [nmO, get] at hk) rfl (K := K) (fun v a' ρ' w' L' _ s' => hK a' w' ⟨ρ', L', ?_⟩) (fun v w' h => by rw [ho]; exact h)
    have s2 : Sat B n ⟨(d, ren [] r) :: st'.S, st'.O⟩ ρ' a' w' L' := s'
    refine s2.go (Step.refl _ _) (fun b hb => s2.low b (.inr hb)) (fun _ h => ⟨h, rfl⟩) s2.size s2.defers (fun t y hy => ?_) s2.obj s2.inj
    change get ((d, SV.g true (ren [] r)) :: st'.S) t = some y at hy
    by_cases e : d = t
    · subst e
      rw [get_cons_self] at hy; cases hy
      obtain ⟨v, h3, h4⟩ := s2.slot d _ (get_cons_self _ _ _)
      exact ⟨v, h3, by simp only [VRep]; exact ⟨fun _ => h4, (fun h => by cases h)⟩⟩
    · rw [get_cons_ne _ _ e] at hy
      exact s2.slot t y (by rw [get_cons_ne _ _ e]; exact hy)
  | false =>
    rw [if_neg (by simp), ho]
    exact hK _ _ ⟨ρ, L, sat_put hs (x := .g false (ren [] r)) hd (by simp only [VRep]; exact ⟨(fun h => by cases h), fun _ => trivial⟩)⟩

end Go.V
