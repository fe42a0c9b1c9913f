/- The engine: rules for single operations. No program in sight. -/
import Derived.Test.YtinickkcieecdaaGreatDoorVi
set_option linter.unusedVariables false
namespace Go.V
open Go.RowKit

variable {P : Program} {n : Nat} {B : Base} {st : St} {tb : List (Nat × TI)} {Q : Exit → Act → World → Prop} {ρ : Nat → Value} {a : Act} {w : World} {L : Nat → Prop}

mutual
theorem ren_nil : ∀ (x : SV), ren [] x = x
  | .v _ => by simp only [ren]
  | .g c x => by simp only [ren, ren_nil x]
  | .p k o => by simp only [ren, rn]
  | .at cs o => by simp only [ren]
  | .r k => by simp only [ren, rn]
  | .re k sz i o => by simp only [ren, rn]
  | .sp k => by simp only [ren, rn]
  | .fn f cs => by simp only [ren, rens_nil cs]
  | .tup xs => by simp only [ren, rens_nil xs]
  | .u => by simp only [ren]
theorem rens_nil : ∀ (xs : List SV), rens [] xs = xs
  | [] => by simp only [rens]
  | x :: xs => by simp only [rens, ren_nil x, rens_nil xs]
end

/-- A key fits what is added. -/
def keyB (k : Key) (ss : List Nat) (os : List Nat) : Bool := subL k.ws ss && subL ss k.ws && subL k.wn os && subL k.ns k.wn
theorem agree_of_key {sl ns ws wn : List Nat} {st st' : St} (h : Agree sl ns st st') : Agree sl ns st st' := h

theorem WR.op {ops rest : List Oper} {o : Oper} {done : List Key} {sl ns wn : List Nat} {d : Dl} (hok : OpOk P B n ops Q o ⟨sl, ns, d.s.map (·.1), wn⟩ st d) (hk : subL wn (d.o.map (·.1)) = true) (hn : subL ns wn = true) (h : WR P B n (st.add d) ops Q (done ++ [⟨sl, ns, d.s.map (·.1), wn⟩]) rest) : WR P B n st ops Q done (o :: rest) :=
  WR.cons ⟨rfl, fun k hk' => subL_spec hk k hk', fun k hk' => subL_spec hn k hk'⟩ hok h

/-! ### Calls that are handed nothing of the caller's own -/

theorem opok_call0 {ops : List Oper} {o : Oper} {f d : Nat} {ys : List SV} {l : List Prop} {c : Option Operand} {sl ns ws : List Nat} {r : SV} (hf : HasBody P f) (hg : o.guard = none) (ho : o.dst = some d) (hd : inB n d = true)
    (hc : callee B.G (pickL st.S sl) o.op = some (f, ys, l, c)) (hl : vcs l) (hw : wfBs [] ys = true) (con : Con P B.wg B.G f ys [] r []) : OpOk P B n ops Q o ⟨sl, ns, ws, []⟩ st ⟨[(d, r)], []⟩ := by
  have := OpOk.call (P := P) (B := B) (n := n) (ops := ops) (Q := Q) (o := o) (st := st) (sl := sl) (ns := []) (ws := ws) [] [] hf hg (fun d' e => by rw [ho] at e; cases e; exact hd) hc hl con (rens_nil ys).symm hw trivial rfl rfl rfl rfl rfl
  rw [ho, ren_nil] at this
  intro st' a ρ w L K hag hs hK
  exact this st' a ρ w L K ⟨hag.S, fun t ht => by cases ht⟩ hs hK

theorem pickL_self {α : Type} {l : List (Nat × α)} {ts : List Nat} {t : Nat} {x : α} (h : get (pickL l ts) t = some x) : get l t = some x := (pickL_some h).2

theorem WL.call0 {ops rest : List Oper} {o : Oper} {f d : Nat} {ys : List SV} {l : List Prop} {c : Option Operand} {r : SV} (hf : HasBody P f) (hg : o.guard = none) (ho : o.dst = some d) (hd : inB n d = true)
    (hc : callee B.G st.S o.op = some (f, ys, l, c)) (hl : vcs l) (hw : wfBs [] ys = true) (con : Con P B.wg B.G f ys [] r []) (h : WL P B n ⟨(d, r) :: st.S, st.O⟩ ops Q rest) : WL P B n st ops Q (o :: rest) := by
  intro a ρ w L hs
  refine wpList_step fun K hK => ?_
  rw [if_pos (by simp [Region.wanted, hg])]
  obtain ⟨vals, h1, h2⟩ := callee_sound hs (fun _ _ h => h) hc hl hf
  simp only [Oper.wp, h1, Oper.upon]
  refine call_core hs (π := []) (π' := []) (d := o.dst) con (fun d' e => by rw [ho] at e; cases e; exact hd) (by rw [rens_nil]; exact h2) hw trivial rfl rfl rfl (fun k hk => by simp [nmO, get] at hk) rfl (K := K) (fun v a' ρ' w' L' _ s' => hK a' w' (h a' ρ' w' L' ?_)) (fun v w' h => h)
  rw [ho, ren_nil] at s'
  exact s'

theorem WR.call0 {ops rest : List Oper} {o : Oper} {done : List Key} {f d : Nat} {ys : List SV} {l : List Prop} {c : Option Operand} {r : SV} (hf : HasBody P f) (hg : o.guard = none) (ho : o.dst = some d) (hd : inB n d = true)
    (hc : callee B.G (pickL st.S (rd ops o)) o.op = some (f, ys, l, c)) (hl : vcs l) (hw : wfBs [] ys = true) (con : Con P B.wg B.G f ys [] r []) (h : WR P B n ⟨(d, r) :: st.S, st.O⟩ ops Q (done ++ [⟨rd ops o, [], [d], []⟩]) rest) : WR P B n st ops Q done (o :: rest) :=
  WR.op (sl := rd ops o) (ns := []) (wn := []) (d := ⟨[(d, r)], []⟩) (opok_call0 hf hg ho hd hc hl hw con) rfl rfl h

/-- Guarded ones. -/
theorem WL.gcall0 {ops rest : List Oper} {o : Oper} {f d j : Nat} {want g : Bool} {ys : List SV} {l : List Prop} {c : Option Operand} {r : SV} (hf : HasBody P f) (hg : o.guard = some (j, want)) (ho : o.dst = some d) (hd : inB n d = true) (hgc : gcond ops (pickL st.S (rd ops o)) j want = some g)
    (hc : callee B.G (pickL st.S (rd ops o)) o.op = some (f, ys, l, c)) (hl : g = true → vcs l) (hw : wfBs [] ys = true) (con : g = true → Con P B.wg B.G f ys [] r []) (h : WL P B n ⟨(d, .g g r) :: st.S, st.O⟩ ops Q rest) : WL P B n st ops Q (o :: rest) := by
  have := OpOk.gcall (P := P) (B := B) (n := n) (ops := ops) (Q := Q) (o := o) (st := st) (sl := rd ops o) (ns := []) (ws := []) hf hg ho hd hgc hc hl con (rens_nil ys).symm hw
  rw [ren_nil] at this
  exact WL.op this h
theorem WR.gcall0 {ops rest : List Oper} {o : Oper} {done : List Key} {f d j : Nat} {want g : Bool} {ys : List SV} {l : List Prop} {c : Option Operand} {r : SV} (hf : HasBody P f) (hg : o.guard = some (j, want)) (ho : o.dst = some d) (hd : inB n d = true) (hgc : gcond ops (pickL st.S (rd ops o)) j want = some g)
    (hc : callee B.G (pickL st.S (rd ops o)) o.op = some (f, ys, l, c)) (hl : g = true → vcs l) (hw : wfBs [] ys = true) (con : g = true → Con P B.wg B.G f ys [] r []) (h : WR P B n ⟨(d, .g g r) :: st.S, st.O⟩ ops Q (done ++ [⟨rd ops o, [], [d], []⟩]) rest) : WR P B n st ops Q done (o :: rest) := by
  have := OpOk.gcall (P := P) (B := B) (n := n) (ops := ops) (Q := Q) (o := o) (st := st) (sl := rd ops o) (ns := []) (ws := [d]) hf hg ho hd hgc hc hl con (rens_nil ys).symm hw
  rw [ren_nil] at this
  exact WR.op (sl := rd ops o) (ns := []) (wn := []) (d := ⟨[(d, .g g r)], []⟩) this rfl rfl h

/-! ### Calls with things of the caller's own -/

/-- Lists put together, written out. -/
def appK {α β : Type} : List α → List α → (List α → β) → β
  | [], l, k => k l
  | x :: r, l, k => appK r l fun l' => k (x :: l')
theorem appK_eq {α β : Type} : ∀ (r l : List α) (k : List α → β), appK r l k = k (r ++ l)
  | [], l, k => rfl
  | x :: r, l, k => by simp [appK, appK_eq r]
def addK (st : St) (s : List (Nat × SV)) (o : List (Nat × Ob)) : Option St := appK s st.S fun S => appK o st.O fun O => some ⟨S, O⟩
theorem addK_eq {st st' : St} {s : List (Nat × SV)} {o : List (Nat × Ob)} (h : addK st s o = some st') : st.add ⟨s, o⟩ = st' := by
  unfold addK at h
  simp only [appK_eq, Option.some.injEq] at h
  exact h

theorem WL.callO {ops rest : List Oper} {o : Oper} {f : Nat} {ys : List SV} {l : List Prop} {c : Option Operand} {args : List SV} {O O' : List (Nat × Ob)} {r : SV} {d : Nat} {st' : St} (π π' : List (Nat × Nat)) (ns : List Nat) (hf : HasBody P f) (hg : o.guard = none) (ho : o.dst = some d) (hd : inB n d = true)
    (hc : callee B.G (pickL st.S (rd ops o)) o.op = some (f, ys, l, c)) (hl : vcs l) (con : Con P B.wg B.G f args O r O') (hargs : ys = rens π args) (hw : wfBs O args = true) (hO : subO π (pickL st.O ns) O) (hwO : wfAllO O O = true) (hinj : injB π O = true) (hcov : covB π π' O' O = true)
    (hfr : freshB π' ns O (pickL st.O ns) O' = true) (hiN : injN π' O' = true) (hst : addK st [(d, ren π' r)] (outO π' O') = some st') (h : WL P B n st' ops Q rest) : WL P B n st ops Q (o :: rest) := by
  have := OpOk.call (P := P) (B := B) (n := n) (ops := ops) (Q := Q) (o := o) (st := st) (sl := rd ops o) (ns := ns) (ws := []) π π' hf hg (fun d' e => by rw [ho] at e; cases e; exact hd) hc hl con hargs hw hO hwO hinj hcov hfr hiN
  rw [ho] at this
  refine WL.op this ?_
  show WL P B n (st.add ⟨[(d, ren π' r)], outO π' O'⟩) ops Q rest
  rw [addK_eq hst]; exact h

theorem WR.callO {ops rest : List Oper} {o : Oper} {done : List Key} {f : Nat} {ys : List SV} {l : List Prop} {c : Option Operand} {args : List SV} {O O' : List (Nat × Ob)} {r : SV} {d : Nat} {st' : St} (π π' : List (Nat × Nat)) (ns : List Nat) (hf : HasBody P f) (hg : o.guard = none) (ho : o.dst = some d) (hd : inB n d = true)
    (hc : callee B.G (pickL st.S (rd ops o)) o.op = some (f, ys, l, c)) (hl : vcs l) (con : Con P B.wg B.G f args O r O') (hargs : ys = rens π args) (hw : wfBs O args = true) (hO : subO π (pickL st.O ns) O) (hwO : wfAllO O O = true) (hinj : injB π O = true) (hcov : covB π π' O' O = true)
    (hfr : freshB π' ns O (pickL st.O ns) O' = true) (hiN : injN π' O' = true) (hst : addK st [(d, ren π' r)] (outO π' O') = some st') (h : WR P B n st' ops Q (done ++ [⟨rd ops o, ns, [d], wnO π' O'⟩]) rest) : WR P B n st ops Q done (o :: rest) := by
  have := OpOk.call (P := P) (B := B) (n := n) (ops := ops) (Q := Q) (o := o) (st := st) (sl := rd ops o) (ns := ns) (ws := [d]) π π' hf hg (fun d' e => by rw [ho] at e; cases e; exact hd) hc hl con hargs hw hO hwO hinj hcov hfr hiN
  rw [ho] at this
  refine WR.cons ⟨rfl, fun k hk => by rw [← wnO_eq]; exact hk, fun k hk => ?_⟩ this ?_
  · obtain ⟨k', h1, h2⟩ := mem_wnO hk
    rw [← h2]; exact (freshB_spec hfr k' h1).1
  · show WR P B n (st.add ⟨[(d, ren π' r)], outO π' O'⟩) ops Q _ rest
    rw [addK_eq hst]; exact h

/-! ### Quiet operations with a law of their own -/

/-- What is to be shown of such an operation. -/
def QOk (P : Program) (B : Base) (n : Nat) (o : Oper) (sl ns : List Nat) (view : St) (x : SV) : Prop :=
  ∀ st' a ρ w L, Agree sl ns view st' → Sat B n st' ρ a w L → ∃ v, (execOp a.eval o).run P w = .ok (.value v) w ∧ VRep (nmO st'.O) ρ w (un B.F L) x v

theorem opok_quiet {ops : List Oper} {o : Oper} {sl ns ws : List Nat} {d : Nat} {x : SV} (hg : o.guard = none) (ho : o.dst = some d) (hd : inB n d = true) (h : QOk P B n o sl ns st x) : OpOk P B n ops Q o ⟨sl, ns, ws, []⟩ st ⟨[(d, x)], []⟩ := by
  intro st' a ρ w L K hag hs hK
  obtain ⟨v, h1, h2⟩ := h st' a ρ w L hag hs
  exact wpO_value hg h1 (by rw [ho]; exact hK _ _ ⟨ρ, L, sat_put hs hd h2⟩)
theorem opok_gquiet {ops : List Oper} {o : Oper} {sl ns ws : List Nat} {d j : Nat} {want g : Bool} {x : SV} (hg : o.guard = some (j, want)) (ho : o.dst = some d) (hd : inB n d = true) (hgc : gcond ops (pickL st.S sl) j want = some g) (h : g = true → QOk P B n o sl ns st x) : OpOk P B n ops Q o ⟨sl, ns, ws, []⟩ st ⟨[(d, .g g x)], []⟩ := by
  intro st' a ρ w L K hag hs hK
  have hS : ∀ t x, get (pickL st.S sl) t = some x → get st'.S t = some x := fun t x ht => by obtain ⟨h1, h2⟩ := pickL_some ht; rw [hag.S t h1]; exact h2
  have hwd : Region.wanted o (yielded ops.toArray a.tmps) = g := by simp only [Region.wanted, hg]; exact gcond_sound hs hS hgc
  unfold wpO
  rw [hwd]
  cases g with
  | true =>
    obtain ⟨v, h1, h2⟩ := h rfl st' a ρ w L hag hs
    rw [if_pos rfl]
    simp only [Oper.wp, h1, Oper.upon, ho]
    exact hK _ _ ⟨ρ, L, sat_put hs (x := .g true x) hd (by simp only [VRep]; exact ⟨fun _ => h2, (fun h => by cases h)⟩)⟩
  | false =>
    rw [if_neg (by simp), ho]
    exact hK _ _ ⟨ρ, L, sat_put hs (x := .g false x) hd (by simp only [VRep]; exact ⟨(fun h => by cases h), fun _ => trivial⟩)⟩

theorem WL.q {ops rest : List Oper} {o : Oper} {d : Nat} {x : SV} (ns : List Nat) (hg : o.guard = none) (ho : o.dst = some d) (hd : inB n d = true) (hq : QOk P B n o (rd ops o) ns st x) (h : WL P B n ⟨(d, x) :: st.S, st.O⟩ ops Q rest) : WL P B n st ops Q (o :: rest) :=
  WL.op (opok_quiet (ws := []) hg ho hd hq) h
theorem WR.q {ops rest : List Oper} {o : Oper} {done : List Key} {d : Nat} {x : SV} (ns : List Nat) (hg : o.guard = none) (ho : o.dst = some d) (hd : inB n d = true) (hq : QOk P B n o (rd ops o) ns st x) (h : WR P B n ⟨(d, x) :: st.S, st.O⟩ ops Q (done ++ [⟨rd ops o, ns, [d], []⟩]) rest) : WR P B n st ops Q done (o :: rest) :=
  WR.op (wn := []) (d := ⟨[(d, x)], []⟩) (opok_quiet hg ho hd hq) rfl rfl h
theorem WL.gq {ops rest : List Oper} {o : Oper} {d j : Nat} {want g : Bool} {x : SV} (ns : List Nat) (hg : o.guard = some (j, want)) (ho : o.dst = some d) (hd : inB n d = true) (hgc : gcond ops (pickL st.S (rd ops o)) j want = some g) (hq : g = true → QOk P B n o (rd ops o) ns st x) (h : WL P B n ⟨(d, .g g x) :: st.S, st.O⟩ ops Q rest) : WL P B n st ops Q (o :: rest) :=
  WL.op (opok_gquiet (ws := []) hg ho hd hgc hq) h
theorem WR.gq {ops rest : List Oper} {o : Oper} {done : List Key} {d j : Nat} {want g : Bool} {x : SV} (ns : List Nat) (hg : o.guard = some (j, want)) (ho : o.dst = some d) (hd : inB n d = true) (hgc : gcond ops (pickL st.S (rd ops o)) j want = some g) (hq : g = true → QOk P B n o (rd ops o) ns st x) (h : WR P B n ⟨(d, .g g x) :: st.S, st.O⟩ ops Q (done ++ [⟨rd ops o, ns, [d], []⟩]) rest) : WR P B n st ops Q done (o :: rest) :=
  WR.op (wn := []) (d := ⟨[(d, .g g x)], []⟩) (opok_gquiet hg ho hd hgc hq) rfl rfl h

/-- The address of an element of a slice that is only read. -/
def idxOf (tb : List (Nat × TI)) (G : List (Nat × List D)) (S : List (Nat × SV)) : Op → Option (List (List D) × Int × List Prop)
  | .indexAddr T x i =>
    match get tb T, o1 G S x, o1 G S i with
    | some ⟨_, _, _, _, _, some z, _⟩, some (.v d, l), some (.v (.int _ m), l2) => match asSl z d with | some es => some (es, m, l ++ l2) | none => none
    | _, _, _ => none
  | _ => none

theorem q_idx (hP : TblOk P tb) {o : Oper} {sl ns : List Nat} {es : List (List D)} {m : Int} {l : List Prop} {cs : List D} (h : idxOf tb B.G (pickL st.S sl) o.op = some (es, m, l)) (hl : vcs l) (h0 : 0 ≤ m) (he : es[m.toNat]? = some cs) : QOk P B n o sl ns st (.at cs 0) := by
  intro st' a ρ w L hag hs
  have hS : ∀ t x, get (pickL st.S sl) t = some x → get st'.S t = some x := fun t x ht => by obtain ⟨h1, h2⟩ := pickL_some ht; rw [hag.S t h1]; exact h2
  unfold idxOf at h
  split at h
  · rename_i T x i hop
    split at h
    · rename_i z so d l1 k m' l2 hT h1 h2
      split at h
      · rename_i es' hes
        cases h
        obtain ⟨v1, v2⟩ := vcs_append hl
        have e1 := o1_sound hs hS h1 v1
        have e2 := o1_sound hs hS h2 v2
        simp only [VRep] at e1 e2
        have e1 := asSl_sound hes e1
        simp only [Rep] at e1 e2
        obtain ⟨base, cap, e1, e3, e4, e5⟩ := e1
        have hlt := (List.getElem?_eq_some_iff.1 he).1
        cases hb : base with
        | none => have := e4 hb; subst this; simp at he
        | some ad =>
          obtain ⟨h5, h6, h7, h8⟩ := e5 ad hb (fun h => by subst h; simp at he)
          obtain ⟨b, o', e⟩ := ad
          simp only at h5; subst h5; subst hb
          obtain ⟨us, g1, g2, g3⟩ := h8.get he
          obtain ⟨el, hd, hsz⟩ := el_size (hP.get hT) rfl w
          refine ⟨.pointer (some ⟨b, o' + m.toNat * z, none⟩), ?_, ?_⟩
          · have hi : 0 ≤ m ∧ m < (es.length : Int) := ⟨h0, by omega⟩
            simp only [execOp, hop, e1, e2, Instr.indexAt, asIntOf, Sem.run_bind, Sem.run_pure, hd, Result.andThen_ok, if_pos hi, hsz, Addr.add_lit]
          · simp only [VRep]
            exact ⟨b, o' + m.toNat * z, us, rfl, h6, h7, g1, g3⟩
      · cases h
    · cases h
  · cases h

theorem map_get {α : Type} {f : α → List D} {xs : List α} {i : Nat} {x : α} (h : xs[i]? = some x) : (xs.map f)[i]? = some (f x) := by simp [h]

/-! ### What is known, in other words -/

theorem Le.nil (z : Nat) : Le (.v (.raw (.slice none 0 0))) (.v (.sl z [])) := fun N ρ w X v h => by
  simp only [VRep] at h ⊢; exact asSl_sound (z := z) rfl h
theorem Le.of {x y : SV} (h : x = y) : Le x y := fun _ _ _ _ _ hv => h ▸ hv

theorem sat_weaken (hs : Sat B n st ρ a w L) {t : Nat} {x y : SV} (hx : get st.S t = some x) (hle : Le x y) : Sat B n ⟨(t, y) :: st.S, st.O⟩ ρ a w L := by
  refine hs.go (Step.refl _ _) (fun b hb => hs.low b (.inr hb)) (fun _ h => ⟨h, rfl⟩) hs.size hs.defers (fun t' z hz => ?_) hs.obj hs.inj
  by_cases e : t = t'
  · subst e; rw [get_cons_self] at hz; cases hz
    obtain ⟨v, h1, h2⟩ := hs.slot t x hx
    exact ⟨v, h1, hle _ _ _ _ _ h2⟩
  · rw [get_cons_ne _ _ e] at hz; exact hs.slot t' z hz
theorem WC.weaken {c : Code} (t : Nat) (y : SV) {x : SV} (hx : get st.S t = some x) (hle : Le x y) (h : WC P B n ⟨(t, y) :: st.S, st.O⟩ c Q) : WC P B n st c Q := fun a ρ w L hs => h a ρ w L (sat_weaken hs hx hle)
theorem WQ.weaken {e : Exit} (t : Nat) (y : SV) {x : SV} (hx : get st.S t = some x) (hle : Le x y) (h : WQ B n ⟨(t, y) :: st.S, st.O⟩ Q e) : WQ B n st Q e := fun a ρ w L hs => h a ρ w L (sat_weaken hs hx hle)
theorem WL.weaken {ops rest : List Oper} (t : Nat) (y : SV) {x : SV} (hx : get st.S t = some x) (hle : Le x y) (h : WL P B n ⟨(t, y) :: st.S, st.O⟩ ops Q rest) : WL P B n st ops Q rest := fun a ρ w L hs => h a ρ w L (sat_weaken hs hx hle)

def LeO (x y : Ob) : Prop := ∀ N ρ w X L v, ObOk N ρ w X L v x → ObOk N ρ w X L v y
inductive LeS : List SV → List SV → Prop
  | nil : LeS [] []
  | cons {x y : SV} {xs ys : List SV} (h : Le x y) (hs : LeS xs ys) : LeS (x :: xs) (y :: ys)
theorem LeS.reps {xs ys : List SV} (h : LeS xs ys) : ∀ {N ρ w X vs}, VReps N ρ w X xs vs → VReps N ρ w X ys vs := by
  induction h with
  | nil => intro N ρ w X vs h; exact h
  | cons h1 hs ih =>
    intro N ρ w X vs hv
    simp only [VReps] at hv ⊢
    obtain ⟨v, r, e, h2, h3⟩ := hv
    exact ⟨v, r, e, h1 _ _ _ _ _ h2, ih h3⟩
theorem LeO.blk {ty : Nat} {xs ys : List SV} (h : LeS xs ys) : LeO (.blk ty xs) (.blk ty ys) := fun N ρ w X L v hv => by
  obtain ⟨b, vs, h1, h2, h3, h4⟩ := hv
  exact ⟨b, vs, h1, h2, h3, h.reps h4⟩
theorem sat_weakenO (hs : Sat B n st ρ a w L) {k : Nat} {x y : Ob} (hx : get st.O k = some x) (hle : LeO x y) (hl : y.live = x.live) : Sat B n ⟨st.S, (k, y) :: st.O⟩ ρ a w L := by
  have hN : nmO ((k, y) :: st.O) = nmO st.O := funext fun j => by
    unfold nmO
    by_cases e : k = j
    · subst e; rw [get_cons_self, hx]; rfl
    · rw [get_cons_ne _ _ e]
  refine hs.go (Step.refl _ _) (fun b hb => hs.low b (.inr hb)) (fun j h => ⟨nmO_cons h, rfl⟩) hs.size hs.defers (fun t z hz => ?_) (fun j o hj => ?_) (fun j o j' o' hj hj' hne l1 l2 => ?_)
  · rw [hN]; exact hs.slot t z hz
  · rw [hN]
    by_cases e : k = j
    · subst e; rw [get_cons_self] at hj; cases hj; exact hle _ _ _ _ _ _ (hs.obj k x hx)
    · rw [get_cons_ne _ _ e] at hj; exact hs.obj j o hj
  · have key : ∀ {j o}, get ((k, y) :: st.O) j = some o → o.live = true → ∃ o3, get st.O j = some o3 ∧ o3.live = true := fun {j o} h l => by
      by_cases e : k = j
      · subst e; rw [get_cons_self] at h; cases h; exact ⟨x, hx, by rw [← hl]; exact l⟩
      · rw [get_cons_ne _ _ e] at h; exact ⟨o, h, l⟩
    obtain ⟨o3, g1, g2⟩ := key hj l1
    obtain ⟨o4, g3, g4⟩ := key hj' l2
    exact hs.inj j o3 j' o4 g1 g3 hne g2 g4
theorem WC.weakenO {c : Code} (k : Nat) (y : Ob) {x : Ob} (hx : get st.O k = some x) (hle : LeO x y) (hl : y.live = x.live) (h : WC P B n ⟨st.S, (k, y) :: st.O⟩ c Q) : WC P B n st c Q := fun a ρ w L hs => h a ρ w L (sat_weakenO hs hx hle hl)
theorem WQ.weakenO {e : Exit} (k : Nat) (y : Ob) {x : Ob} (hx : get st.O k = some x) (hle : LeO x y) (hl : y.live = x.live) (h : WQ B n ⟨st.S, (k, y) :: st.O⟩ Q e) : WQ B n st Q e := fun a ρ w L hs => h a ρ w L (sat_weakenO hs hx hle hl)
theorem WL.weakenO {ops rest : List Oper} (k : Nat) (y : Ob) {x : Ob} (hx : get st.O k = some x) (hle : LeO x y) (hl : y.live = x.live) (h : WL P B n ⟨st.S, (k, y) :: st.O⟩ ops Q rest) : WL P B n st ops Q rest := fun a ρ w L hs => h a ρ w L (sat_weakenO hs hx hle hl)

/-- Data in other words. -/
inductive LeD : List D → List D → Prop
  | nil : LeD [] []
  | same {x : D} {xs ys : List D} (hs : LeD xs ys) : LeD (x :: xs) (x :: ys)
  | sl (z : Nat) {xs ys : List D} (hs : LeD xs ys) : LeD (.raw (.slice none 0 0) :: xs) (.sl z [] :: ys)
theorem LeD.reps {xs ys : List D} (h : LeD xs ys) : ∀ {w X vs}, Reps w X xs vs → Reps w X ys vs := by
  induction h with
  | nil => intro w X vs h; exact h
  | same hs ih =>
    intro w X vs hv
    simp only [Reps] at hv ⊢
    obtain ⟨v, r, e, h2, h3⟩ := hv
    exact ⟨v, r, e, h2, ih h3⟩
  | sl z hs ih =>
    intro w X vs hv
    simp only [Reps] at hv ⊢
    obtain ⟨v, r, e, h2, h3⟩ := hv
    exact ⟨v, r, e, asSl_sound (z := z) rfl h2, ih h3⟩
theorem Le.agg {xs ys : List D} (h : LeD xs ys) : Le (.v (.agg xs)) (.v (.agg ys)) := fun N ρ w X v hv => by
  simp only [VRep, Rep] at hv ⊢
  obtain ⟨cs, h1, h2⟩ := hv
  exact ⟨cs, h1, h.reps h2⟩
theorem Le.tup {xs ys : List SV} (h : LeS xs ys) : Le (.tup xs) (.tup ys) := fun N ρ w X v hv => by
  simp only [VRep] at hv ⊢
  obtain ⟨cs, h1, h2⟩ := hv
  exact ⟨cs, h1, h.reps h2⟩

theorem con_le {wg : World} {G : List (Nat × List D)} {f : FuncId} {ys args : List SV} {O O' : List (Nat × Ob)} {r : SV} (h : LeS ys args) (con : Con P wg G f args O r O') : Con P wg G f ys O r O' :=
  fun w ρ F L vals h1 h2 h3 h4 h5 h6 => con w ρ F L vals h1 h2 h3 h4 h5 (h.reps h6)

/-! ### For plain functions -/

theorem ite_t {α : Type} {b : Bool} {x y : Option α} {r : α} (hb : b = true) (h : (if b = true then x else y) = some r) : x = some r := by rwa [if_pos hb] at h
theorem ite_f {α : Type} {b : Bool} {x y : Option α} {r : α} (hb : b = false) (h : (if b = true then x else y) = some r) : y = some r := by rwa [if_neg (by rw [hb]; simp)] at h
theorem grd {α : Type} {p : Prop} [Decidable p] {x : Option α} {r : α} (h : (if p then x else none) = some r) : p ∧ x = some r := by
  split at h
  · rename_i hp; exact ⟨hp, h⟩
  · cases h
theorem bnd {α β : Type} {m : Option α} {k : α → Option β} {r : β} (h : m.bind k = some r) : ∃ v, m = some v ∧ k v = some r := by
  cases m with
  | none => cases h
  | some v => exact ⟨v, rfl, h⟩
theorem some_of {α : Type} {m : Option α} (h : m ≠ none) : ∃ v, m = some v := by
  cases m with
  | none => exact absurd rfl h
  | some v => exact ⟨v, rfl⟩

theorem and_l {a b : Bool} (h : (a && b) = true) : a = true := by cases a <;> simp_all
theorem and_i {a b : Bool} (h : a = true) (h' : b = true) : (a && b) = true := by cases a <;> simp_all
theorem not_i {a : Bool} (h : a = false) : (!a) = true := by cases a <;> simp_all

end Go.V
