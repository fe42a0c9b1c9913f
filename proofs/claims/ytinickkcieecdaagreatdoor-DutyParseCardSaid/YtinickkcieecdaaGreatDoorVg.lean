/- The engine: judgements and their rules. No program in sight. -/
import Derived.Test.YtinickkcieecdaaGreatDoorVf
set_option linter.unusedVariables false
namespace Go.V
open Go.RowKit

section
variable (P : Program) (B : Base) (n : Nat) (st : St)
/-- A region's operations, in order. -/
def WL (ops : List Oper) (Q : Exit → Act → World → Prop) (rest : List Oper) : Prop := ∀ a ρ w L, Sat B n st ρ a w L → wpList P ops.toArray Q rest a w
/-- A piece of code. -/
def WC (c : Code) (Q : Exit → Act → World → Prop) : Prop := ∀ a ρ w L, Sat B n st ρ a w L → c.wp P Q a w
/-- What is asked behind it. -/
def WQ (Q : Exit → Act → World → Prop) (e : Exit) : Prop := ∀ a ρ w L, Sat B n st ρ a w L → Q e a w
/-- The rest of a region that draws its order, 'done' being what stands ahead of it. -/
def WR (ops : List Oper) (Q : Exit → Act → World → Prop) (done : List Key) (rest : List Oper) : Prop :=
  (∀ j o, rest[j]? = some o → ops[done.length + j]? = some o) → done.length + rest.length = ops.length →
  ∃ infos : List Info, infos.length = rest.length ∧ (∀ inf, inf ∈ infos → keyOk inf) ∧ (∀ j inf o, infos[j]? = some inf → rest[j]? = some o → OpOk P B n ops Q o inf.key (viewOf st (infos.map (·.d)) j) inf.d) ∧
    chk 0 ops (done ++ infos.map (·.key)) = true ∧ ∀ a w', After B n (viewOf st (infos.map (·.d)) infos.length) a w' → Q .normal a w'
end

variable {P : Program} {n : Nat} {B : Base} {st : St} {tb : List (Nat × TI)} {Q : Exit → Act → World → Prop}

theorem WC.seq {x y : Code} (h : WC P B n st x (Exit.then (y.wp P Q) Q)) : WC P B n st (.seq x y) Q := fun a ρ w L hs => wp_seq (h a ρ w L hs)
theorem WC.skip (h : WQ B n st Q .normal) : WC P B n st .skip Q := fun a ρ w L hs => wp_skip (h a ρ w L hs)
theorem WC.ret (h : WQ B n st Q .ret) : WC P B n st .ret Q := fun a ρ w L hs => wp_ret (h a ρ w L hs)
theorem WC.exit {id : Nat} (h : WQ B n st Q (.exit id)) : WC P B n st (.exit id) Q := fun a ρ w L hs => wp_exit (h a ρ w L hs)
theorem WC.block {id : Nat} {c : Code} (h : WC P B n st c (Exit.inBlock id Q)) : WC P B n st (.block id c) Q := fun a ρ w L hs => wp_block (h a ρ w L hs)
theorem WC.cond {c : Operand} {x y : Code} {b : Bool} (hc : opnd B.G st.S c = some (.v (.bool b))) (ht : b = true → WC P B n st x Q) (hf : b = false → WC P B n st y Q) :
    WC P B n st (.cond c x y) Q := fun a ρ w L hs => by
  have h := opnd_sound hs (fun _ _ h => h) hc
  simp only [VRep, Rep] at h
  exact wp_cond_split (t := b) h (fun h => ht h a ρ w L hs) (fun h => hf h a ρ w L hs)
theorem WC.region {id : Nat} {l : List Oper} (h : WL P B n st l Q l) : WC P B n st (.region id l.toArray false) Q := fun a ρ w L hs => wp_region_lit (h a ρ w L hs)

theorem WQ.thenNormal {y : Code} (h : WC P B n st y Q) : WQ B n st (Exit.then (y.wp P Q) Q) .normal := h
theorem WQ.thenRet {K : Act → World → Prop} (h : WQ B n st Q .ret) : WQ B n st (Exit.then K Q) .ret := h
theorem WQ.thenExit {K : Act → World → Prop} {id : Nat} (h : WQ B n st Q (.exit id)) : WQ B n st (Exit.then K Q) (.exit id) := h
theorem WQ.blockNormal {id : Nat} (h : WQ B n st Q .normal) : WQ B n st (Exit.inBlock id Q) .normal := h
theorem WQ.blockRet {id : Nat} (h : WQ B n st Q .ret) : WQ B n st (Exit.inBlock id Q) .ret := h
theorem WQ.blockExit {id : Nat} (h : WQ B n st Q .normal) : WQ B n st (Exit.inBlock id Q) (.exit id) := fun a ρ w L hs => by
  show (if id = id then _ else _); rw [if_pos rfl]; exact h a ρ w L hs
theorem WQ.blockPass {id id' : Nat} (hne : Nat.beq id' id = false) (h : WQ B n st Q (.exit id')) : WQ B n st (Exit.inBlock id Q) (.exit id') := fun a ρ w L hs => by
  show (if id' = id then _ else _); rw [if_neg (fun e => by rw [e, Nat.beq_refl] at hne; cases hne)]; exact h a ρ w L hs

theorem WL.nil {ops : List Oper} (h : WQ B n st Q .normal) : WL P B n st ops Q [] := fun a ρ w L hs => wpList_nil (h a ρ w L hs)

theorem WL.op {ops rest : List Oper} {o : Oper} {k : Key} {d : Dl} (hok : OpOk P B n ops Q o k st d) (h : WL P B n (st.add d) ops Q rest) : WL P B n st ops Q (o :: rest) := fun a ρ w L hs =>
  wpList_step fun K hK => hok st a ρ w L K ⟨fun _ _ => rfl, fun _ _ => rfl⟩ hs (fun a' w' ⟨ρ', L', s'⟩ => hK a' w' (h a' ρ' w' L' s'))

theorem add_opt (st : St) (s : Option (Nat × SV)) (o : Option (Nat × Ob)) : st.add ⟨optC s [], optC o []⟩ = ⟨optC s st.S, optC o st.O⟩ := by
  cases s <;> cases o <;> rfl

/-- Parts of what is known. -/
def pickL {α : Type} (l : List (Nat × α)) : List Nat → List (Nat × α)
  | [] => []
  | t :: r => match get l t with | some x => (t, x) :: pickL l r | none => pickL l r
theorem pickL_some {α : Type} {l : List (Nat × α)} {t : Nat} {x : α} : ∀ {ts : List Nat}, get (pickL l ts) t = some x → t ∈ ts ∧ get l t = some x
  | [], h => by simp [pickL, get] at h
  | s :: r, h => by
    simp only [pickL] at h
    split at h
    · rename_i y hy
      by_cases e : s = t
      · subst e; rw [get_cons_self] at h; cases h; exact ⟨by simp, hy⟩
      · rw [get_cons_ne _ _ e] at h; obtain ⟨h1, h2⟩ := pickL_some h; exact ⟨by simp [h1], h2⟩
    · obtain ⟨h1, h2⟩ := pickL_some h; exact ⟨by simp [h1], h2⟩
theorem pickL_none {α : Type} {l : List (Nat × α)} {t : Nat} : ∀ {ts : List Nat}, t ∈ ts → get (pickL l ts) t = none → get l t = none
  | [], h, _ => by simp at h
  | s :: r, h, hn => by
    simp only [pickL] at hn
    split at hn
    · rename_i y hy
      by_cases e : s = t
      · subst e; rw [get_cons_self] at hn; cases hn
      · rw [get_cons_ne _ _ e] at hn
        rcases List.mem_cons.1 h with h | h
        · exact absurd h.symm e
        · exact pickL_none h hn
    · rename_i hy
      rcases List.mem_cons.1 h with h | h
      · subst h; exact hy
      · exact pickL_none h hn

mutual
/-- The names that a symbolic value bears. -/
def nm : SV → List Nat
  | .v _ => []
  | .g _ x => nm x
  | .p k _ => [k]
  | .at _ _ => []
  | .r k => [k]
  | .re k _ _ _ => [k]
  | .sp k => [k]
  | .fn _ caps => nms caps
  | .tup xs => nms xs
  | .u => []
def nms : List SV → List Nat
  | [] => []
  | x :: r => nm x ++ nms r
end
def nmsOf (S : List (Nat × SV)) : List Nat → List Nat
  | [] => []
  | t :: r => match get S t with | some x => nm x ++ nmsOf S r | none => nmsOf S r
/-- The slots that an operation looks at. -/
def rd (ops : List Oper) (o : Oper) : List Nat := o.looksAt ops.toArray
def subL (l : List Nat) : List Nat → Bool
  | [] => true
  | x :: r => match has x l with | true => subL l r | false => false
theorem subL_spec {l : List Nat} : ∀ {r : List Nat}, subL l r = true → ∀ k, k ∈ r → k ∈ l
  | [], _, k, h => by cases h
  | x :: r, h, k, hk => by
    simp only [subL] at h
    split at h
    · rename_i hx
      rcases List.mem_cons.1 hk with rfl | hk
      · exact has_iff.1 hx
      · exact subL_spec h k hk
    · cases h
def okO (wn : List Nat) : Option (Nat × Ob) → Bool
  | some (k, _) => has k wn
  | none => true

theorem OpOk.run (hP : TblOk P tb) {ops : List Oper} {o : Oper} {sl ns ws : List Nat} {s : Option (Nat × SV)} {oo : Option (Nat × Ob)} {wn : List Nat} {l : List Prop} (h : dA tb B.G n ops o (pickL st.S sl) (pickL st.O ns) = .yes s oo wn l) (hv : vcs l) (hwn : subL ns wn = true) :
    OpOk P B n ops Q o ⟨sl, ns, ws, wn⟩ st ⟨optC s [], optC oo []⟩ := by
  intro st' a ρ w L K hag hs hK
  refine dA_core hP hs (S := pickL st.S sl) (O := pickL st.O ns) (fun t x ht => ?_) (fun k o' hk => ?_) h hv (fun k hk hn => ?_) (fun a' ρ' w' L' s' => hK a' w' ⟨ρ', L', by rw [add_opt]; exact s'⟩)
  · obtain ⟨h1, h2⟩ := pickL_some ht; rw [hag.S t h1]; exact h2
  · obtain ⟨h1, h2⟩ := pickL_some hk; rw [hag.O k h1]; exact h2
  · have := subL_spec hwn k hk
    rw [hag.O k this]; exact pickL_none this hn

def optK {α β : Type} : Option α → List α → (List α → β) → β
  | some x, l, k => k (x :: l)
  | none, l, k => k l
theorem optK_eq {α β : Type} (o : Option α) (l : List α) (k : List α → β) : optK o l k = k (optC o l) := by cases o <;> rfl

/-- The next k operations. -/
def run (tb : List (Nat × TI)) (G : List (Nat × List D)) (n : Nat) (ops : List Oper) : Nat → List Oper → St → List Prop → Option (St × List Prop × List Oper)
  | 0, rest, st, acc => some (st, acc, rest)
  | _ + 1, [], st, acc => none
  | k + 1, o :: rest, ⟨S, O⟩, acc =>
    match dA tb G n ops o S O with
    | .yes s oo _ l => pushK l acc fun acc' => optK s S fun S' => optK oo O fun O' => run tb G n ops k rest ⟨S', O'⟩ acc'
    | .no => none

theorem run_acc {G : List (Nat × List D)} {ops : List Oper} : ∀ {k : Nat} {rest : List Oper} {st : St} {acc : List Prop} {st' : St} {vc : List Prop} {rest' : List Oper},
    run tb G n ops k rest st acc = some (st', vc, rest') → vcs vc → vcs acc
  | 0, rest, st, acc, st', vc, rest', h, hv => by simp only [run] at h; cases h; exact hv
  | _ + 1, [], st, acc, st', vc, rest', h, hv => by simp only [run] at h; cases h
  | k + 1, o :: rest, ⟨S, O⟩, acc, st', vc, rest', h, hv => by
    simp only [run, pushK_eq, optK_eq] at h
    split at h
    · exact (vcs_append (run_acc h hv)).2
    · cases h

theorem WL.run (hP : TblOk P tb) {ops : List Oper} : ∀ (k : Nat) {rest : List Oper} {st : St} {acc : List Prop} {st' : St} {vc : List Prop} {rest' : List Oper},
    V.run tb B.G n ops k rest st acc = some (st', vc, rest') → vcs vc → WL P B n st' ops Q rest' → WL P B n st ops Q rest
  | 0, rest, st, acc, st', vc, rest', h, hv, hk => by simp only [V.run] at h; cases h; exact hk
  | _ + 1, [], st, acc, st', vc, rest', h, hv, hk => by simp only [V.run] at h; cases h
  | k + 1, o :: rest, ⟨S, O⟩, acc, st', vc, rest', h, hv, hk => by
    simp only [V.run, pushK_eq, optK_eq] at h
    split at h
    · rename_i s oo wn l h1
      have hv1 := vcs_reverse (vcs_append (run_acc h hv)).1
      have ih := WL.run hP k h hv hk
      intro a ρ w L hs
      exact wpList_step fun K hK => dA_core hP hs (fun _ _ h => h) (fun _ _ h => h) h1 hv1 (fun _ _ h => h) (fun a' ρ' w' L' s' => hK a' w' (ih a' ρ' w' L' s'))
    · cases h

/-! ### Regions that draw their order -/

theorem stX_shift {f : Nat → Bool} : ∀ {ds : List Dl} {st : St} {i : Nat}, stX st ds f (i + 1) = stX st ds (fun k => f (k + 1)) i
  | [], st, i => rfl
  | d :: r, st, i => by simp only [stX]; rw [stX_shift]
theorem viewOf_zero (st : St) (ds : List Dl) : viewOf st ds 0 = st := by
  unfold viewOf
  have : ∀ (ds : List Dl) (st : St) (i : Nat), stX st ds (fun j => decide (j < 0)) i = st := fun ds => by
    induction ds with
    | nil => intros; rfl
    | cons d r ih => intro st i; simp only [stX, Nat.not_lt_zero, decide_false, Bool.false_eq_true, if_false]; exact ih _ _
  exact this _ _ _
theorem viewOf_succ (st : St) (d : Dl) (ds : List Dl) (j : Nat) : viewOf st (d :: ds) (j + 1) = viewOf (st.add d) ds j := by
  unfold viewOf
  simp only [stX, Nat.zero_lt_succ, decide_true, if_true]
  rw [stX_shift]
  congr 1
  funext k
  simp

theorem WR.cons {ops rest : List Oper} {o : Oper} {done : List Key} {k : Key} {d : Dl} (hk : keyOk ⟨k, d⟩) (hok : OpOk P B n ops Q o k st d) (h : WR P B n (st.add d) ops Q (done ++ [k]) rest) : WR P B n st ops Q done (o :: rest) := by
  intro hops hlen
  obtain ⟨infos, h1, h2, h3, h4, h5⟩ := h (fun j o' hj => by have := hops (j + 1) o' (by simpa using hj); simpa [Nat.add_assoc, Nat.add_comm 1 j] using this) (by simp at hlen ⊢; omega)
  refine ⟨⟨k, d⟩ :: infos, by simp [h1], fun inf hi => ?_, fun j inf o' hj ho' => ?_, by simpa using h4, ?_⟩
  · rcases List.mem_cons.1 hi with rfl | hi
    · exact hk
    · exact h2 inf hi
  · cases j with
    | zero => simp at hj ho'; subst hj; subst ho'; simp only [List.map_cons, viewOf_zero]; exact hok
    | succ j =>
      have := h3 j inf o' (by simpa using hj) (by simpa using ho')
      simp only [List.map_cons, viewOf_succ]
      exact this
  · simp only [List.map_cons, List.length_cons, viewOf_succ]
    exact h5

theorem WR.nil {ops : List Oper} {done : List Key} (hchk : chk 0 ops done = true) (h : WQ B n st Q .normal) : WR P B n st ops Q done [] := by
  intro hops hlen
  refine ⟨[], rfl, (fun inf hi => by cases hi), (fun j inf o hj => by simp at hj), by simpa using hchk, fun a w' ⟨ρ, L', s'⟩ => h a ρ w' L' (by simpa [viewOf, stX] using s')⟩

theorem WC.order {id : Nat} {l : List Oper} (hm : P.follows .mixedOrders = true) (h : WR P B n st l Q [] l) : WC P B n st (.region id l.toArray true) Q := by
  intro a ρ w L hs
  obtain ⟨infos, h1, h2, h3, h4, h5⟩ := h (fun j o hj => by simpa using hj) (by simp)
  refine wp_region_any hm ?_
  refine region_order (st := st) (n := n) infos h1 h2 (fun i inf o hi ho => h3 i inf o hi ho) (by simpa using h4) (fun a' w' ha => h5 a' w' (by rw [h1]; exact ha)) _ _ a _ ?_ ⟨by simp, fun j o _ hj => ?_⟩ ?_
  · simp
  · simp [lf, Array.getD_eq_getD_getElem?, Array.getElem?_replicate] at hj
    split at hj <;> simp at hj
  · have hz : ∀ (ds : List Dl) (st : St) (i : Nat), stX st ds (lf (Array.replicate l.toArray.size false)) i = st := fun ds => by
      induction ds with
      | nil => intros; rfl
      | cons d r ih =>
        intro st i
        have : lf (Array.replicate l.toArray.size false) i = false := by
          simp only [lf, Array.getD_eq_getD_getElem?, Array.getElem?_replicate]
          split <;> rfl
        simp only [stX, this, Bool.false_eq_true, if_false]; exact ih _ _
    rw [hz]
    have hb : Below w.heap.size w { w with drawn := w.drawn + 1 } := ⟨rfl, rfl, rfl, Nat.le_refl _, fun _ _ => rfl⟩
    exact ⟨ρ, L, hs.below hb⟩

def keysO : Option (Nat × SV) → List Nat
  | some (d, _) => [d]
  | none => []
theorem keysO_eq (s : Option (Nat × SV)) : (optC s []).map (·.1) = keysO s := by cases s <;> rfl
def dstL (o : Oper) : List Nat := match o.dst with | some d => [d] | none => []

/-- Whether an operation looks into a thing of the call's own. -/
def looksIn : Op → Bool
  | .load _ _ => true
  | .store _ _ _ => true
  | .call _ => true
  | _ => false
def nsOf (S : List (Nat × SV)) (sl : List Nat) (o : Oper) : List Nat := match looksIn o.op with | true => nmsOf S sl ++ dstL o | false => dstL o

/-- The next k operations, with what each touches. -/
def runR (tb : List (Nat × TI)) (G : List (Nat × List D)) (n : Nat) (ops : List Oper) : Nat → List Oper → St → List Prop → List Key → Option (St × List Prop × List Oper × List Key)
  | 0, rest, st, acc, ks => some (st, acc, rest, ks)
  | _ + 1, [], st, acc, ks => none
  | k + 1, o :: rest, ⟨S, O⟩, acc, ks =>
    forceL (rd ops o) fun sl => forceL (nsOf S sl o) fun ns =>
    match dA tb G n ops o (pickL S sl) (pickL O ns) with
    | .yes s oo wn l =>
      match subL ns wn, okO wn oo with
      | true, true => pushK l acc fun acc' => optK s S fun S' => optK oo O fun O' => runR tb G n ops k rest ⟨S', O'⟩ acc' (ks ++ [⟨sl, ns, keysO s, wn⟩])
      | _, _ => none
    | .no => none

theorem runR_acc {G : List (Nat × List D)} {ops : List Oper} : ∀ {k : Nat} {rest : List Oper} {st : St} {acc : List Prop} {ks : List Key} {st' : St} {vc : List Prop} {rest' : List Oper} {ks' : List Key},
    runR tb G n ops k rest st acc ks = some (st', vc, rest', ks') → vcs vc → vcs acc
  | 0, rest, st, acc, ks, st', vc, rest', ks', h, hv => by simp only [runR] at h; cases h; exact hv
  | _ + 1, [], st, acc, ks, st', vc, rest', ks', h, hv => by simp only [runR] at h; cases h
  | k + 1, o :: rest, ⟨S, O⟩, acc, ks, st', vc, rest', ks', h, hv => by
    simp only [runR, pushK_eq, optK_eq, forceL_eq] at h
    split at h
    · split at h
      · exact (vcs_append (runR_acc h hv)).2
      · cases h
    · cases h

theorem WR.run (hP : TblOk P tb) {ops : List Oper} : ∀ (k : Nat) {rest : List Oper} {st : St} {acc : List Prop} {done : List Key} {st' : St} {vc : List Prop} {rest' : List Oper} {ks' : List Key},
    runR tb B.G n ops k rest st acc done = some (st', vc, rest', ks') → vcs vc → WR P B n st' ops Q ks' rest' → WR P B n st ops Q done rest
  | 0, rest, st, acc, done, st', vc, rest', ks', h, hv, hk => by simp only [runR] at h; cases h; exact hk
  | _ + 1, [], st, acc, done, st', vc, rest', ks', h, hv, hk => by simp only [runR] at h; cases h
  | k + 1, o :: rest, ⟨S, O⟩, acc, done, st', vc, rest', ks', h, hv, hk => by
    simp only [runR, pushK_eq, optK_eq, forceL_eq] at h
    split at h
    · rename_i s oo wn l h1
      split at h
      · rename_i c1 c2
        have hv1 := vcs_reverse (vcs_append (runR_acc h hv)).1
        have ih := WR.run hP k h hv hk
        refine WR.cons (d := ⟨optC s [], optC oo []⟩) ⟨keysO_eq s, fun j hj => ?_, fun j hj => subL_spec c1 j hj⟩ (OpOk.run hP (st := ⟨S, O⟩) h1 hv1 c1) (by rw [add_opt]; exact ih)
        cases oo with
        | none => simp [optC] at hj
        | some p => simp [optC] at hj; subst hj; simpa [okO] using has_iff.1 c2
      · cases h
    · cases h

end Go.V
