/- Packed by pack.py. -/
import Derived.Test.YtaeplfiaahkgpaaGreatDoorQu0
import Derived.Laws.BytesArg
noncomputable section zVy
set_option linter.unusedVariables false
namespace Go.V
open Go.RowKit
section
variable (P : Program) (B : Base) (n : Nat) (st : St)
def WL (ops : List Oper) (Q : Exit → Act → World → Prop) (rest : List Oper) : Prop := ∀ a ρ w L, Sat B n st ρ a w L → wpList P ops.toArray Q rest a w
def WC (c : Code) (Q : Exit → Act → World → Prop) : Prop := ∀ a ρ w L, Sat B n st ρ a w L → c.wp P Q a w
def WQ (Q : Exit → Act → World → Prop) (e : Exit) : Prop := ∀ a ρ w L, Sat B n st ρ a w L → Q e a w
def WR (ops : List Oper) (Q : Exit → Act → World → Prop) (done : List Key) (rest : List Oper) : Prop :=
  (∀ j o, rest[j]? = some o → ops[done.length + j]? = some o) → done.length + rest.length = ops.length →
  ∃ infos : List Info, infos.length = rest.length ∧ (∀ inf, inf ∈ infos → keyOk inf) ∧ (∀ j inf o, infos[j]? = some inf → rest[j]? = some o → OpOk P B n ops Q o inf.key (viewOf st (infos.map (·.d)) j) inf.d) ∧
    chk 0 ops (done ++ infos.map (·.key)) = true ∧ ∀ a w', After B n (viewOf st (infos.map (·.d)) infos.length) a w' → Q .normal a w'
end
variable {P : Program} {n : Nat} {B : Base} {st : St} {tb : List (Nat × TI)} {Q : Exit → Act → World → Prop}
theorem WC.seq {x y : Code} (h : WC P B n st x (Exit.then (y.wp P Q) Q)) : WC P B n st (.seq x y) Q := fun a ρ w L hs => wp_seq (h a ρ w L hs)
theorem WC.skip (h : WQ B n st Q .normal) : WC P B n st .skip Q := fun a ρ w L hs => wp_skip (h a ρ w L hs)
theorem WC.ret (h : WQ B n st Q .ret) : WC P B n st .ret Q := fun a ρ w L hs => wp_ret (h a ρ w L hs)
theorem WC.exit {id : Nat} (h : WQ B n st Q (.exit id)) : WC P B n st (.exit id) Q := fun a ρ w L hs => wp_exit (h a ρ w L hs)
theorem WC.block {id : Nat} {c : Code} (h : WC P B n st c (Exit.inBlock id Q)) : WC P B n st (.block id c) Q := fun a ρ w L hs => wp_block (h a ρ w L hs)
theorem WC.cond {c : Operand} {x y : Code} {b : Bool} (hc : opnd B.G st.S c = some (.v (.bool b))) (ht : b = true → WC P B n st x Q) (hf : b = false → WC P B n st y Q) :
  WC P B n st (.cond c x y) Q := fun a ρ w L hs => by
 have h := opnd_sound hs (fun _ _ h => h) hc
 simp only [VRep, Rep] at h
 exact wp_cond_split (t := b) h (fun h => ht h a ρ w L hs) (fun h => hf h a ρ w L hs)
theorem WC.region {id : Nat} {l : List Oper} (h : WL P B n st l Q l) : WC P B n st (.region id l.toArray false) Q := fun a ρ w L hs => wp_region_lit (h a ρ w L hs)
theorem WQ.thenNormal {y : Code} (h : WC P B n st y Q) : WQ B n st (Exit.then (y.wp P Q) Q) .normal := h
theorem WQ.thenRet {K : Act → World → Prop} (h : WQ B n st Q .ret) : WQ B n st (Exit.then K Q) .ret := h
theorem WQ.thenExit {K : Act → World → Prop} {id : Nat} (h : WQ B n st Q (.exit id)) : WQ B n st (Exit.then K Q) (.exit id) := h
theorem WQ.blockNormal {id : Nat} (h : WQ B n st Q .normal) : WQ B n st (Exit.inBlock id Q) .normal := h
theorem WQ.blockRet {id : Nat} (h : WQ B n st Q .ret) : WQ B n st (Exit.inBlock id Q) .ret := h
theorem WQ.blockExit {id : Nat} (h : WQ B n st Q .normal) : WQ B n st (Exit.inBlock id Q) (.exit id) := fun a ρ w L hs => by
 show (if id = id then _ else _); rw [if_pos rfl]; exact h a ρ w L hs
theorem WQ.blockPass {id id' : Nat} (hne : Nat.beq id' id = false) (h : WQ B n st Q (.exit id')) : WQ B n st (Exit.inBlock id Q) (.exit id') := fun a ρ w L hs => by
 show (if id' = id then _ else _); rw [if_neg (fun e => by rw [e, Nat.beq_refl] at hne; cases hne)]; exact h a ρ w L hs
theorem WL.nil {ops : List Oper} (h : WQ B n st Q .normal) : WL P B n st ops Q [] := fun a ρ w L hs => wpList_nil (h a ρ w L hs)
theorem WL.op {ops rest : List Oper} {o : Oper} {k : Key} {d : Dl} (hok : OpOk P B n ops Q o k st d) (h : WL P B n (st.add d) ops Q rest) : WL P B n st ops Q (o :: rest) := fun a ρ w L hs =>
 wpList_step fun K hK => hok st a ρ w L K ⟨fun _ _ => rfl, fun _ _ => rfl⟩ hs (fun a' w' ⟨ρ', L', s'⟩ => hK a' w' (h a' ρ' w' L' s'))
theorem add_opt (st : St) (s : Option (Nat × SV)) (o : Option (Nat × Ob)) : st.add ⟨optC s [], optC o []⟩ = ⟨optC s st.S, optC o st.O⟩ := by
 cases s <;> cases o <;> rfl
def pickL {α : Type} (l : List (Nat × α)) : List Nat → List (Nat × α)
  | [] => []
  | t :: r => match get l t with | some x => (t, x) :: pickL l r | none => pickL l r
theorem zO1 {α : Type} {l : List (Nat × α)} {t : Nat} {x : α} : ∀ {ts : List Nat}, get (pickL l ts) t = some x → t ∈ ts ∧ get l t = some x
 | [], h => by simp [pickL, get] at h
 | s :: r, h => by
  simp only [pickL] at h
  split at h
  ·rename_i y hy
   by_cases e : s = t
   ·subst e; rw [zJ1] at h; cases h; exact ⟨by simp, hy⟩
   ·rw [zI1 _ _ e] at h; obtain ⟨h1, h2⟩ := zO1 h; exact ⟨by simp [h1], h2⟩
  ·obtain ⟨h1, h2⟩ := zO1 h; exact ⟨by simp [h1], h2⟩
theorem pickL_none {α : Type} {l : List (Nat × α)} {t : Nat} : ∀ {ts : List Nat}, t ∈ ts → get (pickL l ts) t = none → get l t = none
 | [], h, _ => by simp at h
 | s :: r, h, hn => by
  simp only [pickL] at hn
  split at hn
  ·rename_i y hy
   by_cases e : s = t
   ·subst e; rw [zJ1] at hn; cases hn
   ·rw [zI1 _ _ e] at hn
    rcases List.mem_cons.1 h with h | h
    ·exact absurd h.symm e
    ·exact pickL_none h hn
  ·rename_i hy
   rcases List.mem_cons.1 h with h | h
   ·subst h; exact hy
   ·exact pickL_none h hn
mutual
def nm : SV → List Nat
  | .v _ => []
  | .g _ x => nm x
  | .p k _ => [k]
  | .at _ _ => []
  | .r k => [k]
  | .re k _ _ _ => [k]
  | .sp k => [k]
  | .fn _ caps => nms caps
  | .tup xs => nms xs
  | .u => []
def nms : List SV → List Nat
  | [] => []
  | x :: r => nm x ++ nms r
end
def nmsOf (S : List (Nat × SV)) : List Nat → List Nat
 | [] => []
 | t :: r => match get S t with | some x => nm x ++ nmsOf S r | none => nmsOf S r
def rd (ops : List Oper) (o : Oper) : List Nat := o.looksAt ops.toArray
def subL (l : List Nat) : List Nat → Bool
 | [] => true
 | x :: r => match has x l with | true => subL l r | false => false
theorem subL_spec {l : List Nat} : ∀ {r : List Nat}, subL l r = true → ∀ k, k ∈ r → k ∈ l
 | [], _, k, h => by cases h
 | x :: r, h, k, hk => by
  simp only [subL] at h
  split at h
  ·rename_i hx
   rcases List.mem_cons.1 hk with rfl | hk
   ·exact has_iff.1 hx
   ·exact subL_spec h k hk
  ·cases h
def okO (wn : List Nat) : Option (Nat × Ob) → Bool
 | some (k, _) => has k wn
 | none => true
theorem OpOk.run (hP : TblOk P tb) {ops : List Oper} {o : Oper} {sl ns ws : List Nat} {s : Option (Nat × SV)} {oo : Option (Nat × Ob)} {wn : List Nat} {l : List Prop} (h : dA tb B.G n ops o (pickL st.S sl) (pickL st.O ns) = .yes s oo wn l) (hv : vcs l) (hwn : subL ns wn = true) :
  OpOk P B n ops Q o ⟨sl, ns, ws, wn⟩ st ⟨optC s [], optC oo []⟩ := by
 intro st' a ρ w L K hag hs hK
 refine dA_core hP hs (S := pickL st.S sl) (O := pickL st.O ns) (fun t x ht => ?_) (fun k o' hk => ?_) h hv (fun k hk hn => ?_) (fun a' ρ' w' L' s' => hK a' w' ⟨ρ', L', by rw [add_opt]; exact s'⟩)
 ·obtain ⟨h1, h2⟩ := zO1 ht; rw [hag.S t h1]; exact h2
 ·obtain ⟨h1, h2⟩ := zO1 hk; rw [hag.O k h1]; exact h2
 ·have := subL_spec hwn k hk
  rw [hag.O k this]; exact pickL_none this hn
def optK {α β : Type} : Option α → List α → (List α → β) → β
 | some x, l, k => k (x :: l)
 | none, l, k => k l
theorem optK_eq {α β : Type} (o : Option α) (l : List α) (k : List α → β) : optK o l k = k (optC o l) := by cases o <;> rfl
def run (tb : List (Nat × TI)) (G : List (Nat × List D)) (n : Nat) (ops : List Oper) : Nat → List Oper → St → List Prop → Option (St × List Prop × List Oper)
  | 0, rest, st, acc => some (st, acc, rest)
  | _ + 1, [], st, acc => none
  | k + 1, o :: rest, ⟨S, O⟩, acc =>
    match dA tb G n ops o S O with
    | .yes s oo _ l => pushK l acc fun acc' => optK s S fun S' => optK oo O fun O' => run tb G n ops k rest ⟨S', O'⟩ acc'
    | .no => none
theorem run_acc {G : List (Nat × List D)} {ops : List Oper} : ∀ {k : Nat} {rest : List Oper} {st : St} {acc : List Prop} {st' : St} {vc : List Prop} {rest' : List Oper},
  run tb G n ops k rest st acc = some (st', vc, rest') → vcs vc → vcs acc
 | 0, rest, st, acc, st', vc, rest', h, hv => by simp only [run] at h; cases h; exact hv
 | _ + 1, [], st, acc, st', vc, rest', h, hv => by simp only [run] at h; cases h
 | k + 1, o :: rest, ⟨S, O⟩, acc, st', vc, rest', h, hv => by
  simp only [run, pushK_eq, optK_eq] at h
  split at h
  ·exact (zR1 (run_acc h hv)).2
  ·cases h
theorem WL.run (hP : TblOk P tb) {ops : List Oper} : ∀ (k : Nat) {rest : List Oper} {st : St} {acc : List Prop} {st' : St} {vc : List Prop} {rest' : List Oper},
  V.run tb B.G n ops k rest st acc = some (st', vc, rest') → vcs vc → WL P B n st' ops Q rest' → WL P B n st ops Q rest
 | 0, rest, st, acc, st', vc, rest', h, hv, hk => by simp only [V.run] at h; cases h; exact hk
 | _ + 1, [], st, acc, st', vc, rest', h, hv, hk => by simp only [V.run] at h; cases h
 | k + 1, o :: rest, ⟨S, O⟩, acc, st', vc, rest', h, hv, hk => by
  simp only [V.run, pushK_eq, optK_eq] at h
  split at h
  ·rename_i s oo wn l h1
   have hv1 := vcs_reverse (zR1 (run_acc h hv)).1
   have ih := WL.run hP k h hv hk
   intro a ρ w L hs
   exact wpList_step fun K hK => dA_core hP hs (fun _ _ h => h) (fun _ _ h => h) h1 hv1 (fun _ _ h => h) (fun a' ρ' w' L' s' => hK a' w' (ih a' ρ' w' L' s'))
  ·cases h
theorem stX_shift {f : Nat → Bool} : ∀ {ds : List Dl} {st : St} {i : Nat}, stX st ds f (i + 1) = stX st ds (fun k => f (k + 1)) i
 | [], st, i => rfl
 | d :: r, st, i => by simp only [stX]; rw [stX_shift]
theorem viewOf_zero (st : St) (ds : List Dl) : viewOf st ds 0 = st := by
 unfold viewOf
 have : ∀ (ds : List Dl) (st : St) (i : Nat), stX st ds (fun j => decide (j < 0)) i = st := fun ds => by
  induction ds with
  | nil => intros; rfl
  | cons d r ih => intro st i; simp only [stX, Nat.not_lt_zero, decide_false, Bool.false_eq_true, if_false]; exact ih _ _
 exact this _ _ _
theorem viewOf_succ (st : St) (d : Dl) (ds : List Dl) (j : Nat) : viewOf st (d :: ds) (j + 1) = viewOf (st.add d) ds j := by
 unfold viewOf
 simp only [stX, Nat.zero_lt_succ, decide_true, if_true]
 rw [stX_shift]
 congr 1
 funext k
 simp
theorem WR.cons {ops rest : List Oper} {o : Oper} {done : List Key} {k : Key} {d : Dl} (hk : keyOk ⟨k, d⟩) (hok : OpOk P B n ops Q o k st d) (h : WR P B n (st.add d) ops Q (done ++ [k]) rest) : WR P B n st ops Q done (o :: rest) := by
 intro hops hlen
 obtain ⟨infos, h1, h2, h3, h4, h5⟩ := h (fun j o' hj => by have := hops (j + 1) o' (by simpa using hj); simpa [Nat.add_assoc, Nat.add_comm 1 j] using this) (by simp at hlen ⊢; omega)
 refine ⟨⟨k, d⟩ :: infos, by simp [h1], fun inf hi => ?_, fun j inf o' hj ho' => ?_, by simpa using h4, ?_⟩
 ·rcases List.mem_cons.1 hi with rfl | hi
  ·exact hk
  ·exact h2 inf hi
 ·cases j with
  | zero => simp at hj ho'; subst hj; subst ho'; simp only [List.map_cons, viewOf_zero]; exact hok
  | succ j =>
   have := h3 j inf o' (by simpa using hj) (by simpa using ho')
   simp only [List.map_cons, viewOf_succ]
   exact this
 ·simp only [List.map_cons, List.length_cons, viewOf_succ]
  exact h5
theorem WR.nil {ops : List Oper} {done : List Key} (hchk : chk 0 ops done = true) (h : WQ B n st Q .normal) : WR P B n st ops Q done [] := by
 intro hops hlen
 refine ⟨[], rfl, (fun inf hi => by cases hi), (fun j inf o hj => by simp at hj), by simpa using hchk, fun a w' ⟨ρ, L', s'⟩ => h a ρ w' L' (by simpa [viewOf, stX] using s')⟩
theorem WC.order {id : Nat} {l : List Oper} (hm : P.follows .mixedOrders = true) (h : WR P B n st l Q [] l) : WC P B n st (.region id l.toArray true) Q := by
 intro a ρ w L hs
 obtain ⟨infos, h1, h2, h3, h4, h5⟩ := h (fun j o hj => by simpa using hj) (by simp)
 refine wp_region_any hm ?_
 refine region_order (st := st) (n := n) infos h1 h2 (fun i inf o hi ho => h3 i inf o hi ho) (by simpa using h4) (fun a' w' ha => h5 a' w' (by rw [h1]; exact ha)) _ _ a _ ?_ ⟨by simp, fun j o _ hj => ?_⟩ ?_
 ·simp
 ·simp [lf, Array.getD_eq_getD_getElem?, Array.getElem?_replicate] at hj
  split at hj <;> simp at hj
 ·have hz : ∀ (ds : List Dl) (st : St) (i : Nat), stX st ds (lf (Array.replicate l.toArray.size false)) i = st := fun ds => by
   induction ds with
   | nil => intros; rfl
   | cons d r ih =>
    intro st i
    have : lf (Array.replicate l.toArray.size false) i = false := by
     simp only [lf, Array.getD_eq_getD_getElem?, Array.getElem?_replicate]
     split <;> rfl
    simp only [stX, this, Bool.false_eq_true, if_false]; exact ih _ _
  rw [hz]
  have hb : Below w.heap.size w { w with drawn := w.drawn + 1 } := ⟨rfl, rfl, rfl, Nat.le_refl _, fun _ _ => rfl⟩
  exact ⟨ρ, L, hs.below hb⟩
def keysO : Option (Nat × SV) → List Nat
 | some (d, _) => [d]
 | none => []
theorem keysO_eq (s : Option (Nat × SV)) : (optC s []).map (·.1) = keysO s := by cases s <;> rfl
def dstL (o : Oper) : List Nat := match o.dst with | some d => [d] | none => []
def looksIn : Op → Bool
  | .load _ _ => true
  | .store _ _ _ => true
  | .call _ => true
  | _ => false
def nsOf (S : List (Nat × SV)) (sl : List Nat) (o : Oper) : List Nat := match looksIn o.op with | true => nmsOf S sl ++ dstL o | false => dstL o
def runR (tb : List (Nat × TI)) (G : List (Nat × List D)) (n : Nat) (ops : List Oper) : Nat → List Oper → St → List Prop → List Key → Option (St × List Prop × List Oper × List Key)
  | 0, rest, st, acc, ks => some (st, acc, rest, ks)
  | _ + 1, [], st, acc, ks => none
  | k + 1, o :: rest, ⟨S, O⟩, acc, ks =>
    forceL (rd ops o) fun sl => forceL (nsOf S sl o) fun ns =>
    match dA tb G n ops o (pickL S sl) (pickL O ns) with
    | .yes s oo wn l =>
      match subL ns wn, okO wn oo with
      | true, true => pushK l acc fun acc' => optK s S fun S' => optK oo O fun O' => runR tb G n ops k rest ⟨S', O'⟩ acc' (ks ++ [⟨sl, ns, keysO s, wn⟩])
      | _, _ => none
    | .no => none
theorem runR_acc {G : List (Nat × List D)} {ops : List Oper} : ∀ {k : Nat} {rest : List Oper} {st : St} {acc : List Prop} {ks : List Key} {st' : St} {vc : List Prop} {rest' : List Oper} {ks' : List Key},
  runR tb G n ops k rest st acc ks = some (st', vc, rest', ks') → vcs vc → vcs acc
 | 0, rest, st, acc, ks, st', vc, rest', ks', h, hv => by simp only [runR] at h; cases h; exact hv
 | _ + 1, [], st, acc, ks, st', vc, rest', ks', h, hv => by simp only [runR] at h; cases h
 | k + 1, o :: rest, ⟨S, O⟩, acc, ks, st', vc, rest', ks', h, hv => by
  simp only [runR, pushK_eq, optK_eq, forceL_eq] at h
  split at h
  ·split at h
   ·exact (zR1 (runR_acc h hv)).2
   ·cases h
  ·cases h
theorem WR.run (hP : TblOk P tb) {ops : List Oper} : ∀ (k : Nat) {rest : List Oper} {st : St} {acc : List Prop} {done : List Key} {st' : St} {vc : List Prop} {rest' : List Oper} {ks' : List Key},
  runR tb B.G n ops k rest st acc done = some (st', vc, rest', ks') → vcs vc → WR P B n st' ops Q ks' rest' → WR P B n st ops Q done rest
 | 0, rest, st, acc, done, st', vc, rest', ks', h, hv, hk => by simp only [runR] at h; cases h; exact hk
 | _ + 1, [], st, acc, done, st', vc, rest', ks', h, hv, hk => by simp only [runR] at h; cases h
 | k + 1, o :: rest, ⟨S, O⟩, acc, done, st', vc, rest', ks', h, hv, hk => by
  simp only [runR, pushK_eq, optK_eq, forceL_eq] at h
  split at h
  ·rename_i s oo wn l h1
   split at h
   ·rename_i c1 c2
    have hv1 := vcs_reverse (zR1 (runR_acc h hv)).1
    have ih := WR.run hP k h hv hk
    refine WR.cons (d := ⟨optC s [], optC oo []⟩) ⟨keysO_eq s, fun j hj => ?_, fun j hj => subL_spec c1 j hj⟩ (OpOk.run hP (st := ⟨S, O⟩) h1 hv1 c1) (by rw [add_opt]; exact ih)
    cases oo with
    | none => simp [optC] at hj
    | some p => simp [optC] at hj; subst hj; simpa [okO] using has_iff.1 c2
   ·cases h
  ·cases h
end Go.V
namespace Go.V
open Go.RowKit
def rn : List (Nat × Nat) → Nat → Nat
  | [], k => k
  | (a, b) :: r, k => match Nat.beq a k with | true => b | false => rn r k
mutual
def ren (π : List (Nat × Nat)) : SV → SV
  | .v x => .v x
  | .g c x => .g c (ren π x)
  | .p k o => .p (rn π k) o
  | .at cs o => .at cs o
  | .r k => .r (rn π k)
  | .re k sz i o => .re (rn π k) sz i o
  | .sp k => .sp (rn π k)
  | .fn f cs => .fn f (rens π cs)
  | .tup xs => .tup (rens π xs)
  | .u => .u
def rens (π : List (Nat × Nat)) : List SV → List SV
  | [] => []
  | x :: r => ren π x :: rens π r
end
def renO (π : List (Nat × Nat)) : Ob → Ob
 | .blk ty cs => .blk ty (rens π cs)
 | .row ty sz es => .row ty sz es
 | .it s pos => .it s pos
 | .set ks => .set ks
 | .sit l cu => .sit l cu
 | .dead => .dead
mutual
def wfB (O : List (Nat × Ob)) : SV → Bool
  | .v _ => true
  | .g _ x => wfB O x
  | .p k _ => isSomeB (get O k)
  | .at _ _ => true
  | .r k => isSomeB (get O k)
  | .re k _ _ _ => isSomeB (get O k)
  | .sp k => isSomeB (get O k)
  | .fn _ cs => wfBs O cs
  | .tup xs => wfBs O xs
  | .u => true
def wfBs (O : List (Nat × Ob)) : List SV → Bool
  | [] => true
  | x :: r => match wfB O x with | true => wfBs O r | false => false
def isSomeB : Option Ob → Bool
  | some _ => true
  | none => false
end
theorem isSomeB_eq {o : Option Ob} (h : isSomeB o = true) : o.isSome = true := by cases o <;> simp_all [isSomeB]
mutual
theorem VRep.ren {N : Nat → Prop} {ρ : Nat → Value} {w : World} {X : Nat → Prop} {π : List (Nat × Nat)} {O : List (Nat × Ob)} : ∀ (x : SV) (v : Value), wfB O x = true → VRep N ρ w X (V.ren π x) v → VRep (nmO O) (fun k => ρ (rn π k)) w X x v
  | .v d, v, _, h => by simpa only [VRep, V.ren] using h
  | .g c x, v, hw, h => by
    simp only [wfB] at hw
    simp only [VRep, V.ren] at h ⊢
    exact ⟨fun hc => VRep.ren x v hw (h.1 hc), h.2⟩
  | .p k o, v, hw, h => by
    simp only [wfB] at hw
    simp only [VRep, V.ren] at h ⊢
    exact ⟨isSomeB_eq hw, h.2⟩
  | .at cs o, v, _, h => by simpa only [VRep, V.ren] using h
  | .r k, v, hw, h => by
    simp only [wfB] at hw
    simp only [VRep, V.ren] at h ⊢
    exact ⟨isSomeB_eq hw, h.2⟩
  | .re k sz i o, v, hw, h => by
    simp only [wfB] at hw
    simp only [VRep, V.ren] at h ⊢
    exact ⟨isSomeB_eq hw, h.2⟩
  | .sp k, v, hw, h => by
    simp only [wfB] at hw
    simp only [VRep, V.ren] at h ⊢
    exact ⟨isSomeB_eq hw, h.2⟩
  | .fn f cs, v, hw, h => by
    simp only [wfB] at hw
    simp only [VRep, V.ren] at h ⊢
    obtain ⟨vs, h1, h2⟩ := h
    exact ⟨vs, h1, VReps.ren cs vs hw h2⟩
  | .tup xs, v, hw, h => by
    simp only [wfB] at hw
    simp only [VRep, V.ren] at h ⊢
    obtain ⟨vs, h1, h2⟩ := h
    exact ⟨vs, h1, VReps.ren xs vs hw h2⟩
  | .u, v, _, h => by simp only [VRep]
theorem VReps.ren {N : Nat → Prop} {ρ : Nat → Value} {w : World} {X : Nat → Prop} {π : List (Nat × Nat)} {O : List (Nat × Ob)} : ∀ (xs : List SV) (vs : List Value), wfBs O xs = true → VReps N ρ w X (V.rens π xs) vs → VReps (nmO O) (fun k => ρ (rn π k)) w X xs vs
  | [], vs, _, h => by simpa only [VReps, V.rens] using h
  | x :: xs, vs, hw, h => by
    simp only [wfBs] at hw
    split at hw
    · rename_i hx
      simp only [VReps, V.rens] at h ⊢
      obtain ⟨v, r, h1, h2, h3⟩ := h
      exact ⟨v, r, h1, VRep.ren x v hx h2, VReps.ren xs r hw h3⟩
    · cases hw
end
mutual
theorem VRep.renI {N N' : Nat → Prop} {ρ ρ' : Nat → Value} {w : World} {X : Nat → Prop} {π : List (Nat × Nat)} (h0 : ∀ k, N k → N' (rn π k) ∧ ρ' (rn π k) = ρ k) : ∀ (x : SV) (v : Value), VRep N ρ w X x v → VRep N' ρ' w X (V.ren π x) v
  | .v d, v, h => by simpa only [VRep, V.ren] using h
  | .g c x, v, h => by
    simp only [VRep, V.ren] at h ⊢
    exact ⟨fun hc => VRep.renI h0 x v (h.1 hc), h.2⟩
  | .p k o, v, h => by
    simp only [VRep, V.ren] at h ⊢
    obtain ⟨h1, h2⟩ := h0 k h.1
    exact ⟨h1, by rw [h2]; exact h.2⟩
  | .at cs o, v, h => by simpa only [VRep, V.ren] using h
  | .r k, v, h => by
    simp only [VRep, V.ren] at h ⊢
    obtain ⟨h1, h2⟩ := h0 k h.1
    exact ⟨h1, by rw [h2]; exact h.2⟩
  | .re k sz i o, v, h => by
    simp only [VRep, V.ren] at h ⊢
    obtain ⟨h1, h2⟩ := h0 k h.1
    exact ⟨h1, by rw [h2]; exact h.2⟩
  | .sp k, v, h => by
    simp only [VRep, V.ren] at h ⊢
    obtain ⟨h1, h2⟩ := h0 k h.1
    exact ⟨h1, by rw [h2]; exact h.2⟩
  | .fn f cs, v, h => by
    simp only [VRep, V.ren] at h ⊢
    obtain ⟨vs, h1, h2⟩ := h
    exact ⟨vs, h1, VReps.renI h0 cs vs h2⟩
  | .tup xs, v, h => by
    simp only [VRep, V.ren] at h ⊢
    obtain ⟨vs, h1, h2⟩ := h
    exact ⟨vs, h1, VReps.renI h0 xs vs h2⟩
  | .u, v, h => by simp only [VRep, V.ren]
theorem VReps.renI {N N' : Nat → Prop} {ρ ρ' : Nat → Value} {w : World} {X : Nat → Prop} {π : List (Nat × Nat)} (h0 : ∀ k, N k → N' (rn π k) ∧ ρ' (rn π k) = ρ k) : ∀ (xs : List SV) (vs : List Value), VReps N ρ w X xs vs → VReps N' ρ' w X (V.rens π xs) vs
  | [], vs, h => by simpa only [VReps, V.rens] using h
  | x :: xs, vs, h => by
    simp only [VReps, V.rens] at h ⊢
    obtain ⟨v, r, h1, h2, h3⟩ := h
    exact ⟨v, r, h1, VRep.renI h0 x v h2, VReps.renI h0 xs r h3⟩
end
def wfO (O : List (Nat × Ob)) : Ob → Bool
 | .blk _ cs => wfBs O cs
 | _ => true
theorem ObOk.ren {N : Nat → Prop} {ρ : Nat → Value} {w : World} {X L : Nat → Prop} {v : Value} {π : List (Nat × Nat)} {O : List (Nat × Ob)} {o : Ob} (hw : wfO O o = true) (h : ObOk N ρ w X L v (renO π o)) : ObOk (nmO O) (fun k => ρ (rn π k)) w X L v o := by
 cases o with
 | blk ty cs =>
  obtain ⟨b, vs, h1, h2, h3, h4⟩ := h
  exact ⟨b, vs, h1, h2, h3, VReps.ren cs vs hw h4⟩
 | row ty sz es => exact h
 | it s pos => exact h
 | set ks => exact h
 | sit l cu => exact h
 | dead => exact h
theorem ObOk.renI {N N' : Nat → Prop} {ρ ρ' : Nat → Value} {w : World} {X L : Nat → Prop} {v : Value} {π : List (Nat × Nat)} {o : Ob} (h0 : ∀ k, N k → N' (rn π k) ∧ ρ' (rn π k) = ρ k) (h : ObOk N ρ w X L v o) : ObOk N' ρ' w X L v (renO π o) := by
 cases o with
 | blk ty cs =>
  obtain ⟨b, vs, h1, h2, h3, h4⟩ := h
  exact ⟨b, vs, h1, h2, h3, VReps.renI h0 cs vs h4⟩
 | row ty sz es => exact h
 | it s pos => exact h
 | set ks => exact h
 | sit l cu => exact h
 | dead => exact h
theorem renO_live {π : List (Nat × Nat)} {o : Ob} : (renO π o).live = o.live := by cases o <;> rfl
def subS (π : List (Nat × Nat)) (S1 : List (Nat × SV)) : List (Nat × SV) → Prop
 | [] => True
 | (t, y) :: r => get S1 t = some (ren π y) ∧ subS π S1 r
def subO (π : List (Nat × Nat)) (O1 : List (Nat × Ob)) : List (Nat × Ob) → Prop
 | [] => True
 | (k, .dead) :: r => isSomeB (get O1 (rn π k)) = true ∧ subO π O1 r
 | (k, o) :: r => get O1 (rn π k) = some (renO π o) ∧ subO π O1 r
theorem subS_get {π : List (Nat × Nat)} {S1 : List (Nat × SV)} : ∀ {S2 : List (Nat × SV)}, subS π S1 S2 → ∀ t y, get S2 t = some y → get S1 t = some (ren π y)
 | [], h, t, y, hy => by simp [get] at hy
 | (t', y') :: r, h, t, y, hy => by
  simp only [subS] at h
  by_cases e : t' = t
  ·subst e; rw [zJ1] at hy; cases hy; exact h.1
  ·rw [zI1 _ _ e] at hy; exact subS_get h.2 t y hy
theorem subO_get {π : List (Nat × Nat)} {O1 : List (Nat × Ob)} : ∀ {O2 : List (Nat × Ob)}, subO π O1 O2 → ∀ t y, get O2 t = some y → (y = .dead ∧ nmO O1 (rn π t)) ∨ get O1 (rn π t) = some (renO π y)
 | [], h, t, y, hy => by simp [get] at hy
 | (t', y') :: r, h, t, y, hy => by
  have h2 : subO π O1 r := by cases y' <;> exact h.2
  by_cases e : t' = t
  ·subst e; rw [zJ1] at hy; cases hy
   cases y' with
   | dead => exact .inl ⟨rfl, isSomeB_eq h.1⟩
   | blk ty cs => exact .inr h.1
   | row ty sz es => exact .inr h.1
   | it s pos => exact .inr h.1
   | set ks => exact .inr h.1
   | sit l cu => exact .inr h.1
  ·rw [zI1 _ _ e] at hy; exact subO_get h2 t y hy
theorem subO_live {π : List (Nat × Nat)} {O1 O2 : List (Nat × Ob)} (h : subO π O1 O2) {t : Nat} {y : Ob} (hy : get O2 t = some y) (hl : y.live = true) : get O1 (rn π t) = some (renO π y) := by
 rcases subO_get h t y hy with ⟨rfl, _⟩ | h1
 ·cases hl
 ·exact h1
def wfAllS (O : List (Nat × Ob)) : List (Nat × SV) → Bool
 | [] => true
 | (_, y) :: r => match wfB O y with | true => wfAllS O r | false => false
def wfAllO (O : List (Nat × Ob)) : List (Nat × Ob) → Bool
 | [] => true
 | (_, y) :: r => match wfO O y with | true => wfAllO O r | false => false
theorem wfAllS_get {O : List (Nat × Ob)} : ∀ {S : List (Nat × SV)}, wfAllS O S = true → ∀ t y, get S t = some y → wfB O y = true
 | [], _, t, y, hy => by simp [get] at hy
 | (t', y') :: r, h, t, y, hy => by
  simp only [wfAllS] at h
  split at h
  ·rename_i h1
   by_cases e : t' = t
   ·subst e; rw [zJ1] at hy; cases hy; exact h1
   ·rw [zI1 _ _ e] at hy; exact wfAllS_get h t y hy
  ·cases h
theorem wfAllO_get {O : List (Nat × Ob)} : ∀ {S : List (Nat × Ob)}, wfAllO O S = true → ∀ t y, get S t = some y → wfO O y = true
 | [], _, t, y, hy => by simp [get] at hy
 | (t', y') :: r, h, t, y, hy => by
  simp only [wfAllO] at h
  split at h
  ·rename_i h1
   by_cases e : t' = t
   ·subst e; rw [zJ1] at hy; cases hy; exact h1
   ·rw [zI1 _ _ e] at hy; exact wfAllO_get h t y hy
  ·cases h
def inj1 (π : List (Nat × Nat)) (k : Nat) : List (Nat × Ob) → Bool
  | [] => true
  | (_, .dead) :: r => inj1 π k r
  | (k', _) :: r => match Nat.beq (rn π k) (rn π k'), Nat.beq k k' with | true, false => false | _, _ => inj1 π k r
def injA (π : List (Nat × Nat)) (l : List (Nat × Ob)) : List (Nat × Ob) → Bool
 | [] => true
 | (_, .dead) :: r => injA π l r
 | (k, _) :: r => match inj1 π k l with | true => injA π l r | false => false
def injB (π : List (Nat × Nat)) (l : List (Nat × Ob)) : Bool :=
 match π with
 | [] => true
 | _ => injA π l l
theorem get_mem {α : Type} : ∀ {l : List (Nat × α)} {k : Nat} {y : α}, get l k = some y → (k, y) ∈ l
 | [], k, y, h => by simp [get] at h
 | (k', x) :: r, k, y, h => by
  by_cases e : k' = k
  ·subst e; rw [zJ1] at h; cases h; simp
  ·rw [zI1 _ _ e] at h; simp [get_mem h]
theorem inj1_sound {π : List (Nat × Nat)} {k : Nat} : ∀ {l : List (Nat × Ob)}, inj1 π k l = true → ∀ k' x, (k', x) ∈ l → x.live = true → rn π k = rn π k' → k = k'
 | [], _, k', x, h, _, _ => by simp at h
 | (k2, x2) :: r, h, k', x, hm, hl, he => by
  rcases List.mem_cons.1 hm with e | hm
  ·cases e
   cases x2 with
   | dead => cases hl
   | _ =>
    simp only [inj1] at h
    split at h
    ·cases h
    ·rename_i hne
     cases hb : Nat.beq k k2 with
     | true => exact Nat.eq_of_beq_eq_true hb
     | false => exact (hne (by rw [he]; exact Nat.beq_refl _) hb).elim
  ·have hr : inj1 π k r = true := by
    cases x2 with
    | dead => exact h
    | _ =>
     simp only [inj1] at h
     split at h
     ·cases h
     ·exact h
   exact inj1_sound hr k' x hm hl he
theorem injA_sound {π : List (Nat × Nat)} {l : List (Nat × Ob)} : ∀ {r : List (Nat × Ob)}, injA π l r = true → ∀ k x, (k, x) ∈ r → x.live = true → inj1 π k l = true
 | [], _, k, x, h, _ => by simp at h
 | (k2, x2) :: r, h, k, x, hm, hl => by
  rcases List.mem_cons.1 hm with e | hm
  ·cases e
   cases x2 with
   | dead => cases hl
   | _ =>
    simp only [injA] at h
    split at h
    ·rename_i h1; exact h1
    ·cases h
  ·have hr : injA π l r = true := by
    cases x2 with
    | dead => exact h
    | _ =>
     simp only [injA] at h
     split at h
     ·exact h
     ·cases h
   exact injA_sound hr k x hm hl
theorem injB_sound {π : List (Nat × Nat)} {l : List (Nat × Ob)} (h : injB π l = true) {k k' : Nat} {y y' : Ob} (hk : get l k = some y) (hk' : get l k' = some y') (l1 : y.live = true) (l2 : y'.live = true) (he : rn π k = rn π k') : k = k' := by
 unfold injB at h
 split at h
 ·exact he
 ·exact inj1_sound (injA_sound h k y (get_mem hk) l1) k' y' (get_mem hk') l2 he
def pinAll (π : List (Nat × Nat)) (O : List (Nat × Ob)) : List (Nat × Value) → Bool
  | [] => true
  | (k, _) :: r => match get O k, Nat.beq (rn π k) k with | some _, true => pinAll π O r | _, _ => false
theorem pinAll_get {π : List (Nat × Nat)} {O : List (Nat × Ob)} : ∀ {N : List (Nat × Value)}, pinAll π O N = true → ∀ k v, get N k = some v → nmO O k ∧ rn π k = k
 | [], _, k, v, h => by simp [get] at h
 | (k', v') :: r, h, k, v, hk => by
  simp only [pinAll] at h
  split at h
  ·rename_i h1 h2
   by_cases e : k' = k
   ·subst e; exact ⟨by simp [nmO, h1], Nat.eq_of_beq_eq_true h2⟩
   ·rw [zI1 _ _ e] at hk; exact pinAll_get h k v hk
  ·cases h
structure Sub (B : Base) (π : List (Nat × Nat)) (st1 st2 : St) : Prop where
  S : subS π st1.S st2.S
  O : subO π st1.O st2.O
  wS : wfAllS st2.O st2.S = true
  wO : wfAllO st2.O st2.O = true
  inj : injB π st2.O = true
  pin : pinAll π st2.O B.N = true
variable {P : Program} {n : Nat} {B : Base} {st : St} {tb : List (Nat × TI)} {Q : Exit → Act → World → Prop} {ρ : Nat → Value} {a : Act} {w : World} {L : Nat → Prop} {π : List (Nat × Nat)}
theorem Sat.sub {st1 st2 : St} (hs : Sat B n st1 ρ a w L) (h : Sub B π st1 st2) : Sat B n st2 (fun k => ρ (rn π k)) a w L := by
 refine ⟨hs.size, hs.defers, fun t y hy => ?_, fun k o hk => ?_, fun k o k' o' hk hk' hne l1 l2 b hb hb' => ?_, hs.low, hs.step, hs.ext, hs.glob, fun k v hk => ?_, hs.dis⟩
 ·obtain ⟨v, h1, h2⟩ := hs.slot t _ (subS_get h.S t y hy)
  exact ⟨v, h1, VRep.ren y v (wfAllS_get h.wS t y hy) h2⟩
 ·rcases subO_get h.O k o hk with ⟨rfl, h1⟩ | h1
  ·exact hs.cellN _ h1
  ·exact ObOk.ren (wfAllO_get h.wO k o hk) (hs.obj (rn π k) _ h1)
 ·exact hs.inj _ _ _ _ (subO_live h.O hk l1) (subO_live h.O hk' l2) (fun e => hne (injB_sound h.inj hk hk' l1 l2 e)) (by rw [renO_live]; exact l1) (by rw [renO_live]; exact l2) b hb hb'
 ·obtain ⟨h1, h2⟩ := pinAll_get h.pin k v hk
  exact ⟨by simp only [h2]; exact (hs.pin k v hk).1, h1⟩
def AtCut (B : Base) (n : Nat) {X : Type} (st' : X → St) (I : X → Prop) (a : Act) (w : World) : Prop := ∃ x ρ L, Sat B n (st' x) ρ a w L ∧ I x
theorem WQ.cut {X : Type} {st' : X → St} {I : X → Prop} (π : List (Nat × Nat)) (g : X) (hsub : Sub B π st (st' g)) (hI : I g) : WQ B n st (Exit.then (AtCut B n st' I) Q) .normal :=
 fun a ρ w L hs => ⟨g, _, L, hs.sub hsub, hI⟩
def iter {σ τ : Type} (f : σ → Option (σ ⊕ τ)) : Nat → σ → Option τ
  | 0, _ => none
  | k + 1, s => match f s with | some (.inl s') => iter f k s' | some (.inr r) => some r | none => none
def loopO {σ τ : Type} (f : σ → Option (σ ⊕ τ)) (s : σ) : Option τ :=
  open Classical in if h : ∃ k r, iter f k s = some r then some (Classical.choose (Classical.choose_spec h)) else none
theorem iter_det {σ τ : Type} {f : σ → Option (σ ⊕ τ)} : ∀ {k k' : Nat} {s : σ} {r r' : τ}, iter f k s = some r → iter f k' s = some r' → r = r'
 | 0, _, s, r, r', h, _ => by simp [iter] at h
 | k + 1, 0, s, r, r', _, h => by simp [iter] at h
 | k + 1, k' + 1, s, r, r', h, h' => by
  simp only [iter] at h h'
  split at h
  ·rename_i s' e; rw [e] at h'; exact iter_det h h'
  ·rename_i r2 e; rw [e] at h'; cases h; cases h'; rfl
  ·cases h
theorem loopO_iff {σ τ : Type} {f : σ → Option (σ ⊕ τ)} {s : σ} {r : τ} : loopO f s = some r ↔ ∃ k, iter f k s = some r := by
 unfold loopO
 constructor
 ·intro h
  split at h
  ·rename_i hx
   cases h
   exact ⟨_, Classical.choose_spec (Classical.choose_spec hx)⟩
  ·cases h
 ·rintro ⟨k, hk⟩
  rw [dif_pos ⟨k, r, hk⟩]
  have hx : ∃ k r, iter f k s = some r := ⟨k, r, hk⟩
  have := Classical.choose_spec (Classical.choose_spec hx)
  rw [iter_det this hk]
theorem loopO_eq {σ τ : Type} (f : σ → Option (σ ⊕ τ)) (s : σ) : loopO f s = match f s with | some (.inl s') => loopO f s' | some (.inr r) => some r | none => none := by
  apply Option.ext
  intro r
  rw [loopO_iff]
  constructor
  · rintro ⟨k, hk⟩
    cases k with
    | zero => simp [iter] at hk
    | succ k =>
      simp only [iter] at hk
      split at hk
      · rename_i s' e; exact loopO_iff.2 ⟨k, hk⟩
      · exact hk
      · cases hk
  · intro h
    split at h
    · rename_i s' e
      obtain ⟨k, hk⟩ := loopO_iff.1 h
      exact ⟨k + 1, by simp only [iter, e]; exact hk⟩
    · rename_i r' e; exact ⟨1, by simp only [iter, e]; exact h⟩
    · cases h
def AtNext (B : Base) (n : Nat) {σ : Type} (st' : σ → St) (I : σ → Nat → Prop) (m : Nat) (a : Act) (w : World) : Prop := ∃ s ρ L m', Sat B n (st' s) ρ a w L ∧ I s m' ∧ m' < m
theorem WC.loop {body : Code} {σ τ : Type} (st' : σ → St) (f : σ → Option (σ ⊕ τ)) (π : List (Nat × Nat)) (s0 : σ) {r : τ} (h0 : loopO f s0 = some r) (hsub : Sub B π st (st' s0))
  (round : ∀ s m, (∀ s', f s = some (.inl s') → iter f m s' = some r) → (∀ r', f s = some (.inr r') → r' = r) → f s ≠ none →
   WC P B n (st' s) body (Exit.then (AtNext B n st' (fun s' m' => iter f m' s' = some r) (m + 1)) Q)) : WC P B n st (.loop body) Q := by
 intro a ρ w L hs
 obtain ⟨k0, hk0⟩ := loopO_iff.1 h0
 refine wp_loop_ghost (fun m a' w' => ∃ s ρ' L', Sat B n (st' s) ρ' a' w' L' ∧ iter f m s = some r) k0 ⟨s0, _, L, hs.sub hsub, hk0⟩ ?_
 intro m a' w' ⟨s, ρ', L', s', i'⟩
 cases m with
 | zero => simp [iter] at i'
 | succ m =>
  refine Code.wp_mono (fun e a2 w2 q => ?_) (round s m (fun s' e => by simp only [iter, e] at i'; exact i') (fun r' e => by simp only [iter, e] at i'; cases i'; rfl) (fun e => by simp [iter, e] at i') a' ρ' w' L' s')
  cases e <;> first | exact q | skip
  obtain ⟨x2, ρ2, L2, m', s2, i2, hlt⟩ := q
  exact ⟨m', hlt, x2, ρ2, L2, s2, i2⟩
theorem WQ.next {σ τ : Type} {st' : σ → St} {f : σ → Option (σ ⊕ τ)} {r : τ} {m : Nat} (π : List (Nat × Nat)) (s : σ) (hsub : Sub B π st (st' s)) (hI : iter f m s = some r) :
  WQ B n st (Exit.then (AtNext B n st' (fun s' m' => iter f m' s' = some r) (m + 1)) Q) .normal := fun a ρ w L hs => ⟨s, _, L, m, hs.sub hsub, hI, Nat.lt_succ_self _⟩
structure ObsOk (O : List (Nat × Ob)) (ρ : Nat → Value) (w : World) (X L : Nat → Prop) : Prop where
  obj : ∀ k o, get O k = some o → ObOk (nmO O) ρ w X L (ρ k) o
  inj : ∀ k o k' o', get O k = some o → get O k' = some o' → k ≠ k' → o.live = true → o'.live = true → ∀ b, ob (ρ k) = some b → ob (ρ k') ≠ some b
def pinsOf (ρ : Nat → Value) : List (Nat × Ob) → List (Nat × Value)
  | [] => []
  | (k, _) :: r => (k, ρ k) :: pinsOf ρ r
theorem pinsOf_get {ρ : Nat → Value} : ∀ {O : List (Nat × Ob)} {k : Nat} {v : Value}, get (pinsOf ρ O) k = some v → ρ k = v ∧ nmO O k
 | [], k, v, h => by simp [pinsOf, get] at h
 | (k', o) :: r, k, v, h => by
  simp only [pinsOf] at h
  by_cases e : k' = k
  ·subst e; rw [zJ1] at h; cases h; exact ⟨rfl, nmO_self⟩
  ·rw [zI1 _ _ e] at h; obtain ⟨h1, h2⟩ := pinsOf_get h; exact ⟨h1, nmO_cons h2⟩
theorem pinsOf_mem {ρ : Nat → Value} : ∀ {O : List (Nat × Ob)} {k : Nat}, nmO O k → get (pinsOf ρ O) k = some (ρ k)
 | [], k, h => by simp [nmO, get] at h
 | (k', o) :: r, k, h => by
  simp only [pinsOf]
  by_cases e : k' = k
  ·subst e; rw [zJ1]
  ·rw [zI1 _ _ e]; exact pinsOf_mem (by simpa [nmO, zI1 _ _ e] using h)
def pinFix (π : List (Nat × Nat)) : List (Nat × Value) → Bool
  | [] => true
  | (k, _) :: r => match Nat.beq (rn π k) k with | true => pinFix π r | false => false
theorem pinFix_get {π : List (Nat × Nat)} : ∀ {N : List (Nat × Value)}, pinFix π N = true → ∀ k v, get N k = some v → rn π k = k
 | [], _, k, v, h => by simp [get] at h
 | (k', v') :: r, h, k, v, hk => by
  simp only [pinFix] at h
  split at h
  ·rename_i h2
   by_cases e : k' = k
   ·subst e; exact Nat.eq_of_beq_eq_true h2
   ·rw [zI1 _ _ e] at hk; exact pinFix_get h k v hk
  ·cases h
def Con (P : Program) (wg : World) (G : List (Nat × List D)) (f : FuncId) (args : List SV) (O : List (Nat × Ob)) (r : SV) (O' : List (Nat × Ob)) : Prop :=
  ∀ w ρ F L vals, (∀ b, un F L b → b < w.heap.size) → (∀ b, F b → ¬ L b) → Ext wg w (un F L) → GlobOk G w (un F L) → ObsOk O ρ w (un F L) L → VReps (nmO O) ρ w (un F L) args vals →
    Calls P f vals.toArray w fun e w' => ∃ v ρ' L', e = .returned v ∧ VRep (nmO O') ρ' w' (un F L') r v ∧ ObsOk O' ρ' w' (un F L') L' ∧ Step L w L' w' ∧ (∀ b, L' b → b < w'.heap.size) ∧ ∀ k v, get (pinsOf ρ O) k = some v → nmO O' k → ρ' k = v
theorem con_of_WC {wg : World} {G : List (Nat × List D)} {f : FuncId} {fn : Func} {c : Code} {args : List SV} {O : List (Nat × Ob)} {r : SV} {O' : List (Nat × Ob)} {S : List (Nat × SV)} (hf : P.funcs[f]? = some fn) (hb : fn.body = some c) (hn : fn.ntmps = n) (hl : Nat.ble args.length n = true)
    (hS : ∀ t x, get S t = some x → nth args t = some x)
    (h : ∀ (F L : Nat → Prop) (w : World) (ρ0 : Nat → Value) (R : Ending → World → Prop),
      (∀ v ρ' w' L', VRep (nmO O') ρ' w' (un F L') r v → ObsOk O' ρ' w' (un F L') L' → Step L w L' w' → (∀ b, L' b → b < w'.heap.size) → (∀ k v, get (pinsOf ρ0 O) k = some v → nmO O' k → ρ' k = v) → R (.returned v) w') →
      WC P ⟨F, L, w, wg, G, pinsOf ρ0 O⟩ n ⟨S, O⟩ c (bodyPost P fn R)) : Con P wg G f args O r O' := by
  intro w ρ F L vals hlow hdis hext hglob hobs hargs
  have hl := Nat.le_of_ble_eq_true hl
  have hlen := hargs.length
  refine calls_of_wp hf hb (h F L w ρ _ (fun v ρ' w' L' h1 h2 h3 h4 h5 => ⟨v, ρ', L', rfl, h1, h2, h3, h4, h5⟩) _ ρ w L ?_)
  refine ⟨by simp [hn]; omega, rfl, fun t x hx => ?_, hobs.obj, hobs.inj, hlow, Step.refl _ _, hext, hglob, fun k v hk => pinsOf_get hk, hdis⟩
  have h3 := hS t x hx
  rw [nth_eq] at h3
  obtain ⟨v, h4, h5⟩ := hargs.get h3
  refine ⟨v, ?_, h5⟩
  have hlt := (List.getElem?_eq_some_iff.1 h4).1
  rw [Array.getElem?_append_left (by simpa using hlt)]
  simpa using h4
def zP1 : Nat → List SV → List (Nat × SV)
  | _, [] => []
  | i, x :: r => (i, x) :: zP1 (i + 1) r
theorem slotsOf_get : ∀ {i : Nat} {args : List SV} {t : Nat} {x : SV}, get (zP1 i args) t = some x → i ≤ t ∧ nth args (t - i) = some x
 | i, [], t, x, h => by simp [zP1, get] at h
 | i, y :: r, t, x, h => by
  simp only [zP1] at h
  by_cases e : i = t
  ·subst e; rw [zJ1] at h; cases h; simp [nth]
  ·rw [zI1 _ _ e] at h
   obtain ⟨h1, h2⟩ := slotsOf_get h
   refine ⟨by omega, ?_⟩
   rw [show t - i = (t - (i + 1)) + 1 by omega]
   exact h2
def res1 (tb : List (Nat × TI)) (st : St) : ResultVar → Option SV
  | .tmp t =>
    match get st.S t with
    | some (.g _ _) => none
    | some y => some y
    | none => none
  | .cell t T =>
    match get st.S t, get tb T with
    | some (.p k off), some ⟨size, _, agg, _, _, _, _⟩ =>
      match get st.O k with
      | some (.blk _ cs) => cellsS cs off size agg
      | _ => none
    | _, _ => none
def resL (tb : List (Nat × TI)) (st : St) : List ResultVar → Option (List SV)
 | [] => some []
 | r :: l =>
  match res1 tb st r, resL tb st l with
  | some v, some vs => some (v :: vs)
  | _, _ => none
def resV : List SV → SV
 | [v] => v
 | vs => .tup vs
def resF (a : Act) : ResultVar → Sem Value
 | .tmp t => pure (a.tmps.getD t undef)
 | .cell ad t => do loadVar t (← asAddr (a.tmps.getD ad undef))
theorem results_eq (fn : Func) (a : Act) : results fn a.tmps = (do let vs ← fn.results.mapM (resF a); pure (if h : vs.size = 1 then vs[0] else .tuple vs)) :=
 congrArg (fun F : ResultVar → Sem Value => (do let vs ← fn.results.mapM F; pure (if h : vs.size = 1 then vs[0] else .tuple vs))) (funext fun x => by cases x <;> rfl)
theorem run_res1 (hP : TblOk P tb) (hs : Sat B n st ρ a w L) {r : ResultVar} {x : SV} (h : res1 tb st r = some x) : ∃ v, (resF a r).run P w = .ok v w ∧ VRep (nmO st.O) ρ w (un B.F L) x v := by
 cases r with
 | tmp t =>
  simp only [res1] at h
  split at h
  ·cases h
  ·rename_i y hne hy
   cases h
   obtain ⟨v, h1, h2⟩ := hs.slot t _ hy
   exact ⟨v, by simp [resF, Array.getD_eq_getD_getElem?, h1], h2⟩
  ·cases h
 | cell t T =>
  simp only [res1] at h
  split at h
  ·rename_i k off size _ agg _ _ _ _ hy hT
   split at h
   ·rename_i ty cs hk
    obtain ⟨v, h1, h2⟩ := hs.slot t _ hy
    simp only [VRep] at h2
    obtain ⟨_, b, e2, rfl⟩ := h2
    obtain ⟨b', us, e4, hb, _, hr⟩ := hs.obj k _ hk
    rw [e4] at e2; cases e2
    obtain ⟨v, hl, hrep⟩ := run_loadS (P := P) (hP.get hT) hr (b := b) (fun j z hz => by simp only [World.cell?, hb, Nat.zero_add]; simpa using hz) h
    exact ⟨v, by simp only [resF, Array.getD_eq_getD_getElem?, h1, Option.getD_some, asAddr, Sem.run_bind, Sem.run_pure, Result.andThen_ok, hl], hrep⟩
   ·cases h
  ·cases h
theorem run_resL (hP : TblOk P tb) (hs : Sat B n st ρ a w L) : ∀ {l : List ResultVar} {xs : List SV}, resL tb st l = some xs → ∃ vs, (l.mapM (resF a)).run P w = .ok vs w ∧ VReps (nmO st.O) ρ w (un B.F L) xs vs
 | [], xs, h => by simp only [resL] at h; cases h; exact ⟨[], by simp, by simp [VReps]⟩
 | r :: l, xs, h => by
  simp only [resL] at h
  split at h
  ·rename_i x xs' h1 h2
   cases h
   obtain ⟨v, h3, h4⟩ := run_res1 hP hs h1
   obtain ⟨vs, h5, h6⟩ := run_resL hP hs h2
   exact ⟨v :: vs, by simp only [List.mapM_cons, Sem.run_bind, h3, Result.andThen_ok, h5, Sem.run_pure], by simp only [VReps]; exact ⟨v, vs, rfl, h4, h6⟩⟩
  ·cases h
def Le (x y : SV) : Prop := ∀ N ρ w X v, VRep N ρ w X x v → VRep N ρ w X y v
theorem Le.refl (x : SV) : Le x x := fun _ _ _ _ _ h => h
theorem WQ.rets (hP : TblOk P tb) {fn : Func} {R : Ending → World → Prop} {r : SV} {O' : List (Nat × Ob)}
    (hR : ∀ v ρ' w' L', VRep (nmO O') ρ' w' (un B.F L') r v → ObsOk O' ρ' w' (un B.F L') L' → Step B.L0 B.w0 L' w' → (∀ b, L' b → b < w'.heap.size) → (∀ k v, get B.N k = some v → nmO O' k → ρ' k = v) → R (.returned v) w')
    (π : List (Nat × Nat)) {l : List ResultVar} {xs : List SV} {e : Exit} (he : e = .ret ∨ e = .normal) (hr : fn.results = l.toArray) (h : resL tb st l = some xs) (hx : Le (resV xs) (ren π r)) (hO : subO π st.O O') (hw : wfB O' r = true) (hwO : wfAllO O' O' = true) (hi : injB π O' = true)
    (hpn : pinFix π B.N = true) : WQ B n st (bodyPost P fn R) e := by
  intro a ρ w L hs
  obtain ⟨vs, h1, h2⟩ := run_resL hP hs h
  have key : ∃ v, (results fn a.tmps).run P w = .ok v w ∧ VRep (nmO st.O) ρ w (un B.F L) (resV xs) v := by
    rw [results_eq, hr]
    simp only [Sem.run_bind, List.mapM_toArray, Sem.run_map, h1, Result.andThen_ok, Sem.run_pure]
    refine ⟨_, rfl, ?_⟩
    match xs, vs, h2 with
    | [], vs, h2 => simp only [VReps] at h2; subst h2; simp only [resV, VRep]; exact ⟨[], rfl, by simp [VReps]⟩
    | [x], vs, h2 =>
      simp only [VReps] at h2
      obtain ⟨v, r, rfl, h3, rfl⟩ := h2
      simpa [resV] using h3
    | x :: y :: zs, vs, h2 =>
      have hl := h2.length
      simp only [resV, VRep]
      refine ⟨vs, ?_, h2⟩
      rw [dif_neg (by simp at hl ⊢; omega)]
  obtain ⟨v, h3, h4⟩ := key
  have h4 := hx _ _ _ _ _ h4
  have hfin : R (.returned v) w := hR v (fun k => ρ (rn π k)) w L (VRep.ren r v hw h4)
    ⟨fun k o hk => by
      rcases subO_get hO k o hk with ⟨rfl, h1⟩ | h1
      · exact hs.cellN _ h1
      · exact ObOk.ren (wfAllO_get hwO k o hk) (hs.obj (rn π k) _ h1), fun k o k' o' hk hk' hne l1 l2 b hb hb' => hs.inj _ _ _ _ (subO_live hO hk l1) (subO_live hO hk' l2) (fun e => hne (injB_sound hi hk hk' l1 l2 e)) (by rw [renO_live]; exact l1) (by rw [renO_live]; exact l2) b hb hb'⟩
    hs.step (fun b hb => hs.low b (.inr hb)) (fun k v hk hn => by simp only [pinFix_get hpn k v hk]; exact (hs.pin k v hk).1)
  rcases he with rfl | rfl
  · exact ⟨hs.defers, _, h3, hfin⟩
  · exact ⟨hs.defers, _, h3, hfin⟩
end Go.V
namespace Go.V
open Go.RowKit
variable {P : Program} {n : Nat} {B : Base} {st : St} {tb : List (Nat × TI)} {Q : Exit → Act → World → Prop} {ρ : Nat → Value} {a : Act} {w : World} {L : Nat → Prop} {π π' : List (Nat × Nat)}
structure HasBody (P : Program) (f : FuncId) : Prop where
  ok : ∃ fn, P.funcs[f]? = some fn ∧ fn.body.isNone = false ∧ (fn.name == "runtime.NumGoroutine") = false
theorem hasBody {f : FuncId} {fn : Func} (h : P.funcs[f]? = some fn) (hb : fn.body.isNone = false) (hn : (fn.name == "runtime.NumGoroutine") = false) : HasBody P f := ⟨fn, h, hb, hn⟩
theorem execOp_call {o : Oper} {f : FuncId} {c : Operand} {xs : List Operand} {ats : Array TypeId} (hop : o.op = .call ⟨.value c, xs.toArray, ats⟩) {a : Act} {cvs : List Value} (hc : a.eval c = .func (.func f) #[] ⟨cvs⟩) (hf : HasBody P f) (w : World) :
  (execOp a.eval o).run P w = .ok (.enter f (xs.map a.eval ++ cvs).toArray) w := by
 obtain ⟨fn, h1, h2, h3⟩ := hf.ok
 unfold execOp
 rw [hop]
 simp only [resolve, hc, Deferred.ofValue, invoke, callFunc, Sem.run_bind, Sem.run_pure, Result.andThen_ok, program, Sem.run, h1, h3, h2]
 simp
def outO (π : List (Nat × Nat)) : List (Nat × Ob) → List (Nat × Ob)
  | [] => []
  | (k, o) :: r => (rn π k, renO π o) :: outO π r
def invO (π : List (Nat × Nat)) (j : Nat) : List (Nat × Ob) → Option Nat
  | [] => none
  | (k, _) :: r => match Nat.beq (rn π k) j with | true => some k | false => invO π j r
theorem invO_some {π : List (Nat × Nat)} {j k : Nat} : ∀ {O : List (Nat × Ob)}, invO π j O = some k → rn π k = j ∧ nmO O k
 | [], h => by simp [invO] at h
 | (k', o) :: r, h => by
  simp only [invO] at h
  split at h
  ·rename_i e; cases h; exact ⟨Nat.eq_of_beq_eq_true e, nmO_self⟩
  ·obtain ⟨h1, h2⟩ := invO_some h; exact ⟨h1, nmO_cons h2⟩
theorem invO_none {π : List (Nat × Nat)} {j : Nat} : ∀ {O : List (Nat × Ob)}, invO π j O = none → ∀ k, nmO O k → rn π k ≠ j
 | [], _, k, h => by simp [nmO, get] at h
 | (k', o) :: r, h, k, hk => by
  simp only [invO] at h
  split at h
  ·cases h
  ·rename_i e
   by_cases e' : k' = k
   ·subst e'; exact beq_ne e
   ·exact invO_none h k (by simpa [nmO, zI1 _ _ e'] using hk)
def injN (π : List (Nat × Nat)) : List (Nat × Ob) → Bool
  | [] => true
  | (k, _) :: r => match invO π (rn π k) r with | some k' => (match Nat.beq k k' with | true => injN π r | false => false) | none => injN π r
theorem get_out {π : List (Nat × Nat)} {j : Nat} {R : List (Nat × Ob)} : ∀ {O : List (Nat × Ob)}, get (outO π O ++ R) j = (match invO π j O with | some k => (get O k).map (renO π) | none => get R j) ∨ injN π O = false
 | [] => .inl rfl
 | (k, o) :: r => by
  simp only [outO, List.cons_append, invO]
  by_cases e : rn π k = j
  ·subst e
   refine .inl ?_
   simp only [Nat.beq_refl, zJ1, Option.map_some]
  ·have e' : Nat.beq (rn π k) j = false := by cases hb : Nat.beq (rn π k) j with | false => rfl | true => exact absurd (Nat.eq_of_beq_eq_true hb) e
   rw [zI1 _ _ e, e']
   rcases get_out (π := π) (j := j) (R := R) (O := r) with ih | ih
   ·rw [ih]
    cases hi : invO π j r with
    | none => exact .inl rfl
    | some k2 =>
     obtain ⟨h1, h2⟩ := invO_some hi
     by_cases e2 : k = k2
     ·exact absurd (e2 ▸ h1) e
     ·exact .inl (by simp only [zI1 _ _ e2])
   ·right
    simp only [injN]
    split
    ·split
     ·exact ih
     ·rfl
    ·exact ih
theorem invO_rn {π : List (Nat × Nat)} : ∀ {O : List (Nat × Ob)}, injN π O = true → ∀ {k : Nat}, nmO O k → invO π (rn π k) O = some k
 | [], _, k, h => by simp [nmO, get] at h
 | (k', o) :: r, hi, k, hk => by
  simp only [injN] at hi
  simp only [invO]
  by_cases e : k' = k
  ·subst e; rw [Nat.beq_refl]
  ·have hk' : nmO r k := by simpa [nmO, zI1 _ _ e] using hk
   have hr : injN π r = true := by
    split at hi
    ·split at hi
     ·exact hi
     ·cases hi
    ·exact hi
   have ih := invO_rn hr hk'
   cases hb : Nat.beq (rn π k') (rn π k) with
   | false => exact ih
   | true =>
    have hb := Nat.eq_of_beq_eq_true hb
    rw [hb, ih] at hi
    simp only at hi
    split at hi
    ·rename_i h3; exact absurd (Nat.eq_of_beq_eq_true h3) e
    ·cases hi
def covB (π π' : List (Nat × Nat)) (O' : List (Nat × Ob)) : List (Nat × Ob) → Bool
  | [] => true
  | (k, _) :: r => match isSomeB (get O' k), Nat.beq (rn π k) (rn π' k) with | true, true => covB π π' O' r | _, _ => false
theorem covB_spec {π π' : List (Nat × Nat)} {O' : List (Nat × Ob)} : ∀ {O : List (Nat × Ob)}, covB π π' O' O = true → ∀ k, nmO O k → nmO O' k ∧ rn π k = rn π' k
 | [], _, k, h => by simp [nmO, get] at h
 | (k', o) :: r, h, k, hk => by
  simp only [covB] at h
  split at h
  ·rename_i h1 h2
   by_cases e : k' = k
   ·subst e; exact ⟨isSomeB_eq h1, Nat.eq_of_beq_eq_true h2⟩
   ·exact covB_spec h k (by simpa [nmO, zI1 _ _ e] using hk)
  ·cases h
def freshB (π' : List (Nat × Nat)) (ns : List Nat) (O Oc : List (Nat × Ob)) : List (Nat × Ob) → Bool
  | [] => true
  | (k, _) :: r =>
    match isSomeB (get O k), isSomeB (get Oc (rn π' k)), has (rn π' k) ns with
    | true, _, true => freshB π' ns O Oc r
    | false, false, true => freshB π' ns O Oc r
    | _, _, _ => false
theorem freshB_spec {π' : List (Nat × Nat)} {ns : List Nat} {O Oc : List (Nat × Ob)} : ∀ {O' : List (Nat × Ob)}, freshB π' ns O Oc O' = true → ∀ k, nmO O' k → (rn π' k ∈ ns) ∧ (nmO O k ∨ get Oc (rn π' k) = none)
 | [], _, k, h => by simp [nmO, get] at h
 | (k', o) :: r, h, k, hk => by
  simp only [freshB] at h
  have key : ∀ {x : Option Ob}, isSomeB x = false → x = none := fun {x} hx => by cases x <;> simp_all [isSomeB]
  by_cases e : k' = k
  ·subst e
   split at h
   ·rename_i h1 h3; exact ⟨has_iff.1 h3, .inl (isSomeB_eq h1)⟩
   ·rename_i h1 h2 h3; exact ⟨has_iff.1 h3, .inr (key h2)⟩
   ·cases h
  ·have hk' : nmO r k := by simpa [nmO, zI1 _ _ e] using hk
   split at h
   ·exact freshB_spec h k hk'
   ·exact freshB_spec h k hk'
   ·cases h
theorem ObsOk.own {O : List (Nat × Ob)} {ρ : Nat → Value} {w : World} {X L : Nat → Prop} (hs : ObsOk O ρ w X L) {k : Nat} {o : Ob} (hk : get O k = some o) (hl : o.live = true) {b : Nat} (hb : ob (ρ k) = some b) : L b := by
 have h := hs.obj k o hk
 cases o with
 | blk ty cs => obtain ⟨b', vs, h1, h2, h3, h4⟩ := h; rw [h1] at hb; cases hb; exact h3
 | row ty sz es => obtain ⟨rows, h1, h2, h3, h4⟩ := h; exact h4 b hb
 | it s pos => obtain ⟨b', h1, h2, h3⟩ := h; rw [h1] at hb; cases hb; exact h3
 | set ks => obtain ⟨b', es, clock, h1, h2, h3, _⟩ := h; rw [h1] at hb; cases hb; exact h3
 | sit l cu => obtain ⟨b', bm, es, clock, since, c0, seen, ks, h1, h2, h3, _⟩ := h; rw [h1] at hb; cases hb; exact h3
 | dead => cases hl
theorem ObOk.toL {N : Nat → Prop} {ρ : Nat → Value} {w : World} {X L L' : Nat → Prop} {v : Value} {o : Ob} (h : ObOk N ρ w X L v o) (hb : o.live = true → ∀ b, ob v = some b → L' b) : ObOk N ρ w X L' v o := by
 cases o with
 | blk ty cs =>
  obtain ⟨b, vs, h1, h2, h3, h4⟩ := h
  exact ⟨b, vs, h1, h2, hb rfl b (by rw [h1]; rfl), h4⟩
 | row ty sz es =>
  obtain ⟨rows, h1, h2, h3, h4⟩ := h
  exact ⟨rows, h1, h2, h3, fun b hb' => hb rfl b hb'⟩
 | it s pos =>
  obtain ⟨b, h1, h2, h3⟩ := h
  exact ⟨b, h1, h2, hb rfl b (by rw [h1]; rfl)⟩
 | set ks =>
  obtain ⟨b, es, clock, h1, h2, h3, h4⟩ := h
  exact ⟨b, es, clock, h1, h2, hb rfl b (by rw [h1]; rfl), h4⟩
 | sit l cu =>
  obtain ⟨b, bm, es, clock, since, c0, seen, ks, h1, h2, h3, h4⟩ := h
  exact ⟨b, bm, es, clock, since, c0, seen, ks, h1, h2, hb rfl b (by rw [h1]; rfl), h4⟩
 | dead => exact h
def insO : Option Nat → SV → List (Nat × SV)
 | some d, x => [(d, x)]
 | none, _ => []
theorem call_core (hs : Sat B n st ρ a w L) {f : FuncId} {args : List SV} {O O' : List (Nat × Ob)} {r : SV} {vals : List Value} {d : Option Nat} (con : Con P B.wg B.G f args O r O') (hd : ∀ d', d = some d' → inB n d' = true) (hargs : VReps (nmO st.O) ρ w (un B.F L) (rens π args) vals)
    (hw : wfBs O args = true) (hO : subO π st.O O) (hwO : wfAllO O O = true) (hinj : injB π O = true) (hcov : covB π π' O' O = true) (hfr : ∀ k, nmO O' k → nmO O k ∨ get st.O (rn π' k) = none) (hiN : injN π' O' = true)
    {K : Act → World → Prop} (hK : ∀ v a' ρ' w' L', a' = a.put d v → Sat B n ⟨insO d (ren π' r) ++ st.S, outO π' O' ++ st.O⟩ ρ' a' w' L' → K a' w') {Kp : Ending → World → Prop} (hKp : ∀ v w', K (a.put d v) w' → Kp (.returned v) w') :
    Calls P f vals.toArray w Kp := by
  let Lp : Nat → Prop := fun b => ∃ k o, get O k = some o ∧ o.live = true ∧ ob (ρ (rn π k)) = some b
  have hLp : ∀ b, Lp b → L b := fun b ⟨k, o, h1, h2, h3⟩ => hs.own (subO_live hO h1 h2) (by rw [renO_live]; exact h2) h3
  let F : Nat → Prop := fun b => B.F b ∨ (L b ∧ ¬ Lp b)
  have hX : un F Lp = un B.F L := by
    funext b
    apply propext
    constructor
    · rintro ((h | h) | h)
      · exact .inl h
      · exact .inr h.1
      · exact .inr (hLp b h)
    · rintro (h | h)
      · exact .inl (.inl h)
      · by_cases hp : Lp b
        · exact .inr hp
        · exact .inl (.inr ⟨h, hp⟩)
  have hobs : ObsOk O (fun k => ρ (rn π k)) w (un F Lp) Lp := by
    rw [hX]
    refine ⟨fun k o hk => ?_, fun k o k' o' hk hk' hne l1 l2 b hb hb' => ?_⟩
    · rcases subO_get hO k o hk with ⟨rfl, h1⟩ | h1
      · exact hs.cellN _ h1
      · exact (ObOk.ren (wfAllO_get hwO k o hk) (hs.obj (rn π k) _ h1)).toL (fun hl b hb => ⟨k, o, hk, hl, hb⟩)
    · exact hs.inj _ _ _ _ (subO_live hO hk l1) (subO_live hO hk' l2) (fun e => hne (injB_sound hinj hk hk' l1 l2 e)) (by rw [renO_live]; exact l1) (by rw [renO_live]; exact l2) b hb hb'
  refine (con w (fun k => ρ (rn π k)) F Lp vals (by rw [hX]; exact hs.low) (fun b hF hp => by
    rcases hF with h | h
    · exact hs.dis b h (hLp b hp)
    · exact h.2 hp) (by rw [hX]; exact hs.ext) (by rw [hX]; exact hs.glob) hobs (by rw [hX]; exact VReps.ren args vals hw hargs)).mono ?_
  rintro e w' ⟨v, ρ', L', rfl, hv, hobs', hstep, hlow', hpin⟩
  refine hKp v w' ?_
  let Ln : Nat → Prop := fun b => (L b ∧ ¬ Lp b) ∨ L' b
  have hX' : un F L' = un B.F Ln := by
    funext b
    apply propext
    constructor
    · rintro ((h | h) | h)
      · exact .inl h
      · exact .inr (.inl h)
      · exact .inr (.inr h)
    · rintro (h | h | h)
      · exact .inl (.inl h)
      · exact .inl (.inr h)
      · exact .inr h
  have hst : Step L w Ln w' := ⟨hstep.os, hstep.tape, hstep.output, hstep.size, fun b h1 h2 => hstep.block b h1 (fun h => h2 (hLp b h)), fun b h => by
    rcases h with h | h
    · exact .inl h.1
    · exact (hstep.new b h).imp (hLp b) id⟩
  have hkeep : Keep w (un B.F L) w' (un B.F Ln) := keep_of_step hst
  let ρn : Nat → Value := fun j => match invO π' j O' with | some k => ρ' k | none => ρ j
  have hout : ∀ j, get (outO π' O' ++ st.O) j = (match invO π' j O' with | some k => (get O' k).map (renO π') | none => get st.O j) := fun j => by
    rcases get_out (π := π') (j := j) (R := st.O) (O := O') with h | h
    · exact h
    · rw [hiN] at h; cases h
  have hρn : ∀ k, nmO O' k → ρn (rn π' k) = ρ' k := fun k hk => by simp only [ρn, invO_rn hiN hk]
  have hNn : ∀ k, nmO O' k → nmO (outO π' O' ++ st.O) (rn π' k) ∧ ρn (rn π' k) = ρ' k := fun k hk => by
    refine ⟨?_, hρn k hk⟩
    unfold nmO
    rw [hout, invO_rn hiN hk]
    simp only [Option.isSome_map]; exact hk
  have hN : ∀ j, nmO st.O j → nmO (outO π' O' ++ st.O) j ∧ ρn j = ρ j := fun j hj => by
    cases hi : invO π' j O' with
    | none => exact ⟨by unfold nmO; rw [hout, hi]; exact hj, by simp only [ρn, hi]⟩
    | some k =>
      obtain ⟨h1, h2⟩ := invO_some hi
      subst h1
      refine ⟨(hNn k h2).1, ?_⟩
      rw [hρn k h2]
      rcases hfr k h2 with h3 | h3
      · obtain ⟨_, h4⟩ := covB_spec hcov k h3
        rw [hpin k _ (pinsOf_mem h3) h2]
        simp only [h4]
      · simp [nmO, h3] at hj
  refine hK v _ ρn w' Ln rfl (hs.go hst (fun b hb => ?_) hN (by cases d <;> simp [Act.put, hs.size]) (by cases d <;> exact hs.defers) (fun t y hy => ?_) (fun j o hj => ?_) (fun j o j' o' hj hj' hne l1 l2 b hb hb' => ?_))
  · rcases hb with hb | hb
    · exact Nat.lt_of_lt_of_le (hs.low b (.inr hb.1)) hst.size
    · exact hlow' b hb
  · cases d with
    | none =>
      obtain ⟨v', h1, h2⟩ := hs.slot t y hy
      exact ⟨v', h1, VRep.keep hN hkeep y v' h2⟩
    | some d =>
      have hd' : d < n := by simpa [inB] using hd d rfl
      change get ((d, ren π' r) :: st.S) t = some y at hy
      simp only [Act.put]
      by_cases hdt : d = t
      · subst hdt
        rw [zJ1] at hy
        cases hy
        exact ⟨v, by simp [hs.size, hd'], by rw [← hX']; exact VRep.renI hNn r v hv⟩
      · rw [zI1 _ _ hdt] at hy
        obtain ⟨v', h1, h2⟩ := hs.slot t y hy
        exact ⟨v', by rw [Array.getElem?_setIfInBounds_ne hdt]; exact h1, VRep.keep hN hkeep y v' h2⟩
  · rw [hout] at hj
    cases hi : invO π' j O' with
    | some k =>
      obtain ⟨h1, h2⟩ := invO_some hi
      subst h1
      rw [hi] at hj
      simp only [Option.map_eq_some_iff] at hj
      obtain ⟨o1, h3, rfl⟩ := hj
      show ObOk _ ρn _ _ _ (ρn (rn π' k)) _
      rw [hρn k h2, ← hX']
      exact ((hobs'.obj k o1 h3).renI hNn).toL (fun hl b hb => .inr (hobs'.own h3 (by rw [renO_live] at hl; exact hl) hb))
    | none =>
      rw [hi] at hj
      have e : ρn j = ρ j := by simp only [ρn, hi]
      show ObOk _ ρn _ _ _ (ρn j) _
      rw [e]
      refine (hs.obj j o hj).keep hN hkeep (fun hl b hb => ?_)
      have hnp : ¬ Lp b := fun ⟨k, o1, h1, h2, h3⟩ => by
        obtain ⟨h4, h5⟩ := covB_spec hcov k (by simp [nmO, h1])
        exact hs.inj j o (rn π k) _ hj (subO_live hO h1 h2) (fun e2 => invO_none hi k h4 (by rw [← h5]; exact e2.symm)) hl (by rw [renO_live]; exact h2) b hb h3
      exact ⟨hstep.block b (hs.low b (.inr (hs.own hj hl hb))) hnp, fun hL => .inl ⟨hL, hnp⟩⟩
  · rw [hout] at hj hj'
    cases hi : invO π' j O' with
    | some k =>
      obtain ⟨e1, h2⟩ := invO_some hi
      rw [hi] at hj
      simp only [Option.map_eq_some_iff] at hj
      obtain ⟨o1, h3, rfl⟩ := hj
      rw [renO_live] at l1
      have hb1 : ob (ρ' k) = some b := by rw [← hρn k h2, e1]; exact hb
      cases hi' : invO π' j' O' with
      | some k' =>
        obtain ⟨e1', h2'⟩ := invO_some hi'
        rw [hi'] at hj'
        simp only [Option.map_eq_some_iff] at hj'
        obtain ⟨o1', h3', rfl⟩ := hj'
        rw [renO_live] at l2
        have hb2 : ob (ρ' k') = some b := by rw [← hρn k' h2', e1']; exact hb'
        exact hobs'.inj k o1 k' o1' h3 h3' (fun e => hne (by rw [← e1, ← e1', e])) l1 l2 b hb1 hb2
      | none =>
        rw [hi'] at hj'
        have e : ρn j' = ρ j' := by simp only [ρn, hi']
        rw [e] at hb'
        have hL' := hobs'.own h3 l1 hb1
        have hlt := hs.low b (.inr (hs.own hj' l2 hb'))
        rcases hstep.new b hL' with ⟨k2, o2, g1, g2, g3⟩ | hge
        · obtain ⟨h4, h5⟩ := covB_spec hcov k2 (by simp [nmO, g1])
          exact hs.inj j' o' (rn π k2) _ hj' (subO_live hO g1 g2) (fun e2 => invO_none hi' k2 h4 (by rw [← h5]; exact e2.symm)) l2 (by rw [renO_live]; exact g2) b hb' g3
        · omega
    | none =>
      rw [hi] at hj
      have e : ρn j = ρ j := by simp only [ρn, hi]
      rw [e] at hb
      cases hi' : invO π' j' O' with
      | some k' =>
        obtain ⟨e1', h2'⟩ := invO_some hi'
        rw [hi'] at hj'
        simp only [Option.map_eq_some_iff] at hj'
        obtain ⟨o1', h3', rfl⟩ := hj'
        rw [renO_live] at l2
        have hb2 : ob (ρ' k') = some b := by rw [← hρn k' h2', e1']; exact hb'
        have hL' := hobs'.own h3' l2 hb2
        have hlt := hs.low b (.inr (hs.own hj l1 hb))
        rcases hstep.new b hL' with ⟨k2, o2, g1, g2, g3⟩ | hge
        · obtain ⟨h4, h5⟩ := covB_spec hcov k2 (by simp [nmO, g1])
          exact hs.inj j o (rn π k2) _ hj (subO_live hO g1 g2) (fun e2 => invO_none hi k2 h4 (by rw [← h5]; exact e2.symm)) l1 (by rw [renO_live]; exact g2) b hb g3
        · omega
      | none =>
        rw [hi'] at hj'
        have e' : ρn j' = ρ j' := by simp only [ρn, hi']
        rw [e'] at hb'
        exact hs.inj j o j' o' hj hj' hne l1 l2 b hb hb'
theorem VReps.app {N : Nat → Prop} {ρ : Nat → Value} {w : World} {X : Nat → Prop} : ∀ {xs ys : List SV} {us vs : List Value}, VReps N ρ w X xs us → VReps N ρ w X ys vs → VReps N ρ w X (xs ++ ys) (us ++ vs)
 | [], ys, us, vs, h, h' => by simp only [VReps] at h; subst h; exact h'
 | x :: xs, ys, us, vs, h, h' => by
  simp only [VReps] at h
  obtain ⟨v, r, rfl, h2, h3⟩ := h
  simp only [List.cons_append, VReps]
  exact ⟨v, r ++ vs, rfl, h2, VReps.app h3 h'⟩
def callee (G : List (Nat × List D)) (S : List (Nat × SV)) : Op → Option (Nat × List SV × List Prop × Option Operand)
  | .call ⟨.value c, ⟨xs⟩, _⟩ =>
    match o1 G S c, o1s G S xs with
    | some (.fn f caps, l), some (ys, m) => some (f, ys ++ caps, l ++ m, some c)
    | some (.v (.raw (.func (.func f) ⟨[]⟩ ⟨[]⟩)), l), some (ys, m) => some (f, ys, l ++ m, some c)
    | _, _ => none
  | _ => none
theorem callee_sound (hs : Sat B n st ρ a w L) {S : List (Nat × SV)} (hS : ∀ t x, get S t = some x → get st.S t = some x) {o : Oper} {f : Nat} {ys : List SV} {l : List Prop} {c : Option Operand} (h : callee B.G S o.op = some (f, ys, l, c)) (hv : vcs l) (hf : HasBody P f) :
  ∃ vals : List Value, (execOp a.eval o).run P w = .ok (.enter f vals.toArray) w ∧ VReps (nmO st.O) ρ w (un B.F L) ys vals := by
 unfold callee at h
 split at h
 ·rename_i c xs ats hop
  split at h
  ·rename_i f' caps l1 ys' m h1 h2
   cases h
   obtain ⟨v1, v2⟩ := zR1 hv
   have e1 := zN1 hs hS h1 v1
   have e2 := o1s_sound hs hS h2 v2
   simp only [VRep] at e1
   obtain ⟨cvs, e1, e3⟩ := e1
   exact ⟨_, execOp_call hop e1 hf w, e2.app e3⟩
  ·rename_i f' l1 ys' m h1 h2
   cases h
   obtain ⟨v1, v2⟩ := zR1 hv
   have e1 := zN1 hs hS h1 v1
   have e2 := o1s_sound hs hS h2 v2
   simp only [VRep, Rep] at e1
   exact ⟨_, execOp_call (cvs := []) hop e1 hf w, by simpa using e2⟩
  ·cases h
 ·cases h
def wnO (π : List (Nat × Nat)) : List (Nat × Ob) → List Nat
 | [] => []
 | (k, _) :: r => rn π k :: wnO π r
theorem wnO_eq (π : List (Nat × Nat)) : ∀ (O : List (Nat × Ob)), (outO π O).map (·.1) = wnO π O
 | [] => rfl
 | (k, o) :: r => by simp [outO, wnO, wnO_eq π r]
theorem mem_wnO {π : List (Nat × Nat)} {j : Nat} : ∀ {O : List (Nat × Ob)}, j ∈ wnO π O → ∃ k, nmO O k ∧ rn π k = j
 | [], h => by simp [wnO] at h
 | (k, o) :: r, h => by
  simp only [wnO, List.mem_cons] at h
  rcases h with rfl | h
  ·exact ⟨k, nmO_self, rfl⟩
  ·obtain ⟨k', h1, h2⟩ := mem_wnO h; exact ⟨k', nmO_cons h1, h2⟩
theorem subO_mono {π : List (Nat × Nat)} {O1 O1' : List (Nat × Ob)} (hm : ∀ k o, get O1 k = some o → get O1' k = some o) : ∀ {O : List (Nat × Ob)}, subO π O1 O → subO π O1' O
 | [], _ => trivial
 | (k, .dead) :: r, h => by
  refine ⟨?_, subO_mono hm h.2⟩
  cases hg : get O1 (rn π k) with
  | none => have := h.1; rw [hg] at this; cases this
  | some o => rw [hm _ _ hg]; rfl
 | (k, .blk ty cs) :: r, h => ⟨hm _ _ h.1, subO_mono hm h.2⟩
 | (k, .row ty sz es) :: r, h => ⟨hm _ _ h.1, subO_mono hm h.2⟩
 | (k, .it s pos) :: r, h => ⟨hm _ _ h.1, subO_mono hm h.2⟩
 | (k, .set ks) :: r, h => ⟨hm _ _ h.1, subO_mono hm h.2⟩
 | (k, .sit l cu) :: r, h => ⟨hm _ _ h.1, subO_mono hm h.2⟩
theorem OpOk.call {ops : List Oper} {o : Oper} {f : Nat} {ys : List SV} {l : List Prop} {c : Option Operand} {sl ns ws : List Nat} {args : List SV} {O O' : List (Nat × Ob)} {r : SV} (π π' : List (Nat × Nat)) (hf : HasBody P f) (hg : o.guard = none) (hd : ∀ d', o.dst = some d' → inB n d' = true)
    (hc : callee B.G (pickL st.S sl) o.op = some (f, ys, l, c)) (hl : vcs l) (con : Con P B.wg B.G f args O r O') (hargs : ys = rens π args) (hw : wfBs O args = true) (hO : subO π (pickL st.O ns) O) (hwO : wfAllO O O = true) (hinj : injB π O = true) (hcov : covB π π' O' O = true)
    (hfr : freshB π' ns O (pickL st.O ns) O' = true) (hiN : injN π' O' = true) : OpOk P B n ops Q o ⟨sl, ns, ws, wnO π' O'⟩ st ⟨insO o.dst (ren π' r), outO π' O'⟩ := by
  intro st' a ρ w L K hag hs hK
  unfold wpO
  rw [if_pos (by simp [Region.wanted, hg])]
  have hS : ∀ t x, get (pickL st.S sl) t = some x → get st'.S t = some x := fun t x ht => by obtain ⟨h1, h2⟩ := zO1 ht; rw [hag.S t h1]; exact h2
  obtain ⟨vals, h1, h2⟩ := callee_sound hs hS hc hl hf
  rw [hargs] at h2
  simp only [Oper.wp, h1, Oper.upon]
  refine call_core hs (π := π) (π' := π') (d := o.dst) con hd h2 hw (subO_mono (fun k o' hk => by obtain ⟨h1, h2⟩ := zO1 hk; rw [hag.O k h1]; exact h2) hO) hwO hinj hcov (fun k hk => ?_) hiN (K := K) (fun v a' ρ' w' L' _ s' => hK a' w' ⟨ρ', L', s'⟩) (fun v w' h => h)
  obtain ⟨h3, h4⟩ := freshB_spec hfr k hk
  rcases h4 with h4 | h4
  · exact .inl h4
  · exact .inr (by rw [hag.O _ h3]; exact pickL_none h3 h4)
theorem OpOk.gcall {ops : List Oper} {o : Oper} {f : Nat} {ys : List SV} {l : List Prop} {c : Option Operand} {sl ns ws : List Nat} {args : List SV} {r : SV} {j : Nat} {want g : Bool} {d : Nat} (hf : HasBody P f) (hg : o.guard = some (j, want)) (ho : o.dst = some d) (hd : inB n d = true)
    (hgc : gcond ops (pickL st.S sl) j want = some g) (hc : callee B.G (pickL st.S sl) o.op = some (f, ys, l, c)) (hl : g = true → vcs l) (con : g = true → Con P B.wg B.G f args [] r []) (hargs : ys = rens [] args) (hw : wfBs [] args = true) :
    OpOk P B n ops Q o ⟨sl, ns, ws, []⟩ st ⟨[(d, .g g (ren [] r))], []⟩ := by
  intro st' a ρ w L K hag hs hK
  unfold wpO
  have hS : ∀ t x, get (pickL st.S sl) t = some x → get st'.S t = some x := fun t x ht => by obtain ⟨h1, h2⟩ := zO1 ht; rw [hag.S t h1]; exact h2
  have hwd : Region.wanted o (yielded ops.toArray a.tmps) = g := by simp only [Region.wanted, hg]; exact gcond_sound hs hS hgc
  rw [hwd]
  cases g with
  | true =>
    rw [if_pos rfl]
    obtain ⟨vals, h1, h2⟩ := callee_sound hs hS hc (hl rfl) hf
    rw [hargs] at h2
    simp only [Oper.wp, h1, Oper.upon]
    refine call_core hs (π := []) (π' := []) (d := some d) (con rfl) (fun d' e => by cases e; exact hd) h2 hw trivial rfl rfl rfl (fun k hk => by simp [nmO, get] at hk) rfl (K := K) (fun v a' ρ' w' L' _ s' => hK a' w' ⟨ρ', L', ?_⟩) (fun v w' h => by rw [ho]; exact h)
    have s2 : Sat B n ⟨(d, ren [] r) :: st'.S, st'.O⟩ ρ' a' w' L' := s'
    refine s2.go (Step.refl _ _) (fun b hb => s2.low b (.inr hb)) (fun _ h => ⟨h, rfl⟩) s2.size s2.defers (fun t y hy => ?_) s2.obj s2.inj
    change get ((d, SV.g true (ren [] r)) :: st'.S) t = some y at hy
    by_cases e : d = t
    · subst e
      rw [zJ1] at hy; cases hy
      obtain ⟨v, h3, h4⟩ := s2.slot d _ (zJ1 _ _ _)
      exact ⟨v, h3, by simp only [VRep]; exact ⟨fun _ => h4, (fun h => by cases h)⟩⟩
    · rw [zI1 _ _ e] at hy
      exact s2.slot t y (by rw [zI1 _ _ e]; exact hy)
  | false =>
    rw [if_neg (by simp), ho]
    exact hK _ _ ⟨ρ, L, sat_put hs (x := .g false (ren [] r)) hd (by simp only [VRep]; exact ⟨(fun h => by cases h), fun _ => trivial⟩)⟩
end Go.V
namespace Go.V
open Go.RowKit
variable {P : Program} {n : Nat} {B : Base} {st : St} {tb : List (Nat × TI)} {Q : Exit → Act → World → Prop} {ρ : Nat → Value} {a : Act} {w : World} {L : Nat → Prop}
mutual
theorem ren_nil : ∀ (x : SV), ren [] x = x
  | .v _ => by simp only [ren]
  | .g c x => by simp only [ren, ren_nil x]
  | .p k o => by simp only [ren, rn]
  | .at cs o => by simp only [ren]
  | .r k => by simp only [ren, rn]
  | .re k sz i o => by simp only [ren, rn]
  | .sp k => by simp only [ren, rn]
  | .fn f cs => by simp only [ren, rens_nil cs]
  | .tup xs => by simp only [ren, rens_nil xs]
  | .u => by simp only [ren]
theorem rens_nil : ∀ (xs : List SV), rens [] xs = xs
  | [] => by simp only [rens]
  | x :: xs => by simp only [rens, ren_nil x, rens_nil xs]
end
theorem WR.op {ops rest : List Oper} {o : Oper} {done : List Key} {sl ns wn : List Nat} {d : Dl} (hok : OpOk P B n ops Q o ⟨sl, ns, d.s.map (·.1), wn⟩ st d) (hk : subL wn (d.o.map (·.1)) = true) (hn : subL ns wn = true) (h : WR P B n (st.add d) ops Q (done ++ [⟨sl, ns, d.s.map (·.1), wn⟩]) rest) : WR P B n st ops Q done (o :: rest) :=
 WR.cons ⟨rfl, fun k hk' => subL_spec hk k hk', fun k hk' => subL_spec hn k hk'⟩ hok h
theorem opok_call0 {ops : List Oper} {o : Oper} {f d : Nat} {ys : List SV} {l : List Prop} {c : Option Operand} {sl ns ws : List Nat} {r : SV} (hf : HasBody P f) (hg : o.guard = none) (ho : o.dst = some d) (hd : inB n d = true)
  (hc : callee B.G (pickL st.S sl) o.op = some (f, ys, l, c)) (hl : vcs l) (hw : wfBs [] ys = true) (con : Con P B.wg B.G f ys [] r []) : OpOk P B n ops Q o ⟨sl, ns, ws, []⟩ st ⟨[(d, r)], []⟩ := by
 have := OpOk.call (P := P) (B := B) (n := n) (ops := ops) (Q := Q) (o := o) (st := st) (sl := sl) (ns := []) (ws := ws) [] [] hf hg (fun d' e => by rw [ho] at e; cases e; exact hd) hc hl con (rens_nil ys).symm hw trivial rfl rfl rfl rfl rfl
 rw [ho, ren_nil] at this
 intro st' a ρ w L K hag hs hK
 exact this st' a ρ w L K ⟨hag.S, fun t ht => by cases ht⟩ hs hK
theorem WL.call0 {ops rest : List Oper} {o : Oper} {f d : Nat} {ys : List SV} {l : List Prop} {c : Option Operand} {r : SV} (hf : HasBody P f) (hg : o.guard = none) (ho : o.dst = some d) (hd : inB n d = true)
  (hc : callee B.G st.S o.op = some (f, ys, l, c)) (hl : vcs l) (hw : wfBs [] ys = true) (con : Con P B.wg B.G f ys [] r []) (h : WL P B n ⟨(d, r) :: st.S, st.O⟩ ops Q rest) : WL P B n st ops Q (o :: rest) := by
 intro a ρ w L hs
 refine wpList_step fun K hK => ?_
 rw [if_pos (by simp [Region.wanted, hg])]
 obtain ⟨vals, h1, h2⟩ := callee_sound hs (fun _ _ h => h) hc hl hf
 simp only [Oper.wp, h1, Oper.upon]
 refine call_core hs (π := []) (π' := []) (d := o.dst) con (fun d' e => by rw [ho] at e; cases e; exact hd) (by rw [rens_nil]; exact h2) hw trivial rfl rfl rfl (fun k hk => by simp [nmO, get] at hk) rfl (K := K) (fun v a' ρ' w' L' _ s' => hK a' w' (h a' ρ' w' L' ?_)) (fun v w' h => h)
 rw [ho, ren_nil] at s'
 exact s'
theorem WR.call0 {ops rest : List Oper} {o : Oper} {done : List Key} {f d : Nat} {ys : List SV} {l : List Prop} {c : Option Operand} {r : SV} (hf : HasBody P f) (hg : o.guard = none) (ho : o.dst = some d) (hd : inB n d = true)
  (hc : callee B.G (pickL st.S (rd ops o)) o.op = some (f, ys, l, c)) (hl : vcs l) (hw : wfBs [] ys = true) (con : Con P B.wg B.G f ys [] r []) (h : WR P B n ⟨(d, r) :: st.S, st.O⟩ ops Q (done ++ [⟨rd ops o, [], [d], []⟩]) rest) : WR P B n st ops Q done (o :: rest) :=
 WR.op (sl := rd ops o) (ns := []) (wn := []) (d := ⟨[(d, r)], []⟩) (opok_call0 hf hg ho hd hc hl hw con) rfl rfl h
theorem WL.gcall0 {ops rest : List Oper} {o : Oper} {f d j : Nat} {want g : Bool} {ys : List SV} {l : List Prop} {c : Option Operand} {r : SV} (hf : HasBody P f) (hg : o.guard = some (j, want)) (ho : o.dst = some d) (hd : inB n d = true) (hgc : gcond ops (pickL st.S (rd ops o)) j want = some g)
    (hc : callee B.G (pickL st.S (rd ops o)) o.op = some (f, ys, l, c)) (hl : g = true → vcs l) (hw : wfBs [] ys = true) (con : g = true → Con P B.wg B.G f ys [] r []) (h : WL P B n ⟨(d, .g g r) :: st.S, st.O⟩ ops Q rest) : WL P B n st ops Q (o :: rest) := by
  have := OpOk.gcall (P := P) (B := B) (n := n) (ops := ops) (Q := Q) (o := o) (st := st) (sl := rd ops o) (ns := []) (ws := []) hf hg ho hd hgc hc hl con (rens_nil ys).symm hw
  rw [ren_nil] at this
  exact WL.op this h
theorem WR.gcall0 {ops rest : List Oper} {o : Oper} {done : List Key} {f d j : Nat} {want g : Bool} {ys : List SV} {l : List Prop} {c : Option Operand} {r : SV} (hf : HasBody P f) (hg : o.guard = some (j, want)) (ho : o.dst = some d) (hd : inB n d = true) (hgc : gcond ops (pickL st.S (rd ops o)) j want = some g)
  (hc : callee B.G (pickL st.S (rd ops o)) o.op = some (f, ys, l, c)) (hl : g = true → vcs l) (hw : wfBs [] ys = true) (con : g = true → Con P B.wg B.G f ys [] r []) (h : WR P B n ⟨(d, .g g r) :: st.S, st.O⟩ ops Q (done ++ [⟨rd ops o, [], [d], []⟩]) rest) : WR P B n st ops Q done (o :: rest) := by
 have := OpOk.gcall (P := P) (B := B) (n := n) (ops := ops) (Q := Q) (o := o) (st := st) (sl := rd ops o) (ns := []) (ws := [d]) hf hg ho hd hgc hc hl con (rens_nil ys).symm hw
 rw [ren_nil] at this
 exact WR.op (sl := rd ops o) (ns := []) (wn := []) (d := ⟨[(d, .g g r)], []⟩) this rfl rfl h
def appK {α β : Type} : List α → List α → (List α → β) → β
  | [], l, k => k l
  | x :: r, l, k => appK r l fun l' => k (x :: l')
theorem appK_eq {α β : Type} : ∀ (r l : List α) (k : List α → β), appK r l k = k (r ++ l)
 | [], l, k => rfl
 | x :: r, l, k => by simp [appK, appK_eq r]
def addK (st : St) (s : List (Nat × SV)) (o : List (Nat × Ob)) : Option St := appK s st.S fun S => appK o st.O fun O => some ⟨S, O⟩
theorem addK_eq {st st' : St} {s : List (Nat × SV)} {o : List (Nat × Ob)} (h : addK st s o = some st') : st.add ⟨s, o⟩ = st' := by
 unfold addK at h
 simp only [appK_eq, Option.some.injEq] at h
 exact h
theorem WL.callO {ops rest : List Oper} {o : Oper} {f : Nat} {ys : List SV} {l : List Prop} {c : Option Operand} {args : List SV} {O O' : List (Nat × Ob)} {r : SV} {d : Nat} {st' : St} (π π' : List (Nat × Nat)) (ns : List Nat) (hf : HasBody P f) (hg : o.guard = none) (ho : o.dst = some d) (hd : inB n d = true)
  (hc : callee B.G (pickL st.S (rd ops o)) o.op = some (f, ys, l, c)) (hl : vcs l) (con : Con P B.wg B.G f args O r O') (hargs : ys = rens π args) (hw : wfBs O args = true) (hO : subO π (pickL st.O ns) O) (hwO : wfAllO O O = true) (hinj : injB π O = true) (hcov : covB π π' O' O = true)
  (hfr : freshB π' ns O (pickL st.O ns) O' = true) (hiN : injN π' O' = true) (hst : addK st [(d, ren π' r)] (outO π' O') = some st') (h : WL P B n st' ops Q rest) : WL P B n st ops Q (o :: rest) := by
 have := OpOk.call (P := P) (B := B) (n := n) (ops := ops) (Q := Q) (o := o) (st := st) (sl := rd ops o) (ns := ns) (ws := []) π π' hf hg (fun d' e => by rw [ho] at e; cases e; exact hd) hc hl con hargs hw hO hwO hinj hcov hfr hiN
 rw [ho] at this
 refine WL.op this ?_
 show WL P B n (st.add ⟨[(d, ren π' r)], outO π' O'⟩) ops Q rest
 rw [addK_eq hst]; exact h
theorem WR.callO {ops rest : List Oper} {o : Oper} {done : List Key} {f : Nat} {ys : List SV} {l : List Prop} {c : Option Operand} {args : List SV} {O O' : List (Nat × Ob)} {r : SV} {d : Nat} {st' : St} (π π' : List (Nat × Nat)) (ns : List Nat) (hf : HasBody P f) (hg : o.guard = none) (ho : o.dst = some d) (hd : inB n d = true)
  (hc : callee B.G (pickL st.S (rd ops o)) o.op = some (f, ys, l, c)) (hl : vcs l) (con : Con P B.wg B.G f args O r O') (hargs : ys = rens π args) (hw : wfBs O args = true) (hO : subO π (pickL st.O ns) O) (hwO : wfAllO O O = true) (hinj : injB π O = true) (hcov : covB π π' O' O = true)
  (hfr : freshB π' ns O (pickL st.O ns) O' = true) (hiN : injN π' O' = true) (hst : addK st [(d, ren π' r)] (outO π' O') = some st') (h : WR P B n st' ops Q (done ++ [⟨rd ops o, ns, [d], wnO π' O'⟩]) rest) : WR P B n st ops Q done (o :: rest) := by
 have := OpOk.call (P := P) (B := B) (n := n) (ops := ops) (Q := Q) (o := o) (st := st) (sl := rd ops o) (ns := ns) (ws := [d]) π π' hf hg (fun d' e => by rw [ho] at e; cases e; exact hd) hc hl con hargs hw hO hwO hinj hcov hfr hiN
 rw [ho] at this
 refine WR.cons ⟨rfl, fun k hk => by rw [← wnO_eq]; exact hk, fun k hk => ?_⟩ this ?_
 ·obtain ⟨k', h1, h2⟩ := mem_wnO hk
  rw [← h2]; exact (freshB_spec hfr k' h1).1
 ·show WR P B n (st.add ⟨[(d, ren π' r)], outO π' O'⟩) ops Q _ rest
  rw [addK_eq hst]; exact h
def QOk (P : Program) (B : Base) (n : Nat) (o : Oper) (sl ns : List Nat) (view : St) (x : SV) : Prop :=
  ∀ st' a ρ w L, Agree sl ns view st' → Sat B n st' ρ a w L → ∃ v, (execOp a.eval o).run P w = .ok (.value v) w ∧ VRep (nmO st'.O) ρ w (un B.F L) x v
theorem opok_quiet {ops : List Oper} {o : Oper} {sl ns ws : List Nat} {d : Nat} {x : SV} (hg : o.guard = none) (ho : o.dst = some d) (hd : inB n d = true) (h : QOk P B n o sl ns st x) : OpOk P B n ops Q o ⟨sl, ns, ws, []⟩ st ⟨[(d, x)], []⟩ := by
 intro st' a ρ w L K hag hs hK
 obtain ⟨v, h1, h2⟩ := h st' a ρ w L hag hs
 exact wpO_value hg h1 (by rw [ho]; exact hK _ _ ⟨ρ, L, sat_put hs hd h2⟩)
theorem opok_gquiet {ops : List Oper} {o : Oper} {sl ns ws : List Nat} {d j : Nat} {want g : Bool} {x : SV} (hg : o.guard = some (j, want)) (ho : o.dst = some d) (hd : inB n d = true) (hgc : gcond ops (pickL st.S sl) j want = some g) (h : g = true → QOk P B n o sl ns st x) : OpOk P B n ops Q o ⟨sl, ns, ws, []⟩ st ⟨[(d, .g g x)], []⟩ := by
 intro st' a ρ w L K hag hs hK
 have hS : ∀ t x, get (pickL st.S sl) t = some x → get st'.S t = some x := fun t x ht => by obtain ⟨h1, h2⟩ := zO1 ht; rw [hag.S t h1]; exact h2
 have hwd : Region.wanted o (yielded ops.toArray a.tmps) = g := by simp only [Region.wanted, hg]; exact gcond_sound hs hS hgc
 unfold wpO
 rw [hwd]
 cases g with
 | true =>
  obtain ⟨v, h1, h2⟩ := h rfl st' a ρ w L hag hs
  rw [if_pos rfl]
  simp only [Oper.wp, h1, Oper.upon, ho]
  exact hK _ _ ⟨ρ, L, sat_put hs (x := .g true x) hd (by simp only [VRep]; exact ⟨fun _ => h2, (fun h => by cases h)⟩)⟩
 | false =>
  rw [if_neg (by simp), ho]
  exact hK _ _ ⟨ρ, L, sat_put hs (x := .g false x) hd (by simp only [VRep]; exact ⟨(fun h => by cases h), fun _ => trivial⟩)⟩
theorem WL.q {ops rest : List Oper} {o : Oper} {d : Nat} {x : SV} (ns : List Nat) (hg : o.guard = none) (ho : o.dst = some d) (hd : inB n d = true) (hq : QOk P B n o (rd ops o) ns st x) (h : WL P B n ⟨(d, x) :: st.S, st.O⟩ ops Q rest) : WL P B n st ops Q (o :: rest) :=
 WL.op (opok_quiet (ws := []) hg ho hd hq) h
theorem WR.q {ops rest : List Oper} {o : Oper} {done : List Key} {d : Nat} {x : SV} (ns : List Nat) (hg : o.guard = none) (ho : o.dst = some d) (hd : inB n d = true) (hq : QOk P B n o (rd ops o) ns st x) (h : WR P B n ⟨(d, x) :: st.S, st.O⟩ ops Q (done ++ [⟨rd ops o, ns, [d], []⟩]) rest) : WR P B n st ops Q done (o :: rest) :=
 WR.op (wn := []) (d := ⟨[(d, x)], []⟩) (opok_quiet hg ho hd hq) rfl rfl h
theorem WL.gq {ops rest : List Oper} {o : Oper} {d j : Nat} {want g : Bool} {x : SV} (ns : List Nat) (hg : o.guard = some (j, want)) (ho : o.dst = some d) (hd : inB n d = true) (hgc : gcond ops (pickL st.S (rd ops o)) j want = some g) (hq : g = true → QOk P B n o (rd ops o) ns st x) (h : WL P B n ⟨(d, .g g x) :: st.S, st.O⟩ ops Q rest) : WL P B n st ops Q (o :: rest) :=
 WL.op (opok_gquiet (ws := []) hg ho hd hgc hq) h
theorem WR.gq {ops rest : List Oper} {o : Oper} {done : List Key} {d j : Nat} {want g : Bool} {x : SV} (ns : List Nat) (hg : o.guard = some (j, want)) (ho : o.dst = some d) (hd : inB n d = true) (hgc : gcond ops (pickL st.S (rd ops o)) j want = some g) (hq : g = true → QOk P B n o (rd ops o) ns st x) (h : WR P B n ⟨(d, .g g x) :: st.S, st.O⟩ ops Q (done ++ [⟨rd ops o, ns, [d], []⟩]) rest) : WR P B n st ops Q done (o :: rest) :=
 WR.op (wn := []) (d := ⟨[(d, .g g x)], []⟩) (opok_gquiet hg ho hd hgc hq) rfl rfl h
def idxOf (tb : List (Nat × TI)) (G : List (Nat × List D)) (S : List (Nat × SV)) : Op → Option (List (List D) × Int × List Prop)
  | .indexAddr T x i =>
    match get tb T, o1 G S x, o1 G S i with
    | some ⟨_, _, _, _, _, some z, _⟩, some (.v d, l), some (.v (.int _ m), l2) => match asSl z d with | some es => some (es, m, l ++ l2) | none => none
    | _, _, _ => none
  | _ => none
theorem q_idx (hP : TblOk P tb) {o : Oper} {sl ns : List Nat} {es : List (List D)} {m : Int} {l : List Prop} {cs : List D} (h : idxOf tb B.G (pickL st.S sl) o.op = some (es, m, l)) (hl : vcs l) (h0 : 0 ≤ m) (he : es[m.toNat]? = some cs) : QOk P B n o sl ns st (.at cs 0) := by
 intro st' a ρ w L hag hs
 have hS : ∀ t x, get (pickL st.S sl) t = some x → get st'.S t = some x := fun t x ht => by obtain ⟨h1, h2⟩ := zO1 ht; rw [hag.S t h1]; exact h2
 unfold idxOf at h
 split at h
 ·rename_i T x i hop
  split at h
  ·rename_i z so d l1 k m' l2 hT h1 h2
   split at h
   ·rename_i es' hes
    cases h
    obtain ⟨v1, v2⟩ := zR1 hl
    have e1 := zN1 hs hS h1 v1
    have e2 := zN1 hs hS h2 v2
    simp only [VRep] at e1 e2
    have e1 := asSl_sound hes e1
    simp only [Rep] at e1 e2
    obtain ⟨base, cap, e1, e3, e4, e5⟩ := e1
    have hlt := (List.getElem?_eq_some_iff.1 he).1
    cases hb : base with
    | none => have := e4 hb; subst this; simp at he
    | some ad =>
     obtain ⟨h5, h6, h7, h8⟩ := e5 ad hb (fun h => by subst h; simp at he)
     obtain ⟨b, o', e⟩ := ad
     simp only at h5; subst h5; subst hb
     obtain ⟨us, g1, g2, g3⟩ := h8.get he
     obtain ⟨el, hd, hsz⟩ := el_size (hP.get hT) rfl w
     refine ⟨.pointer (some ⟨b, o' + m.toNat * z, none⟩), ?_, ?_⟩
     ·have hi : 0 ≤ m ∧ m < (es.length : Int) := ⟨h0, by omega⟩
      simp only [execOp, hop, e1, e2, Instr.indexAt, asIntOf, Sem.run_bind, Sem.run_pure, hd, Result.andThen_ok, if_pos hi, hsz, Addr.add_lit]
     ·simp only [VRep]
      exact ⟨b, o' + m.toNat * z, us, rfl, h6, h7, g1, g3⟩
   ·cases h
  ·cases h
 ·cases h
theorem zM1 {α : Type} {f : α → List D} {xs : List α} {i : Nat} {x : α} (h : xs[i]? = some x) : (xs.map f)[i]? = some (f x) := by simp [h]
theorem Le.nil (z : Nat) : Le (.v (.raw (.slice none 0 0))) (.v (.sl z [])) := fun N ρ w X v h => by
 simp only [VRep] at h ⊢; exact asSl_sound (z := z) rfl h
theorem Le.of {x y : SV} (h : x = y) : Le x y := fun _ _ _ _ _ hv => h ▸ hv
theorem sat_weaken (hs : Sat B n st ρ a w L) {t : Nat} {x y : SV} (hx : get st.S t = some x) (hle : Le x y) : Sat B n ⟨(t, y) :: st.S, st.O⟩ ρ a w L := by
 refine hs.go (Step.refl _ _) (fun b hb => hs.low b (.inr hb)) (fun _ h => ⟨h, rfl⟩) hs.size hs.defers (fun t' z hz => ?_) hs.obj hs.inj
 by_cases e : t = t'
 ·subst e; rw [zJ1] at hz; cases hz
  obtain ⟨v, h1, h2⟩ := hs.slot t x hx
  exact ⟨v, h1, hle _ _ _ _ _ h2⟩
 ·rw [zI1 _ _ e] at hz; exact hs.slot t' z hz
theorem WC.weaken {c : Code} (t : Nat) (y : SV) {x : SV} (hx : get st.S t = some x) (hle : Le x y) (h : WC P B n ⟨(t, y) :: st.S, st.O⟩ c Q) : WC P B n st c Q := fun a ρ w L hs => h a ρ w L (sat_weaken hs hx hle)
def LeO (x y : Ob) : Prop := ∀ N ρ w X L v, ObOk N ρ w X L v x → ObOk N ρ w X L v y
inductive LeS : List SV → List SV → Prop
 | nil : LeS [] []
 | cons {x y : SV} {xs ys : List SV} (h : Le x y) (hs : LeS xs ys) : LeS (x :: xs) (y :: ys)
theorem LeS.reps {xs ys : List SV} (h : LeS xs ys) : ∀ {N ρ w X vs}, VReps N ρ w X xs vs → VReps N ρ w X ys vs := by
 induction h with
 | nil => intro N ρ w X vs h; exact h
 | cons h1 hs ih =>
  intro N ρ w X vs hv
  simp only [VReps] at hv ⊢
  obtain ⟨v, r, e, h2, h3⟩ := hv
  exact ⟨v, r, e, h1 _ _ _ _ _ h2, ih h3⟩
theorem LeO.blk {ty : Nat} {xs ys : List SV} (h : LeS xs ys) : LeO (.blk ty xs) (.blk ty ys) := fun N ρ w X L v hv => by
 obtain ⟨b, vs, h1, h2, h3, h4⟩ := hv
 exact ⟨b, vs, h1, h2, h3, h.reps h4⟩
theorem sat_weakenO (hs : Sat B n st ρ a w L) {k : Nat} {x y : Ob} (hx : get st.O k = some x) (hle : LeO x y) (hl : y.live = x.live) : Sat B n ⟨st.S, (k, y) :: st.O⟩ ρ a w L := by
 have hN : nmO ((k, y) :: st.O) = nmO st.O := funext fun j => by
  unfold nmO
  by_cases e : k = j
  ·subst e; rw [zJ1, hx]; rfl
  ·rw [zI1 _ _ e]
 refine hs.go (Step.refl _ _) (fun b hb => hs.low b (.inr hb)) (fun j h => ⟨nmO_cons h, rfl⟩) hs.size hs.defers (fun t z hz => ?_) (fun j o hj => ?_) (fun j o j' o' hj hj' hne l1 l2 => ?_)
 ·rw [hN]; exact hs.slot t z hz
 ·rw [hN]
  by_cases e : k = j
  ·subst e; rw [zJ1] at hj; cases hj; exact hle _ _ _ _ _ _ (hs.obj k x hx)
  ·rw [zI1 _ _ e] at hj; exact hs.obj j o hj
 ·have key : ∀ {j o}, get ((k, y) :: st.O) j = some o → o.live = true → ∃ o3, get st.O j = some o3 ∧ o3.live = true := fun {j o} h l => by
   by_cases e : k = j
   ·subst e; rw [zJ1] at h; cases h; exact ⟨x, hx, by rw [← hl]; exact l⟩
   ·rw [zI1 _ _ e] at h; exact ⟨o, h, l⟩
  obtain ⟨o3, g1, g2⟩ := key hj l1
  obtain ⟨o4, g3, g4⟩ := key hj' l2
  exact hs.inj j o3 j' o4 g1 g3 hne g2 g4
theorem WQ.weakenO {e : Exit} (k : Nat) (y : Ob) {x : Ob} (hx : get st.O k = some x) (hle : LeO x y) (hl : y.live = x.live) (h : WQ B n ⟨st.S, (k, y) :: st.O⟩ Q e) : WQ B n st Q e := fun a ρ w L hs => h a ρ w L (sat_weakenO hs hx hle hl)
inductive LeD : List D → List D → Prop
  | nil : LeD [] []
  | same {x : D} {xs ys : List D} (hs : LeD xs ys) : LeD (x :: xs) (x :: ys)
  | sl (z : Nat) {xs ys : List D} (hs : LeD xs ys) : LeD (.raw (.slice none 0 0) :: xs) (.sl z [] :: ys)
theorem LeD.reps {xs ys : List D} (h : LeD xs ys) : ∀ {w X vs}, Reps w X xs vs → Reps w X ys vs := by
 induction h with
 | nil => intro w X vs h; exact h
 | same hs ih =>
  intro w X vs hv
  simp only [Reps] at hv ⊢
  obtain ⟨v, r, e, h2, h3⟩ := hv
  exact ⟨v, r, e, h2, ih h3⟩
 | sl z hs ih =>
  intro w X vs hv
  simp only [Reps] at hv ⊢
  obtain ⟨v, r, e, h2, h3⟩ := hv
  exact ⟨v, r, e, asSl_sound (z := z) rfl h2, ih h3⟩
theorem Le.agg {xs ys : List D} (h : LeD xs ys) : Le (.v (.agg xs)) (.v (.agg ys)) := fun N ρ w X v hv => by
 simp only [VRep, Rep] at hv ⊢
 obtain ⟨cs, h1, h2⟩ := hv
 exact ⟨cs, h1, h.reps h2⟩
theorem Le.tup {xs ys : List SV} (h : LeS xs ys) : Le (.tup xs) (.tup ys) := fun N ρ w X v hv => by
 simp only [VRep] at hv ⊢
 obtain ⟨cs, h1, h2⟩ := hv
 exact ⟨cs, h1, h.reps h2⟩
theorem con_le {wg : World} {G : List (Nat × List D)} {f : FuncId} {ys args : List SV} {O O' : List (Nat × Ob)} {r : SV} (h : LeS ys args) (con : Con P wg G f args O r O') : Con P wg G f ys O r O' :=
 fun w ρ F L vals h1 h2 h3 h4 h5 h6 => con w ρ F L vals h1 h2 h3 h4 h5 (h.reps h6)
theorem ite_t {α : Type} {b : Bool} {x y : Option α} {r : α} (hb : b = true) (h : (if b = true then x else y) = some r) : x = some r := by rwa [if_pos hb] at h
theorem ite_f {α : Type} {b : Bool} {x y : Option α} {r : α} (hb : b = false) (h : (if b = true then x else y) = some r) : y = some r := by rwa [if_neg (by rw [hb]; simp)] at h
theorem grd {α : Type} {p : Prop} [Decidable p] {x : Option α} {r : α} (h : (if p then x else none) = some r) : p ∧ x = some r := by
 split at h
 ·rename_i hp; exact ⟨hp, h⟩
 ·cases h
theorem bnd {α β : Type} {m : Option α} {k : α → Option β} {r : β} (h : m.bind k = some r) : ∃ v, m = some v ∧ k v = some r := by
 cases m with
 | none => cases h
 | some v => exact ⟨v, rfl, h⟩
theorem zQ1 {α : Type} {m : Option α} (h : m ≠ none) : ∃ v, m = some v := by
 cases m with
 | none => exact absurd rfl h
 | some v => exact ⟨v, rfl⟩
theorem and_l {a b : Bool} (h : (a && b) = true) : a = true := by cases a <;> simp_all
theorem and_i {a b : Bool} (h : a = true) (h' : b = true) : (a && b) = true := by cases a <;> simp_all
theorem not_i {a : Bool} (h : a = false) : (!a) = true := by cases a <;> simp_all
end Go.V
namespace Go.V
open Go.RowKit
variable {P : Program} {n : Nat} {B : Base} {st : St} {tb : List (Nat × TI)} {Q : Exit → Act → World → Prop} {ρ : Nat → Value} {a : Act} {w : World} {L : Nat → Prop}
theorem ob_own {v : Value} (h : ∀ a, v ≠ .pointer a) (h2 : ∀ a, v ≠ .map a) : ob v = v.ownBlock := by
 cases v with
 | pointer a => exact absurd rfl (h a)
 | map a => exact absurd rfl (h2 a)
 | slice a n c => cases a <;> rfl
 | _ => rfl
theorem ownsRow_slice {T sz m : Nat} {v : Value} {xs : List Value} (h : OwnsR w T sz v m xs) : ∃ ad c, v = .slice ad m c := by
 rcases h.2 with ⟨h1, h2⟩ | ⟨g, cap, cur, fz, h1, _⟩
 ·exact ⟨none, 0, by rw [h1, h2]⟩
 ·exact ⟨_, _, h1⟩
theorem ob_row {T sz m : Nat} {v : Value} {xs : List Value} (h : OwnsR w T sz v m xs) : ob v = v.ownBlock := by
 obtain ⟨ad, c, rfl⟩ := ownsRow_slice h
 exact ob_own (fun a h => by cases h) (fun a h => by cases h)
theorem sat_rowNil (hs : Sat B n st ρ a w L) {t k : Nat} (T sz : Nat) (hx : get st.S t = some (.v (.raw (.slice none 0 0)))) (hfr : get st.O k = none) :
  ∃ ρ', Sat B n ⟨(t, .r k) :: st.S, (k, .row T sz []) :: st.O⟩ ρ' a w L := by
 refine ⟨upd ρ k (.slice none 0 0), ?_⟩
 have hN : ∀ j, nmO st.O j → nmO ((k, Ob.row T sz []) :: st.O) j ∧ upd ρ k (.slice none 0 0) j = ρ j := fun j h => ⟨nmO_cons h, upd_ne (nmO_ne h hfr)⟩
 refine hs.go (Step.refl _ _) (fun b hb => hs.low b (.inr hb)) hN hs.size hs.defers (fun t' y hy => ?_) (fun j o hj => ?_) (fun j o j' o' hj hj' hne l1 l2 b hb hb' => ?_)
 ·by_cases e : t = t'
  ·subst e; rw [zJ1] at hy; cases hy
   obtain ⟨v, h1, h2⟩ := hs.slot t _ hx
   simp only [VRep, Rep] at h2 ⊢
   exact ⟨v, h1, nmO_self, by rw [upd_self]; exact h2⟩
  ·rw [zI1 _ _ e] at hy
   obtain ⟨v, h1, h2⟩ := hs.slot t' y hy
   exact ⟨v, h1, VRep.keep hN (Keep.refl _ _) y v h2⟩
 ·by_cases e : k = j
  ·subst e; rw [zJ1] at hj; cases hj
   rw [upd_self]
   exact ⟨[], by simp [RepRows], (fun r h => by cases h), OwnsR.nil w T sz, fun b hb => by simp [ob] at hb⟩
  ·rw [zI1 _ _ e] at hj
   rw [upd_ne (fun e' => e e'.symm)]
   exact (hs.obj j o hj).keep hN (Keep.refl _ _) (fun _ b _ => ⟨rfl, id⟩)
 ·by_cases e1 : j = k
  ·subst e1; rw [upd_self] at hb; simp [ob] at hb
  ·by_cases e2 : j' = k
   ·subst e2; rw [upd_self] at hb'; simp [ob] at hb'
   ·rw [upd_ne e1] at hb; rw [upd_ne e2] at hb'
    rw [zI1 _ _ (fun e => e1 e.symm)] at hj
    rw [zI1 _ _ (fun e => e2 e.symm)] at hj'
    exact hs.inj j o j' o' hj hj' hne l1 l2 b hb hb'
theorem WC.rowNil {c : Code} (t k T sz : Nat) (hx : get st.S t = some (.v (.raw (.slice none 0 0)))) (hfr : get st.O k = none) (h : WC P B n ⟨(t, .r k) :: st.S, (k, .row T sz []) :: st.O⟩ c Q) : WC P B n st c Q := fun a ρ w L hs => by obtain ⟨ρ', s'⟩ := sat_rowNil hs T sz hx hfr; exact h a ρ' w L s'
theorem WQ.rowNil {e : Exit} (t k T sz : Nat) (hx : get st.S t = some (.v (.raw (.slice none 0 0)))) (hfr : get st.O k = none) (h : WQ B n ⟨(t, .r k) :: st.S, (k, .row T sz []) :: st.O⟩ Q e) : WQ B n st Q e := fun a ρ w L hs => by obtain ⟨ρ', s'⟩ := sat_rowNil hs T sz hx hfr; exact h a ρ' w L s'
mutual
def pubS (k : Nat) (d : D) : SV → SV
  | .v x => .v x
  | .g c x => .g c (pubS k d x)
  | .p j o => .p j o
  | .at cs o => .at cs o
  | .r j => match Nat.beq j k with | true => .v d | false => .r j
  | .re j sz i o => match Nat.beq j k with | true => .u | false => .re j sz i o
  | .sp j => .sp j
  | .fn f cs => .fn f (pubSs k d cs)
  | .tup xs => .tup (pubSs k d xs)
  | .u => .u
def pubSs (k : Nat) (d : D) : List SV → List SV
  | [] => []
  | x :: r => pubS k d x :: pubSs k d r
end
def pubL (k : Nat) (d : D) : List (Nat × SV) → List (Nat × SV)
 | [] => []
 | (t, x) :: r => (t, pubS k d x) :: pubL k d r
def pubOb (k : Nat) (d : D) : Ob → Ob
 | .blk ty cs => .blk ty (pubSs k d cs)
 | o => o
def pubO (k : Nat) (d : D) : List (Nat × Ob) → List (Nat × Ob)
 | [] => []
 | (j, o) :: r => (j, match Nat.beq j k with | true => .dead | false => pubOb k d o) :: pubO k d r
mutual
theorem VRep.pub {N : Nat → Prop} {X : Nat → Prop} {k : Nat} {d : D} (hd : Rep w X d (ρ k)) : ∀ (x : SV) (v : Value), VRep N ρ w X x v → VRep N ρ w X (pubS k d x) v
  | .v x, v, h => by simpa only [pubS] using h
  | .g c x, v, h => by
    simp only [pubS, VRep] at h ⊢
    exact ⟨fun hc => VRep.pub hd x v (h.1 hc), h.2⟩
  | .p j o, v, h => by simpa only [pubS] using h
  | .at cs o, v, h => by simpa only [pubS] using h
  | .r j, v, h => by
    simp only [pubS]
    split
    · rename_i e
      cases Nat.eq_of_beq_eq_true e
      simp only [VRep] at h ⊢
      rw [h.2]; exact hd
    · exact h
  | .re j sz i o, v, h => by
    simp only [pubS]
    split
    · simp only [VRep]
    · exact h
  | .sp j, v, h => by simpa only [pubS] using h
  | .fn f cs, v, h => by
    simp only [pubS, VRep] at h ⊢
    obtain ⟨vs, h1, h2⟩ := h
    exact ⟨vs, h1, VReps.pub hd cs vs h2⟩
  | .tup xs, v, h => by
    simp only [pubS, VRep] at h ⊢
    obtain ⟨vs, h1, h2⟩ := h
    exact ⟨vs, h1, VReps.pub hd xs vs h2⟩
  | .u, v, h => by simp only [pubS, VRep]
theorem VReps.pub {N : Nat → Prop} {X : Nat → Prop} {k : Nat} {d : D} (hd : Rep w X d (ρ k)) : ∀ (xs : List SV) (vs : List Value), VReps N ρ w X xs vs → VReps N ρ w X (pubSs k d xs) vs
  | [], vs, h => by simpa only [pubSs] using h
  | x :: xs, vs, h => by
    simp only [pubSs, VReps] at h ⊢
    obtain ⟨v, r, h1, h2, h3⟩ := h
    exact ⟨v, r, h1, VRep.pub hd x v h2, VReps.pub hd xs r h3⟩
end
theorem pubL_get {k : Nat} {d : D} {t : Nat} {y : SV} : ∀ {S : List (Nat × SV)}, get (pubL k d S) t = some y → ∃ x, get S t = some x ∧ y = pubS k d x
 | [], h => by simp [pubL, get] at h
 | (t', x) :: r, h => by
  simp only [pubL] at h
  by_cases e : t' = t
  ·subst e; rw [zJ1] at h; cases h; exact ⟨x, zJ1 _ _ _, rfl⟩
  ·rw [zI1 _ _ e] at h; rw [zI1 _ _ e]; exact pubL_get h
theorem pubO_get {k : Nat} {d : D} {j : Nat} : ∀ {O : List (Nat × Ob)}, get (pubO k d O) j = (get O j).map (fun o => match Nat.beq j k with | true => .dead | false => pubOb k d o)
 | [] => rfl
 | (j', o) :: r => by
  simp only [pubO]
  by_cases e : j' = j
  ·subst e; rw [zJ1, zJ1]; rfl
  ·rw [zI1 _ _ e, zI1 _ _ e]; exact pubO_get
theorem rep_of_row {X X' : Nat → Prop} {T sz : Nat} {es : List (List D)} {rows : List (List Value)} {v : Value} (hk : Keep w X w X') (h1 : RepRows w X es rows) (h2 : ∀ r, r ∈ rows → r.length = sz) (h3 : OwnsR w T sz v rows.length rows.flatten) (hx : ∀ b, ob v = some b → ¬ X' b) : Rep w X' (.sl sz es) v := by
  have hlen := h1.length
  simp only [Rep]
  rcases h3.2 with ⟨e1, e2⟩ | ⟨g, cap, cur, fz, e1, e3, _, e4, e5, e6, e7⟩
  · refine ⟨none, 0, by rw [e1, ← hlen, e2], by omega, fun _ => List.eq_nil_of_length_eq_zero (by omega), fun ad h => by cases h⟩
  · refine ⟨some ⟨g, 0, none⟩, cap, by rw [e1, hlen], by omega, (fun h => by cases h), fun ad h _ => ?_⟩
    cases h
    have hlt : g < w.heap.size := (Array.getElem?_eq_some_iff.1 e3).1
    refine ⟨rfl, hlt, hx g (by rw [e1]; rfl), rep_rows hk h1 h2 (fun j x hj => ?_)⟩
    have hfl := flat_length h2
    rw [← e7, List.getElem?_take] at hj
    split at hj
    · simp only [World.cell?, e3, Nat.zero_add]; simpa using hj
    · cases hj
theorem sat_pub0 (hs : Sat B n st ρ a w L) {k : Nat} {o0 : Ob} {d : D} (hk : get st.O k = some o0) (hl0 : o0.live = true) (hd : Keep w (un B.F L) w (un B.F fun b => L b ∧ ob (ρ k) ≠ some b) → Rep w (un B.F fun b => L b ∧ ob (ρ k) ≠ some b) d (ρ k)) :
    Sat B n ⟨pubL k d st.S, pubO k d st.O⟩ ρ a w (fun b => L b ∧ ob (ρ k) ≠ some b) := by
  have hstep : Step L w (fun b => L b ∧ ob (ρ k) ≠ some b) w := ⟨rfl, rfl, rfl, Nat.le_refl _, fun _ _ _ => rfl, fun b h => .inl h.1⟩
  have hkp : Keep w (un B.F L) w (un B.F fun b => L b ∧ ob (ρ k) ≠ some b) := keep_of_step hstep
  have hd := hd hkp
  have hN : ∀ j, nmO st.O j → nmO (pubO k d st.O) j ∧ ρ j = ρ j := fun j h => ⟨by unfold nmO; rw [pubO_get, Option.isSome_map]; exact h, rfl⟩
  refine hs.go hstep (fun b hb => hs.low b (.inr hb.1)) hN hs.size hs.defers (fun t y hy => ?_) (fun j o hj => ?_) (fun j o j' o' hj hj' hne l1 l2 => ?_)
  · obtain ⟨x, hx, rfl⟩ := pubL_get hy
    obtain ⟨v, g1, g2⟩ := hs.slot t x hx
    exact ⟨v, g1, VRep.pub hd _ v (VRep.keep hN hkp x v g2)⟩
  · rw [pubO_get] at hj
    simp only [Option.map_eq_some_iff] at hj
    obtain ⟨o1, hj, rfl⟩ := hj
    split
    · rename_i e
      cases Nat.eq_of_beq_eq_true e
      exact hs.cellN k (by simp [nmO, hk])
    · rename_i e
      have hjk : j ≠ k := beq_ne e
      have h5 := (hs.obj j o1 hj).keep hN hkp (L' := fun b => L b ∧ ob (ρ k) ≠ some b) (fun hl b hb => ⟨rfl, fun hL => ⟨hL, fun e' => hs.inj j o1 k _ hj hk hjk hl hl0 b hb e'⟩⟩)
      cases o1 with
      | blk ty cs =>
        obtain ⟨b, vs, g1, g2, g3, g4⟩ := h5
        exact ⟨b, vs, g1, g2, g3, VReps.pub hd cs vs g4⟩
      | row ty sz' es' => exact h5
      | it s pos => exact h5
      | set ks => exact h5
      | sit l cu => exact h5
      | dead => exact h5
  · rw [pubO_get] at hj hj'
    simp only [Option.map_eq_some_iff] at hj hj'
    obtain ⟨o1, hj, rfl⟩ := hj
    obtain ⟨o2, hj', rfl⟩ := hj'
    have key : ∀ {j : Nat} {o1 : Ob}, (match Nat.beq j k with | true => Ob.dead | false => pubOb k d o1).live = true → o1.live = true := fun {j o1} h => by
      split at h
      · cases h
      · cases o1 <;> first | rfl | exact h
    exact hs.inj j o1 j' o2 hj hj' hne (key l1) (key l2)
theorem sat_publish (hs : Sat B n st ρ a w L) {k T sz : Nat} {es : List (List D)} (hk : get st.O k = some (.row T sz es)) :
  Sat B n ⟨pubL k (.sl sz es) st.S, pubO k (.sl sz es) st.O⟩ ρ a w (fun b => L b ∧ ob (ρ k) ≠ some b) := by
 obtain ⟨rows, h1, h2, h3, h4⟩ := hs.obj k _ hk
 exact sat_pub0 hs hk rfl (fun hkp => rep_of_row hkp h1 h2 h3 (fun b hb hx => by
  rcases hx with hx | hx
  ·exact hs.dis b hx (h4 b hb)
  ·exact hx.2 hb))
def pubK (k : Nat) (d : D) (st : St) : Option St := forceL (pubL k d st.S) fun S => forceL (pubO k d st.O) fun O => some ⟨S, O⟩
theorem pubK_eq {k : Nat} {d : D} {st st' : St} (h : pubK k d st = some st') : (⟨pubL k d st.S, pubO k d st.O⟩ : St) = st' := by
 unfold pubK at h
 simp only [forceL_eq, Option.some.injEq] at h
 exact h
theorem WC.publish {c : Code} (k : Nat) {T sz : Nat} {es : List (List D)} {st' : St} (hk : get st.O k = some (.row T sz es)) (hst : pubK k (.sl sz es) st = some st') (h : WC P B n st' c Q) : WC P B n st c Q := fun a ρ w L hs => h a ρ w _ (pubK_eq hst ▸ sat_publish hs hk)
theorem WQ.publish {e : Exit} (k : Nat) {T sz : Nat} {es : List (List D)} {st' : St} (hk : get st.O k = some (.row T sz es)) (hst : pubK k (.sl sz es) st = some st') (h : WQ B n st' Q e) : WQ B n st Q e := fun a ρ w L hs => h a ρ w _ (pubK_eq hst ▸ sat_publish hs hk)
structure ApOk (P : Program) (T e size : Nat) : Prop where
  under : P.underlying T = some (.slice e)
  info : (P.info? e).map (fun i => (i.size, i.zero.map (·.cells.size), Nat.ble i.bytes 1024)) = some (size, some size, true)
  pos : 0 < size
theorem allCell_one : ∀ {l : List Value}, allCell l = true → ∀ u, u ∈ l → u.oneCell' = true
 | [], _, u, hu => by cases hu
 | v :: r, h, u, hu => by
  simp only [allCell] at h
  split at h
  ·rename_i h1
   rcases List.mem_cons.1 hu with rfl | hu
   ·cases u <;> simp_all [isCell, Value.oneCell']
   ·exact allCell_one h u hu
  ·cases h
theorem OwnsR.cells {e size : Nat} {v : Value} {n : Nat} {xs : List Value} (h : OwnsR w e size v n xs) {g : Nat} (hg : v.ownBlock = some g) : ∀ j u, xs[j]? = some u → w.cell? ((⟨g, 0, none⟩ : Addr).add j) = some u := by
 intro j u hu
 rcases h.2 with ⟨rfl, _⟩ | ⟨g', cap, cur, fz, rfl, hgg, _, _, _, _, htake⟩
 ·simp [Value.ownBlock] at hg
 ·simp [Value.ownBlock] at hg
  subst hg
  rw [Addr.add_lit, cell_of_row w g' (0 + j) cur e fz hgg]
  rw [← htake, List.getElem?_take] at hu
  split at hu
  ·simpa using hu
  ·cases hu
theorem run_storeCells_open (P : Program) (g o : Nat) (t : TypeId) (fz : Nat × Nat) : ∀ (vs : List Value) (i : Nat) (cur : Array Value) (w : World), w.heap[g]? = some (.cells cur t fz) → (fz.2 ≤ fz.1 ∨ cur.size ≤ fz.1) → o + i + vs.length ≤ cur.size → (∀ v ∈ vs, v.oneCell' = true) →
    (storeCells ⟨g, o, none⟩ vs i).run P w = .ok () (w.setRow g (cur.toList.take (o + i) ++ vs ++ cur.toList.drop (o + i + vs.length)).toArray)
  | [], i, cur, w, hg, _, _, _ => by
    simp only [storeCells, List.append_nil, List.length_nil, Nat.add_zero, List.take_append_drop, Array.toArray_toList]
    rw [setRow_self w g cur t fz hg]
    rfl
  | v :: rest, i, cur, w, hg, hfz, hl, h1 => by
    have hi : o + i < cur.size := by simp at hl; omega
    have hcell : w.cell? ⟨g, o + i, none⟩ = some cur[o + i] := by simp [World.cell?, hg, hi]
    have hfro : w.frozen? ⟨g, o + i, none⟩ = false := by
      obtain ⟨lo, hi'⟩ := fz
      simp only [World.frozen?, hg, Bool.and_eq_false_iff, decide_eq_false_iff_not]
      simp only at hfz
      omega
    have hst : (store ((⟨g, o, none⟩ : Addr).add i) v).run P w = .ok () (w.setRow g (cur.setIfInBounds (o + i) v)) := by
      rw [Addr.add_lit, run_store P w _ v _ (h1 v (by simp)), hcell]
      simp [hfro, setCell_eq_setRow w g (o + i) cur t fz v hg]
    have ih := run_storeCells_open P g o t fz rest (i + 1) (cur.setIfInBounds (o + i) v) (w.setRow g (cur.setIfInBounds (o + i) v)) (setRow_heap w g cur _ t _ hg) (by simpa using hfz) (by simp at hl ⊢; omega) (fun x hx => h1 x (by simp [hx]))
    simp only [storeCells, Sem.run_bind, hst, Result.andThen_ok, ih, setRow_setRow]
    congr 3
    have e := list_seg_step cur.toList (o + i) v rest (by simp at hl ⊢; omega)
    simpa [Array.toList_setIfInBounds, Nat.add_assoc] using e
theorem owns_room {e size m0 m g cap : Nat} {xs news : List Value} {cur : Array Value} {fz : Nat × Nat} (hg : w.heap[g]? = some (.cells cur e fz)) (hfz : fz.2 ≤ fz.1 ∨ cur.size ≤ fz.1) (hx : xs.length = m0 * size) (hl : news.length = m * size) (hroom : m0 + m ≤ cap) (hcm : cap ≤ maxLen) (hcs : cur.size = cap * size) (htake : cur.toList.take (m0 * size) = xs) :
    OwnsR (w.setRow g (cur.toList.take (m0 * size) ++ news ++ cur.toList.drop (m0 * size + news.length)).toArray) e size (.slice (some ⟨g, 0, none⟩) (m0 + m) cap) (m0 + m) (xs ++ news) := by
  have hfit : m0 * size + news.length ≤ cur.size := by rw [hl, hcs, ← Nat.add_mul]; exact Nat.mul_le_mul_right _ hroom
  have hlen : (xs ++ news).length = (m0 + m) * size := by rw [List.length_append, hx, hl, Nat.add_mul]
  have hsz : (cur.toList.take (m0 * size) ++ news ++ cur.toList.drop (m0 * size + news.length)).toArray.size = cur.size := by
    simp only [List.size_toArray, List.length_append, List.length_take, List.length_drop, Array.length_toList]
    omega
  refine ⟨hlen, .inr ⟨g, cap, _, fz, rfl, setRow_heap w g cur _ e _ hg, by rw [hsz]; exact hfz, hroom, hcm, by rw [hsz]; exact hcs, ?_⟩⟩
  rw [htake, ← hlen]
  exact List.take_left
theorem grown_room (g n c : Nat) (cs : Array Value) : w.grownBy (w.setRow g cs) (Value.ownBlock (.slice (some ⟨g, 0, none⟩) n c)) :=
 ⟨rfl, rfl, rfl, by simp, fun k _ hk => setRow_other w g k _ (fun e => hk (by simp [Value.ownBlock, e]))⟩
theorem owns_grown {e size m0 m old : Nat} {xs news : List Value} {z : Value} (hzs : z.cells.size = size) (hx : xs.length = m0 * size) (hl : news.length = m * size) (h63 : m0 + m ≤ maxLen) (row : Option Nat) :
  OwnsR (w.drew.alloc (.cells (xs.toArray ++ news.toArray ++ Builtin.zeroCells z.cells (grownCap w (m0 + m) old e - (m0 + m))) e)) e size (.slice (some ⟨w.heap.size, 0, none⟩) (m0 + m) (grownCap w (m0 + m) old e)) (m0 + m) (xs ++ news) ∧
  w.grownBy (w.drew.alloc (.cells (xs.toArray ++ news.toArray ++ Builtin.zeroCells z.cells (grownCap w (m0 + m) old e - (m0 + m))) e)) row := by
 have hlen : (xs ++ news).length = (m0 + m) * size := by rw [List.length_append, hx, hl, Nat.add_mul]
 have hge := grownCap_ge w (m0 + m) old e
 have hcm : grownCap w (m0 + m) old e ≤ maxLen := grownCap_le_maxLen w (m0 + m) old e h63
 refine ⟨⟨hlen, .inr ⟨w.heap.size, _, _, (0, 0), rfl, Go.heap_alloc_new w.drew _, .inl (Nat.le_refl _), hge, hcm, ?_, ?_⟩⟩, ⟨rfl, rfl, rfl, by simp, fun k hk _ => Go.heap_alloc_old w.drew _ hk⟩⟩
 ·simp only [Array.size_append, List.size_toArray, size_zeroCells, hzs, hx, hl, ← Nat.add_mul]
  congr 1
  omega
 ·simp only [Array.toList_append, List.append_assoc]
  rw [← List.append_assoc, ← hlen]
  exact List.take_left
def Room (P : Program) (e n : Nat) : Prop := n ≤ maxLen ∧ ∀ i, P.info? e = some i → n * i.bytes ≤ 140737488355328
theorem Room.mono {P : Program} {e n m : Nat} (h : Room P e m) (hn : n ≤ m) : Room P e n := ⟨Nat.le_trans hn h.1, fun i hi => Nat.le_trans (Nat.mul_le_mul_right _ hn) (h.2 i hi)⟩
theorem Room.of {P : Program} {T e size n : Nat} (hT : ApOk P T e size) (hb : n ≤ 137438953472) : Room P e n := by
 obtain ⟨hu, hi, hpos⟩ := hT
 refine ⟨by simp only [maxLen]; omega, fun i hinf => ?_⟩
 rw [hinf] at hi
 simp only [Option.map_some, Option.some.injEq, Prod.mk.injEq] at hi
 exact Nat.le_trans (Nat.mul_le_mul hb (Nat.le_of_ble_eq_true hi.2.2)) (by omega)
theorem Room.le {P : Program} {e n K B : Nat} (hi : (P.info? e).map (fun i => i.bytes) = some B) (hK : Nat.ble (K * B) 140737488355328 = true) (hK2 : Nat.ble K maxLen = true) (hb : n ≤ K) : Room P e n := by
 refine ⟨Nat.le_trans hb (Nat.le_of_ble_eq_true hK2), fun i hinf => ?_⟩
 rw [hinf] at hi
 simp only [Option.map_some, Option.some.injEq] at hi
 subst hi
 exact Nat.le_trans (Nat.mul_le_mul_right _ hb) (Nat.le_of_ble_eq_true hK)
theorem run_append_mine {T e size : Nat} (hT : ApOk P T e size) (ty : Nat) (v : Value) (m0 : Nat) (xs : List Value) (hown : OwnsR w e size v m0 xs) (ad : Addr) (m c : Nat) (news : List Value) (hl : news.length = m * size) (hnews : ∀ j u, news[j]? = some u → w.cell? (ad.add j) = some u) (h1 : ∀ u ∈ news, u.oneCell' = true)
    (hb : Room P e (m0 + m)) : ∃ v' w', (Builtin.append_ #[T, T] ty #[v, .slice (some ad) m c]).run P w = .ok v' w' ∧ OwnsR w' e size v' (m0 + m) (xs ++ news) ∧ w.grownBy w' v.ownBlock ∧ (∀ g, v'.ownBlock = some g → v.ownBlock = some g ∨ w.heap.size ≤ g) := by
  obtain ⟨hu, hi, hpos⟩ := hT
  cases hinf : P.info? e with
  | none => rw [hinf] at hi; cases hi
  | some i =>
    rw [hinf] at hi
    simp only [Option.map_some, Option.some.injEq, Prod.mk.injEq] at hi
    obtain ⟨i1, i2, i3⟩ := hi
    cases hz : i.zero with
    | none => rw [hz] at i2; cases i2
    | some z =>
      rw [hz] at i2
      simp only [Option.map_some, Option.some.injEq] at i2
      have i3 := Nat.le_of_ble_eq_true i3
      have h63 : m0 + m ≤ maxLen := hb.1
      have hby : (m0 + m) * i.bytes ≤ 140737488355328 := hb.2 i hinf
      subst i1
      rcases hown.2 with ⟨rfl, rfl⟩ | ⟨g, cap, cur, fz, rfl, hg, hfz, hnc, hcm, hcs, htake⟩
      · obtain ⟨v2, w2, hr2, k2, k3, k4⟩ := run_append_own (P := P) w w.heap.size T ty e i z i.size i.bytes hu hinf hz rfl rfl i2 hpos (.slice none 0 0) 0 xs ⟨hown.1, .inl ⟨rfl, rfl⟩⟩ ad m c news hl hnews h1 h63 hby (Nat.le_refl _)
        exact ⟨v2, w2, hr2, OwnsR.of k2, k3, fun g hg => .inr (k2.lt g hg).1⟩
      · by_cases hroom : m0 + m ≤ cap
        · have hfit : m0 * i.size + news.length ≤ cur.size := by rw [hl, hcs, ← Nat.add_mul]; exact Nat.mul_le_mul_right _ hroom
          have hf := run_firstCells_some (P := P) w i.size m ad m c news hl hnews
          have hst := run_storeCells_open P g (m0 * i.size) e fz news 0 cur w hg hfz (by simpa using hfit) h1
          simp only [Nat.add_zero] at hst
          refine ⟨_, _, ?_, owns_room hg hfz hown.1 hl hroom hcm hcs htake, grown_room g m0 cap _, fun g' hg' => .inl hg'⟩
          simp [Builtin.append_, run_underlying hu, sizeOf, typeInfo, hinf, Builtin.lenOf, hroom, hf, Addr.add_lit, hst]
        · have holds : ∀ j u, xs[j]? = some u → w.cell? ((⟨g, 0, none⟩ : Addr).add j) = some u := hown.cells (g := g) rfl
          have hr2 := run_append_grow (P := P) w T ty e i z hu hinf hz ⟨g, 0, none⟩ m0 cap xs hown.1 holds ad m c news hl hnews (by omega) (by simp only [maxLen] at h63; omega) (growslice_fits (by omega) hby)
          have hgr := owns_grown (w := w) (e := e) (old := cap) i2 hown.1 hl h63 (Value.ownBlock (.slice (some ⟨g, 0, none⟩) m0 cap))
          refine ⟨_, _, hr2, hgr.1, hgr.2, fun g' hg' => ?_⟩
          simp [Value.ownBlock] at hg'
          exact .inr (by omega)
theorem run_append_none {T e size : Nat} (hT : ApOk P T e size) (ty c : Nat) (v : Value) (m0 : Nat) (xs : List Value) (hown : OwnsR w e size v m0 xs) : (Builtin.append_ #[T, T] ty #[v, .slice none 0 c]).run P w = .ok v w := by
  obtain ⟨hu, hi, hpos⟩ := hT
  cases hinf : P.info? e with
  | none => rw [hinf] at hi; cases hi
  | some i =>
    rcases hown.2 with ⟨rfl, rfl⟩ | ⟨g, cap, cur, fz, rfl, hg, hfz, hnc, hcm, hcs, htake⟩
    · simp [Builtin.append_, run_underlying hu, sizeOf, typeInfo, hinf, Builtin.lenOf, Builtin.firstCells]
    · simp [Builtin.append_, run_underlying hu, sizeOf, typeInfo, hinf, Builtin.lenOf, Builtin.firstCells, hnc, storeCells]
theorem RepRows.app {X : Nat → Prop} : ∀ {es fs : List (List D)} {rs ss : List (List Value)}, RepRows w X es rs → RepRows w X fs ss → RepRows w X (es ++ fs) (rs ++ ss)
 | [], fs, rs, ss, h, h' => by simp only [RepRows] at h; subst h; exact h'
 | e :: es, fs, rs, ss, h, h' => by
  simp only [RepRows] at h
  obtain ⟨c, r, rfl, h2, h3⟩ := h
  simp only [List.cons_append, RepRows]
  exact ⟨c, r ++ ss, rfl, h2, RepRows.app h3 h'⟩
theorem RowsAt.rows {X : Nat → Prop} {sz : Nat} : ∀ {es : List (List D)} {b o : Nat}, RowsAt w X sz es b o → ∃ rs : List (List Value), RepRows w X es rs ∧ (∀ r, r ∈ rs → r.length = sz) ∧ CellsAt w rs.flatten b o
  | [], b, o, _ => ⟨[], by simp [RepRows], (fun r h => by cases h), fun j x h => by simp at h⟩
  | e :: es, b, o, h => by
    simp only [RowsAt] at h
    obtain ⟨⟨cs, h1, h2, h3⟩, h4⟩ := h
    obtain ⟨rs, h5, h6, h7⟩ := RowsAt.rows h4
    refine ⟨cs :: rs, by simp only [RepRows]; exact ⟨cs, rs, rfl, h1, h5⟩, fun r hr => ?_, fun j x hj => ?_⟩
    · rcases List.mem_cons.1 hr with rfl | hr
      · exact h2
      · exact h6 r hr
    · simp only [List.flatten_cons] at hj
      by_cases hlt : j < cs.length
      · rw [List.getElem?_append_left hlt] at hj; exact h3 j x hj
      · rw [List.getElem?_append_right (by omega)] at hj
        have := h7 _ x hj
        rw [show o + sz + (j - cs.length) = o + j by omega] at this; exact this
theorem rep_cells {X : Nat → Prop} : ∀ {es : List (List D)} {rs : List (List Value)}, RepRows w X es rs → (∀ e, e ∈ es → cellDs e = true) → ∀ u, u ∈ rs.flatten → u.oneCell' = true
 | [], rs, h, _, u, hu => by simp only [RepRows] at h; subst h; simp at hu
 | e :: es, rs, h, hc, u, hu => by
  simp only [RepRows] at h
  obtain ⟨c, r, rfl, h2, h3⟩ := h
  simp only [List.flatten_cons, List.mem_append] at hu
  rcases hu with hu | hu
  ·have key : ∀ {ds : List D} {vs : List Value}, Reps w X ds vs → cellDs ds = true → allCell vs = true := by
    intro ds
    induction ds with
    | nil => intro vs h _; simp only [Reps] at h; subst h; rfl
    | cons d ds ih =>
     intro vs h hc
     simp only [Reps] at h
     obtain ⟨v, r, rfl, g1, g2⟩ := h
     simp only [cellDs] at hc
     split at hc
     ·rename_i g3; simp only [allCell, cell_of_rep g1 g3]; exact ih g2 hc
     ·cases hc
   exact allCell_one (key h2 (hc e (by simp))) u hu
  ·exact rep_cells h3 (fun e he => hc e (by simp [he])) u hu
theorem sat_append (hs : Sat B n st ρ a w L) {d T e sz : Nat} {v : Value} {es : List (List D)} {rows : List (List Value)} {ty : Nat} {y : Value} {news : List (List D)} (hT : ApOk P T e sz) (hd : inB n d = true) (hfr : get st.O d = none)
    (h1 : RepRows w (un B.F L) es rows) (h2 : ∀ r, r ∈ rows → r.length = sz) (h3 : OwnsR w e sz v rows.length rows.flatten) (h4 : ∀ b, ob v = some b → L b) (hy : Rep w (un B.F L) (.sl sz news) y) (hc : ∀ r, r ∈ news → cellDs r = true) (hb : Room P e (es.length + news.length))
    {O' : List (Nat × Ob)} (hO' : ∀ j, (get O' j).isSome = (get st.O j).isSome) (hO2 : ∀ j o, get O' j = some o → get st.O j = some o ∨ o = .dead) (hO3 : ∀ j o, get O' j = some o → o.live = true → ∀ b, ob v = some b → ob (ρ j) ≠ some b) :
    ∃ v' w' L', (Builtin.append_ #[T, T] ty #[v, y]).run P w = .ok v' w' ∧ Sat B n ⟨(d, .r d) :: st.S, (d, .row e sz (es ++ news)) :: O'⟩ (upd ρ d v') (a.put (some d) v') w' L' := by
  have hd' : d < n := by simpa [inB] using hd
  have hlen := h1.length
  
  have hsrc : ∃ v' w' nrows, (Builtin.append_ #[T, T] ty #[v, y]).run P w = .ok v' w' ∧ RepRows w (un B.F L) news nrows ∧ (∀ r, r ∈ nrows → r.length = sz) ∧ OwnsR w' e sz v' (rows ++ nrows).length (rows ++ nrows).flatten ∧ w.grownBy w' v.ownBlock ∧ (∀ g, v'.ownBlock = some g → v.ownBlock = some g ∨ w.heap.size ≤ g) := by
    simp only [Rep] at hy
    obtain ⟨base, cap, rfl, g2, g3, g4⟩ := hy
    cases hbase : base with
    | none =>
      have := g3 hbase
      subst this
      refine ⟨v, w, [], run_append_none hT ty cap v _ _ h3, by simp [RepRows], (fun r h => by cases h), by simpa using h3, ⟨rfl, rfl, rfl, Nat.le_refl _, fun _ _ _ => rfl⟩, fun g hg => .inl hg⟩
    | some ad =>
      by_cases hne : news = []
      · subst hne
        obtain ⟨v', w', q1, q2, q3, q4⟩ := run_append_mine (w := w) hT ty v rows.length rows.flatten h3 ad 0 cap [] (by simp) (fun j u hj => by simp at hj) (fun u hu => by cases hu) (hb.mono (by simp only [List.length_nil]; omega))
        exact ⟨v', w', [], q1, by simp [RepRows], (fun r h => by cases h), by simpa using q2, q3, q4⟩
      obtain ⟨g5, g6, g7, g8⟩ := g4 ad hbase hne
      obtain ⟨b, o, x⟩ := ad
      simp only at g5; subst g5
      obtain ⟨nrows, k1, k2, k3⟩ := g8.rows
      have hnl := k1.length
      have hfl := flat_length k2
      obtain ⟨v', w', q1, q2, q3, q4⟩ := run_append_mine (w := w) hT ty v rows.length rows.flatten h3 ⟨b, o, none⟩ news.length cap nrows.flatten (by rw [hfl, hnl]) (fun j u hj => by rw [Addr.add_lit]; exact k3 j u hj) (rep_cells k1 hc) (hb.mono (by omega))
      refine ⟨v', w', nrows, q1, k1, k2, ?_, q3, q4⟩
      rw [List.length_append, List.flatten_append, hnl]; exact q2
  obtain ⟨v', w', nrows, q1, k1, k2, q2, q3, q4⟩ := hsrc
  have hv' := ob_row q2
  have hv := ob_row h3
  have hL : ∀ g, ob v' = some g → L g ∨ w.heap.size ≤ g := fun g hg => by
    rw [hv'] at hg
    rcases q4 g hg with h | h
    · exact .inl (h4 g (by rw [hv]; exact h))
    · exact .inr h
  have hstep : Step L w (fun b => L b ∨ ob v' = some b) w' := ⟨q3.os, q3.tape, q3.output, q3.size, fun b hb hnL => q3.block b hb (fun e => hnL (h4 b (by rw [hv]; exact e.symm))), fun b h => by
    rcases h with h | h
    · exact .inl h
    · exact hL b h⟩
  have hkp : Keep w (un B.F L) w' (un B.F fun b => L b ∨ ob v' = some b) := keep_of_step hstep
  have hN : ∀ j, nmO st.O j → nmO ((d, Ob.row e sz (es ++ news)) :: O') j ∧ upd ρ d v' j = ρ j := fun j h => ⟨nmO_cons (by unfold nmO; rw [hO']; exact h), upd_ne (nmO_ne h hfr)⟩
  have hdO' : get O' d = none := by cases hg : get O' d with | none => rfl | some o => have := hO' d; rw [hg, hfr] at this; cases this
  have hlt' : ∀ b, ob v' = some b → b < w'.heap.size := fun b hb => by
    rcases q2.2 with ⟨e1, _⟩ | ⟨g, cap, cur, fz, e1, e3, _⟩
    · rw [e1] at hb; simp [ob] at hb
    · rw [e1] at hb; simp only [ob, Option.some.injEq] at hb; subst hb; exact (Array.getElem?_eq_some_iff.1 e3).1
  refine ⟨v', w', _, q1, hs.go hstep (fun b hb => ?_) hN (by simp [Act.put, hs.size]) hs.defers (fun t z hz => ?_) (fun j o hj => ?_) (fun j o j' o' hj hj' hne l1 l2 b hb1 hb2 => ?_)⟩
  · rcases hb with h | h
    · exact Nat.lt_of_lt_of_le (hs.low b (.inr h)) hstep.size
    · exact hlt' b h
  · simp only [Act.put]
    by_cases hdt : d = t
    · subst hdt; rw [zJ1] at hz; cases hz
      exact ⟨v', by simp [hs.size, hd'], by simp only [VRep]; exact ⟨nmO_self, upd_self.symm⟩⟩
    · rw [zI1 _ _ hdt] at hz
      obtain ⟨x, g1, g2⟩ := hs.slot t z hz
      exact ⟨x, by rw [Array.getElem?_setIfInBounds_ne hdt]; exact g1, VRep.keep hN hkp z x g2⟩
  · by_cases e : d = j
    · subst e; rw [zJ1] at hj; cases hj
      rw [upd_self]
      exact ⟨rows ++ nrows, RepRows.app (RepRows.keep hkp _ _ h1) (RepRows.keep hkp _ _ k1), fun r hr => (List.mem_append.1 hr).elim (h2 r) (k2 r), q2, fun b hb => .inr hb⟩
    · rw [zI1 _ _ e] at hj
      rw [upd_ne (fun e' => e e'.symm)]
      rcases hO2 j o hj with h | rfl
      · refine (hs.obj j o h).keep hN hkp (fun hl b hb => ⟨q3.block b (hs.low b (.inr (hs.own h hl hb))) (fun e' => hO3 j o hj hl b (by rw [hv]; exact e'.symm) hb), .inl⟩)
      · exact hs.cellN j (by unfold nmO; rw [← hO', hj]; rfl)
  · have old : ∀ {j o}, j ≠ d → get ((d, Ob.row e sz (es ++ news)) :: O') j = some o → o.live = true → get st.O j = some o := fun {j o} hjd h hl => by
      rw [zI1 _ _ (fun e => hjd e.symm)] at h
      rcases hO2 j o h with h | rfl
      · exact h
      · cases hl
    have apart : ∀ {j o}, j ≠ d → get ((d, Ob.row e sz (es ++ news)) :: O') j = some o → o.live = true → ∀ b, ob v' = some b → ob (ρ j) ≠ some b := fun {j o} hjd h hl b hb hb' => by
      have hold := old hjd h hl
      rw [zI1 _ _ (fun e => hjd e.symm)] at h
      rw [hv'] at hb
      rcases q4 b hb with h5 | h5
      · exact hO3 j o h hl b (by rw [hv]; exact h5) hb'
      · have := hs.low b (.inr (hs.own hold hl hb')); omega
    by_cases e1 : j = d
    · subst e1
      have e2 : j' ≠ j := fun e => hne e.symm
      rw [upd_self] at hb1; rw [upd_ne e2] at hb2
      exact apart e2 hj' l2 b hb1 hb2
    · by_cases e2 : j' = d
      · subst e2
        rw [upd_self] at hb2; rw [upd_ne e1] at hb1
        exact apart e1 hj l1 b hb2 hb1
      · rw [upd_ne e1] at hb1; rw [upd_ne e2] at hb2
        exact hs.inj j o j' o' (old e1 hj l1) (old e2 hj' l2) hne l1 l2 b hb1 hb2
def apOf (tb : List (Nat × TI)) (G : List (Nat × List D)) (S : List (Nat × SV)) (O : List (Nat × Ob)) : Op → Option (Nat × Option Nat × List (List D) × List (List D) × List Prop)
  | .call ⟨.builtin .append, ⟨[x, y]⟩, ⟨[T, T']⟩⟩ =>
    match Nat.beq T T', get tb T, o1 G S x, o1 G S y with
    | true, some ⟨_, _, _, _, _, some z, _⟩, some (.r k, l), some (.v d, m) =>
      match get O k, asSl z d with
      | some (.row _ _ es), some news => some (T, some k, es, news, l ++ m)
      | _, _ => none
    | true, some ⟨_, _, _, _, _, some z, _⟩, some (.v (.raw (.slice none 0 0)), l), some (.v d, m) =>
      match asSl z d with
      | some news => some (T, none, [], news, l ++ m)
      | _ => none
    | _, _, _, _ => none
  | _ => none
def deadO : Option Nat → List (Nat × Ob)
 | some k => [(k, .dead)]
 | none => []
def deadN : Option Nat → List Nat
 | some k => [k]
 | none => []
theorem OpOk.append (hP : TblOk P tb) {ops : List Oper} {o : Oper} {T e sz d : Nat} {k : Option Nat} {es news es2 : List (List D)} {l : List Prop} {sl ns ws wn : List Nat} (hT : ApOk P T e sz) (hg : o.guard = none) (ho : o.dst = some d) (hd : inB n d = true)
  (h : apOf tb B.G (pickL st.S sl) (pickL st.O ns) o.op = some (T, k, es, news, l)) (hk : ∀ k', k = some k' → get (pickL st.O ns) k' = some (.row e sz es)) (hl : vcs l) (hc : ∀ r, r ∈ news → cellDs r = true) (hb : Room P e (es.length + news.length)) (hdn : has d ns = true) (hfr : get (pickL st.O ns) d = none) (he2 : es ++ news = es2) :
  OpOk P B n ops Q o ⟨sl, ns, ws, wn⟩ st ⟨[(d, .r d)], (d, .row e sz es2) :: deadO k⟩ := by
 subst he2
 intro st' a ρ w L K hag hs hK
 have hS : ∀ t x, get (pickL st.S sl) t = some x → get st'.S t = some x := fun t x ht => by obtain ⟨h1, h2⟩ := zO1 ht; rw [hag.S t h1]; exact h2
 have hO : ∀ t x, get (pickL st.O ns) t = some x → get st'.O t = some x := fun t x ht => by obtain ⟨h1, h2⟩ := zO1 ht; rw [hag.O t h1]; exact h2
 have hfr' : get st'.O d = none := by rw [hag.O d (has_iff.1 hdn)]; exact pickL_none (has_iff.1 hdn) hfr
 have hsz : ∀ {z so : Nat} {q0 : Nat} {q1 : Value} {q2 : Bool} {q3 : List (Nat × Nat)} {q4 : Option IntKind}, get tb T = some ⟨q0, q1, q2, q3, q4, some z, so⟩ → z = sz := fun {z so q0 q1 q2 q3 q4} hq => by
  obtain ⟨d, hd1, hd2, _, _, _, h5, _⟩ := (hP.get hq).under_run w
  rw [hT.under] at hd2; cases hd2
  have hi := hT.info
  simp only [elD] at h5
  cases hinf : P.info? e with
  | none => rw [hinf] at hi; cases hi
  | some i => rw [hinf] at hi h5; simp at hi h5; omega
 have hexec : ∀ {x y : Operand} {v' : Value} {w' : World}, o.op = .call ⟨.builtin .append, ⟨[x, y]⟩, ⟨[T, T]⟩⟩ → (Builtin.append_ #[T, T] o.type #[a.eval x, a.eval y]).run P w = .ok v' w' → (execOp a.eval o).run P w = .ok (.value v') w' := fun {x y v' w'} hop hr => by
  unfold execOp
  rw [hop]
  simp only [resolve, invoke, builtin, Sem.run_bind, Sem.run_pure, Result.andThen_ok, List.map_toArray, List.map_cons, List.map_nil, hr]
 unfold apOf at h
 split at h
 ·rename_i x y T1 T2 hop
  split at h
  ·rename_i z so k1 l1 d1 m1 hTT hq h1 h2
   have hTT := Nat.eq_of_beq_eq_true hTT
   subst hTT
   split at h
   ·rename_i ty2 sz2 es2 news2 h3 h4
    cases h
    obtain ⟨v1, v2⟩ := zR1 hl
    have hz := hsz hq
    subst hz
    have hk1 := hO k1 _ (hk k1 rfl)
    have e1 := zN1 hs hS h1 v1
    have e2 := zN1 hs hS h2 v2
    simp only [VRep] at e1 e2
    have e2 := asSl_sound h4 e2
    obtain ⟨rows, g1, g2, g3, g4⟩ := hs.obj k1 _ hk1
    obtain ⟨v', w', L', r1, r2⟩ := sat_append (P := P) hs (d := d) (ty := o.type) (O' := (k1, .dead) :: st'.O) hT hd hfr' g1 g2 g3 g4 e2 hc hb (fun j => by
     by_cases e : k1 = j
     ·subst e; rw [zJ1, hk1]; rfl
     ·rw [zI1 _ _ e]) (fun j o hj => by
     by_cases e : k1 = j
     ·subst e; rw [zJ1] at hj; cases hj; exact .inr rfl
     ·rw [zI1 _ _ e] at hj; exact .inl hj) (fun j o hj hl b hb => by
     by_cases e : k1 = j
     ·subst e; rw [zJ1] at hj; cases hj; cases hl
     ·rw [zI1 _ _ e] at hj; exact hs.inj k1 _ j o hk1 hj e rfl hl b hb)
    rw [← e1.2] at r1
    exact wpO_value hg (hexec hop r1) (by rw [ho]; exact hK _ _ ⟨_, _, r2⟩)
   ·cases h
  ·rename_i z so l1 d1 m1 hTT hq h1 h2
   have hTT := Nat.eq_of_beq_eq_true hTT
   subst hTT
   split at h
   ·rename_i news2 h4
    cases h
    obtain ⟨v1, v2⟩ := zR1 hl
    have hz := hsz hq
    subst hz
    have e1 := zN1 hs hS h1 v1
    have e2 := zN1 hs hS h2 v2
    simp only [VRep, Rep] at e1
    simp only [VRep] at e2
    have e2 := asSl_sound h4 e2
    obtain ⟨v', w', L', r1, r2⟩ := sat_append (P := P) hs (d := d) (ty := o.type) (v := .slice none 0 0) (es := []) (rows := []) (O' := st'.O) hT hd hfr' (by simp [RepRows]) (fun r h => by cases h) (OwnsR.nil w e z) (fun b hb => by simp [ob] at hb) e2 hc hb (fun j => rfl) (fun j o hj => .inl hj) (fun j o hj hl b hb => by simp [ob] at hb)
    rw [← e1] at r1
    exact wpO_value hg (hexec hop r1) (by rw [ho]; exact hK _ _ ⟨_, _, r2⟩)
   ·cases h
  ·cases h
 ·cases h
theorem WL.append (hP : TblOk P tb) {ops rest : List Oper} {o : Oper} {T e sz d : Nat} {k : Option Nat} {es news : List (List D)} (es2 : List (List D)) {l : List Prop} {st' : St} (ns : List Nat) (hT : ApOk P T e sz) (hg : o.guard = none) (ho : o.dst = some d) (hd : inB n d = true)
  (h : apOf tb B.G (pickL st.S (rd ops o)) (pickL st.O ns) o.op = some (T, k, es, news, l)) (hk : ∀ k', k = some k' → get (pickL st.O ns) k' = some (.row e sz es)) (hl : vcs l) (hc : ∀ r, r ∈ news → cellDs r = true) (hb : es.length + news.length ≤ 137438953472) (hdn : has d ns = true) (hfr : get (pickL st.O ns) d = none) (he2 : es ++ news = es2)
  (hst : addK st [(d, .r d)] ((d, .row e sz es2) :: deadO k) = some st') (hw : WL P B n st' ops Q rest) : WL P B n st ops Q (o :: rest) :=
 WL.op (OpOk.append (ws := []) (wn := []) hP hT hg ho hd h hk hl hc (.of hT hb) hdn hfr he2) (by rw [addK_eq hst]; exact hw)
theorem WR.append (hP : TblOk P tb) {ops rest : List Oper} {o : Oper} {done : List Key} {T e sz d : Nat} {k : Option Nat} {es news : List (List D)} (es2 : List (List D)) {l : List Prop} {st' : St} (ns : List Nat) (hT : ApOk P T e sz) (hg : o.guard = none) (ho : o.dst = some d) (hd : inB n d = true)
  (h : apOf tb B.G (pickL st.S (rd ops o)) (pickL st.O ns) o.op = some (T, k, es, news, l)) (hk : ∀ k', k = some k' → get (pickL st.O ns) k' = some (.row e sz es)) (hl : vcs l) (hc : ∀ r, r ∈ news → cellDs r = true) (hb : es.length + news.length ≤ 137438953472) (hdn : has d ns = true) (hfr : get (pickL st.O ns) d = none) (he2 : es ++ news = es2)
  (hst : addK st [(d, .r d)] ((d, .row e sz es2) :: deadO k) = some st') (hns : subL ns (d :: deadN k) = true) (hw : WR P B n st' ops Q (done ++ [⟨rd ops o, ns, [d], d :: deadN k⟩]) rest) : WR P B n st ops Q done (o :: rest) := by
 refine WR.cons ⟨rfl, fun j hj => ?_, fun j hj => subL_spec hns j hj⟩ (OpOk.append (ws := [d]) (wn := d :: deadN k) hP hT hg ho hd h hk hl hc (.of hT hb) hdn hfr he2) (by rw [addK_eq hst]; exact hw)
 cases k <;> simpa [deadO, deadN] using hj
theorem WL.appendR (hP : TblOk P tb) {ops rest : List Oper} {o : Oper} {T e sz d : Nat} {k : Option Nat} {es news : List (List D)} (es2 : List (List D)) {l : List Prop} {st' : St} (ns : List Nat) (hT : ApOk P T e sz) (hg : o.guard = none) (ho : o.dst = some d) (hd : inB n d = true)
  (h : apOf tb B.G (pickL st.S (rd ops o)) (pickL st.O ns) o.op = some (T, k, es, news, l)) (hk : ∀ k', k = some k' → get (pickL st.O ns) k' = some (.row e sz es)) (hl : vcs l) (hc : ∀ r, r ∈ news → cellDs r = true) (hb : Room P e (es.length + news.length)) (hdn : has d ns = true) (hfr : get (pickL st.O ns) d = none) (he2 : es ++ news = es2)
  (hst : addK st [(d, .r d)] ((d, .row e sz es2) :: deadO k) = some st') (hw : WL P B n st' ops Q rest) : WL P B n st ops Q (o :: rest) :=
 WL.op (OpOk.append (ws := []) (wn := []) hP hT hg ho hd h hk hl hc hb hdn hfr he2) (by rw [addK_eq hst]; exact hw)
theorem zL1 {α : Type} {f : α → List D} {xs : List α} (h : ∀ x, cellDs (f x) = true) : ∀ r, r ∈ xs.map f → cellDs r = true := fun r hr => by
 obtain ⟨x, _, rfl⟩ := List.mem_map.1 hr; exact h x
theorem map_getD {α : Type} [Inhabited α] {f : α → List D} {xs : List α} {m : Int} (h : m < (xs.length : Int)) (h0 : 0 ≤ m) : (xs.map f)[m.toNat]? = some (f (xs.getD m.toNat default)) := by
 have hlt : m.toNat < xs.length := by omega
 simp [List.getD_eq_getElem?_getD, hlt]
end Go.V
namespace Go.V
open Go.RowKit
variable {P : Program} {n : Nat} {B : Base} {st : St} {tb : List (Nat × TI)} {Q : Exit → Act → World → Prop} {ρ : Nat → Value} {a : Act} {w : World} {L : Nat → Prop}
theorem q_ev (hP : TblOk P tb) {o : Oper} {sl ns : List Nat} {x : SV} (y : SV) {l : List Prop} (h : ev tb B.G (pickL st.S sl) (pickL st.O ns) o.op = some (x, l)) (hl : vcs l) (he : x = y) : QOk P B n o sl ns st y := by
  subst he
  intro st' a ρ w L hag hs
  exact ev_sound hP hs (fun t x ht => by obtain ⟨h1, h2⟩ := zO1 ht; rw [hag.S t h1]; exact h2) (fun t x ht => by obtain ⟨h1, h2⟩ := zO1 ht; rw [hag.O t h1]; exact h2) o h hl
def EqLaw (P : Program) (T : Nat) (ds es : List D) (b : Bool) : Prop := ∀ w X xs ys, Reps w X ds xs → Reps w X es ys → (Op.equal T (.agg ⟨xs⟩) (.agg ⟨ys⟩)).run P w = .ok b w
def eqOf (G : List (Nat × List D)) (S : List (Nat × SV)) : Op → Option (Nat × Bool × List D × List D × List Prop)
 | .binOp op T x y _ =>
  match o1 G S x, o1 G S y, op with
  | some (.v (.agg ds), l), some (.v (.agg es), m), .eql => some (T, true, ds, es, l ++ m)
  | some (.v (.agg ds), l), some (.v (.agg es), m), .neq => some (T, false, ds, es, l ++ m)
  | _, _, _ => none
 | _ => none
theorem q_eq {o : Oper} {sl ns : List Nat} {T : Nat} {pos : Bool} {ds es : List D} {l : List Prop} {b : Bool} (h : eqOf B.G (pickL st.S sl) o.op = some (T, pos, ds, es, l)) (hl : vcs l) (hG : P.eqGuardType P.depth T = false) (law : EqLaw P T ds es b) : QOk P B n o sl ns st (.v (.bool (match pos with | true => b | false => !b))) := by
 intro st' a ρ w L hag hs
 have hS : ∀ t x, get (pickL st.S sl) t = some x → get st'.S t = some x := fun t x ht => by obtain ⟨h1, h2⟩ := zO1 ht; rw [hag.S t h1]; exact h2
 unfold eqOf at h
 split at h
 ·rename_i op T' x y yT hop
  split at h
  all_goals (try (cases h; done))
  all_goals
   rename_i h1 h2
   cases h
   obtain ⟨v1, v2⟩ := zR1 hl
   have e1 := zN1 hs hS h1 v1
   have e2 := zN1 hs hS h2 v2
   simp only [VRep, Rep] at e1 e2
   obtain ⟨xs, e1, r1⟩ := e1
   obtain ⟨ys, e2, r2⟩ := e2
   have hl := law w _ xs ys r1 r2
   refine ⟨_, ?_, by simp only [VRep, Rep]; rfl⟩
   simp only [execOp, hop, e1, e2, eqGuard, binOp, Sem.run_bind]
   simp [hl, hG]
 ·cases h
theorem run_part_one {T : Nat} {ti : TI} (hT : TIok P T ti) (hagg : ti.agg = false) (w : World) (xs : Array Value) (o : Nat) (x : Value) (hx : xs[o]? = some x) : (part T xs o).run P w = .ok x w := by
  simp only [part, Sem.run_bind, hT.isAgg_run, hagg, Result.andThen_ok]
  simp [hx]
theorem eqIn_int {d t : Nat} {k : IntKind} {p q : Int} {k' : IntKind} (hu : P.underlying t = some (.int k')) (w : World) : (Op.equalIn (d + 1) t (.int k p) (.int k q)).run P w = .ok (p == q) w := by
 simp only [Op.equalIn, Sem.run_bind, run_underlying hu, Result.andThen_ok]
 simp
theorem beq_bytes (s t : List UInt8) : ((⟨⟨s⟩⟩ : ByteArray) == ⟨⟨t⟩⟩) = (s == t) := by
 show ((⟨s⟩ : Array UInt8) == ⟨t⟩) = (s == t)
 simp
theorem eqIn_str {d t : Nat} {p q : List UInt8} (hu : P.underlying t = some .string) (w : World) : (Op.equalIn (d + 1) t (.string ⟨⟨p⟩⟩) (.string ⟨⟨q⟩⟩)).run P w = .ok (p == q) w := by
 simp only [Op.equalIn, Sem.run_bind, run_underlying hu, Result.andThen_ok]
 rw [← beq_bytes]; rfl
def bytesI (xs : List Int) : List UInt8 := xs.map fun n => UInt8.ofNat n.toNat
def intsB (s : List UInt8) : List Int := s.map fun b => (b.toNat : Int)
def cvOf (tb : List (Nat × TI)) (G : List (Nat × List D)) (S : List (Nat × SV)) : Op → Option (Nat × Nat × List (List D) × List Prop)
 | .convert src dst x =>
  match get tb src, get tb dst, o1 G S x with
  | some ⟨_, _, _, _, _, some z, _⟩, some ⟨_, _, _, _, _, _, 2⟩, some (.v d, l) => match asSl z d with | some es => some (src, dst, es, l) | none => none
  | _, _, _ => none
 | _ => none
structure ByOk (P : Program) (src : Nat) : Prop where
 e : ∃ e, P.underlying src = some (.slice e) ∧ P.underlying e = some (.int .u8)
theorem q_b2s (hP : TblOk P tb) {o : Oper} {sl ns : List Nat} {src dst : Nat} {xs : List Int} {l : List Prop} (hB : ByOk P src) (h : cvOf tb B.G (pickL st.S sl) o.op = some (src, dst, xs.map (fun x => [D.int .u8 x]), l)) (hl : vcs l) : QOk P B n o sl ns st (.v (.str (bytesI xs))) := by
 intro st' a ρ w L hag hs
 have hS : ∀ t x, get (pickL st.S sl) t = some x → get st'.S t = some x := fun t x ht => by obtain ⟨h1, h2⟩ := zO1 ht; rw [hag.S t h1]; exact h2
 unfold cvOf at h
 split at h
 ·rename_i src' dst' x hop
  split at h
  ·rename_i z so1 _ _ _ _ _ _ d l1 hT1 hT2 h1
   split at h
   ·rename_i es hes
    cases h
    have e1 := zN1 hs hS h1 hl
    simp only [VRep] at e1
    have e1 := asSl_sound hes e1
    simp only [Rep] at e1
    obtain ⟨base, cap, e1, e2, e3, e4⟩ := e1
    obtain ⟨e, he1, he2⟩ := hB.e
    have hd : P.underlying dst = some .string := by
     obtain ⟨dd, _, hd, _, _, _, _, h5⟩ := (hP.get hT2).under_run w
     cases dd <;> simp [sortD] at h5
     exact hd
    refine ⟨.string ⟨⟨bytesI xs⟩⟩, ?_, by simp only [VRep, Rep]⟩
    simp only [execOp, hop, e1, Sem.run_bind]
    cases hb : base with
    | none =>
     have hx := e3 hb
     have hx : xs = [] := by simpa using hx
     subst hx
     rw [run_convert_bytes_nil w src e he1 he2 _ _ dst hd]; rfl
    | some ad =>
     by_cases hne : xs = []
     ·subst hne
      rw [run_convert_bytes_string w src dst e _ _ _ he1 he2 hd]
      have hld := run_loadCells_list (P := P) w ad [] (fun j v hj => by simp at hj)
      simp at hld
      simp [Conv.bytesToString, hld, bytesI]
      rfl
     obtain ⟨h5, h6, h7, h8⟩ := e4 ad hb (by simpa using hne)
     obtain ⟨b, o', q⟩ := ad
     simp only at h5; subst h5
     have hz : xs.length ≠ 0 → z = 1 := fun hne => by
      have hlt : 0 < xs.length := by omega
      obtain ⟨cs, g1, g2, _⟩ := h8.get (i := 0) (e := [D.int .u8 xs[0]]) (by simp [hlt])
      have := g1.length; simp at this; omega
     rw [run_convert_bytes_arg w src e he1 he2 b o' _ cap xs (by simp) (fun i hi => ?_) dst hd]
     ·rfl
     ·have hi : i < xs.length := by simpa using hi
      have hz1 := hz (by omega)
      subst hz1
      obtain ⟨cs, g1, g2, g3⟩ := h8.get (i := i) (e := [D.int .u8 xs[i]]) (by simp [hi])
      simp only [Reps, Rep] at g1
      obtain ⟨v, r, rfl, rfl, rfl⟩ := g1
      have := g3 0 _ rfl
      simp only [Nat.mul_one, Nat.add_zero] at this
      rw [this]; simp [List.getD_eq_getElem?_getD, hi]
   ·cases h
  ·cases h
 ·cases h
end Go.V
end zVy
