/- The engine: loops whose rounds are known; operations whose guard is known; an array's element. -/
import Derived.Test.YtinickkcieecdaaGreatDoorVn
import Derived.LoopN
set_option linter.unusedVariables false
namespace Go.V

variable {P : Program} {n : Nat} {B : Base} {st : St} {Q : Exit → Act → World → Prop}

/-- A loop, round by round: at most k further ones. -/
theorem WC.rounds {c : Code} (k : Nat) (h : WC P B n st c (Exit.then (Code.rounds P c Q k) Q)) : WC P B n st (.loop c) Q := fun a ρ w L hs =>
  wp_loop_rounds (k + 1) (h a ρ w L hs)
theorem WQ.round {c : Code} {k : Nat} (h : WC P B n st c (Exit.then (Code.rounds P c Q k) Q)) : WQ B n st (Exit.then (Code.rounds P c Q (k + 1)) Q) .normal := fun a ρ w L hs => h a ρ w L hs

/-- An operation whose guard is known to hold. -/
theorem WL.ungd {ops rest : List Oper} {o : Oper} {j : Nat} {want c : Bool} (hg : o.guard = some (j, want)) (hc : gcond ops st.S j want = some c) (he : c = true) (h : WL P B n st ops Q ({ o with guard := none } :: rest)) : WL P B n st ops Q (o :: rest) := fun a ρ w L hs => by
  have h1 := h a ρ w L hs
  have hw : Region.wanted o (yielded ops.toArray a.tmps) = true := by
    simp only [Region.wanted, hg]; rw [gcond_sound hs (fun t x h => h) hc, he]
  have hw2 : Region.wanted { o with guard := none } (yielded ops.toArray a.tmps) = true := by simp [Region.wanted]
  unfold wpList at h1 ⊢
  rw [if_pos hw2] at h1
  rw [if_pos hw]
  exact h1
/-- An operation whose guard is known not to hold. -/
theorem WL.skipg {ops rest : List Oper} {o : Oper} {j d : Nat} {want c : Bool} (x : SV) (hg : o.guard = some (j, want)) (ho : o.dst = some d) (hd : inB n d = true) (hc : gcond ops st.S j want = some c) (he : c = false) (h : WL P B n ⟨(d, .g false x) :: st.S, st.O⟩ ops Q rest) : WL P B n st ops Q (o :: rest) := fun a ρ w L hs => by
  have hw : Region.wanted o (yielded ops.toArray a.tmps) = false := by
    simp only [Region.wanted, hg]; rw [gcond_sound hs (fun t x h => h) hc, he]
  unfold wpList
  rw [if_neg (by rw [hw]; simp), ho]
  exact h _ _ _ _ (sat_put hs hd (by simp only [VRep]; exact ⟨(fun h => by cases h), fun _ => trivial⟩))
theorem WL.skipg0 {ops rest : List Oper} {o : Oper} {j : Nat} {want c : Bool} (hg : o.guard = some (j, want)) (ho : o.dst = none) (hc : gcond ops st.S j want = some c) (he : c = false) (h : WL P B n st ops Q rest) : WL P B n st ops Q (o :: rest) := fun a ρ w L hs => by
  have hw : Region.wanted o (yielded ops.toArray a.tmps) = false := by
    simp only [Region.wanted, hg]; rw [gcond_sound hs (fun t x h => h) hc, he]
  unfold wpList
  rw [if_neg (by rw [hw]; simp), ho]
  exact h _ _ _ _ hs

def aixOf (G : List (Nat × List D)) (S : List (Nat × SV)) : Op → Option (Nat × List D × Int × List Prop)
  | .index T x i =>
    match o1 G S x, o1 G S i with
    | some (.v (.agg cs), l), some (.v (.int _ m), l2) => some (T, cs, m, l ++ l2)
    | _, _ => none
  | _ => none
/-- An element of an array. -/
theorem q_aidx {tb : List (Nat × TI)} (hP : TblOk P tb) {o : Oper} {sl ns : List Nat} {T e len : Nat} {ti : TI} {cs : List D} {y : D} {m : Int} {l : List Prop} (hT : P.underlying T = some (.array len e)) (hE : get tb e = some ti) (hag : ti.agg = false) (hsz : ti.size = 1)
    (h : aixOf B.G (pickL st.S sl) o.op = some (T, cs, m, l)) (hl : vcs l) (hm : 0 ≤ m ∧ m < len) (hc : nth cs m.toNat = some y) : QOk P B n o sl ns st (.v y) := by
  intro st' a ρ w L hagr hs
  have hS : ∀ t x, get (pickL st.S sl) t = some x → get st'.S t = some x := fun t x ht => by obtain ⟨h1, h2⟩ := pickL_some ht; rw [hagr.S t h1]; exact h2
  unfold aixOf at h
  split at h
  · rename_i T' x i hop
    split at h
    · rename_i cs' l1 k' m' l2 h1 h2
      cases h
      obtain ⟨v1, v2⟩ := vcs_append hl
      have e1 := o1_sound hs hS h1 v1
      have e2 := o1_sound hs hS h2 v2
      simp only [VRep, Rep] at e1 e2
      obtain ⟨us, e1, hr⟩ := e1
      rw [nth_eq] at hc
      obtain ⟨v, g1, g2⟩ := hr.get hc
      refine ⟨v, ?_, by simp only [VRep]; exact g2⟩
      have hso := (hP.get hE).size_run w
      rw [hsz] at hso
      have hp := run_part_one (hP.get hE) hag w ⟨us⟩ m.toNat v (by simpa using g1)
      simp only [execOp, hop, e1, e2, Instr.index, asIntOf, Sem.run_bind, Sem.run_pure, run_underlying hT, Result.andThen_ok, if_pos hm, hso, Nat.mul_one, hp]
    · cases h
  · cases h

/-- An operation that makes a datum, under a guard. -/
theorem OpOk.guarded {ops : List Oper} {o : Oper} {sl ns ws : List Nat} {d j : Nat} {want g : Bool} {x : SV} (hg : o.guard = some (j, want)) (ho : o.dst = some d) (hd : inB n d = true) (hgc : gcond ops (pickL st.S sl) j want = some g)
    (h : g = true → OpOk P B n ops Q { o with guard := none } ⟨sl, ns, ws, []⟩ st ⟨[(d, x)], []⟩) : OpOk P B n ops Q o ⟨sl, ns, ws, []⟩ st ⟨[(d, .g g x)], []⟩ := by
  intro st' a ρ w L K hag hs hK
  have hS : ∀ t x, get (pickL st.S sl) t = some x → get st'.S t = some x := fun t x ht => by obtain ⟨h1, h2⟩ := pickL_some ht; rw [hag.S t h1]; exact h2
  have hwd : Region.wanted o (yielded ops.toArray a.tmps) = g := by simp only [Region.wanted, hg]; exact gcond_sound hs hS hgc
  unfold wpO
  rw [hwd]
  cases g with
  | true =>
    rw [if_pos rfl]
    have h1 := h rfl st' a ρ w L K hag hs (fun a' w' ⟨ρ', L', s'⟩ => hK a' w' ⟨ρ', L', by
      have s2 : Sat B n ⟨(d, x) :: st'.S, st'.O⟩ ρ' a' w' L' := s'
      refine s2.go (Step.refl _ _) (fun b hb => s2.low b (.inr hb)) (fun _ h => ⟨h, rfl⟩) s2.size s2.defers (fun t y hy => ?_) s2.obj s2.inj
      change get ((d, SV.g true x) :: st'.S) t = some y at hy
      by_cases e : d = t
      · subst e
        rw [get_cons_self] at hy; cases hy
        obtain ⟨v, h3, h4⟩ := s2.slot d _ (get_cons_self _ _ _)
        exact ⟨v, h3, by simp only [VRep]; exact ⟨fun _ => h4, (fun h => by cases h)⟩⟩
      · rw [get_cons_ne _ _ e] at hy
        exact s2.slot t y (by rw [get_cons_ne _ _ e]; exact hy)⟩)
    unfold wpO at h1
    rw [if_pos (by simp [Region.wanted])] at h1
    exact h1
  | false =>
    rw [if_neg (by simp), ho]
    exact hK _ _ ⟨ρ, L, sat_put hs (x := .g false x) hd (by simp only [VRep]; exact ⟨(fun h => by cases h), fun _ => trivial⟩)⟩
theorem WR.gmake {tb : List (Nat × TI)} (hP : TblOk P tb) {ops rest : List Oper} {o : Oper} {done : List Key} {d j : Nat} {want g : Bool} {x : SV} {l : List Prop} (hg : o.guard = some (j, want)) (ho : o.dst = some d) (hd : inB n d = true) (hgc : gcond ops (pickL st.S (rd ops o)) j want = some g)
    (h : dA tb B.G n ops { o with guard := none } (pickL st.S (rd ops o)) (pickL st.O []) = .yes (some (d, x)) none [] l) (hv : g = true → vcs l) (hw : WR P B n ⟨(d, .g g x) :: st.S, st.O⟩ ops Q (done ++ [⟨rd ops o, [], [d], []⟩]) rest) : WR P B n st ops Q done (o :: rest) :=
  WR.op (sl := rd ops o) (ns := []) (wn := []) (d := ⟨[(d, .g g x)], []⟩) (OpOk.guarded (ws := [d]) hg ho hd hgc (fun e => OpOk.run hP h (hv e) rfl)) rfl rfl hw
theorem WL.gmake {tb : List (Nat × TI)} (hP : TblOk P tb) {ops rest : List Oper} {o : Oper} {d j : Nat} {want g : Bool} {x : SV} {l : List Prop} (hg : o.guard = some (j, want)) (ho : o.dst = some d) (hd : inB n d = true) (hgc : gcond ops (pickL st.S (rd ops o)) j want = some g)
    (h : dA tb B.G n ops { o with guard := none } (pickL st.S (rd ops o)) (pickL st.O []) = .yes (some (d, x)) none [] l) (hv : g = true → vcs l) (hw : WL P B n ⟨(d, .g g x) :: st.S, st.O⟩ ops Q rest) : WL P B n st ops Q (o :: rest) :=
  WL.op (d := ⟨[(d, .g g x)], []⟩) (OpOk.guarded (sl := rd ops o) (ns := []) (ws := []) hg ho hd hgc (fun e => OpOk.run hP h (hv e) rfl)) hw

end Go.V
