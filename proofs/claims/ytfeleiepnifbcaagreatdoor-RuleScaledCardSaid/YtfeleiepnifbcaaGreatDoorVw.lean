/- The engine: calls of methods through values of interfaces; a type that holds lists of itself. No program in sight. -/
import Derived.Test.YtfeleiepnifbcaaGreatDoorVz
set_option linter.unusedVariables false
set_option linter.unusedSimpArgs false
namespace Go.V

variable {P : Program} {n : Nat} {B : Base} {st : St} {tb : List (Nat × TI)} {Q : Exit → Act → World → Prop} {ρ : Nat → Value} {a : Act} {w : World} {L : Nat → Prop}

/-- The method of this name of the values of type t. -/
structure MethOk (P : Program) (t : Nat) (m : String) (f : FuncId) : Prop where
  run : ∀ v w, (Go.method (P.types.size + Made.depth) t v m).run P w = .ok (f, v) w

def isPtrD : TypeDesc → Bool
  | .pointer _ => true
  | _ => false
/-- A method's row says: no way to go, this function, by value. -/
def rowIs (f : FuncId) (i : TypeInfo) (m : String) : Bool :=
  match i.methods.find? (·.name == m) with
  | some r => r.path.isEmpty && (match r.func with | some (g, false) => g == f | _ => false)
  | none => false
theorem methOk {t : Nat} {m : String} {f : FuncId} {d : TypeDesc} (h : (P.info? t).map (fun i => rowIs f i m) = some true) (hu : P.underlying t = some d) (hp : isPtrD d = false) : MethOk P t m f := ⟨fun v w => by
  obtain ⟨i, hi, hr⟩ := Option.map_eq_some_iff.1 h
  have hti : (typeInfo t).run P w = .ok i w := by
    unfold typeInfo
    have hprog : (program : Sem Program).run P w = .ok P w := rfl
    simp only [Sem.run_bind, hprog, Result.andThen_ok, hi, Sem.run_pure]
  show (Go.method (P.types.size + 99 + 1) t v m).run P w = _
  unfold Go.method
  simp only [Sem.run_bind, hti, Result.andThen_ok]
  unfold rowIs at hr
  cases hf : i.methods.find? (·.name == m) with
  | none => rw [hf] at hr; cases hr
  | some r =>
    rw [hf] at hr
    simp only [Bool.and_eq_true] at hr
    obtain ⟨h1, h2⟩ := hr
    have h3 : r.path = #[] := Array.isEmpty_iff.1 h1
    split at h2
    · rename_i g hg
      have : g = f := by simpa using h2
      subst this
      simp only [h3, hg, follow, Sem.run_bind, Sem.run_pure, Result.andThen_ok]
      unfold receiverAt
      simp only [Sem.run_bind, run_underlying hu, Result.andThen_ok]
      cases d <;> first | (cases hp; done) | simp [Place.get, Sem.run_pure, Sem.run_bind]
    · cases h2⟩

theorem execOp_meth {o : Oper} {f : FuncId} {c : Operand} {m : String} {xs : List Operand} {ats : Array TypeId} (hop : o.op = .call ⟨.invoke c m, xs.toArray, ats⟩) {a : Act} {t : Nat} {v : Value} (hc : a.eval c = .iface t v) (hm : MethOk P t m f) (hf : HasBody P f) (w : World) :
    (execOp a.eval o).run P w = .ok (.enter f (v :: xs.map a.eval).toArray) w := by
  obtain ⟨fn, h1, h2, h3⟩ := hf.ok
  have hprog : (program : Sem Program).run P w = .ok P w := rfl
  unfold execOp
  rw [hop]
  simp only [resolve, invoke, callMethod, Sem.run_bind, Sem.run_pure, Result.andThen_ok]
  have h3' : fn.name ≠ "runtime.NumGoroutine" := by simpa using h3
  have h2' : fn.body ≠ none := fun e => by rw [e] at h2; cases h2
  simp [hc, hprog, hm.run, callFunc, h1, h2', h3', Sem.run_bind, Sem.run_pure]
  rw [List.take_of_length_le (by simp)]

/-- A method called through a value of an interface: the name, the type and the datum in it, the arguments. -/
def calleeM (G : List (Nat × List D)) (S : List (Nat × SV)) : Op → Option (String × Nat × D × List SV × List Prop)
  | .call ⟨.invoke c m, ⟨xs⟩, _⟩ =>
    match o1 G S c, o1s G S xs with
    | some (.v (.ifc t d), l), some (ys, k) => some (m, t, d, ys, l ++ k)
    | _, _ => none
  | _ => none

/-- What a method answers over a value of an interface. -/
def ConI (P : Program) (wg : World) (G : List (Nat × List D)) (m : String) (t : Nat) (d : D) (args : List SV) (r : SV) : Prop := ∃ f, MethOk P t m f ∧ HasBody P f ∧ Con P wg G f (.v d :: args) [] r []

theorem calleeM_sound (hs : Sat B n st ρ a w L) {S : List (Nat × SV)} (hS : ∀ t x, get S t = some x → get st.S t = some x) {o : Oper} {m : String} {t : Nat} {d : D} {f : FuncId} {ys : List SV} {l : List Prop} (h : calleeM B.G S o.op = some (m, t, d, ys, l)) (hv : vcs l) (hm : MethOk P t m f) (hf : HasBody P f) :
    ∃ vals : List Value, (execOp a.eval o).run P w = .ok (.enter f vals.toArray) w ∧ VReps (nmO st.O) ρ w (un B.F L) (.v d :: ys) vals := by
  unfold calleeM at h
  split at h
  · rename_i c m' xs ats hop
    split at h
    · rename_i t' d' l1 ys' k h1 h2
      cases h
      obtain ⟨v1, v2⟩ := vcs_append hv
      have e1 := o1_sound hs hS h1 v1
      have e2 := o1s_sound hs hS h2 v2
      simp only [VRep, Rep] at e1
      obtain ⟨x, e1, e3⟩ := e1
      exact ⟨_, execOp_meth hop e1 hm hf w, by simp only [VReps, VRep]; exact ⟨_, _, rfl, e3, e2⟩⟩
    · cases h
  · cases h

theorem WL.meth {ops rest : List Oper} {o : Oper} {m : String} {t : Nat} {d : D} {k : Nat} {ys : List SV} {l : List Prop} {r : SV} (hg : o.guard = none) (ho : o.dst = some k) (hd : inB n k = true)
    (hc : calleeM B.G st.S o.op = some (m, t, d, ys, l)) (hl : vcs l) (hw : wfBs [] ys = true) (con : ConI P B.wg B.G m t d ys r) (h : WL P B n ⟨(k, r) :: st.S, st.O⟩ ops Q rest) : WL P B n st ops Q (o :: rest) := by
  intro a ρ w L hs
  refine wpList_step fun K hK => ?_
  rw [if_pos (by simp [Region.wanted, hg])]
  obtain ⟨f, hm, hf, con⟩ := con
  obtain ⟨vals, h1, h2⟩ := calleeM_sound hs (fun _ _ h => h) hc hl hm hf
  simp only [Oper.wp, h1, Oper.upon]
  refine call_core hs (π := []) (π' := []) (d := o.dst) con (fun d' e => by rw [ho] at e; cases e; exact hd) (by rw [rens_nil]; exact h2) (by simp only [wfBs, wfB]; exact hw) trivial rfl rfl rfl (fun k hk => by simp [nmO, get] at hk) rfl (K := K) (fun v a' ρ' w' L' _ s' => hK a' w' (h a' ρ' w' L' ?_)) (fun v w' h => h)
  rw [ho, ren_nil] at s'
  exact s'

theorem opok_meth {ops : List Oper} {o : Oper} {m : String} {t : Nat} {d : D} {k : Nat} {ys : List SV} {l : List Prop} {sl ns ws : List Nat} {r : SV} (hg : o.guard = none) (ho : o.dst = some k) (hd : inB n k = true)
    (hc : calleeM B.G (pickL st.S sl) o.op = some (m, t, d, ys, l)) (hl : vcs l) (hw : wfBs [] ys = true) (con : ConI P B.wg B.G m t d ys r) : OpOk P B n ops Q o ⟨sl, ns, ws, []⟩ st ⟨[(k, r)], []⟩ := by
  intro st' a ρ w L K hag hs hK
  unfold wpO
  rw [if_pos (by simp [Region.wanted, hg])]
  have hS : ∀ t x, get (pickL st.S sl) t = some x → get st'.S t = some x := fun t x ht => by obtain ⟨h1, h2⟩ := pickL_some ht; rw [hag.S t h1]; exact h2
  obtain ⟨f, hm, hf, con⟩ := con
  obtain ⟨vals, h1, h2⟩ := calleeM_sound hs hS hc hl hm hf
  simp only [Oper.wp, h1, Oper.upon]
  refine call_core hs (π := []) (π' := []) (d := o.dst) con (fun d' e => by rw [ho] at e; cases e; exact hd) (by rw [rens_nil]; exact h2) (by simp only [wfBs, wfB]; exact hw) trivial rfl rfl rfl (fun k hk => by simp [nmO, get] at hk) rfl (K := K) (fun v a' ρ' w' L' _ s' => hK a' w' ⟨ρ', L', ?_⟩) (fun v w' h => h)
  rw [ho, ren_nil] at s'
  exact s'
theorem WR.meth {ops rest : List Oper} {o : Oper} {done : List Key} {m : String} {t : Nat} {d : D} {k : Nat} {ys : List SV} {l : List Prop} {r : SV} (hg : o.guard = none) (ho : o.dst = some k) (hd : inB n k = true)
    (hc : calleeM B.G (pickL st.S (rd ops o)) o.op = some (m, t, d, ys, l)) (hl : vcs l) (hw : wfBs [] ys = true) (con : ConI P B.wg B.G m t d ys r) (h : WR P B n ⟨(k, r) :: st.S, st.O⟩ ops Q (done ++ [⟨rd ops o, [], [k], []⟩]) rest) : WR P B n st ops Q done (o :: rest) :=
  WR.op (sl := rd ops o) (ns := []) (wn := []) (d := ⟨[(k, r)], []⟩) (opok_meth hg ho hd hc hl hw con) rfl rfl h

/-! ### A type that holds lists of itself -/
theorem map_getE {α : Type} {f : α → List D} {xs : List α} {i : Nat} {x : α} {cs : List D} (h : xs[i]? = some x) (e : f x = cs) : (xs.map f)[i]? = some cs := by rw [List.getElem?_map, h]; exact congrArg some e
theorem map_getDE {α : Type} [Inhabited α] {f : α → List D} {xs : List α} {m : Int} {cs : List D} (h : m < (xs.length : Int)) (h0 : 0 ≤ m) (e : f (xs.getD m.toNat default) = cs) : (xs.map f)[m.toNat]? = some cs := (map_getD h h0).trans (congrArg some e)
theorem Le.of_eq {x y : SV} (h : x = y) : Le x y := h ▸ Le.refl x
end Go.V
