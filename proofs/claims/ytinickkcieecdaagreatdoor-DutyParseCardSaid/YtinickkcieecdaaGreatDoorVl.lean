/- The engine: equality of structs, texts out of bytes, functions that the model stands in for. No program in sight. -/
import Derived.Test.YtinickkcieecdaaGreatDoorVk
import Derived.Laws.BytesArg
set_option linter.unusedVariables false
namespace Go.V
open Go.RowKit

variable {P : Program} {n : Nat} {B : Base} {st : St} {tb : List (Nat × TI)} {Q : Exit → Act → World → Prop} {ρ : Nat → Value} {a : Act} {w : World} {L : Nat → Prop}

/-- A quiet operation, its value in other words. -/
theorem q_ev (hP : TblOk P tb) {o : Oper} {sl ns : List Nat} {x : SV} (y : SV) {l : List Prop} (h : ev tb B.G (pickL st.S sl) (pickL st.O ns) o.op = some (x, l)) (hl : vcs l) (he : x = y) : QOk P B n o sl ns st y := by
  subst he
  intro st' a ρ w L hag hs
  exact ev_sound hP hs (fun t x ht => by obtain ⟨h1, h2⟩ := pickL_some ht; rw [hag.S t h1]; exact h2) (fun t x ht => by obtain ⟨h1, h2⟩ := pickL_some ht; rw [hag.O t h1]; exact h2) o h hl

/-! ### Structs -/

/-- Structs of this type with these cells are equal as b says. -/
def EqLaw (P : Program) (T : Nat) (ds es : List D) (b : Bool) : Prop := ∀ w X xs ys, Reps w X ds xs → Reps w X es ys → (Op.equal T (.agg ⟨xs⟩) (.agg ⟨ys⟩)).run P w = .ok b w

def eqOf (G : List (Nat × List D)) (S : List (Nat × SV)) : Op → Option (Nat × Bool × List D × List D × List Prop)
  | .binOp op T x y _ =>
    match o1 G S x, o1 G S y, op with
    | some (.v (.agg ds), l), some (.v (.agg es), m), .eql => some (T, true, ds, es, l ++ m)
    | some (.v (.agg ds), l), some (.v (.agg es), m), .neq => some (T, false, ds, es, l ++ m)
    | _, _, _ => none
  | _ => none

theorem q_eq {o : Oper} {sl ns : List Nat} {T : Nat} {pos : Bool} {ds es : List D} {l : List Prop} {b : Bool} (h : eqOf B.G (pickL st.S sl) o.op = some (T, pos, ds, es, l)) (hl : vcs l) (hG : P.eqGuardType P.depth T = false) (law : EqLaw P T ds es b) : QOk P B n o sl ns st (.v (.bool (match pos with | true => b | false => !b))) := by
  intro st' a ρ w L hag hs
  have hS : ∀ t x, get (pickL st.S sl) t = some x → get st'.S t = some x := fun t x ht => by obtain ⟨h1, h2⟩ := pickL_some ht; rw [hag.S t h1]; exact h2
  unfold eqOf at h
  split at h
  · rename_i op T' x y yT hop
    split at h
    all_goals (try (cases h; done))
    all_goals
      rename_i h1 h2
      cases h
      obtain ⟨v1, v2⟩ := vcs_append hl
      have e1 := o1_sound hs hS h1 v1
      have e2 := o1_sound hs hS h2 v2
      simp only [VRep, Rep] at e1 e2
      obtain ⟨xs, e1, r1⟩ := e1
      obtain ⟨ys, e2, r2⟩ := e2
      have hl := law w _ xs ys r1 r2
      refine ⟨_, ?_, by simp only [VRep, Rep]; rfl⟩
      simp only [execOp, hop, e1, e2, eqGuard, binOp, Sem.run_bind]
      simp [hl, hG]
  · cases h

/-- One cell of a struct, and the others. -/
theorem run_part_one {T : Nat} {ti : TI} (hT : TIok P T ti) (hagg : ti.agg = false) (w : World) (xs : Array Value) (o : Nat) (x : Value) (hx : xs[o]? = some x) : (part T xs o).run P w = .ok x w := by
  simp only [part, Sem.run_bind, hT.isAgg_run, hagg, Result.andThen_ok]
  simp [hx]

theorem eqIn_int {d t : Nat} {k : IntKind} {p q : Int} {k' : IntKind} (hu : P.underlying t = some (.int k')) (w : World) : (Op.equalIn (d + 1) t (.int k p) (.int k q)).run P w = .ok (p == q) w := by
  simp only [Op.equalIn, Sem.run_bind, run_underlying hu, Result.andThen_ok]
  simp
theorem eqIn_bool {d t : Nat} {p q : Bool} (hu : P.underlying t = some .bool) (w : World) : (Op.equalIn (d + 1) t (.bool p) (.bool q)).run P w = .ok (p == q) w := by
  simp only [Op.equalIn, Sem.run_bind, run_underlying hu, Result.andThen_ok]; rfl
theorem beq_bytes (s t : List UInt8) : ((⟨⟨s⟩⟩ : ByteArray) == ⟨⟨t⟩⟩) = (s == t) := by
  show ((⟨s⟩ : Array UInt8) == ⟨t⟩) = (s == t)
  simp
theorem eqIn_str {d t : Nat} {p q : List UInt8} (hu : P.underlying t = some .string) (w : World) : (Op.equalIn (d + 1) t (.string ⟨⟨p⟩⟩) (.string ⟨⟨q⟩⟩)).run P w = .ok (p == q) w := by
  simp only [Op.equalIn, Sem.run_bind, run_underlying hu, Result.andThen_ok]
  rw [← beq_bytes]; rfl

/-! ### Texts out of bytes -/

def bytesI (xs : List Int) : List UInt8 := xs.map fun n => UInt8.ofNat n.toNat
def intsB (s : List UInt8) : List Int := s.map fun b => (b.toNat : Int)

def cvOf (tb : List (Nat × TI)) (G : List (Nat × List D)) (S : List (Nat × SV)) : Op → Option (Nat × Nat × List (List D) × List Prop)
  | .convert src dst x =>
    match get tb src, get tb dst, o1 G S x with
    | some ⟨_, _, _, _, _, some z, _⟩, some ⟨_, _, _, _, _, _, 2⟩, some (.v d, l) => match asSl z d with | some es => some (src, dst, es, l) | none => none
    | _, _, _ => none
  | _ => none

structure ByOk (P : Program) (src : Nat) : Prop where
  e : ∃ e, P.underlying src = some (.slice e) ∧ P.underlying e = some (.int .u8)

theorem q_b2s (hP : TblOk P tb) {o : Oper} {sl ns : List Nat} {src dst : Nat} {xs : List Int} {l : List Prop} (hB : ByOk P src) (h : cvOf tb B.G (pickL st.S sl) o.op = some (src, dst, xs.map (fun x => [D.int .u8 x]), l)) (hl : vcs l) : QOk P B n o sl ns st (.v (.str (bytesI xs))) := by
  intro st' a ρ w L hag hs
  have hS : ∀ t x, get (pickL st.S sl) t = some x → get st'.S t = some x := fun t x ht => by obtain ⟨h1, h2⟩ := pickL_some ht; rw [hag.S t h1]; exact h2
  unfold cvOf at h
  split at h
  · rename_i src' dst' x hop
    split at h
    · rename_i z so1 _ _ _ _ _ _ d l1 hT1 hT2 h1
      split at h
      · rename_i es hes
        cases h
        have e1 := o1_sound hs hS h1 hl
        simp only [VRep] at e1
        have e1 := asSl_sound hes e1
        simp only [Rep] at e1
        obtain ⟨base, cap, e1, e2, e3, e4⟩ := e1
        obtain ⟨e, he1, he2⟩ := hB.e
        have hd : P.underlying dst = some .string := by
          obtain ⟨dd, _, hd, _, _, _, _, h5⟩ := (hP.get hT2).under_run w
          cases dd <;> simp [sortD] at h5
          exact hd
        refine ⟨.string ⟨⟨bytesI xs⟩⟩, ?_, by simp only [VRep, Rep]⟩
        simp only [execOp, hop, e1, Sem.run_bind]
        cases hb : base with
        | none =>
          have hx := e3 hb
          have hx : xs = [] := by simpa using hx
          subst hx
          rw [run_convert_bytes_nil w src e he1 he2 _ _ dst hd]; rfl
        | some ad =>
          by_cases hne : xs = []
          · subst hne
            rw [run_convert_bytes_string w src dst e _ _ _ he1 he2 hd]
            have hld := run_loadCells_list (P := P) w ad [] (fun j v hj => by simp at hj)
            simp at hld
            simp [Conv.bytesToString, hld, bytesI]
            rfl
          obtain ⟨h5, h6, h7, h8⟩ := e4 ad hb (by simpa using hne)
          obtain ⟨b, o', q⟩ := ad
          simp only at h5; subst h5
          have hz : xs.length ≠ 0 → z = 1 := fun hne => by
            have hlt : 0 < xs.length := by omega
            obtain ⟨cs, g1, g2, _⟩ := h8.get (i := 0) (e := [D.int .u8 xs[0]]) (by simp [hlt])
            have := g1.length; simp at this; omega
          rw [run_convert_bytes_arg w src e he1 he2 b o' _ cap xs (by simp) (fun i hi => ?_) dst hd]
          · rfl
          · have hi : i < xs.length := by simpa using hi
            have hz1 := hz (by omega)
            subst hz1
            obtain ⟨cs, g1, g2, g3⟩ := h8.get (i := i) (e := [D.int .u8 xs[i]]) (by simp [hi])
            simp only [Reps, Rep] at g1
            obtain ⟨v, r, rfl, rfl, rfl⟩ := g1
            have := g3 0 _ rfl
            simp only [Nat.mul_one, Nat.add_zero] at this
            rw [this]; simp [List.getD_eq_getElem?_getD, hi]
      · cases h
    · cases h
  · cases h

/-! ### Functions that the model stands in for -/

theorem q_fun {o : Oper} {sl ns : List Nat} {f : Nat} {xs : List Operand} {ats : Array TypeId} {ys : List SV} {l : List Prop} {x : SV} (hop : o.op = .call ⟨.value (.func f), xs.toArray, ats⟩) (hys : o1s B.G (pickL st.S sl) xs = some (ys, l)) (hl : vcs l)
    (hr : ∀ N ρ w X vals, VReps N ρ w X ys vals → ∃ v, (callFunc f vals.toArray).run P w = .ok (.value v) w ∧ VRep N ρ w X x v) : QOk P B n o sl ns st x := by
  intro st' a ρ w L hag hs
  have hS : ∀ t x, get (pickL st.S sl) t = some x → get st'.S t = some x := fun t x ht => by obtain ⟨h1, h2⟩ := pickL_some ht; rw [hag.S t h1]; exact h2
  obtain ⟨v, h1, h2⟩ := hr _ ρ w _ _ (o1s_sound hs hS hys hl)
  refine ⟨v, ?_, h2⟩
  unfold execOp
  rw [hop]
  simp only [resolve, Act.eval, Deferred.ofValue, invoke, Sem.run_bind, Sem.run_pure, Result.andThen_ok]
  have hev : (fun x => (match x with | Operand.tmp t => a.tmps.getD t undef | Operand.const v => v | Operand.global g => Value.pointer (some ⟨g, 0, none⟩) | Operand.func f => Value.func (.func f) #[] #[])) = a.eval := by funext x; cases x <;> rfl
  rw [← h1]
  congr 1
  simp

/-! ### Guarded calls that are handed things of the caller's own, and leave them -/

def liveAll : List (Nat × Ob) → Bool
  | [] => true
  | (_, o) :: r => match o.live with | true => liveAll r | false => false
theorem liveAll_get : ∀ {O : List (Nat × Ob)} {k : Nat} {o : Ob}, liveAll O = true → get O k = some o → o.live = true
  | [], k, o, _, h => by simp [get] at h
  | (k', o') :: r, k, o, hl, h => by
    simp only [liveAll] at hl
    split at hl
    · rename_i h1
      by_cases e : k' = k
      · subst e; rw [get_cons_self] at h; cases h; exact h1
      · rw [get_cons_ne _ _ e] at h; exact liveAll_get hl h
    · cases hl

theorem OpOk.gcallO {ops : List Oper} {o : Oper} {f : Nat} {ys : List SV} {l : List Prop} {c : Option Operand} {sl ns ws : List Nat} {args : List SV} {O : List (Nat × Ob)} {r : SV} (π : List (Nat × Nat)) {j : Nat} {want g : Bool} {d : Nat} (hf : HasBody P f) (hg : o.guard = some (j, want)) (ho : o.dst = some d) (hd : inB n d = true)
    (hgc : gcond ops (pickL st.S sl) j want = some g) (hc : callee B.G (pickL st.S sl) o.op = some (f, ys, l, c)) (hl : g = true → vcs l) (con : g = true → Con P B.wg B.G f args O r O) (hargs : ys = rens π args) (hw : wfBs O args = true) (hO : subO π (pickL st.O ns) O) (hwO : wfAllO O O = true) (hinj : injB π O = true) (hcov : covB π π O O = true)
    (hiN : injN π O = true) (hlive : liveAll O = true) : OpOk P B n ops Q o ⟨sl, ns, ws, []⟩ st ⟨[(d, .g g (ren π r))], []⟩ := by
  intro st' a ρ w L K hag hs hK
  unfold wpO
  have hS : ∀ t x, get (pickL st.S sl) t = some x → get st'.S t = some x := fun t x ht => by obtain ⟨h1, h2⟩ := pickL_some ht; rw [hag.S t h1]; exact h2
  have hwd : Region.wanted o (yielded ops.toArray a.tmps) = g := by simp only [Region.wanted, hg]; exact gcond_sound hs hS hgc
  rw [hwd]
  cases g with
  | true =>
    rw [if_pos rfl]
    obtain ⟨vals, h1, h2⟩ := callee_sound hs hS hc (hl rfl) hf
    rw [hargs] at h2
    have hO' : subO π st'.O O := subO_mono (fun k o' hk => by obtain ⟨h1, h2⟩ := pickL_some hk; rw [hag.O k h1]; exact h2) hO
    simp only [Oper.wp, h1, Oper.upon]
    refine call_core hs (π := π) (π' := π) (d := some d) (con rfl) (fun d' e => by cases e; exact hd) h2 hw hO' hwO hinj hcov (fun k hk => .inl hk) hiN (K := K) (fun v a' ρ' w' L' _ s' => hK a' w' ⟨ρ', L', ?_⟩) (fun v w' h => by rw [ho]; exact h)
    have s2 : Sat B n ⟨(d, ren π r) :: st'.S, st'.O⟩ ρ' a' w' L' := s'.congr (fun t => rfl) (fun t => by
      show get st'.O t = get (outO π O ++ st'.O) t
      rcases get_out (π := π) (j := t) (R := st'.O) (O := O) with h | h
      · rw [h]
        cases hi : invO π t O with
        | none => rfl
        | some k =>
          obtain ⟨e1, e2⟩ := invO_some hi
          cases hk : get O k with
          | none => simp [nmO, hk] at e2
          | some ob => simp only [hk, Option.map_some]; rw [← e1]; exact subO_live hO' hk (liveAll_get hlive hk)
      · rw [hiN] at h; cases h)
    refine s2.go (Step.refl _ _) (fun b hb => s2.low b (.inr hb)) (fun _ h => ⟨h, rfl⟩) s2.size s2.defers (fun t y hy => ?_) s2.obj s2.inj
    change get ((d, SV.g true (ren π r)) :: st'.S) t = some y at hy
    by_cases e : d = t
    · subst e
      rw [get_cons_self] at hy; cases hy
      obtain ⟨v, h3, h4⟩ := s2.slot d _ (get_cons_self _ _ _)
      exact ⟨v, h3, by simp only [VRep]; exact ⟨fun _ => h4, (fun h => by cases h)⟩⟩
    · rw [get_cons_ne _ _ e] at hy
      exact s2.slot t y (by rw [get_cons_ne _ _ e]; exact hy)
  | false =>
    rw [if_neg (by simp), ho]
    exact hK _ _ ⟨ρ, L, sat_put hs (x := .g false (ren π r)) hd (by simp only [VRep]; exact ⟨(fun h => by cases h), fun _ => trivial⟩)⟩

theorem WL.gcallO {ops rest : List Oper} {o : Oper} {f : Nat} {ys : List SV} {l : List Prop} {c : Option Operand} {args : List SV} {O : List (Nat × Ob)} {r : SV} (π : List (Nat × Nat)) (ns : List Nat) {j : Nat} {want g : Bool} {d : Nat} (hf : HasBody P f) (hg : o.guard = some (j, want)) (ho : o.dst = some d) (hd : inB n d = true)
    (hgc : gcond ops (pickL st.S (rd ops o)) j want = some g) (hc : callee B.G (pickL st.S (rd ops o)) o.op = some (f, ys, l, c)) (hl : g = true → vcs l) (con : g = true → Con P B.wg B.G f args O r O) (hargs : ys = rens π args) (hw : wfBs O args = true) (hO : subO π (pickL st.O ns) O) (hwO : wfAllO O O = true) (hinj : injB π O = true) (hcov : covB π π O O = true)
    (hiN : injN π O = true) (hlive : liveAll O = true) (h : WL P B n ⟨(d, .g g (ren π r)) :: st.S, st.O⟩ ops Q rest) : WL P B n st ops Q (o :: rest) :=
  WL.op (OpOk.gcallO (ws := []) π hf hg ho hd hgc hc hl con hargs hw hO hwO hinj hcov hiN hlive) h
theorem WR.gcallO {ops rest : List Oper} {o : Oper} {done : List Key} {f : Nat} {ys : List SV} {l : List Prop} {c : Option Operand} {args : List SV} {O : List (Nat × Ob)} {r : SV} (π : List (Nat × Nat)) (ns : List Nat) {j : Nat} {want g : Bool} {d : Nat} (hf : HasBody P f) (hg : o.guard = some (j, want)) (ho : o.dst = some d) (hd : inB n d = true)
    (hgc : gcond ops (pickL st.S (rd ops o)) j want = some g) (hc : callee B.G (pickL st.S (rd ops o)) o.op = some (f, ys, l, c)) (hl : g = true → vcs l) (con : g = true → Con P B.wg B.G f args O r O) (hargs : ys = rens π args) (hw : wfBs O args = true) (hO : subO π (pickL st.O ns) O) (hwO : wfAllO O O = true) (hinj : injB π O = true) (hcov : covB π π O O = true)
    (hiN : injN π O = true) (hlive : liveAll O = true) (h : WR P B n ⟨(d, .g g (ren π r)) :: st.S, st.O⟩ ops Q (done ++ [⟨rd ops o, ns, [d], []⟩]) rest) : WR P B n st ops Q done (o :: rest) :=
  WR.op (wn := []) (d := ⟨[(d, .g g (ren π r))], []⟩) (OpOk.gcallO π hf hg ho hd hgc hc hl con hargs hw hO hwO hinj hcov hiN hlive) rfl rfl h

end Go.V
