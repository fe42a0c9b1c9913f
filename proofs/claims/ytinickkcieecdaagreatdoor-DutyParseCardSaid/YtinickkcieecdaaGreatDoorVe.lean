/- The engine: operations that make and write; runs of operations. No program in sight. -/
import Derived.Test.YtinickkcieecdaaGreatDoorVd
set_option linter.unusedVariables false
namespace Go.V
open Go.RowKit

variable {P : Program} {n : Nat} {B : Base} {st : St} {ρ : Nat → Value} {a : Act} {w : World} {L : Nat → Prop} {tb : List (Nat × TI)} {S : List (Nat × SV)} {O : List (Nat × Ob)}

/-- w' is w but for block b, which holds these cells. -/
structure Wrote (w w' : World) (b : Nat) (cs : List Value) (ty : Nat) : Prop where
  os : w'.os = w.os
  tape : w'.tape = w.tape
  output : w'.output = w.output
  size : w'.heap.size = w.heap.size
  here : w'.heap[b]? = some (.cells cs.toArray ty (0, 0))
  other : ∀ k, k ≠ b → w'.heap[k]? = w.heap[k]?

theorem wrote_setCell {b ty : Nat} {cs : List Value} (h : w.heap[b]? = some (.cells cs.toArray ty (0, 0))) (o : Nat) (v : Value) : Wrote w (w.setCell ⟨b, o, none⟩ v) b (cs.set o v) ty := by
  refine ⟨rfl, rfl, rfl, by simp [World.setCell], ?_, fun k hk => ?_⟩
  · simp only [World.setCell, Array.getElem?_modify, if_true, h, Option.map_some]
    simp
  · simp only [World.setCell, Array.getElem?_modify]
    rw [if_neg (by omega)]

def allCell : List Value → Bool
  | [] => true
  | v :: r => match isCell v with | true => allCell r | false => false

theorem run_storeCells {b ty : Nat} : ∀ (vs : List Value) (w : World) (o i : Nat) (cs : List Value), w.heap[b]? = some (.cells cs.toArray ty (0, 0)) → o + i + vs.length ≤ cs.length → allCell vs = true →
    ∃ w', (storeCells ⟨b, o, none⟩ vs i).run P w = .ok () w' ∧ Wrote w w' b (splice cs (o + i) vs) ty
  | [], w, o, i, cs, h, _, _ => ⟨w, rfl, ⟨rfl, rfl, rfl, rfl, h, fun _ _ => rfl⟩⟩
  | v :: vs, w, o, i, cs, h, hl, hc => by
    simp only [allCell] at hc
    split at hc
    · rename_i hc1
      have hcell : w.cell? ⟨b, o + i, none⟩ = cs[o + i]? := by simp [World.cell?, h]
      have hlt : o + i < cs.length := by simp at hl; omega
      have hfr : w.frozen? ⟨b, o + i, none⟩ = false := by simp [World.frozen?, h]
      have hw1 := wrote_setCell h (o + i) v
      obtain ⟨w', hr, hw2⟩ := run_storeCells vs (w.setCell ⟨b, o + i, none⟩ v) o (i + 1) (cs.set (o + i) v) hw1.here (by simp at hl ⊢; omega) hc
      refine ⟨w', ?_, ?_⟩
      · have hst : (store ⟨b, o + i, none⟩ v).run P w = .ok () (w.setCell ⟨b, o + i, none⟩ v) := by
          have e : w.cell? ⟨b, o + i, none⟩ = some cs[o + i] := by rw [hcell, List.getElem?_eq_getElem hlt]
          cases v <;> simp [isCell] at hc1 <;> simp [store, Sem.run, e, hfr]
        simp only [storeCells, Sem.run_bind, Addr.add_lit, hst, Result.andThen_ok, hr]
      · refine ⟨hw2.os.trans hw1.os, hw2.tape.trans hw1.tape, hw2.output.trans hw1.output, hw2.size.trans hw1.size, ?_, fun k hk => (hw2.other k hk).trans (hw1.other k hk)⟩
        have := hw2.here
        simpa [splice, Nat.add_assoc] using this
    · cases hc

theorem Wrote.but {w' : World} {b ty : Nat} {cs : List Value} (h : Wrote w w' b cs ty) : But w w' b := ⟨h.os, h.tape, h.output, by rw [h.size]; exact Nat.le_refl _, fun k _ hk => h.other k hk⟩

theorem allCell_of {N : Nat → Prop} {X : Nat → Prop} (hN : ∀ k, N k → isCell (ρ k) = true) : ∀ {xs : List SV} {us : List Value}, VReps N ρ w X xs us → cellSs xs = true → allCell us = true
  | [], us, h, _ => by simp only [VReps] at h; subst h; rfl
  | x :: xs, us, h, hc => by
    simp only [VReps] at h
    obtain ⟨v, r, rfl, h2, h3⟩ := h
    simp only [cellSs] at hc
    split at hc
    · rename_i h4
      simp only [allCell, cell_of_vrep h2 h4 hN]
      exact allCell_of hN h3 hc
    · cases hc

theorem newVar_run (T : Nat) (v : Value) (w : World) : (newVar T v).run P w = .ok ⟨w.heap.size, 0, none⟩ { w with heap := w.heap.push (.cells v.cells T (0, 0)) } := rfl

theorem below_push (w : World) (o : Obj) : Below w.heap.size w { w with heap := w.heap.push o } :=
  ⟨rfl, rfl, rfl, by simp, fun k hk => by simp only [Array.getElem?_push]; rw [if_neg (by omega)]⟩

/-- A new block under the name d. -/
theorem sat_blk (hs : Sat B n st ρ a w L) {d T : Nat} {cs : List SV} {us : List Value} (hd : inB n d = true) (hfr : get st.O d = none) (hr : VReps (nmO st.O) ρ w (un B.F L) cs us) :
    ∃ ρ' L', Sat B n ⟨(d, .p d 0) :: st.S, (d, .blk T cs) :: st.O⟩ ρ' (a.put (some d) (.pointer (some ⟨w.heap.size, 0, none⟩))) { w with heap := w.heap.push (.cells us.toArray T (0, 0)) } L' := by
  refine ⟨_, _, sat_new hs (d := d) (v := .pointer (some ⟨w.heap.size, 0, none⟩)) hd hfr (below_push w _) (fun b hb => by simp only [ob, Option.some.injEq] at hb; subst hb; simp) ?_ (fun X hX hk => ?_)⟩
  · simp only [VRep]
    exact ⟨nmO_self, _, upd_self, rfl⟩
  · refine ⟨w.heap.size, us, rfl, by simp, .inr rfl, VReps.keep (fun k h => ⟨nmO_cons h, upd_ne (nmO_ne h hfr)⟩) hk cs us hr⟩

theorem nth_flat {sz : Nat} : ∀ {rows : List (List Value)} (i : Nat) (r : List Value) (j : Nat) (x : Value), (∀ r, r ∈ rows → r.length = sz) → rows[i]? = some r → r[j]? = some x → rows.flatten[i * sz + j]? = some x
  | [], i, r, j, x, _, h, _ => by simp at h
  | r0 :: rows, 0, r, j, x, hl, h, hx => by
    simp at h; subst h
    have := (List.getElem?_eq_some_iff.1 hx).1
    simp only [List.flatten_cons, Nat.zero_mul, Nat.zero_add]
    rw [List.getElem?_append_left this]; exact hx
  | r0 :: rows, i + 1, r, j, x, hl, h, hx => by
    simp at h
    have h0 := hl r0 (by simp)
    simp only [List.flatten_cons]
    rw [List.getElem?_append_right (by rw [h0, Nat.succ_mul]; omega)]
    have := nth_flat i r j x (fun r hr => hl r (by simp [hr])) h hx
    rw [h0, show (i + 1) * sz + j - sz = i * sz + j by rw [Nat.succ_mul]; omega]; exact this

theorem flat_length {sz : Nat} : ∀ {rows : List (List Value)}, (∀ r, r ∈ rows → r.length = sz) → rows.flatten.length = rows.length * sz
  | [], _ => by simp
  | r0 :: rows, hl => by
    simp only [List.flatten_cons, List.length_append, hl r0 (by simp), flat_length (rows := rows) (fun r hr => hl r (by simp [hr])), List.length_cons, Nat.succ_mul]; omega

theorem splice_mid : ∀ (vs a b : List Value), vs.length ≤ b.length → splice (a ++ b) a.length vs = a ++ vs ++ b.drop vs.length
  | [], a, b, _ => by simp [splice]
  | v :: vs, a, [], h => by simp at h
  | v :: vs, a, x :: b, h => by
    simp only [splice]
    have e1 : (a ++ x :: b).set a.length v = (a ++ [v]) ++ b := by simp
    have := splice_mid vs (a ++ [v]) b (by simpa using h)
    rw [e1]
    simpa using this

theorem rowsOf_sound (hs : Sat B n st ρ a w L) (hS : ∀ t x, get S t = some x → get st.S t = some x) {sz : Nat} : ∀ {parts : List (Nat × Operand)} {i : Nat} {rows : List (List D)} {l : List Prop}, rowsOf sz B.G S i parts = some (rows, l) → vcs l →
    ∃ us : List (List Value), RepRows w (un B.F L) rows us ∧ (∀ r, r ∈ us → r.length = sz) ∧ rows.length = parts.length ∧
      ∀ {done rest : List Value}, done.length = i * sz → rest.length = parts.length * sz → Instr.fill (fun i => some (i * sz, sz)) (done ++ rest).toArray (parts.map fun p => (p.1, a.eval p.2)) = some (done ++ us.flatten).toArray
  | [], i, rows, l, h, _ => by
    simp only [rowsOf] at h; cases h
    refine ⟨[], by simp [RepRows], by simp, rfl, fun {done rest} hd hr => ?_⟩
    have : rest = [] := List.eq_nil_of_length_eq_zero (by simpa using hr)
    subst this
    rfl
  | (j, x) :: r, i, rows, l, h, hv => by
    simp only [rowsOf] at h
    split at h
    · rename_i d l1 hij h1
      split at h
      · rename_i cs hcs
        split at h
        · rename_i rs m hl h3
          rw [forceL_eq] at h
          cases h
          obtain ⟨v1, v2⟩ := vcs_append hv
          have e1 := o1_sound hs hS h1 v1
          simp only [VRep] at e1
          have hcell := cellsOfD_sound hcs e1
          have hl := Nat.eq_of_beq_eq_true hl
          have hij := Nat.eq_of_beq_eq_true hij
          subst hij
          obtain ⟨us, k1, k2, k3, k4⟩ := rowsOf_sound hs hS h3 v2
          have hlc : (a.eval x).cells.toList.length = sz := by rw [hcell.length, hl]
          refine ⟨(a.eval x).cells.toList :: us, by simp only [RepRows]; exact ⟨_, _, rfl, hcell, k1⟩, fun r hr' => ?_, by simp [k3], fun {done rest} hd hr => ?_⟩
          · rcases List.mem_cons.1 hr' with rfl | hr'
            · exact hlc
            · exact k2 r hr'
          · have hlen : (a.eval x).cells.toList.length ≤ rest.length := by rw [hlc, hr]; simp only [List.length_cons, Nat.succ_mul]; omega
            have k5 := k4 (done := done ++ (a.eval x).cells.toList) (rest := rest.drop (a.eval x).cells.toList.length) (by simp only [List.length_append, hd, hlc, Nat.succ_mul]) (by simp only [List.length_drop, hr, hlc, List.length_cons, Nat.succ_mul]; omega)
            simp only [List.map_cons, Instr.fill]
            have hc : (a.eval x).cells.size = sz := by rw [← Array.length_toList]; exact hlc
            rw [if_neg (by simp [hc, hd, hr, Nat.succ_mul] <;> omega)]
            have hf := foldl_splice (i * sz) (a.eval x).cells.toList 0 (done ++ rest).toArray
            simp only [Nat.add_zero] at hf
            rw [← hd, splice_mid _ _ _ hlen] at hf
            have e : ((a.eval x).cells.zipIdx.foldl (fun cs x => cs.setIfInBounds (i * sz + x.2) x.1) (done ++ rest).toArray) = ((done ++ (a.eval x).cells.toList) ++ rest.drop (a.eval x).cells.toList.length).toArray := by
              apply Array.ext'
              rw [← hf, ← Array.foldl_toList, Array.toList_zipIdx, hd]
            simp only [List.flatten_cons]
            rw [← List.append_assoc, ← k5]
            congr 1
        · cases h
      · cases h
    · cases h

theorem run_buildSlice (hP : TblOk P tb) {T so sz len : Nat} {z0 : Nat} {z1 : Value} {z2 : Bool} {z3 : List (Nat × Nat)} {z4 : Option IntKind} (hT : get tb T = some ⟨z0, z1, z2, z3, z4, some sz, so⟩) {ti : TI} (hE : get tb (so - 4) = some ti) {parts : List (Nat × Value)} {cs : List Value}
    (hb : len * sz ≤ 16777216) (hlen : parts.length = len) (h : ∀ rest : List Value, rest.length = len * sz → Instr.fill (fun i => some (i * sz, sz)) rest.toArray parts = some cs.toArray) (w : World) :
    (Instr.buildSlice T len parts.toArray).run P w = .ok (.slice (some ⟨w.heap.size, 0, none⟩) len len) { w with heap := w.heap.push (.cells cs.toArray (so - 4) (0, 0)) } := by
  have hd := (hP.get hT).desc
  cases hu : P.underlying T with
  | none => rw [hu] at hd; cases hd
  | some d =>
    rw [hu] at hd
    simp only [Option.map_some, Option.some.injEq, Prod.mk.injEq] at hd
    obtain ⟨_, _, _, hel, hso⟩ := hd
    cases d with
    | slice e =>
      simp only [elD] at hel
      simp only [sortD] at hso
      have he : e = so - 4 := by rw [← hso]; exact (Nat.add_sub_cancel (n := e) (m := 4)).symm
      subst he
      have hsz := (hP.get hE).size_run w
      have hinfo : ti.size = sz := by
        have := (hP.get hE).info
        cases hi : P.info? (so - 4) with
        | none => rw [hi] at hel; cases hel
        | some i => rw [hi] at hel this; simp at hel this; omega
      rw [hinfo] at hsz
      have hrun : (underlying T).run P w = .ok (.slice (so - 4)) w := run_underlying hu w
      unfold Instr.buildSlice
      simp only [Sem.run_bind, hrun, Result.andThen_ok, hsz]
      rw [if_neg (by omega)]
      by_cases hz : len * sz = 0
      · simp only [hz, if_true, Sem.run_pure, Result.andThen_ok, Sem.run_bind]
        have := h ((Array.range 0).map fun x => (#[] : Array Value)[x % (#[] : Array Value).size]!).toList (by simp [hz])
        simp only [Array.toArray_toList] at this
        rw [this]; rfl
      · rw [if_neg hz]
        simp only [Sem.run_bind, (hP.get hE).zero_run, Result.andThen_ok, Sem.run_pure]
        have := h ((Array.range (len * sz)).map fun x => ti.zero.cells[x % ti.zero.cells.size]!).toList (by simp)
        simp only [Array.toArray_toList] at this
        rw [this]; rfl
    | _ => simp [elD] at hel

theorem rep_rows {X X' : Nat → Prop} {w' : World} (k : Keep w X w' X') {sz b : Nat} {es : List (List D)} {us : List (List Value)} (h : RepRows w X es us) (hl : ∀ r, r ∈ us → r.length = sz) (hc : CellsAt w' us.flatten b 0) : RowsAt w' X' sz es b 0 :=
  RowsAt.mk fun i e hi => by
    obtain ⟨r, h1, h2⟩ := h.get hi
    refine ⟨r, Reps.keep k e r h2, hl r (List.mem_of_getElem? h1), fun j x hx => ?_⟩
    have := hc (i * sz + j) x (nth_flat i r j x hl h1 hx)
    rwa [Nat.zero_add] at this ⊢

/-- An operation's own wp, wanted or not. -/
def wpO (P : Program) (ops : List Oper) (Q : Exit → Act → World → Prop) (o : Oper) (K : Act → World → Prop) (a : Act) (w : World) : Prop :=
  if Region.wanted o (yielded ops.toArray a.tmps) then o.wp P a w K Q else K (a.put o.dst undef) w

theorem wpO_value {ops : List Oper} {Q : Exit → Act → World → Prop} {o : Oper} {K : Act → World → Prop} {v : Value} {w' : World} (hg : o.guard = none) (h : (execOp a.eval o).run P w = .ok (.value v) w') (hk : K (a.put o.dst v) w') : wpO P ops Q o K a w := by
  unfold wpO
  rw [if_pos (by simp [Region.wanted, hg])]
  simp only [Oper.wp, h, Oper.upon]
  exact hk
theorem wpO_skip {ops : List Oper} {Q : Exit → Act → World → Prop} {o : Oper} {K : Act → World → Prop} {w' : World} (hg : o.guard = none) (h : (execOp a.eval o).run P w = .ok .skip w') (hk : K (a.put o.dst undef) w') : wpO P ops Q o K a w := by
  unfold wpO
  rw [if_pos (by simp [Region.wanted, hg])]
  simp only [Oper.wp, h, Oper.upon]
  exact hk

theorem d1_core (hP : TblOk P tb) (hs : Sat B n st ρ a w L) (hS : ∀ t x, get S t = some x → get st.S t = some x) (hO : ∀ k o, get O k = some o → get st.O k = some o) {ops : List Oper} {o : Oper} {s : Option (Nat × SV)} {oo : Option (Nat × Ob)} {wn : List Nat} {l : List Prop}
    (h : d1 tb B.G n ops o S O = .yes s oo wn l) (hv : vcs l) {Q : Exit → Act → World → Prop} {K : Act → World → Prop} (hK : ∀ a' ρ' w' L', Sat B n ⟨optC s st.S, optC oo st.O⟩ ρ' a' w' L' → K a' w') : wpO P ops Q o K a w := by
  unfold d1 at h
  split at h
  · rename_i d op ty pos after guard
    split at h
    · rename_i x l hd hr
      cases h
      obtain ⟨v, h1, h2⟩ := ev_sound hP hs hS hO ⟨some d, op, ty, pos, after, none⟩ hr hv
      exact wpO_value rfl h1 (hK _ _ _ _ (sat_put hs hd h2))
    · rename_i x l j want hd hr
      split at h
      · rename_i c hc
        cases h
        have hw := gcond_sound hs hS hc
        have hwd : Region.wanted ⟨some d, op, ty, pos, after, some (j, want)⟩ (yielded ops.toArray a.tmps) = c := hw
        unfold wpO
        rw [hwd]
        cases c with
        | true =>
          obtain ⟨v, h1, h2⟩ := ev_sound hP hs hS hO ⟨some d, op, ty, pos, after, some (j, want)⟩ hr (vcs_gvc hv rfl)
          rw [if_pos rfl]
          simp only [Oper.wp, h1, Oper.upon]
          exact hK _ _ _ _ (sat_put hs (x := .g true x) hd (by simp only [VRep]; exact ⟨fun _ => h2, (fun h => by cases h)⟩))
        | false =>
          rw [if_neg (by simp)]
          exact hK _ _ _ _ (sat_put hs (x := .g false x) hd (by simp only [VRep]; exact ⟨(fun h => by cases h), fun _ => trivial⟩))
      · cases h
    · cases h
  · cases h

theorem dW_core (hP : TblOk P tb) (hs : Sat B n st ρ a w L) (hS : ∀ t x, get S t = some x → get st.S t = some x) (hO : ∀ k o, get O k = some o → get st.O k = some o) {ops : List Oper} {o : Oper} {s : Option (Nat × SV)} {oo : Option (Nat × Ob)} {wn : List Nat} {l : List Prop}
    (h : dW tb B.G n o S O = .yes s oo wn l) (hv : vcs l) (hfr : ∀ k, k ∈ wn → get O k = none → get st.O k = none) {Q : Exit → Act → World → Prop} {K : Act → World → Prop} (hK : ∀ a' ρ' w' L', Sat B n ⟨optC s st.S, optC oo st.O⟩ ρ' a' w' L' → K a' w') : wpO P ops Q o K a w := by
  unfold dW at h
  split at h
  · rename_i d T ty pos after
    split at h
    · rename_i sz zero _ _ _ _ _ hd hT hf
      split at h
      · rename_i cs hcs
        rw [forceL_eq] at h
        cases h
        have hr := cellsOfS_sound hs.cellN hcs (show VRep (nmO st.O) ρ w (un B.F L) (.v (ofV zero)) zero by simp only [VRep]; exact ofV_rep _)
        obtain ⟨ρ', L', h1⟩ := sat_blk hs (T := T) hd (hfr d (by simp) hf) hr
        refine wpO_value rfl ?_ (hK _ _ _ _ h1)
        simp only [execOp, Instr.alloc, Sem.run_bind, (hP.get hT).zero_run, Result.andThen_ok, newVar_run, Sem.run_pure]
      · cases h
    · cases h
  · rename_i d T x ty pos after
    split at h
    · rename_i y l hd h1 hf
      split at h
      · rename_i cs hcs
        rw [forceL_eq] at h
        cases h
        have e1 := o1_sound hs hS h1 hv
        have hr := cellsOfS_sound hs.cellN hcs e1
        obtain ⟨ρ', L', h2⟩ := sat_blk hs (T := T) hd (hfr d (by simp) hf) hr
        refine wpO_value rfl ?_ (hK _ _ _ _ h2)
        simp only [execOp, Instr.box, Sem.run_bind, newVar_run, Result.andThen_ok, Sem.run_pure]
      · cases h
    · cases h
  · rename_i T ad x ty pos after
    split at h
    · rename_i size zero agg offs ik el so k off l y m hT h1 h2
      split at h
      · rename_i vc ty' cs h3 h4
        split at h
        · rename_i c1 c2 c3
          rw [forceL_eq] at h
          cases h
          obtain ⟨v1, v2⟩ := vcs_append hv
          have e1 := o1_sound hs hS h1 v1
          have e2 := o1_sound hs hS h2 v2
          simp only [VRep] at e1
          obtain ⟨_, b, e3, e4⟩ := e1
          have hk := hO k _ h4
          obtain ⟨b', us, e5, hb, hL, hr⟩ := hs.obj k _ hk
          rw [e5] at e3; cases e3
          have hcell := cellsOfS_sound hs.cellN h3 e2
          have hlen := hcell.length
          have hlen2 := hr.length
          have c1 := Nat.eq_of_beq_eq_true c1
          have c2 := Nat.le_of_ble_eq_true c2
          obtain ⟨w', hrun, hw⟩ := run_storeCells (P := P) (a.eval x).cells.toList w off 0 us hb (by omega) (allCell_of hs.cellN hcell c3)
          have hstep : Step L w L w' := ⟨hw.os, hw.tape, hw.output, by rw [hw.size]; exact Nat.le_refl _, fun c h1 h2 => hw.other c (fun e => h2 (e ▸ hL)), fun _ h => .inl h⟩
          have hs' := sat_but hs (o' := .blk ty' (splice cs off vc)) hk rfl (by rw [e5]; rfl) hw.but ⟨b, _, e5, by rw [hw.here, Nat.add_zero], hL, VReps.keep (fun k h => ⟨nmO_cons h, rfl⟩) (keep_of_step hstep) _ _ (VReps.splice off hr hcell)⟩
          refine wpO_skip rfl ?_ (hK _ _ _ _ (by simpa [Act.put, optC] using hs'))
          rw [Array.length_toList] at hlen
          have hsz : (a.eval x).cells.size = size := by omega
          simp only [execOp, e4, Instr.storeAt, Instr.sureAddr, storeVar, Sem.run_bind, Sem.run_pure, Result.andThen_ok, (hP.get hT).size_run, hsz, ne_eq, not_true, if_false, hrun]
        · cases h
      · cases h
    · cases h
  · rename_i d T len parts ty pos after
    split at h
    · rename_i z0 z1 z2 z3 z4 sz so hd hT
      split at h
      · rename_i ti rows l hE hrows hlen hb
        rw [forceL_eq] at h
        cases h
        have hlen := Nat.eq_of_beq_eq_true hlen
        have hb := Nat.le_of_ble_eq_true hb
        obtain ⟨us, k1, k2, k3, k4⟩ := rowsOf_sound hs hS hrows hv
        have hrun := run_buildSlice (parts := parts.map fun p => (p.1, a.eval p.2)) (cs := us.flatten) hP hT hE hb (by simp [hlen]) (fun rest hr => by
          have := k4 (done := []) (rest := rest) (by simp) (by rw [hr, hlen])
          simpa using this) w
        have hbel := below_push w (.cells us.flatten.toArray (so - 4) (0, 0))
        have h1 := hs.below hbel
        have h2 := sat_put h1 (d := d) (x := .v (.sl sz rows)) (v := .slice (some ⟨w.heap.size, 0, none⟩) len len) hd (by
          simp only [VRep, Rep]
          refine ⟨some ⟨w.heap.size, 0, none⟩, len, by rw [k3, hlen], by rw [k3, hlen]; exact Nat.le_refl _, (fun h => by cases h), fun ad had _ => ?_⟩
          cases had
          refine ⟨rfl, by simp, fun hx => Nat.lt_irrefl _ (hs.low _ hx), rep_rows (keep_of_step (step_of_below hbel)) k1 k2 (fun j x hx => ?_)⟩
          simp only [World.cell?, Array.getElem?_push_size, Nat.zero_add]
          simpa using hx)
        refine wpO_value rfl ?_ (hK _ _ _ _ h2)
        simp only [execOp, List.map_toArray, hrun, Sem.run_bind, Result.andThen_ok, Sem.run_pure]
      · cases h
    · cases h
  · cases h

/-- One operation: quiet, or not. -/
def dA (tb : List (Nat × TI)) (G : List (Nat × List D)) (n : Nat) (ops : List Oper) (o : Oper) (S : List (Nat × SV)) (O : List (Nat × Ob)) : R2 :=
  match d1 tb G n ops o S O with
  | .yes s oo wn l => .yes s oo wn l
  | .no => dW tb G n o S O

theorem dA_core (hP : TblOk P tb) (hs : Sat B n st ρ a w L) (hS : ∀ t x, get S t = some x → get st.S t = some x) (hO : ∀ k o, get O k = some o → get st.O k = some o) {ops : List Oper} {o : Oper} {s : Option (Nat × SV)} {oo : Option (Nat × Ob)} {wn : List Nat} {l : List Prop}
    (h : dA tb B.G n ops o S O = .yes s oo wn l) (hv : vcs l) (hfr : ∀ k, k ∈ wn → get O k = none → get st.O k = none) {Q : Exit → Act → World → Prop} {K : Act → World → Prop} (hK : ∀ a' ρ' w' L', Sat B n ⟨optC s st.S, optC oo st.O⟩ ρ' a' w' L' → K a' w') : wpO P ops Q o K a w := by
  unfold dA at h
  split at h
  · rename_i h1; cases h; exact d1_core hP hs hS hO h1 hv hK
  · exact dW_core hP hs hS hO h hv hfr hK

end Go.V
