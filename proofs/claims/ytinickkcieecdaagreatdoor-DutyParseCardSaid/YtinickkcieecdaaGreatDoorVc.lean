/- The engine's evaluator is sound: the operations. No program in sight. -/
import Derived.Test.YtinickkcieecdaaGreatDoorVb
set_option linter.unusedVariables false
namespace Go.V

variable {P : Program} {n : Nat} {B : Base} {st : St} {ρ : Nat → Value} {a : Act} {w : World} {L : Nat → Prop} {tb : List (Nat × TI)} {S : List (Nat × SV)} {O : List (Nat × Ob)}

theorem needs_sound {c : Option Bool} {g t : Bool} (h : vcs (needs c g t)) (hg : g = t) : c = none ∨ c = some true := by
  cases c with
  | none => exact .inl rfl
  | some c' => exact .inr (by have := h hg; rw [this])

theorem foldl_splice (off : Nat) : ∀ (vs : List Value) (k : Nat) (cells : Array Value), ((vs.zipIdx k).foldl (fun (cs : Array Value) (p : Value × Nat) => cs.setIfInBounds (off + p.2) p.1) cells).toList = splice cells.toList (off + k) vs
  | [], k, cells => rfl
  | v :: vs, k, cells => by
    simp only [List.zipIdx_cons, List.foldl_cons, splice]
    rw [foldl_splice off vs (k + 1)]
    simp [Nat.add_assoc]

/-- The fields' places, as the model reads them. -/
theorem allTy_places (hP : TblOk P tb) : ∀ {fs : List Field}, allTy tb (offsD P (.struct fs.toArray)) = true →
    (fs.mapM (fun f => do pure (f.offset, ← sizeOf f.type) : Field → Sem (Nat × Nat))).run P w = .ok (fs.map fun f => (f.offset, P.cellsOf f.type)) w
  | [], _ => by simp
  | f :: fs, h => by
    simp only [offsD, List.map_cons] at h
    simp only [allTy] at h
    split at h
    · rename_i ti hT hne
      have ih := allTy_places (fs := fs) hP (by simpa [offsD] using h)
      have hsz : P.cellsOf f.type ≠ 0 := fun e => by rw [if_pos e] at hne; simp at hne
      rw [if_neg hsz] at hT
      have hsize := (hP.get hT).size_run w
      have hc : ti.size = P.cellsOf f.type := by
        have := (hP.get hT).info
        unfold Program.cellsOf
        cases hi : P.info? f.type with
        | none => rw [hi] at this; cases this
        | some i => rw [hi] at this; simp at this; simp [this.1]
      simp only [List.mapM_cons, Sem.run_bind, hsize, Result.andThen_ok, Sem.run_pure, ih, hc, List.map_cons]
    · cases h

theorem fill_sound (hP : TblOk P tb) (hs : Sat B n st ρ a w L) (hS : ∀ t x, get S t = some x → get st.S t = some x) {fs : List Field} : ∀ {parts : List (Nat × Operand)} {cells cs : List D} {us : List Value} {l : List Prop}, fillS tb B.G S (offsD P (.struct fs.toArray)) cells parts = some (cs, l) → vcs l → Reps w (un B.F L) cells us →
    ∃ us', Instr.fill (fun i => (fs.map fun f => (f.offset, P.cellsOf f.type)).toArray[i]?) us.toArray (parts.map fun p => (p.1, a.eval p.2)) = some us'.toArray ∧ Reps w (un B.F L) cs us'
  | [], cells, cs, us, l, h, _, hr => by simp only [fillS] at h; cases h; exact ⟨us, rfl, hr⟩
  | (i, x) :: r, cells, cs, us, l, h, hv, hr => by
    simp only [fillS] at h
    split at h
    · rename_i fo ft y l1 h1 h2
      split at h
      · rename_i v sz _ _ _ _ _ _ h3 hT hne
        split at h
        · rename_i vc hvc
          split at h
          · rename_i c1 c2
            split at h
            · rename_i cs' m h4
              cases h
              obtain ⟨v1, v2⟩ := vcs_append hv
              have e1 := o1_sound hs hS h2 v1
              cases y <;> simp only [toD] at h3 <;> cases h3
              simp only [VRep] at e1
              have hcell := cellsOfD_sound hvc e1
              obtain ⟨us', ih, ihr⟩ := fill_sound hP hs hS h4 v2 (Reps.splice fo hr hcell)
              refine ⟨us', ?_, ihr⟩
              simp only [offsD, nth_eq, List.getElem?_map] at h1
              cases hf : fs[i]? with
              | none => rw [hf] at h1; cases h1
              | some fd =>
                rw [hf] at h1
                simp only [Option.map_some, Option.some.injEq] at h1
                split at h1
                · cases h1; simp at hne
                · cases h1
                  have hc : sz = P.cellsOf fd.type := by
                    have := (hP.get hT).info
                    unfold Program.cellsOf
                    cases hi : P.info? fd.type with
                    | none => rw [hi] at this; cases this
                    | some i => rw [hi] at this; simp at this; simp [this.1]
                  have c1 := Nat.eq_of_beq_eq_true c1
                  have c2 := Nat.le_of_ble_eq_true c2
                  have hlen := hcell.length
                  have hlen2 := hr.length
                  rw [Array.length_toList] at hlen
                  simp only [List.map_cons, Instr.fill, List.getElem?_toArray, List.getElem?_map, hf, Option.map_some]
                  rw [if_neg (by simp [hlen, c1, hc]; simp [hlen2, ← hc, ← c1]; omega)]
                  rw [← ih]
                  congr 1
                  · funext j; simp
                  apply Array.ext'
                  have := foldl_splice fd.offset (a.eval x).cells.toList 0 us.toArray
                  simp only [Nat.add_zero] at this
                  rw [← this, ← Array.foldl_toList, Array.toList_zipIdx]
            · cases h
          · cases h
        · cases h
      · cases h
    · cases h

theorem ifNil_sound {X : Nat → Prop} {d : D} {v : Value} {b : Bool} (h : ifNil d = some b) (hr : Rep w X d v) : (b = true → v = .nilIface) ∧ (b = false → ∃ t x, v = .iface t x) := by
  unfold ifNil at h
  split at h
  · cases h; simp only [Rep] at hr; exact ⟨fun _ => hr, (fun h => by cases h)⟩
  · cases h; simpa only [Rep] using hr
  · cases h; simp only [Rep] at hr; obtain ⟨z, h1, _⟩ := hr; exact ⟨(fun h => by cases h), fun _ => ⟨_, z, h1⟩⟩
  · cases h

set_option maxHeartbeats 4000000 in
theorem ev_sound (hP : TblOk P tb) (hs : Sat B n st ρ a w L) (hS : ∀ t x, get S t = some x → get st.S t = some x) (hO : ∀ k o, get O k = some o → get st.O k = some o) (o : Oper) {x : SV} {l : List Prop} (h : ev tb B.G S O o.op = some (x, l)) (hv : vcs l) :
    ∃ v, (execOp a.eval o).run P w = .ok (.value v) w ∧ VRep (nmO st.O) ρ w (un B.F L) x v := by
  cases hop : o.op with
  | move x =>
    rw [hop] at h
    simp only [ev] at h
    exact ⟨a.eval x, by simp only [execOp, hop]; rfl, o1_sound hs hS h hv⟩
  | assign x =>
    rw [hop] at h
    simp only [ev] at h
    exact ⟨a.eval x, by simp only [execOp, hop]; rfl, o1_sound hs hS h hv⟩
  | pick c x y =>
    rw [hop] at h
    simp only [ev] at h
    split at h
    · rename_i g l bx ca by_ cb h1 h2 h3
      cases h
      obtain ⟨v1, v2⟩ := vcs_append hv
      obtain ⟨v3, v4⟩ := vcs_append v2
      have e1 := o1_sound hs hS h1 v1
      simp only [VRep, Rep] at e1
      obtain ⟨z2, hz2, d2⟩ := bv_sound (N := nmO st.O) (ρ := ρ) (w := w) (X := un B.F L) h2
      obtain ⟨z3, hz3, d3⟩ := bv_sound (N := nmO st.O) (ρ := ρ) (w := w) (X := un B.F L) h3
      have e2 := opnd_sound hs hS hz2
      have e3 := opnd_sound hs hS hz3
      refine ⟨.bool (bif g then bx else by_), ?_, by simp only [VRep, Rep]⟩
      simp only [execOp, hop, e1, asBool, Sem.run_bind, Sem.run_pure, Result.andThen_ok]
      cases g with
      | true => simp [d2 (needs_sound v3 rfl) _ e2]
      | false => simp [d3 (needs_sound v4 rfl) _ e3]
    · cases h
  | load T x =>
    rw [hop] at h
    simp only [ev] at h
    split at h
    · rename_i size zero agg offs ik el so k off l hT h1
      split at h
      · rename_i ty cs hk
        split at h
        · rename_i y h2
          cases h
          have e1 := o1_sound hs hS h1 hv
          simp only [VRep] at e1
          obtain ⟨_, b, e2, e3⟩ := e1
          obtain ⟨b', us, e4, hb, _, hr⟩ := hs.obj k _ (hO k _ hk)
          rw [e4] at e2; cases e2
          obtain ⟨v, hl, hrep⟩ := run_loadS (hP.get hT) hr (b := b) (fun j z hz => by simp only [World.cell?, hb, Nat.zero_add]; simpa using hz) h2
          refine ⟨v, ?_, hrep⟩
          simp only [execOp, hop, e3, Instr.loadAt, Instr.sureAddr, Sem.run_bind, Sem.run_pure, Result.andThen_ok, hl]
        · cases h
      · cases h
    · rename_i size zero agg offs ik el so cs off l hT h1
      split at h
      · rename_i y h2
        cases h
        have e1 := o1_sound hs hS h1 hv
        simp only [VRep] at e1
        obtain ⟨b, o', us, e2, e3, e4, e5, e6⟩ := e1
        obtain ⟨v, hl, hrep⟩ := run_loadD (hP.get hT) e5 e6 h2
        refine ⟨v, ?_, by simpa only [VRep] using hrep⟩
        simp only [execOp, hop, e2, Instr.loadAt, Instr.sureAddr, Sem.run_bind, Sem.run_pure, Result.andThen_ok, hl]
      · cases h
    · cases h
  | nilCheck x =>
    rw [hop] at h
    simp only [ev] at h
    split at h
    all_goals (try (cases h; done))
    all_goals
      rename_i h1
      cases h
      have e1 := o1_sound hs hS h1 hv
      refine ⟨a.eval x, ?_, e1⟩
    · simp only [VRep] at e1
      obtain ⟨_, b, _, e3⟩ := e1
      simp only [execOp, hop, e3]; rfl
    · simp only [VRep] at e1
      obtain ⟨b, o', us, e3, _⟩ := e1
      simp only [execOp, hop, e3]; rfl
    · simp only [VRep] at e1
      obtain ⟨_, b, m, c, _, e3⟩ := e1
      simp only [execOp, hop, e3]; rfl
    · simp only [VRep] at e1
      obtain ⟨us, e3, _⟩ := e1
      simp only [execOp, hop, e3]; rfl
    · simp only [VRep, Rep] at e1
      obtain ⟨x', e3, _⟩ := e1
      simp only [execOp, hop, e3]; rfl
  | binOp op T x y yT =>
    rw [hop] at h
    simp only [ev] at h
    split at h
    · rename_i p l q m h1 h2
      have hq : ∀ {ti : TI}, get tb T = some ti → ti.sort = 1 → (underlying T).run P w = .ok .bool w := fun {ti} hT hso => by
        obtain ⟨d, hd, _, _, _, _, _, h5⟩ := (hP.get hT).under_run w
        rw [hso] at h5
        cases d <;> simp [sortD] at h5
        exact hd
      split at h
      all_goals (try (cases h; done))
      all_goals
        rename_i hT
        cases h
        obtain ⟨v1, v2⟩ := vcs_append hv
        have e1 := o1_sound hs hS h1 v1
        have e2 := o1_sound hs hS h2 v2
        simp only [VRep, Rep] at e1 e2
        have hd := hq hT rfl
        refine ⟨_, ?_, by simp only [VRep, Rep]; rfl⟩
        simp only [execOp, hop, e1, e2, eqGuard_at_bool, binOp, Sem.run_bind, Sem.run_pure, Result.andThen_ok, run_equal_bool hd]
    · rename_i p l q m hnb h1 h2
      split at h
      · rename_i hT
        obtain ⟨d, hd, _, _, _, _, _, h5⟩ := (hP.get hT).under_run w
        have hd' : ∃ ms, d = .interface ms := by
          cases d <;> simp [sortD] at h5
          exact ⟨_, rfl⟩
        obtain ⟨ms, rfl⟩ := hd'
        split at h
        all_goals (try (cases h; done))
        all_goals
          rename_i c hn1
          cases h
          obtain ⟨v1, v2⟩ := vcs_append hv
          have e1 := o1_sound hs hS h1 v1
          simp only [VRep] at e1
          have e1 := ifNil_sound hn1 e1
          have heq : (Op.equal T (a.eval x) .nilIface).run P w = .ok c w := by
            unfold Op.equal
            generalize hm : Op.maxDepth = m
            cases m with
            | zero => exact absurd hm (by decide)
            | succ m =>
              simp only [Op.equalIn, Sem.run_bind, hd, Result.andThen_ok]
              cases c with
              | true => rw [e1.1 rfl]; rfl
              | false => obtain ⟨t, z, e⟩ := e1.2 rfl; rw [e]; rfl
          have hbin : ∀ op, (op = BinOp.eql ∨ op = BinOp.neq) → (do eqGuard op T x (.const .nilIface) (a.eval x) .nilIface; binOp op T (a.eval x) .nilIface : Sem Value).run P w = .ok (.bool (match op with | .eql => c | _ => !c)) w := by
            intro op hop
            cases c with
            | true =>
              have e := e1.1 rfl
              rw [e] at heq
              rcases hop with rfl | rfl <;> simp [e, eqGuard, binOp, heq]
            | false =>
              obtain ⟨t, z, e⟩ := e1.2 rfl
              rw [e] at heq
              rcases hop with rfl | rfl <;> simp [e, eqGuard, binOp, heq]
          refine ⟨_, ?_, by simp only [VRep, Rep]; rfl⟩
          have ey : a.eval (.const .nilIface) = .nilIface := rfl
          simp only [execOp, hop, ey]
          simp only [Sem.run_bind] at hbin ⊢
          first | (rw [hbin .eql (.inl rfl)]; rfl) | (rw [hbin .neq (.inr rfl)]; rfl)
      · split at h
        · rename_i z zl h3
          cases h
          obtain ⟨v1, v2⟩ := vcs_append hv
          obtain ⟨v3, v4⟩ := vcs_append v2
          have e1 := o1_sound hs hS h1 v1
          have e2 := o1_sound hs hS h2 v3
          simp only [VRep] at e1 e2
          obtain ⟨v, hr, hrep⟩ := bin_sound (P := P) (T := T) h3 v4 w e1 e2 x y
          refine ⟨v, ?_, by simpa only [VRep] using hrep⟩
          simp only [execOp, hop]
          simp only [Sem.run_bind] at hr ⊢
          rw [hr]; rfl
        · cases h
    · cases h
  | unOp op T x =>
    rw [hop] at h
    cases op <;> simp only [ev] at h <;> try (cases h; done)
    all_goals
      split at h
      · rename_i h1
        cases h
        have e1 := o1_sound hs hS h1 hv
        simp only [VRep, Rep] at e1
        refine ⟨_, ?_, by simp only [VRep, Rep]; rfl⟩
        simp only [execOp, hop, e1, Op.unary, Op.intArith]; rfl
      · cases h
  | convert src dst x =>
    rw [hop] at h
    simp only [ev] at h
    split at h
    · rename_i hT1 hT2 h1
      cases h
      have e1 := o1_sound hs hS h1 hv
      simp only [VRep, Rep] at e1
      obtain ⟨d1, hd1, _⟩ := (hP.get hT1).under_run w
      obtain ⟨d2, hd2, _, _, _, h5, _⟩ := (hP.get hT2).under_run w
      cases d2 <;> simp [ikD] at h5
      subst h5
      refine ⟨_, ?_, by simp only [VRep, Rep]; rfl⟩
      simp only [execOp, hop, e1, convert, Sem.run_bind, hd1, hd2, Result.andThen_ok, Conv.intToInt]; rfl
    · rename_i hT1 hT2 h1
      cases h
      have e1 := o1_sound hs hS h1 hv
      simp only [VRep, Rep] at e1
      obtain ⟨d1, hd1, _⟩ := (hP.get hT1).under_run w
      obtain ⟨d2, hd2, _, _, _, _, _, h5⟩ := (hP.get hT2).under_run w
      cases d2 <;> simp [sortD] at h5
      refine ⟨_, ?_, by simp only [VRep, Rep]; rfl⟩
      simp only [execOp, hop, e1, convert, Sem.run_bind, hd1, hd2, Result.andThen_ok]; rfl
    · cases h
  | fieldAddr T x f =>
    rw [hop] at h
    simp only [ev] at h
    split at h
    · rename_i offs _ _ _ y l hT h1
      split at h
      · rename_i fo ft hf
        split at h
        all_goals (try (cases h; done))
        all_goals
          rename_i hne
          cases h
          have e1 := o1_sound hs hS h1 hv
          simp only [VRep] at e1 ⊢
        · obtain ⟨hk, b, e2, e3⟩ := e1
          refine ⟨_, ?_, hk, b, e2, rfl⟩
          simp only [execOp, hop, e3, Sem.run_bind, run_fieldAt (hP.get hT) w _ _ f fo ft hf (beq_ne hne), Result.andThen_ok, Sem.run_pure]
        · obtain ⟨b, o', us, e2, e3⟩ := e1
          refine ⟨_, ?_, b, o', us, rfl, e3⟩
          simp only [execOp, hop, e2, Sem.run_bind, run_fieldAt (hP.get hT) w _ _ f fo ft hf (beq_ne hne), Result.andThen_ok, Sem.run_pure, Nat.add_assoc]
        · obtain ⟨hk, b, m, c, e2, e3⟩ := e1
          refine ⟨_, ?_, hk, b, m, c, e2, rfl⟩
          simp only [execOp, hop, e3, Sem.run_bind, run_fieldAt (hP.get hT) w _ _ f fo ft hf (beq_ne hne), Result.andThen_ok, Sem.run_pure, Nat.add_assoc]
      · cases h
    · cases h
  | field T x f =>
    rw [hop] at h
    simp only [ev] at h
    split at h
    · rename_i offs _ _ _ cs l hT h1
      split at h
      · rename_i fo ft hf
        split at h
        · rename_i size _ agg _ _ _ _ hF hne
          split at h
          · rename_i y h2
            cases h
            have e1 := o1_sound hs hS h1 hv
            simp only [VRep, Rep] at e1
            obtain ⟨us, e1, hr⟩ := e1
            obtain ⟨d, hd, _, _, h3, _⟩ := (hP.get hT).under_run w
            simp only at h3
            rw [nth_eq, ← h3] at hf
            cases d with
            | struct fs =>
              simp only [offsD, List.getElem?_map, Array.getElem?_toList] at hf
              cases hfd : fs[f]? with
              | none => rw [hfd] at hf; cases hf
              | some fd =>
                rw [hfd] at hf
                simp only [Option.map_some, Option.some.injEq] at hf
                split at hf
                · cases hf; exact absurd rfl (beq_ne hne)
                · cases hf
                  simp only [execOp, hop, e1, Instr.field, Sem.run_bind, hd, Result.andThen_ok, hfd, asAgg, Sem.run_pure, part, (hP.get hF).isAgg_run]
                  unfold cellsD at h2
                  split at h2
                  · split at h2
                    · rename_i lq hlq
                      cases h2
                      rw [dropL_eq] at hlq
                      obtain ⟨rfl, hle⟩ := takeL_eq hlq
                      refine ⟨.agg ⟨(us.drop fd.offset).take size⟩, ?_, ?_⟩
                      · simp only [if_true, Sem.run_bind, (hP.get hF).size_run, Result.andThen_ok, Sem.run_pure]
                        congr 3
                        apply Array.ext'
                        simp [List.take_drop, Nat.add_comm]
                      · simp only [VRep, Rep]; exact ⟨_, rfl, (hr.drop fd.offset).take size⟩
                    · cases h2
                  · rw [nth_eq] at h2
                    obtain ⟨v, h4, h5⟩ := hr.get h2
                    have : (Array.mk us)[fd.offset]? = some v := by simpa using h4
                    exact ⟨v, by simp [this], by simpa only [VRep] using h5⟩
            | _ => simp [offsD] at hf
          · cases h
        · cases h
      · cases h
    · cases h
  | index T x i =>
    rw [hop] at h
    simp only [ev] at h
    split at h
    · rename_i s l k m l2 hT h1 h2
      cases h
      obtain ⟨v1, v2⟩ := vcs_append hv
      obtain ⟨v3, v4⟩ := vcs_append v2
      have hi : 0 ≤ m ∧ m < s.length := v4
      have e1 := o1_sound hs hS h1 v1
      have e2 := o1_sound hs hS h2 v3
      simp only [VRep, Rep] at e1 e2
      obtain ⟨d, hd, _, _, _, _, _, h5⟩ := (hP.get hT).under_run w
      cases d <;> simp [sortD] at h5
      refine ⟨_, ?_, by (simp only [VRep, Rep]; try rfl)⟩
      have hlt : m.toNat < s.length := by omega
      have hg : (ByteArray.mk ⟨s⟩)[m.toNat]? = some s[m.toNat] := by
        rw [getElem?_pos (ByteArray.mk ⟨s⟩) m.toNat hlt]; rfl
      simp only [execOp, hop, e1, e2, Instr.index, asIntOf, Sem.run_bind, Sem.run_pure, hd, Result.andThen_ok, if_pos hi.1, hg]
      simp [List.getD_eq_getElem?_getD, hlt]
    · cases h
  | extract x ix =>
    rw [hop] at h
    simp only [ev] at h
    split at h
    · rename_i xs l h1
      split at h
      · rename_i y h2
        cases h
        have e1 := o1_sound hs hS h1 hv
        simp only [VRep] at e1
        obtain ⟨us, e1, hr⟩ := e1
        rw [nth_eq] at h2
        obtain ⟨v, h3, h4⟩ := hr.get h2
        have : (Array.mk us)[ix]? = some v := by simpa using h3
        refine ⟨v, ?_, h4⟩
        simp only [execOp, hop, e1, Instr.extract, this, Sem.run_bind, Sem.run_pure, Result.andThen_ok]
      · cases h
    · cases h
  | slice T x lo hi mx =>
    rw [hop] at h
    cases mx with
    | some y => simp only [ev] at h; cases h
    | none =>
    simp only [ev] at h
    -- what 'lo' gives
    have hlo : ∀ {k : IntKind} {i : Int} {m : List Prop}, oLo B.G S lo = some (SV.v (.int k i), m) → vcs m → 0 ≤ i →
        (lo.map a.eval = none ∧ i.toNat = 0) ∨ ∃ k z, lo.map a.eval = some (.int k z) ∧ 0 ≤ z ∧ z.toNat = i.toNat := fun {k i m} hl hm hi => by
      cases lo with
      | none => cases hl; exact .inl ⟨rfl, rfl⟩
      | some y =>
        have e := o1_sound hs hS hl hm
        simp only [VRep, Rep] at e
        exact .inr ⟨k, i, by simp [e], hi, rfl⟩
    split at h
    · rename_i s l k i m hT h1 h2
      split at h
      · cases h
        obtain ⟨v1, v2⟩ := vcs_append hv
        obtain ⟨v3, v4⟩ := vcs_append v2
        have hi : 0 ≤ i ∧ i ≤ s.length := v4
        have e1 := o1_sound hs hS h1 v1
        simp only [VRep, Rep] at e1
        have := run_slice_string (P := P) (hP.get hT) rfl (l := s) (i := i.toNat) (j := s.length) (hlo h2 v3 hi.1) (.inl ⟨rfl, rfl⟩) (by omega) (Nat.le_refl _) w
        refine ⟨.string ⟨⟨s.drop i.toNat⟩⟩, ?_, by simp only [VRep, Rep]⟩
        simp only [execOp, hop, e1, Sem.run_bind, Option.map_none] at this ⊢
        rw [this]
        simp
      · rename_i hh
        split at h
        · rename_i k2 j o2 h3
          cases h
          obtain ⟨v1, v2⟩ := vcs_append hv
          obtain ⟨v3, v4⟩ := vcs_append v2
          obtain ⟨v5, v6⟩ := vcs_append v4
          have hi : 0 ≤ i ∧ i ≤ j ∧ j ≤ s.length := v6
          have e1 := o1_sound hs hS h1 v1
          have e3 := o1_sound hs hS h3 v5
          simp only [VRep, Rep] at e1 e3
          have := run_slice_string (P := P) (hP.get hT) rfl (l := s) (i := i.toNat) (j := j.toNat) (hlo h2 v3 hi.1) (.inr ⟨k2, j, rfl, by omega, rfl⟩) (by omega) (by omega) w
          refine ⟨_, ?_, by (simp only [VRep, Rep]; try rfl)⟩
          simp only [execOp, hop, e1, e3, Sem.run_bind, Option.map_none, Option.map_some] at this ⊢
          rw [this]
          rfl
        · cases h
    · rename_i z _ d l k' i m hne hT h1 h2
      split at h
      · rename_i es hes
        split at h
        · cases h
          obtain ⟨v1, v2⟩ := vcs_append hv
          obtain ⟨v3, v4⟩ := vcs_append v2
          have hi : 0 ≤ i ∧ i ≤ es.length := v4
          have e1 := o1_sound hs hS h1 v1
          simp only [VRep] at e1
          have e1 := asSl_sound hes e1
          obtain ⟨u, hu, hrep⟩ := run_slice_slice (P := P) (hP.get hT) rfl (i := i.toNat) (j := es.length) (hlo h2 v3 hi.1) (.inl ⟨rfl, rfl⟩) (by omega) (Nat.le_refl _) w e1
          rw [List.take_length] at hrep
          refine ⟨u, ?_, by simpa only [VRep] using hrep⟩
          simp only [execOp, hop, Sem.run_bind, Option.map_none] at hu ⊢
          rw [hu]
          rfl
        · rename_i hh
          split at h
          · rename_i k2 j o2 h3
            cases h
            obtain ⟨v1, v2⟩ := vcs_append hv
            obtain ⟨v3, v4⟩ := vcs_append v2
            obtain ⟨v5, v6⟩ := vcs_append v4
            have hi : 0 ≤ i ∧ i ≤ j ∧ j ≤ es.length := v6
            have e1 := o1_sound hs hS h1 v1
            have e3 := o1_sound hs hS h3 v5
            simp only [VRep] at e1 e3
            simp only [Rep] at e3
            have e1 := asSl_sound hes e1
            obtain ⟨u, hu, hrep⟩ := run_slice_slice (P := P) (hP.get hT) rfl (i := i.toNat) (j := j.toNat) (hlo h2 v3 hi.1) (.inr ⟨k2, j, rfl, by omega, rfl⟩) (by omega) (by omega) w e1
            refine ⟨u, ?_, by simpa only [VRep] using hrep⟩
            simp only [execOp, hop, e3, Sem.run_bind, Option.map_none, Option.map_some] at hu ⊢
            rw [hu]
            rfl
          · cases h
      · cases h
    · cases h
  | makeFunc f first caps =>
    obtain ⟨first⟩ := first
    obtain ⟨caps⟩ := caps
    rw [hop] at h
    cases f <;> cases first <;> simp only [ev] at h <;> try (cases h; done)
    · rename_i f
      split at h
      · rename_i ys l h1
        cases h
        have e1 := o1s_sound hs hS h1 hv
        refine ⟨.func (.func f) #[] (caps.map a.eval).toArray, ?_, by simp only [VRep]; exact ⟨_, rfl, e1⟩⟩
        simp only [execOp, hop, Instr.makeFunc, Sem.run_bind, Sem.run_pure, Result.andThen_ok]
        simp
      · cases h
  | makeInterface T x =>
    rw [hop] at h
    simp only [ev] at h
    split at h
    · cases h
    · rename_i ti d l hne hT h1
      cases h
      have e1 := o1_sound hs hS h1 hv
      simp only [VRep] at e1
      obtain ⟨ds, hd, _, _, _, _, _, h5⟩ := (hP.get hT).under_run w
      have hni : ∀ ms, ds ≠ .interface ms := fun ms e => by
        subst e
        simp only [sortD] at h5
        obtain ⟨q1, q2, q3, q4, q5, q6, q7⟩ := ti
        simp only at h5
        subst h5
        exact hne _ _ _ _ _ _ rfl
      refine ⟨.iface T (a.eval x), ?_, by simp only [VRep, Rep]; exact ⟨_, rfl, e1⟩⟩
      simp only [execOp, hop, Instr.makeInterface, Sem.run_bind, hd, Result.andThen_ok]
      cases ds <;> first | rfl | exact absurd rfl (hni _)
    · cases h
  | call c =>
    rw [hop] at h
    unfold ev at h
    split at h <;> try (cases h; done)
    all_goals rename_i hop'
    all_goals first | (cases hop'; done) | skip
    all_goals cases hop'
    · rename_i x T
      split at h
      · rename_i el _ k l hT h1
        split at h
        · rename_i T' sz' es hk
          cases h
          have e1 := o1_sound hs hS h1 hv
          simp only [VRep] at e1
          obtain ⟨el, hd, _⟩ := el_size (hP.get hT) rfl w
          refine ⟨.int .i64 es.length, ?_, by simp only [VRep, Rep]⟩
          rw [execOp_bi hop, BigFrame.builtin_len]
          have hv : ∃ ad c, ρ k = .slice ad es.length c := by
            obtain ⟨rows, h5, _, h7, _⟩ := hs.obj k _ (hO k _ hk)
            rw [← h5.length]
            rcases h7.2 with ⟨h6, h7⟩ | ⟨g, cap, cur, fz, h6, _⟩
            · exact ⟨none, 0, by rw [h6, h7]⟩
            · exact ⟨_, _, h6⟩
          obtain ⟨ad, c', hv⟩ := hv
          simp only [Builtin.len_, e1.2, hv, List.map_toArray, List.map_cons, List.map_nil, List.getElem?_toArray, List.getElem?_cons_zero, Sem.run_bind, hd, Result.andThen_ok]; rfl
        · cases h
      · rename_i s l hT h1
        cases h
        have e1 := o1_sound hs hS h1 hv
        simp only [VRep, Rep] at e1
        obtain ⟨d, hd, _, _, _, _, _, h5⟩ := (hP.get hT).under_run w
        refine ⟨.int .i64 s.length, ?_, by simp only [VRep, Rep]⟩
        rw [execOp_bi hop, BigFrame.builtin_len]
        cases d <;> simp [sortD] at h5
        simp only [Builtin.len_, e1, List.map_toArray, List.map_cons, List.map_nil, List.getElem?_toArray, List.getElem?_cons_zero, Sem.run_bind, hd, Result.andThen_ok]; rfl
      · rename_i z _ d l hT h1
        split at h
        · rename_i es hes
          cases h
          have e1 := o1_sound hs hS h1 hv
          simp only [VRep] at e1
          have e1 := asSl_sound hes e1
          simp only [Rep] at e1
          obtain ⟨base, cap, e1, _⟩ := e1
          obtain ⟨el, hd, _⟩ := el_size (hP.get hT) rfl w
          refine ⟨.int .i64 es.length, ?_, by simp only [VRep, Rep]⟩
          rw [execOp_bi hop, BigFrame.builtin_len]
          simp only [Builtin.len_, e1, List.map_toArray, List.map_cons, List.map_nil, List.getElem?_toArray, List.getElem?_cons_zero, Sem.run_bind, hd, Result.andThen_ok]; rfl
        · cases h
      · cases h
    · rename_i x y ats
      split at h
      · rename_i k p l k' q m h1 h2
        cases h
        obtain ⟨v1, v2⟩ := vcs_append hv
        have e1 := o1_sound hs hS h1 v1
        have e2 := o1_sound hs hS h2 v2
        simp only [VRep, Rep] at e1 e2
        refine ⟨_, ?_, by (simp only [VRep, Rep]; try rfl)⟩
        rw [execOp_bi hop, BigFrame.builtin_max]
        simp only [Builtin.max_, e1, e2, List.map_toArray, List.map_cons, List.map_nil, List.foldlM_cons, List.foldlM_nil, Builtin.max2, Sem.run_bind, Sem.run_pure, Result.andThen_ok]
      · cases h
    · rename_i x y ats
      split at h
      · rename_i k p l k' q m h1 h2
        cases h
        obtain ⟨v1, v2⟩ := vcs_append hv
        have e1 := o1_sound hs hS h1 v1
        have e2 := o1_sound hs hS h2 v2
        simp only [VRep, Rep] at e1 e2
        refine ⟨_, ?_, by (simp only [VRep, Rep]; try rfl)⟩
        rw [execOp_bi hop, BigFrame.builtin_min]
        simp only [Builtin.min_, e1, e2, List.map_toArray, List.map_cons, List.map_nil, List.foldlM_cons, List.foldlM_nil, Builtin.min2, Sem.run_bind, Sem.run_pure, Result.andThen_ok]
      · cases h
  | build T parts =>
    obtain ⟨parts⟩ := parts
    rw [hop] at h
    simp only [ev] at h
    split at h
    · rename_i sz zero o0 offs _ _ _ hT
      split at h
      · rename_i z
        split at h
        · rename_i cs l h1 h2
          rw [forceL_eq] at h
          cases h
          obtain ⟨d, hd, _, hag, hof, _⟩ := (hP.get hT).under_run w
          simp only at hag hof
          cases d with
          | struct fs =>
            obtain ⟨fs⟩ := fs
            rw [← hof] at h1 h2
            have hpl := allTy_places (w := w) hP h1
            obtain ⟨us, hfill, hr⟩ := fill_sound hP hs hS h2 hv (ofVs_rep z)
            refine ⟨.agg ⟨us⟩, ?_, by simp only [VRep, Rep]; exact ⟨_, rfl, hr⟩⟩
            simp only [execOp, hop, Instr.build, Sem.run_bind, (hP.get hT).zero_run, hd, Result.andThen_ok, List.mapM_toArray, Sem.run_map, hpl, List.map_toArray]
            have hz : (Value.agg ⟨z⟩).cells = z.toArray := rfl
            rw [hz, hfill]; rfl
          | array m e => simp [offsD] at hof
          | _ => simp [isAggD] at hag
        · cases h
      · cases h
    · cases h
  | _ => (rw [hop] at h; simp only [ev] at h; cases h)

end Go.V
