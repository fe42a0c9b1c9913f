/- The engine's evaluator is sound. No program in sight. -/
import Derived.Test.YtinickkcieecdaaGreatDoorVa
set_option linter.unusedVariables false
namespace Go.V

theorem nth_eq {α : Type} : ∀ (l : List α) (k : Nat), nth l k = l[k]?
  | [], _ => rfl
  | x :: r, 0 => rfl
  | x :: r, k + 1 => by simp [nth, nth_eq r k]
theorem dropL_eq {α : Type} : ∀ (k : Nat) (l : List α), dropL k l = l.drop k
  | 0, l => by simp [dropL]
  | k + 1, [] => by simp [dropL]
  | k + 1, x :: r => by simp [dropL, dropL_eq k r]
theorem takeL_eq {α : Type} : ∀ {k : Nat} {l r : List α}, takeL k l = some r → r = l.take k ∧ k ≤ l.length
  | 0, l, r, h => by simp only [takeL] at h; cases h; simp
  | k + 1, [], r, h => by simp [takeL] at h
  | k + 1, x :: l, r, h => by
    simp only [takeL] at h
    split at h
    · rename_i l' h1; cases h
      obtain ⟨h2, h3⟩ := takeL_eq h1
      subst h2; simp; exact h3
    · cases h

theorem get_cons_self {α : Type} (d : Nat) (x : α) (l : List (Nat × α)) : get ((d, x) :: l) d = some x := by simp [get, Nat.beq_refl]
theorem get_cons_ne {α : Type} {d t : Nat} (x : α) (l : List (Nat × α)) (h : d ≠ t) : get ((d, x) :: l) t = get l t := by
  have : Nat.beq d t = false := by cases hb : Nat.beq d t with | false => rfl | true => exact absurd (Nat.eq_of_beq_eq_true hb) h
  simp [get, this]
theorem beq_ne {a b : Nat} (h : Nat.beq a b = false) : a ≠ b := fun e => by rw [e, Nat.beq_refl] at h; cases h

section lists
variable {w : World} {X : Nat → Prop} {N : Nat → Prop} {ρ : Nat → Value}

theorem Reps.length : ∀ {ds : List D} {vs : List Value}, Reps w X ds vs → vs.length = ds.length
  | [], vs, h => by simp only [Reps] at h; subst h; rfl
  | d :: ds, vs, h => by
    simp only [Reps] at h
    obtain ⟨v, r, rfl, _, h3⟩ := h
    simp [Reps.length h3]
theorem VReps.length : ∀ {xs : List SV} {vs : List Value}, VReps N ρ w X xs vs → vs.length = xs.length
  | [], vs, h => by simp only [VReps] at h; subst h; rfl
  | x :: xs, vs, h => by
    simp only [VReps] at h
    obtain ⟨v, r, rfl, _, h3⟩ := h
    simp [VReps.length h3]
theorem RepRows.length : ∀ {es : List (List D)} {rs : List (List Value)}, RepRows w X es rs → rs.length = es.length
  | [], rs, h => by simp only [RepRows] at h; subst h; rfl
  | e :: es, rs, h => by
    simp only [RepRows] at h
    obtain ⟨c, r, rfl, _, h3⟩ := h
    simp [RepRows.length h3]

theorem Reps.get : ∀ {ds : List D} {vs : List Value} {j : Nat} {d : D}, Reps w X ds vs → ds[j]? = some d → ∃ v, vs[j]? = some v ∧ Rep w X d v
  | [], vs, j, d, h, hj => by simp at hj
  | d' :: ds, vs, 0, d, h, hj => by
    simp only [Reps] at h
    obtain ⟨v, r, rfl, h2, _⟩ := h
    simp at hj; subst hj
    exact ⟨v, by simp, h2⟩
  | d' :: ds, vs, j + 1, d, h, hj => by
    simp only [Reps] at h
    obtain ⟨v, r, rfl, _, h3⟩ := h
    obtain ⟨v', h4, h5⟩ := Reps.get h3 (by simpa using hj)
    exact ⟨v', by simpa using h4, h5⟩
theorem VReps.get : ∀ {xs : List SV} {vs : List Value} {j : Nat} {x : SV}, VReps N ρ w X xs vs → xs[j]? = some x → ∃ v, vs[j]? = some v ∧ VRep N ρ w X x v
  | [], vs, j, x, h, hj => by simp at hj
  | x' :: xs, vs, 0, x, h, hj => by
    simp only [VReps] at h
    obtain ⟨v, r, rfl, h2, _⟩ := h
    simp at hj; subst hj
    exact ⟨v, by simp, h2⟩
  | x' :: xs, vs, j + 1, x, h, hj => by
    simp only [VReps] at h
    obtain ⟨v, r, rfl, _, h3⟩ := h
    obtain ⟨v', h4, h5⟩ := VReps.get h3 (by simpa using hj)
    exact ⟨v', by simpa using h4, h5⟩
theorem RepRows.get : ∀ {es : List (List D)} {rs : List (List Value)} {j : Nat} {e : List D}, RepRows w X es rs → es[j]? = some e → ∃ r, rs[j]? = some r ∧ Reps w X e r
  | [], rs, j, e, h, hj => by simp at hj
  | e' :: es, rs, 0, e, h, hj => by
    simp only [RepRows] at h
    obtain ⟨v, r, rfl, h2, _⟩ := h
    simp at hj; subst hj
    exact ⟨v, by simp, h2⟩
  | e' :: es, rs, j + 1, e, h, hj => by
    simp only [RepRows] at h
    obtain ⟨v, r, rfl, _, h3⟩ := h
    obtain ⟨v', h4, h5⟩ := RepRows.get h3 (by simpa using hj)
    exact ⟨v', by simpa using h4, h5⟩

theorem Reps.drop : ∀ {ds : List D} {vs : List Value} (k : Nat), Reps w X ds vs → Reps w X (ds.drop k) (vs.drop k)
  | ds, vs, 0, h => by simpa using h
  | [], vs, k + 1, h => by simp only [Reps] at h; subst h; simp [Reps]
  | d :: ds, vs, k + 1, h => by
    simp only [Reps] at h
    obtain ⟨v, r, rfl, _, h3⟩ := h
    simpa using Reps.drop k h3
theorem Reps.take : ∀ {ds : List D} {vs : List Value} (k : Nat), Reps w X ds vs → Reps w X (ds.take k) (vs.take k)
  | ds, vs, 0, h => by simp [Reps]
  | [], vs, k + 1, h => by simp only [Reps] at h; subst h; simp [Reps]
  | d :: ds, vs, k + 1, h => by
    simp only [Reps] at h
    obtain ⟨v, r, rfl, h2, h3⟩ := h
    simp only [List.take_succ_cons, Reps]
    exact ⟨v, r.take k, rfl, h2, Reps.take k h3⟩
theorem VReps.drop : ∀ {ds : List SV} {vs : List Value} (k : Nat), VReps N ρ w X ds vs → VReps N ρ w X (ds.drop k) (vs.drop k)
  | ds, vs, 0, h => by simpa using h
  | [], vs, k + 1, h => by simp only [VReps] at h; subst h; simp [VReps]
  | d :: ds, vs, k + 1, h => by
    simp only [VReps] at h
    obtain ⟨v, r, rfl, _, h3⟩ := h
    simpa using VReps.drop k h3
theorem VReps.take : ∀ {ds : List SV} {vs : List Value} (k : Nat), VReps N ρ w X ds vs → VReps N ρ w X (ds.take k) (vs.take k)
  | ds, vs, 0, h => by simp [VReps]
  | [], vs, k + 1, h => by simp only [VReps] at h; subst h; simp [VReps]
  | d :: ds, vs, k + 1, h => by
    simp only [VReps] at h
    obtain ⟨v, r, rfl, h2, h3⟩ := h
    simp only [List.take_succ_cons, VReps]
    exact ⟨v, r.take k, rfl, h2, VReps.take k h3⟩
theorem Reps.set : ∀ {ds : List D} {vs : List Value} (k : Nat) {d : D} {v : Value}, Reps w X ds vs → Rep w X d v → Reps w X (ds.set k d) (vs.set k v)
  | [], vs, k, d, v, h, _ => by simp only [Reps] at h; subst h; simp [Reps]
  | d' :: ds, vs, 0, d, v, h, h1 => by
    simp only [Reps] at h
    obtain ⟨v', r, rfl, _, h3⟩ := h
    simp only [List.set_cons_zero, Reps]
    exact ⟨v, r, rfl, h1, h3⟩
  | d' :: ds, vs, k + 1, d, v, h, h1 => by
    simp only [Reps] at h
    obtain ⟨v', r, rfl, h2, h3⟩ := h
    simp only [List.set_cons_succ, Reps]
    exact ⟨v', r.set k v, rfl, h2, Reps.set k h3 h1⟩
theorem VReps.set : ∀ {ds : List SV} {vs : List Value} (k : Nat) {d : SV} {v : Value}, VReps N ρ w X ds vs → VRep N ρ w X d v → VReps N ρ w X (ds.set k d) (vs.set k v)
  | [], vs, k, d, v, h, _ => by simp only [VReps] at h; subst h; simp [VReps]
  | d' :: ds, vs, 0, d, v, h, h1 => by
    simp only [VReps] at h
    obtain ⟨v', r, rfl, _, h3⟩ := h
    simp only [List.set_cons_zero, VReps]
    exact ⟨v, r, rfl, h1, h3⟩
  | d' :: ds, vs, k + 1, d, v, h, h1 => by
    simp only [VReps] at h
    obtain ⟨v', r, rfl, h2, h3⟩ := h
    simp only [List.set_cons_succ, VReps]
    exact ⟨v', r.set k v, rfl, h2, VReps.set k h3 h1⟩
theorem Reps.splice : ∀ {es : List D} {us : List Value} {ds : List D} {vs : List Value} (k : Nat), Reps w X ds vs → Reps w X es us → Reps w X (V.splice ds k es) (V.splice vs k us)
  | [], us, ds, vs, k, h, h1 => by simp only [Reps] at h1; subst h1; simpa [V.splice] using h
  | e :: es, us, ds, vs, k, h, h1 => by
    simp only [Reps] at h1
    obtain ⟨v', r, rfl, h2, h3⟩ := h1
    simp only [V.splice]
    exact Reps.splice (k + 1) (Reps.set k h h2) h3
theorem VReps.splice : ∀ {es : List SV} {us : List Value} {ds : List SV} {vs : List Value} (k : Nat), VReps N ρ w X ds vs → VReps N ρ w X es us → VReps N ρ w X (V.splice ds k es) (V.splice vs k us)
  | [], us, ds, vs, k, h, h1 => by simp only [VReps] at h1; subst h1; simpa [V.splice] using h
  | e :: es, us, ds, vs, k, h, h1 => by
    simp only [VReps] at h1
    obtain ⟨v', r, rfl, h2, h3⟩ := h1
    simp only [V.splice]
    exact VReps.splice (k + 1) (VReps.set k h h2) h3
theorem splice_length {α : Type} : ∀ (vs cs : List α) (off : Nat), (splice cs off vs).length = cs.length
  | [], cs, off => rfl
  | v :: vs, cs, off => by simp [splice, splice_length vs]

theorem toDs_sound : ∀ {xs : List SV} {ds : List D} {vs : List Value}, toDs xs = some ds → VReps N ρ w X xs vs → Reps w X ds vs
  | [], ds, vs, h, h1 => by simp only [toDs] at h; cases h; simpa [Reps, VReps] using h1
  | x :: xs, ds, vs, h, h1 => by
    simp only [toDs] at h
    split at h
    · rename_i d l h2 h3
      cases h
      simp only [VReps] at h1
      obtain ⟨v, r, rfl, h4, h5⟩ := h1
      simp only [Reps]
      refine ⟨v, r, rfl, ?_, toDs_sound h3 h5⟩
      cases x <;> simp only [toD] at h2 <;> cases h2
      simpa [VRep] using h4
    · cases h
theorem vs_sound : ∀ {ds : List D} {us : List Value}, Reps w X ds us → VReps N ρ w X (vs ds) us
  | [], us, h => by simpa [Reps, VReps, vs] using h
  | d :: ds, us, h => by
    simp only [Reps] at h
    obtain ⟨v, r, rfl, h2, h3⟩ := h
    simp only [vs, VReps]
    exact ⟨v, r, rfl, by simpa [VRep] using h2, vs_sound h3⟩
theorem vs_length : ∀ (ds : List D), (vs ds).length = ds.length
  | [] => rfl
  | d :: ds => by simp [vs, vs_length ds]

theorem ofV1_rep (v : Value) : Rep w X (ofV1 v) v := by
  unfold ofV1
  split <;> simp [Rep]
theorem ofVs_rep : ∀ (l : List Value), Reps w X (ofVs l) l
  | [] => by simp [ofVs, Reps]
  | v :: r => by simp only [ofVs, Reps]; exact ⟨v, r, rfl, ofV1_rep v, ofVs_rep r⟩
theorem ofV_rep (v : Value) : Rep w X (ofV v) v := by
  unfold ofV
  split
  · simp only [Rep]; exact ⟨_, rfl, ofVs_rep _⟩
  · exact ofV1_rep _

theorem cell_of_rep {d : D} {v : Value} (h : Rep w X d v) (hc : cellD d = true) : isCell v = true := by
  cases d <;> simp only [Rep] at h <;> simp only [cellD] at hc
  · subst h; rfl
  · subst h; rfl
  · subst h; rfl
  · subst h; exact hc
  · rename_i b; cases b with
    | true => rw [h.1 rfl]; rfl
    | false => obtain ⟨t, x, h⟩ := h.2 rfl; rw [h]; rfl
  · cases hc
  · obtain ⟨b, c, rfl, _⟩ := h; rfl
  · obtain ⟨x, rfl, _⟩ := h; rfl
theorem cell_of_vrep {x : SV} {v : Value} (h : VRep N ρ w X x v) (hc : cellS x = true) (hN : ∀ k, N k → isCell (ρ k) = true) : isCell v = true := by
  cases x <;> simp only [VRep] at h <;> simp only [cellS] at hc
  · exact cell_of_rep h hc
  · cases hc
  · obtain ⟨_, b, _, rfl⟩ := h; rfl
  · obtain ⟨b, o, vs, rfl, _⟩ := h; rfl
  · rw [h.2]; exact hN _ h.1
  · obtain ⟨_, b, n, c, _, rfl⟩ := h; rfl
  · rcases h.2 with h2 | h2
    · rw [h2]; rfl
    · rw [h2]; exact hN _ h.1
  · obtain ⟨vs, rfl, _⟩ := h; rfl
  · cases hc
  · cases hc
theorem cells_one {v : Value} (h : isCell v = true) : v.cells.toList = [v] := by cases v <;> first | rfl | cases h

theorem cellsOfD_sound {d : D} {l : List D} {v : Value} (h : cellsOfD d = some l) (hr : Rep w X d v) : Reps w X l v.cells.toList := by
  unfold cellsOfD at h
  split at h
  · cases h
    simp only [Rep] at hr
    obtain ⟨cs, rfl, h2⟩ := hr
    exact h2
  · split at h
    · rename_i hc
      cases h
      rw [cells_one (cell_of_rep hr hc)]
      simp only [Reps]; exact ⟨v, [], rfl, hr, rfl⟩
    · cases h
theorem cellsOfS_sound {x : SV} {l : List SV} {v : Value} (hN : ∀ k, N k → isCell (ρ k) = true) (h : cellsOfS x = some l) (hr : VRep N ρ w X x v) : VReps N ρ w X l v.cells.toList := by
  unfold cellsOfS at h
  split at h
  · split at h
    · rename_i h1
      cases h
      exact vs_sound (cellsOfD_sound h1 (by simpa [VRep] using hr))
    · cases h
  · split at h
    · rename_i hc
      cases h
      rw [cells_one (cell_of_vrep hr hc hN)]
      simp only [VReps]; exact ⟨v, [], rfl, hr, rfl⟩
    · cases h

theorem CellsAt.drop {vs : List Value} {b o : Nat} (h : CellsAt w vs b o) (k : Nat) : CellsAt w (vs.drop k) b (o + k) := fun j x hj => by
  rw [List.getElem?_drop] at hj
  have := h _ _ hj
  rwa [← Nat.add_assoc] at this
theorem CellsAt.take {vs : List Value} {b o : Nat} (h : CellsAt w vs b o) (k : Nat) : CellsAt w (vs.take k) b o := fun j x hj => by
  rw [List.getElem?_take] at hj
  split at hj
  · exact h _ _ hj
  · cases hj

theorem RowsAt.get {sz : Nat} : ∀ {es : List (List D)} {b o i : Nat} {e : List D}, RowsAt w X sz es b o → es[i]? = some e → ∃ cs, Reps w X e cs ∧ cs.length = sz ∧ CellsAt w cs b (o + i * sz)
  | [], b, o, i, e, h, hi => by simp at hi
  | e' :: es, b, o, 0, e, h, hi => by
    simp only [RowsAt] at h
    simp at hi; subst hi
    simpa using h.1
  | e' :: es, b, o, i + 1, e, h, hi => by
    simp only [RowsAt] at h
    obtain ⟨cs, h1, h2, h3⟩ := RowsAt.get h.2 (by simpa using hi)
    refine ⟨cs, h1, h2, ?_⟩
    rw [show o + (i + 1) * sz = o + sz + i * sz by rw [Nat.succ_mul]; omega]; exact h3
theorem RowsAt.mk {sz : Nat} : ∀ {es : List (List D)} {b o : Nat}, (∀ i e, es[i]? = some e → ∃ cs, Reps w X e cs ∧ cs.length = sz ∧ CellsAt w cs b (o + i * sz)) → RowsAt w X sz es b o
  | [], b, o, h => by simp only [RowsAt]
  | e :: es, b, o, h => by
    simp only [RowsAt]
    refine ⟨by simpa using h 0 e rfl, RowsAt.mk fun i e' hi => ?_⟩
    obtain ⟨cs, h1, h2, h3⟩ := h (i + 1) e' (by simpa using hi)
    refine ⟨cs, h1, h2, ?_⟩
    rw [show o + sz + i * sz = o + (i + 1) * sz by rw [Nat.succ_mul]; omega]; exact h3
theorem RowsAt.part {sz : Nat} {es : List (List D)} {b o i j : Nat} (h : RowsAt w X sz es b o) : RowsAt w X sz ((es.take j).drop i) b (o + i * sz) :=
  RowsAt.mk fun k e hk => by
    rw [List.getElem?_drop, List.getElem?_take] at hk
    split at hk
    · obtain ⟨cs, h1, h2, h3⟩ := h.get hk
      refine ⟨cs, h1, h2, ?_⟩
      rw [show o + i * sz + k * sz = o + (i + k) * sz by rw [Nat.add_mul]; omega]; exact h3
    · cases hk
theorem RowsAt.nil {sz b o : Nat} : RowsAt w X sz [] b o := by simp only [RowsAt]

theorem asSl_sound {z : Nat} {d : D} {es : List (List D)} {v : Value} (h : asSl z d = some es) (hr : Rep w X d v) : Rep w X (.sl z es) v := by
  unfold asSl at h
  split at h
  · split at h
    · rename_i he
      cases h; cases Nat.eq_of_beq_eq_true he; exact hr
    · cases h
  · cases h
    simp only [Rep] at hr ⊢
    exact ⟨none, 0, hr, Nat.le_refl _, fun _ => trivial, fun ad h => by cases h⟩
  · cases h
end lists

variable {P : Program} {n : Nat} {B : Base} {st : St} {ρ : Nat → Value} {a : Act} {w : World} {L : Nat → Prop} {tb : List (Nat × TI)} {S : List (Nat × SV)} {O : List (Nat × Ob)}

theorem Sat.cellN (hs : Sat B n st ρ a w L) : ∀ k, nmO st.O k → isCell (ρ k) = true := fun k hk => by
  cases hg : get st.O k with
  | none => simp [nmO, hg] at hk
  | some o =>
    have h1 := hs.obj k o hg
    cases o with
    | blk ty cs => obtain ⟨b, vs, h2, _⟩ := h1; rw [h2]; rfl
    | row ty sz es =>
      obtain ⟨rows, _, _, h2, _⟩ := h1
      rcases h2.2 with ⟨h3, _⟩ | ⟨g, cap, cur, fz, h3, _⟩ <;> rw [h3] <;> rfl
    | it s pos => obtain ⟨b, h2, _⟩ := h1; rw [h2]; rfl
    | dead => exact h1

theorem opnd_sound (hs : Sat B n st ρ a w L) (hS : ∀ t x, get S t = some x → get st.S t = some x) {x : Operand} {y : SV} (h : opnd B.G S x = some y) : VRep (nmO st.O) ρ w (un B.F L) y (a.eval x) := by
  cases x with
  | tmp t =>
    obtain ⟨v, h1, h2⟩ := hs.slot t y (hS t y h)
    simp only [Act.eval, Array.getD_eq_getD_getElem?, h1]; exact h2
  | const v => cases h; simp only [VRep, Act.eval]; exact ofV_rep v
  | global g =>
    simp only [opnd] at h
    split at h
    · rename_i cs hg
      cases h
      obtain ⟨vs, h1, h2, h3, h4⟩ := hs.glob g cs hg
      simp only [VRep, Act.eval]
      exact ⟨g, 0, vs, rfl, h1, h2, h3, h4⟩
    · cases h; simp [VRep, Rep, Act.eval]
  | func f => cases h; simp only [VRep, Act.eval]; exact ⟨[], rfl, by simp [VReps]⟩

theorem o1_sound (hs : Sat B n st ρ a w L) (hS : ∀ t x, get S t = some x → get st.S t = some x) {x : Operand} {y : SV} {l : List Prop} (h : o1 B.G S x = some (y, l)) (hv : vcs l) : VRep (nmO st.O) ρ w (un B.F L) y (a.eval x) := by
  unfold o1 at h
  split at h
  · rename_i c z hz
    cases h
    have := opnd_sound hs hS hz
    simp only [VRep] at this
    exact this.1 hv
  · rename_i z hne hz
    cases h
    exact opnd_sound hs hS hz
  · cases h

theorem o1s_sound (hs : Sat B n st ρ a w L) (hS : ∀ t x, get S t = some x → get st.S t = some x) : ∀ {xs : List Operand} {ys : List SV} {l : List Prop}, o1s B.G S xs = some (ys, l) → vcs l → VReps (nmO st.O) ρ w (un B.F L) ys (xs.map a.eval)
  | [], ys, l, h, _ => by simp only [o1s] at h; cases h; simp [VReps]
  | x :: r, ys, l, h, hv => by
    simp only [o1s] at h
    split at h
    · rename_i y l1 h1
      split at h
      · rename_i ys' m h2
        cases h
        obtain ⟨v1, v2⟩ := vcs_append hv
        simp only [List.map_cons, VReps]
        exact ⟨_, _, rfl, o1_sound hs hS h1 v1, o1s_sound hs hS h2 v2⟩
      · cases h
    · cases h

theorem TIok.size_run {T : Nat} {ti : TI} (h : TIok P T ti) (w : World) : (sizeOf T).run P w = .ok ti.size w := by
  have := h.info
  cases hi : P.info? T with
  | none => rw [hi] at this; cases this
  | some i =>
    rw [hi] at this
    simp at this
    simp [sizeOf, typeInfo, program, Sem.run, hi, this]
theorem TIok.zero_run {T : Nat} {ti : TI} (h : TIok P T ti) (w : World) : (zeroValue T).run P w = .ok ti.zero w := by
  have := h.info
  cases hi : P.info? T with
  | none => rw [hi] at this; cases this
  | some i =>
    rw [hi] at this
    simp at this
    simp [zeroValue, typeInfo, program, Sem.run, hi, this]
theorem TIok.under {T : Nat} {ti : TI} (h : TIok P T ti) : ∃ d, P.underlying T = some d ∧ isAggD d = ti.agg ∧ offsD P d = ti.offs ∧ ikD d = ti.ik ∧ elD P d = ti.el ∧ sortD d = ti.sort := by
  have := h.desc
  cases hi : P.underlying T with
  | none => rw [hi] at this; cases this
  | some d =>
    rw [hi] at this
    simp at this
    exact ⟨d, rfl, this⟩
theorem TIok.under_run {T : Nat} {ti : TI} (h : TIok P T ti) (w : World) : ∃ d, (underlying T).run P w = .ok d w ∧ P.underlying T = some d ∧ isAggD d = ti.agg ∧ offsD P d = ti.offs ∧ ikD d = ti.ik ∧ elD P d = ti.el ∧ sortD d = ti.sort := by
  obtain ⟨d, h1, h2⟩ := h.under
  exact ⟨d, run_underlying h1 w, h1, h2⟩
theorem TIok.isAgg_run {T : Nat} {ti : TI} (h : TIok P T ti) (w : World) : (isAgg T).run P w = .ok ti.agg w := by
  obtain ⟨d, h1, _, h2, _⟩ := h.under_run w
  simp only [isAgg, Sem.run_bind, h1, Result.andThen_ok]
  rw [← h2]
  cases d <;> rfl

theorem run_loadCellsFrom (w : World) (b o : Nat) : ∀ (m i : Nat) (acc : Array Value) (cs : List Value), cs.length = m → (∀ j x, cs[j]? = some x → w.cell? ⟨b, o + (i + j), none⟩ = some x) →
    (loadCellsFrom ⟨b, o, none⟩ i m acc).run P w = .ok (acc ++ cs.toArray) w
  | 0, i, acc, cs, hl, _ => by
    obtain rfl : cs = [] := List.eq_nil_of_length_eq_zero hl
    simp [loadCellsFrom]
  | m + 1, i, acc, [], hl, _ => by cases hl
  | m + 1, i, acc, c :: cs, hl, h => by
    have h0 := h 0 c rfl
    have ih := run_loadCellsFrom w b o m (i + 1) (acc.push c) cs (by simpa using hl) (fun j x hx => by
      have := h (j + 1) x (by simpa using hx)
      rwa [show o + (i + (j + 1)) = o + (i + 1 + j) by omega] at this)
    simp only [Nat.add_zero] at h0
    simp only [loadCellsFrom, Sem.run_bind, run_load, Addr.add_lit, h0, Result.andThen_ok, ih]
    congr 1
    apply Array.ext'
    simp

/-- A struct or an array is read. -/
theorem run_loadVar_agg {T : Nat} {ti : TI} (hT : TIok P T ti) (hagg : ti.agg = true) (w : World) (b o : Nat) (cs : List Value) (hl : cs.length = ti.size) (hc : CellsAt w cs b o) : (loadVar T ⟨b, o, none⟩).run P w = .ok (.agg ⟨cs⟩) w := by
  have := run_loadCellsFrom (P := P) w b o ti.size 0 #[] cs hl (fun j y hy => by rw [Nat.zero_add]; exact hc j y hy)
  simp only [loadVar, Sem.run_bind, hT.isAgg_run, hagg, Result.andThen_ok, if_true, hT.size_run, loadCells, this, Sem.run_pure]
  simp
theorem run_loadVar_one {T : Nat} {ti : TI} (hT : TIok P T ti) (hagg : ti.agg = false) (w : World) (b o : Nat) (x : Value) (hc : w.cell? ⟨b, o, none⟩ = some x) : (loadVar T ⟨b, o, none⟩).run P w = .ok x w := by
  simp only [loadVar, Sem.run_bind, hT.isAgg_run, hagg, Result.andThen_ok]
  simp [hc]

theorem run_loadD {T : Nat} {ti : TI} (hT : TIok P T ti) {w : World} {X : Nat → Prop} {b o off : Nat} {cs : List D} {us : List Value} {x : D} (hr : Reps w X cs us) (hc : CellsAt w us b o) (h : cellsD cs off ti.size ti.agg = some x) :
    ∃ v, (loadVar T ⟨b, o + off, none⟩).run P w = .ok v w ∧ Rep w X x v := by
  unfold cellsD at h
  split at h
  · rename_i hagg
    split at h
    · rename_i l hl
      cases h
      rw [dropL_eq] at hl
      obtain ⟨rfl, hle⟩ := takeL_eq hl
      have h1 : Reps w X ((cs.drop off).take ti.size) ((us.drop off).take ti.size) := (hr.drop off).take ti.size
      refine ⟨.agg ⟨(us.drop off).take ti.size⟩, run_loadVar_agg hT hagg w b (o + off) _ ?_ ((hc.drop off).take _), by simp only [Rep]; exact ⟨_, rfl, h1⟩⟩
      rw [h1.length, List.length_take, Nat.min_eq_left hle]
    · cases h
  · rename_i hagg
    rw [nth_eq] at h
    obtain ⟨v, h1, h2⟩ := hr.get h
    exact ⟨v, run_loadVar_one hT hagg w b (o + off) v (hc off v h1), h2⟩

theorem run_loadS {T : Nat} {ti : TI} (hT : TIok P T ti) {w : World} {X N : Nat → Prop} {b off : Nat} {cs : List SV} {us : List Value} {x : SV} (hr : VReps N ρ w X cs us) (hc : CellsAt w us b 0) (h : cellsS cs off ti.size ti.agg = some x) :
    ∃ v, (loadVar T ⟨b, off, none⟩).run P w = .ok v w ∧ VRep N ρ w X x v := by
  unfold cellsS at h
  split at h
  · rename_i hagg
    split at h
    · rename_i l hl
      split at h
      · rename_i ds hds
        cases h
        rw [dropL_eq] at hl
        obtain ⟨rfl, hle⟩ := takeL_eq hl
        have h1 : VReps N ρ w X ((cs.drop off).take ti.size) ((us.drop off).take ti.size) := (hr.drop off).take ti.size
        have h2 := toDs_sound hds h1
        have hc' : CellsAt w ((us.drop off).take ti.size) b off := by have := (hc.drop off).take ti.size; rwa [Nat.zero_add] at this
        refine ⟨.agg ⟨(us.drop off).take ti.size⟩, run_loadVar_agg hT hagg w b off _ ?_ hc', by simp only [VRep, Rep]; exact ⟨_, rfl, h2⟩⟩
        rw [h1.length, List.length_take, Nat.min_eq_left hle]
      · cases h
    · cases h
  · rename_i hagg
    rw [nth_eq] at h
    obtain ⟨v, h1, h2⟩ := hr.get h
    have := hc off v h1
    rw [Nat.zero_add] at this
    exact ⟨v, run_loadVar_one hT hagg w b off v this, h2⟩

theorem run_fieldAt {T : Nat} {ti : TI} (hT : TIok P T ti) (w : World) (b o f fo ft : Nat) (h : nth ti.offs f = some (fo, ft)) (hne : fo ≠ 1000000) :
    (Instr.fieldAt T (.pointer (some ⟨b, o, none⟩)) f).run P w = .ok (.pointer (some ⟨b, o + fo, none⟩)) w := by
  obtain ⟨d, h1, _, _, h2, _⟩ := hT.under_run w
  rw [nth_eq, ← h2] at h
  cases d with
  | struct fs =>
    simp only [offsD, List.getElem?_map, Array.getElem?_toList] at h
    cases hf : fs[f]? with
    | none => rw [hf] at h; cases h
    | some fd =>
      rw [hf] at h
      simp only [Option.map_some, Option.some.injEq] at h
      split at h
      · cases h; exact absurd rfl hne
      · rename_i hsz
        cases h
        have hsz' : (sizeOf fd.type).run P w = .ok (P.cellsOf fd.type) w := by
          unfold Program.cellsOf at *
          cases hi : P.info? fd.type with
          | none => rw [hi] at hsz; simp at hsz
          | some i => simp [sizeOf, typeInfo, program, Sem.run, hi]
        simp only [Instr.fieldAt, Sem.run_bind, h1, Result.andThen_ok, hf, Instr.sureAddr, Sem.run_pure, fieldPlace, hsz', if_neg hsz, Sem.run_ite, Addr.add_lit]
  | _ => simp [offsD] at h

/-- A bound is met: no panic. -/
theorem run_sliceBound {x : Value} {k : IntKind} {i : Int} {y : Nat} {c : BoundsCode} (hx : x = .int k i) (h0 : 0 ≤ i) (h1 : i ≤ y) (w : World) : (Instr.sliceBound x y c).run P w = .ok i.toNat w := by
  subst hx
  simp [Instr.sliceBound, asIntOf, h0, h1]

theorem bin_sound {op : BinOp} {T : Nat} {X : Nat → Prop} {x y : Value} {p q z : D} {zl : List Prop} (h : bin op p q = some (z, zl)) (hv : vcs zl) (w : World) (hx : Rep w X p x) (hy : Rep w X q y) (ox oy : Operand) :
    ∃ v, (do eqGuard op T ox oy x y; binOp op T x y : Sem Value).run P w = .ok v w ∧ Rep w X z v := by
  unfold bin at h
  split at h
  · rename_i k a k' b
    simp only [Rep] at hx hy
    subst hx; subst hy
    simp only [eqGuard_at_int, pure_bind]
    split at h
    · cases h
      have h0 : 0 ≤ b := hv
      simp only [binOp_shl, Op.shift]
      rw [if_neg (by omega)]; exact ⟨_, rfl, by simp only [Rep]⟩
    · cases h
      have h0 : 0 ≤ b := hv
      simp only [binOp_shr, Op.shift]
      rw [if_neg (by omega)]; exact ⟨_, rfl, by simp only [Rep]⟩
    · rename_i hnl hnr
      split at h
      · rename_i hk
        have hk := of_decide_eq_true hk
        subst hk
        split at h
        all_goals (try (cases h))
        · rw [binOp_add]; exact ⟨_, rfl, by simp only [Rep]⟩
        · rw [binOp_sub]; exact ⟨_, rfl, by simp only [Rep]⟩
        · rw [binOp_mul]; exact ⟨_, rfl, by simp only [Rep]⟩
        · have h0 : b ≠ 0 := hv
          rw [binOp_quo]; simp only [Op.intDiv]; rw [if_neg h0]; exact ⟨_, rfl, by simp only [Rep]⟩
        · have h0 : b ≠ 0 := hv
          rw [binOp_rem]; simp only [Op.intDiv]; rw [if_neg h0]; exact ⟨_, rfl, by simp only [Rep]⟩
        · rw [binOp_eql]; exact ⟨_, rfl, by simp only [Rep]⟩
        · rw [binOp_neq]; exact ⟨_, rfl, by simp only [Rep]⟩
        · rw [binOp_lss]; exact ⟨_, rfl, by simp only [Rep]⟩
        · rw [binOp_leq]; exact ⟨_, rfl, by simp only [Rep]⟩
        · rw [binOp_gtr]; exact ⟨_, rfl, by simp only [Rep]⟩
        · rw [binOp_geq]; exact ⟨_, rfl, by simp only [Rep]⟩
        · refine ⟨.int k (k.wrap ((BitVec.ofInt k.bits a &&& BitVec.ofInt k.bits b).toNat : Int)), ?_, by simp only [Rep]⟩
          simp [binOp, Op.intBits]
        · refine ⟨.int k (k.wrap ((BitVec.ofInt k.bits a ||| BitVec.ofInt k.bits b).toNat : Int)), ?_, by simp only [Rep]⟩
          simp [binOp, Op.intBits]
        · refine ⟨.int k (k.wrap ((BitVec.ofInt k.bits a ^^^ BitVec.ofInt k.bits b).toNat : Int)), ?_, by simp only [Rep]⟩
          simp [binOp, Op.intBits]
      · cases h
  · rename_i a b
    simp only [Rep] at hx hy
    subst hx; subst hy
    simp only [eqGuard_at_string, pure_bind]
    have ta : (ByteArray.mk ⟨a⟩).toList = a := ByteArray.toList_mk a
    have tb' : (ByteArray.mk ⟨b⟩).toList = b := ByteArray.toList_mk b
    split at h
    all_goals (try (cases h))
    all_goals simp only [binOp, Op.stringOp, ta, tb']
    · have h0 : a.length + b.length ≤ 9223372036854775807 := hv
      have hsz : ((ByteArray.mk ⟨a⟩).size + (ByteArray.mk ⟨b⟩).size) = a.length + b.length := rfl
      rw [hsz, if_neg (by simp [IntKind.max_i64]; omega)]
      refine ⟨.string ⟨⟨a ++ b⟩⟩, ?_, by simp only [Rep]⟩
      show Result.ok _ w = _
      congr 2
    all_goals exact ⟨_, rfl, by simp only [Rep]⟩
  · cases h

theorem bv_sound {X N : Nat → Prop} {y : Option SV} {x : Bool} {c : Option Bool} (h : bv y = some (x, c)) : ∃ z, y = some z ∧ ((c = none ∨ c = some true) → ∀ v, VRep N ρ w X z v → v = .bool x) := by
  unfold bv at h
  split at h
  · cases h; exact ⟨_, rfl, fun _ v hv => by simpa [VRep, Rep] using hv⟩
  · cases h
    refine ⟨_, rfl, fun hc v hv => ?_⟩
    simp only [VRep, Rep] at hv
    rcases hc with hc | hc
    · cases hc
    · cases hc; exact hv.1 rfl
  · cases h

theorem string_size (l : List UInt8) : (ByteArray.mk ⟨l⟩).size = l.length := rfl

theorem execOp_bi {o : Oper} {b : Builtin} {xs : Array Operand} {ats : Array TypeId} (hop : o.op = .call ⟨.builtin b, xs, ats⟩) (ρ : Operand → Value) :
    execOp ρ o = builtin b ats o.type (xs.map fun | .const _ => true | _ => false) (xs.map ρ) := by
  unfold execOp; rw [hop]; rfl

theorem run_equal_bool {T : Nat} {p q : Bool} (hd : (underlying T).run P w = .ok .bool w) : (Op.equal T (.bool p) (.bool q)).run P w = .ok (p == q) w := by
  unfold Op.equal
  generalize hm : Op.maxDepth = m
  cases m with
  | zero => exact absurd hm (by decide)
  | succ m => simp only [Op.equalIn, Sem.run_bind, hd, Result.andThen_ok]; rfl

theorem run_sliceBounds {isS : Bool} {len cap : Nat} {lo hi : Option Value} {i j : Nat} (hlo : (lo = none ∧ i = 0) ∨ ∃ k z, lo = some (.int k z) ∧ 0 ≤ z ∧ z.toNat = i)
    (hhi : (hi = none ∧ j = len) ∨ ∃ k z, hi = some (.int k z) ∧ 0 ≤ z ∧ z.toNat = j) (hij : i ≤ j) (hj : j ≤ cap) (w : World) :
    (Instr.sliceBounds isS len cap lo hi none).run P w = .ok (i, j, cap) w := by
  rcases hlo with ⟨rfl, rfl⟩ | ⟨k, z, rfl, h0, rfl⟩ <;> rcases hhi with ⟨rfl, rfl⟩ | ⟨k', z', rfl, h0', rfl⟩
  · simp [Instr.sliceBounds]
  · have := fun c => run_sliceBound (P := P) (x := .int k' z') (y := cap) (c := c) rfl h0' (by omega) w
    simp [Instr.sliceBounds, this]
  · have := fun c => run_sliceBound (P := P) (x := .int k z) (y := j) (c := c) rfl h0 (by omega) w
    simp [Instr.sliceBounds, this]
  · have := fun c => run_sliceBound (P := P) (x := .int k' z') (y := cap) (c := c) rfl h0' (by omega) w
    have h2 := fun c => run_sliceBound (P := P) (x := .int k z) (y := z'.toNat) (c := c) rfl h0 (by omega) w
    simp [Instr.sliceBounds, this, h2]

theorem extract_mk (l : List UInt8) (i j : Nat) : (ByteArray.mk ⟨l⟩).extract i j = ⟨⟨(l.take j).drop i⟩⟩ := by
  apply ByteArray.ext
  apply Array.ext'
  simp [List.drop_take]

theorem run_slice_string {T : Nat} {ti : TI} (hT : TIok P T ti) (hso : ti.sort = 2) {lo hi : Option Value} {l : List UInt8} {i j : Nat}
    (hlo : (lo = none ∧ i = 0) ∨ ∃ k z, lo = some (.int k z) ∧ 0 ≤ z ∧ z.toNat = i) (hhi : (hi = none ∧ j = l.length) ∨ ∃ k z, hi = some (.int k z) ∧ 0 ≤ z ∧ z.toNat = j)
    (hij : i ≤ j) (hj : j ≤ l.length) (w : World) : (Instr.sliceAt T (.string ⟨⟨l⟩⟩) lo hi none).run P w = .ok (.string ⟨⟨(l.take j).drop i⟩⟩) w := by
  obtain ⟨d, hd, _, _, _, _, _, h5⟩ := hT.under_run w
  rw [hso] at h5
  cases d <;> simp [sortD] at h5
  have hb := run_sliceBounds (P := P) (isS := false) (len := l.length) (cap := l.length) hlo hhi hij hj w
  simp only [Instr.sliceAt, Instr.slice, Sem.run_bind, hd, Result.andThen_ok, Option.isSome_none, Bool.false_eq_true, if_false, Sem.run_pure, string_size, hb, extract_mk]

/-- The elements' size of a slice type. -/
theorem el_size {T z : Nat} {ti : TI} (hT : TIok P T ti) (hel : ti.el = some z) (w : World) : ∃ el, (underlying T).run P w = .ok (.slice el) w ∧ (sizeOf el).run P w = .ok z w := by
  obtain ⟨d, hd, _, _, _, _, h5, _⟩ := hT.under_run w
  rw [hel] at h5
  cases d with
  | slice el =>
    refine ⟨el, hd, ?_⟩
    simp only [elD] at h5
    cases hi : P.info? el with
    | none => rw [hi] at h5; cases h5
    | some i => rw [hi] at h5; simp at h5; simp [sizeOf, typeInfo, program, Sem.run, hi, h5]
  | _ => simp [elD] at h5

theorem run_slice_slice {T z : Nat} {ti : TI} {X : Nat → Prop} {es : List (List D)} {v : Value} (hT : TIok P T ti) (hel : ti.el = some z) {lo hi : Option Value} {i j : Nat}
    (hlo : (lo = none ∧ i = 0) ∨ ∃ k z, lo = some (.int k z) ∧ 0 ≤ z ∧ z.toNat = i) (hhi : (hi = none ∧ j = es.length) ∨ ∃ k z, hi = some (.int k z) ∧ 0 ≤ z ∧ z.toNat = j)
    (hij : i ≤ j) (hj : j ≤ es.length) (w : World) (hr : Rep w X (.sl z es) v) : ∃ u, (Instr.sliceAt T v lo hi none).run P w = .ok u w ∧ Rep w X (.sl z ((es.take j).drop i)) u := by
  obtain ⟨el, hd, hsz⟩ := el_size hT hel w
  simp only [Rep] at hr ⊢
  obtain ⟨base, cap, rfl, h2, h3, h4⟩ := hr
  have hb := run_sliceBounds (P := P) (isS := true) (len := es.length) (cap := cap) hlo hhi hij (by omega) w
  have hlen : ((es.take j).drop i).length = j - i := by simp; omega
  refine ⟨.slice (if cap = i then base else base.map (·.add (i * z))) (j - i) (cap - i), ?_, if cap = i then base else base.map (·.add (i * z)), cap - i, by rw [hlen], by rw [hlen]; omega, fun hb => ?_, fun ad had hne => ?_⟩
  · simp only [Instr.sliceAt, Instr.slice, Sem.run_bind, hd, Result.andThen_ok, Sem.run_pure, hb, hsz]
  · split at hb
    · have := h3 hb; subst this; simp
    · simp at hb; have := h3 hb; subst this; simp
  · have hne' : es ≠ [] := fun h => hne (by rw [h]; simp)
    split at had
    · rename_i he
      exact absurd (List.eq_nil_of_length_eq_zero (by rw [hlen]; omega)) hne
    · simp only [Option.map_eq_some_iff] at had
      obtain ⟨ad', had, rfl⟩ := had
      obtain ⟨h5, h6, h7, h8⟩ := h4 ad' had hne'
      obtain ⟨b', o', e'⟩ := ad'
      simp only at h5
      subst h5
      rw [Addr.add_lit]
      exact ⟨rfl, h6, h7, h8.part⟩

end Go.V
