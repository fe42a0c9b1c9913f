/- The engine: slice expressions with a capacity; a text appended to bytes of the call's own; a cell that is nil or points to its own block. No program in sight. -/
import Derived.Test.YtinickkcieecdaaGreatDoorVo
import Derived.Lib.AppendStr
set_option linter.unusedVariables false
namespace Go.V
open Go.RowKit

variable {P : Program} {n : Nat} {B : Base} {st : St} {tb : List (Nat × TI)} {Q : Exit → Act → World → Prop} {ρ : Nat → Value} {a : Act} {w : World} {L : Nat → Prop}

/-! ### A slice with a capacity -/

theorem run_sliceBounds3 {isS : Bool} {len cap : Nat} {lo : Option Value} {i j q : Nat} {k2 k3 : IntKind} {z2 z3 : Int} (hlo : (lo = none ∧ i = 0) ∨ ∃ k z, lo = some (.int k z) ∧ 0 ≤ z ∧ z.toNat = i)
    (h2 : 0 ≤ z2) (h2' : z2.toNat = j) (h3 : 0 ≤ z3) (h3' : z3.toNat = q) (hij : i ≤ j) (hj : j ≤ q) (hq : q ≤ cap) (w : World) :
    (Instr.sliceBounds isS len cap lo (some (.int k2 z2)) (some (.int k3 z3))).run P w = .ok (i, j, q) w := by
  have e3 := fun c => run_sliceBound (P := P) (x := .int k3 z3) (y := cap) (c := c) rfl h3 (by omega) w
  have e2 := fun c => run_sliceBound (P := P) (x := .int k2 z2) (y := z3.toNat) (c := c) rfl h2 (by omega) w
  subst h2'; subst h3'
  rcases hlo with ⟨rfl, rfl⟩ | ⟨k, z, rfl, h0, rfl⟩
  · simp [Instr.sliceBounds, e3, e2]
  · have e1 := fun c => run_sliceBound (P := P) (x := .int k z) (y := z2.toNat) (c := c) rfl h0 (by omega) w
    simp [Instr.sliceBounds, e3, e2, e1]

theorem run_slice_slice3 {T z : Nat} {ti : TI} {X : Nat → Prop} {es : List (List D)} {v : Value} (hT : TIok P T ti) (hel : ti.el = some z) {lo : Option Value} {i j q : Nat} {k2 k3 : IntKind} {z2 z3 : Int}
    (hlo : (lo = none ∧ i = 0) ∨ ∃ k z, lo = some (.int k z) ∧ 0 ≤ z ∧ z.toNat = i) (h2 : 0 ≤ z2) (h2' : z2.toNat = j) (h3 : 0 ≤ z3) (h3' : z3.toNat = q)
    (hij : i ≤ j) (hj : j ≤ q) (hq : q ≤ es.length) (w : World) (hr : Rep w X (.sl z es) v) : ∃ u, (Instr.sliceAt T v lo (some (.int k2 z2)) (some (.int k3 z3))).run P w = .ok u w ∧ Rep w X (.sl z ((es.take j).drop i)) u := by
  obtain ⟨el, hd, hsz⟩ := el_size hT hel w
  simp only [Rep] at hr ⊢
  obtain ⟨base, cap, rfl, g2, g3, g4⟩ := hr
  have hb := run_sliceBounds3 (P := P) (isS := true) (len := es.length) (cap := cap) (k2 := k2) (k3 := k3) hlo h2 h2' h3 h3' hij hj (by omega) w
  have hlen : ((es.take j).drop i).length = j - i := by simp; omega
  refine ⟨.slice (if q = i then base else base.map (·.add (i * z))) (j - i) (q - i), ?_, if q = i then base else base.map (·.add (i * z)), q - i, by rw [hlen], by rw [hlen]; omega, fun hb => ?_, fun ad had hne => ?_⟩
  · simp only [Instr.sliceAt, Instr.slice, Sem.run_bind, hd, Result.andThen_ok, Sem.run_pure, hb, hsz]
  · split at hb
    · have := g3 hb; subst this; simp
    · simp at hb; have := g3 hb; subst this; simp
  · have hne' : es ≠ [] := fun h => hne (by rw [h]; simp)
    split at had
    · rename_i he
      exact absurd (List.eq_nil_of_length_eq_zero (by rw [hlen]; omega)) hne
    · simp only [Option.map_eq_some_iff] at had
      obtain ⟨ad', had, rfl⟩ := had
      obtain ⟨h5, h6, h7, h8⟩ := g4 ad' had hne'
      obtain ⟨b', o', e'⟩ := ad'
      simp only at h5
      subst h5
      rw [Addr.add_lit]
      exact ⟨rfl, h6, h7, h8.part⟩

def sl3Of (tb : List (Nat × TI)) (G : List (Nat × List D)) (S : List (Nat × SV)) : Op → Option (Nat × List (List D) × Int × Int × Int × List Prop)
  | .slice T x none (some h) (some m) =>
    match get tb T, o1 G S x, o1 G S h, o1 G S m with
    | some ⟨_, _, _, _, _, some z, _⟩, some (.v d, l1), some (.v (.int _ j), l3), some (.v (.int _ q), l4) =>
      match asSl z d with
      | some es => some (z, es, 0, j, q, l1 ++ (l3 ++ l4))
      | none => none
    | _, _, _, _ => none
  | .slice T x (some lo) (some h) (some m) =>
    match get tb T, o1 G S x, o1 G S lo, o1 G S h, o1 G S m with
    | some ⟨_, _, _, _, _, some z, _⟩, some (.v d, l1), some (.v (.int _ i), l2), some (.v (.int _ j), l3), some (.v (.int _ q), l4) =>
      match asSl z d with
      | some es => some (z, es, i, j, q, l1 ++ (l2 ++ (l3 ++ l4)))
      | none => none
    | _, _, _, _, _ => none
  | _ => none

theorem q_slice3 (hP : TblOk P tb) {o : Oper} {sl ns : List Nat} {z : Nat} {es es2 : List (List D)} {i j q : Int} {l : List Prop} (h : sl3Of tb B.G (pickL st.S sl) o.op = some (z, es, i, j, q, l)) (hl : vcs l)
    (hi : 0 ≤ i ∧ i ≤ j ∧ j ≤ q ∧ q ≤ (es.length : Int)) (he : (es.take j.toNat).drop i.toNat = es2) : QOk P B n o sl ns st (.v (.sl z es2)) := by
  subst he
  intro st' a ρ w L hag hs
  have hS : ∀ t x, get (pickL st.S sl) t = some x → get st'.S t = some x := fun t x ht => by obtain ⟨h1, h2⟩ := pickL_some ht; rw [hag.S t h1]; exact h2
  unfold sl3Of at h
  split at h
  · rename_i T x hh mm hop
    split at h
    · rename_i z' s' d l1 k2 j' l3 k3 q' l4 hT h1 h3 h4
      split at h
      · rename_i es' hes
        cases h
        obtain ⟨v1, v2⟩ := vcs_append hl
        obtain ⟨v3, v4⟩ := vcs_append v2
        have e1 := o1_sound hs hS h1 v1
        have e3 := o1_sound hs hS h3 v3
        have e4 := o1_sound hs hS h4 v4
        simp only [VRep] at e1 e3 e4
        simp only [Rep] at e3 e4
        have e1 := asSl_sound hes e1
        obtain ⟨u, hu, hrep⟩ := run_slice_slice3 (P := P) (hP.get hT) rfl (lo := none) (i := (0 : Int).toNat) (j := j.toNat) (q := q.toNat) (k2 := k2) (k3 := k3) (z2 := j) (z3 := q) (.inl ⟨rfl, rfl⟩) (by omega) rfl (by omega) rfl (by omega) (by omega) (by omega) w e1
        refine ⟨u, ?_, by simpa only [VRep] using hrep⟩
        simp only [execOp, hop, e3, e4, Sem.run_bind, Option.map_none, Option.map_some] at hu ⊢
        rw [hu]
        rfl
      · cases h
    · cases h
  · rename_i T x lo hh mm hop
    split at h
    · rename_i z' s' d l1 k1 i' l2 k2 j' l3 k3 q' l4 hT h1 h2 h3 h4
      split at h
      · rename_i es' hes
        cases h
        obtain ⟨v1, v2⟩ := vcs_append hl
        obtain ⟨v3, v4⟩ := vcs_append v2
        obtain ⟨v5, v6⟩ := vcs_append v4
        have e1 := o1_sound hs hS h1 v1
        have e2 := o1_sound hs hS h2 v3
        have e3 := o1_sound hs hS h3 v5
        have e4 := o1_sound hs hS h4 v6
        simp only [VRep] at e1 e2 e3 e4
        simp only [Rep] at e2 e3 e4
        have e1 := asSl_sound hes e1
        obtain ⟨u, hu, hrep⟩ := run_slice_slice3 (P := P) (hP.get hT) rfl (lo := some (.int k1 i)) (i := i.toNat) (j := j.toNat) (q := q.toNat) (k2 := k2) (k3 := k3) (z2 := j) (z3 := q) (.inr ⟨k1, i, rfl, by omega, rfl⟩) (by omega) rfl (by omega) rfl (by omega) (by omega) (by omega) w e1
        refine ⟨u, ?_, by simpa only [VRep] using hrep⟩
        simp only [execOp, hop, e2, e3, e4, Sem.run_bind, Option.map_some] at hu ⊢
        rw [hu]
        rfl
      · cases h
    · cases h
  · cases h

/-! ### A cell that is nil or points to its own block -/

theorem sat_spNil (hs : Sat B n st ρ a w L) {j i ty : Nat} {cs : List SV} (hj : get st.O j = some (.blk ty cs)) (hx : nth cs i = some (.v (.raw (.pointer none)))) :
    Sat B n ⟨st.S, (j, .blk ty (cs.set i (.sp j))) :: st.O⟩ ρ a w L := by
  have hN : ∀ m, nmO st.O m → nmO ((j, Ob.blk ty (cs.set i (.sp j))) :: st.O) m ∧ ρ m = ρ m := fun m h => ⟨nmO_cons h, rfl⟩
  have old : ∀ {m o}, get ((j, Ob.blk ty (cs.set i (.sp j))) :: st.O) m = some o → ∃ o', get st.O m = some o' ∧ o'.live = o.live := fun {m o} h => by
    by_cases e : j = m
    · subst e; rw [get_cons_self] at h; cases h; exact ⟨_, hj, rfl⟩
    · rw [get_cons_ne _ _ e] at h; exact ⟨o, h, rfl⟩
  refine hs.go (Step.refl _ _) (fun b hb => hs.low b (.inr hb)) hN hs.size hs.defers (fun t' y hy => ?_) (fun m o hm => ?_) (fun m o m' o' hm hm' hne l1 l2 b hb hb' => ?_)
  · obtain ⟨v, h1, h2⟩ := hs.slot t' y hy
    exact ⟨v, h1, VRep.keep hN (Keep.refl _ _) y v h2⟩
  · by_cases e : j = m
    · subst e; rw [get_cons_self] at hm; cases hm
      obtain ⟨b, vs, g1, g2, g3, g4⟩ := hs.obj j _ hj
      refine ⟨b, vs, g1, g2, g3, VReps.put i (VReps.keep hN (Keep.refl _ _) cs vs g4) (fun v hv => ?_)⟩
      rw [nth_eq] at hx
      obtain ⟨v', h1, h2⟩ := g4.get hx
      rw [hv] at h1; cases h1
      simp only [VRep, Rep] at h2 ⊢
      exact ⟨nmO_self, .inl h2⟩
    · rw [get_cons_ne _ _ e] at hm
      exact (hs.obj m o hm).keep hN (Keep.refl _ _) (fun _ b _ => ⟨rfl, id⟩)
  · obtain ⟨q1, r1, r2⟩ := old hm
    obtain ⟨q2, r3, r4⟩ := old hm'
    exact hs.inj m q1 m' q2 r1 r3 hne (r2.trans l1) (r4.trans l2) b hb hb'
theorem WC.spNil {c : Code} (j i : Nat) {ty : Nat} {cs cs2 : List SV} (hj : get st.O j = some (.blk ty cs)) (hx : nth cs i = some (.v (.raw (.pointer none)))) (he : cs.set i (.sp j) = cs2) (h : WC P B n ⟨st.S, (j, .blk ty cs2) :: st.O⟩ c Q) : WC P B n st c Q := fun a ρ w L hs => by subst he; exact h a ρ w L (sat_spNil hs hj hx)
theorem WQ.spNil {e : Exit} (j i : Nat) {ty : Nat} {cs cs2 : List SV} (hj : get st.O j = some (.blk ty cs)) (hx : nth cs i = some (.v (.raw (.pointer none)))) (he : cs.set i (.sp j) = cs2) (h : WQ B n ⟨st.S, (j, .blk ty cs2) :: st.O⟩ Q e) : WQ B n st Q e := fun a ρ w L hs => by subst he; exact h a ρ w L (sat_spNil hs hj hx)
theorem WL.spNil {ops rest : List Oper} (j i : Nat) {ty : Nat} {cs cs2 : List SV} (hj : get st.O j = some (.blk ty cs)) (hx : nth cs i = some (.v (.raw (.pointer none)))) (he : cs.set i (.sp j) = cs2) (h : WL P B n ⟨st.S, (j, .blk ty cs2) :: st.O⟩ ops Q rest) : WL P B n st ops Q rest := fun a ρ w L hs => by subst he; exact h a ρ w L (sat_spNil hs hj hx)
theorem WL.rowNilB {ops rest : List Oper} (j i k T sz : Nat) {ty : Nat} {cs cs2 : List SV} (hj : get st.O j = some (.blk ty cs)) (hx : nth cs i = some (.v (.raw (.slice none 0 0)))) (hfr : get st.O k = none) (he : cs.set i (.r k) = cs2) (h : WL P B n ⟨st.S, (j, .blk ty cs2) :: (k, .row T sz []) :: st.O⟩ ops Q rest) : WL P B n st ops Q rest := fun a ρ w L hs => by subst he; obtain ⟨ρ', s'⟩ := sat_rowNilB hs T sz hj hx hfr; exact h a ρ' w L s'

/-! ### A text appended to bytes -/

/-- What a table says of the type of bytes' slices. -/
structure ApBytes (P : Program) (T e : Nat) : Prop where
  under : P.underlying T = some (.slice e)
  info : (P.info? e).map (fun i => (i.zero, i.size, i.bytes)) = some (some (.int .u8 0), 1, 1)

theorem run_append_mine_str {T e : Nat} (hT : ApBytes P T e) (u : TypeId) (hu2 : P.underlying u = some .string) (ty : Nat) (v : Value) (m0 : Nat) (xs : List Value) (hown : OwnsR w e 1 v m0 xs) (s : ByteArray)
    (hb : m0 + s.size ≤ 137438953472) : ∃ v' w', (Builtin.append_ #[T, u] ty #[v, .string s]).run P w = .ok v' w' ∧ OwnsR w' e 1 v' (m0 + s.size) (xs ++ Lib.strCells s) ∧ w.grownBy w' v.ownBlock ∧ (∀ g, v'.ownBlock = some g → v.ownBlock = some g ∨ w.heap.size ≤ g) := by
  obtain ⟨hu, hi⟩ := hT
  cases hinf : P.info? e with
  | none => rw [hinf] at hi; cases hi
  | some i =>
    rw [hinf] at hi
    simp only [Option.map_some, Option.some.injEq, Prod.mk.injEq] at hi
    obtain ⟨hz, i1, i2⟩ := hi
    have h63 : m0 + s.size ≤ maxLen := by simp only [maxLen]; omega
    have hsl : (Lib.strCells s).length = s.size := Lib.strCells_length s
    rcases hown.2 with ⟨rfl, rfl⟩ | ⟨g, cap, cur, fz, rfl, hg, hfz, hnc, hcm, hcs, htake⟩
    · obtain ⟨v2, w2, hr2, k2, k3, k4⟩ := Lib.run_append_own_string (P := P) w w.heap.size T u ty e i hu hu2 hinf hz i1 i2 (.slice none 0 0) 0 xs ⟨hown.1, .inl ⟨rfl, rfl⟩⟩ s h63 (by omega) (Nat.le_refl _)
      exact ⟨v2, w2, hr2, OwnsR.of k2, k3, fun g hg => .inr (k2.lt g hg).1⟩
    · by_cases hroom : m0 + s.size ≤ cap
      · have hfit : m0 * 1 + (Lib.strCells s).length ≤ cur.size := by rw [hsl, hcs]; omega
        have hf := Lib.run_firstCells_string (P := P) w 1 s
        have hst := run_storeCells_open P g m0 e fz (Lib.strCells s) 0 cur w hg hfz (by simpa using hfit) (Lib.strCells_oneCell s)
        simp only [Nat.add_zero] at hst
        refine ⟨_, _, ?_, owns_room (news := Lib.strCells s) hg hfz hown.1 (by rw [hsl, Nat.mul_one]) hroom hcm hcs htake, grown_room g m0 cap _, fun g' hg' => .inl hg'⟩
        simp only [Nat.mul_one]
        simp [Builtin.append_, run_underlying hu, run_underlying hu2, sizeOf, typeInfo, hinf, i1, Builtin.lenOf, hroom, hf, Addr.add_lit, hst]
      · have holds : ∀ j u, xs[j]? = some u → w.cell? ((⟨g, 0, none⟩ : Addr).add j) = some u := hown.cells (g := g) rfl
        have hr2 := Lib.run_append_grow_string (P := P) w T u ty e i (.int .u8 0) hu hu2 hinf hz ⟨g, 0, none⟩ m0 cap xs (by rw [i1]; exact hown.1) holds s (by omega) (by omega) (by rw [i2]; exact growslice_fits (by omega) (by omega))
        have hgr := owns_grown (w := w) (e := e) (old := cap) (size := 1) (z := .int .u8 0) (news := Lib.strCells s) rfl hown.1 (by rw [hsl, Nat.mul_one]) h63 (Value.ownBlock (.slice (some ⟨g, 0, none⟩) m0 cap))
        refine ⟨_, _, hr2, hgr.1, hgr.2, fun g' hg' => ?_⟩
        simp [Value.ownBlock] at hg'
        exact .inr (by omega)

/-- After an append of whatever, onto a slice of the call's own. -/
theorem sat_appended (hs : Sat B n st ρ a w L) {d e sz : Nat} {v v' : Value} {w' : World} {es : List (List D)} {rows nrows : List (List Value)} {news : List (List D)} (hd : inB n d = true) (hfr : get st.O d = none)
    (h1 : RepRows w (un B.F L) es rows) (h2 : ∀ r, r ∈ rows → r.length = sz) (h3 : OwnsR w e sz v rows.length rows.flatten) (h4 : ∀ b, ob v = some b → L b)
    (k1 : RepRows w (un B.F L) news nrows) (k2 : ∀ r, r ∈ nrows → r.length = sz) (q2 : OwnsR w' e sz v' (rows ++ nrows).length (rows ++ nrows).flatten) (q3 : w.grownBy w' v.ownBlock) (q4 : ∀ g, v'.ownBlock = some g → v.ownBlock = some g ∨ w.heap.size ≤ g)
    {O' : List (Nat × Ob)} (hO' : ∀ j, (get O' j).isSome = (get st.O j).isSome) (hO2 : ∀ j o, get O' j = some o → get st.O j = some o ∨ o = .dead) (hO3 : ∀ j o, get O' j = some o → o.live = true → ∀ b, ob v = some b → ob (ρ j) ≠ some b) :
    ∃ L', Sat B n ⟨(d, .r d) :: st.S, (d, .row e sz (es ++ news)) :: O'⟩ (upd ρ d v') (a.put (some d) v') w' L' := by
  have hd' : d < n := by simpa [inB] using hd
  have hv' := ob_row q2
  have hv := ob_row h3
  have hL : ∀ g, ob v' = some g → L g ∨ w.heap.size ≤ g := fun g hg => by
    rw [hv'] at hg
    rcases q4 g hg with h | h
    · exact .inl (h4 g (by rw [hv]; exact h))
    · exact .inr h
  have hstep : Step L w (fun b => L b ∨ ob v' = some b) w' := ⟨q3.os, q3.tape, q3.output, q3.size, fun b hb hnL => q3.block b hb (fun e => hnL (h4 b (by rw [hv]; exact e.symm))), fun b h => by
    rcases h with h | h
    · exact .inl h
    · exact hL b h⟩
  have hkp : Keep w (un B.F L) w' (un B.F fun b => L b ∨ ob v' = some b) := keep_of_step hstep
  have hN : ∀ j, nmO st.O j → nmO ((d, Ob.row e sz (es ++ news)) :: O') j ∧ upd ρ d v' j = ρ j := fun j h => ⟨nmO_cons (by unfold nmO; rw [hO']; exact h), upd_ne (nmO_ne h hfr)⟩
  have hlt' : ∀ b, ob v' = some b → b < w'.heap.size := fun b hb => by
    rcases q2.2 with ⟨e1, _⟩ | ⟨g, cap, cur, fz, e1, e3, _⟩
    · rw [e1] at hb; simp [ob] at hb
    · rw [e1] at hb; simp only [ob, Option.some.injEq] at hb; subst hb; exact (Array.getElem?_eq_some_iff.1 e3).1
  refine ⟨_, hs.go hstep (fun b hb => ?_) hN (by simp [Act.put, hs.size]) hs.defers (fun t z hz => ?_) (fun j o hj => ?_) (fun j o j' o' hj hj' hne l1 l2 b hb1 hb2 => ?_)⟩
  · rcases hb with h | h
    · exact Nat.lt_of_lt_of_le (hs.low b (.inr h)) hstep.size
    · exact hlt' b h
  · simp only [Act.put]
    by_cases hdt : d = t
    · subst hdt; rw [get_cons_self] at hz; cases hz
      exact ⟨v', by simp [hs.size, hd'], by simp only [VRep]; exact ⟨nmO_self, upd_self.symm⟩⟩
    · rw [get_cons_ne _ _ hdt] at hz
      obtain ⟨x, g1, g2⟩ := hs.slot t z hz
      exact ⟨x, by rw [Array.getElem?_setIfInBounds_ne hdt]; exact g1, VRep.keep hN hkp z x g2⟩
  · by_cases e : d = j
    · subst e; rw [get_cons_self] at hj; cases hj
      rw [upd_self]
      exact ⟨rows ++ nrows, RepRows.app (RepRows.keep hkp _ _ h1) (RepRows.keep hkp _ _ k1), fun r hr => (List.mem_append.1 hr).elim (h2 r) (k2 r), q2, fun b hb => .inr hb⟩
    · rw [get_cons_ne _ _ e] at hj
      rw [upd_ne (fun e' => e e'.symm)]
      rcases hO2 j o hj with h | rfl
      · refine (hs.obj j o h).keep hN hkp (fun hl b hb => ⟨q3.block b (hs.low b (.inr (hs.own h hl hb))) (fun e' => hO3 j o hj hl b (by rw [hv]; exact e'.symm) hb), .inl⟩)
      · exact hs.cellN j (by unfold nmO; rw [← hO', hj]; rfl)
  · have old : ∀ {j o}, j ≠ d → get ((d, Ob.row e sz (es ++ news)) :: O') j = some o → o.live = true → get st.O j = some o := fun {j o} hjd h hl => by
      rw [get_cons_ne _ _ (fun e => hjd e.symm)] at h
      rcases hO2 j o h with h | rfl
      · exact h
      · cases hl
    have apart : ∀ {j o}, j ≠ d → get ((d, Ob.row e sz (es ++ news)) :: O') j = some o → o.live = true → ∀ b, ob v' = some b → ob (ρ j) ≠ some b := fun {j o} hjd h hl b hb hb' => by
      have hold := old hjd h hl
      rw [get_cons_ne _ _ (fun e => hjd e.symm)] at h
      rw [hv'] at hb
      rcases q4 b hb with h5 | h5
      · exact hO3 j o h hl b (by rw [hv]; exact h5) hb'
      · have := hs.low b (.inr (hs.own hold hl hb')); omega
    by_cases e1 : j = d
    · subst e1
      have e2 : j' ≠ j := fun e => hne e.symm
      rw [upd_self] at hb1; rw [upd_ne e2] at hb2
      exact apart e2 hj' l2 b hb1 hb2
    · by_cases e2 : j' = d
      · subst e2
        rw [upd_self] at hb2; rw [upd_ne e1] at hb1
        exact apart e1 hj l1 b hb2 hb1
      · rw [upd_ne e1] at hb1; rw [upd_ne e2] at hb2
        exact hs.inj j o j' o' (old e1 hj l1) (old e2 hj' l2) hne l1 l2 b hb1 hb2

def apsOf (tb : List (Nat × TI)) (G : List (Nat × List D)) (S : List (Nat × SV)) : Op → Option (Nat × Nat × List UInt8 × List Prop)
  | .call ⟨.builtin .append, ⟨[x, y]⟩, ⟨[T, U]⟩⟩ =>
    match get tb U, o1 G S x, o1 G S y with
    | some ⟨_, _, _, _, _, _, 2⟩, some (.r k, l), some (.v (.str s), m) => some (T, k, s, l ++ m)
    | _, _, _ => none
  | _ => none

theorem OpOk.appendS (hP : TblOk P tb) {ops : List Oper} {o : Oper} {T e d k : Nat} {es es2 : List (List D)} {s : List UInt8} {l : List Prop} {sl ns ws wn : List Nat} (hT : ApBytes P T e) (hg : o.guard = none) (ho : o.dst = some d) (hd : inB n d = true)
    (h : apsOf tb B.G (pickL st.S sl) o.op = some (T, k, s, l)) (hk : get (pickL st.O ns) k = some (.row e 1 es)) (hl : vcs l) (hb : es.length + s.length ≤ 137438953472) (hdn : has d ns = true) (hfr : get (pickL st.O ns) d = none) (he2 : es ++ (s.map fun b => [D.int .u8 (b.toNat : Int)]) = es2) :
    OpOk P B n ops Q o ⟨sl, ns, ws, wn⟩ st ⟨[(d, .r d)], [(d, .row e 1 es2), (k, .dead)]⟩ := by
  subst he2
  intro st' a ρ w L K hag hs hK
  have hS : ∀ t x, get (pickL st.S sl) t = some x → get st'.S t = some x := fun t x ht => by obtain ⟨h1, h2⟩ := pickL_some ht; rw [hag.S t h1]; exact h2
  have hO : ∀ t x, get (pickL st.O ns) t = some x → get st'.O t = some x := fun t x ht => by obtain ⟨h1, h2⟩ := pickL_some ht; rw [hag.O t h1]; exact h2
  have hfr' : get st'.O d = none := by rw [hag.O d (has_iff.1 hdn)]; exact pickL_none (has_iff.1 hdn) hfr
  unfold apsOf at h
  split at h
  · rename_i x y T1 U hop
    split at h
    · rename_i k1 l1 s1 m1 hq h1 h2
      cases h
      obtain ⟨v1, v2⟩ := vcs_append hl
      have hk1 := hO k _ hk
      have e1 := o1_sound hs hS h1 v1
      have e2 := o1_sound hs hS h2 v2
      simp only [VRep] at e1 e2
      simp only [Rep] at e2
      obtain ⟨rows, g1, g2, g3, g4⟩ := hs.obj k _ hk1
      have hlen := g1.length
      obtain ⟨v', w', r1, r2, r3, r4⟩ := run_append_mine_str (P := P) (w := w) hT U (under_string (hP.get hq) rfl) o.type (ρ k) rows.length rows.flatten g3 ⟨⟨s⟩⟩ (by show rows.length + s.length ≤ _; omega)
      have hsz : (⟨⟨s⟩⟩ : ByteArray).size = s.length := rfl
      have hcells : Lib.strCells ⟨⟨s⟩⟩ = (s.map fun b => [Value.int .u8 (b.toNat : Int)]).flatten := by rw [flat_bytes]; rfl
      obtain ⟨L', hsat⟩ := sat_appended (O' := (k, .dead) :: st'.O) hs (d := d) (e := e) (sz := 1) (v := ρ k) (v' := v') (w' := w') (news := s.map fun b => [D.int .u8 (b.toNat : Int)]) hd hfr' g1 g2 g3 g4 (rows_bytes s) (fun r hr => by obtain ⟨b, _, rfl⟩ := List.mem_map.1 hr; rfl)
        (by rw [List.length_append, List.flatten_append, List.length_map, ← hcells, ← hsz]; exact r2) r3 r4 (fun j => by
          by_cases e : k = j
          · subst e; rw [get_cons_self, hk1]; rfl
          · rw [get_cons_ne _ _ e]) (fun j o hj => by
          by_cases e : k = j
          · subst e; rw [get_cons_self] at hj; cases hj; exact .inr rfl
          · rw [get_cons_ne _ _ e] at hj; exact .inl hj) (fun j o hj hl b hb => by
          by_cases e : k = j
          · subst e; rw [get_cons_self] at hj; cases hj; cases hl
          · rw [get_cons_ne _ _ e] at hj; exact hs.inj k _ j o hk1 hj e rfl hl b hb)
      refine wpO_value hg (v := v') (w' := w') ?_ (by rw [ho]; exact hK _ _ ⟨_, _, hsat⟩)
      unfold execOp
      rw [hop]
      rw [← e1.2] at r1
      simp only [resolve, invoke, builtin, Sem.run_bind, Sem.run_pure, Result.andThen_ok, List.map_toArray, List.map_cons, List.map_nil, e2, r1]
    · cases h
  · cases h

theorem WL.appendS (hP : TblOk P tb) {ops rest : List Oper} {o : Oper} {T e d k : Nat} {es : List (List D)} (es2 : List (List D)) {s : List UInt8} {l : List Prop} {st' : St} (ns : List Nat) (hT : ApBytes P T e) (hg : o.guard = none) (ho : o.dst = some d) (hd : inB n d = true)
    (h : apsOf tb B.G (pickL st.S (rd ops o)) o.op = some (T, k, s, l)) (hk : get (pickL st.O ns) k = some (.row e 1 es)) (hl : vcs l) (hb : es.length + s.length ≤ 137438953472) (hdn : has d ns = true) (hfr : get (pickL st.O ns) d = none) (he2 : es ++ (s.map fun b => [D.int .u8 (b.toNat : Int)]) = es2)
    (hst : addK st [(d, .r d)] [(d, .row e 1 es2), (k, .dead)] = some st') (hw : WL P B n st' ops Q rest) : WL P B n st ops Q (o :: rest) :=
  WL.op (OpOk.appendS (ws := []) (wn := []) hP hT hg ho hd h hk hl hb hdn hfr he2) (by rw [addK_eq hst]; exact hw)
theorem WR.appendS (hP : TblOk P tb) {ops rest : List Oper} {o : Oper} {done : List Key} {T e d k : Nat} {es : List (List D)} (es2 : List (List D)) {s : List UInt8} {l : List Prop} {st' : St} (ns : List Nat) (hT : ApBytes P T e) (hg : o.guard = none) (ho : o.dst = some d) (hd : inB n d = true)
    (h : apsOf tb B.G (pickL st.S (rd ops o)) o.op = some (T, k, s, l)) (hk : get (pickL st.O ns) k = some (.row e 1 es)) (hl : vcs l) (hb : es.length + s.length ≤ 137438953472) (hdn : has d ns = true) (hfr : get (pickL st.O ns) d = none) (he2 : es ++ (s.map fun b => [D.int .u8 (b.toNat : Int)]) = es2)
    (hst : addK st [(d, .r d)] [(d, .row e 1 es2), (k, .dead)] = some st') (hns : subL ns [d, k] = true) (hw : WR P B n st' ops Q (done ++ [⟨rd ops o, ns, [d], [d, k]⟩]) rest) : WR P B n st ops Q done (o :: rest) :=
  WR.cons ⟨rfl, fun j hj => by simpa using hj, fun j hj => subL_spec hns j hj⟩ (OpOk.appendS (ws := [d]) (wn := [d, k]) hP hT hg ho hd h hk hl hb hdn hfr he2) (by rw [addK_eq hst]; exact hw)

/-! ### An append whose result is only read -/

theorem sat_appendedV (hs : Sat B n st ρ a w L) {d e sz : Nat} {v v' : Value} {w' : World} {es : List (List D)} {rows nrows : List (List Value)} {news : List (List D)} (hd : inB n d = true)
    (h1 : RepRows w (un B.F L) es rows) (h2 : ∀ r, r ∈ rows → r.length = sz) (h3 : OwnsR w e sz v rows.length rows.flatten) (h4 : ∀ b, ob v = some b → L b)
    (k1 : RepRows w (un B.F L) news nrows) (k2 : ∀ r, r ∈ nrows → r.length = sz) (q2 : OwnsR w' e sz v' (rows ++ nrows).length (rows ++ nrows).flatten) (q3 : w.grownBy w' v.ownBlock) (q4 : ∀ g, v'.ownBlock = some g → v.ownBlock = some g ∨ w.heap.size ≤ g)
    {O' : List (Nat × Ob)} (hO' : ∀ j, (get O' j).isSome = (get st.O j).isSome) (hO2 : ∀ j o, get O' j = some o → get st.O j = some o ∨ o = .dead) (hO3 : ∀ j o, get O' j = some o → o.live = true → ∀ b, ob v = some b → ob (ρ j) ≠ some b) :
    ∃ L', Sat B n ⟨(d, .v (.sl sz (es ++ news))) :: st.S, O'⟩ ρ (a.put (some d) v') w' L' := by
  have hd' : d < n := by simpa [inB] using hd
  have hv' := ob_row q2
  have hv := ob_row h3
  have hL : ∀ g, ob v' = some g → L g ∨ w.heap.size ≤ g := fun g hg => by
    rw [hv'] at hg
    rcases q4 g hg with h | h
    · exact .inl (h4 g (by rw [hv]; exact h))
    · exact .inr h
  have hstep : Step L w (fun b => L b ∧ ob v' ≠ some b) w' := ⟨q3.os, q3.tape, q3.output, q3.size, fun b hb hnL => q3.block b hb (fun e => hnL (h4 b (by rw [hv]; exact e.symm))), fun b h => .inl h.1⟩
  have hkp : Keep w (un B.F L) w' (un B.F fun b => L b ∧ ob v' ≠ some b) := keep_of_step hstep
  have hN : ∀ j, nmO st.O j → nmO O' j ∧ ρ j = ρ j := fun j h => ⟨by unfold nmO; rw [hO']; exact h, rfl⟩
  have hrep : Rep w' (un B.F fun b => L b ∧ ob v' ≠ some b) (.sl sz (es ++ news)) v' := rep_of_row (Keep.refl _ _) (RepRows.app (RepRows.keep hkp _ _ h1) (RepRows.keep hkp _ _ k1)) (fun r hr => (List.mem_append.1 hr).elim (h2 r) (k2 r)) q2 (fun b hb hx => by
    rcases hx with hx | hx
    · rcases hL b hb with h | h
      · exact hs.dis b hx h
      · have := hs.low b (.inl hx); omega
    · exact hx.2 hb)
  have apart : ∀ {j o}, get O' j = some o → o.live = true → ∀ b, ob v' = some b → ob (ρ j) ≠ some b := fun {j o} h hl b hb hb' => by
    have hold : get st.O j = some o := by
      rcases hO2 j o h with h | rfl
      · exact h
      · cases hl
    rw [hv'] at hb
    rcases q4 b hb with h5 | h5
    · exact hO3 j o h hl b (by rw [hv]; exact h5) hb'
    · have := hs.low b (.inr (hs.own hold hl hb')); omega
  refine ⟨_, hs.go hstep (fun b hb => Nat.lt_of_lt_of_le (hs.low b (.inr hb.1)) hstep.size) hN (by simp [Act.put, hs.size]) hs.defers (fun t z hz => ?_) (fun j o hj => ?_) (fun j o j' o' hj hj' hne l1 l2 b hb1 hb2 => ?_)⟩
  · simp only [Act.put]
    by_cases hdt : d = t
    · subst hdt; rw [get_cons_self] at hz; cases hz
      exact ⟨v', by simp [hs.size, hd'], by simp only [VRep]; exact hrep⟩
    · rw [get_cons_ne _ _ hdt] at hz
      obtain ⟨x, g1, g2⟩ := hs.slot t z hz
      exact ⟨x, by rw [Array.getElem?_setIfInBounds_ne hdt]; exact g1, VRep.keep hN hkp z x g2⟩
  · rcases hO2 j o hj with h | rfl
    · refine (hs.obj j o h).keep hN hkp (fun hl b hb => ⟨q3.block b (hs.low b (.inr (hs.own h hl hb))) (fun e' => hO3 j o hj hl b (by rw [hv]; exact e'.symm) hb), fun hL => ⟨hL, fun e' => apart hj hl b e' hb⟩⟩)
    · exact hs.cellN j (by unfold nmO; rw [← hO', hj]; rfl)
  · have old : ∀ {j o}, get O' j = some o → o.live = true → get st.O j = some o := fun {j o} h hl => by
      rcases hO2 j o h with h | rfl
      · exact h
      · cases hl
    exact hs.inj j o j' o' (old hj l1) (old hj' l2) hne l1 l2 b hb1 hb2

theorem append_src (hs : Sat B n st ρ a w L) {T e sz : Nat} {v : Value} {es : List (List D)} {rows : List (List Value)} {ty : Nat} {y : Value} {news : List (List D)} (hT : ApOk P T e sz)
    (hlen : es.length = rows.length) (h3 : OwnsR w e sz v rows.length rows.flatten) (hy : Rep w (un B.F L) (.sl sz news) y) (hc : ∀ r, r ∈ news → cellDs r = true) (hb : es.length + news.length ≤ 137438953472) :
    ∃ v' w' nrows, (Builtin.append_ #[T, T] ty #[v, y]).run P w = .ok v' w' ∧ RepRows w (un B.F L) news nrows ∧ (∀ r, r ∈ nrows → r.length = sz) ∧ OwnsR w' e sz v' (rows ++ nrows).length (rows ++ nrows).flatten ∧ w.grownBy w' v.ownBlock ∧ (∀ g, v'.ownBlock = some g → v.ownBlock = some g ∨ w.heap.size ≤ g) := by
  simp only [Rep] at hy
  obtain ⟨base, cap, rfl, g2, g3, g4⟩ := hy
  cases hbase : base with
  | none =>
    have := g3 hbase
    subst this
    refine ⟨v, w, [], run_append_none hT ty cap v _ _ h3, by simp [RepRows], (fun r h => by cases h), by simpa using h3, ⟨rfl, rfl, rfl, Nat.le_refl _, fun _ _ _ => rfl⟩, fun g hg => .inl hg⟩
  | some ad =>
    by_cases hne : news = []
    · subst hne
      obtain ⟨v', w', q1, q2, q3, q4⟩ := run_append_mine (w := w) hT ty v rows.length rows.flatten h3 ad 0 cap [] (by simp) (fun j u hj => by simp at hj) (fun u hu => by cases hu) (by omega)
      exact ⟨v', w', [], q1, by simp [RepRows], (fun r h => by cases h), by simpa using q2, q3, q4⟩
    obtain ⟨g5, g6, g7, g8⟩ := g4 ad hbase hne
    obtain ⟨b, o, x⟩ := ad
    simp only at g5; subst g5
    obtain ⟨nrows, k1, k2, k3⟩ := g8.rows
    have hnl := k1.length
    have hfl := flat_length k2
    obtain ⟨v', w', q1, q2, q3, q4⟩ := run_append_mine (w := w) hT ty v rows.length rows.flatten h3 ⟨b, o, none⟩ news.length cap nrows.flatten (by rw [hfl, hnl]) (fun j u hj => by rw [Addr.add_lit]; exact k3 j u hj) (rep_cells k1 hc) (by omega)
    refine ⟨v', w', nrows, q1, k1, k2, ?_, q3, q4⟩
    rw [List.length_append, List.flatten_append, hnl]; exact q2

theorem OpOk.appendV (hP : TblOk P tb) {ops : List Oper} {o : Oper} {T e sz d k : Nat} {es news es2 : List (List D)} {l : List Prop} {sl ns ws wn : List Nat} (hT : ApOk P T e sz) (hg : o.guard = none) (ho : o.dst = some d) (hd : inB n d = true)
    (h : apOf tb B.G (pickL st.S sl) (pickL st.O ns) o.op = some (T, some k, es, news, l)) (hk : get (pickL st.O ns) k = some (.row e sz es)) (hl : vcs l) (hc : ∀ r, r ∈ news → cellDs r = true) (hb : es.length + news.length ≤ 137438953472) (he2 : es ++ news = es2) :
    OpOk P B n ops Q o ⟨sl, ns, ws, wn⟩ st ⟨[(d, .v (.sl sz es2))], [(k, .dead)]⟩ := by
  subst he2
  intro st' a ρ w L K hag hs hK
  have hS : ∀ t x, get (pickL st.S sl) t = some x → get st'.S t = some x := fun t x ht => by obtain ⟨h1, h2⟩ := pickL_some ht; rw [hag.S t h1]; exact h2
  have hO : ∀ t x, get (pickL st.O ns) t = some x → get st'.O t = some x := fun t x ht => by obtain ⟨h1, h2⟩ := pickL_some ht; rw [hag.O t h1]; exact h2
  have hsz : ∀ {z so : Nat} {q0 : Nat} {q1 : Value} {q2 : Bool} {q3 : List (Nat × Nat)} {q4 : Option IntKind}, get tb T = some ⟨q0, q1, q2, q3, q4, some z, so⟩ → z = sz := fun {z so q0 q1 q2 q3 q4} hq => by
    obtain ⟨d, hd1, hd2, _, _, _, h5, _⟩ := (hP.get hq).under_run w
    rw [hT.under] at hd2; cases hd2
    have hi := hT.info
    simp only [elD] at h5
    cases hinf : P.info? e with
    | none => rw [hinf] at hi; cases hi
    | some i => rw [hinf] at hi h5; simp at hi h5; omega
  unfold apOf at h
  split at h
  · rename_i x y T1 T2 hop
    split at h
    · rename_i z so k1 l1 d1 m1 hTT hq h1 h2
      have hTT := Nat.eq_of_beq_eq_true hTT
      subst hTT
      split at h
      · rename_i ty2 sz2 es2 news2 h3 h4
        cases h
        obtain ⟨v1, v2⟩ := vcs_append hl
        have hz := hsz hq
        subst hz
        have hk1 := hO k _ hk
        have e1 := o1_sound hs hS h1 v1
        have e2 := o1_sound hs hS h2 v2
        simp only [VRep] at e1 e2
        have e2 := asSl_sound h4 e2
        obtain ⟨rows, g1, g2, g3, g4⟩ := hs.obj k _ hk1
        obtain ⟨v', w', nrows, r1, k1, k2, q2, q3, q4⟩ := append_src (P := P) (ty := o.type) hs hT g1.length.symm g3 e2 hc hb
        obtain ⟨L', hsat⟩ := sat_appendedV (O' := (k, .dead) :: st'.O) hs (d := d) hd g1 g2 g3 g4 k1 k2 q2 q3 q4 (fun j => by
          by_cases e : k = j
          · subst e; rw [get_cons_self, hk1]; rfl
          · rw [get_cons_ne _ _ e]) (fun j o hj => by
          by_cases e : k = j
          · subst e; rw [get_cons_self] at hj; cases hj; exact .inr rfl
          · rw [get_cons_ne _ _ e] at hj; exact .inl hj) (fun j o hj hl b hb => by
          by_cases e : k = j
          · subst e; rw [get_cons_self] at hj; cases hj; cases hl
          · rw [get_cons_ne _ _ e] at hj; exact hs.inj k _ j o hk1 hj e rfl hl b hb)
        rw [← e1.2] at r1
        refine wpO_value hg (v := v') (w' := w') ?_ (by rw [ho]; exact hK _ _ ⟨_, _, hsat⟩)
        unfold execOp
        rw [hop]
        simp only [resolve, invoke, builtin, Sem.run_bind, Sem.run_pure, Result.andThen_ok, List.map_toArray, List.map_cons, List.map_nil, r1]
      · cases h
    · split at h <;> cases h
    · cases h
  · cases h

theorem WR.appendV (hP : TblOk P tb) {ops rest : List Oper} {o : Oper} {done : List Key} {T e sz d k : Nat} {es news : List (List D)} (es2 : List (List D)) {l : List Prop} {st' : St} (hT : ApOk P T e sz) (hg : o.guard = none) (ho : o.dst = some d) (hd : inB n d = true)
    (h : apOf tb B.G (pickL st.S (rd ops o)) (pickL st.O [k]) o.op = some (T, some k, es, news, l)) (hk : get (pickL st.O [k]) k = some (.row e sz es)) (hl : vcs l) (hc : ∀ r, r ∈ news → cellDs r = true) (hb : es.length + news.length ≤ 137438953472) (he2 : es ++ news = es2)
    (hst : addK st [(d, .v (.sl sz es2))] [(k, .dead)] = some st') (hw : WR P B n st' ops Q (done ++ [⟨rd ops o, [k], [d], [k]⟩]) rest) : WR P B n st ops Q done (o :: rest) :=
  WR.cons ⟨rfl, fun j hj => by simpa using hj, fun j hj => hj⟩ (OpOk.appendV (ns := [k]) (ws := [d]) (wn := [k]) hP hT hg ho hd h hk hl hc hb he2) (by rw [addK_eq hst]; exact hw)

/-! ### A slice that is written out, its elements in other words -/

inductive LeDs : List (List D) → List (List D) → Prop
  | nil : LeDs [] []
  | cons {x y : List D} {xs ys : List (List D)} (h : LeD x y) (hs : LeDs xs ys) : LeDs (x :: xs) (y :: ys)
theorem LeDs.length {xs ys : List (List D)} (h : LeDs xs ys) : xs.length = ys.length := by
  induction h with
  | nil => rfl
  | cons h hs ih => simp [ih]
theorem LeDs.rows {xs ys : List (List D)} (h : LeDs xs ys) : ∀ {w X sz b o}, RowsAt w X sz xs b o → RowsAt w X sz ys b o := by
  induction h with
  | nil => intro w X sz b o h; exact h
  | cons h hs ih =>
    intro w X sz b o hr
    simp only [RowsAt] at hr ⊢
    obtain ⟨⟨cs, h1, h2, h3⟩, h4⟩ := hr
    exact ⟨⟨cs, h.reps h1, h2, h3⟩, ih h4⟩
theorem Le.sl {z : Nat} {xs ys : List (List D)} (h : LeDs xs ys) : Le (.v (.sl z xs)) (.v (.sl z ys)) := fun N ρ w X v hv => by
  simp only [VRep, Rep] at hv ⊢
  have hl := h.length
  obtain ⟨base, cap, rfl, h2, h3, h4⟩ := hv
  refine ⟨base, cap, by rw [hl], by omega, fun hb => ?_, fun ad had hne => ?_⟩
  · have := h3 hb; subst this; cases h; rfl
  · obtain ⟨h5, h6, h7, h8⟩ := h4 ad had (fun e => by subst e; cases h; exact hne rfl)
    exact ⟨h5, h6, h7, h.rows h8⟩

theorem OpOk.le {ops : List Oper} {o : Oper} {sl ns ws : List Nat} {d : Nat} {x y : SV} (hle : Le x y) (h : OpOk P B n ops Q o ⟨sl, ns, ws, []⟩ st ⟨[(d, x)], []⟩) : OpOk P B n ops Q o ⟨sl, ns, ws, []⟩ st ⟨[(d, y)], []⟩ := by
  intro st' a ρ w L K hag hs hK
  refine h st' a ρ w L K hag hs (fun a' w' ⟨ρ', L', s'⟩ => hK a' w' ⟨ρ', L', ?_⟩)
  have s2 : Sat B n ⟨(d, x) :: st'.S, st'.O⟩ ρ' a' w' L' := s'
  refine s2.go (Step.refl _ _) (fun b hb => s2.low b (.inr hb)) (fun _ h => ⟨h, rfl⟩) s2.size s2.defers (fun t z hz => ?_) s2.obj s2.inj
  change get ((d, y) :: st'.S) t = some z at hz
  by_cases e : d = t
  · subst e
    rw [get_cons_self] at hz; cases hz
    obtain ⟨v, h3, h4⟩ := s2.slot d _ (get_cons_self _ _ _)
    exact ⟨v, h3, hle _ _ _ _ _ h4⟩
  · rw [get_cons_ne _ _ e] at hz
    exact s2.slot t z (by rw [get_cons_ne _ _ e]; exact hz)
theorem WR.mkLe (hP : TblOk P tb) {ops rest : List Oper} {o : Oper} {done : List Key} {d : Nat} {x : SV} (y : SV) {l : List Prop} (h : dA tb B.G n ops o (pickL st.S (rd ops o)) (pickL st.O []) = .yes (some (d, x)) none [] l) (hv : vcs l) (hle : Le x y)
    (hw : WR P B n ⟨(d, y) :: st.S, st.O⟩ ops Q (done ++ [⟨rd ops o, [], [d], []⟩]) rest) : WR P B n st ops Q done (o :: rest) :=
  WR.op (sl := rd ops o) (ns := []) (wn := []) (d := ⟨[(d, y)], []⟩) (OpOk.le hle (OpOk.run (ws := [d]) hP h hv rfl)) rfl rfl hw
theorem WL.mkLe (hP : TblOk P tb) {ops rest : List Oper} {o : Oper} {d : Nat} {x : SV} (y : SV) {l : List Prop} (h : dA tb B.G n ops o (pickL st.S (rd ops o)) (pickL st.O []) = .yes (some (d, x)) none [] l) (hv : vcs l) (hle : Le x y)
    (hw : WL P B n ⟨(d, y) :: st.S, st.O⟩ ops Q rest) : WL P B n st ops Q (o :: rest) :=
  WL.op (d := ⟨[(d, y)], []⟩) (OpOk.le hle (OpOk.run (sl := rd ops o) (ns := []) (ws := []) hP h hv rfl)) hw

end Go.V
