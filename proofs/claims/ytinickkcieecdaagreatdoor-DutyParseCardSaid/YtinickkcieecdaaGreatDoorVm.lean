/- The engine: ranges over texts; slices of the call's own that are made at once, and whose elements are read and written. No program in sight. -/
import Derived.Test.YtinickkcieecdaaGreatDoorVl
import Derived.Laws.RangeAny
import Derived.IntWalk
set_option linter.unusedVariables false
namespace Go.V
open Go.RowKit

variable {P : Program} {n : Nat} {B : Base} {st : St} {tb : List (Nat × TI)} {Q : Exit → Act → World → Prop} {ρ : Nat → Value} {a : Act} {w : World} {L : Nat → Prop}

theorem ifp {α : Type} {p : Prop} [Decidable p] {x y : Option α} {r : α} (hp : p) (h : (if p then x else y) = some r) : x = some r := by rwa [if_pos hp] at h
theorem ifn {α : Type} {p : Prop} [Decidable p] {x y : Option α} {r : α} (hp : ¬ p) (h : (if p then x else y) = some r) : y = some r := by rwa [if_neg hp] at h

theorem mapset {α : Type} {f : α → List D} {xs : List α} {i : Nat} {x : α} {cs : List D} (h : cs = f x) : (xs.map f).set i cs = (xs.set i x).map f := by rw [h, List.map_set]

theorem WC.thenCut {x y : Code} {X : Type} (st' : X → St) (I : X → Prop) (hx : WC P B n st x (Exit.then (AtCut B n st' I) Q)) (hy : ∀ g, I g → WC P B n (st' g) y Q) : WC P B n st x (Exit.then (y.wp P Q) Q) := fun a ρ w L hs =>
  wp_mono (hx a ρ w L hs) (fun e a w he => by
    cases e with
    | normal => obtain ⟨g, ρ, L, hs, hI⟩ := he; exact hy g hI a ρ w L hs
    | _ => exact he)

/-! ### nil in a block of the call's own -/

theorem VReps.put {N : Nat → Prop} {X : Nat → Prop} {x : SV} : ∀ {cs : List SV} {vs : List Value} (i : Nat), VReps N ρ w X cs vs → (∀ v, vs[i]? = some v → VRep N ρ w X x v) → VReps N ρ w X (cs.set i x) vs
  | [], vs, i, h, hx => by simp only [VReps] at h; subst h; simp [VReps]
  | c :: cs, vs, 0, h, hx => by
    simp only [VReps] at h
    obtain ⟨v, r, rfl, h1, h2⟩ := h
    simp only [List.set_cons_zero, VReps]
    exact ⟨v, r, rfl, hx v (by simp), h2⟩
  | c :: cs, vs, i + 1, h, hx => by
    simp only [VReps] at h
    obtain ⟨v, r, rfl, h1, h2⟩ := h
    simp only [List.set_cons_succ, VReps]
    exact ⟨v, r, rfl, h1, VReps.put i h2 (fun u hu => hx u (by simpa using hu))⟩

theorem sat_rowNilB (hs : Sat B n st ρ a w L) {j i k ty : Nat} {cs : List SV} (T sz : Nat) (hj : get st.O j = some (.blk ty cs)) (hx : nth cs i = some (.v (.raw (.slice none 0 0)))) (hfr : get st.O k = none) :
    ∃ ρ', Sat B n ⟨st.S, (j, .blk ty (cs.set i (.r k))) :: (k, .row T sz []) :: st.O⟩ ρ' a w L := by
  refine ⟨upd ρ k (.slice none 0 0), ?_⟩
  have hkj : j ≠ k := fun e => by subst e; rw [hj] at hfr; cases hfr
  have hN : ∀ m, nmO st.O m → nmO ((j, Ob.blk ty (cs.set i (.r k))) :: (k, Ob.row T sz []) :: st.O) m ∧ upd ρ k (.slice none 0 0) m = ρ m := fun m h => ⟨nmO_cons (nmO_cons h), upd_ne (nmO_ne h hfr)⟩
  have old : ∀ {m o}, m ≠ k → get ((j, Ob.blk ty (cs.set i (.r k))) :: (k, Ob.row T sz []) :: st.O) m = some o → ∃ o', get st.O m = some o' ∧ o'.live = o.live := fun {m o} hm h => by
    by_cases e : j = m
    · subst e; rw [get_cons_self] at h; cases h; exact ⟨_, hj, rfl⟩
    · rw [get_cons_ne _ _ e, get_cons_ne _ _ (fun e => hm e.symm)] at h; exact ⟨o, h, rfl⟩
  refine hs.go (Step.refl _ _) (fun b hb => hs.low b (.inr hb)) hN hs.size hs.defers (fun t' y hy => ?_) (fun m o hm => ?_) (fun m o m' o' hm hm' hne l1 l2 b hb hb' => ?_)
  · obtain ⟨v, h1, h2⟩ := hs.slot t' y hy
    exact ⟨v, h1, VRep.keep hN (Keep.refl _ _) y v h2⟩
  · by_cases e : j = m
    · subst e; rw [get_cons_self] at hm; cases hm
      rw [upd_ne hkj]
      obtain ⟨b, vs, g1, g2, g3, g4⟩ := hs.obj j _ hj
      refine ⟨b, vs, g1, g2, g3, VReps.put i (VReps.keep hN (Keep.refl _ _) cs vs g4) (fun v hv => ?_)⟩
      rw [nth_eq] at hx
      obtain ⟨v', h1, h2⟩ := g4.get hx
      rw [hv] at h1; cases h1
      simp only [VRep, Rep] at h2 ⊢
      exact ⟨nmO_cons nmO_self, by rw [upd_self]; exact h2⟩
    · rw [get_cons_ne _ _ e] at hm
      by_cases e2 : k = m
      · subst e2; rw [get_cons_self] at hm; cases hm
        rw [upd_self]
        exact ⟨[], by simp [RepRows], (fun r h => by cases h), OwnsR.nil w T sz, fun b hb => by simp [ob] at hb⟩
      · rw [get_cons_ne _ _ e2] at hm
        rw [upd_ne (fun e' => e2 e'.symm)]
        exact (hs.obj m o hm).keep hN (Keep.refl _ _) (fun _ b _ => ⟨rfl, id⟩)
  · by_cases e1 : m = k
    · subst e1; rw [upd_self] at hb; simp [ob] at hb
    · by_cases e2 : m' = k
      · subst e2; rw [upd_self] at hb'; simp [ob] at hb'
      · rw [upd_ne e1] at hb; rw [upd_ne e2] at hb'
        obtain ⟨q1, r1, r2⟩ := old e1 hm
        obtain ⟨q2, r3, r4⟩ := old e2 hm'
        exact hs.inj m q1 m' q2 r1 r3 hne (r2.trans l1) (r4.trans l2) b hb hb'
theorem WC.rowNilB {c : Code} (j i k T sz : Nat) {ty : Nat} {cs cs2 : List SV} (hj : get st.O j = some (.blk ty cs)) (hx : nth cs i = some (.v (.raw (.slice none 0 0)))) (hfr : get st.O k = none) (he : cs.set i (.r k) = cs2) (h : WC P B n ⟨st.S, (j, .blk ty cs2) :: (k, .row T sz []) :: st.O⟩ c Q) : WC P B n st c Q := fun a ρ w L hs => by subst he; obtain ⟨ρ', s'⟩ := sat_rowNilB hs T sz hj hx hfr; exact h a ρ' w L s'
theorem WQ.rowNilB {e : Exit} (j i k T sz : Nat) {ty : Nat} {cs cs2 : List SV} (hj : get st.O j = some (.blk ty cs)) (hx : nth cs i = some (.v (.raw (.slice none 0 0)))) (hfr : get st.O k = none) (he : cs.set i (.r k) = cs2) (h : WQ B n ⟨st.S, (j, .blk ty cs2) :: (k, .row T sz []) :: st.O⟩ Q e) : WQ B n st Q e := fun a ρ w L hs => by subst he; obtain ⟨ρ', s'⟩ := sat_rowNilB hs T sz hj hx hfr; exact h a ρ' w L s'

/-! ### Ranges over texts -/

theorem under_string {T : Nat} {ti : TI} (hT : TIok P T ti) (h : ti.sort = 2) : P.underlying T = some .string := by
  obtain ⟨d, h1, _, _, _, _, h2⟩ := hT.under
  rw [h] at h2
  rw [h1]
  cases d <;> simp [sortD] at h2 ⊢

def rgOf (tb : List (Nat × TI)) (G : List (Nat × List D)) (S : List (Nat × SV)) : Op → Option (List UInt8 × List Prop)
  | .range T x =>
    match get tb T, o1 G S x with
    | some ⟨_, _, _, _, _, _, 2⟩, some (.v (.str s), l) => some (s, l)
    | _, _ => none
  | _ => none

theorem OpOk.range (hP : TblOk P tb) {ops : List Oper} {o : Oper} {d : Nat} {s : List UInt8} {l : List Prop} {sl ns ws wn : List Nat} (hg : o.guard = none) (ho : o.dst = some d) (hd : inB n d = true)
    (h : rgOf tb B.G (pickL st.S sl) o.op = some (s, l)) (hl : vcs l) (hdn : has d ns = true) (hfr : get (pickL st.O ns) d = none) :
    OpOk P B n ops Q o ⟨sl, ns, ws, wn⟩ st ⟨[(d, .r d)], [(d, .it s 0)]⟩ := by
  intro st' a ρ w L K hag hs hK
  have hS : ∀ t x, get (pickL st.S sl) t = some x → get st'.S t = some x := fun t x ht => by obtain ⟨h1, h2⟩ := pickL_some ht; rw [hag.S t h1]; exact h2
  have hfr' : get st'.O d = none := by rw [hag.O d (has_iff.1 hdn)]; exact pickL_none (has_iff.1 hdn) hfr
  unfold rgOf at h
  split at h
  · rename_i T x hop
    split at h
    · rename_i hT h1
      cases h
      have e1 := o1_sound hs hS h1 hl
      simp only [VRep, Rep] at e1
      have hu := under_string (hP.get hT) rfl
      have hsat := sat_new hs (d := d) (v := .pointer (some ⟨w.heap.size, 0, none⟩)) (o := .it s 0) (w' := w.iter ⟨⟨s⟩⟩ 0) hd hfr' (below_push w _)
        (fun b hb => by simp only [ob, Option.some.injEq] at hb; subst hb; exact ⟨Nat.le_refl _, by show _ < (w.heap.push _).size; simp⟩) (x := .r d) (by simp only [VRep]; exact ⟨nmO_self, upd_self.symm⟩)
        (fun X _ _ => ⟨_, rfl, World.iter_heap _ _ _, .inr rfl⟩)
      exact wpO_value hg (v := .pointer (some ⟨w.heap.size, 0, none⟩)) (w' := w.iter ⟨⟨s⟩⟩ 0) (by simp only [execOp, hop, e1, run_range_string w T _ hu, Sem.run_bind, Result.andThen_ok, Sem.run_pure]) (by rw [ho]; exact hK _ _ ⟨_, _, hsat⟩)
    · cases h
  · cases h

theorem WL.range (hP : TblOk P tb) {ops rest : List Oper} {o : Oper} {d : Nat} {s : List UInt8} {l : List Prop} (hg : o.guard = none) (ho : o.dst = some d) (hd : inB n d = true)
    (h : rgOf tb B.G (pickL st.S (rd ops o)) o.op = some (s, l)) (hl : vcs l) (hfr : get (pickL st.O [d]) d = none) (hw : WL P B n ⟨(d, .r d) :: st.S, (d, .it s 0) :: st.O⟩ ops Q rest) : WL P B n st ops Q (o :: rest) :=
  WL.op (OpOk.range (ns := [d]) (ws := []) (wn := []) hP hg ho hd h hl (by simp [has_iff]) hfr) hw

/-- The rune at a place of a text, and how many bytes it takes. -/
def runeI (s : List UInt8) (p : Nat) : Int := ((Utf8.decode ⟨⟨s⟩⟩ p).1 : Int)
def runeW (s : List UInt8) (p : Nat) : Nat := (Utf8.decode ⟨⟨s⟩⟩ p).2

theorem run_next_at {s : ByteArray} {pos b : Nat} (ty : TypeId) (hb : w.heap[b]? = some (.stringIter s pos)) (h : pos < s.size) :
    (Instr.next (.pointer (some ⟨b, 0, none⟩)) true ty).run P w = .ok (.tuple #[.bool true, .int .i64 pos, .int .i32 (Utf8.decode s pos).1]) { w with heap := w.heap.setIfInBounds b (.stringIter s (pos + (Utf8.decode s pos).2)) } := by
  simp only [Instr.next, getObj, setObj, Sem.run_bind, Sem.run, hb, Result.andThen, h, if_true]
  simp [goInt]
theorem run_next_over {s : ByteArray} {pos b : Nat} (ty : TypeId) (hb : w.heap[b]? = some (.stringIter s pos)) (h : ¬ pos < s.size) :
    (Instr.next (.pointer (some ⟨b, 0, none⟩)) true ty).run P w = .ok (.tuple #[.bool false]) w := by
  simp [Instr.next, getObj, Sem.run, hb, h]

def nxOf (G : List (Nat × List D)) (S : List (Nat × SV)) : Op → Option (Nat × List Prop)
  | .next x true =>
    match o1 G S x with
    | some (.r k, l) => some (k, l)
    | _ => none
  | _ => none

theorem WL.next {ops rest : List Oper} {o : Oper} {d k pos : Nat} {s : List UInt8} {l : List Prop} (hg : o.guard = none) (ho : o.dst = some d) (hd : inB n d = true) (h : nxOf B.G (pickL st.S (rd ops o)) o.op = some (k, l)) (hl : vcs l) (hk : get st.O k = some (.it s pos))
    (ht : pos < s.length → WL P B n ⟨(d, .tup [.v (.bool true), .v (.int .i64 pos), .v (.int .i32 (runeI s pos))]) :: st.S, (k, .it s (pos + runeW s pos)) :: st.O⟩ ops Q rest)
    (hf : ¬ pos < s.length → WL P B n ⟨(d, .tup [.v (.bool false)]) :: st.S, st.O⟩ ops Q rest) : WL P B n st ops Q (o :: rest) := by
  unfold nxOf at h
  split at h
  · rename_i x hop
    split at h
    · rename_i k' l' h1
      cases h
      by_cases hlt : pos < s.length
      · refine WL.op (k := ⟨rd ops o, [k], [d], [k]⟩) (d := ⟨[(d, _)], [(k, _)]⟩) ?_ (ht hlt)
        intro st' a ρ w L K hag hs hK
        have hS : ∀ t x, get (pickL st.S (rd ops o)) t = some x → get st'.S t = some x := fun t x ht => by obtain ⟨h1, h2⟩ := pickL_some ht; rw [hag.S t h1]; exact h2
        have hk' : get st'.O k = some (.it s pos) := by rw [hag.O k (by simp)]; exact hk
        have e1 := o1_sound hs hS h1 hl
        simp only [VRep] at e1
        obtain ⟨b, g1, g2, g3⟩ := hs.obj k _ hk'
        have hrun := run_next_at (P := P) o.type g2 hlt
        have h3 := sat_but hs (o' := .it s (pos + runeW s pos)) hk' rfl (b := b) (by rw [g1]; rfl) (w' := { w with heap := w.heap.setIfInBounds b (.stringIter ⟨⟨s⟩⟩ (pos + runeW s pos)) })
          ⟨rfl, rfl, rfl, by simp, fun c _ hc => by simp only; rw [Array.getElem?_setIfInBounds_ne (fun e => hc e.symm)]⟩
          ⟨b, g1, by simp only; rw [Array.getElem?_setIfInBounds_self_of_lt ((Array.getElem?_eq_some_iff.1 g2).1)], g3⟩
        have h4 := sat_put h3 (d := d) (x := .tup [.v (.bool true), .v (.int .i64 pos), .v (.int .i32 (runeI s pos))]) (v := .tuple #[.bool true, .int .i64 pos, .int .i32 (runeI s pos)]) hd (by simp [VRep, VReps, Rep])
        exact wpO_value hg (by simp only [execOp, hop, e1.2, g1, Sem.run_bind, hrun, Result.andThen_ok, Sem.run_pure]; rfl) (by rw [ho]; exact hK _ _ ⟨_, _, h4⟩)
      · refine WL.op (k := ⟨rd ops o, [k], [d], []⟩) (d := ⟨[(d, _)], []⟩) ?_ (hf hlt)
        intro st' a ρ w L K hag hs hK
        have hS : ∀ t x, get (pickL st.S (rd ops o)) t = some x → get st'.S t = some x := fun t x ht => by obtain ⟨h1, h2⟩ := pickL_some ht; rw [hag.S t h1]; exact h2
        have hk' : get st'.O k = some (.it s pos) := by rw [hag.O k (by simp)]; exact hk
        have e1 := o1_sound hs hS h1 hl
        simp only [VRep] at e1
        obtain ⟨b, g1, g2, g3⟩ := hs.obj k _ hk'
        have hrun := run_next_over (P := P) o.type g2 hlt
        have h4 := sat_put hs (d := d) (x := .tup [.v (.bool false)]) (v := .tuple #[.bool false]) hd (by simp [VRep, VReps, Rep])
        exact wpO_value hg (v := .tuple #[.bool false]) (w' := w) (by simp only [execOp, hop, e1.2, g1, Sem.run_bind, hrun, Result.andThen_ok, Sem.run_pure]) (by rw [ho]; exact hK _ _ ⟨_, _, h4⟩)
    · cases h
  · cases h

/-! ### Elements of a slice of the call's own -/

theorem OwnsR.there {e size : Nat} {v : Value} {m : Nat} {xs : List Value} (h : OwnsR w e size v m xs) (hm : 0 < m) :
    ∃ g cap cur fz, v = .slice (some ⟨g, 0, none⟩) m cap ∧ w.heap[g]? = some (.cells cur e fz) ∧ (fz.2 ≤ fz.1 ∨ cur.size ≤ fz.1) ∧ m ≤ cap ∧ cap ≤ maxLen ∧ cur.size = cap * size ∧ cur.toList.take (m * size) = xs := by
  rcases h.2 with ⟨_, h1⟩ | h1
  · omega
  · exact h1

def ridxOf (tb : List (Nat × TI)) (G : List (Nat × List D)) (S : List (Nat × SV)) : Op → Option (Nat × Nat × Int × List Prop)
  | .indexAddr T x i =>
    match get tb T, o1 G S x, o1 G S i with
    | some ⟨_, _, _, _, _, some z, _⟩, some (.r k, l), some (.v (.int _ m), l2) => some (k, z, m, l ++ l2)
    | _, _, _ => none
  | _ => none

theorem q_ridx (hP : TblOk P tb) {o : Oper} {sl ns : List Nat} {T' k z : Nat} {es : List (List D)} {m : Int} {l : List Prop} (h : ridxOf tb B.G (pickL st.S sl) o.op = some (k, z, m, l)) (hl : vcs l) (hk : get (pickL st.O ns) k = some (.row T' z es)) (hm : 0 ≤ m ∧ m < (es.length : Int)) : QOk P B n o sl ns st (.re k z m.toNat 0) := by
  intro st' a ρ w L hag hs
  have hS : ∀ t x, get (pickL st.S sl) t = some x → get st'.S t = some x := fun t x ht => by obtain ⟨h1, h2⟩ := pickL_some ht; rw [hag.S t h1]; exact h2
  have hO : get st'.O k = some (.row T' z es) := by obtain ⟨h1, h2⟩ := pickL_some hk; rw [hag.O k h1]; exact h2
  unfold ridxOf at h
  split at h
  · rename_i T x i hop
    split at h
    · rename_i z' so k' l1 ik m' l2 hT h1 h2
      cases h
      obtain ⟨v1, v2⟩ := vcs_append hl
      have e1 := o1_sound hs hS h1 v1
      have e2 := o1_sound hs hS h2 v2
      simp only [VRep, Rep] at e1 e2
      obtain ⟨rows, g1, g2, g3, g4⟩ := hs.obj k _ hO
      have hlen := g1.length
      obtain ⟨g, cap, cur, fz, hv, _⟩ := g3.there (by omega)
      obtain ⟨el, hd, hsz⟩ := el_size (hP.get hT) rfl w
      refine ⟨.pointer (some ⟨g, m.toNat * z, none⟩), ?_, ?_⟩
      · have hi : 0 ≤ m ∧ m < (rows.length : Int) := ⟨hm.1, by omega⟩
        simp only [execOp, hop, e1.2, hv, e2, Instr.indexAt, asIntOf, Sem.run_bind, Sem.run_pure, hd, Result.andThen_ok, if_pos hi, hsz, Addr.add_lit, Nat.zero_add]
      · simp only [VRep]
        exact ⟨e1.1, g, _, cap, hv, rfl⟩
    · cases h
  · cases h

theorem OwnsR.rowAt {e size : Nat} {v : Value} {g m c : Nat} {rows : List (List Value)} (h : OwnsR w e size v rows.length rows.flatten) (hv : v = .slice (some ⟨g, 0, none⟩) m c) (hl : ∀ r, r ∈ rows → r.length = size) {i : Nat} {r : List Value} (hr : rows[i]? = some r) : CellsAt w r g (i * size) := fun j x hx => by
  have := h.cells (g := g) (by rw [hv]; rfl) (i * size + j) x (nth_flat i r j x hl hr hx)
  rwa [Addr.add_lit, Nat.zero_add] at this

def rldOf (tb : List (Nat × TI)) (G : List (Nat × List D)) (S : List (Nat × SV)) : Op → Option (Nat × Nat × Nat × Nat × Nat × Bool × List Prop)
  | .load T x =>
    match get tb T, o1 G S x with
    | some ⟨size, _, agg, _, _, _, _⟩, some (.re k z i off, l) => some (k, z, i, off, size, agg, l)
    | _, _ => none
  | _ => none

theorem q_rload (hP : TblOk P tb) {o : Oper} {sl ns : List Nat} {T' k z i off size : Nat} {agg : Bool} {es : List (List D)} {cs : List D} {y : D} {l : List Prop} (h : rldOf tb B.G (pickL st.S sl) o.op = some (k, z, i, off, size, agg, l)) (hl : vcs l) (hk : get (pickL st.O ns) k = some (.row T' z es)) (he : es[i]? = some cs) (hc : cellsD cs off size agg = some y) : QOk P B n o sl ns st (.v y) := by
  intro st' a ρ w L hag hs
  have hS : ∀ t x, get (pickL st.S sl) t = some x → get st'.S t = some x := fun t x ht => by obtain ⟨h1, h2⟩ := pickL_some ht; rw [hag.S t h1]; exact h2
  have hO : get st'.O k = some (.row T' z es) := by obtain ⟨h1, h2⟩ := pickL_some hk; rw [hag.O k h1]; exact h2
  unfold rldOf at h
  split at h
  · rename_i T x hop
    split at h
    · rename_i size' zero agg' offs ik' el so k' z' i' off' l' hT h1
      cases h
      have e1 := o1_sound hs hS h1 hl
      simp only [VRep] at e1
      obtain ⟨_, b, m, c, e2, e3⟩ := e1
      obtain ⟨rows, g1, g2, g3, g4⟩ := hs.obj k _ hO
      obtain ⟨r, r1, r2⟩ := g1.get he
      obtain ⟨v, hld, hrep⟩ := run_loadD (hP.get hT) r2 (g3.rowAt e2 g2 r1) hc
      refine ⟨v, ?_, by simpa only [VRep] using hrep⟩
      simp only [execOp, hop, e3, Instr.loadAt, Instr.sureAddr, Sem.run_bind, Sem.run_pure, Result.andThen_ok, hld]
    · cases h
  · cases h

theorem splice_len {α : Type} : ∀ (vs cs : List α) (off : Nat), (splice cs off vs).length = cs.length
  | [], cs, off => rfl
  | v :: vs, cs, off => by simp only [splice]; rw [splice_len vs]; simp
theorem splice_take {α : Type} : ∀ (vs cs : List α) (off m : Nat), (splice cs off vs).take m = splice (cs.take m) off vs
  | [], cs, off, m => rfl
  | v :: vs, cs, off, m => by simp only [splice]; rw [splice_take vs, List.take_set]
theorem splice_at {α : Type} (vs cs : List α) (off : Nat) (h : off + vs.length ≤ cs.length) : splice cs off vs = cs.take off ++ vs ++ cs.drop (off + vs.length) := by
  induction vs generalizing cs off with
  | nil => simp [splice]
  | cons v vs ih =>
    simp only [List.length_cons] at h
    simp only [splice]
    rw [ih (cs.set off v) (off + 1) (by simp; omega)]
    have hlt : off < cs.length := by omega
    have e1 : (cs.set off v).take (off + 1) = cs.take off ++ [v] := by
      rw [List.take_add_one]
      simp [List.take_set_of_le (Nat.le_refl off), hlt]
    rw [e1, List.drop_set_of_lt (by omega)]
    simp [Nat.add_assoc, Nat.add_comm 1]
theorem flat_set1 {sz : Nat} (v : Value) : ∀ {rows : List (List Value)} (i off : Nat) (r : List Value), (∀ r, r ∈ rows → r.length = sz) → rows[i]? = some r → off < r.length → (rows.set i (r.set off v)).flatten = rows.flatten.set (i * sz + off) v
  | [], i, off, r, hl, h, ho => by simp at h
  | r0 :: rows, 0, off, r, hl, h, ho => by
    simp only [List.getElem?_cons_zero, Option.some.injEq] at h
    subst h
    simp only [List.set_cons_zero, List.flatten_cons, Nat.zero_mul, Nat.zero_add]
    rw [List.set_append_left _ _ ho]
  | r0 :: rows, i + 1, off, r, hl, h, ho => by
    simp only [List.getElem?_cons_succ] at h
    have h0 := hl r0 (by simp)
    simp only [List.set_cons_succ, List.flatten_cons]
    rw [flat_set1 v i off r (fun r hr => hl r (by simp [hr])) h ho, List.set_append_right _ _ (by rw [h0, Nat.succ_mul]; omega), h0]
    congr 2
    rw [Nat.succ_mul]; omega
theorem flat_splice {sz : Nat} : ∀ (vs : List Value) {rows : List (List Value)} (i off : Nat) (r : List Value), (∀ r, r ∈ rows → r.length = sz) → rows[i]? = some r → off + vs.length ≤ r.length → (rows.set i (splice r off vs)).flatten = splice rows.flatten (i * sz + off) vs
  | [], rows, i, off, r, hl, h, ho => by
    simp only [splice]
    congr 1
    apply List.ext_getElem?
    intro j
    by_cases e : i = j
    · subst e; rw [List.getElem?_set_self (List.getElem?_eq_some_iff.1 h).1, h]
    · rw [List.getElem?_set_ne e]
  | v :: vs, rows, i, off, r, hl, h, ho => by
    simp only [List.length_cons] at ho
    have hi := (List.getElem?_eq_some_iff.1 h).1
    have hr : r.length = sz := hl r (List.mem_of_getElem? h)
    have := flat_splice vs (rows := rows.set i (r.set off v)) i (off + 1) (r.set off v) (fun r' hr' => by
      rcases List.mem_or_eq_of_mem_set hr' with h1 | rfl
      · exact hl r' h1
      · simpa using hr) (by simp [hi]) (by simp; omega)
    simp only [splice]
    rw [List.set_set] at this
    rw [this, flat_set1 v i off r hl h (by omega), Nat.add_assoc]
theorem RepRows.put {X : Nat → Prop} {e : List D} {r : List Value} (hr : Reps w X e r) : ∀ {es : List (List D)} {rows : List (List Value)} (i : Nat), RepRows w X es rows → RepRows w X (es.set i e) (rows.set i r)
  | [], rows, i, h => by simp only [RepRows] at h; subst h; simp [RepRows]
  | e0 :: es, rows, 0, h => by
    simp only [RepRows] at h
    obtain ⟨c, rs, rfl, h1, h2⟩ := h
    exact ⟨r, rs, rfl, hr, h2⟩
  | e0 :: es, rows, i + 1, h => by
    simp only [RepRows] at h
    obtain ⟨c, rs, rfl, h1, h2⟩ := h
    exact ⟨c, rs.set i r, rfl, h1, RepRows.put hr i h2⟩

def rstOf (tb : List (Nat × TI)) (G : List (Nat × List D)) (S : List (Nat × SV)) : Op → Option (Nat × Nat × Nat × Nat × List D × List Prop)
  | .store T x y =>
    match get tb T, o1 G S x, o1 G S y with
    | some ⟨size, _, _, _, _, _, _⟩, some (.re k z i off, l), some (.v d, m) =>
      match cellsOfD d with
      | some vc => match Nat.beq vc.length size, cellDs vc with | true, true => some (k, z, i, off, vc, l ++ m) | _, _ => none
      | none => none
    | _, _, _ => none
  | _ => none

theorem OpOk.rstore (hP : TblOk P tb) {ops : List Oper} {o : Oper} {T' k z i off : Nat} {es es2 : List (List D)} {cs vc : List D} {l : List Prop} {sl ns ws wn : List Nat} (hg : o.guard = none) (ho : o.dst = none)
    (h : rstOf tb B.G (pickL st.S sl) o.op = some (k, z, i, off, vc, l)) (hl : vcs l) (hk : get (pickL st.O ns) k = some (.row T' z es)) (he : es[i]? = some cs) (hlen : Nat.ble (off + vc.length) cs.length = true) (he2 : es.set i (splice cs off vc) = es2) :
    OpOk P B n ops Q o ⟨sl, ns, ws, wn⟩ st ⟨[], [(k, .row T' z es2)]⟩ := by
  subst he2
  intro st' a ρ w L K hag hs hK
  have hS : ∀ t x, get (pickL st.S sl) t = some x → get st'.S t = some x := fun t x ht => by obtain ⟨h1, h2⟩ := pickL_some ht; rw [hag.S t h1]; exact h2
  have hO : get st'.O k = some (.row T' z es) := by obtain ⟨h1, h2⟩ := pickL_some hk; rw [hag.O k h1]; exact h2
  have hlen := Nat.le_of_ble_eq_true hlen
  unfold rstOf at h
  split at h
  · rename_i T x y hop
    split at h
    · rename_i size zero agg offs ik' el so k' z' i' off' l1 d l2 hT h1 h2
      split at h
      · rename_i vc' hvc
        split at h
        · rename_i c1 c2
          cases h
          have c1 := Nat.eq_of_beq_eq_true c1
          obtain ⟨v1, v2⟩ := vcs_append hl
          have e1 := o1_sound hs hS h1 v1
          have e2 := o1_sound hs hS h2 v2
          simp only [VRep] at e1 e2
          obtain ⟨_, b, m, c, e3, e4⟩ := e1
          have hcell := cellsOfD_sound hvc e2
          have hclen := hcell.length
          obtain ⟨rows, g1, g2, g3, g4⟩ := hs.obj k _ hO
          obtain ⟨r, r1, r2⟩ := g1.get he
          have hrl := r2.length
          have hrz := g2 r (List.mem_of_getElem? r1)
          have hilt := (List.getElem?_eq_some_iff.1 r1).1
          obtain ⟨g, cap, cur, fz, hv, hheap, hfz, hnc, hcm, hcs, htake⟩ := g3.there (by omega)
          rw [hv] at e3
          cases e3
          have hone : ∀ u, u ∈ (a.eval y).cells.toList → u.oneCell' = true := fun u hu =>
            rep_cells (X := un B.F L) (w := w) (es := [vc]) (rs := [(a.eval y).cells.toList]) ⟨_, _, rfl, hcell, rfl⟩ (fun e he => by simp only [List.mem_singleton] at he; subst he; exact c2) u (by simpa using hu)
          have hfit : i * z + off + (a.eval y).cells.toList.length ≤ rows.length * z := by
            have : (i + 1) * z ≤ rows.length * z := Nat.mul_le_mul_right _ (by omega)
            rw [Nat.succ_mul] at this
            omega
          have hfit2 : rows.length * z ≤ cur.size := by rw [hcs]; exact Nat.mul_le_mul_right _ hnc
          have hrun := run_storeCells_open P b (i * z + off) T' fz (a.eval y).cells.toList 0 cur w hheap hfz (by omega) hone
          rw [Nat.add_zero] at hrun
          rw [← splice_at _ _ _ (by rw [Array.length_toList (xs := cur)]; omega)] at hrun
          have hbut : But w (w.setRow b (splice cur.toList (i * z + off) (a.eval y).cells.toList).toArray) b := ⟨rfl, rfl, rfl, by simp, fun c _ hc => setRow_other w b c _ hc⟩
          have hL := g4 b (by rw [hv]; rfl)
          have hstep : Step L w L (w.setRow b (splice cur.toList (i * z + off) (a.eval y).cells.toList).toArray) := ⟨rfl, rfl, rfl, by simp, fun c h1 h2 => hbut.block c h1 (fun e => h2 (e ▸ hL)), fun _ h => .inl h⟩
          have hs' := sat_but hs (o' := .row T' z (es.set i (splice cs off vc))) hO rfl (by rw [hv]; rfl) hbut (by
            refine ⟨rows.set i (splice r off (a.eval y).cells.toList), RepRows.put (Reps.keep (keep_of_step hstep) _ _ (Reps.splice off r2 hcell)) i (RepRows.keep (keep_of_step hstep) _ _ g1), fun r' hr' => ?_, ?_, g4⟩
            · rcases List.mem_or_eq_of_mem_set hr' with h1 | rfl
              · exact g2 r' h1
              · rw [splice_len]; exact hrz
            · rw [flat_splice _ i off r g2 r1 (by omega), List.length_set]
              refine ⟨by rw [splice_len]; exact g3.1, .inr ⟨b, _, _, fz, hv, setRow_heap w b cur _ T' fz hheap, ?_, hnc, hcm, ?_, ?_⟩⟩
              · simpa [splice_len] using hfz
              · simpa [splice_len] using hcs
              · simp only
                rw [splice_take, htake])
          refine wpO_skip hg ?_ (by rw [ho]; exact hK _ _ ⟨_, _, by simpa [Act.put, St.add] using hs'⟩)
          rw [Array.length_toList] at hclen
          have hsz : (a.eval y).cells.size = size := by omega
          simp only [execOp, hop, e4, Instr.storeAt, Instr.sureAddr, storeVar, Sem.run_bind, Sem.run_pure, Result.andThen_ok, (hP.get hT).size_run, hsz, ne_eq, not_true, if_false, hrun]
        · cases h
      · cases h
    · cases h
  · cases h

theorem WL.rstore (hP : TblOk P tb) {ops rest : List Oper} {o : Oper} {T' k z i off : Nat} {es : List (List D)} (es2 : List (List D)) {cs vc : List D} {l : List Prop} (hg : o.guard = none) (ho : o.dst = none)
    (h : rstOf tb B.G (pickL st.S (rd ops o)) o.op = some (k, z, i, off, vc, l)) (hl : vcs l) (hk : get (pickL st.O [k]) k = some (.row T' z es)) (he : es[i]? = some cs) (hlen : Nat.ble (off + vc.length) cs.length = true) (he2 : es.set i (splice cs off vc) = es2)
    (hw : WL P B n ⟨st.S, (k, .row T' z es2) :: st.O⟩ ops Q rest) : WL P B n st ops Q (o :: rest) :=
  WL.op (OpOk.rstore (ws := []) (wn := []) hP hg ho h hl hk he hlen he2) hw
theorem WR.rstore (hP : TblOk P tb) {ops rest : List Oper} {o : Oper} {done : List Key} {T' k z i off : Nat} {es : List (List D)} (es2 : List (List D)) {cs vc : List D} {l : List Prop} (hg : o.guard = none) (ho : o.dst = none)
    (h : rstOf tb B.G (pickL st.S (rd ops o)) o.op = some (k, z, i, off, vc, l)) (hl : vcs l) (hk : get (pickL st.O [k]) k = some (.row T' z es)) (he : es[i]? = some cs) (hlen : Nat.ble (off + vc.length) cs.length = true) (he2 : es.set i (splice cs off vc) = es2)
    (hw : WR P B n ⟨st.S, (k, .row T' z es2) :: st.O⟩ ops Q (done ++ [⟨rd ops o, [k], [], [k]⟩]) rest) : WR P B n st ops Q done (o :: rest) :=
  WR.cons ⟨rfl, fun j hj => by simpa using hj, fun j hj => hj⟩ (OpOk.rstore (ws := []) (wn := [k]) hP hg ho h hl hk he hlen he2) hw

/-! ### A slice of the call's own, made at once -/

def bsOf (tb : List (Nat × TI)) (G : List (Nat × List D)) (S : List (Nat × SV)) : Op → Option (Nat × Nat × List (List D) × List Prop)
  | .buildSlice T len ⟨parts⟩ =>
    match get tb T with
    | some ⟨_, _, _, _, _, some sz, so⟩ =>
      match get tb (so - 4), rowsOf sz G S 0 parts, Nat.beq len parts.length, Nat.ble (len * sz) 16777216, Nat.ble len 16777216 with
      | some _, some (rows, l), true, true, true => some (so - 4, sz, rows, l)
      | _, _, _, _, _ => none
    | _ => none
  | _ => none

theorem OpOk.buildRow (hP : TblOk P tb) {ops : List Oper} {o : Oper} {d T' z : Nat} {es es2 : List (List D)} {l : List Prop} {sl ns ws wn : List Nat} (hg : o.guard = none) (ho : o.dst = some d) (hd : inB n d = true)
    (h : bsOf tb B.G (pickL st.S sl) o.op = some (T', z, es, l)) (hl : vcs l) (hdn : has d ns = true) (hfr : get (pickL st.O ns) d = none) (he : es = es2) :
    OpOk P B n ops Q o ⟨sl, ns, ws, wn⟩ st ⟨[(d, .r d)], [(d, .row T' z es2)]⟩ := by
  subst he
  intro st' a ρ w L K hag hs hK
  have hS : ∀ t x, get (pickL st.S sl) t = some x → get st'.S t = some x := fun t x ht => by obtain ⟨h1, h2⟩ := pickL_some ht; rw [hag.S t h1]; exact h2
  have hfr' : get st'.O d = none := by rw [hag.O d (has_iff.1 hdn)]; exact pickL_none (has_iff.1 hdn) hfr
  unfold bsOf at h
  split at h
  · rename_i T len parts hop
    split at h
    · rename_i z0 z1 z2 z3 z4 sz so hT
      split at h
      · rename_i ti rows l' hE hrows hlen hb hb2
        cases h
        have hlen := Nat.eq_of_beq_eq_true hlen
        have hb := Nat.le_of_ble_eq_true hb
        have hb2 := Nat.le_of_ble_eq_true hb2
        obtain ⟨us, k1, k2, k3, k4⟩ := rowsOf_sound hs hS hrows hl
        have hrun := run_buildSlice (parts := parts.map fun p => (p.1, a.eval p.2)) (cs := us.flatten) hP hT hE hb (by simp [hlen]) (fun rest hr => by
          have := k4 (done := []) (rest := rest) (by simp) (by rw [hr, hlen])
          simpa using this) w
        have hbel := below_push w (.cells us.flatten.toArray (so - 4) (0, 0))
        have hul := k1.length
        have hfl := flat_length k2
        have hsat := sat_new hs (d := d) (v := .slice (some ⟨w.heap.size, 0, none⟩) len len) (o := .row (so - 4) z es) (w' := { w with heap := w.heap.push (.cells us.flatten.toArray (so - 4) (0, 0)) }) hd hfr' hbel
          (fun b hb => by simp only [ob, Option.some.injEq] at hb; subst hb; simp) (x := .r d) (by simp only [VRep]; exact ⟨nmO_self, upd_self.symm⟩)
          (fun X _ hkp => by
            have hul2 : us.length = len := by omega
            refine ⟨us, RepRows.keep hkp _ _ k1, k2, ⟨hfl, .inr ⟨w.heap.size, len, us.flatten.toArray, (0, 0), by rw [hul2], by simp, .inl (Nat.le_refl _), by omega, by simp only [maxLen]; omega, by simp only [List.size_toArray]; rw [hfl, hul2], ?_⟩⟩, fun b hb => .inr hb⟩
            rw [← hfl]
            exact List.take_length)
        refine wpO_value hg (v := .slice (some ⟨w.heap.size, 0, none⟩) len len) (w' := { w with heap := w.heap.push (.cells us.flatten.toArray (so - 4) (0, 0)) }) ?_ (by rw [ho]; exact hK _ _ ⟨_, _, hsat⟩)
        simp only [execOp, hop, List.map_toArray, hrun, Sem.run_bind, Result.andThen_ok, Sem.run_pure]
      · cases h
    · cases h
  · cases h

theorem WL.buildRow (hP : TblOk P tb) {ops rest : List Oper} {o : Oper} {d T' z : Nat} {es : List (List D)} (es2 : List (List D)) {l : List Prop} (hg : o.guard = none) (ho : o.dst = some d) (hd : inB n d = true)
    (h : bsOf tb B.G (pickL st.S (rd ops o)) o.op = some (T', z, es, l)) (hl : vcs l) (hfr : get (pickL st.O [d]) d = none) (he : es = es2) (hw : WL P B n ⟨(d, .r d) :: st.S, (d, .row T' z es2) :: st.O⟩ ops Q rest) : WL P B n st ops Q (o :: rest) :=
  WL.op (OpOk.buildRow (ns := [d]) (ws := []) (wn := []) hP hg ho hd h hl (by simp [has_iff]) hfr he) hw
theorem WR.buildRow (hP : TblOk P tb) {ops rest : List Oper} {o : Oper} {done : List Key} {d T' z : Nat} {es : List (List D)} (es2 : List (List D)) {l : List Prop} (hg : o.guard = none) (ho : o.dst = some d) (hd : inB n d = true)
    (h : bsOf tb B.G (pickL st.S (rd ops o)) o.op = some (T', z, es, l)) (hl : vcs l) (hfr : get (pickL st.O [d]) d = none) (he : es = es2) (hw : WR P B n ⟨(d, .r d) :: st.S, (d, .row T' z es2) :: st.O⟩ ops Q (done ++ [⟨rd ops o, [d], [d], [d]⟩]) rest) : WR P B n st ops Q done (o :: rest) :=
  WR.cons ⟨rfl, fun j hj => by simpa using hj, fun j hj => hj⟩ (OpOk.buildRow (ns := [d]) (ws := [d]) (wn := [d]) hP hg ho hd h hl (by simp [has_iff]) hfr he) hw

/-! ### A slice of the call's own that is made with zeros, or cut -/

/-- nil's capacity, and a slice of nil. -/
def nlOf (G : List (Nat × List D)) (S : List (Nat × SV)) : Op → Option (Nat × D × List Prop)
  | .call ⟨.builtin .cap, ⟨[x]⟩, ⟨[T]⟩⟩ =>
    match o1 G S x with
    | some (.v (.raw (.slice none 0 0)), l) => some (T, .int .i64 0, l)
    | _ => none
  | .slice T x none (some y) none =>
    match o1 G S x, o1 G S y with
    | some (.v (.raw (.slice none 0 0)), l), some (.v (.int _ 0), m) => some (T, .raw (.slice none 0 0), l ++ m)
    | _, _ => none
  | _ => none

theorem ApOk.isSome {T e sz : Nat} (hT : ApOk P T e sz) : ∃ i, P.info? e = some i ∧ i.size = sz ∧ i.bytes ≤ 1024 := by
  have h := hT.info
  cases hi : P.info? e with
  | none => rw [hi] at h; cases h
  | some i => rw [hi] at h; simp at h; exact ⟨i, rfl, h.1, h.2.2⟩

theorem q_nil {o : Oper} {sl ns : List Nat} {T e sz : Nat} {d : D} {l : List Prop} (hT : ApOk P T e sz) (h : nlOf B.G (pickL st.S sl) o.op = some (T, d, l)) (hl : vcs l) : QOk P B n o sl ns st (.v d) := by
  intro st' a ρ w L hag hs
  have hS : ∀ t x, get (pickL st.S sl) t = some x → get st'.S t = some x := fun t x ht => by obtain ⟨h1, h2⟩ := pickL_some ht; rw [hag.S t h1]; exact h2
  unfold nlOf at h
  split at h
  · rename_i x T1 hop
    split at h
    · rename_i l1 h1
      cases h
      have e1 := o1_sound hs hS h1 hl
      simp only [VRep, Rep] at e1
      refine ⟨.int .i64 0, ?_, by simp only [VRep, Rep]⟩
      unfold execOp
      rw [hop]
      simp [resolve, invoke, builtin, e1, Builtin.cap_, run_underlying hT.under, goInt]
    · cases h
  · rename_i T1 x y hop
    split at h
    · rename_i l1 k l2 h1 h2
      cases h
      obtain ⟨v1, v2⟩ := vcs_append hl
      have e1 := o1_sound hs hS h1 v1
      have e2 := o1_sound hs hS h2 v2
      simp only [VRep, Rep] at e1 e2
      obtain ⟨i, hi, _⟩ := hT.isSome
      refine ⟨.slice none 0 0, ?_, by simp only [VRep, Rep]⟩
      simp [execOp, hop, e1, e2, Instr.sliceAt, Instr.slice, Instr.sliceBounds, Instr.sliceBound, asIntOf, run_underlying hT.under, sizeOf, typeInfo, hi]
    · cases h
  · cases h

def grOf (tb : List (Nat × TI)) (G : List (Nat × List D)) (S : List (Nat × SV)) : Op → Option (Nat × Int × List Prop)
  | .call ⟨.builtin .append, ⟨[x, y]⟩, ⟨[T, T']⟩⟩ =>
    match get tb T', o1 G S x, o1 G S y with
    | some ⟨_, _, _, _, some _, _, _⟩, some (.v (.raw (.slice none 0 0)), l), some (.v (.int .i64 m), l2) => some (T, m, l ++ l2)
    | _, _, _ => none
  | _ => none

theorem run_append_zeros {T T' ty e : Nat} {i : TypeInfo} {z : Value} {k : IntKind} (ht : P.underlying T = some (.slice e)) (hu : P.underlying T' = some (.int k)) (hi : P.info? e = some i) (hz : i.zero = some z) (hs : z.cells.size = i.size) (h0 : 0 < i.size) (m : Nat) (hm : 0 < m) (hb : m ≤ 137438953472) (hby : i.bytes ≤ 1024) :
    (Builtin.append_ #[T, T'] ty #[.slice none 0 0, .int .i64 m]).run P w =
      .ok (.slice (some ⟨w.heap.size, 0, none⟩) m (grownCap w m 0 e)) (w.drew.alloc (.cells (Builtin.zeroCells z.cells m ++ Builtin.zeroCells z.cells (grownCap w m 0 e - m)) e)) := by
  have hw : IntKind.i64.wrap (m : Int) = (m : Int) := IntWalk.i64_in _ (by omega)
  have hnc : Builtin.nextslicecap m 0 = m := by unfold Builtin.nextslicecap; rw [if_pos (by omega)]
  have hby2 : m * i.bytes ≤ 140737488355328 := Nat.le_trans (Nat.mul_le_mul hb hby) (by omega)
  have h48 : ¬ (281474976710656 < m * i.bytes) := by omega
  have h48i : ¬ ((281474976710656 : Int) < (m : Int) * (i.bytes : Int)) := by
    have h1 : ((m * i.bytes : Nat) : Int) ≤ 140737488355328 := Int.ofNat_le.2 hby2
    rw [Int.natCast_mul] at h1
    omega
  have hmz : ¬ (m * i.size = 0) := by
    intro h
    rcases Nat.mul_eq_zero.1 h with h | h <;> omega
  have hmm : ¬ ((9223372036854775807 : Int) < (m : Int)) := by omega
  simp [Builtin.append_, run_underlying ht, run_underlying hu, sizeOf, typeInfo, zeroValue, hi, hz, asInt, asIntOf, hw, hnc, h48, h48i, hmz, hmm, Question.forced, newRow, grownCap, Builtin.firstCells]
  rw [if_neg (by omega), if_neg (by omega)]

theorem flat_take {sz : Nat} : ∀ {rows : List (List Value)} (j : Nat), (∀ r, r ∈ rows → r.length = sz) → (rows.take j).flatten = rows.flatten.take (j * sz)
  | [], j, h => by simp
  | r :: rows, 0, h => by simp
  | r :: rows, j + 1, h => by
    have h0 := h r (by simp)
    rw [List.take_succ_cons, List.flatten_cons, List.flatten_cons, flat_take j (fun r hr => h r (by simp [hr])), Nat.succ_mul, List.take_append]
    have e1 : r.take (j * sz + sz) = r := List.take_of_length_le (by omega)
    rw [e1, h0, Nat.add_sub_cancel]
theorem zeroCells_rows (zs : List Value) (hz : 0 < zs.length) : ∀ m : Nat, (Builtin.zeroCells zs.toArray m).toList = (List.replicate m zs).flatten := by
  intro m
  apply List.ext_getElem?
  intro j
  have hfl := flat_length (sz := zs.length) (rows := List.replicate m zs) (fun r hr => by rw [(List.mem_replicate.1 hr).2])
  simp only [List.length_replicate] at hfl
  by_cases hj : j < m * zs.length
  · have hdiv : j / zs.length < m := Nat.div_lt_of_lt_mul (by rw [Nat.mul_comm]; exact hj)
    have hmod : j % zs.length < zs.length := Nat.mod_lt _ hz
    have := nth_flat (sz := zs.length) (rows := List.replicate m zs) (j / zs.length) zs (j % zs.length) zs[j % zs.length] (fun r hr => by rw [(List.mem_replicate.1 hr).2]) (by simp [hdiv]) (by simp [hmod])
    rw [Nat.div_add_mod' j zs.length] at this
    rw [this]
    simp [Builtin.zeroCells, hj, hmod]
  · rw [List.getElem?_eq_none (by simp [Builtin.zeroCells]; omega), List.getElem?_eq_none (by omega)]
theorem reps_raw {X : Nat → Prop} : ∀ (zs : List Value), Reps w X (zs.map D.raw) zs
  | [] => by simp [Reps]
  | z :: zs => by simp only [List.map_cons, Reps]; exact ⟨z, zs, rfl, by simp [Rep], reps_raw zs⟩
theorem reprows_rep {X : Nat → Prop} (zs : List Value) : ∀ m : Nat, RepRows w X (List.replicate m (zs.map D.raw)) (List.replicate m zs)
  | 0 => by simp [RepRows]
  | m + 1 => by simp only [List.replicate_succ, RepRows]; exact ⟨zs, _, rfl, reps_raw zs, reprows_rep zs m⟩

theorem below_alloc (w : World) (o : Obj) : Below w.heap.size w (w.drew.alloc o) :=
  { os := rfl, tape := rfl, output := rfl, size := by show _ ≤ (w.heap.push _).size; simp, block := fun b hb => Go.heap_alloc_old w.drew _ hb }

theorem OpOk.growRow (hP : TblOk P tb) {ops : List Oper} {o : Oper} {d T e sz : Nat} {m : Int} {ti : TI} {l : List Prop} {sl ns ws wn : List Nat} (hT : ApOk P T e sz) (hE : get tb e = some ti) (hg : o.guard = none) (ho : o.dst = some d) (hd : inB n d = true)
    (h : grOf tb B.G (pickL st.S sl) o.op = some (T, m, l)) (hl : vcs l) (hm : 0 < m ∧ m ≤ 137438953472) (hdn : has d ns = true) (hfr : get (pickL st.O ns) d = none) :
    OpOk P B n ops Q o ⟨sl, ns, ws, wn⟩ st ⟨[(d, .r d)], [(d, .row e sz (List.replicate m.toNat (ti.zero.cells.toList.map D.raw)))]⟩ := by
  intro st' a ρ w L K hag hs hK
  have hS : ∀ t x, get (pickL st.S sl) t = some x → get st'.S t = some x := fun t x ht => by obtain ⟨h1, h2⟩ := pickL_some ht; rw [hag.S t h1]; exact h2
  have hfr' : get st'.O d = none := by rw [hag.O d (has_iff.1 hdn)]; exact pickL_none (has_iff.1 hdn) hfr
  unfold grOf at h
  split at h
  · rename_i x y T1 T2 hop
    split at h
    · rename_i ik el so l1 m' l2 hT2 h1 h2
      cases h
      obtain ⟨v1, v2⟩ := vcs_append hl
      have e1 := o1_sound hs hS h1 v1
      have e2 := o1_sound hs hS h2 v2
      simp only [VRep, Rep] at e1 e2
      obtain ⟨dd, hu, _, _, hik, _⟩ := (hP.get hT2).under
      have hu2 : ∃ k, P.underlying T2 = some (.int k) := by
        rw [hu]
        cases dd <;> simp [ikD] at hik ⊢
      obtain ⟨k2, hu2⟩ := hu2
      have hinf := hT.info
      have hti := (hP.get hE).info
      cases hi : P.info? e with
      | none => rw [hi] at hinf; cases hinf
      | some i =>
        rw [hi] at hinf hti
        simp only [Option.map_some, Option.some.injEq, Prod.mk.injEq] at hinf hti
        obtain ⟨i1, i2, i3⟩ := hinf
        have i3 := Nat.le_of_ble_eq_true i3
        have hz : i.zero = some ti.zero := hti.2
        rw [hz] at i2
        simp only [Option.map_some, Option.some.injEq] at i2
        obtain ⟨m1, rfl⟩ : ∃ m1 : Nat, m = (m1 : Int) := ⟨m.toNat, by omega⟩
        have hrun := run_append_zeros (w := w) (ty := o.type) hT.under hu2 hi hz (by omega) (by have := hT.pos; omega) m1 (by omega) (by omega) i3
        have hzl : ti.zero.cells.toList.length = sz := by rw [Array.length_toList]; exact i2
        have hpos := hT.pos
        have hzc := zeroCells_rows ti.zero.cells.toList (by omega)
        simp only [Array.toArray_toList] at hzc
        have hge := grownCap_ge w m1 0 e
        have hcm : grownCap w m1 0 e ≤ maxLen := grownCap_le_maxLen w m1 0 e (by simp only [maxLen]; omega)
        have hsat := sat_new hs (d := d) (v := .slice (some ⟨w.heap.size, 0, none⟩) m1 (grownCap w m1 0 e)) (o := .row e sz (List.replicate m1 (ti.zero.cells.toList.map D.raw))) (w' := w.drew.alloc (.cells (Builtin.zeroCells ti.zero.cells m1 ++ Builtin.zeroCells ti.zero.cells (grownCap w m1 0 e - m1)) e)) hd hfr' (below_alloc w _)
          (fun b hb => by simp only [ob, Option.some.injEq] at hb; subst hb; exact ⟨Nat.le_refl _, by show _ < (w.heap.push _).size; simp⟩) (x := .r d) (by simp only [VRep]; exact ⟨nmO_self, upd_self.symm⟩)
          (fun X _ hkp => by
            have hfl := flat_length (sz := sz) (rows := List.replicate m1 ti.zero.cells.toList) (fun r hr => by rw [(List.mem_replicate.1 hr).2]; exact hzl)
            refine ⟨List.replicate m1 ti.zero.cells.toList, reprows_rep _ _, fun r hr => by rw [(List.mem_replicate.1 hr).2]; exact hzl, ⟨hfl, .inr ⟨w.heap.size, _, _, (0, 0), by rw [List.length_replicate], Go.heap_alloc_new w.drew _, .inl (Nat.le_refl _), by rw [List.length_replicate]; exact hge, hcm, ?_, ?_⟩⟩, fun b hb => .inr hb⟩
            · simp only [Array.size_append, size_zeroCells, i2, ← Nat.add_mul]
              congr 1
              omega
            · rw [Array.toList_append, hzc, ← hfl]
              exact List.take_left)
        refine wpO_value hg (v := .slice (some ⟨w.heap.size, 0, none⟩) m1 (grownCap w m1 0 e)) (w' := w.drew.alloc (.cells (Builtin.zeroCells ti.zero.cells m1 ++ Builtin.zeroCells ti.zero.cells (grownCap w m1 0 e - m1)) e)) ?_ (by rw [ho]; exact hK _ _ ⟨_, _, hsat⟩)
        unfold execOp
        rw [hop]
        simp only [resolve, invoke, builtin, Sem.run_bind, Sem.run_pure, Result.andThen_ok, List.map_toArray, List.map_cons, List.map_nil, e1, e2, hrun]
    · cases h
  · cases h

theorem WL.growRow (hP : TblOk P tb) {ops rest : List Oper} {o : Oper} {d T e sz : Nat} {m : Int} {ti : TI} {l : List Prop} (es : List (List D)) (hT : ApOk P T e sz) (hE : get tb e = some ti) (hg : o.guard = none) (ho : o.dst = some d) (hd : inB n d = true)
    (h : grOf tb B.G (pickL st.S (rd ops o)) o.op = some (T, m, l)) (hl : vcs l) (hm : 0 < m ∧ m ≤ 137438953472) (hfr : get (pickL st.O [d]) d = none) (he : es = List.replicate m.toNat (ti.zero.cells.toList.map D.raw))
    (hw : WL P B n ⟨(d, .r d) :: st.S, (d, .row e sz es) :: st.O⟩ ops Q rest) : WL P B n st ops Q (o :: rest) := by
  subst he
  exact WL.op (OpOk.growRow (ns := [d]) (ws := []) (wn := []) hP hT hE hg ho hd h hl hm (by simp [has_iff]) hfr) hw

/-- A slice of the call's own, under another name. -/
theorem sat_cut (hs : Sat B n st ρ a w L) {k d T' z : Nat} {es es' : List (List D)} {v' : Value} (hd : inB n d = true) (hk : get st.O k = some (.row T' z es)) (hfr : get st.O d = none) (hob : ∀ b, ob v' = some b → ob (ρ k) = some b)
    (ho : ObOk (nmO st.O) ρ w (un B.F L) L v' (.row T' z es')) : Sat B n ⟨(d, .r d) :: st.S, (d, .row T' z es') :: (k, .dead) :: st.O⟩ (upd ρ d v') (a.put (some d) v') w L := by
  have hd' : d < n := by simpa [inB] using hd
  have hkd : k ≠ d := fun e => by subst e; rw [hk] at hfr; cases hfr
  have hN : ∀ j, nmO st.O j → nmO ((d, Ob.row T' z es') :: (k, .dead) :: st.O) j ∧ upd ρ d v' j = ρ j := fun j h => ⟨nmO_cons (nmO_cons h), upd_ne (nmO_ne h hfr)⟩
  have old : ∀ {j o}, j ≠ d → get ((d, Ob.row T' z es') :: (k, .dead) :: st.O) j = some o → o.live = true → get st.O j = some o ∧ j ≠ k := fun {j o} hjd h hl => by
    rw [get_cons_ne _ _ (fun e => hjd e.symm)] at h
    by_cases e : k = j
    · subst e; rw [get_cons_self] at h; cases h; cases hl
    · rw [get_cons_ne _ _ e] at h; exact ⟨h, fun e' => e e'.symm⟩
  refine hs.go (Step.refl _ _) (fun b hb => hs.low b (.inr hb)) hN (by simp [Act.put, hs.size]) hs.defers (fun t y hy => ?_) (fun j o hj => ?_) (fun j o j' o' hj hj' hne l1 l2 b hb1 hb2 => ?_)
  · simp only [Act.put]
    by_cases hdt : d = t
    · subst hdt; rw [get_cons_self] at hy; cases hy
      exact ⟨v', by simp [hs.size, hd'], by simp only [VRep]; exact ⟨nmO_self, upd_self.symm⟩⟩
    · rw [get_cons_ne _ _ hdt] at hy
      obtain ⟨x, g1, g2⟩ := hs.slot t y hy
      exact ⟨x, by rw [Array.getElem?_setIfInBounds_ne hdt]; exact g1, VRep.keep hN (Keep.refl _ _) y x g2⟩
  · by_cases e : d = j
    · subst e; rw [get_cons_self] at hj; cases hj
      rw [upd_self]
      exact ho.keep hN (Keep.refl _ _) (fun _ b _ => ⟨rfl, id⟩)
    · rw [get_cons_ne _ _ e] at hj
      rw [upd_ne (fun e' => e e'.symm)]
      by_cases e2 : k = j
      · subst e2; rw [get_cons_self] at hj; cases hj
        exact hs.cellN k (by simp [nmO, hk])
      · rw [get_cons_ne _ _ e2] at hj
        exact (hs.obj j o hj).keep hN (Keep.refl _ _) (fun _ b _ => ⟨rfl, id⟩)
  · by_cases e1 : j = d
    · subst e1
      have e2 : j' ≠ j := fun e => hne e.symm
      rw [upd_self] at hb1; rw [upd_ne e2] at hb2
      obtain ⟨h1, h2⟩ := old e2 hj' l2
      exact hs.inj k _ j' o' hk h1 (fun e => h2 e.symm) rfl l2 b (hob b hb1) hb2
    · by_cases e2 : j' = d
      · subst e2
        rw [upd_self] at hb2; rw [upd_ne e1] at hb1
        obtain ⟨h1, h2⟩ := old e1 hj l1
        exact hs.inj k _ j o hk h1 (fun e => h2 e.symm) rfl l1 b (hob b hb2) hb1
      · rw [upd_ne e1] at hb1; rw [upd_ne e2] at hb2
        exact hs.inj j o j' o' (old e1 hj l1).1 (old e2 hj' l2).1 hne l1 l2 b hb1 hb2

def ctOf (tb : List (Nat × TI)) (G : List (Nat × List D)) (S : List (Nat × SV)) : Op → Option (Nat × Nat × Int × List Prop)
  | .slice T x none (some y) none =>
    match get tb T, o1 G S x, o1 G S y with
    | some ⟨_, _, _, _, _, some z, _⟩, some (.r k, l), some (.v (.int _ j), m) => some (k, z, j, l ++ m)
    | _, _, _ => none
  | _ => none

theorem OpOk.rcut (hP : TblOk P tb) {ops : List Oper} {o : Oper} {d k T' z : Nat} {j : Int} {es es2 : List (List D)} {l : List Prop} {sl ns ws wn : List Nat} (hg : o.guard = none) (ho : o.dst = some d) (hd : inB n d = true)
    (h : ctOf tb B.G (pickL st.S sl) o.op = some (k, z, j, l)) (hl : vcs l) (hk : get (pickL st.O ns) k = some (.row T' z es)) (hj : 0 ≤ j ∧ j ≤ (es.length : Int)) (hdn : has d ns = true) (hfr : get (pickL st.O ns) d = none) (he : es.take j.toNat = es2) :
    OpOk P B n ops Q o ⟨sl, ns, ws, wn⟩ st ⟨[(d, .r d)], [(d, .row T' z es2), (k, .dead)]⟩ := by
  subst he
  intro st' a ρ w L K hag hs hK
  have hS : ∀ t x, get (pickL st.S sl) t = some x → get st'.S t = some x := fun t x ht => by obtain ⟨h1, h2⟩ := pickL_some ht; rw [hag.S t h1]; exact h2
  have hO : get st'.O k = some (.row T' z es) := by obtain ⟨h1, h2⟩ := pickL_some hk; rw [hag.O k h1]; exact h2
  have hfr' : get st'.O d = none := by rw [hag.O d (has_iff.1 hdn)]; exact pickL_none (has_iff.1 hdn) hfr
  unfold ctOf at h
  split at h
  · rename_i T x y hop
    split at h
    · rename_i z' so k' l1 ik j' l2 hT h1 h2
      cases h
      obtain ⟨v1, v2⟩ := vcs_append hl
      have e1 := o1_sound hs hS h1 v1
      have e2 := o1_sound hs hS h2 v2
      simp only [VRep, Rep] at e1 e2
      obtain ⟨j1, rfl⟩ : ∃ j1 : Nat, j = (j1 : Int) := ⟨j.toNat, by omega⟩
      obtain ⟨rows, g1, g2, g3, g4⟩ := hs.obj k _ hO
      have hlen := g1.length
      obtain ⟨el, hdd, hsz⟩ := el_size (hP.get hT) rfl w
      have hrr : RepRows w (un B.F L) (es.take j1) (rows.take j1) := by
        have : ∀ {es : List (List D)} {rows : List (List Value)} (m : Nat), RepRows w (un B.F L) es rows → RepRows w (un B.F L) (es.take m) (rows.take m) := by
          intro es
          induction es with
          | nil => intro rows m h; simp only [RepRows] at h; subst h; simp [RepRows]
          | cons e es ih =>
            intro rows m h
            simp only [RepRows] at h
            obtain ⟨c, r, rfl, h1, h2⟩ := h
            cases m with
            | zero => simp [RepRows]
            | succ m => simp only [List.take_succ_cons, RepRows]; exact ⟨c, _, rfl, h1, ih m h2⟩
        exact this j1 g1
      have hlt : (rows.take j1).length = j1 := by rw [List.length_take]; omega
      rcases g3.2 with ⟨hv, hn0⟩ | ⟨g, cap, cur, fz, hv, hheap, hfz, hnc, hcm, hcs, htake⟩
      · have hj0 : j1 = 0 := by omega
        subst hj0
        have hs' := sat_cut hs (v' := .slice none 0 0) (es' := es.take 0) hd hO hfr' (fun b hb => by simp [ob] at hb) ⟨[], by simp [RepRows], (fun r h => by cases h), OwnsR.nil w T' z, fun b hb => by simp [ob] at hb⟩
        refine wpO_value hg (v := .slice none 0 0) (w' := w) ?_ (by rw [ho]; exact hK _ _ ⟨_, _, hs'⟩)
        simp [execOp, hop, e1.2, hv, e2, Instr.sliceAt, Instr.slice, Instr.sliceBounds, Instr.sliceBound, asIntOf, hdd, hsz]
      · have hs' := sat_cut hs (v' := .slice (some ⟨g, 0, none⟩) j1 cap) (es' := es.take j1) hd hO hfr' (fun b hb => by rw [hv]; exact hb) ⟨rows.take j1, hrr, fun r hr => g2 r (List.mem_of_mem_take hr), by
          rw [hlt]
          refine ⟨?_, .inr ⟨g, cap, cur, fz, rfl, hheap, hfz, by omega, hcm, hcs, ?_⟩⟩
          · rw [flat_length (fun r hr => g2 r (List.mem_of_mem_take hr)), hlt]
          · rw [flat_take j1 g2, ← htake, List.take_take, Nat.min_eq_left (Nat.mul_le_mul_right _ (by omega))], fun b hb => g4 b (by rw [hv]; exact hb)⟩
        refine wpO_value hg (v := .slice (some ⟨g, 0, none⟩) j1 cap) (w' := w) ?_ (by rw [ho]; exact hK _ _ ⟨_, _, hs'⟩)
        have hb1 : (0 : Int) ≤ (j1 : Int) ∧ (j1 : Int) ≤ (cap : Int) := by omega
        simp [execOp, hop, e1.2, hv, e2, Instr.sliceAt, Instr.slice, Instr.sliceBounds, Instr.sliceBound, asIntOf, hdd, hsz, hb1, Addr.add_lit]
        intro h; omega
    · cases h
  · cases h

theorem WL.rcut (hP : TblOk P tb) {ops rest : List Oper} {o : Oper} {d k T' z : Nat} {j : Int} {es : List (List D)} (es2 : List (List D)) {l : List Prop} (hg : o.guard = none) (ho : o.dst = some d) (hd : inB n d = true)
    (h : ctOf tb B.G (pickL st.S (rd ops o)) o.op = some (k, z, j, l)) (hl : vcs l) (hk : get (pickL st.O [d, k]) k = some (.row T' z es)) (hj : 0 ≤ j ∧ j ≤ (es.length : Int)) (hfr : get (pickL st.O [d, k]) d = none) (he : es.take j.toNat = es2)
    (hw : WL P B n ⟨(d, .r d) :: st.S, (d, .row T' z es2) :: (k, .dead) :: st.O⟩ ops Q rest) : WL P B n st ops Q (o :: rest) :=
  WL.op (OpOk.rcut (ns := [d, k]) (ws := []) (wn := []) hP hg ho hd h hl hk hj (by simp [has_iff]) hfr he) hw
theorem WR.rcut (hP : TblOk P tb) {ops rest : List Oper} {o : Oper} {done : List Key} {d k T' z : Nat} {j : Int} {es : List (List D)} (es2 : List (List D)) {l : List Prop} (hg : o.guard = none) (ho : o.dst = some d) (hd : inB n d = true)
    (h : ctOf tb B.G (pickL st.S (rd ops o)) o.op = some (k, z, j, l)) (hl : vcs l) (hk : get (pickL st.O [d, k]) k = some (.row T' z es)) (hj : 0 ≤ j ∧ j ≤ (es.length : Int)) (hfr : get (pickL st.O [d, k]) d = none) (he : es.take j.toNat = es2)
    (hw : WR P B n ⟨(d, .r d) :: st.S, (d, .row T' z es2) :: (k, .dead) :: st.O⟩ ops Q (done ++ [⟨rd ops o, [d, k], [d], [d, k]⟩]) rest) : WR P B n st ops Q done (o :: rest) :=
  WR.cons ⟨rfl, fun j hj => by simpa using hj, fun j hj => hj⟩ (OpOk.rcut (ns := [d, k]) (ws := [d]) (wn := [d, k]) hP hg ho hd h hl hk hj (by simp [has_iff]) hfr he) hw

end Go.V
