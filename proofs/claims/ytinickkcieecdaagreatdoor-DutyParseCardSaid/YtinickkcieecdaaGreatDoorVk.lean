/- The engine: slices of the call's own. No program in sight. -/
import Derived.Test.YtinickkcieecdaaGreatDoorVj
set_option linter.unusedVariables false
namespace Go.V
open Go.RowKit

variable {P : Program} {n : Nat} {B : Base} {st : St} {tb : List (Nat × TI)} {Q : Exit → Act → World → Prop} {ρ : Nat → Value} {a : Act} {w : World} {L : Nat → Prop}

theorem ob_own {v : Value} (h : ∀ a, v ≠ .pointer a) : ob v = v.ownBlock := by
  cases v with
  | pointer a => exact absurd rfl (h a)
  | slice a n c => cases a <;> rfl
  | _ => rfl
theorem ownsRow_slice {T sz m : Nat} {v : Value} {xs : List Value} (h : OwnsR w T sz v m xs) : ∃ ad c, v = .slice ad m c := by
  rcases h.2 with ⟨h1, h2⟩ | ⟨g, cap, cur, fz, h1, _⟩
  · exact ⟨none, 0, by rw [h1, h2]⟩
  · exact ⟨_, _, h1⟩
theorem ob_row {T sz m : Nat} {v : Value} {xs : List Value} (h : OwnsR w T sz v m xs) : ob v = v.ownBlock := by
  obtain ⟨ad, c, rfl⟩ := ownsRow_slice h
  exact ob_own (fun a h => by cases h)

/-! ### nil as a slice of the call's own -/

theorem sat_rowNil (hs : Sat B n st ρ a w L) {t k : Nat} (T sz : Nat) (hx : get st.S t = some (.v (.raw (.slice none 0 0)))) (hfr : get st.O k = none) :
    ∃ ρ', Sat B n ⟨(t, .r k) :: st.S, (k, .row T sz []) :: st.O⟩ ρ' a w L := by
  refine ⟨upd ρ k (.slice none 0 0), ?_⟩
  have hN : ∀ j, nmO st.O j → nmO ((k, Ob.row T sz []) :: st.O) j ∧ upd ρ k (.slice none 0 0) j = ρ j := fun j h => ⟨nmO_cons h, upd_ne (nmO_ne h hfr)⟩
  refine hs.go (Step.refl _ _) (fun b hb => hs.low b (.inr hb)) hN hs.size hs.defers (fun t' y hy => ?_) (fun j o hj => ?_) (fun j o j' o' hj hj' hne l1 l2 b hb hb' => ?_)
  · by_cases e : t = t'
    · subst e; rw [get_cons_self] at hy; cases hy
      obtain ⟨v, h1, h2⟩ := hs.slot t _ hx
      simp only [VRep, Rep] at h2 ⊢
      exact ⟨v, h1, nmO_self, by rw [upd_self]; exact h2⟩
    · rw [get_cons_ne _ _ e] at hy
      obtain ⟨v, h1, h2⟩ := hs.slot t' y hy
      exact ⟨v, h1, VRep.keep hN (Keep.refl _ _) y v h2⟩
  · by_cases e : k = j
    · subst e; rw [get_cons_self] at hj; cases hj
      rw [upd_self]
      exact ⟨[], by simp [RepRows], (fun r h => by cases h), OwnsR.nil w T sz, fun b hb => by simp [ob] at hb⟩
    · rw [get_cons_ne _ _ e] at hj
      rw [upd_ne (fun e' => e e'.symm)]
      exact (hs.obj j o hj).keep hN (Keep.refl _ _) (fun _ b _ => ⟨rfl, id⟩)
  · by_cases e1 : j = k
    · subst e1; rw [upd_self] at hb; simp [ob] at hb
    · by_cases e2 : j' = k
      · subst e2; rw [upd_self] at hb'; simp [ob] at hb'
      · rw [upd_ne e1] at hb; rw [upd_ne e2] at hb'
        rw [get_cons_ne _ _ (fun e => e1 e.symm)] at hj
        rw [get_cons_ne _ _ (fun e => e2 e.symm)] at hj'
        exact hs.inj j o j' o' hj hj' hne l1 l2 b hb hb'
theorem WC.rowNil {c : Code} (t k T sz : Nat) (hx : get st.S t = some (.v (.raw (.slice none 0 0)))) (hfr : get st.O k = none) (h : WC P B n ⟨(t, .r k) :: st.S, (k, .row T sz []) :: st.O⟩ c Q) : WC P B n st c Q := fun a ρ w L hs => by obtain ⟨ρ', s'⟩ := sat_rowNil hs T sz hx hfr; exact h a ρ' w L s'
theorem WQ.rowNil {e : Exit} (t k T sz : Nat) (hx : get st.S t = some (.v (.raw (.slice none 0 0)))) (hfr : get st.O k = none) (h : WQ B n ⟨(t, .r k) :: st.S, (k, .row T sz []) :: st.O⟩ Q e) : WQ B n st Q e := fun a ρ w L hs => by obtain ⟨ρ', s'⟩ := sat_rowNil hs T sz hx hfr; exact h a ρ' w L s'
theorem WL.rowNil {ops rest : List Oper} (t k T sz : Nat) (hx : get st.S t = some (.v (.raw (.slice none 0 0)))) (hfr : get st.O k = none) (h : WL P B n ⟨(t, .r k) :: st.S, (k, .row T sz []) :: st.O⟩ ops Q rest) : WL P B n st ops Q rest := fun a ρ w L hs => by obtain ⟨ρ', s'⟩ := sat_rowNil hs T sz hx hfr; exact h a ρ' w L s'

/-! ### A slice of the call's own becomes one that is only read -/

mutual
def pubS (k : Nat) (d : D) : SV → SV
  | .v x => .v x
  | .g c x => .g c (pubS k d x)
  | .p j o => .p j o
  | .at cs o => .at cs o
  | .r j => match Nat.beq j k with | true => .v d | false => .r j
  | .re j sz i o => match Nat.beq j k with | true => .u | false => .re j sz i o
  | .sp j => .sp j
  | .fn f cs => .fn f (pubSs k d cs)
  | .tup xs => .tup (pubSs k d xs)
  | .u => .u
def pubSs (k : Nat) (d : D) : List SV → List SV
  | [] => []
  | x :: r => pubS k d x :: pubSs k d r
end
def pubL (k : Nat) (d : D) : List (Nat × SV) → List (Nat × SV)
  | [] => []
  | (t, x) :: r => (t, pubS k d x) :: pubL k d r
def pubOb (k : Nat) (d : D) : Ob → Ob
  | .blk ty cs => .blk ty (pubSs k d cs)
  | o => o
def pubO (k : Nat) (d : D) : List (Nat × Ob) → List (Nat × Ob)
  | [] => []
  | (j, o) :: r => (j, match Nat.beq j k with | true => .dead | false => pubOb k d o) :: pubO k d r

mutual
theorem VRep.pub {N : Nat → Prop} {X : Nat → Prop} {k : Nat} {d : D} (hd : Rep w X d (ρ k)) : ∀ (x : SV) (v : Value), VRep N ρ w X x v → VRep N ρ w X (pubS k d x) v
  | .v x, v, h => by simpa only [pubS] using h
  | .g c x, v, h => by
    simp only [pubS, VRep] at h ⊢
    exact ⟨fun hc => VRep.pub hd x v (h.1 hc), h.2⟩
  | .p j o, v, h => by simpa only [pubS] using h
  | .at cs o, v, h => by simpa only [pubS] using h
  | .r j, v, h => by
    simp only [pubS]
    split
    · rename_i e
      cases Nat.eq_of_beq_eq_true e
      simp only [VRep] at h ⊢
      rw [h.2]; exact hd
    · exact h
  | .re j sz i o, v, h => by
    simp only [pubS]
    split
    · simp only [VRep]
    · exact h
  | .sp j, v, h => by simpa only [pubS] using h
  | .fn f cs, v, h => by
    simp only [pubS, VRep] at h ⊢
    obtain ⟨vs, h1, h2⟩ := h
    exact ⟨vs, h1, VReps.pub hd cs vs h2⟩
  | .tup xs, v, h => by
    simp only [pubS, VRep] at h ⊢
    obtain ⟨vs, h1, h2⟩ := h
    exact ⟨vs, h1, VReps.pub hd xs vs h2⟩
  | .u, v, h => by simp only [pubS, VRep]
theorem VReps.pub {N : Nat → Prop} {X : Nat → Prop} {k : Nat} {d : D} (hd : Rep w X d (ρ k)) : ∀ (xs : List SV) (vs : List Value), VReps N ρ w X xs vs → VReps N ρ w X (pubSs k d xs) vs
  | [], vs, h => by simpa only [pubSs] using h
  | x :: xs, vs, h => by
    simp only [pubSs, VReps] at h ⊢
    obtain ⟨v, r, h1, h2, h3⟩ := h
    exact ⟨v, r, h1, VRep.pub hd x v h2, VReps.pub hd xs r h3⟩
end
theorem pubL_get {k : Nat} {d : D} {t : Nat} {y : SV} : ∀ {S : List (Nat × SV)}, get (pubL k d S) t = some y → ∃ x, get S t = some x ∧ y = pubS k d x
  | [], h => by simp [pubL, get] at h
  | (t', x) :: r, h => by
    simp only [pubL] at h
    by_cases e : t' = t
    · subst e; rw [get_cons_self] at h; cases h; exact ⟨x, get_cons_self _ _ _, rfl⟩
    · rw [get_cons_ne _ _ e] at h; rw [get_cons_ne _ _ e]; exact pubL_get h
theorem pubO_get {k : Nat} {d : D} {j : Nat} : ∀ {O : List (Nat × Ob)}, get (pubO k d O) j = (get O j).map (fun o => match Nat.beq j k with | true => .dead | false => pubOb k d o)
  | [] => rfl
  | (j', o) :: r => by
    simp only [pubO]
    by_cases e : j' = j
    · subst e; rw [get_cons_self, get_cons_self]; rfl
    · rw [get_cons_ne _ _ e, get_cons_ne _ _ e]; exact pubO_get

/-- A row as a datum, once its block is given up. -/
theorem rep_of_row {X X' : Nat → Prop} {T sz : Nat} {es : List (List D)} {rows : List (List Value)} {v : Value} (hk : Keep w X w X') (h1 : RepRows w X es rows) (h2 : ∀ r, r ∈ rows → r.length = sz) (h3 : OwnsR w T sz v rows.length rows.flatten) (hx : ∀ b, ob v = some b → ¬ X' b) : Rep w X' (.sl sz es) v := by
  have hlen := h1.length
  simp only [Rep]
  rcases h3.2 with ⟨e1, e2⟩ | ⟨g, cap, cur, fz, e1, e3, _, e4, e5, e6, e7⟩
  · refine ⟨none, 0, by rw [e1, ← hlen, e2], by omega, fun _ => List.eq_nil_of_length_eq_zero (by omega), fun ad h => by cases h⟩
  · refine ⟨some ⟨g, 0, none⟩, cap, by rw [e1, hlen], by omega, (fun h => by cases h), fun ad h _ => ?_⟩
    cases h
    have hlt : g < w.heap.size := (Array.getElem?_eq_some_iff.1 e3).1
    refine ⟨rfl, hlt, hx g (by rw [e1]; rfl), rep_rows hk h1 h2 (fun j x hj => ?_)⟩
    have hfl := flat_length h2
    rw [← e7, List.getElem?_take] at hj
    split at hj
    · simp only [World.cell?, e3, Nat.zero_add]; simpa using hj
    · cases hj

theorem sat_publish (hs : Sat B n st ρ a w L) {k T sz : Nat} {es : List (List D)} (hk : get st.O k = some (.row T sz es)) :
    Sat B n ⟨pubL k (.sl sz es) st.S, pubO k (.sl sz es) st.O⟩ ρ a w (fun b => L b ∧ ob (ρ k) ≠ some b) := by
  have hstep : Step L w (fun b => L b ∧ ob (ρ k) ≠ some b) w := ⟨rfl, rfl, rfl, Nat.le_refl _, fun _ _ _ => rfl, fun b h => .inl h.1⟩
  have hkp : Keep w (un B.F L) w (un B.F fun b => L b ∧ ob (ρ k) ≠ some b) := keep_of_step hstep
  obtain ⟨rows, h1, h2, h3, h4⟩ := hs.obj k _ hk
  have hd : Rep w (un B.F fun b => L b ∧ ob (ρ k) ≠ some b) (.sl sz es) (ρ k) := rep_of_row hkp h1 h2 h3 (fun b hb hx => by
    rcases hx with hx | hx
    · exact hs.dis b hx (h4 b hb)
    · exact hx.2 hb)
  have hN : ∀ j, nmO st.O j → nmO (pubO k (.sl sz es) st.O) j ∧ ρ j = ρ j := fun j h => ⟨by unfold nmO; rw [pubO_get, Option.isSome_map]; exact h, rfl⟩
  refine hs.go hstep (fun b hb => hs.low b (.inr hb.1)) hN hs.size hs.defers (fun t y hy => ?_) (fun j o hj => ?_) (fun j o j' o' hj hj' hne l1 l2 => ?_)
  · obtain ⟨x, hx, rfl⟩ := pubL_get hy
    obtain ⟨v, g1, g2⟩ := hs.slot t x hx
    exact ⟨v, g1, VRep.pub hd _ v (VRep.keep hN hkp x v g2)⟩
  · rw [pubO_get] at hj
    simp only [Option.map_eq_some_iff] at hj
    obtain ⟨o1, hj, rfl⟩ := hj
    split
    · rename_i e
      cases Nat.eq_of_beq_eq_true e
      exact hs.cellN k (by simp [nmO, hk])
    · rename_i e
      have hjk : j ≠ k := beq_ne e
      have h5 := (hs.obj j o1 hj).keep hN hkp (L' := fun b => L b ∧ ob (ρ k) ≠ some b) (fun hl b hb => ⟨rfl, fun hL => ⟨hL, fun e' => hs.inj j o1 k _ hj hk hjk hl rfl b hb e'⟩⟩)
      cases o1 with
      | blk ty cs =>
        obtain ⟨b, vs, g1, g2, g3, g4⟩ := h5
        exact ⟨b, vs, g1, g2, g3, VReps.pub hd cs vs g4⟩
      | row ty sz' es' => exact h5
      | it s pos => exact h5
      | dead => exact h5
  · rw [pubO_get] at hj hj'
    simp only [Option.map_eq_some_iff] at hj hj'
    obtain ⟨o1, hj, rfl⟩ := hj
    obtain ⟨o2, hj', rfl⟩ := hj'
    have key : ∀ {j : Nat} {o1 : Ob}, (match Nat.beq j k with | true => Ob.dead | false => pubOb k (.sl sz es) o1).live = true → o1.live = true := fun {j o1} h => by
      split at h
      · cases h
      · cases o1 <;> first | rfl | exact h
    exact hs.inj j o1 j' o2 hj hj' hne (key l1) (key l2)

/-- Written out. -/
def pubK (k : Nat) (d : D) (st : St) : Option St := forceL (pubL k d st.S) fun S => forceL (pubO k d st.O) fun O => some ⟨S, O⟩
theorem pubK_eq {k : Nat} {d : D} {st st' : St} (h : pubK k d st = some st') : (⟨pubL k d st.S, pubO k d st.O⟩ : St) = st' := by
  unfold pubK at h
  simp only [forceL_eq, Option.some.injEq] at h
  exact h
theorem WC.publish {c : Code} (k : Nat) {T sz : Nat} {es : List (List D)} {st' : St} (hk : get st.O k = some (.row T sz es)) (hst : pubK k (.sl sz es) st = some st') (h : WC P B n st' c Q) : WC P B n st c Q := fun a ρ w L hs => h a ρ w _ (pubK_eq hst ▸ sat_publish hs hk)
theorem WQ.publish {e : Exit} (k : Nat) {T sz : Nat} {es : List (List D)} {st' : St} (hk : get st.O k = some (.row T sz es)) (hst : pubK k (.sl sz es) st = some st') (h : WQ B n st' Q e) : WQ B n st Q e := fun a ρ w L hs => h a ρ w _ (pubK_eq hst ▸ sat_publish hs hk)
theorem WL.publish {ops rest : List Oper} (k : Nat) {T sz : Nat} {es : List (List D)} {st' : St} (hk : get st.O k = some (.row T sz es)) (hst : pubK k (.sl sz es) st = some st') (h : WL P B n st' ops Q rest) : WL P B n st ops Q rest := fun a ρ w L hs => h a ρ w _ (pubK_eq hst ▸ sat_publish hs hk)

/-! ### append -/

/-- What a table says of a slice type that grows. -/
structure ApOk (P : Program) (T e size : Nat) : Prop where
  under : P.underlying T = some (.slice e)
  info : (P.info? e).map (fun i => (i.size, i.zero.map (·.cells.size), Nat.ble i.bytes 1024)) = some (size, some size, true)
  pos : 0 < size

theorem allCell_one : ∀ {l : List Value}, allCell l = true → ∀ u, u ∈ l → u.oneCell' = true
  | [], _, u, hu => by cases hu
  | v :: r, h, u, hu => by
    simp only [allCell] at h
    split at h
    · rename_i h1
      rcases List.mem_cons.1 hu with rfl | hu
      · cases u <;> simp_all [isCell, Value.oneCell']
      · exact allCell_one h u hu
    · cases h

theorem OwnsR.cells {e size : Nat} {v : Value} {n : Nat} {xs : List Value} (h : OwnsR w e size v n xs) {g : Nat} (hg : v.ownBlock = some g) : ∀ j u, xs[j]? = some u → w.cell? ((⟨g, 0, none⟩ : Addr).add j) = some u := by
  intro j u hu
  rcases h.2 with ⟨rfl, _⟩ | ⟨g', cap, cur, fz, rfl, hgg, _, _, _, _, htake⟩
  · simp [Value.ownBlock] at hg
  · simp [Value.ownBlock] at hg
    subst hg
    rw [Addr.add_lit, cell_of_row w g' (0 + j) cur e fz hgg]
    rw [← htake, List.getElem?_take] at hu
    split at hu
    · simpa using hu
    · cases hu

/-- Cells are written where nothing is frozen. -/
theorem run_storeCells_open (P : Program) (g o : Nat) (t : TypeId) (fz : Nat × Nat) : ∀ (vs : List Value) (i : Nat) (cur : Array Value) (w : World), w.heap[g]? = some (.cells cur t fz) → (fz.2 ≤ fz.1 ∨ cur.size ≤ fz.1) → o + i + vs.length ≤ cur.size → (∀ v ∈ vs, v.oneCell' = true) →
    (storeCells ⟨g, o, none⟩ vs i).run P w = .ok () (w.setRow g (cur.toList.take (o + i) ++ vs ++ cur.toList.drop (o + i + vs.length)).toArray)
  | [], i, cur, w, hg, _, _, _ => by
    simp only [storeCells, List.append_nil, List.length_nil, Nat.add_zero, List.take_append_drop, Array.toArray_toList]
    rw [setRow_self w g cur t fz hg]
    rfl
  | v :: rest, i, cur, w, hg, hfz, hl, h1 => by
    have hi : o + i < cur.size := by simp at hl; omega
    have hcell : w.cell? ⟨g, o + i, none⟩ = some cur[o + i] := by simp [World.cell?, hg, hi]
    have hfro : w.frozen? ⟨g, o + i, none⟩ = false := by
      obtain ⟨lo, hi'⟩ := fz
      simp only [World.frozen?, hg, Bool.and_eq_false_iff, decide_eq_false_iff_not]
      simp only at hfz
      omega
    have hst : (store ((⟨g, o, none⟩ : Addr).add i) v).run P w = .ok () (w.setRow g (cur.setIfInBounds (o + i) v)) := by
      rw [Addr.add_lit, run_store P w _ v _ (h1 v (by simp)), hcell]
      simp [hfro, setCell_eq_setRow w g (o + i) cur t fz v hg]
    have ih := run_storeCells_open P g o t fz rest (i + 1) (cur.setIfInBounds (o + i) v) (w.setRow g (cur.setIfInBounds (o + i) v)) (setRow_heap w g cur _ t _ hg) (by simpa using hfz) (by simp at hl ⊢; omega) (fun x hx => h1 x (by simp [hx]))
    simp only [storeCells, Sem.run_bind, hst, Result.andThen_ok, ih, setRow_setRow]
    congr 3
    have e := list_seg_step cur.toList (o + i) v rest (by simp at hl ⊢; omega)
    simpa [Array.toList_setIfInBounds, Nat.add_assoc] using e

/-- What lies in a row behind an append that has room. -/
theorem owns_room {e size m0 m g cap : Nat} {xs news : List Value} {cur : Array Value} {fz : Nat × Nat} (hg : w.heap[g]? = some (.cells cur e fz)) (hfz : fz.2 ≤ fz.1 ∨ cur.size ≤ fz.1) (hx : xs.length = m0 * size) (hl : news.length = m * size) (hroom : m0 + m ≤ cap) (hcm : cap ≤ maxLen) (hcs : cur.size = cap * size) (htake : cur.toList.take (m0 * size) = xs) :
    OwnsR (w.setRow g (cur.toList.take (m0 * size) ++ news ++ cur.toList.drop (m0 * size + news.length)).toArray) e size (.slice (some ⟨g, 0, none⟩) (m0 + m) cap) (m0 + m) (xs ++ news) := by
  have hfit : m0 * size + news.length ≤ cur.size := by rw [hl, hcs, ← Nat.add_mul]; exact Nat.mul_le_mul_right _ hroom
  have hlen : (xs ++ news).length = (m0 + m) * size := by rw [List.length_append, hx, hl, Nat.add_mul]
  have hsz : (cur.toList.take (m0 * size) ++ news ++ cur.toList.drop (m0 * size + news.length)).toArray.size = cur.size := by
    simp only [List.size_toArray, List.length_append, List.length_take, List.length_drop, Array.length_toList]
    omega
  refine ⟨hlen, .inr ⟨g, cap, _, fz, rfl, setRow_heap w g cur _ e _ hg, by rw [hsz]; exact hfz, hroom, hcm, by rw [hsz]; exact hcs, ?_⟩⟩
  rw [htake, ← hlen]
  exact List.take_left
theorem grown_room (g n c : Nat) (cs : Array Value) : w.grownBy (w.setRow g cs) (Value.ownBlock (.slice (some ⟨g, 0, none⟩) n c)) :=
  ⟨rfl, rfl, rfl, by simp, fun k _ hk => setRow_other w g k _ (fun e => hk (by simp [Value.ownBlock, e]))⟩
theorem owns_grown {e size m0 m old : Nat} {xs news : List Value} {z : Value} (hzs : z.cells.size = size) (hx : xs.length = m0 * size) (hl : news.length = m * size) (h63 : m0 + m ≤ maxLen) (row : Option Nat) :
    OwnsR (w.drew.alloc (.cells (xs.toArray ++ news.toArray ++ Builtin.zeroCells z.cells (grownCap w (m0 + m) old e - (m0 + m))) e)) e size (.slice (some ⟨w.heap.size, 0, none⟩) (m0 + m) (grownCap w (m0 + m) old e)) (m0 + m) (xs ++ news) ∧
    w.grownBy (w.drew.alloc (.cells (xs.toArray ++ news.toArray ++ Builtin.zeroCells z.cells (grownCap w (m0 + m) old e - (m0 + m))) e)) row := by
  have hlen : (xs ++ news).length = (m0 + m) * size := by rw [List.length_append, hx, hl, Nat.add_mul]
  have hge := grownCap_ge w (m0 + m) old e
  have hcm : grownCap w (m0 + m) old e ≤ maxLen := grownCap_le_maxLen w (m0 + m) old e h63
  refine ⟨⟨hlen, .inr ⟨w.heap.size, _, _, (0, 0), rfl, Go.heap_alloc_new w.drew _, .inl (Nat.le_refl _), hge, hcm, ?_, ?_⟩⟩, ⟨rfl, rfl, rfl, by simp, fun k hk _ => Go.heap_alloc_old w.drew _ hk⟩⟩
  · simp only [Array.size_append, List.size_toArray, size_zeroCells, hzs, hx, hl, ← Nat.add_mul]
    congr 1
    omega
  · simp only [Array.toList_append, List.append_assoc]
    rw [← List.append_assoc, ← hlen]
    exact List.take_left

/-- An append, with where the row lies then. -/
theorem run_append_mine {T e size : Nat} (hT : ApOk P T e size) (ty : Nat) (v : Value) (m0 : Nat) (xs : List Value) (hown : OwnsR w e size v m0 xs) (ad : Addr) (m c : Nat) (news : List Value) (hl : news.length = m * size) (hnews : ∀ j u, news[j]? = some u → w.cell? (ad.add j) = some u) (h1 : ∀ u ∈ news, u.oneCell' = true)
    (hb : m0 + m ≤ 137438953472) : ∃ v' w', (Builtin.append_ #[T, T] ty #[v, .slice (some ad) m c]).run P w = .ok v' w' ∧ OwnsR w' e size v' (m0 + m) (xs ++ news) ∧ w.grownBy w' v.ownBlock ∧ (∀ g, v'.ownBlock = some g → v.ownBlock = some g ∨ w.heap.size ≤ g) := by
  obtain ⟨hu, hi, hpos⟩ := hT
  cases hinf : P.info? e with
  | none => rw [hinf] at hi; cases hi
  | some i =>
    rw [hinf] at hi
    simp only [Option.map_some, Option.some.injEq, Prod.mk.injEq] at hi
    obtain ⟨i1, i2, i3⟩ := hi
    cases hz : i.zero with
    | none => rw [hz] at i2; cases i2
    | some z =>
      rw [hz] at i2
      simp only [Option.map_some, Option.some.injEq] at i2
      have i3 := Nat.le_of_ble_eq_true i3
      have h63 : m0 + m ≤ maxLen := by simp only [maxLen]; omega
      have hby : (m0 + m) * i.bytes ≤ 140737488355328 := Nat.le_trans (Nat.mul_le_mul hb i3) (by omega)
      subst i1
      rcases hown.2 with ⟨rfl, rfl⟩ | ⟨g, cap, cur, fz, rfl, hg, hfz, hnc, hcm, hcs, htake⟩
      · obtain ⟨v2, w2, hr2, k2, k3, k4⟩ := run_append_own (P := P) w w.heap.size T ty e i z i.size i.bytes hu hinf hz rfl rfl i2 hpos (.slice none 0 0) 0 xs ⟨hown.1, .inl ⟨rfl, rfl⟩⟩ ad m c news hl hnews h1 h63 hby (Nat.le_refl _)
        exact ⟨v2, w2, hr2, OwnsR.of k2, k3, fun g hg => .inr (k2.lt g hg).1⟩
      · by_cases hroom : m0 + m ≤ cap
        · have hfit : m0 * i.size + news.length ≤ cur.size := by rw [hl, hcs, ← Nat.add_mul]; exact Nat.mul_le_mul_right _ hroom
          have hf := run_firstCells_some (P := P) w i.size m ad m c news hl hnews
          have hst := run_storeCells_open P g (m0 * i.size) e fz news 0 cur w hg hfz (by simpa using hfit) h1
          simp only [Nat.add_zero] at hst
          refine ⟨_, _, ?_, owns_room hg hfz hown.1 hl hroom hcm hcs htake, grown_room g m0 cap _, fun g' hg' => .inl hg'⟩
          simp [Builtin.append_, run_underlying hu, sizeOf, typeInfo, hinf, Builtin.lenOf, hroom, hf, Addr.add_lit, hst]
        · have holds : ∀ j u, xs[j]? = some u → w.cell? ((⟨g, 0, none⟩ : Addr).add j) = some u := hown.cells (g := g) rfl
          have hr2 := run_append_grow (P := P) w T ty e i z hu hinf hz ⟨g, 0, none⟩ m0 cap xs hown.1 holds ad m c news hl hnews (by omega) (by omega) (growslice_fits (by omega) hby)
          have hgr := owns_grown (w := w) (e := e) (old := cap) i2 hown.1 hl h63 (Value.ownBlock (.slice (some ⟨g, 0, none⟩) m0 cap))
          refine ⟨_, _, hr2, hgr.1, hgr.2, fun g' hg' => ?_⟩
          simp [Value.ownBlock] at hg'
          exact .inr (by omega)

/-- Nothing is appended. -/
theorem run_append_none {T e size : Nat} (hT : ApOk P T e size) (ty c : Nat) (v : Value) (m0 : Nat) (xs : List Value) (hown : OwnsR w e size v m0 xs) : (Builtin.append_ #[T, T] ty #[v, .slice none 0 c]).run P w = .ok v w := by
  obtain ⟨hu, hi, hpos⟩ := hT
  cases hinf : P.info? e with
  | none => rw [hinf] at hi; cases hi
  | some i =>
    rcases hown.2 with ⟨rfl, rfl⟩ | ⟨g, cap, cur, fz, rfl, hg, hfz, hnc, hcm, hcs, htake⟩
    · simp [Builtin.append_, run_underlying hu, sizeOf, typeInfo, hinf, Builtin.lenOf, Builtin.firstCells]
    · simp [Builtin.append_, run_underlying hu, sizeOf, typeInfo, hinf, Builtin.lenOf, Builtin.firstCells, hnc, storeCells]

theorem RepRows.app {X : Nat → Prop} : ∀ {es fs : List (List D)} {rs ss : List (List Value)}, RepRows w X es rs → RepRows w X fs ss → RepRows w X (es ++ fs) (rs ++ ss)
  | [], fs, rs, ss, h, h' => by simp only [RepRows] at h; subst h; exact h'
  | e :: es, fs, rs, ss, h, h' => by
    simp only [RepRows] at h
    obtain ⟨c, r, rfl, h2, h3⟩ := h
    simp only [List.cons_append, RepRows]
    exact ⟨c, r ++ ss, rfl, h2, RepRows.app h3 h'⟩

/-- The cells of a slice, as rows. -/
theorem RowsAt.rows {X : Nat → Prop} {sz : Nat} : ∀ {es : List (List D)} {b o : Nat}, RowsAt w X sz es b o → ∃ rs : List (List Value), RepRows w X es rs ∧ (∀ r, r ∈ rs → r.length = sz) ∧ CellsAt w rs.flatten b o
  | [], b, o, _ => ⟨[], by simp [RepRows], (fun r h => by cases h), fun j x h => by simp at h⟩
  | e :: es, b, o, h => by
    simp only [RowsAt] at h
    obtain ⟨⟨cs, h1, h2, h3⟩, h4⟩ := h
    obtain ⟨rs, h5, h6, h7⟩ := RowsAt.rows h4
    refine ⟨cs :: rs, by simp only [RepRows]; exact ⟨cs, rs, rfl, h1, h5⟩, fun r hr => ?_, fun j x hj => ?_⟩
    · rcases List.mem_cons.1 hr with rfl | hr
      · exact h2
      · exact h6 r hr
    · simp only [List.flatten_cons] at hj
      by_cases hlt : j < cs.length
      · rw [List.getElem?_append_left hlt] at hj; exact h3 j x hj
      · rw [List.getElem?_append_right (by omega)] at hj
        have := h7 _ x hj
        rw [show o + sz + (j - cs.length) = o + j by omega] at this; exact this

theorem rep_cells {X : Nat → Prop} : ∀ {es : List (List D)} {rs : List (List Value)}, RepRows w X es rs → (∀ e, e ∈ es → cellDs e = true) → ∀ u, u ∈ rs.flatten → u.oneCell' = true
  | [], rs, h, _, u, hu => by simp only [RepRows] at h; subst h; simp at hu
  | e :: es, rs, h, hc, u, hu => by
    simp only [RepRows] at h
    obtain ⟨c, r, rfl, h2, h3⟩ := h
    simp only [List.flatten_cons, List.mem_append] at hu
    rcases hu with hu | hu
    · have key : ∀ {ds : List D} {vs : List Value}, Reps w X ds vs → cellDs ds = true → allCell vs = true := by
        intro ds
        induction ds with
        | nil => intro vs h _; simp only [Reps] at h; subst h; rfl
        | cons d ds ih =>
          intro vs h hc
          simp only [Reps] at h
          obtain ⟨v, r, rfl, g1, g2⟩ := h
          simp only [cellDs] at hc
          split at hc
          · rename_i g3; simp only [allCell, cell_of_rep g1 g3]; exact ih g2 hc
          · cases hc
      exact allCell_one (key h2 (hc e (by simp))) u hu
    · exact rep_cells h3 (fun e he => hc e (by simp [he])) u hu

/-- An append onto a slice of the call's own, of a slice that is only read. -/
theorem sat_append (hs : Sat B n st ρ a w L) {d T e sz : Nat} {v : Value} {es : List (List D)} {rows : List (List Value)} {ty : Nat} {y : Value} {news : List (List D)} (hT : ApOk P T e sz) (hd : inB n d = true) (hfr : get st.O d = none)
    (h1 : RepRows w (un B.F L) es rows) (h2 : ∀ r, r ∈ rows → r.length = sz) (h3 : OwnsR w e sz v rows.length rows.flatten) (h4 : ∀ b, ob v = some b → L b) (hy : Rep w (un B.F L) (.sl sz news) y) (hc : ∀ r, r ∈ news → cellDs r = true) (hb : es.length + news.length ≤ 137438953472)
    {O' : List (Nat × Ob)} (hO' : ∀ j, (get O' j).isSome = (get st.O j).isSome) (hO2 : ∀ j o, get O' j = some o → get st.O j = some o ∨ o = .dead) (hO3 : ∀ j o, get O' j = some o → o.live = true → ∀ b, ob v = some b → ob (ρ j) ≠ some b) :
    ∃ v' w' L', (Builtin.append_ #[T, T] ty #[v, y]).run P w = .ok v' w' ∧ Sat B n ⟨(d, .r d) :: st.S, (d, .row e sz (es ++ news)) :: O'⟩ (upd ρ d v') (a.put (some d) v') w' L' := by
  have hd' : d < n := by simpa [inB] using hd
  have hlen := h1.length
  -- what is appended
  have hsrc : ∃ v' w' nrows, (Builtin.append_ #[T, T] ty #[v, y]).run P w = .ok v' w' ∧ RepRows w (un B.F L) news nrows ∧ (∀ r, r ∈ nrows → r.length = sz) ∧ OwnsR w' e sz v' (rows ++ nrows).length (rows ++ nrows).flatten ∧ w.grownBy w' v.ownBlock ∧ (∀ g, v'.ownBlock = some g → v.ownBlock = some g ∨ w.heap.size ≤ g) := by
    simp only [Rep] at hy
    obtain ⟨base, cap, rfl, g2, g3, g4⟩ := hy
    cases hbase : base with
    | none =>
      have := g3 hbase
      subst this
      refine ⟨v, w, [], run_append_none hT ty cap v _ _ h3, by simp [RepRows], (fun r h => by cases h), by simpa using h3, ⟨rfl, rfl, rfl, Nat.le_refl _, fun _ _ _ => rfl⟩, fun g hg => .inl hg⟩
    | some ad =>
      by_cases hne : news = []
      · subst hne
        obtain ⟨v', w', q1, q2, q3, q4⟩ := run_append_mine (w := w) hT ty v rows.length rows.flatten h3 ad 0 cap [] (by simp) (fun j u hj => by simp at hj) (fun u hu => by cases hu) (by omega)
        exact ⟨v', w', [], q1, by simp [RepRows], (fun r h => by cases h), by simpa using q2, q3, q4⟩
      obtain ⟨g5, g6, g7, g8⟩ := g4 ad hbase hne
      obtain ⟨b, o, x⟩ := ad
      simp only at g5; subst g5
      obtain ⟨nrows, k1, k2, k3⟩ := g8.rows
      have hnl := k1.length
      have hfl := flat_length k2
      obtain ⟨v', w', q1, q2, q3, q4⟩ := run_append_mine (w := w) hT ty v rows.length rows.flatten h3 ⟨b, o, none⟩ news.length cap nrows.flatten (by rw [hfl, hnl]) (fun j u hj => by rw [Addr.add_lit]; exact k3 j u hj) (rep_cells k1 hc) (by omega)
      refine ⟨v', w', nrows, q1, k1, k2, ?_, q3, q4⟩
      rw [List.length_append, List.flatten_append, hnl]; exact q2
  obtain ⟨v', w', nrows, q1, k1, k2, q2, q3, q4⟩ := hsrc
  have hv' := ob_row q2
  have hv := ob_row h3
  have hL : ∀ g, ob v' = some g → L g ∨ w.heap.size ≤ g := fun g hg => by
    rw [hv'] at hg
    rcases q4 g hg with h | h
    · exact .inl (h4 g (by rw [hv]; exact h))
    · exact .inr h
  have hstep : Step L w (fun b => L b ∨ ob v' = some b) w' := ⟨q3.os, q3.tape, q3.output, q3.size, fun b hb hnL => q3.block b hb (fun e => hnL (h4 b (by rw [hv]; exact e.symm))), fun b h => by
    rcases h with h | h
    · exact .inl h
    · exact hL b h⟩
  have hkp : Keep w (un B.F L) w' (un B.F fun b => L b ∨ ob v' = some b) := keep_of_step hstep
  have hN : ∀ j, nmO st.O j → nmO ((d, Ob.row e sz (es ++ news)) :: O') j ∧ upd ρ d v' j = ρ j := fun j h => ⟨nmO_cons (by unfold nmO; rw [hO']; exact h), upd_ne (nmO_ne h hfr)⟩
  have hdO' : get O' d = none := by cases hg : get O' d with | none => rfl | some o => have := hO' d; rw [hg, hfr] at this; cases this
  have hlt' : ∀ b, ob v' = some b → b < w'.heap.size := fun b hb => by
    rcases q2.2 with ⟨e1, _⟩ | ⟨g, cap, cur, fz, e1, e3, _⟩
    · rw [e1] at hb; simp [ob] at hb
    · rw [e1] at hb; simp only [ob, Option.some.injEq] at hb; subst hb; exact (Array.getElem?_eq_some_iff.1 e3).1
  refine ⟨v', w', _, q1, hs.go hstep (fun b hb => ?_) hN (by simp [Act.put, hs.size]) hs.defers (fun t z hz => ?_) (fun j o hj => ?_) (fun j o j' o' hj hj' hne l1 l2 b hb1 hb2 => ?_)⟩
  · rcases hb with h | h
    · exact Nat.lt_of_lt_of_le (hs.low b (.inr h)) hstep.size
    · exact hlt' b h
  · simp only [Act.put]
    by_cases hdt : d = t
    · subst hdt; rw [get_cons_self] at hz; cases hz
      exact ⟨v', by simp [hs.size, hd'], by simp only [VRep]; exact ⟨nmO_self, upd_self.symm⟩⟩
    · rw [get_cons_ne _ _ hdt] at hz
      obtain ⟨x, g1, g2⟩ := hs.slot t z hz
      exact ⟨x, by rw [Array.getElem?_setIfInBounds_ne hdt]; exact g1, VRep.keep hN hkp z x g2⟩
  · by_cases e : d = j
    · subst e; rw [get_cons_self] at hj; cases hj
      rw [upd_self]
      exact ⟨rows ++ nrows, RepRows.app (RepRows.keep hkp _ _ h1) (RepRows.keep hkp _ _ k1), fun r hr => (List.mem_append.1 hr).elim (h2 r) (k2 r), q2, fun b hb => .inr hb⟩
    · rw [get_cons_ne _ _ e] at hj
      rw [upd_ne (fun e' => e e'.symm)]
      rcases hO2 j o hj with h | rfl
      · refine (hs.obj j o h).keep hN hkp (fun hl b hb => ⟨q3.block b (hs.low b (.inr (hs.own h hl hb))) (fun e' => hO3 j o hj hl b (by rw [hv]; exact e'.symm) hb), .inl⟩)
      · exact hs.cellN j (by unfold nmO; rw [← hO', hj]; rfl)
  · have old : ∀ {j o}, j ≠ d → get ((d, Ob.row e sz (es ++ news)) :: O') j = some o → o.live = true → get st.O j = some o := fun {j o} hjd h hl => by
      rw [get_cons_ne _ _ (fun e => hjd e.symm)] at h
      rcases hO2 j o h with h | rfl
      · exact h
      · cases hl
    have apart : ∀ {j o}, j ≠ d → get ((d, Ob.row e sz (es ++ news)) :: O') j = some o → o.live = true → ∀ b, ob v' = some b → ob (ρ j) ≠ some b := fun {j o} hjd h hl b hb hb' => by
      have hold := old hjd h hl
      rw [get_cons_ne _ _ (fun e => hjd e.symm)] at h
      rw [hv'] at hb
      rcases q4 b hb with h5 | h5
      · exact hO3 j o h hl b (by rw [hv]; exact h5) hb'
      · have := hs.low b (.inr (hs.own hold hl hb')); omega
    by_cases e1 : j = d
    · subst e1
      have e2 : j' ≠ j := fun e => hne e.symm
      rw [upd_self] at hb1; rw [upd_ne e2] at hb2
      exact apart e2 hj' l2 b hb1 hb2
    · by_cases e2 : j' = d
      · subst e2
        rw [upd_self] at hb2; rw [upd_ne e1] at hb1
        exact apart e1 hj l1 b hb2 hb1
      · rw [upd_ne e1] at hb1; rw [upd_ne e2] at hb2
        exact hs.inj j o j' o' (old e1 hj l1) (old e2 hj' l2) hne l1 l2 b hb1 hb2

/-- What an append is handed: the slice of the call's own (or nil), and what is appended. -/
def apOf (tb : List (Nat × TI)) (G : List (Nat × List D)) (S : List (Nat × SV)) (O : List (Nat × Ob)) : Op → Option (Nat × Option Nat × List (List D) × List (List D) × List Prop)
  | .call ⟨.builtin .append, ⟨[x, y]⟩, ⟨[T, T']⟩⟩ =>
    match Nat.beq T T', get tb T, o1 G S x, o1 G S y with
    | true, some ⟨_, _, _, _, _, some z, _⟩, some (.r k, l), some (.v d, m) =>
      match get O k, asSl z d with
      | some (.row _ _ es), some news => some (T, some k, es, news, l ++ m)
      | _, _ => none
    | true, some ⟨_, _, _, _, _, some z, _⟩, some (.v (.raw (.slice none 0 0)), l), some (.v d, m) =>
      match asSl z d with
      | some news => some (T, none, [], news, l ++ m)
      | _ => none
    | _, _, _, _ => none
  | _ => none
def deadO : Option Nat → List (Nat × Ob)
  | some k => [(k, .dead)]
  | none => []
def deadN : Option Nat → List Nat
  | some k => [k]
  | none => []

theorem OpOk.append (hP : TblOk P tb) {ops : List Oper} {o : Oper} {T e sz d : Nat} {k : Option Nat} {es news es2 : List (List D)} {l : List Prop} {sl ns ws wn : List Nat} (hT : ApOk P T e sz) (hg : o.guard = none) (ho : o.dst = some d) (hd : inB n d = true)
    (h : apOf tb B.G (pickL st.S sl) (pickL st.O ns) o.op = some (T, k, es, news, l)) (hk : ∀ k', k = some k' → get (pickL st.O ns) k' = some (.row e sz es)) (hl : vcs l) (hc : ∀ r, r ∈ news → cellDs r = true) (hb : es.length + news.length ≤ 137438953472) (hdn : has d ns = true) (hfr : get (pickL st.O ns) d = none) (he2 : es ++ news = es2) :
    OpOk P B n ops Q o ⟨sl, ns, ws, wn⟩ st ⟨[(d, .r d)], (d, .row e sz es2) :: deadO k⟩ := by
  subst he2
  intro st' a ρ w L K hag hs hK
  have hS : ∀ t x, get (pickL st.S sl) t = some x → get st'.S t = some x := fun t x ht => by obtain ⟨h1, h2⟩ := pickL_some ht; rw [hag.S t h1]; exact h2
  have hO : ∀ t x, get (pickL st.O ns) t = some x → get st'.O t = some x := fun t x ht => by obtain ⟨h1, h2⟩ := pickL_some ht; rw [hag.O t h1]; exact h2
  have hfr' : get st'.O d = none := by rw [hag.O d (has_iff.1 hdn)]; exact pickL_none (has_iff.1 hdn) hfr
  have hsz : ∀ {z so : Nat} {q0 : Nat} {q1 : Value} {q2 : Bool} {q3 : List (Nat × Nat)} {q4 : Option IntKind}, get tb T = some ⟨q0, q1, q2, q3, q4, some z, so⟩ → z = sz := fun {z so q0 q1 q2 q3 q4} hq => by
    obtain ⟨d, hd1, hd2, _, _, _, h5, _⟩ := (hP.get hq).under_run w
    rw [hT.under] at hd2; cases hd2
    have hi := hT.info
    simp only [elD] at h5
    cases hinf : P.info? e with
    | none => rw [hinf] at hi; cases hi
    | some i => rw [hinf] at hi h5; simp at hi h5; omega
  have hexec : ∀ {x y : Operand} {v' : Value} {w' : World}, o.op = .call ⟨.builtin .append, ⟨[x, y]⟩, ⟨[T, T]⟩⟩ → (Builtin.append_ #[T, T] o.type #[a.eval x, a.eval y]).run P w = .ok v' w' → (execOp a.eval o).run P w = .ok (.value v') w' := fun {x y v' w'} hop hr => by
    unfold execOp
    rw [hop]
    simp only [resolve, invoke, builtin, Sem.run_bind, Sem.run_pure, Result.andThen_ok, List.map_toArray, List.map_cons, List.map_nil, hr]
  unfold apOf at h
  split at h
  · rename_i x y T1 T2 hop
    split at h
    · rename_i z so k1 l1 d1 m1 hTT hq h1 h2
      have hTT := Nat.eq_of_beq_eq_true hTT
      subst hTT
      split at h
      · rename_i ty2 sz2 es2 news2 h3 h4
        cases h
        obtain ⟨v1, v2⟩ := vcs_append hl
        have hz := hsz hq
        subst hz
        have hk1 := hO k1 _ (hk k1 rfl)
        have e1 := o1_sound hs hS h1 v1
        have e2 := o1_sound hs hS h2 v2
        simp only [VRep] at e1 e2
        have e2 := asSl_sound h4 e2
        obtain ⟨rows, g1, g2, g3, g4⟩ := hs.obj k1 _ hk1
        obtain ⟨v', w', L', r1, r2⟩ := sat_append (P := P) hs (d := d) (ty := o.type) (O' := (k1, .dead) :: st'.O) hT hd hfr' g1 g2 g3 g4 e2 hc hb (fun j => by
          by_cases e : k1 = j
          · subst e; rw [get_cons_self, hk1]; rfl
          · rw [get_cons_ne _ _ e]) (fun j o hj => by
          by_cases e : k1 = j
          · subst e; rw [get_cons_self] at hj; cases hj; exact .inr rfl
          · rw [get_cons_ne _ _ e] at hj; exact .inl hj) (fun j o hj hl b hb => by
          by_cases e : k1 = j
          · subst e; rw [get_cons_self] at hj; cases hj; cases hl
          · rw [get_cons_ne _ _ e] at hj; exact hs.inj k1 _ j o hk1 hj e rfl hl b hb)
        rw [← e1.2] at r1
        exact wpO_value hg (hexec hop r1) (by rw [ho]; exact hK _ _ ⟨_, _, r2⟩)
      · cases h
    · rename_i z so l1 d1 m1 hTT hq h1 h2
      have hTT := Nat.eq_of_beq_eq_true hTT
      subst hTT
      split at h
      · rename_i news2 h4
        cases h
        obtain ⟨v1, v2⟩ := vcs_append hl
        have hz := hsz hq
        subst hz
        have e1 := o1_sound hs hS h1 v1
        have e2 := o1_sound hs hS h2 v2
        simp only [VRep, Rep] at e1
        simp only [VRep] at e2
        have e2 := asSl_sound h4 e2
        obtain ⟨v', w', L', r1, r2⟩ := sat_append (P := P) hs (d := d) (ty := o.type) (v := .slice none 0 0) (es := []) (rows := []) (O' := st'.O) hT hd hfr' (by simp [RepRows]) (fun r h => by cases h) (OwnsR.nil w e z) (fun b hb => by simp [ob] at hb) e2 hc hb (fun j => rfl) (fun j o hj => .inl hj) (fun j o hj hl b hb => by simp [ob] at hb)
        rw [← e1] at r1
        exact wpO_value hg (hexec hop r1) (by rw [ho]; exact hK _ _ ⟨_, _, r2⟩)
      · cases h
    · cases h
  · cases h

theorem WL.append (hP : TblOk P tb) {ops rest : List Oper} {o : Oper} {T e sz d : Nat} {k : Option Nat} {es news : List (List D)} (es2 : List (List D)) {l : List Prop} {st' : St} (ns : List Nat) (hT : ApOk P T e sz) (hg : o.guard = none) (ho : o.dst = some d) (hd : inB n d = true)
    (h : apOf tb B.G (pickL st.S (rd ops o)) (pickL st.O ns) o.op = some (T, k, es, news, l)) (hk : ∀ k', k = some k' → get (pickL st.O ns) k' = some (.row e sz es)) (hl : vcs l) (hc : ∀ r, r ∈ news → cellDs r = true) (hb : es.length + news.length ≤ 137438953472) (hdn : has d ns = true) (hfr : get (pickL st.O ns) d = none) (he2 : es ++ news = es2)
    (hst : addK st [(d, .r d)] ((d, .row e sz es2) :: deadO k) = some st') (hw : WL P B n st' ops Q rest) : WL P B n st ops Q (o :: rest) :=
  WL.op (OpOk.append (ws := []) (wn := []) hP hT hg ho hd h hk hl hc hb hdn hfr he2) (by rw [addK_eq hst]; exact hw)
theorem WR.append (hP : TblOk P tb) {ops rest : List Oper} {o : Oper} {done : List Key} {T e sz d : Nat} {k : Option Nat} {es news : List (List D)} (es2 : List (List D)) {l : List Prop} {st' : St} (ns : List Nat) (hT : ApOk P T e sz) (hg : o.guard = none) (ho : o.dst = some d) (hd : inB n d = true)
    (h : apOf tb B.G (pickL st.S (rd ops o)) (pickL st.O ns) o.op = some (T, k, es, news, l)) (hk : ∀ k', k = some k' → get (pickL st.O ns) k' = some (.row e sz es)) (hl : vcs l) (hc : ∀ r, r ∈ news → cellDs r = true) (hb : es.length + news.length ≤ 137438953472) (hdn : has d ns = true) (hfr : get (pickL st.O ns) d = none) (he2 : es ++ news = es2)
    (hst : addK st [(d, .r d)] ((d, .row e sz es2) :: deadO k) = some st') (hns : subL ns (d :: deadN k) = true) (hw : WR P B n st' ops Q (done ++ [⟨rd ops o, ns, [d], d :: deadN k⟩]) rest) : WR P B n st ops Q done (o :: rest) := by
  refine WR.cons ⟨rfl, fun j hj => ?_, fun j hj => subL_spec hns j hj⟩ (OpOk.append (ws := [d]) (wn := d :: deadN k) hP hT hg ho hd h hk hl hc hb hdn hfr he2) (by rw [addK_eq hst]; exact hw)
  cases k <;> simpa [deadO, deadN] using hj

theorem map_cells {α : Type} {f : α → List D} {xs : List α} (h : ∀ x, cellDs (f x) = true) : ∀ r, r ∈ xs.map f → cellDs r = true := fun r hr => by
  obtain ⟨x, _, rfl⟩ := List.mem_map.1 hr; exact h x
theorem map_getD {α : Type} [Inhabited α] {f : α → List D} {xs : List α} {m : Int} (h : m < (xs.length : Int)) (h0 : 0 ≤ m) : (xs.map f)[m.toNat]? = some (f (xs.getD m.toNat default)) := by
  have hlt : m.toNat < xs.length := by omega
  simp [List.getD_eq_getElem?_getD, hlt]

end Go.V
