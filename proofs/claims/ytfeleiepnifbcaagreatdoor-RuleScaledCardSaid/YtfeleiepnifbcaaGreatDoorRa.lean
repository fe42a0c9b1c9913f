/- How a law's arguments are read as plain data, and that they read afterwards as before; what a row's list of variables gives. No program in sight. -/
import Derived.Test.YtfeleiepnifbcaaGreatDoorVy
import Derived.ChangeStays
import Derived.ChangeArms
import Derived.ChangeSame
import Derived.ChangeReads
import Derived.LaidLaws
import Derived.Lib.LaidTab
import Derived.RowKit
import Derived.OpenShut
import Derived.Shelf.Vars
set_option linter.unusedVariables false
namespace Go.V
open Go.ChangeShapes Go.WideShapes Go.RowKit

/-- No slice type has elements of no cell. -/
def slicesOkB (P : Program) : Bool := (List.range P.types.size).all fun t => match P.underlying t with | some (.slice e) => decide (0 < P.cellsOf e) | _ => true

section
variable {H : Type} {enc : TypeId × Value → H} {P : Program} {W : World} {X : Nat → Prop}

theorem slicesOk (hz : slicesOkB P = true) {t e : TypeId} (ht : t < P.types.size) (h : P.underlying t = some (.slice e)) : 0 < P.cellsOf e := by
  unfold slicesOkB at hz
  rw [List.all_eq_true] at hz
  have := hz t (List.mem_range.2 ht)
  rw [h] at this
  simpa using this

/-- What was read reads the same in a world that has only grown. -/
theorem stay_all (hl : laidOutB P = true) (hm : mapsRowed P = true) (hz : slicesOkB P = true) {W' : World} (hb : Below W.heap.size W W') (sp : Nat → Bool) :
    ∀ (ts : List TypeId) (vs : List Value) (ds : List (DataW H)) (ps : List MemPlace), (∀ t, t ∈ ts → t < P.types.size) → DataW.TrodAll enc P W 0 (fun _ => true) true ts vs ds ps → (∀ p, p ∈ ps → sp p.block = true) → DataW.TrodAll enc P W' 0 sp true ts vs ds ps := by
  intro ts
  induction ts with
  | nil =>
    intro vs ds ps _ h _
    obtain ⟨rfl, rfl, rfl⟩ := trodAll_nil h
    exact rfl
  | cons t ts ih =>
    intro vs ds ps hts h hs
    have hlt := DataW.TrodAll.lt h
    obtain ⟨v, vs', d, ds', p, q, rfl, rfl, rfl, ⟨fuel, h1⟩, h2⟩ := trodAll_cons h
    refine ⟨p, q, ⟨fuel, ?_⟩, ih vs' ds' q (fun t ht => hts t (List.mem_cons_of_mem _ ht)) h2 (fun p hp => hs p (List.mem_append_right _ hp)), rfl⟩
    exact DataW.trod_stays (kids_rows hl hm) (fun ht hu => slicesOk hz ht hu) (fun h => by cases h) (hts t (List.mem_cons_self)) h1
      (fun p' hp => hb.same (hlt p' (List.mem_append_left _ hp))) (fun p' hp => hs p' (List.mem_append_left _ hp))

/-- The law answered true, and nothing that was there has turned. -/
theorem post_true {f : Func} {s : ChangeSpec} {apart fresh : Bool} {W' : World} {args : Array Value} {ds gs : List (DataW H)} {before : List MemPlace} {tb : TypeId}
    (hl : laidOutB P = true) (hm : mapsRowed P = true) (hz : slicesOkB P = true) (hpar : ∀ t, t ∈ f.params.toList → t < P.types.size) (hres : f.resultTypes = #[tb]) (htb : P.underlying tb = some .bool) (hv : s.vars = [])
    (hspec : (s.fn H ds).results = [.lit (.bool true)] ∧ (s.fn H ds).args = ds ∧ (s.fn H ds).vars = [])
    (hW : DataW.Whole enc P f.params.toList s.vars apart W args.toList ds gs before) (hb : Below W.heap.size W W') : s.post enc P f apart fresh false false W args (.bool true) W' := by
  have hW' := hW
  obtain ⟨p, q, hA, hV, rfl, hfz, hnd⟩ := hW
  have hV' := hV
  rw [hv] at hV'
  obtain ⟨rfl, rfl⟩ := trodVars_none hV'
  simp only [List.append_nil] at hW'
  refine ⟨ds, [], p, [], p, [], hW', ?_, ?_, ?_, hb.frame _, (fun h => by cases h)⟩
  · rw [hres, List.append_nil, hspec.1]
    exact trodAll_mk1 (shut_bool htb true)
  · rw [List.append_nil, hspec.2.1]
    exact stay_all hl hm hz hb _ _ _ _ _ hpar hA (fun p' hp => by simpa using DataW.TrodAll.lt hA p' hp)
  · rw [hv, List.append_nil, hspec.2.2]; exact rfl

/-- Cells of such a type are data of which S holds. -/
def Opens (enc : TypeId × Value → H) (P : Program) (W : World) (X : Nat → Prop) (t : TypeId) (S : List D → Prop) : Prop :=
  ∀ base sp held fuel cs x, DataW.trod enc P W base sp held fuel t cs = some x → ∃ l, S l ∧ Reps W X l cs

theorem reps1 {d : D} {v : Value} (h : Rep W X d v) : Reps W X [d] [v] := by simp only [Reps]; exact ⟨v, [], rfl, h, rfl⟩

theorem op_int {t : TypeId} {k : IntKind} (ht : P.underlying t = some (.int k)) : Opens enc P W X t (fun l => ∃ n, l = [.int k n] ∧ (Lit.int k n).wf = true) := by
  intro base sp held fuel cs x h
  obtain ⟨n, rfl, _, hn⟩ := DataW.trod_int ht h
  exact ⟨_, ⟨n, rfl, hn⟩, reps1 (by simp only [Rep])⟩
theorem op_bool {t : TypeId} (ht : P.underlying t = some .bool) : Opens enc P W X t (fun l => ∃ b, l = [.bool b]) := by
  intro base sp held fuel cs x h
  obtain ⟨b, rfl, _⟩ := DataW.trod_bool ht h
  exact ⟨_, ⟨b, rfl⟩, reps1 (by simp only [Rep])⟩
theorem op_str {t : TypeId} (ht : P.underlying t = some .string) : Opens enc P W X t (fun l => ∃ s, l = [.str s] ∧ s.length ≤ maxLen) := by
  intro base sp held fuel cs x h
  obtain ⟨⟨⟨s⟩⟩, rfl, _, hn⟩ := DataW.trod_string ht h
  exact ⟨_, ⟨s, rfl, hn⟩, reps1 (by simp only [Rep])⟩

theorem list_of {α : Type} {Q : Nat → α → Prop} : ∀ n, (∀ i, i < n → ∃ l, Q i l) → ∃ es : List α, es.length = n ∧ ∀ i l, es[i]? = some l → Q i l
  | 0, _ => ⟨[], rfl, fun i l h => by simp at h⟩
  | n + 1, h => by
    obtain ⟨es, h1, h2⟩ := list_of n (fun i hi => h i (by omega))
    obtain ⟨l, hl⟩ := h n (by omega)
    refine ⟨es ++ [l], by simp [h1], fun i x hx => ?_⟩
    by_cases hi : i < es.length
    · rw [List.getElem?_append_left hi] at hx; exact h2 i x hx
    · rw [List.getElem?_append_right (by omega)] at hx
      have : i - es.length = 0 := by
        have := (List.getElem?_eq_some_iff.1 hx).1
        simp at this; omega
      rw [this] at hx
      simp at hx
      subst hx
      have : i = n := by omega
      subst this; exact hl

theorem cells_get {base : Nat} {a : Addr} {n : Nat} {cs : List Value} (h : W.cells? base a n = some cs) : cs.length = n ∧ ∀ j x, cs[j]? = some x → W.cell? (a.add j) = some x := by
  unfold World.cells? at h
  split at h
  · refine ⟨by simpa using Lib.mapM_length h, fun j x hj => ?_⟩
    have hl : cs.length = n := by simpa using Lib.mapM_length h
    have hj' : j < n := by have := (List.getElem?_eq_some_iff.1 hj).1; omega
    obtain ⟨b, h1, h2⟩ := Lib.mapM_at h j j (by simp [hj'])
    rw [hj] at h1
    cases h1
    exact h2
  · cases h

theorem cell_lt {a : Addr} {v : Value} (h : W.cell? a = some v) : a.block < W.heap.size := by
  unfold World.cell? at h
  split at h
  · rename_i h1; exact (Array.getElem?_eq_some_iff.1 h1).1
  · cases h

theorem op_slice {t e : TypeId} {z : Nat} {S : List D → Prop} (ht : P.underlying t = some (.slice e)) (hc : P.cellsOf e = z) (hz : 0 < z) (hX : ∀ b, X b → W.heap.size ≤ b) (he : Opens enc P W X e S) :
    Opens enc P W X t (fun l => ∃ es, l = [.sl z es] ∧ es.length ≤ maxLen ∧ ∀ r, r ∈ es → S r) := by
  intro base sp held fuel cs x h
  rcases DataW.trod_slice ht h with ⟨rfl, _⟩ | ⟨a, len, cap, elems, rest, n, _, rfl, _, hb, hlc, hcm, hlen, hel, _, _⟩
  · exact ⟨_, ⟨[], rfl, by simp, fun r hr => by cases hr⟩, reps1 (by simp only [Rep]; exact ⟨none, 0, rfl, Nat.le_refl _, by simp, fun ad h => by cases h⟩)⟩
  · rw [hc] at hel
    have hspot : 0 < len → a.spot = none ∧ a.block < W.heap.size := by
      intro h0
      have h1 := hel 0 h0
      cases hcs : W.cells? base (a.add (0 * z)) z with
      | none => rw [hcs] at h1; simp [List.getElem?_eq_getElem (show 0 < elems.length by omega)] at h1
      | some cs =>
        obtain ⟨h2, h3⟩ := cells_get hcs
        have h4 := h3 0 cs[0] (by simp [h2, hz])
        simp only [Nat.zero_mul, Addr.add, if_true] at h4
        exact ⟨World.cell?_spot h4, cell_lt h4⟩
    obtain ⟨es, h1, h2⟩ := list_of (Q := fun i l => S l ∧ ∃ cs, Reps W X l cs ∧ cs.length = z ∧ CellsAt W cs a.block (a.off + i * z)) len (fun i hi => by
      have h1 := hel i hi
      obtain ⟨hsp, _⟩ := hspot (by omega)
      obtain ⟨b, o, s⟩ := a
      simp only at hsp
      subst hsp
      rw [List.getElem?_eq_getElem (show i < elems.length by omega), Option.bind_eq_some_iff] at h1
      obtain ⟨cs, h2, h3⟩ := h1
      obtain ⟨h4, h5⟩ := cells_get h2
      obtain ⟨l, h6, h7⟩ := he _ _ _ _ _ _ h3
      refine ⟨l, h6, cs, h7, h4, fun j x hj => ?_⟩
      have := h5 j x hj
      rw [Addr.add_lit, Addr.add_lit] at this
      exact this)
    refine ⟨_, ⟨es, rfl, by omega, fun r hr => ?_⟩, reps1 ?_⟩
    · obtain ⟨i, hi⟩ := List.getElem?_of_mem hr
      exact (h2 i r hi).1
    · simp only [Rep]
      refine ⟨some a, cap, by rw [h1], by omega, (fun h => by cases h), fun ad had hne => ?_⟩
      cases had
      have h0 : 0 < len := by
        rcases Nat.eq_zero_or_pos len with h0 | h0
        · exact absurd (List.eq_nil_of_length_eq_zero (by omega)) hne
        · exact h0
      obtain ⟨hsp, hlt⟩ := hspot h0
      exact ⟨hsp, hlt, fun hx => by have := hX _ hx; omega, RowsAt.mk fun i e hi => (h2 i e hi).2⟩

theorem Reps.append {l1 : List D} : ∀ {v1 : List Value} {l2 : List D} {v2 : List Value}, Reps W X l1 v1 → Reps W X l2 v2 → Reps W X (l1 ++ l2) (v1 ++ v2) := by
  induction l1 with
  | nil => intro v1 l2 v2 h k; simp only [Reps] at h; subst h; exact k
  | cons d l ih =>
    intro v1 l2 v2 h k
    simp only [Reps, List.cons_append] at h ⊢
    obtain ⟨v, r, rfl, h1, h2⟩ := h
    exact ⟨v, r ++ v2, rfl, h1, ih h2 k⟩

def Opens2 (enc : TypeId × Value → H) (P : Program) (W : World) (X : Nat → Prop) : List Field → List (List D → Prop) → Prop
  | [], [] => True
  | f :: fs, S :: Ss => Opens enc P W X f.type S ∧ Opens2 enc P W X fs Ss
  | _, _ => False
def All2 : List (List D → Prop) → List (List D) → Prop
  | [], ls => ls = []
  | S :: Ss, ls => ∃ l r, ls = l :: r ∧ S l ∧ All2 Ss r

theorem op_fields {base : Nat} {sp : Nat → Bool} {held : Bool} {fuel : Nat} {cs : List Value} : ∀ (fs : List Field) (Ss : List (List D → Prop)) (o : Nat), Opens2 enc P W X fs Ss →
    (∀ (j : Nat) f, fs[j]? = some f → f.offset = o + ((fs.take j).map fun f => P.cellsOf f.type).sum) → (∀ f, f ∈ fs → ∃ y, DataW.trod enc P W base sp held fuel f.type ((cs.drop f.offset).take (P.cellsOf f.type)) = some y) →
    ∃ ls, All2 Ss ls ∧ Reps W X ls.flatten ((cs.drop o).take (fs.map fun f => P.cellsOf f.type).sum)
  | [], [], o, _, _, _ => ⟨[], rfl, by simp [Reps]⟩
  | [], _ :: _, _, h, _, _ => by cases h
  | _ :: _, [], _, h, _, _ => by cases h
  | f :: fs, S :: Ss, o, h, ho, hy => by
    obtain ⟨ls, h1, h2⟩ := op_fields fs Ss (o + P.cellsOf f.type) h.2 (fun j g hg => by
      have := ho (j + 1) g (by simpa using hg)
      simp only [List.take_succ_cons, List.map_cons, List.sum_cons] at this
      omega) (fun g hg => hy g (List.mem_cons_of_mem _ hg))
    obtain ⟨y, hy⟩ := hy f List.mem_cons_self
    obtain ⟨l, h3, h4⟩ := h.1 _ _ _ _ _ _ hy
    have h0 := ho 0 f rfl
    simp at h0
    refine ⟨l :: ls, ⟨l, ls, rfl, h3, h1⟩, ?_⟩
    rw [h0] at h4
    rw [List.map_cons, List.sum_cons, List.flatten_cons, List.take_add, List.drop_drop]
    exact Reps.append h4 h2

theorem op_struct {t : TypeId} {fs : Array Field} (hl : laidOutB P = true) (hm : mapsRowed P = true) (hlt : t < P.types.size) (ht : P.underlying t = some (.struct fs)) (Ss : List (List D → Prop)) (h : Opens2 enc P W X fs.toList Ss) :
    Opens enc P W X t (fun l => ∃ ls, l = ls.flatten ∧ All2 Ss ls) := by
  intro base sp held fuel cs x hx
  obtain ⟨xs, n, _, _, hcl, hxl, hf⟩ := DataW.trod_struct ht hx
  obtain ⟨_, k1, k2⟩ := (kids_rows hl hm).struct hlt ht
  obtain ⟨ls, h1, h2⟩ := op_fields (base := base) (sp := sp) (held := held) (fuel := n) (cs := cs) fs.toList Ss 0 h (fun j f hj => by rw [k2 j f hj]; omega) (fun f hfm => by
    obtain ⟨j, hj⟩ := List.getElem?_of_mem hfm
    have hj' : fs[j]? = some f := by simpa using hj
    have := hf j f hj'
    have hlt : j < xs.length := by have := (List.getElem?_eq_some_iff.1 hj).1; simp at this; omega
    rw [List.getElem?_eq_getElem hlt] at this
    exact ⟨_, this⟩)
  refine ⟨_, ⟨ls, rfl, h1⟩, ?_⟩
  rw [← k1, ← hcl] at h2
  simpa using h2

/-! ### Arguments -/

theorem arg_int {r : Reach} {b0 : Nat} {t : TypeId} {k : IntKind} {v : Value} {d : DataW H} {ps : List MemPlace} {sp : Nat → Bool} (ht : P.underlying t = some (.int k)) (hval : Value.okWide P W r b0 t v) (hd : DataW.Trod enc P W 0 sp true t v d ps) : ∃ n, v = .int k n ∧ (Lit.int k n).wf = true := by
  obtain ⟨n, rfl⟩ := okWide_int ht hval
  obtain ⟨fuel, h⟩ := hd
  obtain ⟨m, h1, _, h2⟩ := DataW.trod_int ht h
  simp [Value.cells] at h1
  subst h1
  exact ⟨n, rfl, h2⟩
theorem arg_bool {r : Reach} {b0 : Nat} {t : TypeId} {v : Value} (ht : P.underlying t = some .bool) (hval : Value.okWide P W r b0 t v) : ∃ b, v = .bool b := okWide_bool ht hval
theorem arg_str {r : Reach} {b0 : Nat} {t : TypeId} {v : Value} {d : DataW H} {ps : List MemPlace} {sp : Nat → Bool} (ht : P.underlying t = some .string) (hval : Value.okWide P W r b0 t v) (hd : DataW.Trod enc P W 0 sp true t v d ps) : ∃ s : List UInt8, v = .string ⟨⟨s⟩⟩ ∧ d = .lit (.string s) ∧ s.length ≤ maxLen := by
  obtain ⟨s, rfl⟩ := okWide_string ht hval
  obtain ⟨fuel, h⟩ := hd
  obtain ⟨⟨⟨m⟩⟩, h1, h3, h2⟩ := DataW.trod_string ht h
  simp [Value.cells] at h1
  subst h1
  cases h3
  exact ⟨m, rfl, rfl, h2⟩
theorem arg_slice {r : Reach} {b0 : Nat} {t e : TypeId} {v : Value} {d : DataW H} {ps : List MemPlace} {sp : Nat → Bool} {S : List D → Prop} (ht : P.underlying t = some (.slice e)) (hval : Value.okWide P W r b0 t v) (hd : DataW.Trod enc P W 0 sp true t v d ps) (ho : Opens enc P W X t S) : ∃ l, S l ∧ Reps W X l [v] := by
  obtain ⟨a, len, cap, rfl⟩ := okWide_slice ht hval
  obtain ⟨fuel, h⟩ := hd
  exact ho _ _ _ _ _ _ h
theorem arg_struct {r : Reach} {b0 : Nat} {t : TypeId} {fs : Array Field} {v : Value} {d : DataW H} {ps : List MemPlace} {sp : Nat → Bool} {S : List D → Prop} (ht : P.underlying t = some (.struct fs)) (hval : Value.okWide P W r b0 t v) (hd : DataW.Trod enc P W 0 sp true t v d ps) (ho : Opens enc P W X t S) : ∃ l, S l ∧ Rep W X (.agg l) v := by
  obtain ⟨cs, rfl, _⟩ := okWide_struct ht hval
  obtain ⟨fuel, h⟩ := hd
  obtain ⟨l, h1, h2⟩ := ho _ _ _ _ _ _ h
  exact ⟨l, h1, by simp only [Rep]; exact ⟨cs.toList, rfl, h2⟩⟩

/-- A list of data, each of which is some x's. -/
theorem list_map {α : Type} {f : α → List D} {ok : α → Prop} : ∀ {es : List (List D)}, (∀ r, r ∈ es → ∃ x, r = f x ∧ ok x) → ∃ xs : List α, es = xs.map f ∧ ∀ x, x ∈ xs → ok x
  | [], _ => ⟨[], rfl, fun x h => by cases h⟩
  | e :: es, h => by
    obtain ⟨x, h1, h2⟩ := h e List.mem_cons_self
    obtain ⟨xs, h3, h4⟩ := list_map (es := es) (fun r hr => h r (List.mem_cons_of_mem _ hr))
    exact ⟨x :: xs, by rw [h1, h3]; rfl, fun y hy => by
      rcases List.mem_cons.1 hy with rfl | hy
      · exact h2
      · exact h4 y hy⟩

/-! ### A contract, used where nothing is the caller's own -/

theorem con_run {G : List (Nat × List D)} {f : FuncId} {args : List SV} {vals : List Value} {b : Bool} (hc : Con P W G f args [] (.v (.bool b)) []) (hG : GlobOk G W fun _ => False) (hv : ∀ N ρ, VReps N ρ W (fun _ => False) args vals) :
    Calls P f vals.toArray W fun e w' => e = .returned (.bool b) ∧ Below W.heap.size W w' := by
  have hun : un (fun _ => False) (fun _ => False) = fun _ => False := by funext x; simp [un]
  have h := hc W (fun _ => default) (fun _ => False) (fun _ => False) vals (fun b h => by rw [hun] at h; cases h) (fun b h => by cases h) (by rw [hun]; exact ⟨Nat.le_refl _, fun b hb => ⟨rfl, fun h => h⟩⟩) (by rw [hun]; exact hG) ⟨(fun k o h => by cases h), (fun k o k' o' h => by cases h)⟩ (by rw [hun]; exact hv _ _)
  refine h.mono ?_
  rintro e w' ⟨v, ρ', L', rfl, h1, _, h3, _, _⟩
  simp only [VRep, Rep] at h1
  subst h1
  exact ⟨rfl, ⟨h3.os, h3.tape, h3.output, h3.size, fun k hk => h3.block k hk (fun h => h)⟩⟩

/-! ### The row's list of variables -/

theorem laid_get {l : List (String × DataW Unit)} : ∀ {ps : List MemPlace}, DataW.LaidVars P W l ps → ∀ n d, (n, d) ∈ l → ∃ g t cs fuel p, P.globalNamed n = some g ∧ (P.globals[g]?).map (·.type) = some t ∧ W.var? P n = some cs ∧ DataW.trod (fun _ => ()) P W 0 (fun _ => true) false fuel t cs.toList = some (d, p) := by
  induction l with
  | nil => intro ps _ n d h; cases h
  | cons y r ih =>
    intro ps h n d hm
    obtain ⟨n0, d0⟩ := y
    obtain ⟨g, t, cs, fuel, p, q, h1, h2, h3, h4, h5, _⟩ := h
    rcases List.mem_cons.1 hm with e | hm
    · cases e; exact ⟨g, t, cs, fuel, p, h1, h2, h3, h4⟩
    · exact ih h5 n d hm

theorem laid_tab {l : List (String × DataW Unit)} {name : String} {k : IntKind} {zs : List Int} {g : Nat} {t e : TypeId} {n : Nat} (h : laidMet P l W) (hm : (name, Lib.tabData k zs) ∈ l)
    (hg : P.globalNamed name = some g) (hty : (P.globals[g]?).map (·.type) = some t) (ht : P.underlying t = some (.array n e)) (he : P.underlying e = some (.int k)) (hce : P.cellsOf e = 1) (hct : P.cellsOf t = n) : Lib.TabIs P W name k zs := by
  obtain ⟨ps, h1, _⟩ := h
  obtain ⟨g', t', cs, fuel, p, h2, h3, h4, h5⟩ := laid_get h1 _ _ hm
  obtain rfl := Option.some.inj (hg.symm.trans h2)
  obtain rfl := Option.some.inj (hty.symm.trans h3)
  unfold Lib.TabIs
  rw [h4, ← Lib.cells_of_tab ht he hce hct h5]

theorem glob_tab {name : String} {k : IntKind} {zs : List Int} {g : Nat} (h : Lib.TabIs P W name k zs) (hg : P.globalNamed name = some g) : GlobOk [(g, zs.map (D.int k))] W (fun _ => False) := by
  unfold Lib.TabIs World.var? at h
  rw [hg] at h
  simp only [Option.bind_some] at h
  cases hh : W.heap[g]? with
  | none => rw [hh] at h; cases h
  | some o =>
    rw [hh] at h
    cases o with
    | cells cs t f =>
      simp only [Option.some.injEq] at h
      subst h
      intro g' cs hget
      simp only [V.get] at hget
      split at hget
      · rename_i e
        cases Nat.eq_of_beq_eq_true e
        cases hget
        refine ⟨zs.map fun z => Value.int k z, (Array.getElem?_eq_some_iff.1 hh).1, fun h => h, ?_, fun j x hx => ?_⟩
        · clear hh
          induction zs with
          | nil => simp [Reps]
          | cons z zs ih => simp only [List.map_cons, Reps, Rep]; exact ⟨_, _, rfl, rfl, ih⟩
        · rw [Nat.zero_add]
          simp only [World.cell?, hh]
          simpa using hx
      · cases hget
    | _ => cases h
theorem laid_iface {l : List (String × DataW Unit)} {name nm : String} {d : DataW Unit} {g : Nat} {t : TypeId} {ms : Array (String × TypeId)} (h : laidMet P l W) (hm : (name, DataW.iface nm d) ∈ l)
    (hg : P.globalNamed name = some g) (hty : (P.globals[g]?).map (·.type) = some t) (ht : P.underlying t = some (.interface ms)) : ∃ u v, W.cell? ⟨g, 0, none⟩ = some (.iface u v) := by
  obtain ⟨ps, h1, _⟩ := h
  obtain ⟨g', t', cs, fuel, p, h2, h3, h4, h5⟩ := laid_get h1 _ _ hm
  obtain rfl := Option.some.inj (hg.symm.trans h2)
  obtain rfl := Option.some.inj (hty.symm.trans h3)
  obtain ⟨_, u, v, h6, _, _⟩ := iface_of_trod ht h5
  refine ⟨u, v, ?_⟩
  unfold World.var? at h4
  rw [hg] at h4
  simp only [Option.bind_some] at h4
  split at h4
  · rename_i c ty fr hh
    have h7 : c = cs := Option.some.inj h4
    subst h7
    simp only [World.cell?, hh]
    obtain ⟨c⟩ := c
    simp only at h6
    subst h6
    rfl
  · cases h4

end
end Go.V
