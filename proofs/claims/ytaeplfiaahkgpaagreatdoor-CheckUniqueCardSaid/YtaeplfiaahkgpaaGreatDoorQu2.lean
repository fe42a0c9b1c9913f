/- Packed by pack.py. -/
import Derived.Test.YtaeplfiaahkgpaaGreatDoorQu1
import Derived.ChangeStays
import Derived.ChangeArms
import Derived.ChangeSame
import Derived.ChangeReads
import Derived.LaidLaws
import Derived.Lib.LaidTab
import Derived.RowKit
import Derived.OpenShut
import Derived.Shelf.Vars
import Derived.Laws.RangeAny
import Derived.IntWalk
import Derived.Laws.IdiomStrings
import Derived.LoopN
import Derived.Lib.AppendStr
import Derived.MapKept
import Derived.Carry
import Derived.Maps.RangeRun
noncomputable section zRa
set_option linter.unusedVariables false
namespace Go.V
open Go.ChangeShapes Go.WideShapes Go.RowKit
def slicesOkB (P : Program) : Bool := (List.range P.types.size).all fun t => match P.underlying t with | some (.slice e) => decide (0 < P.cellsOf e) | _ => true
section
variable {H : Type} {enc : TypeId × Value → H} {P : Program} {W : World} {X : Nat → Prop}
theorem slicesOk (hz : slicesOkB P = true) {t e : TypeId} (ht : t < P.types.size) (h : P.underlying t = some (.slice e)) : 0 < P.cellsOf e := by
 unfold slicesOkB at hz
 rw [List.all_eq_true] at hz
 have := hz t (List.mem_range.2 ht)
 rw [h] at this
 simpa using this
theorem stay_all (hl : laidOutB P = true) (hm : mapsRowed P = true) (hz : slicesOkB P = true) {W' : World} (hb : Below W.heap.size W W') (sp : Nat → Bool) :
    ∀ (ts : List TypeId) (vs : List Value) (ds : List (DataW H)) (ps : List MemPlace), (∀ t, t ∈ ts → t < P.types.size) → DataW.TrodAll enc P W 0 (fun _ => true) true ts vs ds ps → (∀ p, p ∈ ps → sp p.block = true) → DataW.TrodAll enc P W' 0 sp true ts vs ds ps := by
  intro ts
  induction ts with
  | nil =>
    intro vs ds ps _ h _
    obtain ⟨rfl, rfl, rfl⟩ := trodAll_nil h
    exact rfl
  | cons t ts ih =>
    intro vs ds ps hts h hs
    have hlt := DataW.TrodAll.lt h
    obtain ⟨v, vs', d, ds', p, q, rfl, rfl, rfl, ⟨fuel, h1⟩, h2⟩ := trodAll_cons h
    refine ⟨p, q, ⟨fuel, ?_⟩, ih vs' ds' q (fun t ht => hts t (List.mem_cons_of_mem _ ht)) h2 (fun p hp => hs p (List.mem_append_right _ hp)), rfl⟩
    exact DataW.trod_stays (kids_rows hl hm) (fun ht hu => slicesOk hz ht hu) (fun h => by cases h) (hts t (List.mem_cons_self)) h1
      (fun p' hp => hb.same (hlt p' (List.mem_append_left _ hp))) (fun p' hp => hs p' (List.mem_append_left _ hp))
theorem post_true {f : Func} {s : ChangeSpec} {apart fresh : Bool} {W' : World} {args : Array Value} {ds gs : List (DataW H)} {before : List MemPlace} {tb : TypeId}
    (hl : laidOutB P = true) (hm : mapsRowed P = true) (hz : slicesOkB P = true) (hpar : ∀ t, t ∈ f.params.toList → t < P.types.size) (hres : f.resultTypes = #[tb]) (htb : P.underlying tb = some .bool) (hv : s.vars = [])
    (hspec : (s.fn H ds).results = [.lit (.bool true)] ∧ (s.fn H ds).args = ds ∧ (s.fn H ds).vars = [])
    (hW : DataW.Whole enc P f.params.toList s.vars apart W args.toList ds gs before) (hb : Below W.heap.size W W') : s.post enc P f apart fresh false false W args (.bool true) W' := by
  have hW' := hW
  obtain ⟨p, q, hA, hV, rfl, hfz, hnd⟩ := hW
  have hV' := hV
  rw [hv] at hV'
  obtain ⟨rfl, rfl⟩ := trodVars_none hV'
  simp only [List.append_nil] at hW'
  refine ⟨ds, [], p, [], p, [], hW', ?_, ?_, ?_, hb.frame _, (fun h => by cases h)⟩
  · rw [hres, List.append_nil, hspec.1]
    exact trodAll_mk1 (shut_bool htb true)
  · rw [List.append_nil, hspec.2.1]
    exact stay_all hl hm hz hb _ _ _ _ _ hpar hA (fun p' hp => by simpa using DataW.TrodAll.lt hA p' hp)
  · rw [hv, List.append_nil, hspec.2.2]; exact rfl
def Opens (enc : TypeId × Value → H) (P : Program) (W : World) (X : Nat → Prop) (t : TypeId) (S : List D → Prop) : Prop :=
  ∀ base sp held fuel cs x, DataW.trod enc P W base sp held fuel t cs = some x → ∃ l, S l ∧ Reps W X l cs
theorem reps1 {d : D} {v : Value} (h : Rep W X d v) : Reps W X [d] [v] := by simp only [Reps]; exact ⟨v, [], rfl, h, rfl⟩
theorem op_int {t : TypeId} {k : IntKind} (ht : P.underlying t = some (.int k)) : Opens enc P W X t (fun l => ∃ n, l = [.int k n] ∧ (Lit.int k n).wf = true) := by
 intro base sp held fuel cs x h
 obtain ⟨n, rfl, _, hn⟩ := DataW.trod_int ht h
 exact ⟨_, ⟨n, rfl, hn⟩, reps1 (by simp only [Rep])⟩
theorem op_str {t : TypeId} (ht : P.underlying t = some .string) : Opens enc P W X t (fun l => ∃ s, l = [.str s] ∧ s.length ≤ maxLen) := by
 intro base sp held fuel cs x h
 obtain ⟨⟨⟨s⟩⟩, rfl, _, hn⟩ := DataW.trod_string ht h
 exact ⟨_, ⟨s, rfl, hn⟩, reps1 (by simp only [Rep])⟩
theorem list_of {α : Type} {Q : Nat → α → Prop} : ∀ n, (∀ i, i < n → ∃ l, Q i l) → ∃ es : List α, es.length = n ∧ ∀ i l, es[i]? = some l → Q i l
 | 0, _ => ⟨[], rfl, fun i l h => by simp at h⟩
 | n + 1, h => by
  obtain ⟨es, h1, h2⟩ := list_of n (fun i hi => h i (by omega))
  obtain ⟨l, hl⟩ := h n (by omega)
  refine ⟨es ++ [l], by simp [h1], fun i x hx => ?_⟩
  by_cases hi : i < es.length
  ·rw [List.getElem?_append_left hi] at hx; exact h2 i x hx
  ·rw [List.getElem?_append_right (by omega)] at hx
   have : i - es.length = 0 := by
    have := (List.getElem?_eq_some_iff.1 hx).1
    simp at this; omega
   rw [this] at hx
   simp at hx
   subst hx
   have : i = n := by omega
   subst this; exact hl
theorem cells_get {base : Nat} {a : Addr} {n : Nat} {cs : List Value} (h : W.cells? base a n = some cs) : cs.length = n ∧ ∀ j x, cs[j]? = some x → W.cell? (a.add j) = some x := by
 unfold World.cells? at h
 split at h
 ·refine ⟨by simpa using Lib.mapM_length h, fun j x hj => ?_⟩
  have hl : cs.length = n := by simpa using Lib.mapM_length h
  have hj' : j < n := by have := (List.getElem?_eq_some_iff.1 hj).1; omega
  obtain ⟨b, h1, h2⟩ := Lib.mapM_at h j j (by simp [hj'])
  rw [hj] at h1
  cases h1
  exact h2
 ·cases h
theorem cell_lt {a : Addr} {v : Value} (h : W.cell? a = some v) : a.block < W.heap.size := by
 unfold World.cell? at h
 split at h
 ·rename_i h1; exact (Array.getElem?_eq_some_iff.1 h1).1
 ·cases h
theorem op_slice {t e : TypeId} {z : Nat} {S : List D → Prop} (ht : P.underlying t = some (.slice e)) (hc : P.cellsOf e = z) (hz : 0 < z) (hX : ∀ b, X b → W.heap.size ≤ b) (he : Opens enc P W X e S) :
  Opens enc P W X t (fun l => ∃ es, l = [.sl z es] ∧ es.length ≤ maxLen ∧ ∀ r, r ∈ es → S r) := by
 intro base sp held fuel cs x h
 rcases DataW.trod_slice ht h with ⟨rfl, _⟩ | ⟨a, len, cap, elems, rest, n, _, rfl, _, hb, hlc, hcm, hlen, hel, _, _⟩
 ·exact ⟨_, ⟨[], rfl, by simp, fun r hr => by cases hr⟩, reps1 (by simp only [Rep]; exact ⟨none, 0, rfl, Nat.le_refl _, by simp, fun ad h => by cases h⟩)⟩
 ·rw [hc] at hel
  have hspot : 0 < len → a.spot = none ∧ a.block < W.heap.size := by
   intro h0
   have h1 := hel 0 h0
   cases hcs : W.cells? base (a.add (0 * z)) z with
   | none => rw [hcs] at h1; simp [List.getElem?_eq_getElem (show 0 < elems.length by omega)] at h1
   | some cs =>
    obtain ⟨h2, h3⟩ := cells_get hcs
    have h4 := h3 0 cs[0] (by simp [h2, hz])
    simp only [Nat.zero_mul, Addr.add, if_true] at h4
    exact ⟨World.cell?_spot h4, cell_lt h4⟩
  obtain ⟨es, h1, h2⟩ := list_of (Q := fun i l => S l ∧ ∃ cs, Reps W X l cs ∧ cs.length = z ∧ CellsAt W cs a.block (a.off + i * z)) len (fun i hi => by
   have h1 := hel i hi
   obtain ⟨hsp, _⟩ := hspot (by omega)
   obtain ⟨b, o, s⟩ := a
   simp only at hsp
   subst hsp
   rw [List.getElem?_eq_getElem (show i < elems.length by omega), Option.bind_eq_some_iff] at h1
   obtain ⟨cs, h2, h3⟩ := h1
   obtain ⟨h4, h5⟩ := cells_get h2
   obtain ⟨l, h6, h7⟩ := he _ _ _ _ _ _ h3
   refine ⟨l, h6, cs, h7, h4, fun j x hj => ?_⟩
   have := h5 j x hj
   rw [Addr.add_lit, Addr.add_lit] at this
   exact this)
  refine ⟨_, ⟨es, rfl, by omega, fun r hr => ?_⟩, reps1 ?_⟩
  ·obtain ⟨i, hi⟩ := List.getElem?_of_mem hr
   exact (h2 i r hi).1
  ·simp only [Rep]
   refine ⟨some a, cap, by rw [h1], by omega, (fun h => by cases h), fun ad had hne => ?_⟩
   cases had
   have h0 : 0 < len := by
    rcases Nat.eq_zero_or_pos len with h0 | h0
    ·exact absurd (List.eq_nil_of_length_eq_zero (by omega)) hne
    ·exact h0
   obtain ⟨hsp, hlt⟩ := hspot h0
   exact ⟨hsp, hlt, fun hx => by have := hX _ hx; omega, RowsAt.mk fun i e hi => (h2 i e hi).2⟩
theorem Reps.append {l1 : List D} : ∀ {v1 : List Value} {l2 : List D} {v2 : List Value}, Reps W X l1 v1 → Reps W X l2 v2 → Reps W X (l1 ++ l2) (v1 ++ v2) := by
 induction l1 with
 | nil => intro v1 l2 v2 h k; simp only [Reps] at h; subst h; exact k
 | cons d l ih =>
  intro v1 l2 v2 h k
  simp only [Reps, List.cons_append] at h ⊢
  obtain ⟨v, r, rfl, h1, h2⟩ := h
  exact ⟨v, r ++ v2, rfl, h1, ih h2 k⟩
def Opens2 (enc : TypeId × Value → H) (P : Program) (W : World) (X : Nat → Prop) : List Field → List (List D → Prop) → Prop
 | [], [] => True
 | f :: fs, S :: Ss => Opens enc P W X f.type S ∧ Opens2 enc P W X fs Ss
 | _, _ => False
def All2 : List (List D → Prop) → List (List D) → Prop
 | [], ls => ls = []
 | S :: Ss, ls => ∃ l r, ls = l :: r ∧ S l ∧ All2 Ss r
theorem op_fields {base : Nat} {sp : Nat → Bool} {held : Bool} {fuel : Nat} {cs : List Value} : ∀ (fs : List Field) (Ss : List (List D → Prop)) (o : Nat), Opens2 enc P W X fs Ss →
  (∀ (j : Nat) f, fs[j]? = some f → f.offset = o + ((fs.take j).map fun f => P.cellsOf f.type).sum) → (∀ f, f ∈ fs → ∃ y, DataW.trod enc P W base sp held fuel f.type ((cs.drop f.offset).take (P.cellsOf f.type)) = some y) →
  ∃ ls, All2 Ss ls ∧ Reps W X ls.flatten ((cs.drop o).take (fs.map fun f => P.cellsOf f.type).sum)
 | [], [], o, _, _, _ => ⟨[], rfl, by simp [Reps]⟩
 | [], _ :: _, _, h, _, _ => by cases h
 | _ :: _, [], _, h, _, _ => by cases h
 | f :: fs, S :: Ss, o, h, ho, hy => by
  obtain ⟨ls, h1, h2⟩ := op_fields fs Ss (o + P.cellsOf f.type) h.2 (fun j g hg => by
   have := ho (j + 1) g (by simpa using hg)
   simp only [List.take_succ_cons, List.map_cons, List.sum_cons] at this
   omega) (fun g hg => hy g (List.mem_cons_of_mem _ hg))
  obtain ⟨y, hy⟩ := hy f List.mem_cons_self
  obtain ⟨l, h3, h4⟩ := h.1 _ _ _ _ _ _ hy
  have h0 := ho 0 f rfl
  simp at h0
  refine ⟨l :: ls, ⟨l, ls, rfl, h3, h1⟩, ?_⟩
  rw [h0] at h4
  rw [List.map_cons, List.sum_cons, List.flatten_cons, List.take_add, List.drop_drop]
  exact Reps.append h4 h2
theorem op_struct {t : TypeId} {fs : Array Field} (hl : laidOutB P = true) (hm : mapsRowed P = true) (hlt : t < P.types.size) (ht : P.underlying t = some (.struct fs)) (Ss : List (List D → Prop)) (h : Opens2 enc P W X fs.toList Ss) :
  Opens enc P W X t (fun l => ∃ ls, l = ls.flatten ∧ All2 Ss ls) := by
 intro base sp held fuel cs x hx
 obtain ⟨xs, n, _, _, hcl, hxl, hf⟩ := DataW.trod_struct ht hx
 obtain ⟨_, k1, k2⟩ := (kids_rows hl hm).struct hlt ht
 obtain ⟨ls, h1, h2⟩ := op_fields (base := base) (sp := sp) (held := held) (fuel := n) (cs := cs) fs.toList Ss 0 h (fun j f hj => by rw [k2 j f hj]; omega) (fun f hfm => by
  obtain ⟨j, hj⟩ := List.getElem?_of_mem hfm
  have hj' : fs[j]? = some f := by simpa using hj
  have := hf j f hj'
  have hlt : j < xs.length := by have := (List.getElem?_eq_some_iff.1 hj).1; simp at this; omega
  rw [List.getElem?_eq_getElem hlt] at this
  exact ⟨_, this⟩)
 refine ⟨_, ⟨ls, rfl, h1⟩, ?_⟩
 rw [← k1, ← hcl] at h2
 simpa using h2
theorem arg_int {r : Reach} {b0 : Nat} {t : TypeId} {k : IntKind} {v : Value} {d : DataW H} {ps : List MemPlace} {sp : Nat → Bool} (ht : P.underlying t = some (.int k)) (hval : Value.okWide P W r b0 t v) (hd : DataW.Trod enc P W 0 sp true t v d ps) : ∃ n, v = .int k n ∧ (Lit.int k n).wf = true := by
 obtain ⟨n, rfl⟩ := okWide_int ht hval
 obtain ⟨fuel, h⟩ := hd
 obtain ⟨m, h1, _, h2⟩ := DataW.trod_int ht h
 simp [Value.cells] at h1
 subst h1
 exact ⟨n, rfl, h2⟩
theorem arg_str {r : Reach} {b0 : Nat} {t : TypeId} {v : Value} {d : DataW H} {ps : List MemPlace} {sp : Nat → Bool} (ht : P.underlying t = some .string) (hval : Value.okWide P W r b0 t v) (hd : DataW.Trod enc P W 0 sp true t v d ps) : ∃ s : List UInt8, v = .string ⟨⟨s⟩⟩ ∧ d = .lit (.string s) ∧ s.length ≤ maxLen := by
 obtain ⟨s, rfl⟩ := okWide_string ht hval
 obtain ⟨fuel, h⟩ := hd
 obtain ⟨⟨⟨m⟩⟩, h1, h3, h2⟩ := DataW.trod_string ht h
 simp [Value.cells] at h1
 subst h1
 cases h3
 exact ⟨m, rfl, rfl, h2⟩
theorem arg_slice {r : Reach} {b0 : Nat} {t e : TypeId} {v : Value} {d : DataW H} {ps : List MemPlace} {sp : Nat → Bool} {S : List D → Prop} (ht : P.underlying t = some (.slice e)) (hval : Value.okWide P W r b0 t v) (hd : DataW.Trod enc P W 0 sp true t v d ps) (ho : Opens enc P W X t S) : ∃ l, S l ∧ Reps W X l [v] := by
 obtain ⟨a, len, cap, rfl⟩ := okWide_slice ht hval
 obtain ⟨fuel, h⟩ := hd
 exact ho _ _ _ _ _ _ h
theorem list_map {α : Type} {f : α → List D} {ok : α → Prop} : ∀ {es : List (List D)}, (∀ r, r ∈ es → ∃ x, r = f x ∧ ok x) → ∃ xs : List α, es = xs.map f ∧ ∀ x, x ∈ xs → ok x
  | [], _ => ⟨[], rfl, fun x h => by cases h⟩
  | e :: es, h => by
    obtain ⟨x, h1, h2⟩ := h e List.mem_cons_self
    obtain ⟨xs, h3, h4⟩ := list_map (es := es) (fun r hr => h r (List.mem_cons_of_mem _ hr))
    exact ⟨x :: xs, by rw [h1, h3]; rfl, fun y hy => by
      rcases List.mem_cons.1 hy with rfl | hy
      · exact h2
      · exact h4 y hy⟩
theorem con_run {G : List (Nat × List D)} {f : FuncId} {args : List SV} {vals : List Value} {b : Bool} (hc : Con P W G f args [] (.v (.bool b)) []) (hG : GlobOk G W fun _ => False) (hv : ∀ N ρ, VReps N ρ W (fun _ => False) args vals) :
  Calls P f vals.toArray W fun e w' => e = .returned (.bool b) ∧ Below W.heap.size W w' := by
 have hun : un (fun _ => False) (fun _ => False) = fun _ => False := by funext x; simp [un]
 have h := hc W (fun _ => default) (fun _ => False) (fun _ => False) vals (fun b h => by rw [hun] at h; cases h) (fun b h => by cases h) (by rw [hun]; exact ⟨Nat.le_refl _, fun b hb => ⟨rfl, fun h => h⟩⟩) (by rw [hun]; exact hG) ⟨(fun k o h => by cases h), (fun k o k' o' h => by cases h)⟩ (by rw [hun]; exact hv _ _)
 refine h.mono ?_
 rintro e w' ⟨v, ρ', L', rfl, h1, _, h3, _, _⟩
 simp only [VRep, Rep] at h1
 subst h1
 exact ⟨rfl, ⟨h3.os, h3.tape, h3.output, h3.size, fun k hk => h3.block k hk (fun h => h)⟩⟩
theorem laid_get {l : List (String × DataW Unit)} : ∀ {ps : List MemPlace}, DataW.LaidVars P W l ps → ∀ n d, (n, d) ∈ l → ∃ g t cs fuel p, P.globalNamed n = some g ∧ (P.globals[g]?).map (·.type) = some t ∧ W.var? P n = some cs ∧ DataW.trod (fun _ => ()) P W 0 (fun _ => true) false fuel t cs.toList = some (d, p) := by
 induction l with
 | nil => intro ps _ n d h; cases h
 | cons y r ih =>
  intro ps h n d hm
  obtain ⟨n0, d0⟩ := y
  obtain ⟨g, t, cs, fuel, p, q, h1, h2, h3, h4, h5, _⟩ := h
  rcases List.mem_cons.1 hm with e | hm
  ·cases e; exact ⟨g, t, cs, fuel, p, h1, h2, h3, h4⟩
  ·exact ih h5 n d hm
theorem laid_tab {l : List (String × DataW Unit)} {name : String} {k : IntKind} {zs : List Int} {g : Nat} {t e : TypeId} {n : Nat} (h : laidMet P l W) (hm : (name, Lib.tabData k zs) ∈ l)
  (hg : P.globalNamed name = some g) (hty : (P.globals[g]?).map (·.type) = some t) (ht : P.underlying t = some (.array n e)) (he : P.underlying e = some (.int k)) (hce : P.cellsOf e = 1) (hct : P.cellsOf t = n) : Lib.TabIs P W name k zs := by
 obtain ⟨ps, h1, _⟩ := h
 obtain ⟨g', t', cs, fuel, p, h2, h3, h4, h5⟩ := laid_get h1 _ _ hm
 obtain rfl := Option.some.inj (hg.symm.trans h2)
 obtain rfl := Option.some.inj (hty.symm.trans h3)
 unfold Lib.TabIs
 rw [h4, ← Lib.cells_of_tab ht he hce hct h5]
theorem glob_tab {name : String} {k : IntKind} {zs : List Int} {g : Nat} (h : Lib.TabIs P W name k zs) (hg : P.globalNamed name = some g) : GlobOk [(g, zs.map (D.int k))] W (fun _ => False) := by
 unfold Lib.TabIs World.var? at h
 rw [hg] at h
 simp only [Option.bind_some] at h
 cases hh : W.heap[g]? with
 | none => rw [hh] at h; cases h
 | some o =>
  rw [hh] at h
  cases o with
  | cells cs t f =>
   simp only [Option.some.injEq] at h
   subst h
   intro g' cs hget
   simp only [V.get] at hget
   split at hget
   ·rename_i e
    cases Nat.eq_of_beq_eq_true e
    cases hget
    refine ⟨zs.map fun z => Value.int k z, (Array.getElem?_eq_some_iff.1 hh).1, fun h => h, ?_, fun j x hx => ?_⟩
    ·clear hh
     induction zs with
     | nil => simp [Reps]
     | cons z zs ih => simp only [List.map_cons, Reps, Rep]; exact ⟨_, _, rfl, rfl, ih⟩
    ·rw [Nat.zero_add]
     simp only [World.cell?, hh]
     simpa using hx
   ·cases hget
  | _ => cases h
end
end Go.V
end zRa
noncomputable section zVz
set_option linter.unusedVariables false
namespace Go.V
open Go.RowKit
variable {P : Program} {n : Nat} {B : Base} {st : St} {tb : List (Nat × TI)} {Q : Exit → Act → World → Prop} {ρ : Nat → Value} {a : Act} {w : World} {L : Nat → Prop}
theorem ifp {α : Type} {p : Prop} [Decidable p] {x y : Option α} {r : α} (hp : p) (h : (if p then x else y) = some r) : x = some r := by rwa [if_pos hp] at h
theorem ifn {α : Type} {p : Prop} [Decidable p] {x y : Option α} {r : α} (hp : ¬ p) (h : (if p then x else y) = some r) : y = some r := by rwa [if_neg hp] at h
theorem mapset {α : Type} {f : α → List D} {xs : List α} {i : Nat} {x : α} {cs : List D} (h : cs = f x) : (xs.map f).set i cs = (xs.set i x).map f := by rw [h, List.map_set]
theorem WC.thenCut {x y : Code} {X : Type} (st' : X → St) (I : X → Prop) (hx : WC P B n st x (Exit.then (AtCut B n st' I) Q)) (hy : ∀ g, I g → WC P B n (st' g) y Q) : WC P B n st x (Exit.then (y.wp P Q) Q) := fun a ρ w L hs =>
 wp_mono (hx a ρ w L hs) (fun e a w he => by
  cases e with
  | normal => obtain ⟨g, ρ, L, hs, hI⟩ := he; exact hy g hI a ρ w L hs
  | _ => exact he)
theorem VReps.put {N : Nat → Prop} {X : Nat → Prop} {x : SV} : ∀ {cs : List SV} {vs : List Value} (i : Nat), VReps N ρ w X cs vs → (∀ v, vs[i]? = some v → VRep N ρ w X x v) → VReps N ρ w X (cs.set i x) vs
 | [], vs, i, h, hx => by simp only [VReps] at h; subst h; simp [VReps]
 | c :: cs, vs, 0, h, hx => by
  simp only [VReps] at h
  obtain ⟨v, r, rfl, h1, h2⟩ := h
  simp only [List.set_cons_zero, VReps]
  exact ⟨v, r, rfl, hx v (by simp), h2⟩
 | c :: cs, vs, i + 1, h, hx => by
  simp only [VReps] at h
  obtain ⟨v, r, rfl, h1, h2⟩ := h
  simp only [List.set_cons_succ, VReps]
  exact ⟨v, r, rfl, h1, VReps.put i h2 (fun u hu => hx u (by simpa using hu))⟩
theorem sat_rowNilB (hs : Sat B n st ρ a w L) {j i k ty : Nat} {cs : List SV} (T sz : Nat) (hj : get st.O j = some (.blk ty cs)) (hx : nth cs i = some (.v (.raw (.slice none 0 0)))) (hfr : get st.O k = none) :
  ∃ ρ', Sat B n ⟨st.S, (j, .blk ty (cs.set i (.r k))) :: (k, .row T sz []) :: st.O⟩ ρ' a w L := by
 refine ⟨upd ρ k (.slice none 0 0), ?_⟩
 have hkj : j ≠ k := fun e => by subst e; rw [hj] at hfr; cases hfr
 have hN : ∀ m, nmO st.O m → nmO ((j, Ob.blk ty (cs.set i (.r k))) :: (k, Ob.row T sz []) :: st.O) m ∧ upd ρ k (.slice none 0 0) m = ρ m := fun m h => ⟨nmO_cons (nmO_cons h), upd_ne (nmO_ne h hfr)⟩
 have old : ∀ {m o}, m ≠ k → get ((j, Ob.blk ty (cs.set i (.r k))) :: (k, Ob.row T sz []) :: st.O) m = some o → ∃ o', get st.O m = some o' ∧ o'.live = o.live := fun {m o} hm h => by
  by_cases e : j = m
  ·subst e; rw [zJ1] at h; cases h; exact ⟨_, hj, rfl⟩
  ·rw [zI1 _ _ e, zI1 _ _ (fun e => hm e.symm)] at h; exact ⟨o, h, rfl⟩
 refine hs.go (Step.refl _ _) (fun b hb => hs.low b (.inr hb)) hN hs.size hs.defers (fun t' y hy => ?_) (fun m o hm => ?_) (fun m o m' o' hm hm' hne l1 l2 b hb hb' => ?_)
 ·obtain ⟨v, h1, h2⟩ := hs.slot t' y hy
  exact ⟨v, h1, VRep.keep hN (Keep.refl _ _) y v h2⟩
 ·by_cases e : j = m
  ·subst e; rw [zJ1] at hm; cases hm
   rw [upd_ne hkj]
   obtain ⟨b, vs, g1, g2, g3, g4⟩ := hs.obj j _ hj
   refine ⟨b, vs, g1, g2, g3, VReps.put i (VReps.keep hN (Keep.refl _ _) cs vs g4) (fun v hv => ?_)⟩
   rw [nth_eq] at hx
   obtain ⟨v', h1, h2⟩ := g4.get hx
   rw [hv] at h1; cases h1
   simp only [VRep, Rep] at h2 ⊢
   exact ⟨nmO_cons nmO_self, by rw [upd_self]; exact h2⟩
  ·rw [zI1 _ _ e] at hm
   by_cases e2 : k = m
   ·subst e2; rw [zJ1] at hm; cases hm
    rw [upd_self]
    exact ⟨[], by simp [RepRows], (fun r h => by cases h), OwnsR.nil w T sz, fun b hb => by simp [ob] at hb⟩
   ·rw [zI1 _ _ e2] at hm
    rw [upd_ne (fun e' => e2 e'.symm)]
    exact (hs.obj m o hm).keep hN (Keep.refl _ _) (fun _ b _ => ⟨rfl, id⟩)
 ·by_cases e1 : m = k
  ·subst e1; rw [upd_self] at hb; simp [ob] at hb
  ·by_cases e2 : m' = k
   ·subst e2; rw [upd_self] at hb'; simp [ob] at hb'
   ·rw [upd_ne e1] at hb; rw [upd_ne e2] at hb'
    obtain ⟨q1, r1, r2⟩ := old e1 hm
    obtain ⟨q2, r3, r4⟩ := old e2 hm'
    exact hs.inj m q1 m' q2 r1 r3 hne (r2.trans l1) (r4.trans l2) b hb hb'
theorem WC.rowNilB {c : Code} (j i k T sz : Nat) {ty : Nat} {cs cs2 : List SV} (hj : get st.O j = some (.blk ty cs)) (hx : nth cs i = some (.v (.raw (.slice none 0 0)))) (hfr : get st.O k = none) (he : cs.set i (.r k) = cs2) (h : WC P B n ⟨st.S, (j, .blk ty cs2) :: (k, .row T sz []) :: st.O⟩ c Q) : WC P B n st c Q := fun a ρ w L hs => by subst he; obtain ⟨ρ', s'⟩ := sat_rowNilB hs T sz hj hx hfr; exact h a ρ' w L s'
theorem WQ.rowNilB {e : Exit} (j i k T sz : Nat) {ty : Nat} {cs cs2 : List SV} (hj : get st.O j = some (.blk ty cs)) (hx : nth cs i = some (.v (.raw (.slice none 0 0)))) (hfr : get st.O k = none) (he : cs.set i (.r k) = cs2) (h : WQ B n ⟨st.S, (j, .blk ty cs2) :: (k, .row T sz []) :: st.O⟩ Q e) : WQ B n st Q e := fun a ρ w L hs => by subst he; obtain ⟨ρ', s'⟩ := sat_rowNilB hs T sz hj hx hfr; exact h a ρ' w L s'
theorem under_string {T : Nat} {ti : TI} (hT : TIok P T ti) (h : ti.sort = 2) : P.underlying T = some .string := by
 obtain ⟨d, h1, _, _, _, _, h2⟩ := hT.under
 rw [h] at h2
 rw [h1]
 cases d <;> simp [sortD] at h2 ⊢
def rgOf (tb : List (Nat × TI)) (G : List (Nat × List D)) (S : List (Nat × SV)) : Op → Option (List UInt8 × List Prop)
 | .range T x =>
  match get tb T, o1 G S x with
  | some ⟨_, _, _, _, _, _, 2⟩, some (.v (.str s), l) => some (s, l)
  | _, _ => none
 | _ => none
theorem OpOk.range (hP : TblOk P tb) {ops : List Oper} {o : Oper} {d : Nat} {s : List UInt8} {l : List Prop} {sl ns ws wn : List Nat} (hg : o.guard = none) (ho : o.dst = some d) (hd : inB n d = true)
  (h : rgOf tb B.G (pickL st.S sl) o.op = some (s, l)) (hl : vcs l) (hdn : has d ns = true) (hfr : get (pickL st.O ns) d = none) :
  OpOk P B n ops Q o ⟨sl, ns, ws, wn⟩ st ⟨[(d, .r d)], [(d, .it s 0)]⟩ := by
 intro st' a ρ w L K hag hs hK
 have hS : ∀ t x, get (pickL st.S sl) t = some x → get st'.S t = some x := fun t x ht => by obtain ⟨h1, h2⟩ := zO1 ht; rw [hag.S t h1]; exact h2
 have hfr' : get st'.O d = none := by rw [hag.O d (has_iff.1 hdn)]; exact pickL_none (has_iff.1 hdn) hfr
 unfold rgOf at h
 split at h
 ·rename_i T x hop
  split at h
  ·rename_i hT h1
   cases h
   have e1 := zN1 hs hS h1 hl
   simp only [VRep, Rep] at e1
   have hu := under_string (hP.get hT) rfl
   have hsat := sat_new hs (d := d) (v := .pointer (some ⟨w.heap.size, 0, none⟩)) (o := .it s 0) (w' := w.iter ⟨⟨s⟩⟩ 0) hd hfr' (below_push w _)
    (fun b hb => by simp only [ob, Option.some.injEq] at hb; subst hb; exact ⟨Nat.le_refl _, by show _ < (w.heap.push _).size; simp⟩) (x := .r d) (by simp only [VRep]; exact ⟨nmO_self, upd_self.symm⟩)
    (fun X _ _ => ⟨_, rfl, World.iter_heap _ _ _, .inr rfl⟩)
   exact wpO_value hg (v := .pointer (some ⟨w.heap.size, 0, none⟩)) (w' := w.iter ⟨⟨s⟩⟩ 0) (by simp only [execOp, hop, e1, run_range_string w T _ hu, Sem.run_bind, Result.andThen_ok, Sem.run_pure]) (by rw [ho]; exact hK _ _ ⟨_, _, hsat⟩)
  ·cases h
 ·cases h
theorem WL.range (hP : TblOk P tb) {ops rest : List Oper} {o : Oper} {d : Nat} {s : List UInt8} {l : List Prop} (hg : o.guard = none) (ho : o.dst = some d) (hd : inB n d = true)
  (h : rgOf tb B.G (pickL st.S (rd ops o)) o.op = some (s, l)) (hl : vcs l) (hfr : get (pickL st.O [d]) d = none) (hw : WL P B n ⟨(d, .r d) :: st.S, (d, .it s 0) :: st.O⟩ ops Q rest) : WL P B n st ops Q (o :: rest) :=
 WL.op (OpOk.range (ns := [d]) (ws := []) (wn := []) hP hg ho hd h hl (by simp [has_iff]) hfr) hw
def runeI (s : List UInt8) (p : Nat) : Int := ((Utf8.decode ⟨⟨s⟩⟩ p).1 : Int)
def runeW (s : List UInt8) (p : Nat) : Nat := (Utf8.decode ⟨⟨s⟩⟩ p).2
theorem run_next_at {s : ByteArray} {pos b : Nat} (ty : TypeId) (hb : w.heap[b]? = some (.stringIter s pos)) (h : pos < s.size) :
  (Instr.next (.pointer (some ⟨b, 0, none⟩)) true ty).run P w = .ok (.tuple #[.bool true, .int .i64 pos, .int .i32 (Utf8.decode s pos).1]) { w with heap := w.heap.setIfInBounds b (.stringIter s (pos + (Utf8.decode s pos).2)) } := by
 simp only [Instr.next, getObj, setObj, Sem.run_bind, Sem.run, hb, Result.andThen, h, if_true]
 simp [goInt]
theorem run_next_over {s : ByteArray} {pos b : Nat} (ty : TypeId) (hb : w.heap[b]? = some (.stringIter s pos)) (h : ¬ pos < s.size) :
  (Instr.next (.pointer (some ⟨b, 0, none⟩)) true ty).run P w = .ok (.tuple #[.bool false]) w := by
 simp [Instr.next, getObj, Sem.run, hb, h]
def nxOf (G : List (Nat × List D)) (S : List (Nat × SV)) : Op → Option (Nat × List Prop)
 | .next x true =>
  match o1 G S x with
  | some (.r k, l) => some (k, l)
  | _ => none
 | _ => none
theorem WL.next {ops rest : List Oper} {o : Oper} {d k pos : Nat} {s : List UInt8} {l : List Prop} (hg : o.guard = none) (ho : o.dst = some d) (hd : inB n d = true) (h : nxOf B.G (pickL st.S (rd ops o)) o.op = some (k, l)) (hl : vcs l) (hk : get st.O k = some (.it s pos))
  (ht : pos < s.length → WL P B n ⟨(d, .tup [.v (.bool true), .v (.int .i64 pos), .v (.int .i32 (runeI s pos))]) :: st.S, (k, .it s (pos + runeW s pos)) :: st.O⟩ ops Q rest)
  (hf : ¬ pos < s.length → WL P B n ⟨(d, .tup [.v (.bool false)]) :: st.S, st.O⟩ ops Q rest) : WL P B n st ops Q (o :: rest) := by
 unfold nxOf at h
 split at h
 ·rename_i x hop
  split at h
  ·rename_i k' l' h1
   cases h
   by_cases hlt : pos < s.length
   ·refine WL.op (k := ⟨rd ops o, [k], [d], [k]⟩) (d := ⟨[(d, _)], [(k, _)]⟩) ?_ (ht hlt)
    intro st' a ρ w L K hag hs hK
    have hS : ∀ t x, get (pickL st.S (rd ops o)) t = some x → get st'.S t = some x := fun t x ht => by obtain ⟨h1, h2⟩ := zO1 ht; rw [hag.S t h1]; exact h2
    have hk' : get st'.O k = some (.it s pos) := by rw [hag.O k (by simp)]; exact hk
    have e1 := zN1 hs hS h1 hl
    simp only [VRep] at e1
    obtain ⟨b, g1, g2, g3⟩ := hs.obj k _ hk'
    have hrun := run_next_at (P := P) o.type g2 hlt
    have h3 := sat_but hs (o' := .it s (pos + runeW s pos)) hk' rfl (b := b) (by rw [g1]; rfl) (w' := { w with heap := w.heap.setIfInBounds b (.stringIter ⟨⟨s⟩⟩ (pos + runeW s pos)) })
     ⟨rfl, rfl, rfl, by simp, fun c _ hc => by simp only; rw [Array.getElem?_setIfInBounds_ne (fun e => hc e.symm)]⟩
     ⟨b, g1, by simp only; rw [Array.getElem?_setIfInBounds_self_of_lt ((Array.getElem?_eq_some_iff.1 g2).1)], g3⟩
    have h4 := sat_put h3 (d := d) (x := .tup [.v (.bool true), .v (.int .i64 pos), .v (.int .i32 (runeI s pos))]) (v := .tuple #[.bool true, .int .i64 pos, .int .i32 (runeI s pos)]) hd (by simp [VRep, VReps, Rep])
    exact wpO_value hg (by simp only [execOp, hop, e1.2, g1, Sem.run_bind, hrun, Result.andThen_ok, Sem.run_pure]; rfl) (by rw [ho]; exact hK _ _ ⟨_, _, h4⟩)
   ·refine WL.op (k := ⟨rd ops o, [k], [d], []⟩) (d := ⟨[(d, _)], []⟩) ?_ (hf hlt)
    intro st' a ρ w L K hag hs hK
    have hS : ∀ t x, get (pickL st.S (rd ops o)) t = some x → get st'.S t = some x := fun t x ht => by obtain ⟨h1, h2⟩ := zO1 ht; rw [hag.S t h1]; exact h2
    have hk' : get st'.O k = some (.it s pos) := by rw [hag.O k (by simp)]; exact hk
    have e1 := zN1 hs hS h1 hl
    simp only [VRep] at e1
    obtain ⟨b, g1, g2, g3⟩ := hs.obj k _ hk'
    have hrun := run_next_over (P := P) o.type g2 hlt
    have h4 := sat_put hs (d := d) (x := .tup [.v (.bool false)]) (v := .tuple #[.bool false]) hd (by simp [VRep, VReps, Rep])
    exact wpO_value hg (v := .tuple #[.bool false]) (w' := w) (by simp only [execOp, hop, e1.2, g1, Sem.run_bind, hrun, Result.andThen_ok, Sem.run_pure]) (by rw [ho]; exact hK _ _ ⟨_, _, h4⟩)
  ·cases h
 ·cases h
theorem OwnsR.there {e size : Nat} {v : Value} {m : Nat} {xs : List Value} (h : OwnsR w e size v m xs) (hm : 0 < m) :
  ∃ g cap cur fz, v = .slice (some ⟨g, 0, none⟩) m cap ∧ w.heap[g]? = some (.cells cur e fz) ∧ (fz.2 ≤ fz.1 ∨ cur.size ≤ fz.1) ∧ m ≤ cap ∧ cap ≤ maxLen ∧ cur.size = cap * size ∧ cur.toList.take (m * size) = xs := by
 rcases h.2 with ⟨_, h1⟩ | h1
 ·omega
 ·exact h1
def ridxOf (tb : List (Nat × TI)) (G : List (Nat × List D)) (S : List (Nat × SV)) : Op → Option (Nat × Nat × Int × List Prop)
 | .indexAddr T x i =>
  match get tb T, o1 G S x, o1 G S i with
  | some ⟨_, _, _, _, _, some z, _⟩, some (.r k, l), some (.v (.int _ m), l2) => some (k, z, m, l ++ l2)
  | _, _, _ => none
 | _ => none
theorem q_ridx (hP : TblOk P tb) {o : Oper} {sl ns : List Nat} {T' k z : Nat} {es : List (List D)} {m : Int} {l : List Prop} (h : ridxOf tb B.G (pickL st.S sl) o.op = some (k, z, m, l)) (hl : vcs l) (hk : get (pickL st.O ns) k = some (.row T' z es)) (hm : 0 ≤ m ∧ m < (es.length : Int)) : QOk P B n o sl ns st (.re k z m.toNat 0) := by
 intro st' a ρ w L hag hs
 have hS : ∀ t x, get (pickL st.S sl) t = some x → get st'.S t = some x := fun t x ht => by obtain ⟨h1, h2⟩ := zO1 ht; rw [hag.S t h1]; exact h2
 have hO : get st'.O k = some (.row T' z es) := by obtain ⟨h1, h2⟩ := zO1 hk; rw [hag.O k h1]; exact h2
 unfold ridxOf at h
 split at h
 ·rename_i T x i hop
  split at h
  ·rename_i z' so k' l1 ik m' l2 hT h1 h2
   cases h
   obtain ⟨v1, v2⟩ := zR1 hl
   have e1 := zN1 hs hS h1 v1
   have e2 := zN1 hs hS h2 v2
   simp only [VRep, Rep] at e1 e2
   obtain ⟨rows, g1, g2, g3, g4⟩ := hs.obj k _ hO
   have hlen := g1.length
   obtain ⟨g, cap, cur, fz, hv, _⟩ := g3.there (by omega)
   obtain ⟨el, hd, hsz⟩ := el_size (hP.get hT) rfl w
   refine ⟨.pointer (some ⟨g, m.toNat * z, none⟩), ?_, ?_⟩
   ·have hi : 0 ≤ m ∧ m < (rows.length : Int) := ⟨hm.1, by omega⟩
    simp only [execOp, hop, e1.2, hv, e2, Instr.indexAt, asIntOf, Sem.run_bind, Sem.run_pure, hd, Result.andThen_ok, if_pos hi, hsz, Addr.add_lit, Nat.zero_add]
   ·simp only [VRep]
    exact ⟨e1.1, g, _, cap, hv, rfl⟩
  ·cases h
 ·cases h
theorem OwnsR.rowAt {e size : Nat} {v : Value} {g m c : Nat} {rows : List (List Value)} (h : OwnsR w e size v rows.length rows.flatten) (hv : v = .slice (some ⟨g, 0, none⟩) m c) (hl : ∀ r, r ∈ rows → r.length = size) {i : Nat} {r : List Value} (hr : rows[i]? = some r) : CellsAt w r g (i * size) := fun j x hx => by
 have := h.cells (g := g) (by rw [hv]; rfl) (i * size + j) x (nth_flat i r j x hl hr hx)
 rwa [Addr.add_lit, Nat.zero_add] at this
def rldOf (tb : List (Nat × TI)) (G : List (Nat × List D)) (S : List (Nat × SV)) : Op → Option (Nat × Nat × Nat × Nat × Nat × Bool × List Prop)
 | .load T x =>
  match get tb T, o1 G S x with
  | some ⟨size, _, agg, _, _, _, _⟩, some (.re k z i off, l) => some (k, z, i, off, size, agg, l)
  | _, _ => none
 | _ => none
theorem q_rload (hP : TblOk P tb) {o : Oper} {sl ns : List Nat} {T' k z i off size : Nat} {agg : Bool} {es : List (List D)} {cs : List D} {y : D} {l : List Prop} (h : rldOf tb B.G (pickL st.S sl) o.op = some (k, z, i, off, size, agg, l)) (hl : vcs l) (hk : get (pickL st.O ns) k = some (.row T' z es)) (he : es[i]? = some cs) (hc : cellsD cs off size agg = some y) : QOk P B n o sl ns st (.v y) := by
 intro st' a ρ w L hag hs
 have hS : ∀ t x, get (pickL st.S sl) t = some x → get st'.S t = some x := fun t x ht => by obtain ⟨h1, h2⟩ := zO1 ht; rw [hag.S t h1]; exact h2
 have hO : get st'.O k = some (.row T' z es) := by obtain ⟨h1, h2⟩ := zO1 hk; rw [hag.O k h1]; exact h2
 unfold rldOf at h
 split at h
 ·rename_i T x hop
  split at h
  ·rename_i size' zero agg' offs ik' el so k' z' i' off' l' hT h1
   cases h
   have e1 := zN1 hs hS h1 hl
   simp only [VRep] at e1
   obtain ⟨_, b, m, c, e2, e3⟩ := e1
   obtain ⟨rows, g1, g2, g3, g4⟩ := hs.obj k _ hO
   obtain ⟨r, r1, r2⟩ := g1.get he
   obtain ⟨v, hld, hrep⟩ := run_loadD (hP.get hT) r2 (g3.rowAt e2 g2 r1) hc
   refine ⟨v, ?_, by simpa only [VRep] using hrep⟩
   simp only [execOp, hop, e3, Instr.loadAt, Instr.sureAddr, Sem.run_bind, Sem.run_pure, Result.andThen_ok, hld]
  ·cases h
 ·cases h
theorem splice_len {α : Type} : ∀ (vs cs : List α) (off : Nat), (splice cs off vs).length = cs.length
 | [], cs, off => rfl
 | v :: vs, cs, off => by simp only [splice]; rw [splice_len vs]; simp
theorem splice_take {α : Type} : ∀ (vs cs : List α) (off m : Nat), (splice cs off vs).take m = splice (cs.take m) off vs
 | [], cs, off, m => rfl
 | v :: vs, cs, off, m => by simp only [splice]; rw [splice_take vs, List.take_set]
theorem splice_at {α : Type} (vs cs : List α) (off : Nat) (h : off + vs.length ≤ cs.length) : splice cs off vs = cs.take off ++ vs ++ cs.drop (off + vs.length) := by
 induction vs generalizing cs off with
 | nil => simp [splice]
 | cons v vs ih =>
  simp only [List.length_cons] at h
  simp only [splice]
  rw [ih (cs.set off v) (off + 1) (by simp; omega)]
  have hlt : off < cs.length := by omega
  have e1 : (cs.set off v).take (off + 1) = cs.take off ++ [v] := by
   rw [List.take_add_one]
   simp [List.take_set_of_le (Nat.le_refl off), hlt]
  rw [e1, List.drop_set_of_lt (by omega)]
  simp [Nat.add_assoc, Nat.add_comm 1]
theorem flat_set1 {sz : Nat} (v : Value) : ∀ {rows : List (List Value)} (i off : Nat) (r : List Value), (∀ r, r ∈ rows → r.length = sz) → rows[i]? = some r → off < r.length → (rows.set i (r.set off v)).flatten = rows.flatten.set (i * sz + off) v
 | [], i, off, r, hl, h, ho => by simp at h
 | r0 :: rows, 0, off, r, hl, h, ho => by
  simp only [List.getElem?_cons_zero, Option.some.injEq] at h
  subst h
  simp only [List.set_cons_zero, List.flatten_cons, Nat.zero_mul, Nat.zero_add]
  rw [List.set_append_left _ _ ho]
 | r0 :: rows, i + 1, off, r, hl, h, ho => by
  simp only [List.getElem?_cons_succ] at h
  have h0 := hl r0 (by simp)
  simp only [List.set_cons_succ, List.flatten_cons]
  rw [flat_set1 v i off r (fun r hr => hl r (by simp [hr])) h ho, List.set_append_right _ _ (by rw [h0, Nat.succ_mul]; omega), h0]
  congr 2
  rw [Nat.succ_mul]; omega
theorem flat_splice {sz : Nat} : ∀ (vs : List Value) {rows : List (List Value)} (i off : Nat) (r : List Value), (∀ r, r ∈ rows → r.length = sz) → rows[i]? = some r → off + vs.length ≤ r.length → (rows.set i (splice r off vs)).flatten = splice rows.flatten (i * sz + off) vs
 | [], rows, i, off, r, hl, h, ho => by
  simp only [splice]
  congr 1
  apply List.ext_getElem?
  intro j
  by_cases e : i = j
  ·subst e; rw [List.getElem?_set_self (List.getElem?_eq_some_iff.1 h).1, h]
  ·rw [List.getElem?_set_ne e]
 | v :: vs, rows, i, off, r, hl, h, ho => by
  simp only [List.length_cons] at ho
  have hi := (List.getElem?_eq_some_iff.1 h).1
  have hr : r.length = sz := hl r (List.mem_of_getElem? h)
  have := flat_splice vs (rows := rows.set i (r.set off v)) i (off + 1) (r.set off v) (fun r' hr' => by
   rcases List.mem_or_eq_of_mem_set hr' with h1 | rfl
   ·exact hl r' h1
   ·simpa using hr) (by simp [hi]) (by simp; omega)
  simp only [splice]
  rw [List.set_set] at this
  rw [this, flat_set1 v i off r hl h (by omega), Nat.add_assoc]
theorem RepRows.put {X : Nat → Prop} {e : List D} {r : List Value} (hr : Reps w X e r) : ∀ {es : List (List D)} {rows : List (List Value)} (i : Nat), RepRows w X es rows → RepRows w X (es.set i e) (rows.set i r)
 | [], rows, i, h => by simp only [RepRows] at h; subst h; simp [RepRows]
 | e0 :: es, rows, 0, h => by
  simp only [RepRows] at h
  obtain ⟨c, rs, rfl, h1, h2⟩ := h
  exact ⟨r, rs, rfl, hr, h2⟩
 | e0 :: es, rows, i + 1, h => by
  simp only [RepRows] at h
  obtain ⟨c, rs, rfl, h1, h2⟩ := h
  exact ⟨c, rs.set i r, rfl, h1, RepRows.put hr i h2⟩
def rstOf (tb : List (Nat × TI)) (G : List (Nat × List D)) (S : List (Nat × SV)) : Op → Option (Nat × Nat × Nat × Nat × List D × List Prop)
 | .store T x y =>
  match get tb T, o1 G S x, o1 G S y with
  | some ⟨size, _, _, _, _, _, _⟩, some (.re k z i off, l), some (.v d, m) =>
   match cellsOfD d with
   | some vc => match Nat.beq vc.length size, cellDs vc with | true, true => some (k, z, i, off, vc, l ++ m) | _, _ => none
   | none => none
  | _, _, _ => none
 | _ => none
theorem OpOk.rstore (hP : TblOk P tb) {ops : List Oper} {o : Oper} {T' k z i off : Nat} {es es2 : List (List D)} {cs vc : List D} {l : List Prop} {sl ns ws wn : List Nat} (hg : o.guard = none) (ho : o.dst = none)
  (h : rstOf tb B.G (pickL st.S sl) o.op = some (k, z, i, off, vc, l)) (hl : vcs l) (hk : get (pickL st.O ns) k = some (.row T' z es)) (he : es[i]? = some cs) (hlen : Nat.ble (off + vc.length) cs.length = true) (he2 : es.set i (splice cs off vc) = es2) :
  OpOk P B n ops Q o ⟨sl, ns, ws, wn⟩ st ⟨[], [(k, .row T' z es2)]⟩ := by
 subst he2
 intro st' a ρ w L K hag hs hK
 have hS : ∀ t x, get (pickL st.S sl) t = some x → get st'.S t = some x := fun t x ht => by obtain ⟨h1, h2⟩ := zO1 ht; rw [hag.S t h1]; exact h2
 have hO : get st'.O k = some (.row T' z es) := by obtain ⟨h1, h2⟩ := zO1 hk; rw [hag.O k h1]; exact h2
 have hlen := Nat.le_of_ble_eq_true hlen
 unfold rstOf at h
 split at h
 ·rename_i T x y hop
  split at h
  ·rename_i size zero agg offs ik' el so k' z' i' off' l1 d l2 hT h1 h2
   split at h
   ·rename_i vc' hvc
    split at h
    ·rename_i c1 c2
     cases h
     have c1 := Nat.eq_of_beq_eq_true c1
     obtain ⟨v1, v2⟩ := zR1 hl
     have e1 := zN1 hs hS h1 v1
     have e2 := zN1 hs hS h2 v2
     simp only [VRep] at e1 e2
     obtain ⟨_, b, m, c, e3, e4⟩ := e1
     have hcell := cellsOfD_sound hvc e2
     have hclen := hcell.length
     obtain ⟨rows, g1, g2, g3, g4⟩ := hs.obj k _ hO
     obtain ⟨r, r1, r2⟩ := g1.get he
     have hrl := r2.length
     have hrz := g2 r (List.mem_of_getElem? r1)
     have hilt := (List.getElem?_eq_some_iff.1 r1).1
     obtain ⟨g, cap, cur, fz, hv, hheap, hfz, hnc, hcm, hcs, htake⟩ := g3.there (by omega)
     rw [hv] at e3
     cases e3
     have hone : ∀ u, u ∈ (a.eval y).cells.toList → u.oneCell' = true := fun u hu =>
      rep_cells (X := un B.F L) (w := w) (es := [vc]) (rs := [(a.eval y).cells.toList]) ⟨_, _, rfl, hcell, rfl⟩ (fun e he => by simp only [List.mem_singleton] at he; subst he; exact c2) u (by simpa using hu)
     have hfit : i * z + off + (a.eval y).cells.toList.length ≤ rows.length * z := by
      have : (i + 1) * z ≤ rows.length * z := Nat.mul_le_mul_right _ (by omega)
      rw [Nat.succ_mul] at this
      omega
     have hfit2 : rows.length * z ≤ cur.size := by rw [hcs]; exact Nat.mul_le_mul_right _ hnc
     have hrun := run_storeCells_open P b (i * z + off) T' fz (a.eval y).cells.toList 0 cur w hheap hfz (by omega) hone
     rw [Nat.add_zero] at hrun
     rw [← splice_at _ _ _ (by rw [Array.length_toList (xs := cur)]; omega)] at hrun
     have hbut : But w (w.setRow b (splice cur.toList (i * z + off) (a.eval y).cells.toList).toArray) b := ⟨rfl, rfl, rfl, by simp, fun c _ hc => setRow_other w b c _ hc⟩
     have hL := g4 b (by rw [hv]; rfl)
     have hstep : Step L w L (w.setRow b (splice cur.toList (i * z + off) (a.eval y).cells.toList).toArray) := ⟨rfl, rfl, rfl, by simp, fun c h1 h2 => hbut.block c h1 (fun e => h2 (e ▸ hL)), fun _ h => .inl h⟩
     have hs' := sat_but hs (o' := .row T' z (es.set i (splice cs off vc))) hO rfl (by rw [hv]; rfl) hbut (by
      refine ⟨rows.set i (splice r off (a.eval y).cells.toList), RepRows.put (Reps.keep (keep_of_step hstep) _ _ (Reps.splice off r2 hcell)) i (RepRows.keep (keep_of_step hstep) _ _ g1), fun r' hr' => ?_, ?_, g4⟩
      ·rcases List.mem_or_eq_of_mem_set hr' with h1 | rfl
       ·exact g2 r' h1
       ·rw [splice_len]; exact hrz
      ·rw [flat_splice _ i off r g2 r1 (by omega), List.length_set]
       refine ⟨by rw [splice_len]; exact g3.1, .inr ⟨b, _, _, fz, hv, setRow_heap w b cur _ T' fz hheap, ?_, hnc, hcm, ?_, ?_⟩⟩
       ·simpa [splice_len] using hfz
       ·simpa [splice_len] using hcs
       ·simp only
        rw [splice_take, htake])
     refine wpO_skip hg ?_ (by rw [ho]; exact hK _ _ ⟨_, _, by simpa [Act.put, St.add] using hs'⟩)
     rw [Array.length_toList] at hclen
     have hsz : (a.eval y).cells.size = size := by omega
     simp only [execOp, hop, e4, Instr.storeAt, Instr.sureAddr, storeVar, Sem.run_bind, Sem.run_pure, Result.andThen_ok, (hP.get hT).size_run, hsz, ne_eq, not_true, if_false, hrun]
    ·cases h
   ·cases h
  ·cases h
 ·cases h
theorem WL.rstore (hP : TblOk P tb) {ops rest : List Oper} {o : Oper} {T' k z i off : Nat} {es : List (List D)} (es2 : List (List D)) {cs vc : List D} {l : List Prop} (hg : o.guard = none) (ho : o.dst = none)
  (h : rstOf tb B.G (pickL st.S (rd ops o)) o.op = some (k, z, i, off, vc, l)) (hl : vcs l) (hk : get (pickL st.O [k]) k = some (.row T' z es)) (he : es[i]? = some cs) (hlen : Nat.ble (off + vc.length) cs.length = true) (he2 : es.set i (splice cs off vc) = es2)
  (hw : WL P B n ⟨st.S, (k, .row T' z es2) :: st.O⟩ ops Q rest) : WL P B n st ops Q (o :: rest) :=
 WL.op (OpOk.rstore (ws := []) (wn := []) hP hg ho h hl hk he hlen he2) hw
theorem WR.rstore (hP : TblOk P tb) {ops rest : List Oper} {o : Oper} {done : List Key} {T' k z i off : Nat} {es : List (List D)} (es2 : List (List D)) {cs vc : List D} {l : List Prop} (hg : o.guard = none) (ho : o.dst = none)
  (h : rstOf tb B.G (pickL st.S (rd ops o)) o.op = some (k, z, i, off, vc, l)) (hl : vcs l) (hk : get (pickL st.O [k]) k = some (.row T' z es)) (he : es[i]? = some cs) (hlen : Nat.ble (off + vc.length) cs.length = true) (he2 : es.set i (splice cs off vc) = es2)
  (hw : WR P B n ⟨st.S, (k, .row T' z es2) :: st.O⟩ ops Q (done ++ [⟨rd ops o, [k], [], [k]⟩]) rest) : WR P B n st ops Q done (o :: rest) :=
 WR.cons ⟨rfl, fun j hj => by simpa using hj, fun j hj => hj⟩ (OpOk.rstore (ws := []) (wn := [k]) hP hg ho h hl hk he hlen he2) hw
def bsOf (tb : List (Nat × TI)) (G : List (Nat × List D)) (S : List (Nat × SV)) : Op → Option (Nat × Nat × List (List D) × List Prop)
 | .buildSlice T len ⟨parts⟩ =>
  match get tb T with
  | some ⟨_, _, _, _, _, some sz, so⟩ =>
   match get tb (so - 4), rowsOf sz G S 0 parts, Nat.beq len parts.length, Nat.ble (len * sz) 16777216, Nat.ble len 16777216 with
   | some _, some (rows, l), true, true, true => some (so - 4, sz, rows, l)
   | _, _, _, _, _ => none
  | _ => none
 | _ => none
theorem OpOk.buildRow (hP : TblOk P tb) {ops : List Oper} {o : Oper} {d T' z : Nat} {es es2 : List (List D)} {l : List Prop} {sl ns ws wn : List Nat} (hg : o.guard = none) (ho : o.dst = some d) (hd : inB n d = true)
  (h : bsOf tb B.G (pickL st.S sl) o.op = some (T', z, es, l)) (hl : vcs l) (hdn : has d ns = true) (hfr : get (pickL st.O ns) d = none) (he : es = es2) :
  OpOk P B n ops Q o ⟨sl, ns, ws, wn⟩ st ⟨[(d, .r d)], [(d, .row T' z es2)]⟩ := by
 subst he
 intro st' a ρ w L K hag hs hK
 have hS : ∀ t x, get (pickL st.S sl) t = some x → get st'.S t = some x := fun t x ht => by obtain ⟨h1, h2⟩ := zO1 ht; rw [hag.S t h1]; exact h2
 have hfr' : get st'.O d = none := by rw [hag.O d (has_iff.1 hdn)]; exact pickL_none (has_iff.1 hdn) hfr
 unfold bsOf at h
 split at h
 ·rename_i T len parts hop
  split at h
  ·rename_i z0 z1 z2 z3 z4 sz so hT
   split at h
   ·rename_i ti rows l' hE hrows hlen hb hb2
    cases h
    have hlen := Nat.eq_of_beq_eq_true hlen
    have hb := Nat.le_of_ble_eq_true hb
    have hb2 := Nat.le_of_ble_eq_true hb2
    obtain ⟨us, k1, k2, k3, k4⟩ := rowsOf_sound hs hS hrows hl
    have hrun := run_buildSlice (parts := parts.map fun p => (p.1, a.eval p.2)) (cs := us.flatten) hP hT hE hb (by simp [hlen]) (fun rest hr => by
     have := k4 (done := []) (rest := rest) (by simp) (by rw [hr, hlen])
     simpa using this) w
    have hbel := below_push w (.cells us.flatten.toArray (so - 4) (0, 0))
    have hul := k1.length
    have hfl := flat_length k2
    have hsat := sat_new hs (d := d) (v := .slice (some ⟨w.heap.size, 0, none⟩) len len) (o := .row (so - 4) z es) (w' := { w with heap := w.heap.push (.cells us.flatten.toArray (so - 4) (0, 0)) }) hd hfr' hbel
     (fun b hb => by simp only [ob, Option.some.injEq] at hb; subst hb; simp) (x := .r d) (by simp only [VRep]; exact ⟨nmO_self, upd_self.symm⟩)
     (fun X _ hkp => by
      have hul2 : us.length = len := by omega
      refine ⟨us, RepRows.keep hkp _ _ k1, k2, ⟨hfl, .inr ⟨w.heap.size, len, us.flatten.toArray, (0, 0), by rw [hul2], by simp, .inl (Nat.le_refl _), by omega, by simp only [maxLen]; omega, by simp only [List.size_toArray]; rw [hfl, hul2], ?_⟩⟩, fun b hb => .inr hb⟩
      rw [← hfl]
      exact List.take_length)
    refine wpO_value hg (v := .slice (some ⟨w.heap.size, 0, none⟩) len len) (w' := { w with heap := w.heap.push (.cells us.flatten.toArray (so - 4) (0, 0)) }) ?_ (by rw [ho]; exact hK _ _ ⟨_, _, hsat⟩)
    simp only [execOp, hop, List.map_toArray, hrun, Sem.run_bind, Result.andThen_ok, Sem.run_pure]
   ·cases h
  ·cases h
 ·cases h
theorem WL.buildRow (hP : TblOk P tb) {ops rest : List Oper} {o : Oper} {d T' z : Nat} {es : List (List D)} (es2 : List (List D)) {l : List Prop} (hg : o.guard = none) (ho : o.dst = some d) (hd : inB n d = true)
  (h : bsOf tb B.G (pickL st.S (rd ops o)) o.op = some (T', z, es, l)) (hl : vcs l) (hfr : get (pickL st.O [d]) d = none) (he : es = es2) (hw : WL P B n ⟨(d, .r d) :: st.S, (d, .row T' z es2) :: st.O⟩ ops Q rest) : WL P B n st ops Q (o :: rest) :=
 WL.op (OpOk.buildRow (ns := [d]) (ws := []) (wn := []) hP hg ho hd h hl (by simp [has_iff]) hfr he) hw
theorem WR.buildRow (hP : TblOk P tb) {ops rest : List Oper} {o : Oper} {done : List Key} {d T' z : Nat} {es : List (List D)} (es2 : List (List D)) {l : List Prop} (hg : o.guard = none) (ho : o.dst = some d) (hd : inB n d = true)
  (h : bsOf tb B.G (pickL st.S (rd ops o)) o.op = some (T', z, es, l)) (hl : vcs l) (hfr : get (pickL st.O [d]) d = none) (he : es = es2) (hw : WR P B n ⟨(d, .r d) :: st.S, (d, .row T' z es2) :: st.O⟩ ops Q (done ++ [⟨rd ops o, [d], [d], [d]⟩]) rest) : WR P B n st ops Q done (o :: rest) :=
 WR.cons ⟨rfl, fun j hj => by simpa using hj, fun j hj => hj⟩ (OpOk.buildRow (ns := [d]) (ws := [d]) (wn := [d]) hP hg ho hd h hl (by simp [has_iff]) hfr he) hw
def nlOf (G : List (Nat × List D)) (S : List (Nat × SV)) : Op → Option (Nat × D × List Prop)
  | .call ⟨.builtin .cap, ⟨[x]⟩, ⟨[T]⟩⟩ =>
    match o1 G S x with
    | some (.v (.raw (.slice none 0 0)), l) => some (T, .int .i64 0, l)
    | _ => none
  | .slice T x none (some y) none =>
    match o1 G S x, o1 G S y with
    | some (.v (.raw (.slice none 0 0)), l), some (.v (.int _ 0), m) => some (T, .raw (.slice none 0 0), l ++ m)
    | _, _ => none
  | _ => none
theorem ApOk.isSome {T e sz : Nat} (hT : ApOk P T e sz) : ∃ i, P.info? e = some i ∧ i.size = sz ∧ i.bytes ≤ 1024 := by
 have h := hT.info
 cases hi : P.info? e with
 | none => rw [hi] at h; cases h
 | some i => rw [hi] at h; simp at h; exact ⟨i, rfl, h.1, h.2.2⟩
theorem q_nil {o : Oper} {sl ns : List Nat} {T e sz : Nat} {d : D} {l : List Prop} (hT : ApOk P T e sz) (h : nlOf B.G (pickL st.S sl) o.op = some (T, d, l)) (hl : vcs l) : QOk P B n o sl ns st (.v d) := by
 intro st' a ρ w L hag hs
 have hS : ∀ t x, get (pickL st.S sl) t = some x → get st'.S t = some x := fun t x ht => by obtain ⟨h1, h2⟩ := zO1 ht; rw [hag.S t h1]; exact h2
 unfold nlOf at h
 split at h
 ·rename_i x T1 hop
  split at h
  ·rename_i l1 h1
   cases h
   have e1 := zN1 hs hS h1 hl
   simp only [VRep, Rep] at e1
   refine ⟨.int .i64 0, ?_, by simp only [VRep, Rep]⟩
   unfold execOp
   rw [hop]
   simp [resolve, invoke, builtin, e1, Builtin.cap_, run_underlying hT.under, goInt]
  ·cases h
 ·rename_i T1 x y hop
  split at h
  ·rename_i l1 k l2 h1 h2
   cases h
   obtain ⟨v1, v2⟩ := zR1 hl
   have e1 := zN1 hs hS h1 v1
   have e2 := zN1 hs hS h2 v2
   simp only [VRep, Rep] at e1 e2
   obtain ⟨i, hi, _⟩ := hT.isSome
   refine ⟨.slice none 0 0, ?_, by simp only [VRep, Rep]⟩
   simp [execOp, hop, e1, e2, Instr.sliceAt, Instr.slice, Instr.sliceBounds, Instr.sliceBound, asIntOf, run_underlying hT.under, sizeOf, typeInfo, hi]
  ·cases h
 ·cases h
def grOf (tb : List (Nat × TI)) (G : List (Nat × List D)) (S : List (Nat × SV)) : Op → Option (Nat × Int × List Prop)
 | .call ⟨.builtin .append, ⟨[x, y]⟩, ⟨[T, T']⟩⟩ =>
  match get tb T', o1 G S x, o1 G S y with
  | some ⟨_, _, _, _, some _, _, _⟩, some (.v (.raw (.slice none 0 0)), l), some (.v (.int .i64 m), l2) => some (T, m, l ++ l2)
  | _, _, _ => none
 | _ => none
theorem run_append_zeros {T T' ty e : Nat} {i : TypeInfo} {z : Value} {k : IntKind} (ht : P.underlying T = some (.slice e)) (hu : P.underlying T' = some (.int k)) (hi : P.info? e = some i) (hz : i.zero = some z) (hs : z.cells.size = i.size) (h0 : 0 < i.size) (m : Nat) (hm : 0 < m) (hb : m ≤ 137438953472) (hby : i.bytes ≤ 1024) :
  (Builtin.append_ #[T, T'] ty #[.slice none 0 0, .int .i64 m]).run P w =
   .ok (.slice (some ⟨w.heap.size, 0, none⟩) m (grownCap w m 0 e)) (w.drew.alloc (.cells (Builtin.zeroCells z.cells m ++ Builtin.zeroCells z.cells (grownCap w m 0 e - m)) e)) := by
 have hw : IntKind.i64.wrap (m : Int) = (m : Int) := IntWalk.i64_in _ (by omega)
 have hnc : Builtin.nextslicecap m 0 = m := by unfold Builtin.nextslicecap; rw [if_pos (by omega)]
 have hby2 : m * i.bytes ≤ 140737488355328 := Nat.le_trans (Nat.mul_le_mul hb hby) (by omega)
 have h48 : ¬ (281474976710656 < m * i.bytes) := by omega
 have h48i : ¬ ((281474976710656 : Int) < (m : Int) * (i.bytes : Int)) := by
  have h1 : ((m * i.bytes : Nat) : Int) ≤ 140737488355328 := Int.ofNat_le.2 hby2
  rw [Int.natCast_mul] at h1
  omega
 have hmz : ¬ (m * i.size = 0) := by
  intro h
  rcases Nat.mul_eq_zero.1 h with h | h <;> omega
 have hmm : ¬ ((9223372036854775807 : Int) < (m : Int)) := by omega
 simp [Builtin.append_, run_underlying ht, run_underlying hu, sizeOf, typeInfo, zeroValue, hi, hz, asInt, asIntOf, hw, hnc, h48, h48i, hmz, hmm, Question.forced, newRow, grownCap, Builtin.firstCells]
 rw [if_neg (by omega), if_neg (by omega)]
theorem flat_take {sz : Nat} : ∀ {rows : List (List Value)} (j : Nat), (∀ r, r ∈ rows → r.length = sz) → (rows.take j).flatten = rows.flatten.take (j * sz)
 | [], j, h => by simp
 | r :: rows, 0, h => by simp
 | r :: rows, j + 1, h => by
  have h0 := h r (by simp)
  rw [List.take_succ_cons, List.flatten_cons, List.flatten_cons, flat_take j (fun r hr => h r (by simp [hr])), Nat.succ_mul, List.take_append]
  have e1 : r.take (j * sz + sz) = r := List.take_of_length_le (by omega)
  rw [e1, h0, Nat.add_sub_cancel]
theorem zeroCells_rows (zs : List Value) (hz : 0 < zs.length) : ∀ m : Nat, (Builtin.zeroCells zs.toArray m).toList = (List.replicate m zs).flatten := by
 intro m
 apply List.ext_getElem?
 intro j
 have hfl := flat_length (sz := zs.length) (rows := List.replicate m zs) (fun r hr => by rw [(List.mem_replicate.1 hr).2])
 simp only [List.length_replicate] at hfl
 by_cases hj : j < m * zs.length
 ·have hdiv : j / zs.length < m := Nat.div_lt_of_lt_mul (by rw [Nat.mul_comm]; exact hj)
  have hmod : j % zs.length < zs.length := Nat.mod_lt _ hz
  have := nth_flat (sz := zs.length) (rows := List.replicate m zs) (j / zs.length) zs (j % zs.length) zs[j % zs.length] (fun r hr => by rw [(List.mem_replicate.1 hr).2]) (by simp [hdiv]) (by simp [hmod])
  rw [Nat.div_add_mod' j zs.length] at this
  rw [this]
  simp [Builtin.zeroCells, hj, hmod]
 ·rw [List.getElem?_eq_none (by simp [Builtin.zeroCells]; omega), List.getElem?_eq_none (by omega)]
theorem reps_raw {X : Nat → Prop} : ∀ (zs : List Value), Reps w X (zs.map D.raw) zs
 | [] => by simp [Reps]
 | z :: zs => by simp only [List.map_cons, Reps]; exact ⟨z, zs, rfl, by simp [Rep], reps_raw zs⟩
theorem reprows_rep {X : Nat → Prop} (zs : List Value) : ∀ m : Nat, RepRows w X (List.replicate m (zs.map D.raw)) (List.replicate m zs)
 | 0 => by simp [RepRows]
 | m + 1 => by simp only [List.replicate_succ, RepRows]; exact ⟨zs, _, rfl, reps_raw zs, reprows_rep zs m⟩
theorem below_alloc (w : World) (o : Obj) : Below w.heap.size w (w.drew.alloc o) :=
 { os := rfl, tape := rfl, output := rfl, size := by show _ ≤ (w.heap.push _).size; simp, block := fun b hb => Go.heap_alloc_old w.drew _ hb }
theorem OpOk.growRow (hP : TblOk P tb) {ops : List Oper} {o : Oper} {d T e sz : Nat} {m : Int} {ti : TI} {l : List Prop} {sl ns ws wn : List Nat} (hT : ApOk P T e sz) (hE : get tb e = some ti) (hg : o.guard = none) (ho : o.dst = some d) (hd : inB n d = true)
  (h : grOf tb B.G (pickL st.S sl) o.op = some (T, m, l)) (hl : vcs l) (hm : 0 < m ∧ m ≤ 137438953472) (hdn : has d ns = true) (hfr : get (pickL st.O ns) d = none) :
  OpOk P B n ops Q o ⟨sl, ns, ws, wn⟩ st ⟨[(d, .r d)], [(d, .row e sz (List.replicate m.toNat (ti.zero.cells.toList.map D.raw)))]⟩ := by
 intro st' a ρ w L K hag hs hK
 have hS : ∀ t x, get (pickL st.S sl) t = some x → get st'.S t = some x := fun t x ht => by obtain ⟨h1, h2⟩ := zO1 ht; rw [hag.S t h1]; exact h2
 have hfr' : get st'.O d = none := by rw [hag.O d (has_iff.1 hdn)]; exact pickL_none (has_iff.1 hdn) hfr
 unfold grOf at h
 split at h
 ·rename_i x y T1 T2 hop
  split at h
  ·rename_i ik el so l1 m' l2 hT2 h1 h2
   cases h
   obtain ⟨v1, v2⟩ := zR1 hl
   have e1 := zN1 hs hS h1 v1
   have e2 := zN1 hs hS h2 v2
   simp only [VRep, Rep] at e1 e2
   obtain ⟨dd, hu, _, _, hik, _⟩ := (hP.get hT2).under
   have hu2 : ∃ k, P.underlying T2 = some (.int k) := by
    rw [hu]
    cases dd <;> simp [ikD] at hik ⊢
   obtain ⟨k2, hu2⟩ := hu2
   have hinf := hT.info
   have hti := (hP.get hE).info
   cases hi : P.info? e with
   | none => rw [hi] at hinf; cases hinf
   | some i =>
    rw [hi] at hinf hti
    simp only [Option.map_some, Option.some.injEq, Prod.mk.injEq] at hinf hti
    obtain ⟨i1, i2, i3⟩ := hinf
    have i3 := Nat.le_of_ble_eq_true i3
    have hz : i.zero = some ti.zero := hti.2
    rw [hz] at i2
    simp only [Option.map_some, Option.some.injEq] at i2
    obtain ⟨m1, rfl⟩ : ∃ m1 : Nat, m = (m1 : Int) := ⟨m.toNat, by omega⟩
    have hrun := run_append_zeros (w := w) (ty := o.type) hT.under hu2 hi hz (by omega) (by have := hT.pos; omega) m1 (by omega) (by omega) i3
    have hzl : ti.zero.cells.toList.length = sz := by rw [Array.length_toList]; exact i2
    have hpos := hT.pos
    have hzc := zeroCells_rows ti.zero.cells.toList (by omega)
    simp only [Array.toArray_toList] at hzc
    have hge := grownCap_ge w m1 0 e
    have hcm : grownCap w m1 0 e ≤ maxLen := grownCap_le_maxLen w m1 0 e (by simp only [maxLen]; omega)
    have hsat := sat_new hs (d := d) (v := .slice (some ⟨w.heap.size, 0, none⟩) m1 (grownCap w m1 0 e)) (o := .row e sz (List.replicate m1 (ti.zero.cells.toList.map D.raw))) (w' := w.drew.alloc (.cells (Builtin.zeroCells ti.zero.cells m1 ++ Builtin.zeroCells ti.zero.cells (grownCap w m1 0 e - m1)) e)) hd hfr' (below_alloc w _)
     (fun b hb => by simp only [ob, Option.some.injEq] at hb; subst hb; exact ⟨Nat.le_refl _, by show _ < (w.heap.push _).size; simp⟩) (x := .r d) (by simp only [VRep]; exact ⟨nmO_self, upd_self.symm⟩)
     (fun X _ hkp => by
      have hfl := flat_length (sz := sz) (rows := List.replicate m1 ti.zero.cells.toList) (fun r hr => by rw [(List.mem_replicate.1 hr).2]; exact hzl)
      refine ⟨List.replicate m1 ti.zero.cells.toList, reprows_rep _ _, fun r hr => by rw [(List.mem_replicate.1 hr).2]; exact hzl, ⟨hfl, .inr ⟨w.heap.size, _, _, (0, 0), by rw [List.length_replicate], Go.heap_alloc_new w.drew _, .inl (Nat.le_refl _), by rw [List.length_replicate]; exact hge, hcm, ?_, ?_⟩⟩, fun b hb => .inr hb⟩
      ·simp only [Array.size_append, size_zeroCells, i2, ← Nat.add_mul]
       congr 1
       omega
      ·rw [Array.toList_append, hzc, ← hfl]
       exact List.take_left)
    refine wpO_value hg (v := .slice (some ⟨w.heap.size, 0, none⟩) m1 (grownCap w m1 0 e)) (w' := w.drew.alloc (.cells (Builtin.zeroCells ti.zero.cells m1 ++ Builtin.zeroCells ti.zero.cells (grownCap w m1 0 e - m1)) e)) ?_ (by rw [ho]; exact hK _ _ ⟨_, _, hsat⟩)
    unfold execOp
    rw [hop]
    simp only [resolve, invoke, builtin, Sem.run_bind, Sem.run_pure, Result.andThen_ok, List.map_toArray, List.map_cons, List.map_nil, e1, e2, hrun]
  ·cases h
 ·cases h
theorem WL.growRow (hP : TblOk P tb) {ops rest : List Oper} {o : Oper} {d T e sz : Nat} {m : Int} {ti : TI} {l : List Prop} (es : List (List D)) (hT : ApOk P T e sz) (hE : get tb e = some ti) (hg : o.guard = none) (ho : o.dst = some d) (hd : inB n d = true)
  (h : grOf tb B.G (pickL st.S (rd ops o)) o.op = some (T, m, l)) (hl : vcs l) (hm : 0 < m ∧ m ≤ 137438953472) (hfr : get (pickL st.O [d]) d = none) (he : es = List.replicate m.toNat (ti.zero.cells.toList.map D.raw))
  (hw : WL P B n ⟨(d, .r d) :: st.S, (d, .row e sz es) :: st.O⟩ ops Q rest) : WL P B n st ops Q (o :: rest) := by
 subst he
 exact WL.op (OpOk.growRow (ns := [d]) (ws := []) (wn := []) hP hT hE hg ho hd h hl hm (by simp [has_iff]) hfr) hw
theorem sat_cut (hs : Sat B n st ρ a w L) {k d T' z : Nat} {es es' : List (List D)} {v' : Value} (hd : inB n d = true) (hk : get st.O k = some (.row T' z es)) (hfr : get st.O d = none) (hob : ∀ b, ob v' = some b → ob (ρ k) = some b)
    (ho : ObOk (nmO st.O) ρ w (un B.F L) L v' (.row T' z es')) : Sat B n ⟨(d, .r d) :: st.S, (d, .row T' z es') :: (k, .dead) :: st.O⟩ (upd ρ d v') (a.put (some d) v') w L := by
  have hd' : d < n := by simpa [inB] using hd
  have hkd : k ≠ d := fun e => by subst e; rw [hk] at hfr; cases hfr
  have hN : ∀ j, nmO st.O j → nmO ((d, Ob.row T' z es') :: (k, .dead) :: st.O) j ∧ upd ρ d v' j = ρ j := fun j h => ⟨nmO_cons (nmO_cons h), upd_ne (nmO_ne h hfr)⟩
  have old : ∀ {j o}, j ≠ d → get ((d, Ob.row T' z es') :: (k, .dead) :: st.O) j = some o → o.live = true → get st.O j = some o ∧ j ≠ k := fun {j o} hjd h hl => by
    rw [zI1 _ _ (fun e => hjd e.symm)] at h
    by_cases e : k = j
    · subst e; rw [zJ1] at h; cases h; cases hl
    · rw [zI1 _ _ e] at h; exact ⟨h, fun e' => e e'.symm⟩
  refine hs.go (Step.refl _ _) (fun b hb => hs.low b (.inr hb)) hN (by simp [Act.put, hs.size]) hs.defers (fun t y hy => ?_) (fun j o hj => ?_) (fun j o j' o' hj hj' hne l1 l2 b hb1 hb2 => ?_)
  · simp only [Act.put]
    by_cases hdt : d = t
    · subst hdt; rw [zJ1] at hy; cases hy
      exact ⟨v', by simp [hs.size, hd'], by simp only [VRep]; exact ⟨nmO_self, upd_self.symm⟩⟩
    · rw [zI1 _ _ hdt] at hy
      obtain ⟨x, g1, g2⟩ := hs.slot t y hy
      exact ⟨x, by rw [Array.getElem?_setIfInBounds_ne hdt]; exact g1, VRep.keep hN (Keep.refl _ _) y x g2⟩
  · by_cases e : d = j
    · subst e; rw [zJ1] at hj; cases hj
      rw [upd_self]
      exact ho.keep hN (Keep.refl _ _) (fun _ b _ => ⟨rfl, id⟩)
    · rw [zI1 _ _ e] at hj
      rw [upd_ne (fun e' => e e'.symm)]
      by_cases e2 : k = j
      · subst e2; rw [zJ1] at hj; cases hj
        exact hs.cellN k (by simp [nmO, hk])
      · rw [zI1 _ _ e2] at hj
        exact (hs.obj j o hj).keep hN (Keep.refl _ _) (fun _ b _ => ⟨rfl, id⟩)
  · by_cases e1 : j = d
    · subst e1
      have e2 : j' ≠ j := fun e => hne e.symm
      rw [upd_self] at hb1; rw [upd_ne e2] at hb2
      obtain ⟨h1, h2⟩ := old e2 hj' l2
      exact hs.inj k _ j' o' hk h1 (fun e => h2 e.symm) rfl l2 b (hob b hb1) hb2
    · by_cases e2 : j' = d
      · subst e2
        rw [upd_self] at hb2; rw [upd_ne e1] at hb1
        obtain ⟨h1, h2⟩ := old e1 hj l1
        exact hs.inj k _ j o hk h1 (fun e => h2 e.symm) rfl l1 b (hob b hb2) hb1
      · rw [upd_ne e1] at hb1; rw [upd_ne e2] at hb2
        exact hs.inj j o j' o' (old e1 hj l1).1 (old e2 hj' l2).1 hne l1 l2 b hb1 hb2
def ctOf (tb : List (Nat × TI)) (G : List (Nat × List D)) (S : List (Nat × SV)) : Op → Option (Nat × Nat × Int × List Prop)
 | .slice T x none (some y) none =>
  match get tb T, o1 G S x, o1 G S y with
  | some ⟨_, _, _, _, _, some z, _⟩, some (.r k, l), some (.v (.int _ j), m) => some (k, z, j, l ++ m)
  | _, _, _ => none
 | _ => none
theorem OpOk.rcut (hP : TblOk P tb) {ops : List Oper} {o : Oper} {d k T' z : Nat} {j : Int} {es es2 : List (List D)} {l : List Prop} {sl ns ws wn : List Nat} (hg : o.guard = none) (ho : o.dst = some d) (hd : inB n d = true)
  (h : ctOf tb B.G (pickL st.S sl) o.op = some (k, z, j, l)) (hl : vcs l) (hk : get (pickL st.O ns) k = some (.row T' z es)) (hj : 0 ≤ j ∧ j ≤ (es.length : Int)) (hdn : has d ns = true) (hfr : get (pickL st.O ns) d = none) (he : es.take j.toNat = es2) :
  OpOk P B n ops Q o ⟨sl, ns, ws, wn⟩ st ⟨[(d, .r d)], [(d, .row T' z es2), (k, .dead)]⟩ := by
 subst he
 intro st' a ρ w L K hag hs hK
 have hS : ∀ t x, get (pickL st.S sl) t = some x → get st'.S t = some x := fun t x ht => by obtain ⟨h1, h2⟩ := zO1 ht; rw [hag.S t h1]; exact h2
 have hO : get st'.O k = some (.row T' z es) := by obtain ⟨h1, h2⟩ := zO1 hk; rw [hag.O k h1]; exact h2
 have hfr' : get st'.O d = none := by rw [hag.O d (has_iff.1 hdn)]; exact pickL_none (has_iff.1 hdn) hfr
 unfold ctOf at h
 split at h
 ·rename_i T x y hop
  split at h
  ·rename_i z' so k' l1 ik j' l2 hT h1 h2
   cases h
   obtain ⟨v1, v2⟩ := zR1 hl
   have e1 := zN1 hs hS h1 v1
   have e2 := zN1 hs hS h2 v2
   simp only [VRep, Rep] at e1 e2
   obtain ⟨j1, rfl⟩ : ∃ j1 : Nat, j = (j1 : Int) := ⟨j.toNat, by omega⟩
   obtain ⟨rows, g1, g2, g3, g4⟩ := hs.obj k _ hO
   have hlen := g1.length
   obtain ⟨el, hdd, hsz⟩ := el_size (hP.get hT) rfl w
   have hrr : RepRows w (un B.F L) (es.take j1) (rows.take j1) := by
    have : ∀ {es : List (List D)} {rows : List (List Value)} (m : Nat), RepRows w (un B.F L) es rows → RepRows w (un B.F L) (es.take m) (rows.take m) := by
     intro es
     induction es with
     | nil => intro rows m h; simp only [RepRows] at h; subst h; simp [RepRows]
     | cons e es ih =>
      intro rows m h
      simp only [RepRows] at h
      obtain ⟨c, r, rfl, h1, h2⟩ := h
      cases m with
      | zero => simp [RepRows]
      | succ m => simp only [List.take_succ_cons, RepRows]; exact ⟨c, _, rfl, h1, ih m h2⟩
    exact this j1 g1
   have hlt : (rows.take j1).length = j1 := by rw [List.length_take]; omega
   rcases g3.2 with ⟨hv, hn0⟩ | ⟨g, cap, cur, fz, hv, hheap, hfz, hnc, hcm, hcs, htake⟩
   ·have hj0 : j1 = 0 := by omega
    subst hj0
    have hs' := sat_cut hs (v' := .slice none 0 0) (es' := es.take 0) hd hO hfr' (fun b hb => by simp [ob] at hb) ⟨[], by simp [RepRows], (fun r h => by cases h), OwnsR.nil w T' z, fun b hb => by simp [ob] at hb⟩
    refine wpO_value hg (v := .slice none 0 0) (w' := w) ?_ (by rw [ho]; exact hK _ _ ⟨_, _, hs'⟩)
    simp [execOp, hop, e1.2, hv, e2, Instr.sliceAt, Instr.slice, Instr.sliceBounds, Instr.sliceBound, asIntOf, hdd, hsz]
   ·have hs' := sat_cut hs (v' := .slice (some ⟨g, 0, none⟩) j1 cap) (es' := es.take j1) hd hO hfr' (fun b hb => by rw [hv]; exact hb) ⟨rows.take j1, hrr, fun r hr => g2 r (List.mem_of_mem_take hr), by
     rw [hlt]
     refine ⟨?_, .inr ⟨g, cap, cur, fz, rfl, hheap, hfz, by omega, hcm, hcs, ?_⟩⟩
     ·rw [flat_length (fun r hr => g2 r (List.mem_of_mem_take hr)), hlt]
     ·rw [flat_take j1 g2, ← htake, List.take_take, Nat.min_eq_left (Nat.mul_le_mul_right _ (by omega))], fun b hb => g4 b (by rw [hv]; exact hb)⟩
    refine wpO_value hg (v := .slice (some ⟨g, 0, none⟩) j1 cap) (w' := w) ?_ (by rw [ho]; exact hK _ _ ⟨_, _, hs'⟩)
    have hb1 : (0 : Int) ≤ (j1 : Int) ∧ (j1 : Int) ≤ (cap : Int) := by omega
    simp [execOp, hop, e1.2, hv, e2, Instr.sliceAt, Instr.slice, Instr.sliceBounds, Instr.sliceBound, asIntOf, hdd, hsz, hb1, Addr.add_lit]
    intro h; omega
  ·cases h
 ·cases h
theorem WL.rcut (hP : TblOk P tb) {ops rest : List Oper} {o : Oper} {d k T' z : Nat} {j : Int} {es : List (List D)} (es2 : List (List D)) {l : List Prop} (hg : o.guard = none) (ho : o.dst = some d) (hd : inB n d = true)
  (h : ctOf tb B.G (pickL st.S (rd ops o)) o.op = some (k, z, j, l)) (hl : vcs l) (hk : get (pickL st.O [d, k]) k = some (.row T' z es)) (hj : 0 ≤ j ∧ j ≤ (es.length : Int)) (hfr : get (pickL st.O [d, k]) d = none) (he : es.take j.toNat = es2)
  (hw : WL P B n ⟨(d, .r d) :: st.S, (d, .row T' z es2) :: (k, .dead) :: st.O⟩ ops Q rest) : WL P B n st ops Q (o :: rest) :=
 WL.op (OpOk.rcut (ns := [d, k]) (ws := []) (wn := []) hP hg ho hd h hl hk hj (by simp [has_iff]) hfr he) hw
end Go.V
namespace Go.V
open Go.RowKit
variable {P : Program} {n : Nat} {B : Base} {st : St} {tb : List (Nat × TI)} {Q : Exit → Act → World → Prop} {ρ : Nat → Value} {a : Act} {w : World} {L : Nat → Prop}
def sbOf (tb : List (Nat × TI)) (G : List (Nat × List D)) (S : List (Nat × SV)) : Op → Option (Nat × List UInt8 × List Prop)
 | .convert src dst x =>
  match get tb src, o1 G S x with
  | some ⟨_, _, _, _, _, _, 2⟩, some (.v (.str s), l) => some (dst, s, l)
  | _, _ => none
 | _ => none
theorem rows_bytes {X : Nat → Prop} : ∀ s : List UInt8, RepRows w X (s.map fun b => [D.int .u8 (b.toNat : Int)]) (s.map fun b => [Value.int .u8 (b.toNat : Int)])
 | [] => by simp [RepRows]
 | b :: s => by simp only [List.map_cons, RepRows]; exact ⟨_, _, rfl, by simp [Reps, Rep], rows_bytes s⟩
theorem flat_bytes : ∀ s : List UInt8, (s.map fun b => [Value.int .u8 (b.toNat : Int)]).flatten = s.map fun b => Value.int .u8 (b.toNat : Int)
 | [] => rfl
 | b :: s => by simp only [List.map_cons, List.flatten_cons, flat_bytes s]; rfl
theorem OpOk.bytes (hP : TblOk P tb) {ops : List Oper} {o : Oper} {d T e : Nat} {s : List UInt8} {es2 : List (List D)} {l : List Prop} {sl ns ws wn : List Nat} (hT : ApOk P T e 1) (hu8 : P.underlying e = some (.int .u8)) (hg : o.guard = none) (ho : o.dst = some d) (hd : inB n d = true)
  (h : sbOf tb B.G (pickL st.S sl) o.op = some (T, s, l)) (hl : vcs l) (hs9 : s.length ≤ 9223372036854775807) (hdn : has d ns = true) (hfr : get (pickL st.O ns) d = none) (he : (s.map fun b => [D.int .u8 (b.toNat : Int)]) = es2) :
  OpOk P B n ops Q o ⟨sl, ns, ws, wn⟩ st ⟨[(d, .r d)], [(d, .row e 1 es2)]⟩ := by
 subst he
 intro st' a ρ w L K hag hs hK
 have hS : ∀ t x, get (pickL st.S sl) t = some x → get st'.S t = some x := fun t x ht => by obtain ⟨h1, h2⟩ := zO1 ht; rw [hag.S t h1]; exact h2
 have hfr' : get st'.O d = none := by rw [hag.O d (has_iff.1 hdn)]; exact pickL_none (has_iff.1 hdn) hfr
 unfold sbOf at h
 split at h
 ·rename_i src dst x hop
  split at h
  ·rename_i hT2 h1
   cases h
   have e1 := zN1 hs hS h1 hl
   simp only [VRep, Rep] at e1
   have hu := under_string (hP.get hT2) rfl
   have hrun := run_bytes_of_string w src T e ⟨⟨s⟩⟩ hu hT.under hu8
   have hsz : (⟨⟨s⟩⟩ : ByteArray).size = s.length := rfl
   rw [hsz] at hrun
   generalize hcap : grownCap w s.length 0 e = cap at hrun
   have hge : s.length ≤ cap := by rw [← hcap]; exact grownCap_ge w s.length 0 e
   have hcm : cap ≤ maxLen := by rw [← hcap]; exact grownCap_le_maxLen w s.length 0 e (by simp only [maxLen]; omega)
   have hbs : (bytesRow ⟨⟨s⟩⟩ cap).size = cap := by simp only [bytesRow, Array.size_append, Array.size_map, Array.size_replicate, hsz]; show s.length + (cap - s.length) = cap; omega
   have hbt : (bytesRow ⟨⟨s⟩⟩ cap).toList.take s.length = s.map fun b => Value.int .u8 (b.toNat : Int) := by
    simp only [bytesRow, Array.toList_append, Array.toList_map]
    rw [List.take_append_of_le_length (by simp)]
    rw [List.take_of_length_le (by simp)]
   have hsat := sat_new hs (d := d) (v := .slice (some ⟨w.heap.size, 0, none⟩) s.length cap) (o := .row e 1 (s.map fun b => [D.int .u8 (b.toNat : Int)])) (w' := w.drew.alloc (.cells (bytesRow ⟨⟨s⟩⟩ cap) e ((bytesRow ⟨⟨s⟩⟩ cap).size, (bytesRow ⟨⟨s⟩⟩ cap).size + 1))) hd hfr' (below_alloc w _)
    (fun b hb => by simp only [ob, Option.some.injEq] at hb; subst hb; exact ⟨Nat.le_refl _, by show _ < (w.heap.push _).size; simp⟩) (x := .r d) (by simp only [VRep]; exact ⟨nmO_self, upd_self.symm⟩)
    (fun X _ hkp => by
     refine ⟨s.map fun b => [Value.int .u8 (b.toNat : Int)], rows_bytes s, fun r hr => by obtain ⟨b, _, rfl⟩ := List.mem_map.1 hr; rfl, ⟨by rw [flat_bytes]; simp, .inr ⟨w.heap.size, cap, _, _, by rw [List.length_map], Go.heap_alloc_new w.drew _, .inr (Nat.le_refl _), by rw [List.length_map]; exact hge, hcm, by rw [hbs]; simp, by rw [List.length_map, Nat.mul_one, hbt, flat_bytes]⟩⟩, fun b hb => .inr hb⟩)
   refine wpO_value hg (v := .slice (some ⟨w.heap.size, 0, none⟩) s.length cap) (w' := w.drew.alloc (.cells (bytesRow ⟨⟨s⟩⟩ cap) e ((bytesRow ⟨⟨s⟩⟩ cap).size, (bytesRow ⟨⟨s⟩⟩ cap).size + 1))) ?_ (by rw [ho]; exact hK _ _ ⟨_, _, hsat⟩)
   simp only [execOp, hop, e1, Sem.run_bind, hrun, Result.andThen_ok, Sem.run_pure]
  ·cases h
 ·cases h
theorem WL.bytes (hP : TblOk P tb) {ops rest : List Oper} {o : Oper} {d T e : Nat} {s : List UInt8} (es2 : List (List D)) {l : List Prop} (hT : ApOk P T e 1) (hu8 : P.underlying e = some (.int .u8)) (hg : o.guard = none) (ho : o.dst = some d) (hd : inB n d = true)
  (h : sbOf tb B.G (pickL st.S (rd ops o)) o.op = some (T, s, l)) (hl : vcs l) (hs9 : s.length ≤ 9223372036854775807) (hfr : get (pickL st.O [d]) d = none) (he : (s.map fun b => [D.int .u8 (b.toNat : Int)]) = es2)
  (hw : WL P B n ⟨(d, .r d) :: st.S, (d, .row e 1 es2) :: st.O⟩ ops Q rest) : WL P B n st ops Q (o :: rest) :=
 WL.op (OpOk.bytes (ns := [d]) (ws := []) (wn := []) hP hT hu8 hg ho hd h hl hs9 (by simp [has_iff]) hfr he) hw
theorem WR.bytes (hP : TblOk P tb) {ops rest : List Oper} {o : Oper} {done : List Key} {d T e : Nat} {s : List UInt8} (es2 : List (List D)) {l : List Prop} (hT : ApOk P T e 1) (hu8 : P.underlying e = some (.int .u8)) (hg : o.guard = none) (ho : o.dst = some d) (hd : inB n d = true)
  (h : sbOf tb B.G (pickL st.S (rd ops o)) o.op = some (T, s, l)) (hl : vcs l) (hs9 : s.length ≤ 9223372036854775807) (hfr : get (pickL st.O [d]) d = none) (he : (s.map fun b => [D.int .u8 (b.toNat : Int)]) = es2)
  (hw : WR P B n ⟨(d, .r d) :: st.S, (d, .row e 1 es2) :: st.O⟩ ops Q (done ++ [⟨rd ops o, [d], [d], [d]⟩]) rest) : WR P B n st ops Q done (o :: rest) :=
 WR.cons ⟨rfl, fun j hj => by simpa using hj, fun j hj => hj⟩ (OpOk.bytes (ns := [d]) (ws := [d]) (wn := [d]) hP hT hu8 hg ho hd h hl hs9 (by simp [has_iff]) hfr he) hw
end Go.V
namespace Go.V
variable {P : Program} {n : Nat} {B : Base} {st : St} {Q : Exit → Act → World → Prop}
theorem WC.rounds {c : Code} (k : Nat) (h : WC P B n st c (Exit.then (Code.rounds P c Q k) Q)) : WC P B n st (.loop c) Q := fun a ρ w L hs =>
  wp_loop_rounds (k + 1) (h a ρ w L hs)
theorem WQ.round {c : Code} {k : Nat} (h : WC P B n st c (Exit.then (Code.rounds P c Q k) Q)) : WQ B n st (Exit.then (Code.rounds P c Q (k + 1)) Q) .normal := fun a ρ w L hs => h a ρ w L hs
theorem WL.ungd {ops rest : List Oper} {o : Oper} {j : Nat} {want c : Bool} (hg : o.guard = some (j, want)) (hc : gcond ops st.S j want = some c) (he : c = true) (h : WL P B n st ops Q ({ o with guard := none } :: rest)) : WL P B n st ops Q (o :: rest) := fun a ρ w L hs => by
  have h1 := h a ρ w L hs
  have hw : Region.wanted o (yielded ops.toArray a.tmps) = true := by
    simp only [Region.wanted, hg]; rw [gcond_sound hs (fun t x h => h) hc, he]
  have hw2 : Region.wanted { o with guard := none } (yielded ops.toArray a.tmps) = true := by simp [Region.wanted]
  unfold wpList at h1 ⊢
  rw [if_pos hw2] at h1
  rw [if_pos hw]
  exact h1
theorem WL.skipg {ops rest : List Oper} {o : Oper} {j d : Nat} {want c : Bool} (x : SV) (hg : o.guard = some (j, want)) (ho : o.dst = some d) (hd : inB n d = true) (hc : gcond ops st.S j want = some c) (he : c = false) (h : WL P B n ⟨(d, .g false x) :: st.S, st.O⟩ ops Q rest) : WL P B n st ops Q (o :: rest) := fun a ρ w L hs => by
  have hw : Region.wanted o (yielded ops.toArray a.tmps) = false := by
    simp only [Region.wanted, hg]; rw [gcond_sound hs (fun t x h => h) hc, he]
  unfold wpList
  rw [if_neg (by rw [hw]; simp), ho]
  exact h _ _ _ _ (sat_put hs hd (by simp only [VRep]; exact ⟨(fun h => by cases h), fun _ => trivial⟩))
def aixOf (G : List (Nat × List D)) (S : List (Nat × SV)) : Op → Option (Nat × List D × Int × List Prop)
 | .index T x i =>
  match o1 G S x, o1 G S i with
  | some (.v (.agg cs), l), some (.v (.int _ m), l2) => some (T, cs, m, l ++ l2)
  | _, _ => none
 | _ => none
theorem q_aidx {tb : List (Nat × TI)} (hP : TblOk P tb) {o : Oper} {sl ns : List Nat} {T e len : Nat} {ti : TI} {cs : List D} {y : D} {m : Int} {l : List Prop} (hT : P.underlying T = some (.array len e)) (hE : get tb e = some ti) (hag : ti.agg = false) (hsz : ti.size = 1)
    (h : aixOf B.G (pickL st.S sl) o.op = some (T, cs, m, l)) (hl : vcs l) (hm : 0 ≤ m ∧ m < len) (hc : nth cs m.toNat = some y) : QOk P B n o sl ns st (.v y) := by
  intro st' a ρ w L hagr hs
  have hS : ∀ t x, get (pickL st.S sl) t = some x → get st'.S t = some x := fun t x ht => by obtain ⟨h1, h2⟩ := zO1 ht; rw [hagr.S t h1]; exact h2
  unfold aixOf at h
  split at h
  · rename_i T' x i hop
    split at h
    · rename_i cs' l1 k' m' l2 h1 h2
      cases h
      obtain ⟨v1, v2⟩ := zR1 hl
      have e1 := zN1 hs hS h1 v1
      have e2 := zN1 hs hS h2 v2
      simp only [VRep, Rep] at e1 e2
      obtain ⟨us, e1, hr⟩ := e1
      rw [nth_eq] at hc
      obtain ⟨v, g1, g2⟩ := hr.get hc
      refine ⟨v, ?_, by simp only [VRep]; exact g2⟩
      have hso := (hP.get hE).size_run w
      rw [hsz] at hso
      have hp := run_part_one (hP.get hE) hag w ⟨us⟩ m.toNat v (by simpa using g1)
      simp only [execOp, hop, e1, e2, Instr.index, asIntOf, Sem.run_bind, Sem.run_pure, run_underlying hT, Result.andThen_ok, if_pos hm, hso, Nat.mul_one, hp]
    · cases h
  · cases h
end Go.V
namespace Go.V
open Go.RowKit
variable {P : Program} {n : Nat} {B : Base} {st : St} {tb : List (Nat × TI)} {Q : Exit → Act → World → Prop} {ρ : Nat → Value} {a : Act} {w : World} {L : Nat → Prop}
theorem sat_spNil (hs : Sat B n st ρ a w L) {j i ty : Nat} {cs : List SV} (hj : get st.O j = some (.blk ty cs)) (hx : nth cs i = some (.v (.raw (.pointer none)))) :
  Sat B n ⟨st.S, (j, .blk ty (cs.set i (.sp j))) :: st.O⟩ ρ a w L := by
 have hN : ∀ m, nmO st.O m → nmO ((j, Ob.blk ty (cs.set i (.sp j))) :: st.O) m ∧ ρ m = ρ m := fun m h => ⟨nmO_cons h, rfl⟩
 have old : ∀ {m o}, get ((j, Ob.blk ty (cs.set i (.sp j))) :: st.O) m = some o → ∃ o', get st.O m = some o' ∧ o'.live = o.live := fun {m o} h => by
  by_cases e : j = m
  ·subst e; rw [zJ1] at h; cases h; exact ⟨_, hj, rfl⟩
  ·rw [zI1 _ _ e] at h; exact ⟨o, h, rfl⟩
 refine hs.go (Step.refl _ _) (fun b hb => hs.low b (.inr hb)) hN hs.size hs.defers (fun t' y hy => ?_) (fun m o hm => ?_) (fun m o m' o' hm hm' hne l1 l2 b hb hb' => ?_)
 ·obtain ⟨v, h1, h2⟩ := hs.slot t' y hy
  exact ⟨v, h1, VRep.keep hN (Keep.refl _ _) y v h2⟩
 ·by_cases e : j = m
  ·subst e; rw [zJ1] at hm; cases hm
   obtain ⟨b, vs, g1, g2, g3, g4⟩ := hs.obj j _ hj
   refine ⟨b, vs, g1, g2, g3, VReps.put i (VReps.keep hN (Keep.refl _ _) cs vs g4) (fun v hv => ?_)⟩
   rw [nth_eq] at hx
   obtain ⟨v', h1, h2⟩ := g4.get hx
   rw [hv] at h1; cases h1
   simp only [VRep, Rep] at h2 ⊢
   exact ⟨nmO_self, .inl h2⟩
  ·rw [zI1 _ _ e] at hm
   exact (hs.obj m o hm).keep hN (Keep.refl _ _) (fun _ b _ => ⟨rfl, id⟩)
 ·obtain ⟨q1, r1, r2⟩ := old hm
  obtain ⟨q2, r3, r4⟩ := old hm'
  exact hs.inj m q1 m' q2 r1 r3 hne (r2.trans l1) (r4.trans l2) b hb hb'
theorem WL.spNil {ops rest : List Oper} (j i : Nat) {ty : Nat} {cs cs2 : List SV} (hj : get st.O j = some (.blk ty cs)) (hx : nth cs i = some (.v (.raw (.pointer none)))) (he : cs.set i (.sp j) = cs2) (h : WL P B n ⟨st.S, (j, .blk ty cs2) :: st.O⟩ ops Q rest) : WL P B n st ops Q rest := fun a ρ w L hs => by subst he; exact h a ρ w L (sat_spNil hs hj hx)
theorem WL.rowNilB {ops rest : List Oper} (j i k T sz : Nat) {ty : Nat} {cs cs2 : List SV} (hj : get st.O j = some (.blk ty cs)) (hx : nth cs i = some (.v (.raw (.slice none 0 0)))) (hfr : get st.O k = none) (he : cs.set i (.r k) = cs2) (h : WL P B n ⟨st.S, (j, .blk ty cs2) :: (k, .row T sz []) :: st.O⟩ ops Q rest) : WL P B n st ops Q rest := fun a ρ w L hs => by subst he; obtain ⟨ρ', s'⟩ := sat_rowNilB hs T sz hj hx hfr; exact h a ρ' w L s'
structure ApBytes (P : Program) (T e : Nat) : Prop where
  under : P.underlying T = some (.slice e)
  info : (P.info? e).map (fun i => (i.zero, i.size, i.bytes)) = some (some (.int .u8 0), 1, 1)
theorem run_append_mine_str {T e : Nat} (hT : ApBytes P T e) (u : TypeId) (hu2 : P.underlying u = some .string) (ty : Nat) (v : Value) (m0 : Nat) (xs : List Value) (hown : OwnsR w e 1 v m0 xs) (s : ByteArray)
  (hb : m0 + s.size ≤ 137438953472) : ∃ v' w', (Builtin.append_ #[T, u] ty #[v, .string s]).run P w = .ok v' w' ∧ OwnsR w' e 1 v' (m0 + s.size) (xs ++ Lib.strCells s) ∧ w.grownBy w' v.ownBlock ∧ (∀ g, v'.ownBlock = some g → v.ownBlock = some g ∨ w.heap.size ≤ g) := by
 obtain ⟨hu, hi⟩ := hT
 cases hinf : P.info? e with
 | none => rw [hinf] at hi; cases hi
 | some i =>
  rw [hinf] at hi
  simp only [Option.map_some, Option.some.injEq, Prod.mk.injEq] at hi
  obtain ⟨hz, i1, i2⟩ := hi
  have h63 : m0 + s.size ≤ maxLen := by simp only [maxLen]; omega
  have hsl : (Lib.strCells s).length = s.size := Lib.strCells_length s
  rcases hown.2 with ⟨rfl, rfl⟩ | ⟨g, cap, cur, fz, rfl, hg, hfz, hnc, hcm, hcs, htake⟩
  ·obtain ⟨v2, w2, hr2, k2, k3, k4⟩ := Lib.run_append_own_string (P := P) w w.heap.size T u ty e i hu hu2 hinf hz i1 i2 (.slice none 0 0) 0 xs ⟨hown.1, .inl ⟨rfl, rfl⟩⟩ s h63 (by omega) (Nat.le_refl _)
   exact ⟨v2, w2, hr2, OwnsR.of k2, k3, fun g hg => .inr (k2.lt g hg).1⟩
  ·by_cases hroom : m0 + s.size ≤ cap
   ·have hfit : m0 * 1 + (Lib.strCells s).length ≤ cur.size := by rw [hsl, hcs]; omega
    have hf := Lib.run_firstCells_string (P := P) w 1 s
    have hst := run_storeCells_open P g m0 e fz (Lib.strCells s) 0 cur w hg hfz (by simpa using hfit) (Lib.strCells_oneCell s)
    simp only [Nat.add_zero] at hst
    refine ⟨_, _, ?_, owns_room (news := Lib.strCells s) hg hfz hown.1 (by rw [hsl, Nat.mul_one]) hroom hcm hcs htake, grown_room g m0 cap _, fun g' hg' => .inl hg'⟩
    simp only [Nat.mul_one]
    simp [Builtin.append_, run_underlying hu, run_underlying hu2, sizeOf, typeInfo, hinf, i1, Builtin.lenOf, hroom, hf, Addr.add_lit, hst]
   ·have holds : ∀ j u, xs[j]? = some u → w.cell? ((⟨g, 0, none⟩ : Addr).add j) = some u := hown.cells (g := g) rfl
    have hr2 := Lib.run_append_grow_string (P := P) w T u ty e i (.int .u8 0) hu hu2 hinf hz ⟨g, 0, none⟩ m0 cap xs (by rw [i1]; exact hown.1) holds s (by omega) (by omega) (by rw [i2]; exact growslice_fits (by omega) (by omega))
    have hgr := owns_grown (w := w) (e := e) (old := cap) (size := 1) (z := .int .u8 0) (news := Lib.strCells s) rfl hown.1 (by rw [hsl, Nat.mul_one]) h63 (Value.ownBlock (.slice (some ⟨g, 0, none⟩) m0 cap))
    refine ⟨_, _, hr2, hgr.1, hgr.2, fun g' hg' => ?_⟩
    simp [Value.ownBlock] at hg'
    exact .inr (by omega)
theorem sat_appended (hs : Sat B n st ρ a w L) {d e sz : Nat} {v v' : Value} {w' : World} {es : List (List D)} {rows nrows : List (List Value)} {news : List (List D)} (hd : inB n d = true) (hfr : get st.O d = none)
    (h1 : RepRows w (un B.F L) es rows) (h2 : ∀ r, r ∈ rows → r.length = sz) (h3 : OwnsR w e sz v rows.length rows.flatten) (h4 : ∀ b, ob v = some b → L b)
    (k1 : RepRows w (un B.F L) news nrows) (k2 : ∀ r, r ∈ nrows → r.length = sz) (q2 : OwnsR w' e sz v' (rows ++ nrows).length (rows ++ nrows).flatten) (q3 : w.grownBy w' v.ownBlock) (q4 : ∀ g, v'.ownBlock = some g → v.ownBlock = some g ∨ w.heap.size ≤ g)
    {O' : List (Nat × Ob)} (hO' : ∀ j, (get O' j).isSome = (get st.O j).isSome) (hO2 : ∀ j o, get O' j = some o → get st.O j = some o ∨ o = .dead) (hO3 : ∀ j o, get O' j = some o → o.live = true → ∀ b, ob v = some b → ob (ρ j) ≠ some b) :
    ∃ L', Sat B n ⟨(d, .r d) :: st.S, (d, .row e sz (es ++ news)) :: O'⟩ (upd ρ d v') (a.put (some d) v') w' L' := by
  have hd' : d < n := by simpa [inB] using hd
  have hv' := ob_row q2
  have hv := ob_row h3
  have hL : ∀ g, ob v' = some g → L g ∨ w.heap.size ≤ g := fun g hg => by
    rw [hv'] at hg
    rcases q4 g hg with h | h
    · exact .inl (h4 g (by rw [hv]; exact h))
    · exact .inr h
  have hstep : Step L w (fun b => L b ∨ ob v' = some b) w' := ⟨q3.os, q3.tape, q3.output, q3.size, fun b hb hnL => q3.block b hb (fun e => hnL (h4 b (by rw [hv]; exact e.symm))), fun b h => by
    rcases h with h | h
    · exact .inl h
    · exact hL b h⟩
  have hkp : Keep w (un B.F L) w' (un B.F fun b => L b ∨ ob v' = some b) := keep_of_step hstep
  have hN : ∀ j, nmO st.O j → nmO ((d, Ob.row e sz (es ++ news)) :: O') j ∧ upd ρ d v' j = ρ j := fun j h => ⟨nmO_cons (by unfold nmO; rw [hO']; exact h), upd_ne (nmO_ne h hfr)⟩
  have hlt' : ∀ b, ob v' = some b → b < w'.heap.size := fun b hb => by
    rcases q2.2 with ⟨e1, _⟩ | ⟨g, cap, cur, fz, e1, e3, _⟩
    · rw [e1] at hb; simp [ob] at hb
    · rw [e1] at hb; simp only [ob, Option.some.injEq] at hb; subst hb; exact (Array.getElem?_eq_some_iff.1 e3).1
  refine ⟨_, hs.go hstep (fun b hb => ?_) hN (by simp [Act.put, hs.size]) hs.defers (fun t z hz => ?_) (fun j o hj => ?_) (fun j o j' o' hj hj' hne l1 l2 b hb1 hb2 => ?_)⟩
  · rcases hb with h | h
    · exact Nat.lt_of_lt_of_le (hs.low b (.inr h)) hstep.size
    · exact hlt' b h
  · simp only [Act.put]
    by_cases hdt : d = t
    · subst hdt; rw [zJ1] at hz; cases hz
      exact ⟨v', by simp [hs.size, hd'], by simp only [VRep]; exact ⟨nmO_self, upd_self.symm⟩⟩
    · rw [zI1 _ _ hdt] at hz
      obtain ⟨x, g1, g2⟩ := hs.slot t z hz
      exact ⟨x, by rw [Array.getElem?_setIfInBounds_ne hdt]; exact g1, VRep.keep hN hkp z x g2⟩
  · by_cases e : d = j
    · subst e; rw [zJ1] at hj; cases hj
      rw [upd_self]
      exact ⟨rows ++ nrows, RepRows.app (RepRows.keep hkp _ _ h1) (RepRows.keep hkp _ _ k1), fun r hr => (List.mem_append.1 hr).elim (h2 r) (k2 r), q2, fun b hb => .inr hb⟩
    · rw [zI1 _ _ e] at hj
      rw [upd_ne (fun e' => e e'.symm)]
      rcases hO2 j o hj with h | rfl
      · refine (hs.obj j o h).keep hN hkp (fun hl b hb => ⟨q3.block b (hs.low b (.inr (hs.own h hl hb))) (fun e' => hO3 j o hj hl b (by rw [hv]; exact e'.symm) hb), .inl⟩)
      · exact hs.cellN j (by unfold nmO; rw [← hO', hj]; rfl)
  · have old : ∀ {j o}, j ≠ d → get ((d, Ob.row e sz (es ++ news)) :: O') j = some o → o.live = true → get st.O j = some o := fun {j o} hjd h hl => by
      rw [zI1 _ _ (fun e => hjd e.symm)] at h
      rcases hO2 j o h with h | rfl
      · exact h
      · cases hl
    have apart : ∀ {j o}, j ≠ d → get ((d, Ob.row e sz (es ++ news)) :: O') j = some o → o.live = true → ∀ b, ob v' = some b → ob (ρ j) ≠ some b := fun {j o} hjd h hl b hb hb' => by
      have hold := old hjd h hl
      rw [zI1 _ _ (fun e => hjd e.symm)] at h
      rw [hv'] at hb
      rcases q4 b hb with h5 | h5
      · exact hO3 j o h hl b (by rw [hv]; exact h5) hb'
      · have := hs.low b (.inr (hs.own hold hl hb')); omega
    by_cases e1 : j = d
    · subst e1
      have e2 : j' ≠ j := fun e => hne e.symm
      rw [upd_self] at hb1; rw [upd_ne e2] at hb2
      exact apart e2 hj' l2 b hb1 hb2
    · by_cases e2 : j' = d
      · subst e2
        rw [upd_self] at hb2; rw [upd_ne e1] at hb1
        exact apart e1 hj l1 b hb2 hb1
      · rw [upd_ne e1] at hb1; rw [upd_ne e2] at hb2
        exact hs.inj j o j' o' (old e1 hj l1) (old e2 hj' l2) hne l1 l2 b hb1 hb2
def apsOf (tb : List (Nat × TI)) (G : List (Nat × List D)) (S : List (Nat × SV)) : Op → Option (Nat × Nat × List UInt8 × List Prop)
 | .call ⟨.builtin .append, ⟨[x, y]⟩, ⟨[T, U]⟩⟩ =>
  match get tb U, o1 G S x, o1 G S y with
  | some ⟨_, _, _, _, _, _, 2⟩, some (.r k, l), some (.v (.str s), m) => some (T, k, s, l ++ m)
  | _, _, _ => none
 | _ => none
theorem OpOk.appendS (hP : TblOk P tb) {ops : List Oper} {o : Oper} {T e d k : Nat} {es es2 : List (List D)} {s : List UInt8} {l : List Prop} {sl ns ws wn : List Nat} (hT : ApBytes P T e) (hg : o.guard = none) (ho : o.dst = some d) (hd : inB n d = true)
  (h : apsOf tb B.G (pickL st.S sl) o.op = some (T, k, s, l)) (hk : get (pickL st.O ns) k = some (.row e 1 es)) (hl : vcs l) (hb : es.length + s.length ≤ 137438953472) (hdn : has d ns = true) (hfr : get (pickL st.O ns) d = none) (he2 : es ++ (s.map fun b => [D.int .u8 (b.toNat : Int)]) = es2) :
  OpOk P B n ops Q o ⟨sl, ns, ws, wn⟩ st ⟨[(d, .r d)], [(d, .row e 1 es2), (k, .dead)]⟩ := by
 subst he2
 intro st' a ρ w L K hag hs hK
 have hS : ∀ t x, get (pickL st.S sl) t = some x → get st'.S t = some x := fun t x ht => by obtain ⟨h1, h2⟩ := zO1 ht; rw [hag.S t h1]; exact h2
 have hO : ∀ t x, get (pickL st.O ns) t = some x → get st'.O t = some x := fun t x ht => by obtain ⟨h1, h2⟩ := zO1 ht; rw [hag.O t h1]; exact h2
 have hfr' : get st'.O d = none := by rw [hag.O d (has_iff.1 hdn)]; exact pickL_none (has_iff.1 hdn) hfr
 unfold apsOf at h
 split at h
 ·rename_i x y T1 U hop
  split at h
  ·rename_i k1 l1 s1 m1 hq h1 h2
   cases h
   obtain ⟨v1, v2⟩ := zR1 hl
   have hk1 := hO k _ hk
   have e1 := zN1 hs hS h1 v1
   have e2 := zN1 hs hS h2 v2
   simp only [VRep] at e1 e2
   simp only [Rep] at e2
   obtain ⟨rows, g1, g2, g3, g4⟩ := hs.obj k _ hk1
   have hlen := g1.length
   obtain ⟨v', w', r1, r2, r3, r4⟩ := run_append_mine_str (P := P) (w := w) hT U (under_string (hP.get hq) rfl) o.type (ρ k) rows.length rows.flatten g3 ⟨⟨s⟩⟩ (by show rows.length + s.length ≤ _; omega)
   have hsz : (⟨⟨s⟩⟩ : ByteArray).size = s.length := rfl
   have hcells : Lib.strCells ⟨⟨s⟩⟩ = (s.map fun b => [Value.int .u8 (b.toNat : Int)]).flatten := by rw [flat_bytes]; rfl
   obtain ⟨L', hsat⟩ := sat_appended (O' := (k, .dead) :: st'.O) hs (d := d) (e := e) (sz := 1) (v := ρ k) (v' := v') (w' := w') (news := s.map fun b => [D.int .u8 (b.toNat : Int)]) hd hfr' g1 g2 g3 g4 (rows_bytes s) (fun r hr => by obtain ⟨b, _, rfl⟩ := List.mem_map.1 hr; rfl)
    (by rw [List.length_append, List.flatten_append, List.length_map, ← hcells, ← hsz]; exact r2) r3 r4 (fun j => by
     by_cases e : k = j
     ·subst e; rw [zJ1, hk1]; rfl
     ·rw [zI1 _ _ e]) (fun j o hj => by
     by_cases e : k = j
     ·subst e; rw [zJ1] at hj; cases hj; exact .inr rfl
     ·rw [zI1 _ _ e] at hj; exact .inl hj) (fun j o hj hl b hb => by
     by_cases e : k = j
     ·subst e; rw [zJ1] at hj; cases hj; cases hl
     ·rw [zI1 _ _ e] at hj; exact hs.inj k _ j o hk1 hj e rfl hl b hb)
   refine wpO_value hg (v := v') (w' := w') ?_ (by rw [ho]; exact hK _ _ ⟨_, _, hsat⟩)
   unfold execOp
   rw [hop]
   rw [← e1.2] at r1
   simp only [resolve, invoke, builtin, Sem.run_bind, Sem.run_pure, Result.andThen_ok, List.map_toArray, List.map_cons, List.map_nil, e2, r1]
  ·cases h
 ·cases h
theorem WL.appendS (hP : TblOk P tb) {ops rest : List Oper} {o : Oper} {T e d k : Nat} {es : List (List D)} (es2 : List (List D)) {s : List UInt8} {l : List Prop} {st' : St} (ns : List Nat) (hT : ApBytes P T e) (hg : o.guard = none) (ho : o.dst = some d) (hd : inB n d = true)
  (h : apsOf tb B.G (pickL st.S (rd ops o)) o.op = some (T, k, s, l)) (hk : get (pickL st.O ns) k = some (.row e 1 es)) (hl : vcs l) (hb : es.length + s.length ≤ 137438953472) (hdn : has d ns = true) (hfr : get (pickL st.O ns) d = none) (he2 : es ++ (s.map fun b => [D.int .u8 (b.toNat : Int)]) = es2)
  (hst : addK st [(d, .r d)] [(d, .row e 1 es2), (k, .dead)] = some st') (hw : WL P B n st' ops Q rest) : WL P B n st ops Q (o :: rest) :=
 WL.op (OpOk.appendS (ws := []) (wn := []) hP hT hg ho hd h hk hl hb hdn hfr he2) (by rw [addK_eq hst]; exact hw)
inductive LeDs : List (List D) → List (List D) → Prop
 | nil : LeDs [] []
 | cons {x y : List D} {xs ys : List (List D)} (h : LeD x y) (hs : LeDs xs ys) : LeDs (x :: xs) (y :: ys)
theorem LeDs.length {xs ys : List (List D)} (h : LeDs xs ys) : xs.length = ys.length := by
 induction h with
 | nil => rfl
 | cons h hs ih => simp [ih]
theorem LeDs.rows {xs ys : List (List D)} (h : LeDs xs ys) : ∀ {w X sz b o}, RowsAt w X sz xs b o → RowsAt w X sz ys b o := by
 induction h with
 | nil => intro w X sz b o h; exact h
 | cons h hs ih =>
  intro w X sz b o hr
  simp only [RowsAt] at hr ⊢
  obtain ⟨⟨cs, h1, h2, h3⟩, h4⟩ := hr
  exact ⟨⟨cs, h.reps h1, h2, h3⟩, ih h4⟩
theorem Le.sl {z : Nat} {xs ys : List (List D)} (h : LeDs xs ys) : Le (.v (.sl z xs)) (.v (.sl z ys)) := fun N ρ w X v hv => by
 simp only [VRep, Rep] at hv ⊢
 have hl := h.length
 obtain ⟨base, cap, rfl, h2, h3, h4⟩ := hv
 refine ⟨base, cap, by rw [hl], by omega, fun hb => ?_, fun ad had hne => ?_⟩
 ·have := h3 hb; subst this; cases h; rfl
 ·obtain ⟨h5, h6, h7, h8⟩ := h4 ad had (fun e => by subst e; cases h; exact hne rfl)
  exact ⟨h5, h6, h7, h.rows h8⟩
theorem OpOk.le {ops : List Oper} {o : Oper} {sl ns ws : List Nat} {d : Nat} {x y : SV} (hle : Le x y) (h : OpOk P B n ops Q o ⟨sl, ns, ws, []⟩ st ⟨[(d, x)], []⟩) : OpOk P B n ops Q o ⟨sl, ns, ws, []⟩ st ⟨[(d, y)], []⟩ := by
 intro st' a ρ w L K hag hs hK
 refine h st' a ρ w L K hag hs (fun a' w' ⟨ρ', L', s'⟩ => hK a' w' ⟨ρ', L', ?_⟩)
 have s2 : Sat B n ⟨(d, x) :: st'.S, st'.O⟩ ρ' a' w' L' := s'
 refine s2.go (Step.refl _ _) (fun b hb => s2.low b (.inr hb)) (fun _ h => ⟨h, rfl⟩) s2.size s2.defers (fun t z hz => ?_) s2.obj s2.inj
 change get ((d, y) :: st'.S) t = some z at hz
 by_cases e : d = t
 ·subst e
  rw [zJ1] at hz; cases hz
  obtain ⟨v, h3, h4⟩ := s2.slot d _ (zJ1 _ _ _)
  exact ⟨v, h3, hle _ _ _ _ _ h4⟩
 ·rw [zI1 _ _ e] at hz
  exact s2.slot t z (by rw [zI1 _ _ e]; exact hz)
theorem WL.mkLe (hP : TblOk P tb) {ops rest : List Oper} {o : Oper} {d : Nat} {x : SV} (y : SV) {l : List Prop} (h : dA tb B.G n ops o (pickL st.S (rd ops o)) (pickL st.O []) = .yes (some (d, x)) none [] l) (hv : vcs l) (hle : Le x y)
  (hw : WL P B n ⟨(d, y) :: st.S, st.O⟩ ops Q rest) : WL P B n st ops Q (o :: rest) :=
 WL.op (d := ⟨[(d, y)], []⟩) (OpOk.le hle (OpOk.run (sl := rd ops o) (ns := []) (ws := []) hP h hv rfl)) hw
end Go.V
namespace Go.V
open Go.MapKept
variable {P : Program} {n : Nat} {B : Base} {st : St} {tb : List (Nat × TI)} {Q : Exit → Act → World → Prop} {ρ : Nat → Value} {a : Act} {w : World} {L : Nat → Prop}
abbrev kv (s : List UInt8) : Value := .string ⟨⟨s⟩⟩
def isk (s : List UInt8) : Value → Bool
 | .string ⟨⟨t⟩⟩ => t == s
 | _ => false
theorem isk_iff {s : List UInt8} {v : Value} : isk s v = true ↔ v = kv s := by
 unfold isk
 split
 ·rename_i t; simp [kv]
 ·rename_i h; constructor
  ·intro e; cases e
  ·intro e; exact absurd e (h s)
theorem kv_inj {s t : List UInt8} (h : kv s = kv t) : s = t := by simpa [kv] using h
def addKey (ks : List (List UInt8)) (s : List UInt8) : List (List UInt8) := if ks.contains s = true then ks else ks ++ [s]
theorem SetIs.empty : SetIs #[] 0 [] := ⟨rfl, (fun x h => by simp at h), by simp, List.nodup_nil⟩
variable {es : Array MapEntry} {clock : Nat} {ks : List (List UInt8)}
theorem SetIs.key (h : SetIs es clock ks) {x : MapEntry} (hx : x ∈ es.toList) : ∃ s, s ∈ ks ∧ x.key = kv s := by
 have h1 : x.key ∈ es.toList.map (·.key) := List.mem_map_of_mem hx
 rw [h.keys] at h1
 obtain ⟨s, h2, h3⟩ := List.mem_map.1 h1
 exact ⟨s, h2, h3.symm⟩
theorem SetIs.isKey (h : SetIs es clock ks) : ∀ x, x ∈ es.toList → IsKey .string x.key := fun x hx => by
 obtain ⟨s, _, e⟩ := h.key hx
 rw [e]; simp [IsKey]
theorem SetIs.mem (h : SetIs es clock ks) {s : List UInt8} (hs : s ∈ ks) : ∃ x, x ∈ es.toList ∧ x.key = kv s := by
 have h1 : kv s ∈ ks.map kv := List.mem_map_of_mem hs
 rw [← h.keys] at h1
 obtain ⟨x, h2, h3⟩ := List.mem_map.1 h1
 exact ⟨x, h2, h3⟩
theorem run_setPut {mty kt et : TypeId} {r : Nat} (hm : P.underlying mty = some (.map kt et)) (hd : P.underlying kt = some .string) (hb : w.heap[r]? = some (.map es clock)) (h : SetIs es clock ks) (s : List UInt8) :
  ∃ es' clock', (Instr.mapUpdate mty (.map (some r)) (kv s) (.bool true)).run P w = .ok () { w with heap := w.heap.setIfInBounds r (.map es' clock') } ∧ SetIs es' clock' (addKey ks s) := by
 have hk : IsKey .string (kv s) := by simp [IsKey]
 rcases findNow_spec hk es.toList 0 h.isKey with ⟨h1, h2⟩ | ⟨j, e, h1, h2, h3⟩
 ·refine ⟨_, _, by simp [Instr.mapUpdate, run_underlying hm, MapKept.run_getObj_map hb, run_checkKey hd hk, run_findKey hd h1, MapKept.run_setObj_map _ hb, Result.andThen]; rfl, ?_⟩
  have hno : s ∉ ks := fun hs => by
   obtain ⟨x, g1, g2⟩ := h.mem hs
   exact h2 x g1 g2
  have hc : ks.contains s = false := by simpa using hno
  unfold addKey
  rw [hc, if_neg (by simp)]
  refine ⟨by simp [h.keys], fun x hx => ?_, ?_, ?_⟩
  ·simp only [Array.toList_push, List.mem_append, List.mem_singleton] at hx
   rcases hx with hx | rfl
   ·exact ⟨(h.vals x hx).1, by have := (h.vals x hx).2; omega⟩
   ·exact ⟨rfl, by simp⟩
  ·simp only [Array.toList_push, List.map_append, List.map_cons, List.map_nil]
   rw [List.nodup_append]
   refine ⟨h.born, by simp, fun x hx y hy => ?_⟩
   simp only [List.mem_singleton] at hy
   subst hy
   obtain ⟨z, g1, rfl⟩ := List.mem_map.1 hx
   have := (h.vals z g1).2
   omega
  ·rw [List.nodup_append]
   exact ⟨h.nodup, by simp, fun x hx y hy => by simp only [List.mem_singleton] at hy; subst hy; exact fun e => hno (e ▸ hx)⟩
 ·have hj : es[j]? = some e := by simpa using h2
  have hmem : e ∈ es.toList := List.mem_of_getElem? h2
  have hv := (h.vals e hmem).1
  have hid : (es.modify j fun e => { e with key := kv s, val := .bool true }) = es := by
   apply Array.ext_getElem?
   intro i
   rw [Array.getElem?_modify]
   by_cases hij : j = i
   ·subst hij
    rw [if_pos rfl, hj]
    simp only [Option.map_some, Option.some.injEq]
    rw [← h3, ← hv]
   ·rw [if_neg hij]
  refine ⟨es, clock, ?_, ?_⟩
  ·have hself : { w with heap := w.heap.setIfInBounds r (.map es clock) } = { w with heap := w.heap.setIfInBounds r (.map (es.modify j fun e => { e with key := kv s, val := .bool true }) clock) } := by rw [hid]
   rw [hself]
   simp [Instr.mapUpdate, run_underlying hm, MapKept.run_getObj_map hb, run_checkKey hd hk, run_findKey hd h1, hj, h3, run_keyThatStays hk, MapKept.run_setObj_map _ hb, Result.andThen]
  ·obtain ⟨s', g1, g2⟩ := h.key hmem
   have : s' = s := kv_inj (g2.symm.trans h3)
   subst this
   unfold addKey
   rw [if_pos (by simpa using g1)]
   exact h
theorem run_setLook {mty kt et : TypeId} {r : Nat} (hm : P.underlying mty = some (.map kt et)) (hd : P.underlying kt = some .string) (hz : (zeroValue et).run P w = .ok (.bool false) w) (hb : w.heap[r]? = some (.map es clock)) (h : SetIs es clock ks) (s : List UInt8) :
  (Instr.lookup mty (.map (some r)) (kv s) false).run P w = .ok (.bool (ks.contains s)) w := by
 have hk : IsKey .string (kv s) := by simp [IsKey]
 rcases findNow_spec hk es.toList 0 h.isKey with ⟨h1, h2⟩ | ⟨j, e, h1, h2, h3⟩
 ·have hc : ks.contains s = false := by
   cases hh : ks.contains s with
   | false => rfl
   | true =>
    obtain ⟨x, g1, g2⟩ := h.mem (s := s) (by simpa using hh)
    exact absurd g2 (h2 x g1)
  simp [Instr.lookup, run_underlying hm, MapKept.run_getObj_map hb, run_checkKey hd hk, run_findKey hd h1, Result.andThen, hz]
  simpa using hc
 ·have hmem : e ∈ es.toList := List.mem_of_getElem? h2
  have hv := (h.vals e hmem).1
  obtain ⟨s', g1, g2⟩ := h.key hmem
  have : s' = s := kv_inj (g2.symm.trans h3)
  subst this
  simp [Instr.lookup, run_underlying hm, MapKept.run_getObj_map hb, run_checkKey hd hk, run_findKey hd h1, Result.andThen, hv]
  exact g1
def mkOf : Op → Bool
 | .makeMap _ none => true
 | _ => false
theorem OpOk.makeSet {ops : List Oper} {o : Oper} {d : Nat} {sl ns ws wn : List Nat} (hg : o.guard = none) (ho : o.dst = some d) (hd : inB n d = true)
  (h : mkOf o.op = true) (hdn : has d ns = true) (hfr : get (pickL st.O ns) d = none) :
  OpOk P B n ops Q o ⟨sl, ns, ws, wn⟩ st ⟨[(d, .r d)], [(d, .set [])]⟩ := by
 intro st' a ρ w L K hag hs hK
 have hfr' : get st'.O d = none := by rw [hag.O d (has_iff.1 hdn)]; exact pickL_none (has_iff.1 hdn) hfr
 unfold mkOf at h
 split at h
 ·rename_i t hop
  have hsat := sat_new hs (d := d) (v := .map (some w.heap.size)) (o := .set []) (w' := w.alloc (.map #[] 0)) hd hfr' (below_push w _)
   (fun b hb => by simp only [ob, Option.some.injEq] at hb; subst hb; exact ⟨Nat.le_refl _, by show _ < (w.heap.push _).size; simp⟩) (x := .r d) (by simp only [VRep]; exact ⟨nmO_self, upd_self.symm⟩)
   (fun X _ _ => ⟨_, _, _, rfl, (MapKept.heap_alloc w _).1, .inr rfl, SetIs.empty⟩)
  exact wpO_value hg (v := .map (some w.heap.size)) (w' := w.alloc (.map #[] 0)) (by simp only [execOp, hop, Option.map_none, RowKit.run_makeMap, Sem.run_bind, Result.andThen_ok, Sem.run_pure]) (by rw [ho]; exact hK _ _ ⟨_, _, hsat⟩)
 ·cases h
theorem WL.makeSet {ops rest : List Oper} {o : Oper} {d : Nat} (hg : o.guard = none) (ho : o.dst = some d) (hd : inB n d = true)
  (h : mkOf o.op = true) (hfr : get (pickL st.O [d]) d = none) (hw : WL P B n ⟨(d, .r d) :: st.S, (d, .set []) :: st.O⟩ ops Q rest) : WL P B n st ops Q (o :: rest) :=
 WL.op (OpOk.makeSet (sl := rd ops o) (ns := [d]) (ws := []) (wn := []) hg ho hd h (by simp [has_iff]) hfr) hw
def puOf (G : List (Nat × List D)) (S : List (Nat × SV)) : Op → Option (Nat × Nat × List UInt8 × List Prop)
 | .mapUpdate T m x v =>
  match o1 G S m, o1 G S x, o1 G S v with
  | some (.r k, l), some (.v (.str s), l2), some (.v (.bool true), l3) => some (T, k, s, l ++ (l2 ++ l3))
  | _, _, _ => none
 | _ => none
theorem WL.setPut {ops rest : List Oper} {o : Oper} {T k kt et : Nat} {s : List UInt8} {ks : List (List UInt8)} {l : List Prop} (hm : P.underlying T = some (.map kt et)) (hd : P.underlying kt = some .string) (hg : o.guard = none) (ho : o.dst = none) (h : puOf B.G (pickL st.S (rd ops o)) o.op = some (T, k, s, l)) (hl : vcs l) (hk : get st.O k = some (.set ks))
  (hw : WL P B n ⟨st.S, (k, .set (addKey ks s)) :: st.O⟩ ops Q rest) : WL P B n st ops Q (o :: rest) := by
 unfold puOf at h
 split at h
 ·rename_i T' m x v hop
  split at h
  ·rename_i k' l1 s' l2 l3 h1 h2 h3
   cases h
   obtain ⟨v1, v23⟩ := zR1 hl
   obtain ⟨v2, v3⟩ := zR1 v23
   refine WL.op (k := ⟨rd ops o, [k], [], [k]⟩) (d := ⟨[], [(k, _)]⟩) ?_ hw
   intro st' a ρ w L K hag hs hK
   have hS : ∀ t x, get (pickL st.S (rd ops o)) t = some x → get st'.S t = some x := fun t x ht => by obtain ⟨h1, h2⟩ := zO1 ht; rw [hag.S t h1]; exact h2
   have hk' : get st'.O k = some (.set ks) := by rw [hag.O k (by simp)]; exact hk
   have e1 := zN1 hs hS h1 v1
   have e2 := zN1 hs hS h2 v2
   have e3 := zN1 hs hS h3 v3
   simp only [VRep, Rep] at e1 e2 e3
   obtain ⟨b, es, clock, g1, g2, g3, g4⟩ := hs.obj k _ hk'
   obtain ⟨es', clock', hrun, hset⟩ := run_setPut (P := P) hm hd g2 g4 s
   have h5 := sat_but hs (o' := .set (addKey ks s)) hk' rfl (b := b) (by rw [g1]; rfl) (w' := { w with heap := w.heap.setIfInBounds b (.map es' clock') })
    ⟨rfl, rfl, rfl, by simp, fun c _ hc => by simp only; rw [Array.getElem?_setIfInBounds_ne (fun e => hc e.symm)]⟩
    ⟨b, es', clock', g1, by simp only; rw [Array.getElem?_setIfInBounds_self_of_lt ((Array.getElem?_eq_some_iff.1 g2).1)], g3, hset⟩
   exact wpO_skip hg (by simp only [execOp, hop, e1.2, e2, e3, g1, Sem.run_bind, hrun, Result.andThen_ok, Sem.run_pure]; rfl) (by rw [ho]; exact hK _ _ ⟨_, _, h5⟩)
  ·cases h
 ·cases h
theorem sat_pubSet (hs : Sat B n st ρ a w L) {k : Nat} {ks : List (List UInt8)} (hk : get st.O k = some (.set ks)) :
  Sat B n ⟨pubL k (.mp ks) st.S, pubO k (.mp ks) st.O⟩ ρ a w (fun b => L b ∧ ob (ρ k) ≠ some b) := by
 obtain ⟨b, es, clock, g1, g2, g3, g4⟩ := hs.obj k _ hk
 refine sat_pub0 hs hk rfl (fun hkp => ?_)
 simp only [Rep]
 refine ⟨b, es, clock, g1, (Array.getElem?_eq_some_iff.1 g2).1, fun hx => ?_, g2, g4⟩
 rcases hx with hx | hx
 ·exact hs.dis b hx g3
 ·exact hx.2 (by rw [g1]; rfl)
theorem WQ.pubSet {e : Exit} (k : Nat) {ks : List (List UInt8)} {st' : St} (hk : get st.O k = some (.set ks)) (hst : pubK k (.mp ks) st = some st') (h : WQ B n st' Q e) : WQ B n st Q e := fun a ρ w L hs => h a ρ w _ (pubK_eq hst ▸ sat_pubSet hs hk)
def lkOf (G : List (Nat × List D)) (S : List (Nat × SV)) : Op → Option (Nat × List (List UInt8) × List UInt8 × List Prop)
 | .lookup T m x false =>
  match o1 G S m, o1 G S x with
  | some (.v (.mp ks), l), some (.v (.str s), l2) => some (T, ks, s, l ++ l2)
  | _, _ => none
 | _ => none
theorem q_look (hP : TblOk P tb) {o : Oper} {sl ns : List Nat} {T kt et : Nat} {ti : TI} {ks : List (List UInt8)} {s : List UInt8} {l : List Prop} (hm : P.underlying T = some (.map kt et)) (hd : P.underlying kt = some .string) (hE : get tb et = some ti) (hz : ti.zero = .bool false)
  (h : lkOf B.G (pickL st.S sl) o.op = some (T, ks, s, l)) (hl : vcs l) : QOk P B n o sl ns st (.v (.bool (ks.contains s))) := by
 intro st' a ρ w L hag hs
 have hS : ∀ t x, get (pickL st.S sl) t = some x → get st'.S t = some x := fun t x ht => by obtain ⟨h1, h2⟩ := zO1 ht; rw [hag.S t h1]; exact h2
 unfold lkOf at h
 split at h
 ·rename_i T' m x hop
  split at h
  ·rename_i ks' l1 s' l2 h1 h2
   cases h
   obtain ⟨v1, v2⟩ := zR1 hl
   have e1 := zN1 hs hS h1 v1
   have e2 := zN1 hs hS h2 v2
   simp only [VRep, Rep] at e1 e2
   obtain ⟨b, es, clock, g1, g2, g3, g4, g5⟩ := e1
   have hz' := (hP.get hE).zero_run w
   rw [hz] at hz'
   refine ⟨.bool (ks.contains s), ?_, by simp only [VRep, Rep]⟩
   simp only [execOp, hop, e2, g1, run_setLook (P := P) hm hd hz' g4 g5 s, Sem.run_bind, Result.andThen_ok, Sem.run_pure]
  ·cases h
 ·cases h
def rmOf (G : List (Nat × List D)) (S : List (Nat × SV)) : Op → Option (Nat × List (List UInt8) × List Prop)
 | .range T x =>
  match o1 G S x with
  | some (.v (.mp ks), l) => some (T, ks, l)
  | _ => none
 | _ => none
theorem WL.rangeSet {ops rest : List Oper} {o : Oper} {d T kt et : Nat} {ks : List (List UInt8)} {l : List Prop} (hm : P.underlying T = some (.map kt et)) (hg : o.guard = none) (ho : o.dst = some d) (hd : inB n d = true)
  (h : rmOf B.G (pickL st.S (rd ops o)) o.op = some (T, ks, l)) (hl : vcs l) (hfr : get (pickL st.O [d]) d = none) (hw : WL P B n ⟨(d, .r d) :: st.S, (d, .sit ks none) :: st.O⟩ ops Q rest) : WL P B n st ops Q (o :: rest) := by
 refine WL.op (k := ⟨rd ops o, [d], [], []⟩) (d := ⟨[(d, .r d)], [(d, .sit ks none)]⟩) ?_ hw
 intro st' a ρ w L K hag hs hK
 have hS : ∀ t x, get (pickL st.S (rd ops o)) t = some x → get st'.S t = some x := fun t x ht => by obtain ⟨h1, h2⟩ := zO1 ht; rw [hag.S t h1]; exact h2
 have hfr' : get st'.O d = none := by rw [hag.O d (by simp)]; exact pickL_none (by simp) hfr
 unfold rmOf at h
 split at h
 ·rename_i T' x hop
  split at h
  ·rename_i ks' l1 h1
   cases h
   have e1 := zN1 hs hS h1 hl
   simp only [VRep, Rep] at e1
   obtain ⟨b, es, clock, g1, g2, g3, g4, g5⟩ := e1
   have hsat := sat_new hs (d := d) (v := .pointer (some ⟨w.heap.size, 0, none⟩)) (o := .sit ks none) (w' := w.alloc (.mapIter (some b) clock #[] clock)) hd hfr' (below_push w _)
    (fun b hb => by simp only [ob, Option.some.injEq] at hb; subst hb; exact ⟨Nat.le_refl _, by show _ < (w.heap.push _).size; simp⟩) (x := .r d) (by simp only [VRep]; exact ⟨nmO_self, upd_self.symm⟩)
    (fun X hX hk => ⟨_, b, es, clock, clock, clock, #[], ks, rfl, (MapKept.heap_alloc w _).1, .inr rfl, Nat.lt_of_lt_of_le g2 hk.size, hk.out b g2 g3, (hk.block b g2 g3).trans g4, g5,
     ⟨fun x hx => (g5.vals x hx).2, Nat.le_refl _, Nat.le_refl _, by rw [List.filter_eq_self.2 (fun x _ => by simp)]; exact g5.keys, fun s h => by cases h⟩⟩)
   exact wpO_value hg (v := .pointer (some ⟨w.heap.size, 0, none⟩)) (w' := w.alloc (.mapIter (some b) clock #[] clock)) (by simp only [execOp, hop, g1, run_range_map w T _ _ b es clock hm g4, Sem.run_bind, Result.andThen_ok, Sem.run_pure]) (by rw [ho]; exact hK _ _ ⟨_, _, hsat⟩)
  ·cases h
 ·cases h
def nmOf (G : List (Nat × List D)) (S : List (Nat × SV)) : Op → Option (Nat × List Prop)
 | .next x false =>
  match o1 G S x with
  | some (.r k, l) => some (k, l)
  | _ => none
 | _ => none
theorem SitIs.step {since c0 : Nat} {seen : Array Nat} {left : List (List UInt8)} {cu : Option (List UInt8)} (hs : SetIs es clock ks) (h : SitIs es clock since c0 seen left cu) {e : MapEntry} (he : e ∈ es.toList) (hn : seen.contains e.born = false) :
    ∃ s, s ∈ left ∧ e.key = kv s ∧ e.val = .bool true ∧ SitIs es clock since clock (seen.push e.born) (left.erase s) (some s) := by
  obtain ⟨s, hsk, hk⟩ := hs.key he
  have hmem : e ∈ es.toList.filter fun e => !seen.contains e.born := List.mem_filter.2 ⟨he, by rw [hn]; rfl⟩
  have hin : s ∈ left := by
    have h1 : e.key ∈ (es.toList.filter fun e => !seen.contains e.born).map (·.key) := List.mem_map_of_mem hmem
    rw [h.keys] at h1
    obtain ⟨t, h2, h3⟩ := List.mem_map.1 h1
    rw [hk] at h3
    rw [← kv_inj h3]; exact h2
  refine ⟨s, hin, hk, (hs.vals e he).1, h.hold, h.clk, h.clk, ?_, fun s' hs' => by cases hs'; exact ⟨rfl, e, he, hk, by simp⟩⟩
  have hinj : ∀ x, x ∈ es.toList → ∀ y, y ∈ es.toList → (x.key = y.key ↔ x.born = y.born) := by
    have hkn : (es.toList.map (·.key)).Nodup := by
      rw [hs.keys]
      exact List.Pairwise.map _ (fun a b hab e => hab (kv_inj e)) hs.nodup
    have hbn := hs.born
    intro x hx y hy
    obtain ⟨i, hi, rfl⟩ := List.getElem_of_mem hx
    obtain ⟨j, hj, rfl⟩ := List.getElem_of_mem hy
    constructor
    · intro e'
      have h1 : (es.toList.map (·.key))[i]'(by simpa using hi) = (es.toList.map (·.key))[j]'(by simpa using hj) := by simpa using e'
      have := (List.getElem_inj hkn).1 h1
      subst this; rfl
    · intro e'
      have h1 : (es.toList.map (·.born))[i]'(by simpa using hi) = (es.toList.map (·.born))[j]'(by simpa using hj) := by simpa using e'
      have := (List.getElem_inj hbn).1 h1
      subst this; rfl
  
  have hf : (es.toList.filter fun x => !(seen.push e.born).contains x.born) = (es.toList.filter fun x => !seen.contains x.born).filter fun x => !(isk s x.key) := by
    rw [List.filter_filter]
    apply List.filter_congr
    intro x hx
    have h1 : (x.born = e.born) ↔ x.key = kv s := by rw [← hk]; exact (hinj x hx e he).symm
    have h2 : (seen.push e.born).contains x.born = (seen.contains x.born || (x.born == e.born)) := by
      rw [Bool.eq_iff_iff]; simp
    rw [h2]
    have h3 : (!(isk s x.key)) = !(x.born == e.born) := by
      have h4 : isk s x.key = (x.born == e.born) := by rw [Bool.eq_iff_iff, isk_iff, beq_iff_eq]; exact h1.symm
      rw [h4]
    rw [h3]
    cases seen.contains x.born <;> cases (x.born == e.born) <;> rfl
  rw [hf]
  have h5 : ((es.toList.filter fun x => !seen.contains x.born).filter fun x => !(isk s x.key)).map (·.key) = ((es.toList.filter fun x => !seen.contains x.born).map (·.key)).filter fun v => !(isk s v) := by
    rw [List.filter_map]; rfl
  rw [h5, h.keys]
  have hln : left.Nodup := by
    have h6 : (left.map kv).Nodup := by
      rw [← show _ = left.map kv from h.keys]
      have hkn : (es.toList.map (·.key)).Nodup := by
        rw [hs.keys]
        exact List.Pairwise.map _ (fun a b hab e => hab (kv_inj e)) hs.nodup
      exact hkn.sublist (List.filter_sublist.map _)
    exact List.Pairwise.of_map kv (fun a b hab e => hab (by rw [e])) h6
  rw [hln.erase_eq_filter, List.filter_map]
  congr 1
theorem WL.nextSet {ops rest : List Oper} {o : Oper} {d k : Nat} {left : List (List UInt8)} {cu : Option (List UInt8)} {l : List Prop} (hg : o.guard = none) (ho : o.dst = some d) (hd : inB n d = true) (h : nmOf B.G (pickL st.S (rd ops o)) o.op = some (k, l)) (hl : vcs l) (hk : get st.O k = some (.sit left cu))
  (ht : ∀ s, s ∈ left → WL P B n ⟨(d, .tup [.v (.bool true), .v (.str s), .v (.bool true)]) :: st.S, (k, .sit (left.erase s) (some s)) :: st.O⟩ ops Q rest)
  (hf : left = [] → WL P B n ⟨(d, .tup [.v (.bool false)]) :: st.S, st.O⟩ ops Q rest) : WL P B n st ops Q (o :: rest) := by
 unfold nmOf at h
 split at h
 ·rename_i x hop
  split at h
  ·rename_i k' l' h1
   cases h
   intro a ρ w L hs
   have hS : ∀ t x, get (pickL st.S (rd ops o)) t = some x → get st.S t = some x := fun t x ht => (zO1 ht).2
   have e1 := zN1 hs hS h1 hl
   simp only [VRep] at e1
   obtain ⟨b, bm, es, clock, since, c0, seen, ks, g1, g2, g3, g4, g5, g6, g7, g8⟩ := hs.obj k _ hk
   refine wpList_step fun K hK => ?_
   rcases Go.run_next_at (P := P) w o.type b bm since c0 seen es clock g2 g6 g8.hold g8.last with ⟨h0, hrun⟩ | ⟨e, he, w1, hw1, hrun⟩
   ·have hle : left = [] := by
     have h5 : leftOf es seen = #[] := Array.eq_empty_of_size_eq_zero h0
     have h6 : es.toList.filter (fun e => !seen.contains e.born) = [] := by
      have := congrArg Array.toList h5
      simpa [leftOf] using this
     have h7 := g8.keys
     rw [h6] at h7
     exact List.map_eq_nil_iff.1 h7.symm
    have h4 := sat_put hs (d := d) (x := .tup [.v (.bool false)]) (v := .tuple #[.bool false]) hd (by simp [VRep, VReps, Rep])
    exact wpO_value hg (v := .tuple #[.bool false]) (w' := w) (by simp only [execOp, hop, e1.2, g1, Sem.run_bind, hrun, Result.andThen_ok, Sem.run_pure]) (by rw [ho]; exact hK _ _ (hf hle _ _ _ _ h4))
   ·have he2 : e ∈ es.toList ∧ seen.contains e.born = false := by
     simp only [leftOf, Array.toList_filter, List.mem_filter] at he
     exact ⟨he.1, by simpa using he.2⟩
    obtain ⟨s, q1, q2, q3, q4⟩ := g8.step g7 he2.1 he2.2
    have hdrew : w1.os = w.os ∧ w1.tape = w.tape ∧ w1.output = w.output ∧ w1.heap = w.heap := by rcases hw1 with rfl | rfl <;> exact ⟨rfl, rfl, rfl, rfl⟩
    obtain ⟨d1, d2, d3, d4⟩ := hdrew
    have hlt : b < w1.heap.size := by rw [d4]; exact (Array.getElem?_eq_some_iff.1 g2).1
    have hbne : bm ≠ b := fun e' => g5 (e' ▸ .inr g3)
    have h3 := sat_but hs (o' := .sit (left.erase s) (some s)) hk rfl (b := b) (by rw [g1]; rfl) (w' := ChangeMaps.setBlock w1 b (.mapIter (some bm) since (seen.push e.born) clock))
     ⟨d1, d2, d3, by simp [ChangeMaps.setBlock, d4], fun c _ hc => by simp only [ChangeMaps.setBlock]; rw [Array.getElem?_setIfInBounds_ne (fun e => hc e.symm), d4]⟩
     ⟨b, bm, es, clock, since, clock, _, ks, g1, by simp only [ChangeMaps.setBlock]; rw [Array.getElem?_setIfInBounds_self_of_lt hlt], g3, by simp only [ChangeMaps.setBlock, Array.size_setIfInBounds]; rw [d4]; exact g4, g5,
      by simp only [ChangeMaps.setBlock]; rw [Array.getElem?_setIfInBounds_ne (fun e => hbne e.symm), d4]; exact g6, g7, q4⟩
    have h4 := sat_put h3 (d := d) (x := .tup [.v (.bool true), .v (.str s), .v (.bool true)]) (v := .tuple #[.bool true, e.key, e.val]) hd (by simp [VRep, VReps, Rep, q2, q3])
    exact wpO_value hg (by simp only [execOp, hop, e1.2, g1, Sem.run_bind, hrun, Result.andThen_ok, Sem.run_pure]; rfl) (by rw [ho]; exact hK _ _ (ht s q1 _ _ _ _ h4))
  ·cases h
 ·cases h
theorem LeO.sit {l : List (List UInt8)} {cu : Option (List UInt8)} : LeO (.sit l cu) (.sit l none) := fun N ρ w X L v h => by
 obtain ⟨b, bm, es, clock, since, c0, seen, ks, h1, h2, h3, h4, h5, h6, h7, h8⟩ := h
 exact ⟨b, bm, es, clock, since, c0, seen, ks, h1, h2, h3, h4, h5, h6, h7, h8.hold, h8.last, h8.clk, h8.keys, fun s h => by cases h⟩
def enOf (G : List (Nat × List D)) (S : List (Nat × SV)) : Op → Option (Nat × List Prop)
 | .entry x =>
  match o1 G S x with
  | some (.r k, l) => some (k, l)
  | _ => none
 | _ => none
theorem q_entry {o : Oper} {sl ns : List Nat} {k : Nat} {left : List (List UInt8)} {s : List UInt8} {l : List Prop} (h : enOf B.G (pickL st.S sl) o.op = some (k, l)) (hl : vcs l) (hk : get (pickL st.O ns) k = some (.sit left (some s))) : QOk P B n o sl ns st (.tup [.v (.str s), .v (.bool true)]) := by
  intro st' a ρ w L hag hs
  have hS : ∀ t x, get (pickL st.S sl) t = some x → get st'.S t = some x := fun t x ht => by obtain ⟨h1, h2⟩ := zO1 ht; rw [hag.S t h1]; exact h2
  have hO : get st'.O k = some (.sit left (some s)) := by obtain ⟨h1, h2⟩ := zO1 hk; rw [hag.O k h1]; exact h2
  unfold enOf at h
  split at h
  · rename_i x hop
    split at h
    · rename_i k' l1 h1
      cases h
      have e1 := zN1 hs hS h1 hl
      simp only [VRep] at e1
      obtain ⟨b, bm, es, clock, since, c0, seen, ks, g1, g2, g3, g4, g5, g6, g7, g8⟩ := hs.obj k _ hO
      obtain ⟨q1, e, q2, q3, q4⟩ := g8.cur s rfl
      have hv := (g7.vals e q2).1
      have hf : es.find? (·.born == e.born) = some e := by rw [← Array.find?_toList]; exact find_born e es.toList g7.born q2
      refine ⟨.tuple #[e.key, e.val], ?_, by simp [VRep, VReps, Rep, q3, hv]⟩
      subst q1
      simp only [execOp, hop, e1.2, g1, Sem.run_bind, Instr.entry, getObj, Sem.run, g2, g6, Result.andThen, q4, bne_self_eq_false, Bool.false_eq_true, if_false, hf]
      rfl
    · cases h
  · cases h
def foldO {α σ : Type} (f : α → σ → Option σ) : List α → σ → Option σ
 | [], s => some s
 | x :: r, s => (f x s).bind (foldO f r)
def setFold {α σ : Type} (f : α → σ → Option σ) (ks : List α) (s : σ) : Option σ :=
  open Classical in if h : ∃ r, ∀ o : List α, o.Perm ks → foldO f o s = some r then some (Classical.choose h) else none
theorem setFold_all {α σ : Type} {f : α → σ → Option σ} {ks : List α} {s r : σ} (h : setFold f ks s = some r) : ∀ o : List α, o.Perm ks → foldO f o s = some r := by
 unfold setFold at h
 split at h
 ·rename_i hx
  cases h
  exact Classical.choose_spec hx
 ·cases h
theorem setFold_of {α σ : Type} {f : α → σ → Option σ} {ks : List α} {s r : σ} (h : ∀ o : List α, o.Perm ks → foldO f o s = some r) : setFold f ks s = some r := by
 have hx : ∃ r, ∀ o : List α, o.Perm ks → foldO f o s = some r := ⟨r, h⟩
 unfold setFold
 rw [dif_pos hx]
 have h1 := Classical.choose_spec hx ks (List.Perm.refl _)
 rw [h ks (List.Perm.refl _)] at h1
 exact h1.symm
theorem set_step {σ : Type} {f : List UInt8 → σ → Option σ} {left : List (List UInt8)} {s r : σ} {x : List UInt8} (h : ∀ o : List (List UInt8), o.Perm left → foldO f o s = some r) (hx : x ∈ left) :
  ∃ s', f x s = some s' ∧ ∀ o : List (List UInt8), o.Perm (left.erase x) → foldO f o s' = some r := by
 have h1 := h (x :: left.erase x) (List.perm_cons_erase hx).symm
 simp only [foldO] at h1
 cases hf : f x s with
 | none => rw [hf] at h1; cases h1
 | some s' =>
  refine ⟨s', rfl, fun o ho => ?_⟩
  have h2 := h (x :: o) ((ho.cons x).trans (List.perm_cons_erase hx).symm)
  simp only [foldO, hf, Option.bind_some] at h2
  exact h2
theorem set_end {σ : Type} {f : List UInt8 → σ → Option σ} {left : List (List UInt8)} {s r : σ} (h : ∀ o : List (List UInt8), o.Perm left → foldO f o s = some r) (hx : left = []) : r = s := by
 subst hx
 have h1 := h [] (List.Perm.refl _)
 simp only [foldO] at h1
 cases h1; rfl
theorem erase_lt {left : List (List UInt8)} {x : List UInt8} (hx : x ∈ left) : (left.erase x).length < left.length := by
 rw [List.length_erase_of_mem hx]
 have := List.length_pos_of_mem hx
 omega
theorem WC.sub {st' : St} {c : Code} (π : List (Nat × Nat)) (hsub : Sub B π st st') (h : WC P B n st' c Q) : WC P B n st c Q := fun a ρ w L hs => h a _ w L (hs.sub hsub)
theorem WC.loopM {body : Code} {σ : Type} (st' : σ → St) (I : σ → Prop) (μ : σ → Nat) (π : List (Nat × Nat)) (s0 : σ) (h0 : I s0) (hsub : Sub B π st (st' s0))
  (round : ∀ s, I s → WC P B n (st' s) body (Exit.then (AtNext B n st' (fun s' m' => I s' ∧ μ s' = m') (μ s)) Q)) : WC P B n st (.loop body) Q := by
 intro a ρ w L hs
 refine wp_loop_ghost (fun m a' w' => ∃ s ρ' L', Sat B n (st' s) ρ' a' w' L' ∧ I s ∧ μ s = m) (μ s0) ⟨s0, _, L, hs.sub hsub, h0, rfl⟩ ?_
 intro m a' w' ⟨s, ρ', L', s', i', hm⟩
 subst hm
 refine Code.wp_mono (fun e a2 w2 q => ?_) (round s i' a' ρ' w' L' s')
 cases e <;> first | exact q | skip
 obtain ⟨x2, ρ2, L2, m', s2, ⟨i2, i3⟩, hlt⟩ := q
 exact ⟨m', hlt, x2, ρ2, L2, s2, i2, i3⟩
theorem WQ.nextM {σ : Type} {st' : σ → St} {I : σ → Prop} {μ : σ → Nat} {m : Nat} (π : List (Nat × Nat)) (s : σ) (hsub : Sub B π st (st' s)) (hI : I s) (hlt : μ s < m) :
  WQ B n st (Exit.then (AtNext B n st' (fun s' m' => I s' ∧ μ s' = m') m) Q) .normal := fun a ρ w L hs => ⟨s, _, L, μ s, hs.sub hsub, ⟨hI, rfl⟩, hlt⟩
end Go.V
namespace Go.V
open Go.RowKit
variable {P : Program} {n : Nat} {B : Base} {st : St} {tb : List (Nat × TI)} {Q : Exit → Act → World → Prop} {ρ : Nat → Value} {a : Act} {w : World} {L : Nat → Prop}
def ntOf (G : List (Nat × List D)) (S : List (Nat × SV)) : Op → Option (Nat × Nat × List (List D) × List Prop)
 | .binOp .eql T x (.const (.slice none 0 0)) _ =>
  match o1 G S x with
  | some (.v (.sl z es), l) => some (T, z, es, l)
  | _ => none
 | _ => none
theorem WL.nilTest {ops rest : List Oper} {o : Oper} {d T z e : Nat} {es : List (List D)} {l : List Prop} (hT : P.underlying T = some (.slice e)) (hg : o.guard = none) (ho : o.dst = some d) (hd : inB n d = true)
  (h : ntOf B.G st.S o.op = some (T, z, es, l)) (hl : vcs l)
  (h1 : es = [] → WL P B n ⟨(d, .v (.bool true)) :: st.S, st.O⟩ ops Q rest) (h2 : WL P B n ⟨(d, .v (.bool false)) :: st.S, st.O⟩ ops Q rest) : WL P B n st ops Q (o :: rest) := fun a ρ w L hs => by
 unfold ntOf at h
 split at h
 ·rename_i T x yT hop
  split at h
  ·rename_i z' es' l' hx
   cases h
   have e1 := zN1 hs (fun _ _ h => h) hx hl
   simp only [VRep, Rep] at e1
   obtain ⟨base, cap, e1, ele, e2, e3⟩ := e1
   refine wpList_step fun K hK => ?_
   have hrun : (execOp a.eval o).run P w = .ok (.value (.bool base.isNone)) w := by
    simp only [execOp, hop, e1, eqGuard, Sem.run_bind]
    have := Lib.run_eql_slice_nil w T e base es.length cap 0 0 hT
    simp [Act.eval]
    rw [this, Result.andThen_ok]
   refine wpO_value hg hrun ?_
   rw [ho]
   cases hb : base with
   | none => exact hK _ _ (h1 (e2 hb) _ _ _ _ (sat_put hs (x := .v (.bool true)) hd (by simp only [VRep, Rep]; rfl)))
   | some b => exact hK _ _ (h2 _ _ _ _ (sat_put hs (x := .v (.bool false)) hd (by simp only [VRep, Rep]; rfl)))
  ·cases h
 ·cases h
theorem sat_junk (hs : Sat B n st ρ a w L) {d : Nat} {v : Value} (hd : inB n d = true) (hf : get st.S d = none) : Sat B n st ρ (a.put (some d) v) w L := by
 have hd' : d < n := by simpa [inB] using hd
 refine hs.go (Step.refl _ _) (fun b hb => hs.low b (.inr hb)) (fun _ h => ⟨h, rfl⟩) (by simp [Act.put, hs.size]) hs.defers (fun t y hy => ?_) hs.obj hs.inj
 simp only [Act.put]
 have hdt : d ≠ t := fun e => by subst e; rw [hf] at hy; cases hy
 obtain ⟨x, g1, g2⟩ := hs.slot t y hy
 exact ⟨x, by rw [Array.getElem?_setIfInBounds_ne hdt]; exact g1, g2⟩
def csOf (tb : List (Nat × TI)) (G : List (Nat × List D)) (S : List (Nat × SV)) : Op → Option (Nat × Nat × Nat × Int × List Prop)
 | .slice T x (some y) none none =>
  match get tb T, o1 G S x, o1 G S y with
  | some ⟨_, _, _, _, _, some z, _⟩, some (.r k, l), some (.v (.int _ j), m) => some (T, k, z, j, l ++ m)
  | _, _, _ => none
 | _ => none
theorem reps_nil {X : Nat → Prop} : Reps w X [] [] := by simp only [Reps]
theorem reps_cons {X : Nat → Prop} {d : D} {v : Value} {ds : List D} {vs : List Value} (h : Rep w X d v) (k : Reps w X ds vs) : Reps w X (d :: ds) (v :: vs) := by simp only [Reps]; exact ⟨v, vs, rfl, h, k⟩
theorem rep_s0 {X : Nat → Prop} : Rep w X (.str []) (.string ⟨⟨[]⟩⟩) := by simp only [Rep]
theorem rep_i0 {X : Nat → Prop} {k : IntKind} : Rep w X (.int k 0) (.int k 0) := by simp only [Rep]
theorem rep_b0 {X : Nat → Prop} : Rep w X (.bool false) (.bool false) := by simp only [Rep]
theorem rep_l0 {X : Nat → Prop} (z : Nat) : Rep w X (.sl z []) (.slice none 0 0) := by simp only [Rep]; exact ⟨none, 0, rfl, by simp, fun _ => trivial, fun _ h => by cases h⟩
theorem RepRows.tail {X : Nat → Prop} {z0 : List D} {zs : List Value} (hz : Reps w X z0 zs) : ∀ {es : List (List D)} {rows : List (List Value)} (j : Nat), RepRows w X es rows → RepRows w X (es.take j ++ List.replicate (es.length - j) z0) (rows.take j ++ List.replicate (rows.length - j) zs)
 | [], rows, j, h => by simp only [RepRows] at h; subst h; simp [RepRows]
 | e :: es, rows, 0, h => by
  simp only [RepRows] at h
  obtain ⟨c, r, rfl, h1, h2⟩ := h
  have := RepRows.tail hz 0 h2
  simp only [List.take_zero, List.nil_append, Nat.sub_zero, List.length_cons, List.replicate_succ] at this ⊢
  exact ⟨zs, _, rfl, hz, this⟩
 | e :: es, rows, j + 1, h => by
  simp only [RepRows] at h
  obtain ⟨c, r, rfl, h1, h2⟩ := h
  have := RepRows.tail hz j h2
  simp only [List.take_succ_cons, List.cons_append, List.length_cons, Nat.add_sub_add_right]
  exact ⟨c, _, rfl, h1, this⟩
theorem WL.clear (hP : TblOk P tb) {ops rest : List Oper} {o1' o2' : Oper} {d T T' k z e : Nat} {j : Int} {es es2 : List (List D)} {l : List Prop} {ti : TI} {zs : List Value} (z0 : List D)
  (hg1 : o1'.guard = none) (ho1 : o1'.dst = some d) (hd : inB n d = true) (hf : get st.S d = none)
  (h : csOf tb B.G st.S o1'.op = some (T, k, z, j, l)) (hl : vcs l) (hg2 : o2'.guard = none) (ho2 : o2'.dst = none) (hop2 : o2'.op = .call ⟨.builtin .clear, ⟨[.tmp d]⟩, ⟨[T]⟩⟩)
  (hT : P.underlying T = some (.slice e)) (hE : get tb e = some ti) (hzs : ti.zero.cells = zs.toArray) (hzl : zs.length = z) (hz0 : 0 < z) (hone : (zs.all fun u => u.oneCell') = true) (hrep : ∀ w X, Reps w X z0 zs)
  (hk : get st.O k = some (.row T' z es)) (hj : 0 ≤ j ∧ j ≤ (es.length : Int)) (he : es.take j.toNat ++ List.replicate (es.length - j.toNat) z0 = es2)
  (hw : WL P B n ⟨st.S, (k, .row T' z es2) :: st.O⟩ ops Q rest) : WL P B n st ops Q (o1' :: o2' :: rest) := fun a ρ w L hs => by
 subst he
 have hd' : d < n := by simpa [inB] using hd
 unfold csOf at h
 split at h
 ·rename_i T x y hop
  split at h
  ·rename_i z' so k' l1 ik j' l2 hT1 h1 h2
   cases h
   obtain ⟨v1, v2⟩ := zR1 hl
   have e1 := zN1 hs (fun _ _ h => h) h1 v1
   have e2 := zN1 hs (fun _ _ h => h) h2 v2
   simp only [VRep, Rep] at e1 e2
   obtain ⟨j1, rfl⟩ : ∃ j1 : Nat, j = (j1 : Int) := ⟨j.toNat, by omega⟩
   obtain ⟨rows, g1, g2, g3, g4⟩ := hs.obj k _ hk
   have hlen := g1.length
   obtain ⟨el, hdd, hsz⟩ := el_size (hP.get hT1) rfl w
   have htail : ∀ w', RepRows w' (un B.F L) es rows → RepRows w' (un B.F L) (es.take j1 ++ List.replicate (es.length - j1) z0) (rows.take j1 ++ List.replicate (rows.length - j1) zs) := fun w' h => RepRows.tail (hrep w' _) j1 h
   have hzero := (hP.get hE).zero_run
   rw [Int.toNat_natCast] at hw
   refine wpList_step fun K hK => ?_
   rcases g3.2 with ⟨hv, hn0⟩ | ⟨g, cap, cur, fz, hv, hheap, hfz, hnc, hcm, hcs, htake⟩
   ·have hes : es = [] := List.eq_nil_of_length_eq_zero (by omega)
    subst hes
    have hj0 : j1 = 0 := by simp at hj; omega
    subst hj0
    refine wpO_value hg1 (v := .slice none 0 0) (w' := w) ?_ ?_
    ·simp [execOp, hop, e1.2, hv, e2, Instr.sliceAt, Instr.slice, Instr.sliceBounds, Instr.sliceBound, asIntOf, hdd, hsz]
    rw [ho1]
    refine hK _ _ ?_
    refine wpList_step fun K2 hK2 => ?_
    have hev : (a.put (some d) (.slice none 0 0)).eval (.tmp d) = .slice none 0 0 := by simp [Act.eval, Act.put, hs.size, hd']
    refine wpO_value hg2 (v := .tuple #[]) (w' := w) ?_ ?_
    ·simp only [execOp, hop2, resolve, invoke, builtin, Sem.run_bind, Sem.run_pure, Result.andThen_ok, List.map_toArray, List.map_cons, List.map_nil, hev]
     simp [Builtin.clear_, run_underlying hT]
    rw [ho2]
    have hs1 := sat_junk hs (v := .slice none 0 0) hd hf
    refine hK2 _ _ (hw _ ρ w L ?_)
    simp only [List.take_nil, List.length_nil, List.replicate_zero, List.append_nil, Nat.sub_zero]
    have : Sat B n ⟨st.S, (k, .row T' z []) :: st.O⟩ ρ (a.put (some d) (.slice none 0 0)) w L := by
     refine hs1.go (Step.refl _ _) (fun b hb => hs1.low b (.inr hb)) (fun m h => ⟨nmO_cons h, rfl⟩) hs1.size hs1.defers (fun t y hy => by obtain ⟨x, p1, p2⟩ := hs1.slot t y hy; exact ⟨x, p1, p2.keep (fun m h => ⟨nmO_cons h, rfl⟩) (Keep.refl _ _)⟩) (fun m o hm => ?_) (fun m o m' o' h1 h2 => ?_)
     ·by_cases e : k = m
      ·subst e; rw [zJ1] at hm; cases hm
       exact (hs1.obj k _ hk).keep (fun m h => ⟨nmO_cons h, rfl⟩) (Keep.refl _ _) (fun _ b _ => ⟨rfl, id⟩)
      ·rw [zI1 _ _ e] at hm
       exact (hs1.obj m o hm).keep (fun m h => ⟨nmO_cons h, rfl⟩) (Keep.refl _ _) (fun _ b _ => ⟨rfl, id⟩)
     ·have q : ∀ {m o}, get ((k, Ob.row T' z []) :: st.O) m = some o → get st.O m = some o := fun {m o} hm => by
       by_cases e : k = m
       ·subst e; rw [zJ1] at hm; cases hm; exact hk
       ·rwa [zI1 _ _ e] at hm
      exact hs1.inj m o m' o' (q h1) (q h2)
    exact this
   ·have hsz2 : (sizeOf el).run P w = .ok z w := hsz
    have hjl : j1 ≤ es.length := by omega
    obtain ⟨ad, had⟩ : ∃ ad : Option Addr, (if cap = j1 then some ⟨g, 0, none⟩ else some ⟨g, j1 * z, none⟩) = ad := ⟨_, rfl⟩
    refine wpO_value hg1 (v := .slice ad (rows.length - j1) (cap - j1)) (w' := w) ?_ ?_
    ·have hb1 : (0 : Int) ≤ (j1 : Int) ∧ (j1 : Int) ≤ (rows.length : Int) := by omega
     have hcj : (cap = j1) ∨ cap ≠ j1 := by omega
     rw [← had]
     simp [execOp, hop, e1.2, hv, e2, Instr.sliceAt, Instr.slice, Instr.sliceBounds, Instr.sliceBound, asIntOf, hdd, hsz2, hb1, Addr.add_lit]
     all_goals (split <;> (intro h; omega))
    rw [ho1]
    refine hK _ _ ?_
    refine wpList_step fun K2 hK2 => ?_
    have hev : ∀ v, (a.put (some d) v).eval (.tmp d) = v := fun v => by simp [Act.eval, Act.put, hs.size, hd']
    have hs1 := sat_junk hs (v := .slice ad (rows.length - j1) (cap - j1)) hd hf
    by_cases hend : rows.length - j1 = 0
    ·refine wpO_value hg2 (v := .tuple #[]) (w' := w) ?_ ?_
     ·simp only [execOp, hop2, resolve, invoke, builtin, Sem.run_bind, Sem.run_pure, Result.andThen_ok, List.map_toArray, List.map_cons, List.map_nil, hev, hend]
      cases ad <;> simp [Builtin.clear_, run_underlying hT]
     rw [ho2]
     refine hK2 _ _ (hw _ ρ w L ?_)
     have hx : es.take j1 ++ List.replicate (es.length - j1) z0 = es := by rw [show es.length - j1 = 0 by omega, List.take_of_length_le (by omega)]; simp
     rw [hx]
     have q : ∀ {m o}, get ((k, Ob.row T' z es) :: st.O) m = some o → get st.O m = some o := fun {m o} hm => by
      by_cases e : k = m
      ·subst e; rw [zJ1] at hm; cases hm; exact hk
      ·rwa [zI1 _ _ e] at hm
     refine hs1.go (Step.refl _ _) (fun b hb => hs1.low b (.inr hb)) (fun m h => ⟨nmO_cons h, rfl⟩) hs1.size hs1.defers (fun t y hy => by obtain ⟨x, p1, p2⟩ := hs1.slot t y hy; exact ⟨x, p1, p2.keep (fun m h => ⟨nmO_cons h, rfl⟩) (Keep.refl _ _)⟩) (fun m o hm => (hs1.obj m o (q hm)).keep (fun m h => ⟨nmO_cons h, rfl⟩) (Keep.refl _ _) (fun _ b _ => ⟨rfl, id⟩)) (fun m o m' o' h1 h2 => hs1.inj m o m' o' (q h1) (q h2))
    ·have hne : cap ≠ j1 := by omega
     rw [if_neg hne] at had
     subst had
     obtain ⟨q, hq⟩ : ∃ q, rows.length - j1 = q + 1 := ⟨rows.length - j1 - 1, by omega⟩
     have hzc := zeroCells_rows zs (by omega) (q + 1)
     have hrl : (List.replicate (q + 1) zs).flatten.length = (q + 1) * z := by
      rw [flat_length (sz := z) (fun r hr => by rw [(List.mem_replicate.1 hr).2]; exact hzl), List.length_replicate]
     have hmul : j1 * z + (q + 1) * z ≤ cap * z := by rw [← Nat.add_mul]; exact Nat.mul_le_mul_right _ (by omega)
     have hmul2 : j1 * z + (q + 1) * z = rows.length * z := by rw [← Nat.add_mul]; congr 1; omega
     have hst := run_storeCells_open P g (j1 * z) T' fz (List.replicate (q + 1) zs).flatten 0 cur w hheap hfz (by rw [hrl]; omega) (fun v hv' => by
      obtain ⟨r, hr1, hr2⟩ := List.mem_flatten.1 hv'
      rw [(List.mem_replicate.1 hr1).2] at hr2
      exact List.all_eq_true.1 hone v hr2)
     rw [Nat.add_zero] at hst
     have hbut : But w (w.setRow g (cur.toList.take (j1 * z) ++ (List.replicate (q + 1) zs).flatten ++ cur.toList.drop (j1 * z + (List.replicate (q + 1) zs).flatten.length)).toArray) g := ⟨rfl, rfl, rfl, by simp, fun c _ hc => setRow_other w g c _ hc⟩
     have hL := g4 g (by rw [hv]; rfl)
     have hstep : Step L w L (w.setRow g (cur.toList.take (j1 * z) ++ (List.replicate (q + 1) zs).flatten ++ cur.toList.drop (j1 * z + (List.replicate (q + 1) zs).flatten.length)).toArray) := ⟨rfl, rfl, rfl, by simp, fun c h1 h2 => hbut.block c h1 (fun e => h2 (e ▸ hL)), fun _ h => .inl h⟩
     refine wpO_value hg2 (v := .tuple #[]) (w' := w.setRow g (cur.toList.take (j1 * z) ++ (List.replicate (q + 1) zs).flatten ++ cur.toList.drop (j1 * z + (List.replicate (q + 1) zs).flatten.length)).toArray) ?_ ?_
     ·simp only [execOp, hop2, resolve, invoke, builtin, Sem.run_bind, Sem.run_pure, Result.andThen_ok, List.map_toArray, List.map_cons, List.map_nil, hev, hq]
      simp [Builtin.clear_, run_underlying hT, hzero, hzs, hzc, hst]
     rw [ho2]
     refine hK2 _ _ (hw _ ρ _ L ?_)
     refine sat_but hs1 (o' := .row T' z (es.take j1 ++ List.replicate (es.length - j1) z0)) hk rfl (by rw [hv]; rfl) hbut ?_
     have hcl : cur.toList.length = cap * z := by rw [Array.length_toList]; exact hcs
     refine ⟨rows.take j1 ++ List.replicate (rows.length - j1) zs, htail _ (RepRows.keep (keep_of_step hstep) _ _ g1), fun r hr => ?_, ?_, g4⟩
     ·rcases List.mem_append.1 hr with h1 | h1
      ·exact g2 r (List.mem_of_mem_take h1)
      ·rw [(List.mem_replicate.1 h1).2]; exact hzl
     ·have hlen2 : (rows.take j1 ++ List.replicate (rows.length - j1) zs).length = rows.length := by rw [List.length_append, List.length_take, List.length_replicate]; omega
      have hflat : (rows.take j1 ++ List.replicate (rows.length - j1) zs).flatten = cur.toList.take (j1 * z) ++ (List.replicate (q + 1) zs).flatten := by
       rw [List.flatten_append, flat_take j1 g2, ← htake, List.take_take, Nat.min_eq_left (Nat.mul_le_mul_right _ (by omega)), hq]
      rw [hlen2, hflat]
      refine ⟨?_, .inr ⟨g, cap, _, fz, hv, setRow_heap w g cur _ T' fz hheap, ?_, hnc, hcm, ?_, ?_⟩⟩
      ·rw [List.length_append, hrl, List.length_take, hcl]
       omega
      ·have : (cur.toList.take (j1 * z) ++ (List.replicate (q + 1) zs).flatten ++ cur.toList.drop (j1 * z + (List.replicate (q + 1) zs).flatten.length)).toArray.size = cur.size := by
        simp only [List.size_toArray, List.length_append, List.length_take, List.length_drop, hrl, hcl, hcs]; omega
       rw [this]; exact hfz
      ·simp only [List.size_toArray, List.length_append, List.length_take, List.length_drop, hrl, hcl]; omega
      ·simp only
       rw [List.take_append_of_le_length (by rw [List.length_append, hrl, List.length_take, hcl]; omega), List.take_of_length_le (by rw [List.length_append, hrl, List.length_take, hcl]; omega)]
  ·cases h
 ·cases h
end Go.V
end zVz
