/- Packed by pack.py. -/
import Derived.Test.YtfkefolbabniaaaGreatDoorQx2
import Derived.Lib.LaidTab
import Derived.Laws.Externs
import Derived.Shelf.Strings.SlTrimAscii
import Derived.Test.YtfkefolbabniaaaGreatDoorQx1
import Derived.Test.YtfkefolbabniaaaGreatDoorCards
import Derived.Test.YtfkefolbabniaaaGreatDoorTie
import Derived.Lay
import Derived.ProofKit
import Derived.MakeChecks
import Derived.Deep.DeepHandedRow
import Derived.Deep.DeepWitnessRowRef
import Derived.SevenTiedAt
import Derived.Stop.Joined
import Derived.Lib.SlicesCompact
section
set_option linter.unusedVariables false
namespace Go.Proofs.YtfkefolbabniaaaGreatDoor
open Go.V Go.C Go.RowKit
theorem sideT {P : Prop} (h : P := by first | exact trivial | assumption | (refine not_i ?_; assumption) | (refine and_l ?_; assumption) | decide | omega | (simp [vcs]; done) | (simp only [List.length_map]; omega)) : P := h
theorem lenT {P : Prop} (h : P := by first | (simp only [List.length_map]; done) | (simp only [List.length_map]; rfl) | rfl) : P := h
theorem tdT {P : Prop} (h : P := by first | (simp only [List.map_take, List.map_drop]; done) | (simp only [List.map_take, List.map_drop]; rfl) | rfl) : P := h
theorem sideR {P : Prop} (h : P := by repeat' (first | exact trivial | assumption | intro _ | apply And.intro | exact sideT | (refine and_i ?_ ?_))) : P := h
theorem lr {B : Base} {n : Nat} {Q : Exit → Act → World → Prop} {ops : List Oper} (k : Nat) {rest : List Oper} {st st' : St} {vc : List Prop} {rest' : List Oper} (h : V.run tb B.G n ops k rest st [] = some (st', vc, rest')) (hv : vcs vc) (hk : WL Tryz.prog B n st' ops Q rest') : WL Tryz.prog B n st ops Q rest := WL.run tbOk k h hv hk
theorem wr {B : Base} {n : Nat} {Q : Exit → Act → World → Prop} {ops : List Oper} (k : Nat) {rest : List Oper} {st st' : St} {done : List Key} {vc : List Prop} {rest' : List Oper} {ks' : List Key} (h : runR tb B.G n ops k rest st [] done = some (st', vc, rest', ks')) (hv : vcs vc) (hk : WR Tryz.prog B n st' ops Q ks' rest') : WR Tryz.prog B n st ops Q done rest := WR.run tbOk k h hv hk
def gl : List (Nat × List D) := [(0, [.int .i64 2, .int .i64 4, .int .i64 6, .int .i64 8])]
structure WG (wg : World) : Prop where
 glob : GlobOk gl wg (fun _ => False)
 low : 9 ≤ wg.heap.size
 maxLen : ∃ m, wg.cell? ⟨1, 0, none⟩ = some (.int .i64 m)
theorem WG.cell {wg w : World} {X : Nat → Prop} (hw : WG wg) (he : Ext wg w X) {b : Nat} (hb : b < 9) : w.cell? ⟨b, 0, none⟩ = wg.cell? ⟨b, 0, none⟩ := by
 have := hw.low
 exact World.cell?_of_block (w := wg) (he.block b (by omega)).1
/-- A function that is handed nothing of the caller's own. -/
theorem con_pure {P : Program} {wg : World} {G : List (Nat × List D)} {f : FuncId} {args : List SV} {r : SV}
    (h : ∀ w ρ X vals, (∀ b, X b → b < w.heap.size) → Ext wg w X → VReps (nmO []) ρ w X args vals → Calls P f vals.toArray w fun e w' => ∃ v, e = .returned v ∧ Below w.heap.size w w' ∧ VRep (nmO []) ρ w' X r v) : Con P wg G f args [] r [] := by
  intro w ρ F L vals hlow hdis hext hglob hobs hargs
  refine (h w ρ (un F L) vals hlow hext hargs).mono ?_
  rintro e w' ⟨v, rfl, hb, hr⟩
  refine ⟨v, ρ, L, rfl, hr, ⟨(fun k o hk => by cases hk), (fun k o k' o' hk => by cases hk)⟩, step_of_below hb, fun b hL => Nat.lt_of_lt_of_le (hlow b (.inr hL)) hb.size, fun k v hk => by cases hk⟩
theorem hasPrefixS_con {wg : World} (hw : WG wg) {s p : Str} {r : Bool} (h : hasPrefixS s p = some r) : Con Tryz.prog wg gl 86 [.v (.str s), .v (.str p)] [] (.v (.bool r)) [] := by
 unfold hasPrefixS at h
 cases h
 refine con_pure fun w ρ X vals hlow hext hargs => ?_
 simp only [VReps, VRep, Rep] at hargs
 obtain ⟨_, _, rfl, rfl, _, _, rfl, rfl, rfl⟩ := hargs
 refine (Tryz.strings_HasPrefix ⟨⟨s⟩⟩ ⟨⟨p⟩⟩ w).mono ?_
 rintro e w' ⟨rfl, rfl⟩
 exact ⟨_, rfl, Below.refl _ _, by simp only [VRep, Rep]⟩
theorem trimS_con {wg : World} (hw : WG wg) {s c r : Str} (h : trimS s c = some r) : Con Tryz.prog wg gl 105 [.v (.str s), .v (.str c)] [] (.v (.str r)) [] := by
 have _ := Tryz.strings_Trim_one
 unfold trimS at h
 split at h
 ·rename_i hn
  cases h
  refine con_pure fun w ρ X vals hlow hext hargs => ?_
  simp only [VReps, VRep, Rep] at hargs
  obtain ⟨_, _, rfl, rfl, _, _, rfl, rfl, rfl⟩ := hargs
  refine (Any.strings_Trim_laid Tryz.lays160 (by kernel_rfl) ⟨⟨s⟩⟩ ⟨⟨c⟩⟩ w hn.1 hn.2.1 (ascii_of_all hn.2.2)).mono ?_
  rintro e w' ⟨rfl, hb⟩
  exact ⟨_, rfl, hb, by simp only [VRep, Rep]⟩
 ·cases h
theorem reps_strs {w : World} {X : Nat → Prop} {l : List Str} {b o : Nat} (h : RowsAt w X 1 (l.map eStr) b o) : ∀ (j : Nat) (x : ByteArray), (l.map fun s => (⟨⟨s⟩⟩ : ByteArray))[j]? = some x → w.cell? ⟨b, o + j, none⟩ = some (.string x) := by
 intro j x hj
 rw [List.getElem?_map] at hj
 cases hs : l[j]? with
 | none => rw [hs] at hj; cases hj
 | some s =>
  rw [hs] at hj
  simp only [Option.map_some, Option.some.injEq] at hj
  subst hj
  obtain ⟨cs, h1, h2, h3⟩ := h.get (i := j) (e := eStr s) (by simp [hs])
  simp only [eStr, Reps, Rep] at h1
  obtain ⟨v, r, rfl, rfl, rfl⟩ := h1
  have := h3 0 _ rfl
  simpa using this
/-- A row that was made is data. -/
theorem rep_strs {w w' : World} {X : Nat → Prop} {T : Nat} {v : Value} {l : List Str} (hlow : ∀ b, X b → b < w.heap.size) (h : w'.ownsRow w.heap.size T 1 v l.length (l.map fun s => Value.string ⟨⟨s⟩⟩)) : Rep w' X (.sl 1 (l.map eStr)) v := by
  have hrows : RepRows w' X (l.map eStr) (l.map fun s => [Value.string ⟨⟨s⟩⟩]) := by
    have : ∀ l : List Str, RepRows w' X (l.map eStr) (l.map fun s => [Value.string ⟨⟨s⟩⟩]) := by
      intro l
      induction l with
      | nil => simp [RepRows]
      | cons s l ih => simp only [List.map_cons, RepRows]; exact ⟨_, _, rfl, by simp [eStr, Reps, Rep], ih⟩
    exact this l
  have hfl : (l.map fun s => [Value.string ⟨⟨s⟩⟩]).flatten = l.map fun s => Value.string ⟨⟨s⟩⟩ := by
    have : ∀ l : List Str, (l.map fun s => [Value.string ⟨⟨s⟩⟩]).flatten = l.map fun s => Value.string ⟨⟨s⟩⟩ := by
      intro l
      induction l with
      | nil => rfl
      | cons s l ih => simp only [List.map_cons, List.flatten_cons, ih]; rfl
    exact this l
  refine rep_of_row (T := T) (X := X) (X' := X) (Keep.refl _ _) hrows (fun r hr => ?_) (OwnsR.of (base := w.heap.size) (by rw [hfl, List.length_map]; exact h)) (fun b hb hx => ?_)
  · obtain ⟨s, _, rfl⟩ := List.mem_map.1 hr; rfl
  · rcases h.2 with ⟨e, _⟩ | ⟨g, cap, cur, e, hge, _⟩
    · rw [e] at hb; simp [ob] at hb
    · rw [e] at hb; simp only [ob, Option.some.injEq] at hb; subst hb; exact Nat.lt_irrefl _ (Nat.lt_of_lt_of_le (hlow _ hx) hge)
theorem cloneS_con {wg : World} (hw : WG wg) {l r : List Str} (h : cloneS l = some r) : Con Tryz.prog wg gl 77 [.v (.sl 1 (l.map eStr))] [] (.v (.sl 1 (r.map eStr))) [] := by
 unfold cloneS at h
 split at h
 ·rename_i hn
  cases h
  refine con_pure fun w ρ X vals hlow hext hargs => ?_
  simp only [VReps, VRep, Rep] at hargs
  obtain ⟨_, _, rfl, ⟨base, cap, rfl, h2, h3, h4⟩, rfl⟩ := hargs
  cases hb : base with
  | none =>
   have := h3 hb
   simp only [List.map_eq_nil_iff] at this
   subst this
   refine (Tryz.slices_Clone_string_nil 0 cap w).mono ?_
   rintro e w' ⟨rfl, rfl⟩
   exact ⟨_, rfl, Below.refl _ _, by simp only [VRep, Rep]; exact ⟨none, 0, rfl, Nat.le_refl _, fun _ => rfl, fun ad h => by cases h⟩⟩
  | some ad =>
   by_cases hl : l = []
   ·subst hl
    refine (Tryz.slices_Clone_string_zero ad cap w).mono ?_
    rintro e w' ⟨v', rfl, ho, _, hbel⟩
    exact ⟨_, rfl, hbel, by simp only [VRep]; exact rep_strs (l := []) hlow ho⟩
   ·obtain ⟨h5, h6, h7, h8⟩ := h4 ad hb (by simpa using hl)
    obtain ⟨b, o, q⟩ := ad
    simp only at h5; subst h5
    have hcells := reps_strs h8
    rw [List.length_map]
    refine (Tryz.slices_Clone_string b o l.length cap (l.map fun s => (⟨⟨s⟩⟩ : ByteArray)) w (by simp) hn (fun j hj => by
     have := hcells j ((l.map fun s => (⟨⟨s⟩⟩ : ByteArray))[j]) (by simp)
     rw [this]; simp [List.getD_eq_getElem?_getD, List.getElem?_eq_getElem hj])).mono ?_
    rintro e w' ⟨v', rfl, ho, _, hbel⟩
    refine ⟨_, rfl, hbel, ?_⟩
    have e1 : ((l.map fun s => (⟨⟨s⟩⟩ : ByteArray)).take l.length).map Value.string = l.map fun s => Value.string ⟨⟨s⟩⟩ := by rw [List.take_of_length_le (by simp), List.map_map]; rfl
    rw [e1] at ho
    simp only [VRep]
    exact rep_strs hlow ho
 ·cases h
end Go.Proofs.YtfkefolbabniaaaGreatDoor
end

section
set_option linter.unusedVariables false
set_option linter.unusedSimpArgs false
namespace Go.Proofs.YtfkefolbabniaaaGreatDoor
open Go.V Go.C Go.ChangeShapes Go.WideShapes Go.ChangeAt Go.RowKit
theorem own : ownKnob Tryz.prog.godebug = none := by kernel_rfl
theorem laidOut : laidOutB Tryz.prog = true := by kernel_rfl
theorem mapsRow : mapsRowed Tryz.prog = true := by kernel_rfl
theorem slicesOk1 : slicesOkB Tryz.prog = true := by kernel_rfl
theorem wf_i64 {n : Int} (h : (Lit.int .i64 n).wf = true) : okI_i64 n := by
 simp only [Lit.wf, Bool.and_eq_true, decide_eq_true_eq, IntKind.min, IntKind.max] at h
 unfold okI_i64
 constructor <;> (have h1 := h.1; have h2 := h.2; revert h1 h2; simp [IntKind.bits, IntKind.signed] <;> omega)
theorem open_3 {H : Type} {enc : TypeId × Value → H} {W : World} {X : Nat → Prop} (hX : ∀ b, X b → W.heap.size ≤ b) : Opens enc Tryz.prog W X 3 (fun l => ∃ a : Int, l = eInt_i64 a ∧ okI_i64 a) := by
 intro base sp held fuel cs x h
 obtain ⟨l, ⟨n, rfl, hn⟩, hr⟩ := op_int Tryz.underlying3 _ _ _ _ _ _ h
 exact ⟨_, ⟨n, rfl, wf_i64 hn⟩, hr⟩
theorem open_22 {H : Type} {enc : TypeId × Value → H} {W : World} {X : Nat → Prop} (hX : ∀ b, X b → W.heap.size ≤ b) : Opens enc Tryz.prog W X 22 (fun l => ∃ a : (List Int), l = [.sl 1 (a.map eInt_i64)] ∧ (a.length ≤ 9223372036854775807 ∧ ∀ x, x ∈ a → okI_i64 x)) := by
 intro base sp held fuel cs x h
 obtain ⟨l, ⟨es, rfl, hl, he⟩, hr⟩ := op_slice Tryz.underlying22 (z := 1) (by kernel_rfl) (by decide) hX (open_3 hX) _ _ _ _ _ _ h
 obtain ⟨xs, rfl, hx⟩ := list_map he
 exact ⟨_, ⟨xs, rfl, by simpa [maxLen] using hl, hx⟩, hr⟩
theorem wg_of {W : World} (hL : laidMetH Tryz.prog Rows.classifyPathRow.laid W) (hsh : W.ShapedOpen Tryz.prog) : WG W := by
  rw [MakeChecks.laidMetH_plain _ _ _ (by kernel_rfl)] at hL
  refine ⟨?_, ?_, ?_⟩
  · exact glob_tab (name := "customs/nomenclature.lengths") (k := .i64) (zs := [2, 4, 6, 8]) (laid_tab hL (List.mem_cons_of_mem _ (List.mem_cons.2 (.inl (by kernel_rfl)))) (g := 0) (by kernel_rfl) (t := 141) (by kernel_rfl) Tryz.underlying141 Tryz.underlying3 (by kernel_rfl) (by kernel_rfl)) (by kernel_rfl)
  · have hlen : Tryz.prog.globals.size = 9 := by kernel_rfl
    obtain ⟨⟨z, t⟩, hz⟩ := Option.isSome_iff_exists.1 (show (((begin Tryz.prog (fun _ _ => 0) default).world.heap[8]?).bind Obj.row?).isSome = true by kernel_rfl)
    obtain ⟨cs, hh, _⟩ := hsh.1 8 _ _ (by omega) hz
    have := (Array.getElem?_eq_some_iff.1 hh).1
    omega
  · exact cell_of_shapedOpen_int hsh (of_decide_eq_true (by kernel_rfl)) (zero := #[.int .i64 0]) (t := 3) (by kernel_rfl) (by kernel_rfl) (by kernel_rfl) (by kernel_rfl) (by kernel_rfl)
end Go.Proofs.YtfkefolbabniaaaGreatDoor
end

section
set_option linter.unusedVariables false
set_option linter.unusedSimpArgs false
namespace Go.Proofs.YtfkefolbabniaaaGreatDoor
open Go.V Go.C Go.RowKit
variable {B : Base} {n : Nat} {st st' : St} {Q : Exit → Act → World → Prop} {ops rest rest' : List Oper}
theorem lr1 (h : V.run tb B.G n ops 1 rest st [] = some (st', [], rest')) (hk : WL Tryz.prog B n st' ops Q rest') : WL Tryz.prog B n st ops Q rest := lr 1 h trivial hk
theorem lr2 (h : V.run tb B.G n ops 2 rest st [] = some (st', [], rest')) (hk : WL Tryz.prog B n st' ops Q rest') : WL Tryz.prog B n st ops Q rest := lr 2 h trivial hk
theorem lr3 (h : V.run tb B.G n ops 3 rest st [] = some (st', [], rest')) (hk : WL Tryz.prog B n st' ops Q rest') : WL Tryz.prog B n st ops Q rest := lr 3 h trivial hk
theorem lr4 (h : V.run tb B.G n ops 4 rest st [] = some (st', [], rest')) (hk : WL Tryz.prog B n st' ops Q rest') : WL Tryz.prog B n st ops Q rest := lr 4 h trivial hk
theorem lr5 (h : V.run tb B.G n ops 5 rest st [] = some (st', [], rest')) (hk : WL Tryz.prog B n st' ops Q rest') : WL Tryz.prog B n st ops Q rest := lr 5 h trivial hk
theorem lr6 (h : V.run tb B.G n ops 6 rest st [] = some (st', [], rest')) (hk : WL Tryz.prog B n st' ops Q rest') : WL Tryz.prog B n st ops Q rest := lr 6 h trivial hk
section
variable {P : Program} {id id2 : Nat} {l : List Oper} {x y z : Code}
theorem sr (h : WL P B n st l (Exit.then (y.wp P Q) Q) l) : WC P B n st (.seq (.region id l.toArray false) y) Q := WC.seq (WC.region h)
theorem nn (h : WC P B n st y Q) : WL P B n st ops (Exit.then (y.wp P Q) Q) [] := WL.nil (WQ.thenNormal h)
theorem ns (h : WL P B n st l (Exit.then (y.wp P Q) Q) l) : WL P B n st ops (Exit.then ((Code.seq (.region id l.toArray false) y).wp P Q) Q) [] := WL.nil (WQ.thenNormal (WC.seq (WC.region h)))
theorem nr (h : WQ B n st Q .ret) : WL P B n st ops (Exit.then ((Code.ret).wp P Q) Q) [] := WL.nil (WQ.thenNormal (WC.ret h))
theorem kn (h : WC P B n st y Q) : WC P B n st .skip (Exit.then (y.wp P Q) Q) := WC.skip (WQ.thenNormal h)
theorem sb (h : WC P B n st x (Exit.inBlock id (Exit.then (y.wp P Q) Q))) : WC P B n st (.seq (.block id x) y) Q := WC.seq (WC.block h)
theorem rb {K : Act → World → Prop} (h : WQ B n st Q .ret) : WQ B n st (Exit.inBlock id (Exit.then K Q)) .ret := WQ.blockRet (WQ.thenRet h)
theorem eb {K : Act → World → Prop} (h : WQ B n st Q .normal) : WQ B n st (Exit.then K (Exit.inBlock id Q)) (.exit id) := WQ.thenExit (WQ.blockExit h)
theorem bn (h : WC P B n st y Q) : WQ B n st (Exit.inBlock id (Exit.then (y.wp P Q) Q)) .normal := WQ.blockNormal (WQ.thenNormal h)
end
theorem eqs {P : Prop} (h : P := by repeat' (first | exact trivial | exact rfl | apply And.intro)) : P := h
theorem sub {B : Base} {π : List (Nat × Nat)} {S1 S2 : St} (h1 : subS π S1.S S2.S := by exact eqs) (h2 : subO π S1.O S2.O := by exact eqs) (h3 : wfAllS S2.O S2.S = true := by rfl) (h4 : wfAllO S2.O S2.O = true := by rfl) (h5 : injB π S2.O = true := by rfl) (h6 : pinAll π S2.O B.N = true := by rfl) : Sub B π S1 S2 := ⟨h1, h2, h3, h4, h5, h6⟩
theorem rt {P : Program} {fn : Func} {R : Ending → World → Prop} {r : SV} {O' : List (Nat × Ob)} (hP : TblOk P tb)
  (hR : ∀ v ρ' w' L', VRep (nmO O') ρ' w' (un B.F L') r v → ObsOk O' ρ' w' (un B.F L') L' → Step B.L0 B.w0 L' w' → (∀ b, L' b → b < w'.heap.size) → (∀ k v, get B.N k = some v → nmO O' k → ρ' k = v) → R (.returned v) w')
  {l : List ResultVar} {xs : List SV} {e : Exit} (he : e = .ret ∨ e = .normal := by exact .inl rfl) (hr : fn.results = l.toArray := by rfl) (h : resL tb st l = some xs := by rfl) (hx : Le (resV xs) (ren [] r) := by exact Le.refl _) (hO : subO [] st.O O' := by exact eqs) (hw : wfB O' r = true := by rfl) (hwO : wfAllO O' O' = true := by rfl) (hi : injB [] O' = true := by rfl)
  (hpn : pinFix [] B.N = true := by rfl) : WQ B n st (bodyPost P fn R) e := WQ.rets hP hR [] he hr h hx hO hw hwO hi hpn
end Go.Proofs.YtfkefolbabniaaaGreatDoor
end

section
set_option linter.unusedVariables false
namespace Go.C
open Go.V
noncomputable def within (x : Int) (n1 : Int) : Option (Int) :=
 if (n1 ≠ 0) then
  if (n1 ≠ 0) then
   some ((IntKind.i64.wrap ((x.tmod n1) + n1)).tmod n1)
  else none
 else none
noncomputable def srcNext (s : CustomsmadeSource) (n1 : Int) : Option (Int × CustomsmadeSource) :=
 if (decide ((s.L.length : Int) ≤ s.I)) = true then
  some ((0 : Int), s)
 else
  if (0 ≤ (IntKind.i64.wrap ((IntKind.i64.wrap (s.I + (1 : Int))) - (1 : Int)))) then
   (s.L[(IntKind.i64.wrap ((IntKind.i64.wrap (s.I + (1 : Int))) - (1 : Int))).toNat]?).bind fun x =>
    (within x n1).bind fun v =>
     some (v, (⟨s.L, (IntKind.i64.wrap (s.I + (1 : Int)))⟩ : CustomsmadeSource))
  else none
noncomputable def madeCut (l : (List Int)) (n1 : Int) : Option ((List Int)) :=
 if (decide (n1 < (l.length : Int))) = true then
  if (0 ≤ (0 : Int) ∧ (0 : Int) ≤ n1 ∧ n1 ≤ (l.length : Int)) then
   some ((l.take n1.toNat).drop (0 : Int).toNat)
  else none
 else
  some l
noncomputable def vocabulary  : Option ((List Str)) :=
 some [([99, 104, 97, 105, 114] : Str), ([100, 101, 115, 107] : Str), ([103, 108, 97, 115, 115] : Str), ([108, 97, 109, 112] : Str), ([111, 102, 102, 105, 99, 101] : Str), ([112, 97, 114, 116, 115] : Str), ([115, 101, 97, 116] : Str), ([115, 116, 101, 101, 108] : Str), ([119, 111, 111, 100] : Str)]
noncomputable def srcWords_j2 (v2 : Int × CustomsmadeSource) (out2 : (List Str)) : Option ((List Str) × CustomsmadeSource) :=
 some (out2, v2.2)
noncomputable def srcWords_j1 (v : (List Str)) (v2 : Int × CustomsmadeSource) (out : (List Str)) : Option ((List Str) × CustomsmadeSource) :=
 if ((out.length : Int) == (0 : Int)) = true then
  if ((v.length : Int) ≠ 0) then
   if (0 ≤ (v2.1.tmod (v.length : Int))) then
    (v[(v2.1.tmod (v.length : Int)).toNat]?).bind fun x =>
     srcWords_j2 v2 [x]
   else none
  else none
 else
  srcWords_j2 v2 out
noncomputable def srcWords_j3 (most : Int) (v : (List Str)) (v2 : Int × CustomsmadeSource) (i2 : Int) (out7 : (List Str)) : Option ((Int × (List Str)) ⊕ ((List Str))) :=
 some (.inl ((IntKind.i64.wrap (i2 + (1 : Int))), out7))
noncomputable def srcWords_b1 (most : Int) (v : (List Str)) (v2 : Int × CustomsmadeSource) : (Int × (List Str)) → Option ((Int × (List Str)) ⊕ ((List Str)))
 | (i2, out4) =>
  if (bif (decide (i2 < (v.length : Int))) then (decide ((out4.length : Int) < most)) else false) = true then
   if (0 ≤ i2) then
    if ((IntKind.i64.wrap ((BitVec.ofInt (IntKind.i64).bits (v2.1.fdiv (2 ^ (min i2.toNat (IntKind.i64).bits))) &&& BitVec.ofInt (IntKind.i64).bits (1 : Int)).toNat : Int)) == (1 : Int)) = true then
     if (0 ≤ i2) then
      (v[i2.toNat]?).bind fun x4 =>
       if (out4.length + [x4].length ≤ 137438953472) then
        srcWords_j3 most v v2 i2 (out4 ++ [x4])
       else none
     else none
    else
     srcWords_j3 most v v2 i2 out4
   else none
  else
   some (.inr out4)
noncomputable def srcWords (s : CustomsmadeSource) (most : Int) : Option ((List Str) × CustomsmadeSource) :=
 (vocabulary ).bind fun v =>
  (srcNext s (512 : Int)).bind fun v2 =>
   (loopO (srcWords_b1 most v v2) ((0 : Int), [])).bind fun e => match e with
    | out6 =>
     srcWords_j1 v v2 out6
noncomputable def srcShares_j1 (left : Int) (out : (List Int)) (c0_0 : (List Int)) (c0_1 : Int) : Option ((List Int) × CustomsmadeSource) :=
 if (out.length + [left].length ≤ 137438953472) then
  some ((out ++ [left]), (⟨c0_0, c0_1⟩ : CustomsmadeSource))
 else none
noncomputable def srcShares_j2 (n1 : Int) (i2 : Int) (left3 : Int) (x3 : Int) (out5 : (List Int)) (c0_07 : (List Int)) (c0_17 : Int) : Option ((Int × Int × (List Int) × (List Int) × Int) ⊕ (Int × (List Int) × (List Int) × Int)) :=
 if (out5.length + [(if (IntKind.i64.wrap (left3 - (IntKind.i64.wrap (n1 - i2)))) < x3 then (IntKind.i64.wrap (left3 - (IntKind.i64.wrap (n1 - i2)))) else x3)].length ≤ 137438953472) then
  some (.inl ((IntKind.i64.wrap (i2 + (1 : Int))), (IntKind.i64.wrap (left3 - (if (IntKind.i64.wrap (left3 - (IntKind.i64.wrap (n1 - i2)))) < x3 then (IntKind.i64.wrap (left3 - (IntKind.i64.wrap (n1 - i2)))) else x3))), (out5 ++ [(if (IntKind.i64.wrap (left3 - (IntKind.i64.wrap (n1 - i2)))) < x3 then (IntKind.i64.wrap (left3 - (IntKind.i64.wrap (n1 - i2)))) else x3)]), c0_07, c0_17))
 else none
noncomputable def srcShares_b1 (n1 : Int) : (Int × Int × (List Int) × (List Int) × Int) → Option ((Int × Int × (List Int) × (List Int) × Int) ⊕ (Int × (List Int) × (List Int) × Int))
 | (i2, left3, out2, c0_04, c0_14) =>
  if (decide (i2 < n1)) = true then
   (srcNext (⟨c0_04, c0_14⟩ : CustomsmadeSource) (4 : Int)).bind fun v7 =>
    (srcNext v7.2 (2 : Int)).bind fun v8 =>
     if (v8.1 == (1 : Int)) = true then
      if (n1 ≠ 0) then
       (srcNext v8.2 (IntKind.i64.wrap ((1000000 : Int).tdiv n1))).bind fun v9 =>
        srcShares_j2 n1 i2 left3 (IntKind.i64.wrap ((1 : Int) + v9.1)) out2 v9.2.L v9.2.I
      else none
     else
      srcShares_j2 n1 i2 left3 (IntKind.i64.wrap ((1 : Int) + (IntKind.i64.wrap (v7.1 * (100000 : Int))))) out2 v8.2.L v8.2.I
  else
   some (.inr (left3, out2, c0_04, c0_14))
noncomputable def srcShares (s : CustomsmadeSource) (n1 : Int) : Option ((List Int) × CustomsmadeSource) :=
 (loopO (srcShares_b1 n1) ((1 : Int), (1000000 : Int), [], s.L, s.I)).bind fun e => match e with
  | (left4, out4, c0_06, c0_16) =>
   srcShares_j1 left4 out4 c0_06 c0_16
noncomputable def madeGood_j2 (v2 : (List Str) × CustomsmadeSource) (v3 : Int × CustomsmadeSource) (c4_12 : (List ApiMaterial)) (c4_2 : (List ApiComponent)) : Option (ApiGood) :=
 some (⟨v2.1, c4_12, c4_2, (v3.1 == (1 : Int))⟩ : ApiGood)
noncomputable def madeGood_b1 (v2 : (List Str) × CustomsmadeSource) (v3 : Int × CustomsmadeSource) (v7 : (List Int) × CustomsmadeSource) : (Int × (List ApiMaterial) × (List ApiComponent) × (List Int) × Int) → Option ((Int × (List ApiMaterial) × (List ApiComponent) × (List Int) × Int) ⊕ ((List ApiMaterial) × (List ApiComponent)))
 | (i2, c4_14, c4_22, c14_03, c14_13) =>
  if (decide (i2 < (v7.1.length : Int))) = true then
   (srcWords (⟨c14_03, c14_13⟩ : CustomsmadeSource) (3 : Int)).bind fun v10 =>
    if (0 ≤ i2) then
     (v7.1[i2.toNat]?).bind fun x3 =>
      if (c4_22.length + [(⟨v10.1, x3⟩ : ApiComponent)].length ≤ 137438953472) then
       some (.inl ((IntKind.i64.wrap (i2 + (1 : Int))), c4_14, (c4_22 ++ [(⟨v10.1, x3⟩ : ApiComponent)]), v10.2.L, v10.2.I))
      else none
    else none
  else
   some (.inr (c4_14, c4_22))
noncomputable def madeGood_j1 (v2 : (List Str) × CustomsmadeSource) (v3 : Int × CustomsmadeSource) (c4_1 : (List ApiMaterial)) (c14_0 : (List Int)) (c14_1 : Int) : Option (ApiGood) :=
 (srcNext (⟨c14_0, c14_1⟩ : CustomsmadeSource) (3 : Int)).bind fun v5 =>
  if (v5.1 == (1 : Int)) = true then
   (srcNext v5.2 (3 : Int)).bind fun v6 =>
    (srcShares v6.2 (IntKind.i64.wrap ((1 : Int) + v6.1))).bind fun v7 =>
     (loopO (madeGood_b1 v2 v3 v7) ((0 : Int), c4_1, [], v7.2.L, v7.2.I)).bind fun e => match e with
      | (c4_15, c4_23) =>
       madeGood_j2 v2 v3 c4_15 c4_23
  else
   madeGood_j2 v2 v3 c4_1 []
noncomputable def madeGood_b2 (v2 : (List Str) × CustomsmadeSource) (v3 : Int × CustomsmadeSource) (v11 : Int × CustomsmadeSource) (v12 : (List Int) × CustomsmadeSource) : (Int × (List ApiMaterial)) → Option ((Int × (List ApiMaterial)) ⊕ ((List ApiMaterial)))
 | (i4, c4_16) =>
  if (decide (i4 < (v12.1.length : Int))) = true then
   if (0 ≤ i4) then
    (([([103, 108, 97, 115, 115] : Str), ([108, 97, 109, 112] : Str), ([115, 116, 101, 101, 108] : Str), ([119, 111, 111, 100] : Str)].drop v11.1.toNat)[i4.toNat]?).bind fun x8 =>
     if (0 ≤ i4) then
      (v12.1[i4.toNat]?).bind fun x9 =>
       if (c4_16.length + [(⟨x8, x9⟩ : ApiMaterial)].length ≤ 137438953472) then
        some (.inl ((IntKind.i64.wrap (i4 + (1 : Int))), (c4_16 ++ [(⟨x8, x9⟩ : ApiMaterial)])))
       else none
     else none
   else none
  else
   some (.inr c4_16)
noncomputable def madeGood (l : (List Int)) : Option (ApiGood) :=
 (madeCut l (60 : Int)).bind fun v =>
  (srcWords (⟨v, 0⟩ : CustomsmadeSource) (4 : Int)).bind fun v2 =>
   (srcNext v2.2 (4 : Int)).bind fun v3 =>
    (srcNext v3.2 (4 : Int)).bind fun v4 =>
     if (decide ((0 : Int) < v4.1)) = true then
      (srcNext v4.2 (2 : Int)).bind fun v11 =>
       if (0 ≤ v11.1 ∧ v11.1 ≤ ([([103, 108, 97, 115, 115] : Str), ([108, 97, 109, 112] : Str), ([115, 116, 101, 101, 108] : Str), ([119, 111, 111, 100] : Str)].length : Int)) then
        (srcShares v11.2 (if (([([103, 108, 97, 115, 115] : Str), ([108, 97, 109, 112] : Str), ([115, 116, 101, 101, 108] : Str), ([119, 111, 111, 100] : Str)].drop v11.1.toNat).length : Int) < v4.1 then (([([103, 108, 97, 115, 115] : Str), ([108, 97, 109, 112] : Str), ([115, 116, 101, 101, 108] : Str), ([119, 111, 111, 100] : Str)].drop v11.1.toNat).length : Int) else v4.1)).bind fun v12 =>
         (loopO (madeGood_b2 v2 v3 v11 v12) ((0 : Int), [])).bind fun e => match e with
          | c4_17 =>
           madeGood_j1 v2 v3 c4_17 v12.2.L v12.2.I
       else none
     else
      madeGood_j1 v2 v3 [] v4.2.L v4.2.I
noncomputable def srcTerms_j1 (out : (List (List Str))) (c0_0 : (List Int)) (c0_1 : Int) : Option ((List (List Str)) × CustomsmadeSource) :=
 some (out, (⟨c0_0, c0_1⟩ : CustomsmadeSource))
noncomputable def srcTerms (s : CustomsmadeSource) : Option ((List (List Str)) × CustomsmadeSource) :=
 (srcWords s (2 : Int)).bind fun v =>
  (srcNext v.2 (3 : Int)).bind fun v2 =>
   if (v2.1 == (1 : Int)) = true then
    (srcWords v2.2 (3 : Int)).bind fun v3 =>
     if ([v.1].length + [v3.1].length ≤ 137438953472) then
      srcTerms_j1 ([v.1] ++ [v3.1]) v3.2.L v3.2.I
     else none
   else
    srcTerms_j1 [v.1] v2.2.L v2.2.I
noncomputable def srcEntry_j4 (F : CustomsmadeSource → Str → Int → Option ((List ApiCodeEntry) × CustomsmadeSource)) (out2 : (List ApiCodeEntry)) (c0_03 : (List Int)) (c0_13 : Int) : Option ((List ApiCodeEntry) × CustomsmadeSource) :=
 some (out2, (⟨c0_03, c0_13⟩ : CustomsmadeSource))
noncomputable def srcEntry_b1 (F : CustomsmadeSource → Str → Int → Option ((List ApiCodeEntry) × CustomsmadeSource)) (code : Str) (c7_32 : (List (List Str))) (c7_4 : Bool) (c7_1 : Int) (c7_2 : Int) (v2 : Int × CustomsmadeSource) : (Int × (List ApiCodeEntry) × (List Int) × Int) → Option ((Int × (List ApiCodeEntry) × (List Int) × Int) ⊕ ((List ApiCodeEntry) × (List Int) × Int))
 | (i, out3, c0_04, c0_14) =>
  if (decide (i ≤ v2.1)) = true then
   if (code.length + ([48] : Str).length ≤ 9223372036854775807) then
    if ((code ++ ([48] : Str)).length + (bytesI [(IntKind.u8.wrap (IntKind.i64.wrap ((48 : Int) + i)))]).length ≤ 9223372036854775807) then
     (F (⟨c0_04, c0_14⟩ : CustomsmadeSource) ((code ++ ([48] : Str)) ++ (bytesI [(IntKind.u8.wrap (IntKind.i64.wrap ((48 : Int) + i)))])) c7_2).bind fun v4 =>
      if (out3.length + v4.1.length ≤ 137438953472) then
       some (.inl ((IntKind.i64.wrap (i + (1 : Int))), (out3 ++ v4.1), v4.2.L, v4.2.I))
      else none
    else none
   else none
  else
   some (.inr (out3, c0_04, c0_14))
noncomputable def srcEntry_j3 (F : CustomsmadeSource → Str → Int → Option ((List ApiCodeEntry) × CustomsmadeSource)) (code : Str) (c7_32 : (List (List Str))) (c7_4 : Bool) (out : (List ApiCodeEntry)) (c0_02 : (List Int)) (c0_12 : Int) (c7_1 : Int) (c7_2 : Int) : Option ((List ApiCodeEntry) × CustomsmadeSource) :=
 if (out.length + [(⟨code, c7_1, c7_2, c7_32, c7_4⟩ : ApiCodeEntry)].length ≤ 137438953472) then
  if ((code.length : Int) == (8 : Int)) = true then
   some ((out ++ [(⟨code, c7_1, c7_2, c7_32, c7_4⟩ : ApiCodeEntry)]), (⟨c0_02, c0_12⟩ : CustomsmadeSource))
  else
   (srcNext (⟨c0_02, c0_12⟩ : CustomsmadeSource) (4 : Int)).bind fun v2 =>
    (loopO (srcEntry_b1 F code c7_32 c7_4 c7_1 c7_2 v2) ((1 : Int), (out ++ [(⟨code, c7_1, c7_2, c7_32, c7_4⟩ : ApiCodeEntry)]), v2.2.L, v2.2.I)).bind fun e => match e with
     | (out5, c0_06, c0_16) =>
      srcEntry_j4 F out5 c0_06 c0_16
 else none
noncomputable def srcEntry_j2 (F : CustomsmadeSource → Str → Int → Option ((List ApiCodeEntry) × CustomsmadeSource)) (code : Str) (end_ : Int) (v : Int × CustomsmadeSource) (c7_32 : (List (List Str))) (c7_4 : Bool) : Option ((List ApiCodeEntry) × CustomsmadeSource) :=
 if (bif (decide ((2 : Int) < (code.length : Int))) then (decide ((12 : Int) < end_)) else false) = true then
  (srcNext v.2 (6 : Int)).bind fun v5 =>
   if (v5.1 == (1 : Int)) = true then
    (srcTerms v5.2).bind fun v6 =>
     if (0 + [(⟨code, (0 : Int), (10 : Int), v6.1, false⟩ : ApiCodeEntry)].length ≤ 137438953472) then
      srcEntry_j3 F code c7_32 c7_4 [(⟨code, (0 : Int), (10 : Int), v6.1, false⟩ : ApiCodeEntry)] v6.2.L v6.2.I (10 : Int) end_
     else none
   else
    if (v5.1 == (2 : Int)) = true then
     srcEntry_j3 F code c7_32 c7_4 [] v5.2.L v5.2.I (0 : Int) (12 : Int)
    else
     srcEntry_j3 F code c7_32 c7_4 [] v5.2.L v5.2.I (0 : Int) end_
 else
  srcEntry_j3 F code c7_32 c7_4 [] v.2.L v.2.I (0 : Int) end_
noncomputable def srcEntry_j7 (F : CustomsmadeSource → Str → Int → Option ((List ApiCodeEntry) × CustomsmadeSource)) (out7 : (List ApiCodeEntry)) (c0_08 : (List Int)) (c0_18 : Int) : Option ((List ApiCodeEntry) × CustomsmadeSource) :=
 some (out7, (⟨c0_08, c0_18⟩ : CustomsmadeSource))
noncomputable def srcEntry_b2 (F : CustomsmadeSource → Str → Int → Option ((List ApiCodeEntry) × CustomsmadeSource)) (code : Str) (c7_33 : (List (List Str))) (c7_42 : Bool) (c7_12 : Int) (c7_22 : Int) (v7 : Int × CustomsmadeSource) : (Int × (List ApiCodeEntry) × (List Int) × Int) → Option ((Int × (List ApiCodeEntry) × (List Int) × Int) ⊕ ((List ApiCodeEntry) × (List Int) × Int))
 | (i3, out8, c0_09, c0_19) =>
  if (decide (i3 ≤ v7.1)) = true then
   if (code.length + ([48] : Str).length ≤ 9223372036854775807) then
    if ((code ++ ([48] : Str)).length + (bytesI [(IntKind.u8.wrap (IntKind.i64.wrap ((48 : Int) + i3)))]).length ≤ 9223372036854775807) then
     (F (⟨c0_09, c0_19⟩ : CustomsmadeSource) ((code ++ ([48] : Str)) ++ (bytesI [(IntKind.u8.wrap (IntKind.i64.wrap ((48 : Int) + i3)))])) c7_22).bind fun v9 =>
      if (out8.length + v9.1.length ≤ 137438953472) then
       some (.inl ((IntKind.i64.wrap (i3 + (1 : Int))), (out8 ++ v9.1), v9.2.L, v9.2.I))
      else none
    else none
   else none
  else
   some (.inr (out8, c0_09, c0_19))
noncomputable def srcEntry_j6 (F : CustomsmadeSource → Str → Int → Option ((List ApiCodeEntry) × CustomsmadeSource)) (code : Str) (c7_33 : (List (List Str))) (c7_42 : Bool) (out6 : (List ApiCodeEntry)) (c0_07 : (List Int)) (c0_17 : Int) (c7_12 : Int) (c7_22 : Int) : Option ((List ApiCodeEntry) × CustomsmadeSource) :=
 if (out6.length + [(⟨code, c7_12, c7_22, c7_33, c7_42⟩ : ApiCodeEntry)].length ≤ 137438953472) then
  if ((code.length : Int) == (8 : Int)) = true then
   some ((out6 ++ [(⟨code, c7_12, c7_22, c7_33, c7_42⟩ : ApiCodeEntry)]), (⟨c0_07, c0_17⟩ : CustomsmadeSource))
  else
   (srcNext (⟨c0_07, c0_17⟩ : CustomsmadeSource) (4 : Int)).bind fun v7 =>
    (loopO (srcEntry_b2 F code c7_33 c7_42 c7_12 c7_22 v7) ((1 : Int), (out6 ++ [(⟨code, c7_12, c7_22, c7_33, c7_42⟩ : ApiCodeEntry)]), v7.2.L, v7.2.I)).bind fun e => match e with
     | (out10, c0_011, c0_111) =>
      srcEntry_j7 F out10 c0_011 c0_111
 else none
noncomputable def srcEntry_j5 (F : CustomsmadeSource → Str → Int → Option ((List ApiCodeEntry) × CustomsmadeSource)) (code : Str) (end_ : Int) (c0_0 : (List Int)) (c0_1 : Int) (c7_33 : (List (List Str))) (c7_42 : Bool) : Option ((List ApiCodeEntry) × CustomsmadeSource) :=
 if (bif (decide ((2 : Int) < (code.length : Int))) then (decide ((12 : Int) < end_)) else false) = true then
  (srcNext (⟨c0_0, c0_1⟩ : CustomsmadeSource) (6 : Int)).bind fun v10 =>
   if (v10.1 == (1 : Int)) = true then
    (srcTerms v10.2).bind fun v11 =>
     if (0 + [(⟨code, (0 : Int), (10 : Int), v11.1, false⟩ : ApiCodeEntry)].length ≤ 137438953472) then
      srcEntry_j6 F code c7_33 c7_42 [(⟨code, (0 : Int), (10 : Int), v11.1, false⟩ : ApiCodeEntry)] v11.2.L v11.2.I (10 : Int) end_
     else none
   else
    if (v10.1 == (2 : Int)) = true then
     srcEntry_j6 F code c7_33 c7_42 [] v10.2.L v10.2.I (0 : Int) (12 : Int)
    else
     srcEntry_j6 F code c7_33 c7_42 [] v10.2.L v10.2.I (0 : Int) end_
 else
  srcEntry_j6 F code c7_33 c7_42 [] c0_0 c0_1 (0 : Int) end_
noncomputable def srcEntry_j1 (F : CustomsmadeSource → Str → Int → Option ((List ApiCodeEntry) × CustomsmadeSource)) (code : Str) (end_ : Int) (c0_0 : (List Int)) (c0_1 : Int) (c7_3 : (List (List Str))) : Option ((List ApiCodeEntry) × CustomsmadeSource) :=
 if (decide ((4 : Int) < (code.length : Int))) = true then
  (srcNext (⟨c0_0, c0_1⟩ : CustomsmadeSource) (3 : Int)).bind fun v =>
   if (bif (decide ((4 : Int) < (code.length : Int))) then (v.1 == (1 : Int)) else false) = true then
    srcEntry_j2 F code end_ v [] true
   else
    srcEntry_j2 F code end_ v c7_3 false
 else
  if (bif (decide ((4 : Int) < (code.length : Int))) then false else false) = true then
   srcEntry_j5 F code end_ c0_0 c0_1 [] true
  else
   srcEntry_j5 F code end_ c0_0 c0_1 c7_3 false
noncomputable def srcEntry_F (F : CustomsmadeSource → Str → Int → Option ((List ApiCodeEntry) × CustomsmadeSource)) (s : CustomsmadeSource) (code : Str) (end_ : Int) : Option ((List ApiCodeEntry) × CustomsmadeSource) :=
 if (decide ((2 : Int) < (code.length : Int))) = true then
  (srcTerms s).bind fun v12 =>
   srcEntry_j1 F code end_ v12.2.L v12.2.I v12.1
 else
  srcEntry_j1 F code end_ s.L s.I []
noncomputable def srcEntry_n : Nat → CustomsmadeSource → Str → Int → Option ((List ApiCodeEntry) × CustomsmadeSource)
 | 0 => fun _ _ _ => none
 | n + 1 => srcEntry_F (srcEntry_n n)
noncomputable def srcEntry (s : CustomsmadeSource) (code : Str) (end_ : Int) : Option ((List ApiCodeEntry) × CustomsmadeSource) := srcEntry_n 5 s code end_
noncomputable def srcEntryR_j4 (out2 : (List ApiCodeEntry)) (c0_03 : (List Int)) (c0_13 : Int) : Option ((List ApiCodeEntry) × CustomsmadeSource) :=
 some (out2, (⟨c0_03, c0_13⟩ : CustomsmadeSource))
noncomputable def srcEntryR_b1 (code : Str) (c7_32 : (List (List Str))) (c7_4 : Bool) (c7_1 : Int) (c7_2 : Int) (v2 : Int × CustomsmadeSource) : (Int × (List ApiCodeEntry) × (List Int) × Int) → Option ((Int × (List ApiCodeEntry) × (List Int) × Int) ⊕ ((List ApiCodeEntry) × (List Int) × Int))
 | (i, out3, c0_04, c0_14) =>
  if (decide (i ≤ v2.1)) = true then
   if (code.length + ([48] : Str).length ≤ 9223372036854775807) then
    if ((code ++ ([48] : Str)).length + (bytesI [(IntKind.u8.wrap (IntKind.i64.wrap ((48 : Int) + i)))]).length ≤ 9223372036854775807) then
     (srcEntry (⟨c0_04, c0_14⟩ : CustomsmadeSource) ((code ++ ([48] : Str)) ++ (bytesI [(IntKind.u8.wrap (IntKind.i64.wrap ((48 : Int) + i)))])) c7_2).bind fun v4 =>
      if (out3.length + v4.1.length ≤ 137438953472) then
       some (.inl ((IntKind.i64.wrap (i + (1 : Int))), (out3 ++ v4.1), v4.2.L, v4.2.I))
      else none
    else none
   else none
  else
   some (.inr (out3, c0_04, c0_14))
noncomputable def srcEntryR_j3 (code : Str) (c7_32 : (List (List Str))) (c7_4 : Bool) (out : (List ApiCodeEntry)) (c0_02 : (List Int)) (c0_12 : Int) (c7_1 : Int) (c7_2 : Int) : Option ((List ApiCodeEntry) × CustomsmadeSource) :=
 if (out.length + [(⟨code, c7_1, c7_2, c7_32, c7_4⟩ : ApiCodeEntry)].length ≤ 137438953472) then
  if ((code.length : Int) == (8 : Int)) = true then
   some ((out ++ [(⟨code, c7_1, c7_2, c7_32, c7_4⟩ : ApiCodeEntry)]), (⟨c0_02, c0_12⟩ : CustomsmadeSource))
  else
   (srcNext (⟨c0_02, c0_12⟩ : CustomsmadeSource) (4 : Int)).bind fun v2 =>
    (loopO (srcEntryR_b1 code c7_32 c7_4 c7_1 c7_2 v2) ((1 : Int), (out ++ [(⟨code, c7_1, c7_2, c7_32, c7_4⟩ : ApiCodeEntry)]), v2.2.L, v2.2.I)).bind fun e => match e with
     | (out5, c0_06, c0_16) =>
      srcEntryR_j4 out5 c0_06 c0_16
 else none
noncomputable def srcEntryR_j2 (code : Str) (end_ : Int) (v : Int × CustomsmadeSource) (c7_32 : (List (List Str))) (c7_4 : Bool) : Option ((List ApiCodeEntry) × CustomsmadeSource) :=
 if (bif (decide ((2 : Int) < (code.length : Int))) then (decide ((12 : Int) < end_)) else false) = true then
  (srcNext v.2 (6 : Int)).bind fun v5 =>
   if (v5.1 == (1 : Int)) = true then
    (srcTerms v5.2).bind fun v6 =>
     if (0 + [(⟨code, (0 : Int), (10 : Int), v6.1, false⟩ : ApiCodeEntry)].length ≤ 137438953472) then
      srcEntryR_j3 code c7_32 c7_4 [(⟨code, (0 : Int), (10 : Int), v6.1, false⟩ : ApiCodeEntry)] v6.2.L v6.2.I (10 : Int) end_
     else none
   else
    if (v5.1 == (2 : Int)) = true then
     srcEntryR_j3 code c7_32 c7_4 [] v5.2.L v5.2.I (0 : Int) (12 : Int)
    else
     srcEntryR_j3 code c7_32 c7_4 [] v5.2.L v5.2.I (0 : Int) end_
 else
  srcEntryR_j3 code c7_32 c7_4 [] v.2.L v.2.I (0 : Int) end_
noncomputable def srcEntryR_j7 (out7 : (List ApiCodeEntry)) (c0_08 : (List Int)) (c0_18 : Int) : Option ((List ApiCodeEntry) × CustomsmadeSource) :=
 some (out7, (⟨c0_08, c0_18⟩ : CustomsmadeSource))
noncomputable def srcEntryR_b2 (code : Str) (c7_33 : (List (List Str))) (c7_42 : Bool) (c7_12 : Int) (c7_22 : Int) (v7 : Int × CustomsmadeSource) : (Int × (List ApiCodeEntry) × (List Int) × Int) → Option ((Int × (List ApiCodeEntry) × (List Int) × Int) ⊕ ((List ApiCodeEntry) × (List Int) × Int))
 | (i3, out8, c0_09, c0_19) =>
  if (decide (i3 ≤ v7.1)) = true then
   if (code.length + ([48] : Str).length ≤ 9223372036854775807) then
    if ((code ++ ([48] : Str)).length + (bytesI [(IntKind.u8.wrap (IntKind.i64.wrap ((48 : Int) + i3)))]).length ≤ 9223372036854775807) then
     (srcEntry (⟨c0_09, c0_19⟩ : CustomsmadeSource) ((code ++ ([48] : Str)) ++ (bytesI [(IntKind.u8.wrap (IntKind.i64.wrap ((48 : Int) + i3)))])) c7_22).bind fun v9 =>
      if (out8.length + v9.1.length ≤ 137438953472) then
       some (.inl ((IntKind.i64.wrap (i3 + (1 : Int))), (out8 ++ v9.1), v9.2.L, v9.2.I))
      else none
    else none
   else none
  else
   some (.inr (out8, c0_09, c0_19))
noncomputable def srcEntryR_j6 (code : Str) (c7_33 : (List (List Str))) (c7_42 : Bool) (out6 : (List ApiCodeEntry)) (c0_07 : (List Int)) (c0_17 : Int) (c7_12 : Int) (c7_22 : Int) : Option ((List ApiCodeEntry) × CustomsmadeSource) :=
 if (out6.length + [(⟨code, c7_12, c7_22, c7_33, c7_42⟩ : ApiCodeEntry)].length ≤ 137438953472) then
  if ((code.length : Int) == (8 : Int)) = true then
   some ((out6 ++ [(⟨code, c7_12, c7_22, c7_33, c7_42⟩ : ApiCodeEntry)]), (⟨c0_07, c0_17⟩ : CustomsmadeSource))
  else
   (srcNext (⟨c0_07, c0_17⟩ : CustomsmadeSource) (4 : Int)).bind fun v7 =>
    (loopO (srcEntryR_b2 code c7_33 c7_42 c7_12 c7_22 v7) ((1 : Int), (out6 ++ [(⟨code, c7_12, c7_22, c7_33, c7_42⟩ : ApiCodeEntry)]), v7.2.L, v7.2.I)).bind fun e => match e with
     | (out10, c0_011, c0_111) =>
      srcEntryR_j7 out10 c0_011 c0_111
 else none
noncomputable def srcEntryR_j5 (code : Str) (end_ : Int) (c0_0 : (List Int)) (c0_1 : Int) (c7_33 : (List (List Str))) (c7_42 : Bool) : Option ((List ApiCodeEntry) × CustomsmadeSource) :=
 if (bif (decide ((2 : Int) < (code.length : Int))) then (decide ((12 : Int) < end_)) else false) = true then
  (srcNext (⟨c0_0, c0_1⟩ : CustomsmadeSource) (6 : Int)).bind fun v10 =>
   if (v10.1 == (1 : Int)) = true then
    (srcTerms v10.2).bind fun v11 =>
     if (0 + [(⟨code, (0 : Int), (10 : Int), v11.1, false⟩ : ApiCodeEntry)].length ≤ 137438953472) then
      srcEntryR_j6 code c7_33 c7_42 [(⟨code, (0 : Int), (10 : Int), v11.1, false⟩ : ApiCodeEntry)] v11.2.L v11.2.I (10 : Int) end_
     else none
   else
    if (v10.1 == (2 : Int)) = true then
     srcEntryR_j6 code c7_33 c7_42 [] v10.2.L v10.2.I (0 : Int) (12 : Int)
    else
     srcEntryR_j6 code c7_33 c7_42 [] v10.2.L v10.2.I (0 : Int) end_
 else
  srcEntryR_j6 code c7_33 c7_42 [] c0_0 c0_1 (0 : Int) end_
noncomputable def srcEntryR_j1 (code : Str) (end_ : Int) (c0_0 : (List Int)) (c0_1 : Int) (c7_3 : (List (List Str))) : Option ((List ApiCodeEntry) × CustomsmadeSource) :=
 if (decide ((4 : Int) < (code.length : Int))) = true then
  (srcNext (⟨c0_0, c0_1⟩ : CustomsmadeSource) (3 : Int)).bind fun v =>
   if (bif (decide ((4 : Int) < (code.length : Int))) then (v.1 == (1 : Int)) else false) = true then
    srcEntryR_j2 code end_ v [] true
   else
    srcEntryR_j2 code end_ v c7_3 false
 else
  if (bif (decide ((4 : Int) < (code.length : Int))) then false else false) = true then
   srcEntryR_j5 code end_ c0_0 c0_1 [] true
  else
   srcEntryR_j5 code end_ c0_0 c0_1 c7_3 false
noncomputable def srcEntryR (s : CustomsmadeSource) (code : Str) (end_ : Int) : Option ((List ApiCodeEntry) × CustomsmadeSource) :=
 if (decide ((2 : Int) < (code.length : Int))) = true then
  (srcTerms s).bind fun v12 =>
   srcEntryR_j1 code end_ v12.2.L v12.2.I v12.1
 else
  srcEntryR_j1 code end_ s.L s.I []
noncomputable def madeNom_j1 (c10_0 : (List Int)) (c10_1 : Int) (c4_1 : (List ApiCodeNote)) : Option (ApiNomenclature) :=
 (srcEntryR (⟨c10_0, c10_1⟩ : CustomsmadeSource) ([57, 52] : Str) (36525 : Int)).bind fun v3 =>
  (srcEntry v3.2 ([57, 53] : Str) (36525 : Int)).bind fun v4 =>
   if (v3.1.length + v4.1.length ≤ 137438953472) then
    some (⟨(v3.1 ++ v4.1), c4_1⟩ : ApiNomenclature)
   else none
noncomputable def madeNom_j2 (n12 : Int) (x5 : Str) (v14 : (List Str) × CustomsmadeSource) (c10_07 : (List Int)) (c10_17 : Int) (c4_15 : (List ApiCodeNote)) (c6_23 : Str) : Option ((Int × (List Int) × Int × (List ApiCodeNote)) ⊕ ((List Int) × Int × (List ApiCodeNote))) :=
 if (c4_15.length + [(⟨x5, v14.1, c6_23⟩ : ApiCodeNote)].length ≤ 137438953472) then
  some (.inl ((IntKind.i64.wrap (n12 - (1 : Int))), c10_07, c10_17, (c4_15 ++ [(⟨x5, v14.1, c6_23⟩ : ApiCodeNote)])))
 else none
noncomputable def madeNom_b1  : (Int × (List Int) × Int × (List ApiCodeNote)) → Option ((Int × (List Int) × Int × (List ApiCodeNote)) ⊕ ((List Int) × Int × (List ApiCodeNote)))
 | (n12, c10_04, c10_14, c4_12) =>
  if (decide ((0 : Int) < n12)) = true then
   (srcNext (⟨c10_04, c10_14⟩ : CustomsmadeSource) (5 : Int)).bind fun v13 =>
    if (0 ≤ v13.1) then
     ([([57, 52] : Str), ([57, 53] : Str), ([57, 52, 48, 49] : Str), ([57, 52, 48, 50] : Str), ([57, 52, 48, 49, 48, 49] : Str)][v13.1.toNat]?).bind fun x5 =>
      (srcWords v13.2 (2 : Int)).bind fun v14 =>
       (srcNext v14.2 (2 : Int)).bind fun v15 =>
        if (v15.1 == (1 : Int)) = true then
         (srcNext v15.2 (3 : Int)).bind fun v16 =>
          if (0 ≤ v16.1) then
           ([([57, 52, 48, 49] : Str), ([57, 52, 48, 50] : Str), ([57, 53, 48, 49] : Str)][v16.1.toNat]?).bind fun x6 =>
            madeNom_j2 n12 x5 v14 v16.2.L v16.2.I c4_12 x6
          else none
        else
         madeNom_j2 n12 x5 v14 v15.2.L v15.2.I c4_12 []
    else none
  else
   some (.inr (c10_04, c10_14, c4_12))
noncomputable def madeNom (l : (List Int)) : Option (ApiNomenclature) :=
 (madeCut l (300 : Int)).bind fun v =>
  (srcNext (⟨v, 0⟩ : CustomsmadeSource) (4 : Int)).bind fun v2 =>
   (loopO (madeNom_b1) (v2.1, v2.2.L, v2.2.I, [])).bind fun e => match e with
    | (c10_06, c10_16, c4_14) =>
     madeNom_j1 c10_06 c10_16 c4_14
end Go.C
end

section
set_option linter.unusedVariables false
namespace Go.C
open Go.V
noncomputable def isWord_j1  : Option (Bool) :=
 some true
noncomputable def isWord_b1 (s : Str) : (Nat) → Option ((Nat) ⊕ ((Bool) ⊕ (Unit)))
 | pos =>
  if pos < s.length then
   if (bif (decide ((runeI s pos) < (97 : Int))) then true else (decide ((122 : Int) < (runeI s pos)))) = true then
    some (.inr (.inl false))
   else
    some (.inl (pos + runeW s pos))
  else
   some (.inr (.inr ()))
noncomputable def isWord (s : Str) : Option (Bool) :=
 if (bif (decide ((s.length : Int) < (1 : Int))) then true else (decide ((12 : Int) < (s.length : Int)))) = true then
  some false
 else
  (loopO (isWord_b1 s) 0).bind fun e => match e with
   | (.inl rv) =>
    some rv
   | (.inr ()) =>
    isWord_j1
noncomputable def validWords_j1  : Option (Bool) :=
 some true
noncomputable def validWords_b1 (l : (List Str)) : (Int) → Option ((Int) ⊕ ((Bool) ⊕ (Unit)))
 | t10 =>
  if (decide (t10 < (l.length : Int))) = true then
   if (0 ≤ t10) then
    (l[t10.toNat]?).bind fun x2 =>
     (isWord x2).bind fun v2 =>
      if (((!(!v2)) && (decide ((0 : Int) < t10))) = true → (0 ≤ (IntKind.i64.wrap (t10 - (1 : Int))) ∧ (IntKind.i64.wrap (t10 - (1 : Int))) < (l.length : Int))) then
       if (bif (!v2) then true else (bif (decide ((0 : Int) < t10)) then (Op.bytesLess x2 (l.getD (IntKind.i64.wrap (t10 - (1 : Int))).toNat default) || x2 == (l.getD (IntKind.i64.wrap (t10 - (1 : Int))).toNat default)) else false)) = true then
        some (.inr (.inl false))
       else
        some (.inl (IntKind.i64.wrap (t10 + (1 : Int))))
      else none
   else none
  else
   some (.inr (.inr ()))
noncomputable def validWords (l : (List Str)) : Option (Bool) :=
 if (decide ((8 : Int) < (l.length : Int))) = true then
  some false
 else
  (loopO (validWords_b1 l) (0 : Int)).bind fun e => match e with
   | (.inl rv) =>
    some rv
   | (.inr ()) =>
    validWords_j1
noncomputable def isNaNS (x : Str) : Option (Bool) :=
 some (!(x == x))
noncomputable def cmpStr (x : Str) (y : Str) : Option (Int) :=
 (isNaNS x).bind fun v =>
  (isNaNS y).bind fun v2 =>
   if v = true then
    if v2 = true then
     some (0 : Int)
    else
     some (-1 : Int)
   else
    if v2 = true then
     some (1 : Int)
    else
     if (Op.bytesLess x y) = true then
      some (-1 : Int)
     else
      if (!(Op.bytesLess x y || x == y)) = true then
       some (1 : Int)
      else
       some (0 : Int)
noncomputable def isNaN (x : Int) : Option (Bool) :=
 some (x != x)
noncomputable def cmpInt (x : Int) (y : Int) : Option (Int) :=
 (isNaN x).bind fun v =>
  (isNaN y).bind fun v2 =>
   if v = true then
    if v2 = true then
     some (0 : Int)
    else
     some (-1 : Int)
   else
    if v2 = true then
     some (1 : Int)
    else
     if (decide (x < y)) = true then
      some (-1 : Int)
     else
      if (decide (y < x)) = true then
       some (1 : Int)
      else
       some (0 : Int)
noncomputable def versionOf (e1 : ApiCodeEntry) : Option (NomenclatureVersion) :=
 some (⟨e1.Code, e1.From⟩ : NomenclatureVersion)
noncomputable def versionCmp (v : NomenclatureVersion) (w1 : NomenclatureVersion) : Option (Int) :=
 if ((v.code == w1.code) && (v.from_ == w1.from_)) = true then
  some (0 : Int)
 else
  if (!(v.code == w1.code)) = true then
   (cmpStr v.code w1.code).bind fun v2 =>
    some v2
  else
   (cmpInt v.from_ w1.from_).bind fun v3 =>
    some v3
noncomputable def nomLevel_j1  : Option (Int) :=
 some (0 : Int)
noncomputable def nomLevel (code : Str) : Option (Int) :=
 (if ((code.length : Int) == (2 : Int)) = true then trimS code ([48, 49, 50, 51, 52, 53, 54, 55, 56, 57] : Str) else some default).bind fun v =>
  if (bif ((code.length : Int) == (2 : Int)) then (v == ([] : Str)) else false) = true then
   some (2 : Int)
  else
   (if ((code.length : Int) == (4 : Int)) = true then trimS code ([48, 49, 50, 51, 52, 53, 54, 55, 56, 57] : Str) else some default).bind fun v2 =>
    if (bif ((code.length : Int) == (4 : Int)) then (v2 == ([] : Str)) else false) = true then
     some (4 : Int)
    else
     (if ((code.length : Int) == (6 : Int)) = true then trimS code ([48, 49, 50, 51, 52, 53, 54, 55, 56, 57] : Str) else some default).bind fun v3 =>
      if (bif ((code.length : Int) == (6 : Int)) then (v3 == ([] : Str)) else false) = true then
       some (6 : Int)
      else
       (if ((code.length : Int) == (8 : Int)) = true then trimS code ([48, 49, 50, 51, 52, 53, 54, 55, 56, 57] : Str) else some default).bind fun v4 =>
        if (bif ((code.length : Int) == (8 : Int)) then (v4 == ([] : Str)) else false) = true then
         some (8 : Int)
        else
         nomLevel_j1
noncomputable def nomDescribed (l : (List Str)) : Option (Bool) :=
 (if (decide ((0 : Int) < (l.length : Int))) = true then validWords l else some default).bind fun v =>
  some (bif (decide ((0 : Int) < (l.length : Int))) then v else false)
noncomputable def validateEntry_j2 (wrong : Bool) : Option (Int) :=
 if wrong = true then
  some (1 : Int)
 else
  some (0 : Int)
noncomputable def validateEntry_j1 (e1 : ApiCodeEntry) (v : Int) : Option (Int) :=
 if (v == (2 : Int)) = true then
  validateEntry_j2 (bif (decide ((0 : Int) < (e1.Terms.length : Int))) then true else e1.Other)
 else
  if (v == (4 : Int)) = true then
   validateEntry_j2 (bif (!(decide ((0 : Int) < (e1.Terms.length : Int)))) then true else e1.Other)
  else
   validateEntry_j2 ((decide ((0 : Int) < (e1.Terms.length : Int))) == e1.Other)
noncomputable def validateEntry_b1 (e1 : ApiCodeEntry) (v : Int) : (Int) → Option ((Int) ⊕ ((Int) ⊕ (Unit)))
 | t38 =>
  if (decide (t38 < (e1.Terms.length : Int))) = true then
   if (0 ≤ t38) then
    (e1.Terms[t38.toNat]?).bind fun x2 =>
     (nomDescribed x2).bind fun v3 =>
      if (!v3) = true then
       some (.inr (.inl (1 : Int)))
      else
       some (.inl (IntKind.i64.wrap (t38 + (1 : Int))))
   else none
  else
   some (.inr (.inr ()))
noncomputable def validateEntry (e1 : ApiCodeEntry) : Option (Int) :=
 (nomLevel e1.Code).bind fun v =>
  if (v == (0 : Int)) = true then
   some (1 : Int)
  else
   if (bif (bif (decide (e1.From < (0 : Int))) then true else (decide (e1.To ≤ e1.From))) then true else (decide ((36525 : Int) < e1.To))) = true then
    some (2 : Int)
   else
    if (decide ((6 : Int) < (e1.Terms.length : Int))) = true then
     some (8 : Int)
    else
     (loopO (validateEntry_b1 e1 v) (0 : Int)).bind fun e => match e with
      | (.inl rv) =>
       some rv
      | (.inr ()) =>
       validateEntry_j1 e1 v
noncomputable def validateNote (n1 : ApiCodeNote) : Option (Int) :=
 (nomLevel n1.Scope).bind fun v =>
  (if (!(v == (0 : Int))) = true then nomDescribed n1.Words else some default).bind fun v2 =>
   if (bif (v == (0 : Int)) then true else (!v2)) = true then
    some (1 : Int)
   else
    (if (!(n1.Target == ([] : Str))) = true then nomLevel n1.Target else some default).bind fun v3 =>
     if (bif (!(n1.Target == ([] : Str))) then (v3 != (4 : Int)) else false) = true then
      some (1 : Int)
     else
      some (0 : Int)
noncomputable def validateOrder (before : ApiCodeEntry) (e1 : ApiCodeEntry) : Option (Int) :=
 (versionOf before).bind fun v =>
  (versionOf e1).bind fun v2 =>
   (versionCmp v v2).bind fun v3 =>
    if (decide ((0 : Int) ≤ v3)) = true then
     some (9 : Int)
    else
     if (bif (before.Code == e1.Code) then (decide (e1.From < before.To)) else false) = true then
      some (1 : Int)
     else
      some (0 : Int)
noncomputable def hasParent_j1 (e1 : ApiCodeEntry) (day : Int) : Option (Bool) :=
 some (decide (e1.To ≤ day))
noncomputable def hasParent_j2 (b : ApiNomenclature) (e1 : ApiCodeEntry) (t25 : Int) (day6 : Int) : Option ((Int × Int) ⊕ (Int)) :=
 some (.inl ((IntKind.i64.wrap (t25 + (1 : Int))), day6))
noncomputable def hasParent_b1 (b : ApiNomenclature) (e1 : ApiCodeEntry) : (Int × Int) → Option ((Int × Int) ⊕ (Int))
 | (t25, day2) =>
  if (decide (t25 < (b.Entries.length : Int))) = true then
   if (0 ≤ t25) then
    (b.Entries[t25.toNat]?).bind fun x2 =>
     if (bif (bif (x2.Code == ((e1.Code.take (IntKind.i64.wrap ((e1.Code.length : Int) - (2 : Int))).toNat).drop (0 : Int).toNat)) then (decide (x2.From ≤ day2)) else false) then (decide (day2 < x2.To)) else false) = true then
      hasParent_j2 b e1 t25 x2.To
     else
      hasParent_j2 b e1 t25 day2
   else none
  else
   some (.inr day2)
noncomputable def hasParent (b : ApiNomenclature) (e1 : ApiCodeEntry) : Option (Bool) :=
 if ((e1.Code.length : Int) == (2 : Int)) = true then
  some true
 else
  if (0 ≤ (0 : Int) ∧ (0 : Int) ≤ (IntKind.i64.wrap ((e1.Code.length : Int) - (2 : Int))) ∧ (IntKind.i64.wrap ((e1.Code.length : Int) - (2 : Int))) ≤ (e1.Code.length : Int)) then
   (loopO (hasParent_b1 b e1) ((0 : Int), e1.From)).bind fun e => match e with
    | day5 =>
     hasParent_j1 e1 day5
  else none
noncomputable def nomValidate_j3  : Option (Int) :=
 some (0 : Int)
noncomputable def nomValidate_b1 (b : ApiNomenclature) : (Int) → Option ((Int) ⊕ ((Int) ⊕ (Unit)))
 | t64 =>
  if (decide (t64 < (b.Notes.length : Int))) = true then
   if (0 ≤ t64) then
    (b.Notes[t64.toNat]?).bind fun x2 =>
     (validateNote x2).bind fun v2 =>
      if (v2 != (0 : Int)) = true then
       some (.inr (.inl v2))
      else
       some (.inl (IntKind.i64.wrap (t64 + (1 : Int))))
   else none
  else
   some (.inr (.inr ()))
noncomputable def nomValidate_j2 (b : ApiNomenclature) : Option (Int) :=
 (loopO (nomValidate_b1 b) (0 : Int)).bind fun e => match e with
  | (.inl rv) =>
   some rv
  | (.inr ()) =>
   nomValidate_j3
noncomputable def nomValidate_b2 (b : ApiNomenclature) : (Int) → Option ((Int) ⊕ ((Int) ⊕ (Unit)))
 | t52 =>
  if (decide (t52 < (b.Entries.length : Int))) = true then
   if (0 ≤ t52) then
    (b.Entries[t52.toNat]?).bind fun x4 =>
     (hasParent b x4).bind fun v4 =>
      if (!v4) = true then
       some (.inr (.inl (6 : Int)))
      else
       some (.inl (IntKind.i64.wrap (t52 + (1 : Int))))
   else none
  else
   some (.inr (.inr ()))
noncomputable def nomValidate_j1 (b : ApiNomenclature) : Option (Int) :=
 (loopO (nomValidate_b2 b) (0 : Int)).bind fun e => match e with
  | (.inl rv) =>
   some rv
  | (.inr ()) =>
   nomValidate_j2 b
noncomputable def nomValidate_j4 (b : ApiNomenclature) (t25 : Int) : Option ((Int) ⊕ ((Int) ⊕ (Unit))) :=
 some (.inl (IntKind.i64.wrap (t25 + (1 : Int))))
noncomputable def nomValidate_b3 (b : ApiNomenclature) : (Int) → Option ((Int) ⊕ ((Int) ⊕ (Unit)))
 | t25 =>
  if (decide (t25 < (b.Entries.length : Int))) = true then
   if (0 ≤ t25) then
    (b.Entries[t25.toNat]?).bind fun x7 =>
     (validateEntry x7).bind fun v7 =>
      if (v7 != (0 : Int)) = true then
       some (.inr (.inl v7))
      else
       if (t25 == (0 : Int)) = true then
        nomValidate_j4 b t25
       else
        if (0 ≤ (IntKind.i64.wrap (t25 - (1 : Int)))) then
         (b.Entries[(IntKind.i64.wrap (t25 - (1 : Int))).toNat]?).bind fun x8 =>
          (validateOrder x8 x7).bind fun v8 =>
           if (v8 != (0 : Int)) = true then
            some (.inr (.inl v8))
           else
            nomValidate_j4 b t25
        else none
   else none
  else
   some (.inr (.inr ()))
noncomputable def nomValidate (b : ApiNomenclature) : Option (Int) :=
 if (bif (decide ((300 : Int) < (b.Entries.length : Int))) then true else (decide ((100 : Int) < (b.Notes.length : Int)))) = true then
  some (8 : Int)
 else
  (loopO (nomValidate_b3 b) (0 : Int)).bind fun e => match e with
   | (.inl rv) =>
    some rv
   | (.inr ()) =>
    nomValidate_j1 b
end Go.C
end

section
set_option linter.unusedVariables false
namespace Go.C
open Go.V
noncomputable def sIndex_j1  : Option (Int) :=
 some (-1 : Int)
noncomputable def sIndex_b1 (s : (List Str)) (v : Str) : (Int) → Option ((Int) ⊕ ((Int) ⊕ (Unit)))
 | t8 =>
  if (decide (t8 < (s.length : Int))) = true then
   if (0 ≤ t8) then
    (s[t8.toNat]?).bind fun x2 =>
     if (v == x2) = true then
      some (.inr (.inl t8))
     else
      some (.inl (IntKind.i64.wrap (t8 + (1 : Int))))
   else none
  else
   some (.inr (.inr ()))
noncomputable def sIndex (s : (List Str)) (v : Str) : Option (Int) :=
 (loopO (sIndex_b1 s v) (0 : Int)).bind fun e => match e with
  | (.inl rv) =>
   some rv
  | (.inr ()) =>
   sIndex_j1
noncomputable def sContains (s : (List Str)) (v : Str) : Option (Bool) :=
 (sIndex s v).bind fun v2 =>
  some (decide ((0 : Int) ≤ v2))
noncomputable def memberIn (s : Str) (a1 : (List Str)) : Option (Bool) :=
 (sContains a1 s).bind fun v =>
  some v
noncomputable def member (l : (List Str)) : Option ((List Str)) :=
 if (decide ((l.length : Int) ≤ (50 : Int))) = true then
  some l
 else
  none
noncomputable def subset_j1  : Option (Bool) :=
 some true
noncomputable def subset_b1 (a : (List Str)) (v : (List Str)) : (Int) → Option ((Int) ⊕ ((Bool) ⊕ (Unit)))
 | t12 =>
  if (decide (t12 < (a.length : Int))) = true then
   if (0 ≤ t12) then
    (a[t12.toNat]?).bind fun x2 =>
     (memberIn x2 v).bind fun v3 =>
      if (!v3) = true then
       some (.inr (.inl false))
      else
       some (.inl (IntKind.i64.wrap (t12 + (1 : Int))))
   else none
  else
   some (.inr (.inr ()))
noncomputable def subset (a : (List Str)) (b : (List Str)) : Option (Bool) :=
 (member b).bind fun v =>
  (loopO (subset_b1 a v) (0 : Int)).bind fun e => match e with
   | (.inl rv) =>
    some rv
   | (.inr ()) =>
    subset_j1
noncomputable def cloneWords_j1 (result : (List (List Str))) : Option ((List (List Str))) :=
 some result
noncomputable def cloneWords_b1 (l : (List (List Str))) : (Int × (List (List Str))) → Option ((Int × (List (List Str))) ⊕ ((List (List Str))))
 | (t82, result2) =>
  if (decide (t82 < (l.length : Int))) = true then
   if (0 ≤ t82) then
    (l[t82.toNat]?).bind fun x3 =>
     (cloneS x3).bind fun v3 =>
      if (result2.length + [v3].length ≤ 137438953472) then
       some (.inl ((IntKind.i64.wrap (t82 + (1 : Int))), (result2 ++ [v3])))
      else none
   else none
  else
   some (.inr result2)
noncomputable def cloneWords (l : (List (List Str))) : Option ((List (List Str))) :=
 (loopO (cloneWords_b1 l) ((0 : Int), [])).bind fun e => match e with
  | result3 =>
   cloneWords_j1 result3
noncomputable def nomAt_j1 (l : (List ApiCodeEntry)) : Option ((List ApiCodeEntry)) :=
 some l
noncomputable def nomAt_j2 (b : ApiNomenclature) (day : Int) (t112 : Int) (l6 : (List ApiCodeEntry)) : Option ((Int × (List ApiCodeEntry)) ⊕ ((List ApiCodeEntry))) :=
 some (.inl ((IntKind.i64.wrap (t112 + (1 : Int))), l6))
noncomputable def nomAt_b1 (b : ApiNomenclature) (day : Int) : (Int × (List ApiCodeEntry)) → Option ((Int × (List ApiCodeEntry)) ⊕ ((List ApiCodeEntry)))
 | (t112, l3) =>
  if (decide (t112 < (b.Entries.length : Int))) = true then
   if (0 ≤ t112) then
    (b.Entries[t112.toNat]?).bind fun x3 =>
     if (bif (decide (x3.From ≤ day)) then (decide (day < x3.To)) else false) = true then
      (cloneWords x3.Terms).bind fun v3 =>
       if (l3.length + [(⟨x3.Code, x3.From, x3.To, v3, x3.Other⟩ : ApiCodeEntry)].length ≤ 137438953472) then
        nomAt_j2 b day t112 (l3 ++ [(⟨x3.Code, x3.From, x3.To, v3, x3.Other⟩ : ApiCodeEntry)])
       else none
     else
      nomAt_j2 b day t112 l3
   else none
  else
   some (.inr l3)
noncomputable def nomAt (b : ApiNomenclature) (day : Int) : Option ((List ApiCodeEntry)) :=
 (loopO (nomAt_b1 b day) ((0 : Int), [])).bind fun e => match e with
  | l5 =>
   nomAt_j1 l5
noncomputable def nomFind_j1  : Option (ApiCodeEntry × Bool) :=
 some ((⟨[], 0, 0, [], false⟩ : ApiCodeEntry), false)
noncomputable def nomFind_b1 (code : Str) (v : (List ApiCodeEntry)) : (Int) → Option ((Int) ⊕ ((ApiCodeEntry × Bool) ⊕ (Unit)))
 | t14 =>
  if (decide (t14 < (v.length : Int))) = true then
   if (0 ≤ t14) then
    (v[t14.toNat]?).bind fun x2 =>
     if (x2.Code == code) = true then
      some (.inr (.inl (x2, true)))
     else
      some (.inl (IntKind.i64.wrap (t14 + (1 : Int))))
   else none
  else
   some (.inr (.inr ()))
noncomputable def nomFind (b : ApiNomenclature) (day : Int) (code : Str) : Option (ApiCodeEntry × Bool) :=
 (nomAt b day).bind fun v =>
  (loopO (nomFind_b1 code v) (0 : Int)).bind fun e => match e with
   | (.inl rv) =>
    some rv
   | (.inr ()) =>
    nomFind_j1
noncomputable def nomBelow_j1 (l : (List ApiCodeEntry)) : Option ((List ApiCodeEntry)) :=
 some l
noncomputable def nomBelow_j2 (code : Str) (v : (List ApiCodeEntry)) (t152 : Int) (l6 : (List ApiCodeEntry)) : Option ((Int × (List ApiCodeEntry)) ⊕ ((List ApiCodeEntry))) :=
 some (.inl ((IntKind.i64.wrap (t152 + (1 : Int))), l6))
noncomputable def nomBelow_b1 (code : Str) (v : (List ApiCodeEntry)) : (Int × (List ApiCodeEntry)) → Option ((Int × (List ApiCodeEntry)) ⊕ ((List ApiCodeEntry)))
 | (t152, l3) =>
  if (decide (t152 < (v.length : Int))) = true then
   if (0 ≤ t152) then
    (v[t152.toNat]?).bind fun x3 =>
     if ((!(bif (code == ([] : Str)) then ((x3.Code.length : Int) == (4 : Int)) else false)) && (bif (!(code == ([] : Str))) then (decide ((2 : Int) < (x3.Code.length : Int))) else false)) = true → (0 ≤ (0 : Int) ∧ (0 : Int) ≤ (IntKind.i64.wrap ((x3.Code.length : Int) - (2 : Int))) ∧ (IntKind.i64.wrap ((x3.Code.length : Int) - (2 : Int))) ≤ (x3.Code.length : Int)) then
      if (bif (bif (code == ([] : Str)) then ((x3.Code.length : Int) == (4 : Int)) else false) then true else (bif (bif (!(code == ([] : Str))) then (decide ((2 : Int) < (x3.Code.length : Int))) else false) then (((x3.Code.take (IntKind.i64.wrap ((x3.Code.length : Int) - (2 : Int))).toNat).drop (0 : Int).toNat) == code) else false)) = true then
       if (l3.length + [x3].length ≤ 137438953472) then
        nomBelow_j2 code v t152 (l3 ++ [x3])
       else none
      else
       nomBelow_j2 code v t152 l3
     else none
   else none
  else
   some (.inr l3)
noncomputable def nomBelow (b : ApiNomenclature) (day : Int) (code : Str) : Option ((List ApiCodeEntry)) :=
 (nomAt b day).bind fun v =>
  (loopO (nomBelow_b1 code v) ((0 : Int), [])).bind fun e => match e with
   | l5 =>
    nomBelow_j1 l5
noncomputable def nomExcluded_j1  : Option (Bool) :=
 some false
noncomputable def nomExcluded_b1 (b : ApiNomenclature) (code : Str) (words : (List Str)) : (Int) → Option ((Int) ⊕ ((Bool) ⊕ (Unit)))
 | t12 =>
  if (decide (t12 < (b.Notes.length : Int))) = true then
   if (0 ≤ t12) then
    (b.Notes[t12.toNat]?).bind fun x2 =>
     (hasPrefixS code x2.Scope).bind fun v3 =>
      (if v3 = true then subset x2.Words words else some default).bind fun v4 =>
       if (bif v3 then v4 else false) = true then
        some (.inr (.inl true))
       else
        some (.inl (IntKind.i64.wrap (t12 + (1 : Int))))
   else none
  else
   some (.inr (.inr ()))
noncomputable def nomExcluded (b : ApiNomenclature) (code : Str) (words : (List Str)) : Option (Bool) :=
 (loopO (nomExcluded_b1 b code words) (0 : Int)).bind fun e => match e with
  | (.inl rv) =>
   some rv
  | (.inr ()) =>
   nomExcluded_j1
noncomputable def nomAlts_j1 (l : (List (List Str))) : Option ((List (List Str))) :=
 some l
noncomputable def nomAlts_j2 (b : ApiNomenclature) (e1 : ApiCodeEntry) (t14 : Int) (l6 : (List (List Str))) : Option ((Int × (List (List Str))) ⊕ ((List (List Str)))) :=
 some (.inl ((IntKind.i64.wrap (t14 + (1 : Int))), l6))
noncomputable def nomAlts_b1 (b : ApiNomenclature) (e1 : ApiCodeEntry) : (Int × (List (List Str))) → Option ((Int × (List (List Str))) ⊕ ((List (List Str))))
 | (t14, l2) =>
  if (decide (t14 < (b.Notes.length : Int))) = true then
   if (0 ≤ t14) then
    (b.Notes[t14.toNat]?).bind fun x2 =>
     if (x2.Target == e1.Code) = true then
      (cloneS x2.Words).bind fun v3 =>
       if (l2.length + [v3].length ≤ 137438953472) then
        nomAlts_j2 b e1 t14 (l2 ++ [v3])
       else none
     else
      nomAlts_j2 b e1 t14 l2
   else none
  else
   some (.inr l2)
noncomputable def nomAlts (b : ApiNomenclature) (e1 : ApiCodeEntry) : Option ((List (List Str))) :=
 (cloneWords e1.Terms).bind fun v =>
  (loopO (nomAlts_b1 b e1) ((0 : Int), v)).bind fun e => match e with
   | l5 =>
    nomAlts_j1 l5
noncomputable def nomScore_j1 (score : Int) : Option (Int) :=
 some score
noncomputable def nomScore_j2 (words : (List Str)) (v2 : (List (List Str))) (t19 : Int) (score6 : Int) : Option ((Int × Int) ⊕ (Int)) :=
 some (.inl ((IntKind.i64.wrap (t19 + (1 : Int))), score6))
noncomputable def nomScore_b1 (words : (List Str)) (v2 : (List (List Str))) : (Int × Int) → Option ((Int × Int) ⊕ (Int))
 | (t19, score2) =>
  if (decide (t19 < (v2.length : Int))) = true then
   if (0 ≤ t19) then
    (v2[t19.toNat]?).bind fun x2 =>
     (if (decide (score2 < (x2.length : Int))) = true then subset x2 words else some default).bind fun v4 =>
      if (bif (decide (score2 < (x2.length : Int))) then v4 else false) = true then
       nomScore_j2 words v2 t19 (x2.length : Int)
      else
       nomScore_j2 words v2 t19 score2
   else none
  else
   some (.inr score2)
noncomputable def nomScore (b : ApiNomenclature) (e1 : ApiCodeEntry) (words : (List Str)) : Option (Int) :=
 (nomExcluded b e1.Code words).bind fun v =>
  if v = true then
   some (0 : Int)
  else
   (nomAlts b e1).bind fun v2 =>
    (loopO (nomScore_b1 words v2) ((0 : Int), (0 : Int))).bind fun e => match e with
     | score5 =>
      nomScore_j1 score5
end Go.C
end

section
set_option linter.unusedVariables false
namespace Go.C
open Go.V
noncomputable def refHas_j1  : Option (Bool) :=
 some false
noncomputable def refHas_b1 (l : (List Str)) (s : Str) : (Int) → Option ((Int) ⊕ ((Bool) ⊕ (Unit)))
 | i =>
  if (decide (i < (l.length : Int))) = true then
   if (0 ≤ i) then
    (l[i.toNat]?).bind fun x2 =>
     if (x2 == s) = true then
      some (.inr (.inl true))
     else
      some (.inl (IntKind.i64.wrap (i + (1 : Int))))
   else none
  else
   some (.inr (.inr ()))
noncomputable def refHas (l : (List Str)) (s : Str) : Option (Bool) :=
 (loopO (refHas_b1 l s) (0 : Int)).bind fun e => match e with
  | (.inl rv) =>
   some rv
  | (.inr ()) =>
   refHas_j1
noncomputable def refSubset_j1  : Option (Bool) :=
 some true
noncomputable def refSubset_b1 (a : (List Str)) (b : (List Str)) : (Int) → Option ((Int) ⊕ ((Bool) ⊕ (Unit)))
 | i =>
  if (decide (i < (a.length : Int))) = true then
   if (0 ≤ i) then
    (a[i.toNat]?).bind fun x2 =>
     (refHas b x2).bind fun v2 =>
      if (!v2) = true then
       some (.inr (.inl false))
      else
       some (.inl (IntKind.i64.wrap (i + (1 : Int))))
   else none
  else
   some (.inr (.inr ()))
noncomputable def refSubset (a : (List Str)) (b : (List Str)) : Option (Bool) :=
 (loopO (refSubset_b1 a b) (0 : Int)).bind fun e => match e with
  | (.inl rv) =>
   some rv
  | (.inr ()) =>
   refSubset_j1
noncomputable def refWith_j1 (l : (List Str)) (s : Str) (k : Int) : Option ((List Str)) :=
 if ((decide (k < (l.length : Int))) = true → (0 ≤ k ∧ k < (l.length : Int))) then
  if (bif (decide (k < (l.length : Int))) then ((l.getD k.toNat default) == s) else false) = true then
   some l
  else
   if (0 ≤ (0 : Int) ∧ (0 : Int) ≤ k ∧ k ≤ (l.length : Int)) then
    if (0 + ((l.take k.toNat).drop (0 : Int).toNat).length ≤ 137438953472) then
     if (((l.take k.toNat).drop (0 : Int).toNat).length + [s].length ≤ 137438953472) then
      if (0 ≤ k ∧ k ≤ (l.length : Int)) then
       if ((((l.take k.toNat).drop (0 : Int).toNat) ++ [s]).length + (l.drop k.toNat).length ≤ 137438953472) then
        some ((((l.take k.toNat).drop (0 : Int).toNat) ++ [s]) ++ (l.drop k.toNat))
       else none
      else none
     else none
    else none
   else none
 else none
noncomputable def refWith_b1 (l : (List Str)) (s : Str) : (Int) → Option ((Int) ⊕ (Int))
 | k2 =>
  if ((decide (k2 < (l.length : Int))) = true → (0 ≤ k2 ∧ k2 < (l.length : Int))) then
   if (bif (decide (k2 < (l.length : Int))) then (Op.bytesLess (l.getD k2.toNat default) s) else false) = true then
    some (.inl (IntKind.i64.wrap (k2 + (1 : Int))))
   else
    some (.inr k2)
  else none
noncomputable def refWith (l : (List Str)) (s : Str) : Option ((List Str)) :=
 (loopO (refWith_b1 l s) (0 : Int)).bind fun e => match e with
  | k4 =>
   refWith_j1 l s k4
noncomputable def refUnion_j2 (out2 : (List Str)) : Option ((List Str)) :=
 some out2
noncomputable def refUnion_b1 (b : (List Str)) : (Int × (List Str)) → Option ((Int × (List Str)) ⊕ ((List Str)))
 | (i, out3) =>
  if (decide (i < (b.length : Int))) = true then
   if (0 ≤ i) then
    (b[i.toNat]?).bind fun x2 =>
     (refWith out3 x2).bind fun v2 =>
      some (.inl ((IntKind.i64.wrap (i + (1 : Int))), v2))
   else none
  else
   some (.inr out3)
noncomputable def refUnion_j1 (b : (List Str)) (out : (List Str)) : Option ((List Str)) :=
 (loopO (refUnion_b1 b) ((0 : Int), out)).bind fun e => match e with
  | out5 =>
   refUnion_j2 out5
noncomputable def refUnion_b2 (a : (List Str)) (b : (List Str)) : (Int × (List Str)) → Option ((Int × (List Str)) ⊕ ((List Str)))
 | (i4, out6) =>
  if (decide (i4 < (a.length : Int))) = true then
   if (0 ≤ i4) then
    (a[i4.toNat]?).bind fun x5 =>
     (refWith out6 x5).bind fun v5 =>
      some (.inl ((IntKind.i64.wrap (i4 + (1 : Int))), v5))
   else none
  else
   some (.inr out6)
noncomputable def refUnion (a : (List Str)) (b : (List Str)) : Option ((List Str)) :=
 (loopO (refUnion_b2 a b) ((0 : Int), [])).bind fun e => match e with
  | out7 =>
   refUnion_j1 b out7
noncomputable def sameStrings_j1  : Option (Bool) :=
 some true
noncomputable def sameStrings_b1 (a : (List Str)) (b : (List Str)) : (Int) → Option ((Int) ⊕ ((Bool) ⊕ (Unit)))
 | i =>
  if (decide (i < (a.length : Int))) = true then
   if (0 ≤ i) then
    (a[i.toNat]?).bind fun x3 =>
     if (0 ≤ i) then
      (b[i.toNat]?).bind fun x4 =>
       if (!(x3 == x4)) = true then
        some (.inr (.inl false))
       else
        some (.inl (IntKind.i64.wrap (i + (1 : Int))))
     else none
   else none
  else
   some (.inr (.inr ()))
noncomputable def sameStrings (a : (List Str)) (b : (List Str)) : Option (Bool) :=
 if ((a.length : Int) != (b.length : Int)) = true then
  some false
 else
  (loopO (sameStrings_b1 a b) (0 : Int)).bind fun e => match e with
   | (.inl rv) =>
    some rv
   | (.inr ()) =>
    sameStrings_j1
noncomputable def refPrefix (code : Str) (p : Str) : Option (Bool) :=
 if (decide ((p.length : Int) ≤ (code.length : Int))) = true → (0 ≤ (0 : Int) ∧ (0 : Int) ≤ (p.length : Int) ∧ (p.length : Int) ≤ (code.length : Int)) then
  some (bif (decide ((p.length : Int) ≤ (code.length : Int))) then (((code.take (p.length : Int).toNat).drop (0 : Int).toNat) == p) else false)
 else none
noncomputable def refAt_j1 (out : (List ApiCodeEntry)) : Option ((List ApiCodeEntry)) :=
 some out
noncomputable def refAt_j2 (b : ApiNomenclature) (day : Int) (i2 : Int) (out6 : (List ApiCodeEntry)) : Option ((Int × (List ApiCodeEntry)) ⊕ ((List ApiCodeEntry))) :=
 some (.inl ((IntKind.i64.wrap (i2 + (1 : Int))), out6))
noncomputable def refAt_b1 (b : ApiNomenclature) (day : Int) : (Int × (List ApiCodeEntry)) → Option ((Int × (List ApiCodeEntry)) ⊕ ((List ApiCodeEntry)))
 | (i2, out3) =>
  if (decide (i2 < (b.Entries.length : Int))) = true then
   if (0 ≤ i2) then
    (b.Entries[i2.toNat]?).bind fun x5 =>
     if ((decide (x5.From ≤ day)) = true → (0 ≤ i2 ∧ i2 < (b.Entries.length : Int))) then
      if (bif (decide (x5.From ≤ day)) then (decide (day < ((b.Entries.getD i2.toNat default).To))) else false) = true then
       if (0 ≤ i2) then
        (b.Entries[i2.toNat]?).bind fun x6 =>
         if (out3.length + [x6].length ≤ 137438953472) then
          refAt_j2 b day i2 (out3 ++ [x6])
         else none
       else none
      else
       refAt_j2 b day i2 out3
     else none
   else none
  else
   some (.inr out3)
noncomputable def refAt (b : ApiNomenclature) (day : Int) : Option ((List ApiCodeEntry)) :=
 (loopO (refAt_b1 b day) ((0 : Int), [])).bind fun e => match e with
  | out5 =>
   refAt_j1 out5
noncomputable def refBelow_j1 (out : (List ApiCodeEntry)) : Option ((List ApiCodeEntry)) :=
 some out
noncomputable def refBelow_j2 (code : Str) (v : (List ApiCodeEntry)) (i2 : Int) (out6 : (List ApiCodeEntry)) : Option ((Int × (List ApiCodeEntry)) ⊕ ((List ApiCodeEntry))) :=
 some (.inl ((IntKind.i64.wrap (i2 + (1 : Int))), out6))
noncomputable def refBelow_b1 (code : Str) (v : (List ApiCodeEntry)) : (Int × (List ApiCodeEntry)) → Option ((Int × (List ApiCodeEntry)) ⊕ ((List ApiCodeEntry)))
 | (i2, out3) =>
  if (decide (i2 < (v.length : Int))) = true then
   if (0 ≤ i2) then
    (v[i2.toNat]?).bind fun x5 =>
     if (((!(bif (code == ([] : Str)) then ((x5.Code.length : Int) == (4 : Int)) else false)) && (bif (!(code == ([] : Str))) then ((x5.Code.length : Int) == (IntKind.i64.wrap ((code.length : Int) + (2 : Int)))) else false)) = true → (0 ≤ i2 ∧ i2 < (v.length : Int))) then
      (if ((!(bif (code == ([] : Str)) then ((x5.Code.length : Int) == (4 : Int)) else false)) && (bif (!(code == ([] : Str))) then ((x5.Code.length : Int) == (IntKind.i64.wrap ((code.length : Int) + (2 : Int)))) else false)) = true then refPrefix ((v.getD i2.toNat default).Code) code else some default).bind fun v4 =>
       if (bif (bif (code == ([] : Str)) then ((x5.Code.length : Int) == (4 : Int)) else false) then true else (bif (bif (!(code == ([] : Str))) then ((x5.Code.length : Int) == (IntKind.i64.wrap ((code.length : Int) + (2 : Int)))) else false) then v4 else false)) = true then
        if (0 ≤ i2) then
         (v[i2.toNat]?).bind fun x6 =>
          if (out3.length + [x6].length ≤ 137438953472) then
           refBelow_j2 code v i2 (out3 ++ [x6])
          else none
        else none
       else
        refBelow_j2 code v i2 out3
     else none
   else none
  else
   some (.inr out3)
noncomputable def refBelow (b : ApiNomenclature) (day : Int) (code : Str) : Option ((List ApiCodeEntry)) :=
 (refAt b day).bind fun v =>
  (loopO (refBelow_b1 code v) ((0 : Int), [])).bind fun e => match e with
   | out5 =>
    refBelow_j1 out5
noncomputable def refExcluded_j1  : Option (Bool) :=
 some false
noncomputable def refExcluded_b1 (b : ApiNomenclature) (code : Str) (words : (List Str)) : (Int) → Option ((Int) ⊕ ((Bool) ⊕ (Unit)))
 | i =>
  if (decide (i < (b.Notes.length : Int))) = true then
   if (0 ≤ i) then
    (b.Notes[i.toNat]?).bind fun x2 =>
     (refPrefix code x2.Scope).bind fun v3 =>
      if (v3 = true → (0 ≤ i ∧ i < (b.Notes.length : Int))) then
       (if v3 = true then refSubset ((b.Notes.getD i.toNat default).Words) words else some default).bind fun v4 =>
        if (bif v3 then v4 else false) = true then
         some (.inr (.inl true))
        else
         some (.inl (IntKind.i64.wrap (i + (1 : Int))))
      else none
   else none
  else
   some (.inr (.inr ()))
noncomputable def refExcluded (b : ApiNomenclature) (code : Str) (words : (List Str)) : Option (Bool) :=
 (loopO (refExcluded_b1 b code words) (0 : Int)).bind fun e => match e with
  | (.inl rv) =>
   some rv
  | (.inr ()) =>
   refExcluded_j1
noncomputable def refAlts_j1 (out : (List (List Str))) : Option ((List (List Str))) :=
 some out
noncomputable def refAlts_j2 (b : ApiNomenclature) (x : ApiCodeEntry) (i : Int) (out6 : (List (List Str))) : Option ((Int × (List (List Str))) ⊕ ((List (List Str)))) :=
 some (.inl ((IntKind.i64.wrap (i + (1 : Int))), out6))
noncomputable def refAlts_b1 (b : ApiNomenclature) (x : ApiCodeEntry) : (Int × (List (List Str))) → Option ((Int × (List (List Str))) ⊕ ((List (List Str))))
 | (i, out2) =>
  if (decide (i < (b.Notes.length : Int))) = true then
   if (0 ≤ i) then
    (b.Notes[i.toNat]?).bind fun x4 =>
     if (x4.Target == x.Code) = true then
      if (0 ≤ i) then
       (b.Notes[i.toNat]?).bind fun x5 =>
        if (out2.length + [x5.Words].length ≤ 137438953472) then
         refAlts_j2 b x i (out2 ++ [x5.Words])
        else none
      else none
     else
      refAlts_j2 b x i out2
   else none
  else
   some (.inr out2)
noncomputable def refAlts (b : ApiNomenclature) (x : ApiCodeEntry) : Option ((List (List Str))) :=
 if (0 + x.Terms.length ≤ 137438953472) then
  (loopO (refAlts_b1 b x) ((0 : Int), x.Terms)).bind fun e => match e with
   | out5 =>
    refAlts_j1 out5
 else none
noncomputable def refScore_j1 (n1 : Int) : Option (Int) :=
 some n1
noncomputable def refScore_j2 (words : (List Str)) (v2 : (List (List Str))) (i : Int) (n16 : Int) : Option ((Int × Int) ⊕ (Int)) :=
 some (.inl ((IntKind.i64.wrap (i + (1 : Int))), n16))
noncomputable def refScore_b1 (words : (List Str)) (v2 : (List (List Str))) : (Int × Int) → Option ((Int × Int) ⊕ (Int))
 | (i, n12) =>
  if (decide (i < (v2.length : Int))) = true then
   if (0 ≤ i) then
    (v2[i.toNat]?).bind fun x4 =>
     (refSubset x4 words).bind fun v4 =>
      if v4 = true then
       if (0 ≤ i) then
        (v2[i.toNat]?).bind fun x5 =>
         refScore_j2 words v2 i (if (x5.length : Int) > n12 then (x5.length : Int) else n12)
       else none
      else
       refScore_j2 words v2 i n12
   else none
  else
   some (.inr n12)
noncomputable def refScore (b : ApiNomenclature) (x : ApiCodeEntry) (words : (List Str)) : Option (Int) :=
 (refExcluded b x.Code words).bind fun v =>
  if v = true then
   some (0 : Int)
  else
   (refAlts b x).bind fun v2 =>
    (loopO (refScore_b1 words v2) ((0 : Int), (0 : Int))).bind fun e => match e with
     | n15 =>
      refScore_j1 n15
noncomputable def sameEntries_j1  : Option (Bool) :=
 some true
noncomputable def sameEntries_j2 (a : (List ApiCodeEntry)) (b : (List ApiCodeEntry)) (i : Int) : Option ((Int) ⊕ ((Bool) ⊕ (Unit))) :=
 some (.inl (IntKind.i64.wrap (i + (1 : Int))))
noncomputable def sameEntries_b2 (a : (List ApiCodeEntry)) (b : (List ApiCodeEntry)) (i : Int) : (Int) → Option ((Int) ⊕ ((Bool) ⊕ (Unit)))
 | k3 =>
  if (0 ≤ i) then
   (a[i.toNat]?).bind fun x20 =>
    if (decide (k3 < (x20.Terms.length : Int))) = true then
     if (0 ≤ i) then
      (a[i.toNat]?).bind fun x21 =>
       if (0 ≤ k3) then
        (x21.Terms[k3.toNat]?).bind fun x22 =>
         if (0 ≤ i) then
          (b[i.toNat]?).bind fun x23 =>
           if (0 ≤ k3) then
            (x23.Terms[k3.toNat]?).bind fun x24 =>
             (sameStrings x22 x24).bind fun v4 =>
              if (!v4) = true then
               some (.inr (.inl false))
              else
               some (.inl (IntKind.i64.wrap (k3 + (1 : Int))))
           else none
         else none
       else none
     else none
    else
     some (.inr (.inr ()))
  else none
noncomputable def sameEntries_b1 (a : (List ApiCodeEntry)) (b : (List ApiCodeEntry)) : (Int) → Option ((Int) ⊕ ((Bool) ⊕ (Unit)))
 | i =>
  if (decide (i < (a.length : Int))) = true then
   if (0 ≤ i) then
    (a[i.toNat]?).bind fun x13 =>
     if (0 ≤ i) then
      (b[i.toNat]?).bind fun x14 =>
       if ((!(!(x13.Code == x14.Code))) = true → (0 ≤ i ∧ i < (a.length : Int))) then
        if ((!(!(x13.Code == x14.Code))) = true → (0 ≤ i ∧ i < (b.length : Int))) then
         if ((!(bif (!(x13.Code == x14.Code)) then true else (((a.getD i.toNat default).From) != ((b.getD i.toNat default).From)))) = true → (0 ≤ i ∧ i < (a.length : Int))) then
          if ((!(bif (!(x13.Code == x14.Code)) then true else (((a.getD i.toNat default).From) != ((b.getD i.toNat default).From)))) = true → (0 ≤ i ∧ i < (b.length : Int))) then
           if ((!(bif (bif (!(x13.Code == x14.Code)) then true else (((a.getD i.toNat default).From) != ((b.getD i.toNat default).From))) then true else (((a.getD i.toNat default).To) != ((b.getD i.toNat default).To)))) = true → (0 ≤ i ∧ i < (a.length : Int))) then
            if ((!(bif (bif (!(x13.Code == x14.Code)) then true else (((a.getD i.toNat default).From) != ((b.getD i.toNat default).From))) then true else (((a.getD i.toNat default).To) != ((b.getD i.toNat default).To)))) = true → (0 ≤ i ∧ i < (b.length : Int))) then
             if ((!(bif (bif (bif (!(x13.Code == x14.Code)) then true else (((a.getD i.toNat default).From) != ((b.getD i.toNat default).From))) then true else (((a.getD i.toNat default).To) != ((b.getD i.toNat default).To))) then true else (!(((a.getD i.toNat default).Other) == ((b.getD i.toNat default).Other))))) = true → (0 ≤ i ∧ i < (a.length : Int))) then
              if ((!(bif (bif (bif (!(x13.Code == x14.Code)) then true else (((a.getD i.toNat default).From) != ((b.getD i.toNat default).From))) then true else (((a.getD i.toNat default).To) != ((b.getD i.toNat default).To))) then true else (!(((a.getD i.toNat default).Other) == ((b.getD i.toNat default).Other))))) = true → (0 ≤ i ∧ i < (b.length : Int))) then
               if (bif (bif (bif (bif (!(x13.Code == x14.Code)) then true else (((a.getD i.toNat default).From) != ((b.getD i.toNat default).From))) then true else (((a.getD i.toNat default).To) != ((b.getD i.toNat default).To))) then true else (!(((a.getD i.toNat default).Other) == ((b.getD i.toNat default).Other)))) then true else ((((a.getD i.toNat default).Terms).length : Int) != (((b.getD i.toNat default).Terms).length : Int))) = true then
                some (.inr (.inl false))
               else
                (loopO (sameEntries_b2 a b i) (0 : Int)).bind fun e => match e with
                 | (.inl rv) =>
                  some (.inr (.inl rv))
                 | (.inr ()) =>
                  sameEntries_j2 a b i
              else none
             else none
            else none
           else none
          else none
         else none
        else none
       else none
     else none
   else none
  else
   some (.inr (.inr ()))
noncomputable def sameEntries (a : (List ApiCodeEntry)) (b : (List ApiCodeEntry)) : Option (Bool) :=
 if ((a.length : Int) != (b.length : Int)) = true then
  some false
 else
  (loopO (sameEntries_b1 a b) (0 : Int)).bind fun e => match e with
   | (.inl rv) =>
    some rv
   | (.inr ()) =>
    sameEntries_j1
end Go.C
end

section
set_option linter.unusedVariables false
namespace Go.C
open Go.V
noncomputable def described (l : (List Str)) : Option (Bool) :=
 (if (decide ((0 : Int) < (l.length : Int))) = true then validWords l else some default).bind fun v =>
  some (bif (decide ((0 : Int) < (l.length : Int))) then v else false)
noncomputable def growInt_j1 (s : (List Int)) : Option ((List Int)) :=
 some s
noncomputable def growInt (n1 : Int) : Option ((List Int)) :=
 if (decide (n1 < (0 : Int))) = true then
  none
 else
  if (decide ((0 : Int) < (IntKind.i64.wrap (n1 - (IntKind.i64.wrap ((0 : Int) - (0 : Int))))))) = true then
   if (0 < (IntKind.i64.wrap (n1 - (IntKind.i64.wrap ((0 : Int) - (0 : Int))))) ∧ (IntKind.i64.wrap (n1 - (IntKind.i64.wrap ((0 : Int) - (0 : Int))))) ≤ 137438953472) then
    growInt_j1 []
   else none
  else
   growInt_j1 []
noncomputable def concatInt_j2 (newslice : (List Int)) : Option ((List Int)) :=
 some newslice
noncomputable def concatInt_b1 (slices : (List (List Int))) : (Int × (List Int)) → Option ((Int × (List Int)) ⊕ ((List Int)))
 | (t27, newslice2) =>
  if (decide (t27 < (slices.length : Int))) = true then
   if (0 ≤ t27) then
    (slices[t27.toNat]?).bind fun x2 =>
     if (newslice2.length + x2.length ≤ 137438953472) then
      some (.inl ((IntKind.i64.wrap (t27 + (1 : Int))), (newslice2 ++ x2)))
     else none
   else none
  else
   some (.inr newslice2)
noncomputable def concatInt_j1 (slices : (List (List Int))) (size : Int) : Option ((List Int)) :=
 (growInt size).bind fun v =>
  (loopO (concatInt_b1 slices) ((0 : Int), v)).bind fun e => match e with
   | newslice4 =>
    concatInt_j2 newslice4
noncomputable def concatInt_b2 (slices : (List (List Int))) : (Int × Int) → Option ((Int × Int) ⊕ (Int))
 | (t11, size2) =>
  if (decide (t11 < (slices.length : Int))) = true then
   if (0 ≤ t11) then
    (slices[t11.toNat]?).bind fun x4 =>
     if (decide ((IntKind.i64.wrap (size2 + (x4.length : Int))) < (0 : Int))) = true then
      none
     else
      some (.inl ((IntKind.i64.wrap (t11 + (1 : Int))), (IntKind.i64.wrap (size2 + (x4.length : Int)))))
   else none
  else
   some (.inr size2)
noncomputable def concatInt (slices : (List (List Int))) : Option ((List Int)) :=
 (loopO (concatInt_b2 slices) ((0 : Int), (0 : Int))).bind fun e => match e with
  | size4 =>
   concatInt_j1 slices size4
noncomputable def complete_j1 (shares : (List Int)) (sum : Int) : Option (Bool) :=
 some (bif ((shares.length : Int) == (0 : Int)) then true else (sum == (1000000 : Int)))
noncomputable def complete_b1 (shares : (List Int)) : (Int × Int) → Option ((Int × Int) ⊕ (Int))
 | (t8, sum2) =>
  if (decide (t8 < (shares.length : Int))) = true then
   if (0 ≤ t8) then
    (shares[t8.toNat]?).bind fun x2 =>
     some (.inl ((IntKind.i64.wrap (t8 + (1 : Int))), (IntKind.i64.wrap (sum2 + x2))))
   else none
  else
   some (.inr sum2)
noncomputable def complete (shares : (List Int)) : Option (Bool) :=
 (loopO (complete_b1 shares) ((0 : Int), (0 : Int))).bind fun e => match e with
  | sum4 =>
   complete_j1 shares sum4
noncomputable def goodsValidate_j3 (parts : (List Int)) (materials2 : (List Int)) : Option (Int) :=
 (complete materials2).bind fun v4 =>
  (if (!(!v4)) = true then complete parts else some default).bind fun v5 =>
   if (bif (!v4) then true else (!v5)) = true then
    some (1 : Int)
   else
    some (0 : Int)
noncomputable def goodsValidate_b1 (parts : (List Int)) (materials2 : (List Int)) (v3 : (List Int)) : (Int × (List Int)) → Option ((Int × (List Int)) ⊕ ((Int) ⊕ (Unit)))
 | (t69, t67) =>
  if (decide (t69 < (v3.length : Int))) = true then
   if (0 ≤ t69 ∧ t69 < (t67.length : Int)) then
    if (bif (decide ((t67.getD t69.toNat default) < (1 : Int))) then true else (decide ((1000000 : Int) < (t67.getD t69.toNat default)))) = true then
     some (.inr (.inl (2 : Int)))
    else
     some (.inl ((IntKind.i64.wrap (t69 + (1 : Int))), t67))
   else none
  else
   some (.inr (.inr ()))
noncomputable def goodsValidate_j2 (parts : (List Int)) (materials2 : (List Int)) : Option (Int) :=
 (concatInt [materials2, parts]).bind fun v3 =>
  (loopO (goodsValidate_b1 parts materials2 v3) ((0 : Int), v3)).bind fun e => match e with
   | (.inl rv) =>
    some rv
   | (.inr ()) =>
    goodsValidate_j3 parts materials2
noncomputable def goodsValidate_b2 (g : ApiGood) : (Int × (List Int) × (List Int)) → Option ((Int × (List Int) × (List Int)) ⊕ ((Int) ⊕ ((List Int) × (List Int))))
 | (t502, parts2, materials4) =>
  if (decide (t502 < (g.Parts.length : Int))) = true then
   if (0 ≤ t502) then
    (g.Parts[t502.toNat]?).bind fun x3 =>
     (described x3.Words).bind fun v8 =>
      if (!v8) = true then
       some (.inr (.inl (1 : Int)))
      else
       if (parts2.length + [x3.Share].length ≤ 137438953472) then
        some (.inl ((IntKind.i64.wrap (t502 + (1 : Int))), (parts2 ++ [x3.Share]), materials4))
       else none
   else none
  else
   some (.inr (.inr (parts2, materials4)))
noncomputable def goodsValidate_j1 (g : ApiGood) (materials : (List Int)) (names : (List Str)) : Option (Int) :=
 (validWords names).bind fun v2 =>
  if (!v2) = true then
   some (1 : Int)
  else
   (loopO (goodsValidate_b2 g) ((0 : Int), [], materials)).bind fun e => match e with
    | (.inl rv) =>
     some rv
    | (.inr (parts3, materials5)) =>
     goodsValidate_j2 parts3 materials5
noncomputable def goodsValidate_b3 (g : ApiGood) : (Int × (List Int) × (List Str)) → Option ((Int × (List Int) × (List Str)) ⊕ ((List Int) × (List Str)))
 | (t292, materials6, names2) =>
  if (decide (t292 < (g.Materials.length : Int))) = true then
   if (0 ≤ t292) then
    (g.Materials[t292.toNat]?).bind fun x6 =>
     if (names2.length + [x6.Name].length ≤ 137438953472) then
      if (materials6.length + [x6.Share].length ≤ 137438953472) then
       some (.inl ((IntKind.i64.wrap (t292 + (1 : Int))), (materials6 ++ [x6.Share]), (names2 ++ [x6.Name])))
      else none
     else none
   else none
  else
   some (.inr (materials6, names2))
noncomputable def goodsValidate (g : ApiGood) : Option (Int) :=
 (described g.Words).bind fun v =>
  if (!v) = true then
   some (1 : Int)
  else
   if (bif (decide ((8 : Int) < (g.Materials.length : Int))) then true else (decide ((6 : Int) < (g.Parts.length : Int)))) = true then
    some (8 : Int)
   else
    (loopO (goodsValidate_b3 g) ((0 : Int), [], [])).bind fun e => match e with
     | (materials7, names3) =>
      goodsValidate_j1 g materials7 names3
noncomputable def charLess (a : ApiComponent) (b : ApiComponent) : Option (Int) :=
 (cmpInt b.Share a.Share).bind fun v =>
  some v
noncomputable def insSort_j1 (a : Int) (b : Int) (i : Int) (row08 : (List ApiComponent)) : Option ((Int × (List ApiComponent)) ⊕ ((List ApiComponent))) :=
 some (.inl ((IntKind.i64.wrap (i + (1 : Int))), row08))
noncomputable def insSort_b2 (a : Int) (b : Int) (i : Int) : (Int × (List ApiComponent)) → Option ((Int × (List ApiComponent)) ⊕ ((List ApiComponent)))
 | (j3, row09) =>
  if ((decide (a < j3)) = true → (0 ≤ j3 ∧ j3 < (row09.length : Int))) then
   if ((decide (a < j3)) = true → (0 ≤ (IntKind.i64.wrap (j3 - (1 : Int))) ∧ (IntKind.i64.wrap (j3 - (1 : Int))) < (row09.length : Int))) then
    (if (decide (a < j3)) = true then charLess (row09.getD j3.toNat default) (row09.getD (IntKind.i64.wrap (j3 - (1 : Int))).toNat default) else some default).bind fun v4 =>
     if (bif (decide (a < j3)) then (decide (v4 < (0 : Int))) else false) = true then
      if (0 ≤ (IntKind.i64.wrap (j3 - (1 : Int))) ∧ (IntKind.i64.wrap (j3 - (1 : Int))) < (row09.length : Int)) then
       if (0 ≤ j3 ∧ j3 < (row09.length : Int)) then
        if (0 ≤ j3 ∧ j3 < (row09.length : Int)) then
         if (0 ≤ (IntKind.i64.wrap (j3 - (1 : Int))) ∧ (IntKind.i64.wrap (j3 - (1 : Int))) < ((row09.set j3.toNat (row09.getD (IntKind.i64.wrap (j3 - (1 : Int))).toNat default)).length : Int)) then
          some (.inl ((IntKind.i64.wrap (j3 - (1 : Int))), ((row09.set j3.toNat (row09.getD (IntKind.i64.wrap (j3 - (1 : Int))).toNat default)).set (IntKind.i64.wrap (j3 - (1 : Int))).toNat (row09.getD j3.toNat default))))
         else none
        else none
       else none
      else none
     else
      some (.inr row09)
   else none
  else none
noncomputable def insSort_b1 (a : Int) (b : Int) : (Int × (List ApiComponent)) → Option ((Int × (List ApiComponent)) ⊕ ((List ApiComponent)))
 | (i, row0) =>
  if (decide (i < b)) = true then
   (loopO (insSort_b2 a b i) (i, row0)).bind fun e => match e with
    | row011 =>
     insSort_j1 a b i row011
  else
   some (.inr row0)
noncomputable def insSort (data : (List ApiComponent)) (a : Int) (b : Int) : Option ((List ApiComponent)) :=
 (loopO (insSort_b1 a b) ((IntKind.i64.wrap (a + (1 : Int))), data)).bind fun e => match e with
  | row07 =>
   some row07
noncomputable def stableSort_j2 (n1 : Int) (v : (List ApiComponent)) (blockSize : Int) (a6 : Int) : Option ((Int) ⊕ (Unit)) :=
 if (decide ((IntKind.i64.wrap (a6 + blockSize)) < n1)) = true then
  none
 else
  some (.inl (IntKind.i64.wrap (blockSize * (2 : Int))))
noncomputable def stableSort_b2 (n1 : Int) (v : (List ApiComponent)) (blockSize : Int) : (Int × Int) → Option ((Int × Int) ⊕ (Int))
 | (b3, a7) =>
  if (decide (b3 ≤ n1)) = true then
   none
  else
   some (.inr a7)
noncomputable def stableSort_b1 (n1 : Int) (v : (List ApiComponent)) : (Int) → Option ((Int) ⊕ (Unit))
 | blockSize =>
  if (decide (blockSize < n1)) = true then
   (loopO (stableSort_b2 n1 v blockSize) ((IntKind.i64.wrap ((2 : Int) * blockSize)), (0 : Int))).bind fun e => match e with
    | a9 =>
     stableSort_j2 n1 v blockSize a9
  else
   some (.inr ())
noncomputable def stableSort_j1 (n1 : Int) (a : Int) (row0 : (List ApiComponent)) : Option ((List ApiComponent)) :=
 (insSort row0 a n1).bind fun v =>
  (loopO (stableSort_b1 n1 v) (20 : Int)).bind fun e => match e with
   | () =>
    some v
noncomputable def stableSort_b3 (n1 : Int) : (Int × Int × (List ApiComponent)) → Option ((Int × Int × (List ApiComponent)) ⊕ (Int × (List ApiComponent)))
 | (b5, a10, row02) =>
  if (decide (b5 ≤ n1)) = true then
   (insSort row02 a10 b5).bind fun v3 =>
    some (.inl ((IntKind.i64.wrap (b5 + (20 : Int))), b5, v3))
  else
   some (.inr (a10, row02))
noncomputable def stableSort (data : (List ApiComponent)) (n1 : Int) : Option ((List ApiComponent)) :=
 (loopO (stableSort_b3 n1) ((20 : Int), (0 : Int), data)).bind fun e => match e with
  | (a12, row04) =>
   stableSort_j1 n1 a12 row04
noncomputable def sortStable (x : (List ApiComponent)) : Option ((List ApiComponent)) :=
 (stableSort x (x.length : Int)).bind fun v =>
  some v
noncomputable def goodsCharacters_j2 (l2 : (List ApiComponent)) : Option ((List ApiComponent)) :=
 (sortStable l2).bind fun v =>
  some v
noncomputable def goodsCharacters_b1 (g : ApiGood) : (Int × (List ApiComponent)) → Option ((Int × (List ApiComponent)) ⊕ ((List ApiComponent)))
 | (t32, l3) =>
  if (decide (t32 < (g.Materials.length : Int))) = true then
   if (0 ≤ t32) then
    (g.Materials[t32.toNat]?).bind fun x2 =>
     if (l3.length + [(⟨[x2.Name], x2.Share⟩ : ApiComponent)].length ≤ 137438953472) then
      some (.inl ((IntKind.i64.wrap (t32 + (1 : Int))), (l3 ++ [(⟨[x2.Name], x2.Share⟩ : ApiComponent)])))
     else none
   else none
  else
   some (.inr l3)
noncomputable def goodsCharacters_j1 (g : ApiGood) (l : (List ApiComponent)) : Option ((List ApiComponent)) :=
 if ((g.Parts.length : Int) == (0 : Int)) = true then
  (loopO (goodsCharacters_b1 g) ((0 : Int), l)).bind fun e => match e with
   | l5 =>
    goodsCharacters_j2 l5
 else
  goodsCharacters_j2 l
noncomputable def goodsCharacters_b2 (g : ApiGood) : (Int × (List ApiComponent)) → Option ((Int × (List ApiComponent)) ⊕ ((List ApiComponent)))
 | (t112, l6) =>
  if (decide (t112 < (g.Parts.length : Int))) = true then
   if (0 ≤ t112) then
    (g.Parts[t112.toNat]?).bind fun x5 =>
     (cloneS x5.Words).bind fun v4 =>
      if (l6.length + [(⟨v4, x5.Share⟩ : ApiComponent)].length ≤ 137438953472) then
       some (.inl ((IntKind.i64.wrap (t112 + (1 : Int))), (l6 ++ [(⟨v4, x5.Share⟩ : ApiComponent)])))
      else none
   else none
  else
   some (.inr l6)
noncomputable def goodsCharacters (g : ApiGood) : Option ((List ApiComponent)) :=
 (loopO (goodsCharacters_b2 g) ((0 : Int), [])).bind fun e => match e with
  | l7 =>
   goodsCharacters_j1 g l7
noncomputable def refCharacters_j2 (out : (List ApiComponent)) : Option ((List ApiComponent)) :=
 some out
noncomputable def refCharacters_j3 (best13 : Int) (out10 : (List ApiComponent)) (l16 : (List ApiComponent)) : Option (((List ApiComponent) × (List ApiComponent)) ⊕ ((List ApiComponent))) :=
 if (0 ≤ best13 ∧ best13 < (l16.length : Int)) then
  if (out10.length + [(l16.getD best13.toNat default)].length ≤ 137438953472) then
   if (0 ≤ (0 : Int) ∧ (0 : Int) ≤ best13 ∧ best13 ≤ (l16.length : Int)) then
    if (0 + ((l16.take best13.toNat).drop (0 : Int).toNat).length ≤ 137438953472) then
     if (0 ≤ (IntKind.i64.wrap (best13 + (1 : Int))) ∧ (IntKind.i64.wrap (best13 + (1 : Int))) ≤ (l16.length : Int)) then
      if (((l16.take best13.toNat).drop (0 : Int).toNat).length + (l16.drop (IntKind.i64.wrap (best13 + (1 : Int))).toNat).length ≤ 137438953472) then
       some (.inl ((out10 ++ [(l16.getD best13.toNat default)]), (((l16.take best13.toNat).drop (0 : Int).toNat) ++ (l16.drop (IntKind.i64.wrap (best13 + (1 : Int))).toNat))))
      else none
     else none
    else none
   else none
  else none
 else none
noncomputable def refCharacters_j4 (i5 : Int) (best18 : Int) (out15 : (List ApiComponent)) (l21 : (List ApiComponent)) : Option ((Int × Int × (List ApiComponent) × (List ApiComponent)) ⊕ (Int × (List ApiComponent) × (List ApiComponent))) :=
 some (.inl ((IntKind.i64.wrap (i5 + (1 : Int))), best18, out15, l21))
noncomputable def refCharacters_b2  : (Int × Int × (List ApiComponent) × (List ApiComponent)) → Option ((Int × Int × (List ApiComponent) × (List ApiComponent)) ⊕ (Int × (List ApiComponent) × (List ApiComponent)))
 | (i5, best14, out11, l17) =>
  if (decide (i5 < (l17.length : Int))) = true then
   if (0 ≤ i5 ∧ i5 < (l17.length : Int)) then
    if (0 ≤ best14 ∧ best14 < (l17.length : Int)) then
     if (decide (((l17.getD best14.toNat default).Share) < ((l17.getD i5.toNat default).Share))) = true then
      refCharacters_j4 i5 i5 out11 l17
     else
      refCharacters_j4 i5 best14 out11 l17
    else none
   else none
  else
   some (.inr (best14, out11, l17))
noncomputable def refCharacters_b1  : ((List ApiComponent) × (List ApiComponent)) → Option (((List ApiComponent) × (List ApiComponent)) ⊕ ((List ApiComponent)))
 | (out2, l9) =>
  if (decide ((0 : Int) < (l9.length : Int))) = true then
   (loopO (refCharacters_b2) ((1 : Int), (0 : Int), out2, l9)).bind fun e => match e with
    | (best17, out14, l20) =>
     refCharacters_j3 best17 out14 l20
  else
   some (.inr out2)
noncomputable def refCharacters_j1 (l : (List ApiComponent)) : Option ((List ApiComponent)) :=
 (loopO (refCharacters_b1) ([], l)).bind fun e => match e with
  | out9 =>
   refCharacters_j2 out9
noncomputable def refCharacters_b3 (g : ApiGood) : (Int × (List ApiComponent)) → Option ((Int × (List ApiComponent)) ⊕ ((List ApiComponent)))
 | (i7, l22) =>
  if (decide (i7 < (g.Materials.length : Int))) = true then
   if (0 ≤ i7) then
    (g.Materials[i7.toNat]?).bind fun x3 =>
     if (0 ≤ i7) then
      (g.Materials[i7.toNat]?).bind fun x4 =>
       if (l22.length + [(⟨[x3.Name], x4.Share⟩ : ApiComponent)].length ≤ 137438953472) then
        some (.inl ((IntKind.i64.wrap (i7 + (1 : Int))), (l22 ++ [(⟨[x3.Name], x4.Share⟩ : ApiComponent)])))
       else none
     else none
   else none
  else
   some (.inr l22)
noncomputable def refCharacters (g : ApiGood) : Option ((List ApiComponent)) :=
 if (0 + g.Parts.length ≤ 137438953472) then
  if ((g.Parts.length : Int) == (0 : Int)) = true then
   (loopO (refCharacters_b3 g) ((0 : Int), g.Parts)).bind fun e => match e with
    | l24 =>
     refCharacters_j1 l24
  else
   refCharacters_j1 g.Parts
 else none
end Go.C
end

section
set_option linter.unusedVariables false
namespace Go.C
def sortS (l : List Str) : Option (List Str) := if l.length < 4611686018427387904 then some (l.mergeSort fun x y => decide (x ≤ y)) else none
def compactS (l : List Str) : Option (List Str) := if l.length ≤ 9223372036854775807 then some (Lib.compact l) else none
end Go.C
end

section
set_option linter.unusedVariables false
namespace Go.C
open Go.V
noncomputable def setOf_j1 (keys : (List Str)) : Option ((List Str)) :=
 some keys
noncomputable def setOf_b1 (l : (List Str)) : (Int × (List Str)) → Option ((Int × (List Str)) ⊕ ((List Str)))
 | (t9, keys2) =>
  if (decide (t9 < (l.length : Int))) = true then
   if (0 ≤ t9) then
    (l[t9.toNat]?).bind fun x2 =>
     some (.inl ((IntKind.i64.wrap (t9 + (1 : Int))), (addKey keys2 x2)))
   else none
  else
   some (.inr keys2)
noncomputable def setOf (l : (List Str)) : Option ((List Str)) :=
 (loopO (setOf_b1 l) ((0 : Int), [])).bind fun e => match e with
  | keys4 =>
   setOf_j1 keys4
noncomputable def memberIn2 (s : Str) (a1 : (List Str)) : Option (Bool) :=
 some (a1.contains s)
noncomputable def memberB (l : (List Str)) : Option ((List Str)) :=
 if (decide ((l.length : Int) ≤ (50 : Int))) = true then
  none
 else
  (setOf l).bind fun v =>
   some v
noncomputable def commonS_j1 (count : Int) : Option (Int) :=
 some count
noncomputable def commonS_b1 (v : (List Str)) : Str → (Int) → Option (Int)
 | kx1, count2 =>
  (memberIn kx1 v).bind fun v4 =>
   if v4 = true then
    some (IntKind.i64.wrap (count2 + (1 : Int)))
   else
    some count2
noncomputable def commonS (a : (List Str)) (b : (List Str)) : Option (Int) :=
 (member b).bind fun v =>
  (setOf a).bind fun v2 =>
   (setFold (commonS_b1 v) v2 (0 : Int)).bind fun e => match e with
    | count2 =>
     commonS_j1 count2
noncomputable def commonB_j1 (count : Int) : Option (Int) :=
 some count
noncomputable def commonB_b1 (v : (List Str)) : Str → (Int) → Option (Int)
 | kx1, count2 =>
  (memberIn2 kx1 v).bind fun v4 =>
   if v4 = true then
    some (IntKind.i64.wrap (count2 + (1 : Int)))
   else
    some count2
noncomputable def commonB (a : (List Str)) (b : (List Str)) : Option (Int) :=
 (memberB b).bind fun v =>
  (setOf a).bind fun v2 =>
   (setFold (commonB_b1 v) v2 (0 : Int)).bind fun e => match e with
    | count2 =>
     commonB_j1 count2
noncomputable def growStr_j1 (s : (List Str)) : Option ((List Str)) :=
 some s
noncomputable def growStr (n1 : Int) : Option ((List Str)) :=
 if (decide (n1 < (0 : Int))) = true then
  none
 else
  if (decide ((0 : Int) < (IntKind.i64.wrap (n1 - (IntKind.i64.wrap ((0 : Int) - (0 : Int))))))) = true then
   if (0 < (IntKind.i64.wrap (n1 - (IntKind.i64.wrap ((0 : Int) - (0 : Int))))) ∧ (IntKind.i64.wrap (n1 - (IntKind.i64.wrap ((0 : Int) - (0 : Int))))) ≤ 137438953472) then
    growStr_j1 []
   else none
  else
   growStr_j1 []
noncomputable def concatStr_j2 (newslice : (List Str)) : Option ((List Str)) :=
 some newslice
noncomputable def concatStr_b1 (slices : (List (List Str))) : (Int × (List Str)) → Option ((Int × (List Str)) ⊕ ((List Str)))
 | (t27, newslice2) =>
  if (decide (t27 < (slices.length : Int))) = true then
   if (0 ≤ t27) then
    (slices[t27.toNat]?).bind fun x2 =>
     if (newslice2.length + x2.length ≤ 137438953472) then
      some (.inl ((IntKind.i64.wrap (t27 + (1 : Int))), (newslice2 ++ x2)))
     else none
   else none
  else
   some (.inr newslice2)
noncomputable def concatStr_j1 (slices : (List (List Str))) (size : Int) : Option ((List Str)) :=
 (growStr size).bind fun v =>
  (loopO (concatStr_b1 slices) ((0 : Int), v)).bind fun e => match e with
   | newslice4 =>
    concatStr_j2 newslice4
noncomputable def concatStr_b2 (slices : (List (List Str))) : (Int × Int) → Option ((Int × Int) ⊕ (Int))
 | (t11, size2) =>
  if (decide (t11 < (slices.length : Int))) = true then
   if (0 ≤ t11) then
    (slices[t11.toNat]?).bind fun x4 =>
     if (decide ((IntKind.i64.wrap (size2 + (x4.length : Int))) < (0 : Int))) = true then
      none
     else
      some (.inl ((IntKind.i64.wrap (t11 + (1 : Int))), (IntKind.i64.wrap (size2 + (x4.length : Int)))))
   else none
  else
   some (.inr size2)
noncomputable def concatStr (slices : (List (List Str))) : Option ((List Str)) :=
 (loopO (concatStr_b2 slices) ((0 : Int), (0 : Int))).bind fun e => match e with
  | size4 =>
   concatStr_j1 slices size4
noncomputable def union (a : (List Str)) (b : (List Str)) : Option ((List Str)) :=
 (concatStr [a, b]).bind fun v =>
  (sortS v).bind fun v2 =>
   (compactS v2).bind fun v3 =>
    some v3
end Go.C
end

section
set_option linter.unusedVariables false
namespace Go.C
open Go.V
noncomputable def refCommon_j1 (n1 : Int) : Option (Int) :=
 some n1
noncomputable def refCommon_j2 (b : (List Str)) (v : (List Str)) (i : Int) (n16 : Int) : Option ((Int × Int) ⊕ (Int)) :=
 some (.inl ((IntKind.i64.wrap (i + (1 : Int))), n16))
noncomputable def refCommon_b1 (b : (List Str)) (v : (List Str)) : (Int × Int) → Option ((Int × Int) ⊕ (Int))
 | (i, n12) =>
  if (decide (i < (v.length : Int))) = true then
   if (0 ≤ i) then
    (v[i.toNat]?).bind fun x2 =>
     (refHas b x2).bind fun v3 =>
      if v3 = true then
       refCommon_j2 b v i (IntKind.i64.wrap (n12 + (1 : Int)))
      else
       refCommon_j2 b v i n12
   else none
  else
   some (.inr n12)
noncomputable def refCommon (a : (List Str)) (b : (List Str)) : Option (Int) :=
 (refUnion a []).bind fun v =>
  (loopO (refCommon_b1 b v) ((0 : Int), (0 : Int))).bind fun e => match e with
   | n15 =>
    refCommon_j1 n15
noncomputable def rIncomplete (g : ApiGood) : Option ((List Str)) :=
 (refUnion g.Words [([112, 97, 114, 116, 115] : Str)]).bind fun v =>
  some v
noncomputable def rLikeness_j3 (n1 : Int) : Option (Int) :=
 some n1
noncomputable def rLikeness_b1 (w12 : (List Str)) (v2 : (List (List Str))) : (Int × Int) → Option ((Int × Int) ⊕ (Int))
 | (i, n12) =>
  if (decide (i < (v2.length : Int))) = true then
   if (0 ≤ i) then
    (v2[i.toNat]?).bind fun x3 =>
     (refCommon x3 w12).bind fun v4 =>
      some (.inl ((IntKind.i64.wrap (i + (1 : Int))), (if v4 > n12 then v4 else n12)))
   else none
  else
   some (.inr n12)
noncomputable def rLikeness_j2 (b : ApiNomenclature) (x : ApiCodeEntry) (w12 : (List Str)) : Option (Int) :=
 (refAlts b x).bind fun v2 =>
  (loopO (rLikeness_b1 w12 v2) ((0 : Int), (0 : Int))).bind fun e => match e with
   | n14 =>
    rLikeness_j3 n14
noncomputable def rLikeness_b2 (b : ApiNomenclature) (x : ApiCodeEntry) (g : ApiGood) : (Int × (List Str)) → Option ((Int × (List Str)) ⊕ ((List Str)))
 | (i3, w13) =>
  if (decide (i3 < (g.Parts.length : Int))) = true then
   if (0 ≤ i3) then
    (g.Parts[i3.toNat]?).bind fun x5 =>
     (refUnion w13 x5.Words).bind fun v6 =>
      some (.inl ((IntKind.i64.wrap (i3 + (1 : Int))), v6))
   else none
  else
   some (.inr w13)
noncomputable def rLikeness_j1 (b : ApiNomenclature) (x : ApiCodeEntry) (g : ApiGood) (w1 : (List Str)) : Option (Int) :=
 (loopO (rLikeness_b2 b x g) ((0 : Int), w1)).bind fun e => match e with
  | w15 =>
   rLikeness_j2 b x w15
noncomputable def rLikeness_b3 (b : ApiNomenclature) (x : ApiCodeEntry) (g : ApiGood) : (Int × (List Str)) → Option ((Int × (List Str)) ⊕ ((List Str)))
 | (i5, w16) =>
  if (decide (i5 < (g.Materials.length : Int))) = true then
   if (0 ≤ i5) then
    (g.Materials[i5.toNat]?).bind fun x7 =>
     (refWith w16 x7.Name).bind fun v8 =>
      some (.inl ((IntKind.i64.wrap (i5 + (1 : Int))), v8))
   else none
  else
   some (.inr w16)
noncomputable def rLikeness (b : ApiNomenclature) (x : ApiCodeEntry) (g : ApiGood) : Option (Int) :=
 (refExcluded b x.Code g.Words).bind fun v =>
  if v = true then
   some (0 : Int)
  else
   (loopO (rLikeness_b3 b x g) ((0 : Int), g.Words)).bind fun e => match e with
    | w18 =>
     rLikeness_j1 b x g w18
noncomputable def rAsParts_j1  : Option (Bool) :=
 some false
noncomputable def rAsParts_b1 (b : ApiNomenclature) (x : ApiCodeEntry) (v : (List Str)) (v2 : (List (List Str))) : (Int) → Option ((Int) ⊕ ((Bool) ⊕ (Unit)))
 | i =>
  if (decide (i < (v2.length : Int))) = true then
   if (0 ≤ i) then
    (v2[i.toNat]?).bind fun x3 =>
     (refHas x3 ([112, 97, 114, 116, 115] : Str)).bind fun v6 =>
      if (v6 = true → (0 ≤ i ∧ i < (v2.length : Int))) then
       (if v6 = true then refSubset (v2.getD i.toNat default) v else some default).bind fun v7 =>
        if (bif v6 then v7 else false) = true then
         (refExcluded b x.Code v).bind fun v8 =>
          some (.inr (.inl (!v8)))
        else
         some (.inl (IntKind.i64.wrap (i + (1 : Int))))
      else none
   else none
  else
   some (.inr (.inr ()))
noncomputable def rAsParts (b : ApiNomenclature) (x : ApiCodeEntry) (g : ApiGood) : Option (Bool) :=
 (rIncomplete g).bind fun v =>
  (refAlts b x).bind fun v2 =>
   (loopO (rAsParts_b1 b x v v2) (0 : Int)).bind fun e => match e with
    | (.inl rv) =>
     some rv
    | (.inr ()) =>
     rAsParts_j1
noncomputable def rByCharacter_j1  : Option (Bool) :=
 some false
noncomputable def rByCharacter_b1 (b : ApiNomenclature) (x : ApiCodeEntry) (v : (List ApiComponent)) : (Int) → Option ((Int) ⊕ ((Bool) ⊕ (Unit)))
 | i =>
  if (decide (i < (v.length : Int))) = true then
   if (0 ≤ i) then
    (v[i.toNat]?).bind fun x3 =>
     (refScore b x x3.Words).bind fun v3 =>
      if (decide ((0 : Int) < v3)) = true then
       some (.inr (.inl true))
      else
       some (.inl (IntKind.i64.wrap (i + (1 : Int))))
   else none
  else
   some (.inr (.inr ()))
noncomputable def rByCharacter (b : ApiNomenclature) (x : ApiCodeEntry) (g : ApiGood) : Option (Bool) :=
 (refCharacters g).bind fun v =>
  (loopO (rByCharacter_b1 b x v) (0 : Int)).bind fun e => match e with
   | (.inl rv) =>
    some rv
   | (.inr ()) =>
    rByCharacter_j1
noncomputable def rFits (b : ApiNomenclature) (x : ApiCodeEntry) (g : ApiGood) (way : Int) (top : Bool) (best : Int) : Option (Bool) :=
 if (way == (1 : Int)) = true then
  if g.Incomplete = true then
   (rAsParts b x g).bind fun v =>
    some v
  else
   (refScore b x g.Words).bind fun v2 =>
    some (decide ((0 : Int) < v2))
 else
  if (way == (2 : Int)) = true then
   (if g.Incomplete = true then refScore b x g.Words else some default).bind fun v3 =>
    some (bif g.Incomplete then (decide ((0 : Int) < v3)) else false)
  else
   if (way == (3 : Int)) = true then
    (rByCharacter b x g).bind fun v4 =>
     some v4
   else
    if (way == (4 : Int)) = true then
     some (bif (!top) then x.Other else false)
    else
     if (way == (5 : Int)) = true then
      (if (decide ((0 : Int) < best)) = true then rLikeness b x g else some default).bind fun v5 =>
       some (bif (decide ((0 : Int) < best)) then (v5 == best) else false)
     else
      some (!top)
noncomputable def rBasis_j2  : Option (Int × (List ApiCodeEntry)) :=
 some ((0 : Int), [])
noncomputable def rBasis_j3 (b : ApiNomenclature) (g : ApiGood) (parent : Str) (v : (List ApiCodeEntry)) (best : Int) (way : Int) : Option ((Int) ⊕ ((Int × (List ApiCodeEntry)) ⊕ (Unit))) :=
 some (.inl (IntKind.i64.wrap (way + (1 : Int))))
noncomputable def rBasis_j4 (b : ApiNomenclature) (g : ApiGood) (parent : Str) (v : (List ApiCodeEntry)) (best : Int) (way : Int) (c7 : (List ApiCodeEntry)) : Option ((Int) ⊕ ((Int × (List ApiCodeEntry)) ⊕ (Unit))) :=
 if (decide ((0 : Int) < (c7.length : Int))) = true then
  if (0 ≤ way) then
   ([(0 : Int), (1 : Int), (2 : Int), (3 : Int), (8 : Int), (7 : Int), (7 : Int)][way.toNat]?).bind fun x8 =>
    some (.inr (.inl (x8, c7)))
  else none
 else
  rBasis_j3 b g parent v best way
noncomputable def rBasis_j5 (b : ApiNomenclature) (g : ApiGood) (parent : Str) (v : (List ApiCodeEntry)) (best : Int) (way : Int) (i4 : Int) (c12 : (List ApiCodeEntry)) : Option ((Int × (List ApiCodeEntry)) ⊕ ((List ApiCodeEntry))) :=
 some (.inl ((IntKind.i64.wrap (i4 + (1 : Int))), c12))
noncomputable def rBasis_b2 (b : ApiNomenclature) (g : ApiGood) (parent : Str) (v : (List ApiCodeEntry)) (best : Int) (way : Int) : (Int × (List ApiCodeEntry)) → Option ((Int × (List ApiCodeEntry)) ⊕ ((List ApiCodeEntry)))
 | (i4, c9) =>
  if (decide (i4 < (v.length : Int))) = true then
   if (0 ≤ i4) then
    (v[i4.toNat]?).bind fun x13 =>
     (rFits b x13 g way (parent == ([] : Str)) best).bind fun v7 =>
      if v7 = true then
       if (0 ≤ i4) then
        (v[i4.toNat]?).bind fun x14 =>
         if (c9.length + [x14].length ≤ 137438953472) then
          rBasis_j5 b g parent v best way i4 (c9 ++ [x14])
         else none
       else none
      else
       rBasis_j5 b g parent v best way i4 c9
   else none
  else
   some (.inr c9)
noncomputable def rBasis_b1 (b : ApiNomenclature) (g : ApiGood) (parent : Str) (v : (List ApiCodeEntry)) (best : Int) : (Int) → Option ((Int) ⊕ ((Int × (List ApiCodeEntry)) ⊕ (Unit)))
 | way =>
  if (decide (way ≤ (6 : Int))) = true then
   (loopO (rBasis_b2 b g parent v best way) ((0 : Int), [])).bind fun e => match e with
    | c11 =>
     rBasis_j4 b g parent v best way c11
  else
   some (.inr (.inr ()))
noncomputable def rBasis_j1 (b : ApiNomenclature) (g : ApiGood) (parent : Str) (v : (List ApiCodeEntry)) (best : Int) : Option (Int × (List ApiCodeEntry)) :=
 (loopO (rBasis_b1 b g parent v best) (1 : Int)).bind fun e => match e with
  | (.inl rv) =>
   some rv
  | (.inr ()) =>
   rBasis_j2
noncomputable def rBasis_b3 (b : ApiNomenclature) (g : ApiGood) (parent : Str) (v : (List ApiCodeEntry)) : (Int × Int) → Option ((Int × Int) ⊕ (Int))
 | (i5, best2) =>
  if (decide (i5 < (v.length : Int))) = true then
   if (0 ≤ i5) then
    (v[i5.toNat]?).bind fun x16 =>
     (rLikeness b x16 g).bind fun v9 =>
      some (.inl ((IntKind.i64.wrap (i5 + (1 : Int))), (if v9 > best2 then v9 else best2)))
   else none
  else
   some (.inr best2)
noncomputable def rBasis (b : ApiNomenclature) (day : Int) (g : ApiGood) (parent : Str) : Option (Int × (List ApiCodeEntry)) :=
 (refBelow b day parent).bind fun v =>
  (loopO (rBasis_b3 b g parent v) ((0 : Int), (0 : Int))).bind fun e => match e with
   | best4 =>
    rBasis_j1 b g parent v best4
noncomputable def rSpecific_j3 (out : (List ApiCodeEntry)) : Option ((List ApiCodeEntry)) :=
 some out
noncomputable def rSpecific_j4 (b : ApiNomenclature) (c : (List ApiCodeEntry)) (w1 : (List Str)) (best : Int) (i2 : Int) (out6 : (List ApiCodeEntry)) : Option ((Int × (List ApiCodeEntry)) ⊕ ((List ApiCodeEntry))) :=
 some (.inl ((IntKind.i64.wrap (i2 + (1 : Int))), out6))
noncomputable def rSpecific_b1 (b : ApiNomenclature) (c : (List ApiCodeEntry)) (w1 : (List Str)) (best : Int) : (Int × (List ApiCodeEntry)) → Option ((Int × (List ApiCodeEntry)) ⊕ ((List ApiCodeEntry)))
 | (i2, out3) =>
  if (decide (i2 < (c.length : Int))) = true then
   if (0 ≤ i2) then
    (c[i2.toNat]?).bind fun x5 =>
     (refScore b x5 w1).bind fun v3 =>
      if (v3 == best) = true then
       if (0 ≤ i2) then
        (c[i2.toNat]?).bind fun x6 =>
         if (out3.length + [x6].length ≤ 137438953472) then
          rSpecific_j4 b c w1 best i2 (out3 ++ [x6])
         else none
       else none
      else
       rSpecific_j4 b c w1 best i2 out3
   else none
  else
   some (.inr out3)
noncomputable def rSpecific_j2 (b : ApiNomenclature) (c : (List ApiCodeEntry)) (w1 : (List Str)) (best : Int) : Option ((List ApiCodeEntry)) :=
 (loopO (rSpecific_b1 b c w1 best) ((0 : Int), [])).bind fun e => match e with
  | out5 =>
   rSpecific_j3 out5
noncomputable def rSpecific_b2 (b : ApiNomenclature) (c : (List ApiCodeEntry)) (w1 : (List Str)) : (Int × Int) → Option ((Int × Int) ⊕ (Int))
 | (i3, best2) =>
  if (decide (i3 < (c.length : Int))) = true then
   if (0 ≤ i3) then
    (c[i3.toNat]?).bind fun x8 =>
     (refScore b x8 w1).bind fun v5 =>
      some (.inl ((IntKind.i64.wrap (i3 + (1 : Int))), (if v5 > best2 then v5 else best2)))
   else none
  else
   some (.inr best2)
noncomputable def rSpecific_j1 (b : ApiNomenclature) (c : (List ApiCodeEntry)) (w1 : (List Str)) : Option ((List ApiCodeEntry)) :=
 (loopO (rSpecific_b2 b c w1) ((0 : Int), (0 : Int))).bind fun e => match e with
  | best4 =>
   rSpecific_j2 b c w1 best4
noncomputable def rSpecific (b : ApiNomenclature) (g : ApiGood) (basis : Int) (c : (List ApiCodeEntry)) : Option ((List ApiCodeEntry)) :=
 if (bif (basis != (1 : Int)) then (basis != (2 : Int)) else false) = true then
  some c
 else
  if (bif g.Incomplete then (basis == (1 : Int)) else false) = true then
   (rIncomplete g).bind fun v6 =>
    rSpecific_j1 b c v6
  else
   rSpecific_j1 b c g.Words
noncomputable def rEssential_j1 (c : (List ApiCodeEntry)) : Option ((List ApiCodeEntry) × Bool) :=
 some (c, false)
noncomputable def rEssential_j2 (b : ApiNomenclature) (c : (List ApiCodeEntry)) (v : (List ApiComponent)) (i : Int) : Option ((Int) ⊕ (((List ApiCodeEntry) × Bool) ⊕ (Unit))) :=
 some (.inl (IntKind.i64.wrap (i + (1 : Int))))
noncomputable def rEssential_j3 (b : ApiNomenclature) (c : (List ApiCodeEntry)) (v : (List ApiComponent)) (i : Int) (out7 : (List ApiCodeEntry)) : Option ((Int) ⊕ (((List ApiCodeEntry) × Bool) ⊕ (Unit))) :=
 if (decide ((0 : Int) < (out7.length : Int))) = true then
  some (.inr (.inl (out7, true)))
 else
  rEssential_j2 b c v i
noncomputable def rEssential_j4 (b : ApiNomenclature) (c : (List ApiCodeEntry)) (v : (List ApiComponent)) (i : Int) (k4 : Int) (out12 : (List ApiCodeEntry)) : Option ((Int × (List ApiCodeEntry)) ⊕ ((List ApiCodeEntry))) :=
 some (.inl ((IntKind.i64.wrap (k4 + (1 : Int))), out12))
noncomputable def rEssential_b2 (b : ApiNomenclature) (c : (List ApiCodeEntry)) (v : (List ApiComponent)) (i : Int) : (Int × (List ApiCodeEntry)) → Option ((Int × (List ApiCodeEntry)) ⊕ ((List ApiCodeEntry)))
 | (k4, out9) =>
  if (decide (k4 < (c.length : Int))) = true then
   if (0 ≤ k4) then
    (c[k4.toNat]?).bind fun x16 =>
     if (0 ≤ i) then
      (v[i.toNat]?).bind fun x17 =>
       (refScore b x16 x17.Words).bind fun v7 =>
        if (decide ((0 : Int) < v7)) = true then
         if (0 ≤ k4) then
          (c[k4.toNat]?).bind fun x18 =>
           if (out9.length + [x18].length ≤ 137438953472) then
            rEssential_j4 b c v i k4 (out9 ++ [x18])
           else none
         else none
        else
         rEssential_j4 b c v i k4 out9
     else none
   else none
  else
   some (.inr out9)
noncomputable def rEssential_b1 (b : ApiNomenclature) (c : (List ApiCodeEntry)) (v : (List ApiComponent)) : (Int) → Option ((Int) ⊕ (((List ApiCodeEntry) × Bool) ⊕ (Unit)))
 | i =>
  if (decide (i < (v.length : Int))) = true then
   (loopO (rEssential_b2 b c v i) ((0 : Int), [])).bind fun e => match e with
    | out11 =>
     rEssential_j3 b c v i out11
  else
   some (.inr (.inr ()))
noncomputable def rEssential (b : ApiNomenclature) (g : ApiGood) (c : (List ApiCodeEntry)) : Option ((List ApiCodeEntry) × Bool) :=
 (refCharacters g).bind fun v =>
  (loopO (rEssential_b1 b c v) (0 : Int)).bind fun e => match e with
   | (.inl rv) =>
    some rv
   | (.inr ()) =>
    rEssential_j1 c
noncomputable def rReduce (b : ApiNomenclature) (g : ApiGood) (basis : Int) (c : (List ApiCodeEntry)) : Option (Int × ApiCodeEntry) :=
 if (bif (bif ((c.length : Int) == (1 : Int)) then true else (basis == (7 : Int))) then true else (basis == (8 : Int))) = true then
  if (0 ≤ (IntKind.i64.wrap ((c.length : Int) - (1 : Int)))) then
   (c[(IntKind.i64.wrap ((c.length : Int) - (1 : Int))).toNat]?).bind fun x =>
    some (basis, x)
  else none
 else
  (rSpecific b g basis c).bind fun v =>
   if (bif ((v.length : Int) == (1 : Int)) then (bif (basis == (1 : Int)) then true else (basis == (2 : Int))) else false) = true then
    (v[0]?).bind fun x2 =>
     some ((4 : Int), x2)
   else
    (rEssential b g v).bind fun v2 =>
     if (bif v2.2 then ((v2.1.length : Int) == (1 : Int)) else false) = true then
      (v2.1[0]?).bind fun x3 =>
       some ((5 : Int), x3)
     else
      if (0 ≤ (IntKind.i64.wrap ((v2.1.length : Int) - (1 : Int)))) then
       (v2.1[(IntKind.i64.wrap ((v2.1.length : Int) - (1 : Int))).toNat]?).bind fun x4 =>
        some ((6 : Int), x4)
      else none
noncomputable def rCodes_j1 (out : (List Str)) : Option ((List Str)) :=
 some out
noncomputable def rCodes_b1 (l : (List ApiCodeEntry)) : (Int × (List Str)) → Option ((Int × (List Str)) ⊕ ((List Str)))
 | (i2, out2) =>
  if (decide (i2 < (l.length : Int))) = true then
   if (0 ≤ i2) then
    (l[i2.toNat]?).bind fun x3 =>
     if (out2.length + [x3.Code].length ≤ 137438953472) then
      some (.inl ((IntKind.i64.wrap (i2 + (1 : Int))), (out2 ++ [x3.Code])))
     else none
   else none
  else
   some (.inr out2)
noncomputable def rCodes (l : (List ApiCodeEntry)) : Option ((List Str)) :=
 (loopO (rCodes_b1 l) ((0 : Int), [])).bind fun e => match e with
  | out3 =>
   rCodes_j1 out3
noncomputable def rClassify_b1 (b : ApiNomenclature) (day : Int) (g : ApiGood) : ((List ApiClassStep) × Str) → Option (((List ApiClassStep) × Str) ⊕ ((List ApiClassStep) × Str))
 | (steps2, code3) =>
  (rBasis b day g code3).bind fun v9 =>
   if ((v9.2.length : Int) == (0 : Int)) = true then
    some (.inr (steps2, code3))
   else
    (rReduce b g v9.1 v9.2).bind fun v10 =>
     (rCodes v9.2).bind fun v11 =>
      if (steps2.length + [(⟨code3, v9.1, v11, v10.1, v10.2.Code⟩ : ApiClassStep)].length ≤ 137438953472) then
       some (.inl ((steps2 ++ [(⟨code3, v9.1, v11, v10.1, v10.2.Code⟩ : ApiClassStep)]), v10.2.Code))
      else none
noncomputable def sameStep (a : ApiClassStep) (b : ApiClassStep) : Option (Bool) :=
 (if (bif (bif (bif (a.Parent == b.Parent) then (a.Basis == b.Basis) else false) then (a.Rule == b.Rule) else false) then (a.Chosen == b.Chosen) else false) = true then sameStrings a.Candidates b.Candidates else some default).bind fun v =>
  some (bif (bif (bif (bif (a.Parent == b.Parent) then (a.Basis == b.Basis) else false) then (a.Rule == b.Rule) else false) then (a.Chosen == b.Chosen) else false) then v else false)
noncomputable def sameSteps_j1  : Option (Bool) :=
 some true
noncomputable def sameSteps_b1 (a : (List ApiClassStep)) (b : (List ApiClassStep)) : (Int) → Option ((Int) ⊕ ((Bool) ⊕ (Unit)))
 | i =>
  if (decide (i < (a.length : Int))) = true then
   if (0 ≤ i) then
    (a[i.toNat]?).bind fun x3 =>
     if (0 ≤ i) then
      (b[i.toNat]?).bind fun x4 =>
       (sameStep x3 x4).bind fun v2 =>
        if (!v2) = true then
         some (.inr (.inl false))
        else
         some (.inl (IntKind.i64.wrap (i + (1 : Int))))
     else none
   else none
  else
   some (.inr (.inr ()))
noncomputable def sameSteps (a : (List ApiClassStep)) (b : (List ApiClassStep)) : Option (Bool) :=
 if ((a.length : Int) != (b.length : Int)) = true then
  some false
 else
  (loopO (sameSteps_b1 a b) (0 : Int)).bind fun e => match e with
   | (.inl rv) =>
    some rv
   | (.inr ()) =>
    sameSteps_j1
end Go.C
end

section
set_option linter.unusedVariables false
namespace Go.C
noncomputable def commonP (a b : List Str) : Option Int := if b.length ≤ 50 then commonS a b else commonB a b
def cloneR (l : List Str) : Option (List Str) := if l.length * 16 ≤ 140737488355328 then some l else none
end Go.C
end

section
set_option linter.unusedVariables false
namespace Go.C
open Go.V
noncomputable def incompleteWords (g : ApiGood) : Option ((List Str)) :=
 (union g.Words [([112, 97, 114, 116, 115] : Str)]).bind fun v =>
  some v
noncomputable def likeness_j3 (most : Int) : Option (Int) :=
 some most
noncomputable def likeness_b1 (v3 : (List (List Str))) : (Int × Int × (List Str)) → Option ((Int × Int × (List Str)) ⊕ (Int))
 | (t532, most3, words4) =>
  if (decide (t532 < (v3.length : Int))) = true then
   if (0 ≤ t532) then
    (v3[t532.toNat]?).bind fun x3 =>
     (commonP x3 words4).bind fun v6 =>
      some (.inl ((IntKind.i64.wrap (t532 + (1 : Int))), (if v6 > most3 then v6 else most3), words4))
   else none
  else
   some (.inr most3)
noncomputable def likeness_j2 (b : ApiNomenclature) (e1 : ApiCodeEntry) (words2 : (List Str)) : Option (Int) :=
 (nomAlts b e1).bind fun v3 =>
  (loopO (likeness_b1 v3) ((0 : Int), (0 : Int), words2)).bind fun e => match e with
   | most4 =>
    likeness_j3 most4
noncomputable def likeness_b2 (b : ApiNomenclature) (e1 : ApiCodeEntry) (g : ApiGood) : (Int × (List Str)) → Option ((Int × (List Str)) ⊕ ((List Str)))
 | (t40, words5) =>
  if (decide (t40 < (g.Parts.length : Int))) = true then
   if (0 ≤ t40) then
    (g.Parts[t40.toNat]?).bind fun x5 =>
     if (words5.length + x5.Words.length ≤ 137438953472) then
      some (.inl ((IntKind.i64.wrap (t40 + (1 : Int))), (words5 ++ x5.Words)))
     else none
   else none
  else
   some (.inr words5)
noncomputable def likeness_j1 (b : ApiNomenclature) (e1 : ApiCodeEntry) (g : ApiGood) (words : (List Str)) : Option (Int) :=
 (loopO (likeness_b2 b e1 g) ((0 : Int), words)).bind fun e => match e with
  | words7 =>
   likeness_j2 b e1 words7
noncomputable def likeness_b3 (b : ApiNomenclature) (e1 : ApiCodeEntry) (g : ApiGood) : (Int × (List Str)) → Option ((Int × (List Str)) ⊕ ((List Str)))
 | (t27, words8) =>
  if (decide (t27 < (g.Materials.length : Int))) = true then
   if (0 ≤ t27) then
    (g.Materials[t27.toNat]?).bind fun x7 =>
     if (words8.length + [x7.Name].length ≤ 137438953472) then
      some (.inl ((IntKind.i64.wrap (t27 + (1 : Int))), (words8 ++ [x7.Name])))
     else none
   else none
  else
   some (.inr words8)
noncomputable def likeness (b : ApiNomenclature) (e1 : ApiCodeEntry) (g : ApiGood) : Option (Int) :=
 (nomExcluded b e1.Code g.Words).bind fun v =>
  if v = true then
   some (0 : Int)
  else
   (cloneR g.Words).bind fun v2 =>
    (loopO (likeness_b3 b e1 g) ((0 : Int), v2)).bind fun e => match e with
     | words10 =>
      likeness_j1 b e1 g words10
noncomputable def scoredIn (e1 : ApiCodeEntry) (a1 : ApiNomenclature) (a2 : (List Str)) : Option (Bool) :=
 (nomScore a1 e1 a2).bind fun v =>
  some (decide ((0 : Int) < v))
noncomputable def keepScored_j1 (test0 : ApiNomenclature) (test1 : (List Str)) (kept : (List ApiCodeEntry)) : Option ((List ApiCodeEntry)) :=
 some kept
noncomputable def keepScored_j2 (l : (List ApiCodeEntry)) (test0 : ApiNomenclature) (test1 : (List Str)) (t102 : Int) (kept6 : (List ApiCodeEntry)) : Option ((Int × (List ApiCodeEntry)) ⊕ ((List ApiCodeEntry))) :=
 some (.inl ((IntKind.i64.wrap (t102 + (1 : Int))), kept6))
noncomputable def keepScored_b1 (l : (List ApiCodeEntry)) (test0 : ApiNomenclature) (test1 : (List Str)) : (Int × (List ApiCodeEntry)) → Option ((Int × (List ApiCodeEntry)) ⊕ ((List ApiCodeEntry)))
 | (t102, kept3) =>
  if (decide (t102 < (l.length : Int))) = true then
   if (0 ≤ t102) then
    (l[t102.toNat]?).bind fun x3 =>
     (scoredIn x3 test0 test1).bind fun v3 =>
      if v3 = true then
       if (kept3.length + [x3].length ≤ 137438953472) then
        keepScored_j2 l test0 test1 t102 (kept3 ++ [x3])
       else none
      else
       keepScored_j2 l test0 test1 t102 kept3
   else none
  else
   some (.inr kept3)
noncomputable def keepScored (l : (List ApiCodeEntry)) (test0 : ApiNomenclature) (test1 : (List Str)) : Option ((List ApiCodeEntry)) :=
 (loopO (keepScored_b1 l test0 test1) ((0 : Int), [])).bind fun e => match e with
  | kept5 =>
   keepScored_j1 test0 test1 kept5
noncomputable def scored (b : ApiNomenclature) (l : (List ApiCodeEntry)) (words : (List Str)) : Option ((List ApiCodeEntry)) :=
 (keepScored l b words).bind fun v =>
  some v
noncomputable def byTermsIn_j1 (a1 : ClassifyLevel) (a2 : (List Str)) : Option (Bool) :=
 some false
noncomputable def byTermsIn_b1 (a1 : ClassifyLevel) (a2 : (List Str)) (v2 : (List (List Str))) : (Int) → Option ((Int) ⊕ ((Bool) ⊕ (Unit)))
 | t18 =>
  if (decide (t18 < (v2.length : Int))) = true then
   if (0 ≤ t18) then
    (v2[t18.toNat]?).bind fun x2 =>
     (sContains x2 ([112, 97, 114, 116, 115] : Str)).bind fun v5 =>
      (if v5 = true then subset x2 a2 else some default).bind fun v6 =>
       if (bif v5 then v6 else false) = true then
        some (.inr (.inl true))
       else
        some (.inl (IntKind.i64.wrap (t18 + (1 : Int))))
   else none
  else
   some (.inr (.inr ()))
noncomputable def byTermsIn (e1 : ApiCodeEntry) (a1 : ClassifyLevel) (a2 : (List Str)) : Option (Bool) :=
 (nomExcluded a1.book e1.Code a2).bind fun v =>
  if v = true then
   some false
  else
   (nomAlts a1.book e1).bind fun v2 =>
    (loopO (byTermsIn_b1 a1 a2 v2) (0 : Int)).bind fun e => match e with
     | (.inl rv) =>
      some rv
     | (.inr ()) =>
      byTermsIn_j1 a1 a2
noncomputable def keepTerms_j1 (test0 : ClassifyLevel) (test1 : (List Str)) (kept : (List ApiCodeEntry)) : Option ((List ApiCodeEntry)) :=
 some kept
noncomputable def keepTerms_j2 (l : (List ApiCodeEntry)) (test0 : ClassifyLevel) (test1 : (List Str)) (t102 : Int) (kept6 : (List ApiCodeEntry)) : Option ((Int × (List ApiCodeEntry)) ⊕ ((List ApiCodeEntry))) :=
 some (.inl ((IntKind.i64.wrap (t102 + (1 : Int))), kept6))
noncomputable def keepTerms_b1 (l : (List ApiCodeEntry)) (test0 : ClassifyLevel) (test1 : (List Str)) : (Int × (List ApiCodeEntry)) → Option ((Int × (List ApiCodeEntry)) ⊕ ((List ApiCodeEntry)))
 | (t102, kept3) =>
  if (decide (t102 < (l.length : Int))) = true then
   if (0 ≤ t102) then
    (l[t102.toNat]?).bind fun x3 =>
     (byTermsIn x3 test0 test1).bind fun v3 =>
      if v3 = true then
       if (kept3.length + [x3].length ≤ 137438953472) then
        keepTerms_j2 l test0 test1 t102 (kept3 ++ [x3])
       else none
      else
       keepTerms_j2 l test0 test1 t102 kept3
   else none
  else
   some (.inr kept3)
noncomputable def keepTerms (l : (List ApiCodeEntry)) (test0 : ClassifyLevel) (test1 : (List Str)) : Option ((List ApiCodeEntry)) :=
 (loopO (keepTerms_b1 l test0 test1) ((0 : Int), [])).bind fun e => match e with
  | kept5 =>
   keepTerms_j1 test0 test1 kept5
noncomputable def byTerms (v : ClassifyLevel) : Option ((List ApiCodeEntry)) :=
 if (!v.good.Incomplete) = true then
  (scored v.book v.entries v.good.Words).bind fun v2 =>
   some v2
 else
  (incompleteWords v.good).bind fun v3 =>
   (keepTerms v.entries v v3).bind fun v4 =>
    some v4
noncomputable def asComplete (v : ClassifyLevel) : Option ((List ApiCodeEntry)) :=
 if (!v.good.Incomplete) = true then
  some []
 else
  (scored v.book v.entries v.good.Words).bind fun v2 =>
   some v2
noncomputable def byCharIn2 (x : ApiComponent) (a1 : ClassifyLevel) (a2 : ApiCodeEntry) : Option (Bool) :=
 (nomScore a1.book a2 x.Words).bind fun v =>
  some (decide ((0 : Int) < v))
noncomputable def charIndex_j1 (f0 : ClassifyLevel) (f1 : ApiCodeEntry) : Option (Int) :=
 some (-1 : Int)
noncomputable def charIndex_b1 (s : (List ApiComponent)) (f0 : ClassifyLevel) (f1 : ApiCodeEntry) : (Int) → Option ((Int) ⊕ ((Int) ⊕ (Unit)))
 | t8 =>
  if (decide (t8 < (s.length : Int))) = true then
   if (0 ≤ t8) then
    (s[t8.toNat]?).bind fun x2 =>
     (byCharIn2 x2 f0 f1).bind fun v2 =>
      if v2 = true then
       some (.inr (.inl t8))
      else
       some (.inl (IntKind.i64.wrap (t8 + (1 : Int))))
   else none
  else
   some (.inr (.inr ()))
noncomputable def charIndex (s : (List ApiComponent)) (f0 : ClassifyLevel) (f1 : ApiCodeEntry) : Option (Int) :=
 (loopO (charIndex_b1 s f0 f1) (0 : Int)).bind fun e => match e with
  | (.inl rv) =>
   some rv
  | (.inr ()) =>
   charIndex_j1 f0 f1
noncomputable def charContains (s : (List ApiComponent)) (f0 : ClassifyLevel) (f1 : ApiCodeEntry) : Option (Bool) :=
 (charIndex s f0 f1).bind fun v =>
  some (decide ((0 : Int) ≤ v))
noncomputable def byCharIn (e1 : ApiCodeEntry) (a1 : (List ApiComponent)) (a2 : ClassifyLevel) : Option (Bool) :=
 (charContains a1 a2 e1).bind fun v =>
  some v
noncomputable def keepChar_j1 (test0 : (List ApiComponent)) (test1 : ClassifyLevel) (kept : (List ApiCodeEntry)) : Option ((List ApiCodeEntry)) :=
 some kept
noncomputable def keepChar_j2 (l : (List ApiCodeEntry)) (test0 : (List ApiComponent)) (test1 : ClassifyLevel) (t102 : Int) (kept6 : (List ApiCodeEntry)) : Option ((Int × (List ApiCodeEntry)) ⊕ ((List ApiCodeEntry))) :=
 some (.inl ((IntKind.i64.wrap (t102 + (1 : Int))), kept6))
noncomputable def keepChar_b1 (l : (List ApiCodeEntry)) (test0 : (List ApiComponent)) (test1 : ClassifyLevel) : (Int × (List ApiCodeEntry)) → Option ((Int × (List ApiCodeEntry)) ⊕ ((List ApiCodeEntry)))
 | (t102, kept3) =>
  if (decide (t102 < (l.length : Int))) = true then
   if (0 ≤ t102) then
    (l[t102.toNat]?).bind fun x3 =>
     (byCharIn x3 test0 test1).bind fun v3 =>
      if v3 = true then
       if (kept3.length + [x3].length ≤ 137438953472) then
        keepChar_j2 l test0 test1 t102 (kept3 ++ [x3])
       else none
      else
       keepChar_j2 l test0 test1 t102 kept3
   else none
  else
   some (.inr kept3)
noncomputable def keepChar (l : (List ApiCodeEntry)) (test0 : (List ApiComponent)) (test1 : ClassifyLevel) : Option ((List ApiCodeEntry)) :=
 (loopO (keepChar_b1 l test0 test1) ((0 : Int), [])).bind fun e => match e with
  | kept5 =>
   keepChar_j1 test0 test1 kept5
noncomputable def byCharacter (v : ClassifyLevel) : Option ((List ApiCodeEntry)) :=
 (goodsCharacters v.good).bind fun v2 =>
  (keepChar v.entries v2 v).bind fun v3 =>
   some v3
noncomputable def residualIn (e1 : ApiCodeEntry) : Option (Bool) :=
 some e1.Other
noncomputable def keepResidual_j1 (kept : (List ApiCodeEntry)) : Option ((List ApiCodeEntry)) :=
 some kept
noncomputable def keepResidual_j2 (l : (List ApiCodeEntry)) (t102 : Int) (kept6 : (List ApiCodeEntry)) : Option ((Int × (List ApiCodeEntry)) ⊕ ((List ApiCodeEntry))) :=
 some (.inl ((IntKind.i64.wrap (t102 + (1 : Int))), kept6))
noncomputable def keepResidual_b1 (l : (List ApiCodeEntry)) : (Int × (List ApiCodeEntry)) → Option ((Int × (List ApiCodeEntry)) ⊕ ((List ApiCodeEntry)))
 | (t102, kept3) =>
  if (decide (t102 < (l.length : Int))) = true then
   if (0 ≤ t102) then
    (l[t102.toNat]?).bind fun x3 =>
     (residualIn x3).bind fun v3 =>
      if v3 = true then
       if (kept3.length + [x3].length ≤ 137438953472) then
        keepResidual_j2 l t102 (kept3 ++ [x3])
       else none
      else
       keepResidual_j2 l t102 kept3
   else none
  else
   some (.inr kept3)
noncomputable def keepResidual (l : (List ApiCodeEntry)) : Option ((List ApiCodeEntry)) :=
 (loopO (keepResidual_b1 l) ((0 : Int), [])).bind fun e => match e with
  | kept5 =>
   keepResidual_j1 kept5
noncomputable def residual (v : ClassifyLevel) : Option ((List ApiCodeEntry)) :=
 if (v.parent == ([] : Str)) = true then
  some []
 else
  (keepResidual v.entries).bind fun v2 =>
   some v2
noncomputable def akinIn (e1 : ApiCodeEntry) (a1 : ClassifyLevel) (a2 : Int) : Option (Bool) :=
 (likeness a1.book e1 a1.good).bind fun v =>
  some (v == a2)
noncomputable def keepAkin_j1 (test0 : ClassifyLevel) (test1 : Int) (kept : (List ApiCodeEntry)) : Option ((List ApiCodeEntry)) :=
 some kept
noncomputable def keepAkin_j2 (l : (List ApiCodeEntry)) (test0 : ClassifyLevel) (test1 : Int) (t102 : Int) (kept6 : (List ApiCodeEntry)) : Option ((Int × (List ApiCodeEntry)) ⊕ ((List ApiCodeEntry))) :=
 some (.inl ((IntKind.i64.wrap (t102 + (1 : Int))), kept6))
noncomputable def keepAkin_b1 (l : (List ApiCodeEntry)) (test0 : ClassifyLevel) (test1 : Int) : (Int × (List ApiCodeEntry)) → Option ((Int × (List ApiCodeEntry)) ⊕ ((List ApiCodeEntry)))
 | (t102, kept3) =>
  if (decide (t102 < (l.length : Int))) = true then
   if (0 ≤ t102) then
    (l[t102.toNat]?).bind fun x3 =>
     (akinIn x3 test0 test1).bind fun v3 =>
      if v3 = true then
       if (kept3.length + [x3].length ≤ 137438953472) then
        keepAkin_j2 l test0 test1 t102 (kept3 ++ [x3])
       else none
      else
       keepAkin_j2 l test0 test1 t102 kept3
   else none
  else
   some (.inr kept3)
noncomputable def keepAkin (l : (List ApiCodeEntry)) (test0 : ClassifyLevel) (test1 : Int) : Option ((List ApiCodeEntry)) :=
 (loopO (keepAkin_b1 l test0 test1) ((0 : Int), [])).bind fun e => match e with
  | kept5 =>
   keepAkin_j1 test0 test1 kept5
noncomputable def akin_j1 (v : ClassifyLevel) (c3_0 : Int) : Option ((List ApiCodeEntry)) :=
 if (c3_0 == (0 : Int)) = true then
  some []
 else
  (keepAkin v.entries v c3_0).bind fun v2 =>
   some v2
noncomputable def akin_b1 (v : ClassifyLevel) : (Int × Int) → Option ((Int × Int) ⊕ (Int))
 | (t9, c3_02) =>
  if (decide (t9 < (v.entries.length : Int))) = true then
   if (0 ≤ t9) then
    (v.entries[t9.toNat]?).bind fun x2 =>
     (likeness v.book x2 v.good).bind fun v4 =>
      some (.inl ((IntKind.i64.wrap (t9 + (1 : Int))), (if v4 > c3_02 then v4 else c3_02)))
   else none
  else
   some (.inr c3_02)
noncomputable def akin (v : ClassifyLevel) : Option ((List ApiCodeEntry)) :=
 (loopO (akin_b1 v) ((0 : Int), (0 : Int))).bind fun e => match e with
  | c3_04 =>
   akin_j1 v c3_04
noncomputable def allBelow (v : ClassifyLevel) : Option ((List ApiCodeEntry)) :=
 if (v.parent == ([] : Str)) = true then
  some []
 else
  some v.entries
noncomputable def basis_j1  : Option (Int × (List ApiCodeEntry)) :=
 some ((0 : Int), [])
noncomputable def basis (b : ApiNomenclature) (day : Int) (g : ApiGood) (parent : Str) : Option (Int × (List ApiCodeEntry)) :=
 (nomBelow b day parent).bind fun v =>
  (byTerms (⟨b, g, parent, v⟩ : ClassifyLevel)).bind fun v2 =>
   if (decide ((0 : Int) < (v2.length : Int))) = true then
    some ((1 : Int), v2)
   else
    (asComplete (⟨b, g, parent, v⟩ : ClassifyLevel)).bind fun v3 =>
     if (decide ((0 : Int) < (v3.length : Int))) = true then
      some ((2 : Int), v3)
     else
      (byCharacter (⟨b, g, parent, v⟩ : ClassifyLevel)).bind fun v4 =>
       if (decide ((0 : Int) < (v4.length : Int))) = true then
        some ((3 : Int), v4)
       else
        (residual (⟨b, g, parent, v⟩ : ClassifyLevel)).bind fun v5 =>
         if (decide ((0 : Int) < (v5.length : Int))) = true then
          some ((8 : Int), v5)
         else
          (akin (⟨b, g, parent, v⟩ : ClassifyLevel)).bind fun v6 =>
           if (decide ((0 : Int) < (v6.length : Int))) = true then
            some ((7 : Int), v6)
           else
            (allBelow (⟨b, g, parent, v⟩ : ClassifyLevel)).bind fun v7 =>
             if (decide ((0 : Int) < (v7.length : Int))) = true then
              some ((7 : Int), v7)
             else
              basis_j1
noncomputable def specificIn (e1 : ApiCodeEntry) (a1 : ApiNomenclature) (a2 : (List Str)) (a3 : Int) : Option (Bool) :=
 (nomScore a1 e1 a2).bind fun v =>
  some (v == a3)
noncomputable def keepSpecific_j1 (test0 : ApiNomenclature) (test1 : (List Str)) (test2 : Int) (kept : (List ApiCodeEntry)) : Option ((List ApiCodeEntry)) :=
 some kept
noncomputable def keepSpecific_j2 (l : (List ApiCodeEntry)) (test0 : ApiNomenclature) (test1 : (List Str)) (test2 : Int) (t102 : Int) (kept6 : (List ApiCodeEntry)) : Option ((Int × (List ApiCodeEntry)) ⊕ ((List ApiCodeEntry))) :=
 some (.inl ((IntKind.i64.wrap (t102 + (1 : Int))), kept6))
noncomputable def keepSpecific_b1 (l : (List ApiCodeEntry)) (test0 : ApiNomenclature) (test1 : (List Str)) (test2 : Int) : (Int × (List ApiCodeEntry)) → Option ((Int × (List ApiCodeEntry)) ⊕ ((List ApiCodeEntry)))
 | (t102, kept3) =>
  if (decide (t102 < (l.length : Int))) = true then
   if (0 ≤ t102) then
    (l[t102.toNat]?).bind fun x3 =>
     (specificIn x3 test0 test1 test2).bind fun v3 =>
      if v3 = true then
       if (kept3.length + [x3].length ≤ 137438953472) then
        keepSpecific_j2 l test0 test1 test2 t102 (kept3 ++ [x3])
       else none
      else
       keepSpecific_j2 l test0 test1 test2 t102 kept3
   else none
  else
   some (.inr kept3)
noncomputable def keepSpecific (l : (List ApiCodeEntry)) (test0 : ApiNomenclature) (test1 : (List Str)) (test2 : Int) : Option ((List ApiCodeEntry)) :=
 (loopO (keepSpecific_b1 l test0 test1 test2) ((0 : Int), [])).bind fun e => match e with
  | kept5 =>
   keepSpecific_j1 test0 test1 test2 kept5
noncomputable def mostSpecific_j1 (b : ApiNomenclature) (l : (List ApiCodeEntry)) (words : (List Str)) (c7_0 : Int) : Option ((List ApiCodeEntry)) :=
 (keepSpecific l b words c7_0).bind fun v =>
  some v
noncomputable def mostSpecific_b1 (b : ApiNomenclature) (l : (List ApiCodeEntry)) (words : (List Str)) : (Int × Int) → Option ((Int × Int) ⊕ (Int))
 | (t12, c7_02) =>
  if (decide (t12 < (l.length : Int))) = true then
   if (0 ≤ t12) then
    (l[t12.toNat]?).bind fun x2 =>
     (nomScore b x2 words).bind fun v3 =>
      some (.inl ((IntKind.i64.wrap (t12 + (1 : Int))), (if v3 > c7_02 then v3 else c7_02)))
   else none
  else
   some (.inr c7_02)
noncomputable def mostSpecific (b : ApiNomenclature) (l : (List ApiCodeEntry)) (words : (List Str)) : Option ((List ApiCodeEntry)) :=
 (loopO (mostSpecific_b1 b l words) ((0 : Int), (0 : Int))).bind fun e => match e with
  | c7_04 =>
   mostSpecific_j1 b l words c7_04
noncomputable def cloneEntry_j1 (e1 : ApiCodeEntry) (c1_3 : (List (List Str))) : Option (ApiCodeEntry) :=
 some (⟨e1.Code, e1.From, e1.To, c1_3, e1.Other⟩ : ApiCodeEntry)
noncomputable def cloneEntry_b1 (e1 : ApiCodeEntry) : (Int × (List (List Str))) → Option ((Int × (List (List Str))) ⊕ ((List (List Str))))
 | (t112, c1_32) =>
  if (decide (t112 < (e1.Terms.length : Int))) = true then
   if (0 ≤ t112) then
    (e1.Terms[t112.toNat]?).bind fun x3 =>
     (cloneS x3).bind fun v3 =>
      if (c1_32.length + [v3].length ≤ 137438953472) then
       some (.inl ((IntKind.i64.wrap (t112 + (1 : Int))), (c1_32 ++ [v3])))
      else none
   else none
  else
   some (.inr c1_32)
noncomputable def cloneEntry (e1 : ApiCodeEntry) : Option (ApiCodeEntry) :=
 (loopO (cloneEntry_b1 e1) ((0 : Int), [])).bind fun e => match e with
  | c1_33 =>
   cloneEntry_j1 e1 c1_33
noncomputable def reduce_j2 (c3 : (List ApiCodeEntry)) : Option (Int × ApiCodeEntry) :=
 if (0 ≤ (IntKind.i64.wrap ((c3.length : Int) - (1 : Int)))) then
  (c3[(IntKind.i64.wrap ((c3.length : Int) - (1 : Int))).toNat]?).bind fun x2 =>
   (cloneEntry x2).bind fun v3 =>
    some ((6 : Int), v3)
 else none
noncomputable def reduce_b1 (b : ApiNomenclature) (v2 : (List ApiComponent)) : (Int × (List ApiCodeEntry)) → Option ((Int × (List ApiCodeEntry)) ⊕ ((Int × ApiCodeEntry) ⊕ ((List ApiCodeEntry))))
 | (t67, c4) =>
  if (decide (t67 < (v2.length : Int))) = true then
   if (0 ≤ t67) then
    (v2[t67.toNat]?).bind fun x5 =>
     (scored b c4 x5.Words).bind fun v6 =>
      if ((v6.length : Int) == (1 : Int)) = true then
       (v6[0]?).bind fun x6 =>
        (cloneEntry x6).bind fun v7 =>
         some (.inr (.inl ((5 : Int), v7)))
      else
       if (decide ((1 : Int) < (v6.length : Int))) = true then
        some (.inr (.inr v6))
       else
        some (.inl ((IntKind.i64.wrap (t67 + (1 : Int))), c4))
   else none
  else
   some (.inr (.inr c4))
noncomputable def reduce_j1 (b : ApiNomenclature) (g : ApiGood) (c2 : (List ApiCodeEntry)) : Option (Int × ApiCodeEntry) :=
 (goodsCharacters g).bind fun v2 =>
  (loopO (reduce_b1 b v2) ((0 : Int), c2)).bind fun e => match e with
   | (.inl rv) =>
    some rv
   | (.inr c6) =>
    reduce_j2 c6
noncomputable def reduce_j3 (b : ApiNomenclature) (g : ApiGood) (c : (List ApiCodeEntry)) (words : (List Str)) : Option (Int × ApiCodeEntry) :=
 (mostSpecific b c words).bind fun v8 =>
  if ((v8.length : Int) == (1 : Int)) = true then
   (v8[0]?).bind fun x7 =>
    (cloneEntry x7).bind fun v9 =>
     some ((4 : Int), v9)
  else
   reduce_j1 b g v8
noncomputable def reduce (b : ApiNomenclature) (g : ApiGood) (basis : Int) (c : (List ApiCodeEntry)) : Option (Int × ApiCodeEntry) :=
 if ((c.length : Int) == (0 : Int)) = true then
  some ((0 : Int), (⟨[], 0, 0, [], false⟩ : ApiCodeEntry))
 else
  if (bif (bif ((c.length : Int) == (1 : Int)) then true else (basis == (7 : Int))) then true else (basis == (8 : Int))) = true then
   if (0 ≤ (IntKind.i64.wrap ((c.length : Int) - (1 : Int)))) then
    (c[(IntKind.i64.wrap ((c.length : Int) - (1 : Int))).toNat]?).bind fun x =>
     (cloneEntry x).bind fun v =>
      some (basis, v)
   else none
  else
   if (bif (basis == (1 : Int)) then true else (basis == (2 : Int))) = true then
    if (bif g.Incomplete then (basis == (1 : Int)) else false) = true then
     (incompleteWords g).bind fun v10 =>
      reduce_j3 b g c v10
    else
     reduce_j3 b g c g.Words
   else
    reduce_j1 b g c
noncomputable def classify_j1 (code : Str) (steps : (List ApiClassStep)) : Option (Str × (List ApiClassStep) × Int) :=
 if ((steps.length : Int) == (0 : Int)) = true then
  some (([] : Str), [], (7 : Int))
 else
  some (code, steps, (0 : Int))
noncomputable def classify_j2 (b : ApiNomenclature) (day : Int) (g : ApiGood) (code3 : Str) (v7 : Int × (List ApiCodeEntry)) (v8 : Int × ApiCodeEntry) (steps8 : (List ApiClassStep)) (c17_27 : (List Str)) : Option ((Str × (List ApiClassStep)) ⊕ (Str × (List ApiClassStep))) :=
 if (steps8.length + [(⟨code3, v7.1, c17_27, v8.1, v8.2.Code⟩ : ApiClassStep)].length ≤ 137438953472) then
  some (.inl (v8.2.Code, (steps8 ++ [(⟨code3, v7.1, c17_27, v8.1, v8.2.Code⟩ : ApiClassStep)])))
 else none
noncomputable def classify_b2 (b : ApiNomenclature) (day : Int) (g : ApiGood) (code3 : Str) (v7 : Int × (List ApiCodeEntry)) (v8 : Int × ApiCodeEntry) : (Int × (List ApiClassStep) × (List Str)) → Option ((Int × (List ApiClassStep) × (List Str)) ⊕ ((List ApiClassStep) × (List Str)))
 | (t636, steps10, c17_28) =>
  if (decide (t636 < (v7.2.length : Int))) = true then
   if (0 ≤ t636) then
    (v7.2[t636.toNat]?).bind fun x9 =>
     if (c17_28.length + [x9.Code].length ≤ 137438953472) then
      some (.inl ((IntKind.i64.wrap (t636 + (1 : Int))), steps10, (c17_28 ++ [x9.Code])))
     else none
   else none
  else
   some (.inr (steps10, c17_28))
noncomputable def classify_b1 (b : ApiNomenclature) (day : Int) (g : ApiGood) : (Str × (List ApiClassStep)) → Option ((Str × (List ApiClassStep)) ⊕ (Str × (List ApiClassStep)))
 | (code3, steps2) =>
  (basis b day g code3).bind fun v7 =>
   if ((v7.2.length : Int) == (0 : Int)) = true then
    some (.inr (code3, steps2))
   else
    (reduce b g v7.1 v7.2).bind fun v8 =>
     (loopO (classify_b2 b day g code3 v7 v8) ((0 : Int), steps2, [])).bind fun e => match e with
      | (steps11, c17_29) =>
       classify_j2 b day g code3 v7 v8 steps11 c17_29
noncomputable def classify (b : ApiNomenclature) (day : Int) (g : ApiGood) : Option (Str × (List ApiClassStep) × Int) :=
 (nomValidate b).bind fun v =>
  if (v != (0 : Int)) = true then
   some (([] : Str), [], v)
  else
   (goodsValidate g).bind fun v2 =>
    if (v2 != (0 : Int)) = true then
     some (([] : Str), [], v2)
    else
     if (bif (decide (day < (0 : Int))) then true else (decide ((36524 : Int) < day))) = true then
      some (([] : Str), [], (2 : Int))
     else
      (loopO (classify_b1 b day g) (([] : Str), [])).bind fun e => match e with
       | (code4, steps7) =>
        classify_j1 code4 steps7
end Go.C
end
