/- A symbolic engine over plain data: what data are, how values represent them, what is known in a walk. No program in sight. -/
import Derived.Tactics2
import Derived.Still
import Derived.WalkKit
import Derived.WalkLawsBesides
import Derived.Laws.AppendOwn
import Derived.KernelRfl
import Derived.Below
import Derived.Deep.Quiet
import Derived.Deep.LoopGhost
set_option linter.unusedVariables false
namespace Go.V

/-- Plain data: numbers, bools, texts, structs as their cells, slices as their elements' cells; a known value; a value of an interface, nil or not; one whose type is known. -/
inductive D where
  | int (k : IntKind) (n : Int)
  | bool (b : Bool)
  | str (s : List UInt8)
  | raw (v : Value)
  | err (b : Bool)
  | agg (cs : List D)
  | sl (sz : Nat) (es : List (List D))
  | ifc (t : Nat) (d : D)

/-- These cells stand at that place. -/
def CellsAt (w : World) (vs : List Value) (b o : Nat) : Prop := ∀ j x, vs[j]? = some x → w.cell? ⟨b, o + j, none⟩ = some x

mutual
/-- A value represents a datum, in memory outside X. -/
def Rep (w : World) (X : Nat → Prop) : D → Value → Prop
  | .int k n, v => v = .int k n
  | .bool b, v => v = .bool b
  | .str s, v => v = .string ⟨⟨s⟩⟩
  | .raw x, v => v = x
  | .err b, v => (b = true → v = .nilIface) ∧ (b = false → ∃ t x, v = .iface t x)
  | .agg ds, v => ∃ cs, v = .agg ⟨cs⟩ ∧ Reps w X ds cs
  | .sl sz es, v => ∃ base cap, v = .slice base es.length cap ∧ es.length ≤ cap ∧ (base = none → es = []) ∧
      ∀ ad, base = some ad → es ≠ [] → ad.3 = none ∧ ad.block < w.heap.size ∧ ¬ X ad.block ∧ RowsAt w X sz es ad.block ad.off
  | .ifc t d, v => ∃ x, v = .iface t x ∧ Rep w X d x
def Reps (w : World) (X : Nat → Prop) : List D → List Value → Prop
  | [], vs => vs = []
  | d :: ds, vs => ∃ v r, vs = v :: r ∧ Rep w X d v ∧ Reps w X ds r
def RowsAt (w : World) (X : Nat → Prop) (sz : Nat) : List (List D) → Nat → Nat → Prop
  | [], _, _ => True
  | e :: es, b, o => (∃ cs, Reps w X e cs ∧ cs.length = sz ∧ CellsAt w cs b o) ∧ RowsAt w X sz es b (o + sz)
end

/-- Rows of cells, one for one. -/
def RepRows (w : World) (X : Nat → Prop) : List (List D) → List (List Value) → Prop
  | [], rs => rs = []
  | e :: es, rs => ∃ c r, rs = c :: r ∧ Reps w X e c ∧ RepRows w X es r

/-- What was there outside X is there still, outside X'. -/
structure Keep (w : World) (X : Nat → Prop) (w' : World) (X' : Nat → Prop) : Prop where
  size : w.heap.size ≤ w'.heap.size
  block : ∀ b, b < w.heap.size → ¬ X b → w'.heap[b]? = w.heap[b]?
  out : ∀ b, b < w.heap.size → ¬ X b → ¬ X' b

theorem Keep.refl (w : World) (X : Nat → Prop) : Keep w X w X := ⟨Nat.le_refl _, fun _ _ _ => rfl, fun _ _ h => h⟩
theorem Keep.trans {w w' w'' : World} {X X' X'' : Nat → Prop} (h : Keep w X w' X') (k : Keep w' X' w'' X'') : Keep w X w'' X'' :=
  ⟨Nat.le_trans h.size k.size, fun b hb hx => (k.block b (Nat.lt_of_lt_of_le hb h.size) (h.out b hb hx)).trans (h.block b hb hx), fun b hb hx => k.out b (Nat.lt_of_lt_of_le hb h.size) (h.out b hb hx)⟩

theorem CellsAt.keep {w w' : World} {X X' : Nat → Prop} {vs : List Value} {b o : Nat} (h : CellsAt w vs b o) (k : Keep w X w' X') (hb : b < w.heap.size) (hx : ¬ X b) : CellsAt w' vs b o :=
  fun j x hj => by rw [World.cell?_of_block (w := w) (k.block b hb hx)]; exact h j x hj

mutual
theorem Rep.keep {w w' : World} {X X' : Nat → Prop} (k : Keep w X w' X') : ∀ (d : D) (v : Value), Rep w X d v → Rep w' X' d v
  | .int _ _, v, h => by simpa only [Rep] using h
  | .bool _, v, h => by simpa only [Rep] using h
  | .str _, v, h => by simpa only [Rep] using h
  | .raw _, v, h => by simpa only [Rep] using h
  | .err _, v, h => by simpa only [Rep] using h
  | .agg ds, v, h => by
    simp only [Rep] at h ⊢
    obtain ⟨cs, h1, h2⟩ := h
    exact ⟨cs, h1, Reps.keep k ds cs h2⟩
  | .sl sz es, v, h => by
    simp only [Rep] at h ⊢
    obtain ⟨base, cap, h1, h2, h3, h4⟩ := h
    refine ⟨base, cap, h1, h2, h3, fun ad had hne => ?_⟩
    obtain ⟨h5, h6, h7, h8⟩ := h4 ad had hne
    exact ⟨h5, Nat.lt_of_lt_of_le h6 k.size, k.out _ h6 h7, RowsAt.keep k sz es ad.block ad.off h6 h7 h8⟩
  | .ifc t d, v, h => by
    simp only [Rep] at h ⊢
    obtain ⟨x, h1, h2⟩ := h
    exact ⟨x, h1, Rep.keep k d x h2⟩
theorem Reps.keep {w w' : World} {X X' : Nat → Prop} (k : Keep w X w' X') : ∀ (ds : List D) (vs : List Value), Reps w X ds vs → Reps w' X' ds vs
  | [], vs, h => by simpa only [Reps] using h
  | d :: ds, vs, h => by
    simp only [Reps] at h ⊢
    obtain ⟨v, r, h1, h2, h3⟩ := h
    exact ⟨v, r, h1, Rep.keep k d v h2, Reps.keep k ds r h3⟩
theorem RowsAt.keep {w w' : World} {X X' : Nat → Prop} (k : Keep w X w' X') (sz : Nat) : ∀ (es : List (List D)) (b o : Nat), b < w.heap.size → ¬ X b → RowsAt w X sz es b o → RowsAt w' X' sz es b o
  | [], b, o, _, _, h => by simp only [RowsAt]
  | e :: es, b, o, hb, hx, h => by
    simp only [RowsAt] at h ⊢
    obtain ⟨⟨cs, h1, h2, h3⟩, h4⟩ := h
    exact ⟨⟨cs, Reps.keep k e cs h1, h2, h3.keep k hb hx⟩, RowsAt.keep k sz es b (o + sz) hb hx h4⟩
end

theorem RepRows.keep {w w' : World} {X X' : Nat → Prop} (k : Keep w X w' X') : ∀ (es : List (List D)) (rs : List (List Value)), RepRows w X es rs → RepRows w' X' es rs
  | [], rs, h => by simpa only [RepRows] using h
  | e :: es, rs, h => by
    simp only [RepRows] at h ⊢
    obtain ⟨c, r, h1, h2, h3⟩ := h
    exact ⟨c, r, h1, Reps.keep k e c h2, RepRows.keep k es r h3⟩

/-- A symbolic value: a datum; one that is there under a condition alone; a pointer into a block of the call's own; a pointer to cells that are only read; a slice of the call's own; the address of a part of one of its elements; nil or a pointer to the beginning of a block of the call's own; a function with what it has captured; several results; unknown. -/
inductive SV where
  | v (x : D)
  | g (c : Bool) (x : SV)
  | p (k off : Nat)
  | at (cs : List D) (off : Nat)
  | r (k : Nat)
  | re (k sz i off : Nat)
  | sp (k : Nat)
  | fn (f : Nat) (caps : List SV)
  | tup (xs : List SV)
  | u

mutual
/-- A value is what a symbolic value says: N: the names that are known; ρ: what they stand for. -/
def VRep (N : Nat → Prop) (ρ : Nat → Value) (w : World) (X : Nat → Prop) : SV → Value → Prop
  | .v d, v => Rep w X d v
  | .g c x, v => (c = true → VRep N ρ w X x v) ∧ (c = false → v = undef)
  | .p k off, v => N k ∧ ∃ b, ρ k = .pointer (some ⟨b, 0, none⟩) ∧ v = .pointer (some ⟨b, off, none⟩)
  | .at cs off, v => ∃ b o vs, v = .pointer (some ⟨b, o + off, none⟩) ∧ b < w.heap.size ∧ ¬ X b ∧ Reps w X cs vs ∧ CellsAt w vs b o
  | .r k, v => N k ∧ v = ρ k
  | .re k sz i off, v => N k ∧ ∃ b n c, ρ k = .slice (some ⟨b, 0, none⟩) n c ∧ v = .pointer (some ⟨b, i * sz + off, none⟩)
  | .sp k, v => N k ∧ (v = .pointer none ∨ v = ρ k)
  | .fn f caps, v => ∃ vs, v = .func (.func f) #[] ⟨vs⟩ ∧ VReps N ρ w X caps vs
  | .tup xs, v => ∃ vs, v = .tuple ⟨vs⟩ ∧ VReps N ρ w X xs vs
  | .u, _ => True
def VReps (N : Nat → Prop) (ρ : Nat → Value) (w : World) (X : Nat → Prop) : List SV → List Value → Prop
  | [], vs => vs = []
  | x :: xs, vs => ∃ v r, vs = v :: r ∧ VRep N ρ w X x v ∧ VReps N ρ w X xs r
end

mutual
theorem VRep.keep {N N' : Nat → Prop} {ρ ρ' : Nat → Value} {w w' : World} {X X' : Nat → Prop} (hN : ∀ k, N k → N' k ∧ ρ' k = ρ k) (k : Keep w X w' X') : ∀ (x : SV) (v : Value), VRep N ρ w X x v → VRep N' ρ' w' X' x v
  | .v d, v, h => by simp only [VRep] at h ⊢; exact Rep.keep k d v h
  | .g c x, v, h => by simp only [VRep] at h ⊢; exact ⟨fun hc => VRep.keep hN k x v (h.1 hc), h.2⟩
  | .p j off, v, h => by
    simp only [VRep] at h ⊢
    obtain ⟨h1, b, h2, h3⟩ := h
    exact ⟨(hN j h1).1, b, by rw [(hN j h1).2]; exact h2, h3⟩
  | .at cs off, v, h => by
    simp only [VRep] at h ⊢
    obtain ⟨b, o, vs, h1, h2, h3, h4, h5⟩ := h
    exact ⟨b, o, vs, h1, Nat.lt_of_lt_of_le h2 k.size, k.out b h2 h3, Reps.keep k cs vs h4, h5.keep k h2 h3⟩
  | .r j, v, h => by simp only [VRep] at h ⊢; exact ⟨(hN j h.1).1, by rw [(hN j h.1).2]; exact h.2⟩
  | .re j sz i off, v, h => by
    simp only [VRep] at h ⊢
    obtain ⟨h1, b, m, c, h2, h3⟩ := h
    exact ⟨(hN j h1).1, b, m, c, by rw [(hN j h1).2]; exact h2, h3⟩
  | .sp j, v, h => by simp only [VRep] at h ⊢; exact ⟨(hN j h.1).1, by rw [(hN j h.1).2]; exact h.2⟩
  | .fn f caps, v, h => by
    simp only [VRep] at h ⊢
    obtain ⟨vs, h1, h2⟩ := h
    exact ⟨vs, h1, VReps.keep hN k caps vs h2⟩
  | .tup xs, v, h => by
    simp only [VRep] at h ⊢
    obtain ⟨vs, h1, h2⟩ := h
    exact ⟨vs, h1, VReps.keep hN k xs vs h2⟩
  | .u, v, h => by simp only [VRep]
theorem VReps.keep {N N' : Nat → Prop} {ρ ρ' : Nat → Value} {w w' : World} {X X' : Nat → Prop} (hN : ∀ k, N k → N' k ∧ ρ' k = ρ k) (k : Keep w X w' X') : ∀ (xs : List SV) (vs : List Value), VReps N ρ w X xs vs → VReps N' ρ' w' X' xs vs
  | [], vs, h => by simpa only [VReps] using h
  | x :: xs, vs, h => by
    simp only [VReps] at h ⊢
    obtain ⟨v, r, h1, h2, h3⟩ := h
    exact ⟨v, r, h1, VRep.keep hN k x v h2, VReps.keep hN k xs r h3⟩
end

def isCell : Value → Bool
  | .agg _ | .tuple _ => false
  | _ => true

/-- What is the call's own: a block and its cells; a slice that may grow; how far a range over a text has come; something that is gone. -/
inductive Ob where
  | blk (ty : Nat) (cs : List SV)
  | row (ty sz : Nat) (es : List (List D))
  | it (s : List UInt8) (pos : Nat)
  | dead

def Ob.live : Ob → Bool
  | .dead => false
  | _ => true

/-- The block in which a value's memory lies. -/
def ob : Value → Option Nat
  | .pointer (some a) => some a.block
  | .slice (some a) _ _ => some a.block
  | _ => none

/-- A slice value that owns the cells of its row; nothing of them is frozen. -/
def OwnsR (w : World) (e : TypeId) (size : Nat) (v : Value) (n : Nat) (xs : List Value) : Prop :=
  xs.length = n * size ∧
  ((v = .slice none 0 0 ∧ n = 0) ∨
   ∃ g cap cur fz, v = .slice (some ⟨g, 0, none⟩) n cap ∧ w.heap[g]? = some (.cells cur e fz) ∧ (fz.2 ≤ fz.1 ∨ cur.size ≤ fz.1) ∧ n ≤ cap ∧ cap ≤ maxLen ∧ cur.size = cap * size ∧ cur.toList.take (n * size) = xs)
theorem OwnsR.nil (w : World) (e : TypeId) (size : Nat) : OwnsR w e size (.slice none 0 0) 0 [] := ⟨by simp, .inl ⟨rfl, rfl⟩⟩
theorem OwnsR.of {w : World} {base : Nat} {e : TypeId} {size : Nat} {v : Value} {n : Nat} {xs : List Value} (h : w.ownsRow base e size v n xs) : OwnsR w e size v n xs := by
  refine ⟨h.1, ?_⟩
  rcases h.2 with hn | ⟨g, cap, cur, hv, hb, hg, rest⟩
  · exact .inl hn
  · exact .inr ⟨g, cap, cur, (0, 0), hv, hg, .inl (Nat.le_refl _), rest⟩

def ObOk (N : Nat → Prop) (ρ : Nat → Value) (w : World) (X L : Nat → Prop) (v : Value) : Ob → Prop
  | .blk ty cs => ∃ b vs, v = .pointer (some ⟨b, 0, none⟩) ∧ w.heap[b]? = some (.cells vs.toArray ty (0, 0)) ∧ L b ∧ VReps N ρ w X cs vs
  | .row ty sz es => ∃ rows : List (List Value), RepRows w X es rows ∧ (∀ r, r ∈ rows → r.length = sz) ∧ OwnsR w ty sz v rows.length rows.flatten ∧ ∀ b, ob v = some b → L b
  | .it s pos => ∃ b, v = .pointer (some ⟨b, 0, none⟩) ∧ w.heap[b]? = some (.stringIter ⟨⟨s⟩⟩ pos) ∧ L b
  | .dead => isCell v = true

def nth {α : Type} : List α → Nat → Option α
  | [], _ => none
  | x :: _, 0 => some x
  | _ :: r, k + 1 => nth r k

def get {α : Type} : List (Nat × α) → Nat → Option α
  | [], _ => none
  | (k, x) :: r, t => match Nat.beq k t with | true => some x | false => get r t

/-- What is known: the slots; what is the call's own. -/
structure St where
  S : List (Nat × SV)
  O : List (Nat × Ob)

/-- Nothing but the blocks in L has changed; L has grown by new blocks alone. -/
structure Step (L : Nat → Prop) (w : World) (L' : Nat → Prop) (w' : World) : Prop where
  os : w'.os = w.os
  tape : w'.tape = w.tape
  output : w'.output = w.output
  size : w.heap.size ≤ w'.heap.size
  block : ∀ b, b < w.heap.size → ¬ L b → w'.heap[b]? = w.heap[b]?
  new : ∀ b, L' b → L b ∨ w.heap.size ≤ b

theorem Step.refl (L : Nat → Prop) (w : World) : Step L w L w := ⟨rfl, rfl, rfl, Nat.le_refl _, fun _ _ _ => rfl, fun _ h => .inl h⟩
theorem Step.trans {L L' L'' : Nat → Prop} {w w' w'' : World} (h : Step L w L' w') (k : Step L' w' L'' w'') : Step L w L'' w'' :=
  ⟨k.os.trans h.os, k.tape.trans h.tape, k.output.trans h.output, Nat.le_trans h.size k.size,
   fun b hb hL => (k.block b (Nat.lt_of_lt_of_le hb h.size) (fun hL' => by rcases h.new b hL' with h1 | h1; exact hL h1; omega)).trans (h.block b hb hL),
   fun b hb => by rcases k.new b hb with h1 | h1; exact h.new b h1; exact .inr (Nat.le_trans h.size h1)⟩

/-- Where a walk began: the blocks that are others' own, those that are its own, the world; a world whose blocks all stay as they are; the package's variables that are known; names that stand for known values. -/
structure Base where
  F : Nat → Prop
  L0 : Nat → Prop
  w0 : World
  wg : World
  G : List (Nat × List D)
  N : List (Nat × Value)

def un (F L : Nat → Prop) (b : Nat) : Prop := F b ∨ L b

/-- All of wg is still there, and outside X. -/
structure Ext (wg w : World) (X : Nat → Prop) : Prop where
  size : wg.heap.size ≤ w.heap.size
  block : ∀ b, b < wg.heap.size → w.heap[b]? = wg.heap[b]? ∧ ¬ X b

theorem Ext.keep {wg w w' : World} {X X' : Nat → Prop} (h : Ext wg w X) (k : Keep w X w' X') : Ext wg w' X' :=
  ⟨Nat.le_trans h.size k.size, fun b hb => ⟨(k.block b (Nat.lt_of_lt_of_le hb h.size) (h.block b hb).2).trans (h.block b hb).1, k.out b (Nat.lt_of_lt_of_le hb h.size) (h.block b hb).2⟩⟩

def nmO (O : List (Nat × Ob)) (k : Nat) : Prop := (get O k).isSome = true

def GlobOk (G : List (Nat × List D)) (w : World) (X : Nat → Prop) : Prop := ∀ g cs, get G g = some cs → ∃ vs, g < w.heap.size ∧ ¬ X g ∧ Reps w X cs vs ∧ CellsAt w vs g 0

structure Sat (B : Base) (n : Nat) (st : St) (ρ : Nat → Value) (a : Act) (w : World) (L : Nat → Prop) : Prop where
  size : a.tmps.size = n
  defers : a.defers = []
  slot : ∀ t x, get st.S t = some x → ∃ v, a.tmps[t]? = some v ∧ VRep (nmO st.O) ρ w (un B.F L) x v
  obj : ∀ k o, get st.O k = some o → ObOk (nmO st.O) ρ w (un B.F L) L (ρ k) o
  inj : ∀ k o k' o', get st.O k = some o → get st.O k' = some o' → k ≠ k' → o.live = true → o'.live = true → ∀ b, ob (ρ k) = some b → ob (ρ k') ≠ some b
  low : ∀ b, un B.F L b → b < w.heap.size
  step : Step B.L0 B.w0 L w
  ext : Ext B.wg w (un B.F L)
  glob : GlobOk B.G w (un B.F L)
  pin : ∀ k v, get B.N k = some v → ρ k = v ∧ nmO st.O k
  dis : ∀ b, B.F b → ¬ L b

theorem keep_of_step {F L L' : Nat → Prop} {w w' : World} (h : Step L w L' w') : Keep w (un F L) w' (un F L') :=
  ⟨h.size, fun b hb hx => h.block b hb (fun hl => hx (.inr hl)), fun b hb hx hx' => by
    rcases hx' with h1 | h1
    · exact hx (.inl h1)
    · rcases h.new b h1 with h2 | h2
      · exact hx (.inr h2)
      · omega⟩

theorem GlobOk.keep {G : List (Nat × List D)} {w w' : World} {X X' : Nat → Prop} (h : GlobOk G w X) (k : Keep w X w' X') : GlobOk G w' X' := fun g cs hg => by
  obtain ⟨vs, h1, h2, h3, h4⟩ := h g cs hg
  exact ⟨vs, Nat.lt_of_lt_of_le h1 k.size, k.out g h1 h2, Reps.keep k cs vs h3, h4.keep k h1 h2⟩

/-! ### Types -/

/-- What a type's table says: its cells, its zero value, whether it is a struct or an array, its fields' offsets and types, its integer kind, a slice's element's cells; 1: a bool, 2: a string, 3: an interface, 4 and more: a slice and its elements' type. -/
structure TI where
  size : Nat
  zero : Value
  agg : Bool
  offs : List (Nat × Nat)
  ik : Option IntKind
  el : Option Nat
  sort : Nat

def isAggD : TypeDesc → Bool
  | .struct _ | .array _ _ => true
  | _ => false
def ikD : TypeDesc → Option IntKind
  | .int k => some k
  | _ => none
def offsD (P : Program) : TypeDesc → List (Nat × Nat)
  | .struct fs => fs.toList.map fun f => if P.cellsOf f.type = 0 then (1000000, f.type) else (f.offset, f.type)
  | _ => []
def elD (P : Program) : TypeDesc → Option Nat
  | .slice e => (P.info? e).map (·.size)
  | _ => none
def sortD : TypeDesc → Nat
  | .bool => 1
  | .string => 2
  | .slice e => e + 4
  | .interface _ => 3
  | _ => 0

structure TIok (P : Program) (T : Nat) (ti : TI) : Prop where
  info : (P.info? T).map (fun i => (i.size, i.zero)) = some (ti.size, some ti.zero)
  desc : (P.underlying T).map (fun d => (isAggD d, offsD P d, ikD d, elD P d, sortD d)) = some (ti.agg, ti.offs, ti.ik, ti.el, ti.sort)

def TblOk (P : Program) : List (Nat × TI) → Prop
  | [] => True
  | (T, ti) :: r => TIok P T ti ∧ TblOk P r

theorem TblOk.get {P : Program} : ∀ {tb : List (Nat × TI)} {T : Nat} {ti : TI}, TblOk P tb → V.get tb T = some ti → TIok P T ti
  | [], _, _, _, h => by simp [V.get] at h
  | (T', ti') :: r, T, ti, hok, h => by
    unfold V.get at h
    split at h
    · rename_i he
      have : T' = T := Nat.eq_of_beq_eq_true he
      cases h; subst this; exact hok.1
    · exact TblOk.get hok.2 h

/-! ### The evaluator -/

/-- A known value as a datum. -/
def ofV1 : Value → D
  | .int k n => .int k n
  | .bool b => .bool b
  | .string ⟨⟨s⟩⟩ => .str s
  | v => .raw v
def ofVs : List Value → List D
  | [] => []
  | v :: r => ofV1 v :: ofVs r
def ofV : Value → D
  | .agg ⟨cs⟩ => .agg (ofVs cs)
  | v => ofV1 v

def opnd (G : List (Nat × List D)) (S : List (Nat × SV)) : Operand → Option SV
  | .tmp t => get S t
  | .const x => some (.v (ofV x))
  | .global g => match get G g with | some cs => some (.at cs 0) | none => some (.v (.raw (.pointer (some ⟨g, 0, none⟩))))
  | .func f => some (.fn f [])

/-- An operand without its condition, and the condition. -/
def o1 (G : List (Nat × List D)) (S : List (Nat × SV)) (x : Operand) : Option (SV × List Prop) :=
  match opnd G S x with
  | some (.g c y) => some (y, [c = true])
  | some y => some (y, [])
  | none => none

/-- A slice expression's lower bound. -/
def oLo (G : List (Nat × List D)) (S : List (Nat × SV)) : Option Operand → Option (SV × List Prop)
  | some y => o1 G S y
  | none => some (.v (.int .i64 0), [])

def vcs : List Prop → Prop
  | [] => True
  | [p] => p
  | p :: r => p ∧ vcs r

theorem vcs_cons {p : Prop} {r : List Prop} (h : vcs (p :: r)) : p ∧ vcs r := by
  cases r with
  | nil => exact ⟨h, trivial⟩
  | cons q r => exact h
theorem vcs_mk {p : Prop} {r : List Prop} (h : p) (h' : vcs r) : vcs (p :: r) := by
  cases r with
  | nil => exact h
  | cons q r => exact ⟨h, h'⟩
theorem vcs_append {l r : List Prop} (h : vcs (l ++ r)) : vcs l ∧ vcs r := by
  induction l with
  | nil => exact ⟨trivial, h⟩
  | cons p l ih =>
    have h1 := vcs_cons h
    obtain ⟨h2, h3⟩ := ih h1.2
    exact ⟨vcs_mk h1.1 h2, h3⟩
theorem vcs_reverse {l : List Prop} (h : vcs l.reverse) : vcs l := by
  induction l with
  | nil => trivial
  | cons p l ih =>
    rw [List.reverse_cons] at h
    obtain ⟨h1, h2⟩ := vcs_append h
    exact vcs_mk h2 (ih h1)

/-- Conditions laid on those that are there: what the unifier computes is a list that is written out. -/
def pushK {β : Type} : List Prop → List Prop → (List Prop → β) → β
  | [], acc, k => k acc
  | p :: r, acc, k => pushK r (p :: acc) k
theorem pushK_eq {β : Type} : ∀ (l acc : List Prop) (k : List Prop → β), pushK l acc k = k (l.reverse ++ acc)
  | [], acc, k => rfl
  | p :: r, acc, k => by simp [pushK, pushK_eq r]
/-- A list, written out. -/
def forceL {α β : Type} : List α → (List α → β) → β
  | [], k => k []
  | x :: r, k => forceL r fun r' => k (x :: r')
theorem forceL_eq {α β : Type} : ∀ (l : List α) (k : List α → β), forceL l k = k l
  | [], k => rfl
  | x :: r, k => by simp [forceL, forceL_eq r]

/-- Two data under one operator: the result, and what must hold. -/
def bin (op : BinOp) : D → D → Option (D × List Prop)
  | .int k a, .int k' b =>
    match op with
    | .shl => some (.int k (k.wrap (a * 2 ^ (min b.toNat k.bits))), [0 ≤ b])
    | .shr => some (.int k (a.fdiv (2 ^ (min b.toNat k.bits))), [0 ≤ b])
    | op =>
    match decide (k = k') with
    | true =>
      match op with
      | .add => some (.int k (k.wrap (a + b)), [])
      | .sub => some (.int k (k.wrap (a - b)), [])
      | .mul => some (.int k (k.wrap (a * b)), [])
      | .quo => some (.int k (k.wrap (a.tdiv b)), [b ≠ 0])
      | .rem => some (.int k (a.tmod b), [b ≠ 0])
      | .eql => some (.bool (a == b), [])
      | .neq => some (.bool (a != b), [])
      | .lss => some (.bool (decide (a < b)), [])
      | .leq => some (.bool (decide (a ≤ b)), [])
      | .gtr => some (.bool (decide (b < a)), [])
      | .geq => some (.bool (decide (b ≤ a)), [])
      | .and => some (.int k (k.wrap ((BitVec.ofInt k.bits a &&& BitVec.ofInt k.bits b).toNat : Int)), [])
      | .or => some (.int k (k.wrap ((BitVec.ofInt k.bits a ||| BitVec.ofInt k.bits b).toNat : Int)), [])
      | .xor => some (.int k (k.wrap ((BitVec.ofInt k.bits a ^^^ BitVec.ofInt k.bits b).toNat : Int)), [])
      | _ => none
    | false => none
  | .str a, .str b =>
    match op with
    | .add => some (.str (a ++ b), [a.length + b.length ≤ 9223372036854775807])
    | .eql => some (.bool (a == b), [])
    | .neq => some (.bool (!(a == b)), [])
    | .lss => some (.bool (Op.bytesLess a b), [])
    | .leq => some (.bool (Op.bytesLess a b || a == b), [])
    | .gtr => some (.bool (!(Op.bytesLess a b || a == b)), [])
    | .geq => some (.bool (!Op.bytesLess a b), [])
    | _ => none
  | _, _ => none

/-- A Bool, perhaps under a condition. -/
def bv : Option SV → Option (Bool × Option Bool)
  | some (.v (.bool x)) => some (x, none)
  | some (.g c (.v (.bool x))) => some (x, some c)
  | _ => none

def dropL {α : Type} : Nat → List α → List α
  | 0, l => l
  | _ + 1, [] => []
  | k + 1, _ :: r => dropL k r
def takeL {α : Type} : Nat → List α → Option (List α)
  | 0, _ => some []
  | _ + 1, [] => none
  | k + 1, x :: r => match takeL k r with | some l => some (x :: l) | none => none

/-- Data of cells that are only read. -/
def cellsD (cs : List D) (off n : Nat) (agg : Bool) : Option D :=
  match agg with
  | true => match takeL n (dropL off cs) with | some l => some (.agg l) | none => none
  | false => nth cs off

/-- A symbolic value that is a datum. -/
def toD : SV → Option D
  | .v x => some x
  | _ => none
def toDs : List SV → Option (List D)
  | [] => some []
  | x :: r => match toD x, toDs r with | some d, some l => some (d :: l) | _, _ => none

/-- What lies in cells of a block of the call's own. -/
def cellsS (cs : List SV) (off n : Nat) (agg : Bool) : Option SV :=
  match agg with
  | true => match takeL n (dropL off cs) with | some l => (match toDs l with | some ds => some (.v (.agg ds)) | none => none) | none => none
  | false => nth cs off

def splice {α : Type} (cs : List α) (off : Nat) : List α → List α
  | [] => cs
  | v :: r => splice (cs.set off v) (off + 1) r

def cellD : D → Bool
  | .agg _ => false
  | .raw v => isCell v
  | _ => true
def cellDs : List D → Bool
  | [] => true
  | d :: r => match cellD d with | true => cellDs r | false => false
def cellS : SV → Bool
  | .v d => cellD d
  | .g _ _ => false
  | .tup _ => false
  | .u => false
  | _ => true
def cellSs : List SV → Bool
  | [] => true
  | x :: r => match cellS x with | true => cellSs r | false => false
def cellsOfD : D → Option (List D)
  | .agg cs => some cs
  | d => match cellD d with | true => some [d] | false => none
def vs : List D → List SV
  | [] => []
  | d :: r => .v d :: vs r
/-- The cells of a symbolic value. -/
def cellsOfS : SV → Option (List SV)
  | .v d => match cellsOfD d with | some l => some (vs l) | none => none
  | x => match cellS x with | true => some [x] | false => none

/-- A struct's cells out of its parts. -/
def fillS (tb : List (Nat × TI)) (G : List (Nat × List D)) (S : List (Nat × SV)) (offs : List (Nat × Nat)) (cells : List D) : List (Nat × Operand) → Option (List D × List Prop)
  | [] => some (cells, [])
  | (i, x) :: r =>
    match nth offs i, o1 G S x with
    | some (fo, ft), some (y, l) =>
      match toD y, get tb ft, Nat.beq fo 1000000 with
      | some v, some ⟨size, _, _, _, _, _, _⟩, false =>
        match cellsOfD v with
        | some vc =>
          match Nat.beq vc.length size, Nat.ble (fo + vc.length) cells.length with
          | true, true =>
            match fillS tb G S offs (splice cells fo vc) r with
            | some (cs, m) => some (cs, l ++ m)
            | none => none
          | _, _ => none
        | none => none
      | _, _, _ => none
    | _, _ => none
def allTy (tb : List (Nat × TI)) : List (Nat × Nat) → Bool
  | [] => true
  | (fo, ft) :: r => match get tb ft, Nat.beq fo 1000000 with | some _, false => allTy tb r | _, _ => false

def needs : Option Bool → Bool → Bool → List Prop
  | some c', g, t => [g = t → c' = true]
  | none, _, _ => []

/-- A slice's elements. -/
def asSl (z : Nat) : D → Option (List (List D))
  | .sl sz es => match Nat.beq z sz with | true => some es | false => none
  | .raw (.slice none 0 0) => some []
  | _ => none

/-- The operands of a list. -/
def o1s (G : List (Nat × List D)) (S : List (Nat × SV)) : List Operand → Option (List SV × List Prop)
  | [] => some ([], [])
  | x :: r =>
    match o1 G S x with
    | some (y, l) => match o1s G S r with | some (ys, m) => some (y :: ys, l ++ m) | none => none
    | none => none

/-- An interface value: whether it is nil. -/
def ifNil : D → Option Bool
  | .raw .nilIface => some true
  | .err b => some b
  | .ifc _ _ => some false
  | _ => none

/-- The value of a quiet operation, and what must hold. -/
def ev (tb : List (Nat × TI)) (G : List (Nat × List D)) (S : List (Nat × SV)) (O : List (Nat × Ob)) (op : Op) : Option (SV × List Prop) :=
  match op with
  | .move x | .assign x => o1 G S x
  | .pick c a b =>
    match o1 G S c, bv (opnd G S a), bv (opnd G S b) with
    | some (.v (.bool g), l), some (x, ca), some (y, cb) => some (.v (.bool (bif g then x else y)), l ++ (needs ca g true ++ needs cb g false))
    | _, _, _ => none
  | .load T a =>
    match get tb T, o1 G S a with
    | some ⟨size, _, agg, _, _, _, _⟩, some (.p k off, l) =>
      match get O k with
      | some (.blk _ cs) => match cellsS cs off size agg with | some x => some (x, l) | none => none
      | _ => none
    | some ⟨size, _, agg, _, _, _, _⟩, some (.at cs off, l) => match cellsD cs off size agg with | some x => some (.v x, l) | none => none
    | _, _ => none
  | .nilCheck x =>
    match o1 G S x with
    | some (.p k off, l) => some (.p k off, l)
    | some (.at cs off, l) => some (.at cs off, l)
    | some (.re k sz i off, l) => some (.re k sz i off, l)
    | some (.fn f cs, l) => some (.fn f cs, l)
    | some (.v (.ifc t d), l) => some (.v (.ifc t d), l)
    | _ => none
  | .binOp op T x y _ =>
    match o1 G S x, o1 G S y with
    | some (.v (.bool a), l), some (.v (.bool b), m) =>
      match get tb T, op with
      | some ⟨_, _, _, _, _, _, 1⟩, .eql => some (.v (.bool (a == b)), l ++ m)
      | some ⟨_, _, _, _, _, _, 1⟩, .neq => some (.v (.bool (!(a == b))), l ++ m)
      | _, _ => none
    | some (.v a, l), some (.v b, m) =>
      match get tb T with
      | some ⟨_, _, _, _, _, _, 3⟩ =>
        match ifNil a, y, op with
        | some c, .const .nilIface, .eql => some (.v (.bool c), l ++ m)
        | some c, .const .nilIface, .neq => some (.v (.bool (!c)), l ++ m)
        | _, _, _ => none
      | _ => match bin op a b with | some (z, zl) => some (.v z, l ++ (m ++ zl)) | none => none
    | _, _ => none
  | .unOp .not _ x =>
    match o1 G S x with
    | some (.v (.bool b), l) => some (.v (.bool (!b)), l)
    | _ => none
  | .unOp .neg _ x =>
    match o1 G S x with
    | some (.v (.int k n), l) => some (.v (.int k (k.wrap (0 - n))), l)
    | _ => none
  | .convert src dst x =>
    match get tb src, get tb dst, o1 G S x with
    | some _, some ⟨_, _, _, _, some k, _, _⟩, some (.v (.int _ n), l) => some (.v (.int k (k.wrap n)), l)
    | some _, some ⟨_, _, _, _, _, _, 2⟩, some (.v (.str s), l) => some (.v (.str s), l)
    | _, _, _ => none
  | .fieldAddr T x f =>
    match get tb T, o1 G S x with
    | some ⟨_, _, _, offs, _, _, _⟩, some (y, l) =>
      match nth offs f with
      | some (fo, _) =>
        match Nat.beq fo 1000000, y with
        | false, .p k off => some (.p k (off + fo), l)
        | false, .at cs off => some (.at cs (off + fo), l)
        | false, .re k sz i off => some (.re k sz i (off + fo), l)
        | _, _ => none
      | none => none
    | _, _ => none
  | .field T x f =>
    match get tb T, o1 G S x with
    | some ⟨_, _, _, offs, _, _, _⟩, some (.v (.agg cs), l) =>
      match nth offs f with
      | some (fo, ft) =>
        match get tb ft, Nat.beq fo 1000000 with
        | some ⟨size, _, agg, _, _, _, _⟩, false => match cellsD cs fo size agg with | some x => some (.v x, l) | none => none
        | _, _ => none
      | none => none
    | _, _ => none
  | .index T x i =>
    match get tb T, o1 G S x, o1 G S i with
    | some ⟨_, _, _, _, _, _, 2⟩, some (.v (.str a), l), some (.v (.int _ n), m) => some (.v (.int .u8 ((a.getD n.toNat 0).toNat : Int)), l ++ (m ++ [0 ≤ n ∧ n < a.length]))
    | _, _, _ => none
  | .extract x ix =>
    match o1 G S x with
    | some (.tup xs, l) => match nth xs ix with | some y => some (y, l) | none => none
    | _ => none
  | .slice T x lo hi none =>
    match get tb T, o1 G S x, oLo G S lo with
    | some ⟨_, _, _, _, _, _, 2⟩, some (.v (.str a), l), some (.v (.int _ i), m) =>
      match hi with
      | none => some (.v (.str (a.drop i.toNat)), l ++ (m ++ [0 ≤ i ∧ i ≤ a.length]))
      | some h =>
        match o1 G S h with
        | some (.v (.int _ j), o) => some (.v (.str ((a.take j.toNat).drop i.toNat)), l ++ (m ++ (o ++ [0 ≤ i ∧ i ≤ j ∧ j ≤ a.length])))
        | _ => none
    | some ⟨_, _, _, _, _, some z, _⟩, some (.v d, l), some (.v (.int _ i), m) =>
      match asSl z d with
      | some es =>
        match hi with
        | none => some (.v (.sl z (es.drop i.toNat)), l ++ (m ++ [0 ≤ i ∧ i ≤ es.length]))
        | some h =>
          match o1 G S h with
          | some (.v (.int _ j), o) => some (.v (.sl z ((es.take j.toNat).drop i.toNat)), l ++ (m ++ (o ++ [0 ≤ i ∧ i ≤ j ∧ j ≤ es.length])))
          | _ => none
      | none => none
    | _, _, _ => none
  | .build T ⟨parts⟩ =>
    match get tb T with
    | some ⟨_, zero, true, o0 :: offs, _, _, _⟩ =>
      match zero with
      | .agg ⟨z⟩ =>
        match allTy tb (o0 :: offs), fillS tb G S (o0 :: offs) (ofVs z) parts with
        | true, some (cs, l) => forceL cs fun cs' => some (.v (.agg cs'), l)
        | _, _ => none
      | _ => none
    | _ => none
  | .makeFunc (.func f) ⟨[]⟩ ⟨caps⟩ => match o1s G S caps with | some (ys, l) => some (.fn f ys, l) | none => none
  | .makeInterface T x =>
    match get tb T, o1 G S x with
    | some ⟨_, _, _, _, _, _, 3⟩, _ => none
    | some _, some (.v d, l) => some (.v (.ifc T d), l)
    | _, _ => none
  | .call ⟨.builtin .len, ⟨[x]⟩, ⟨[T]⟩⟩ =>
    match get tb T, o1 G S x with
    | some ⟨_, _, _, _, _, some _, _⟩, some (.r k, l) =>
      match get O k with
      | some (.row _ _ es) => some (.v (.int .i64 es.length), l)
      | _ => none
    | some ⟨_, _, _, _, _, _, 2⟩, some (.v (.str a), l) => some (.v (.int .i64 a.length), l)
    | some ⟨_, _, _, _, _, some z, _⟩, some (.v d, l) => match asSl z d with | some es => some (.v (.int .i64 es.length), l) | none => none
    | _, _ => none
  | .call ⟨.builtin .max, ⟨[x, y]⟩, _⟩ =>
    match o1 G S x, o1 G S y with
    | some (.v (.int k a), l), some (.v (.int _ b), m) => some (.v (.int k (if b > a then b else a)), l ++ m)
    | _, _ => none
  | .call ⟨.builtin .min, ⟨[x, y]⟩, _⟩ =>
    match o1 G S x, o1 G S y with
    | some (.v (.int k a), l), some (.v (.int _ b), m) => some (.v (.int k (if b < a then b else a)), l ++ m)
    | _, _ => none
  | _ => none

end Go.V
