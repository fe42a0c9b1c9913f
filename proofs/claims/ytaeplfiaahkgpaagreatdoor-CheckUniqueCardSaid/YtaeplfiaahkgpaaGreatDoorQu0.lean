/- Packed by pack.py. -/
import Derived.Tactics2
import Derived.Still
import Derived.WalkKit
import Derived.WalkLawsBesides
import Derived.Laws.AppendOwn
import Derived.KernelRfl
import Derived.Below
import Derived.Deep.Quiet
import Derived.Deep.LoopGhost
namespace Go
theorem obs {α β : Type} (x : α) (f : α → Option β) : (some x).bind f = f x := rfl
theorem geq {α : Type} {l : List α} {i : Nat} (h : i < l.length) : l[i]? = some l[i] := List.getElem?_eq_getElem h
theorem itn (n : Nat) : (n : Int).toNat = n := rfl
end Go
noncomputable section zVx
set_option linter.unusedVariables false
namespace Go.V
inductive D where
  | int (k : IntKind) (n : Int)
  | bool (b : Bool)
  | str (s : List UInt8)
  | raw (v : Value)
  | err (b : Bool)
  | agg (cs : List D)
  | sl (sz : Nat) (es : List (List D))
  | ifc (t : Nat) (d : D)
  | mp (ks : List (List UInt8))
structure SetIs (es : Array MapEntry) (clock : Nat) (ks : List (List UInt8)) : Prop where
  keys : es.toList.map (·.key) = ks.map (fun s => Value.string ⟨⟨s⟩⟩)
  vals : ∀ x, x ∈ es.toList → x.val = .bool true ∧ x.born < clock
  born : (es.toList.map (·.born)).Nodup
  nodup : ks.Nodup
def CellsAt (w : World) (vs : List Value) (b o : Nat) : Prop := ∀ j x, vs[j]? = some x → w.cell? ⟨b, o + j, none⟩ = some x
mutual
def Rep (w : World) (X : Nat → Prop) : D → Value → Prop
  | .int k n, v => v = .int k n
  | .bool b, v => v = .bool b
  | .str s, v => v = .string ⟨⟨s⟩⟩
  | .raw x, v => v = x
  | .err b, v => (b = true → v = .nilIface) ∧ (b = false → ∃ t x, v = .iface t x)
  | .agg ds, v => ∃ cs, v = .agg ⟨cs⟩ ∧ Reps w X ds cs
  | .sl sz es, v => ∃ base cap, v = .slice base es.length cap ∧ es.length ≤ cap ∧ (base = none → es = []) ∧
      ∀ ad, base = some ad → es ≠ [] → ad.3 = none ∧ ad.block < w.heap.size ∧ ¬ X ad.block ∧ RowsAt w X sz es ad.block ad.off
  | .ifc t d, v => ∃ x, v = .iface t x ∧ Rep w X d x
  | .mp ks, v => ∃ b es clock, v = .map (some b) ∧ b < w.heap.size ∧ ¬ X b ∧ w.heap[b]? = some (.map es clock) ∧ SetIs es clock ks
def Reps (w : World) (X : Nat → Prop) : List D → List Value → Prop
  | [], vs => vs = []
  | d :: ds, vs => ∃ v r, vs = v :: r ∧ Rep w X d v ∧ Reps w X ds r
def RowsAt (w : World) (X : Nat → Prop) (sz : Nat) : List (List D) → Nat → Nat → Prop
  | [], _, _ => True
  | e :: es, b, o => (∃ cs, Reps w X e cs ∧ cs.length = sz ∧ CellsAt w cs b o) ∧ RowsAt w X sz es b (o + sz)
end
def RepRows (w : World) (X : Nat → Prop) : List (List D) → List (List Value) → Prop
  | [], rs => rs = []
  | e :: es, rs => ∃ c r, rs = c :: r ∧ Reps w X e c ∧ RepRows w X es r
structure Keep (w : World) (X : Nat → Prop) (w' : World) (X' : Nat → Prop) : Prop where
  size : w.heap.size ≤ w'.heap.size
  block : ∀ b, b < w.heap.size → ¬ X b → w'.heap[b]? = w.heap[b]?
  out : ∀ b, b < w.heap.size → ¬ X b → ¬ X' b
theorem Keep.refl (w : World) (X : Nat → Prop) : Keep w X w X := ⟨Nat.le_refl _, fun _ _ _ => rfl, fun _ _ h => h⟩
theorem Keep.trans {w w' w'' : World} {X X' X'' : Nat → Prop} (h : Keep w X w' X') (k : Keep w' X' w'' X'') : Keep w X w'' X'' :=
 ⟨Nat.le_trans h.size k.size, fun b hb hx => (k.block b (Nat.lt_of_lt_of_le hb h.size) (h.out b hb hx)).trans (h.block b hb hx), fun b hb hx => k.out b (Nat.lt_of_lt_of_le hb h.size) (h.out b hb hx)⟩
theorem CellsAt.keep {w w' : World} {X X' : Nat → Prop} {vs : List Value} {b o : Nat} (h : CellsAt w vs b o) (k : Keep w X w' X') (hb : b < w.heap.size) (hx : ¬ X b) : CellsAt w' vs b o :=
 fun j x hj => by rw [World.cell?_of_block (w := w) (k.block b hb hx)]; exact h j x hj
mutual
theorem Rep.keep {w w' : World} {X X' : Nat → Prop} (k : Keep w X w' X') : ∀ (d : D) (v : Value), Rep w X d v → Rep w' X' d v
  | .int _ _, v, h => by simpa only [Rep] using h
  | .bool _, v, h => by simpa only [Rep] using h
  | .str _, v, h => by simpa only [Rep] using h
  | .raw _, v, h => by simpa only [Rep] using h
  | .err _, v, h => by simpa only [Rep] using h
  | .agg ds, v, h => by
    simp only [Rep] at h ⊢
    obtain ⟨cs, h1, h2⟩ := h
    exact ⟨cs, h1, Reps.keep k ds cs h2⟩
  | .sl sz es, v, h => by
    simp only [Rep] at h ⊢
    obtain ⟨base, cap, h1, h2, h3, h4⟩ := h
    refine ⟨base, cap, h1, h2, h3, fun ad had hne => ?_⟩
    obtain ⟨h5, h6, h7, h8⟩ := h4 ad had hne
    exact ⟨h5, Nat.lt_of_lt_of_le h6 k.size, k.out _ h6 h7, RowsAt.keep k sz es ad.block ad.off h6 h7 h8⟩
  | .ifc t d, v, h => by
    simp only [Rep] at h ⊢
    obtain ⟨x, h1, h2⟩ := h
    exact ⟨x, h1, Rep.keep k d x h2⟩
  | .mp ks, v, h => by
    simp only [Rep] at h ⊢
    obtain ⟨b, es, clock, h1, h2, h3, h4, h5⟩ := h
    exact ⟨b, es, clock, h1, Nat.lt_of_lt_of_le h2 k.size, k.out _ h2 h3, (k.block b h2 h3).trans h4, h5⟩
theorem Reps.keep {w w' : World} {X X' : Nat → Prop} (k : Keep w X w' X') : ∀ (ds : List D) (vs : List Value), Reps w X ds vs → Reps w' X' ds vs
  | [], vs, h => by simpa only [Reps] using h
  | d :: ds, vs, h => by
    simp only [Reps] at h ⊢
    obtain ⟨v, r, h1, h2, h3⟩ := h
    exact ⟨v, r, h1, Rep.keep k d v h2, Reps.keep k ds r h3⟩
theorem RowsAt.keep {w w' : World} {X X' : Nat → Prop} (k : Keep w X w' X') (sz : Nat) : ∀ (es : List (List D)) (b o : Nat), b < w.heap.size → ¬ X b → RowsAt w X sz es b o → RowsAt w' X' sz es b o
  | [], b, o, _, _, h => by simp only [RowsAt]
  | e :: es, b, o, hb, hx, h => by
    simp only [RowsAt] at h ⊢
    obtain ⟨⟨cs, h1, h2, h3⟩, h4⟩ := h
    exact ⟨⟨cs, Reps.keep k e cs h1, h2, h3.keep k hb hx⟩, RowsAt.keep k sz es b (o + sz) hb hx h4⟩
end
theorem RepRows.keep {w w' : World} {X X' : Nat → Prop} (k : Keep w X w' X') : ∀ (es : List (List D)) (rs : List (List Value)), RepRows w X es rs → RepRows w' X' es rs
 | [], rs, h => by simpa only [RepRows] using h
 | e :: es, rs, h => by
  simp only [RepRows] at h ⊢
  obtain ⟨c, r, h1, h2, h3⟩ := h
  exact ⟨c, r, h1, Reps.keep k e c h2, RepRows.keep k es r h3⟩
inductive SV where
  | v (x : D)
  | g (c : Bool) (x : SV)
  | p (k off : Nat)
  | at (cs : List D) (off : Nat)
  | r (k : Nat)
  | re (k sz i off : Nat)
  | sp (k : Nat)
  | fn (f : Nat) (caps : List SV)
  | tup (xs : List SV)
  | u
mutual
def VRep (N : Nat → Prop) (ρ : Nat → Value) (w : World) (X : Nat → Prop) : SV → Value → Prop
  | .v d, v => Rep w X d v
  | .g c x, v => (c = true → VRep N ρ w X x v) ∧ (c = false → v = undef)
  | .p k off, v => N k ∧ ∃ b, ρ k = .pointer (some ⟨b, 0, none⟩) ∧ v = .pointer (some ⟨b, off, none⟩)
  | .at cs off, v => ∃ b o vs, v = .pointer (some ⟨b, o + off, none⟩) ∧ b < w.heap.size ∧ ¬ X b ∧ Reps w X cs vs ∧ CellsAt w vs b o
  | .r k, v => N k ∧ v = ρ k
  | .re k sz i off, v => N k ∧ ∃ b n c, ρ k = .slice (some ⟨b, 0, none⟩) n c ∧ v = .pointer (some ⟨b, i * sz + off, none⟩)
  | .sp k, v => N k ∧ (v = .pointer none ∨ v = ρ k)
  | .fn f caps, v => ∃ vs, v = .func (.func f) #[] ⟨vs⟩ ∧ VReps N ρ w X caps vs
  | .tup xs, v => ∃ vs, v = .tuple ⟨vs⟩ ∧ VReps N ρ w X xs vs
  | .u, _ => True
def VReps (N : Nat → Prop) (ρ : Nat → Value) (w : World) (X : Nat → Prop) : List SV → List Value → Prop
  | [], vs => vs = []
  | x :: xs, vs => ∃ v r, vs = v :: r ∧ VRep N ρ w X x v ∧ VReps N ρ w X xs r
end
mutual
theorem VRep.keep {N N' : Nat → Prop} {ρ ρ' : Nat → Value} {w w' : World} {X X' : Nat → Prop} (hN : ∀ k, N k → N' k ∧ ρ' k = ρ k) (k : Keep w X w' X') : ∀ (x : SV) (v : Value), VRep N ρ w X x v → VRep N' ρ' w' X' x v
  | .v d, v, h => by simp only [VRep] at h ⊢; exact Rep.keep k d v h
  | .g c x, v, h => by simp only [VRep] at h ⊢; exact ⟨fun hc => VRep.keep hN k x v (h.1 hc), h.2⟩
  | .p j off, v, h => by
    simp only [VRep] at h ⊢
    obtain ⟨h1, b, h2, h3⟩ := h
    exact ⟨(hN j h1).1, b, by rw [(hN j h1).2]; exact h2, h3⟩
  | .at cs off, v, h => by
    simp only [VRep] at h ⊢
    obtain ⟨b, o, vs, h1, h2, h3, h4, h5⟩ := h
    exact ⟨b, o, vs, h1, Nat.lt_of_lt_of_le h2 k.size, k.out b h2 h3, Reps.keep k cs vs h4, h5.keep k h2 h3⟩
  | .r j, v, h => by simp only [VRep] at h ⊢; exact ⟨(hN j h.1).1, by rw [(hN j h.1).2]; exact h.2⟩
  | .re j sz i off, v, h => by
    simp only [VRep] at h ⊢
    obtain ⟨h1, b, m, c, h2, h3⟩ := h
    exact ⟨(hN j h1).1, b, m, c, by rw [(hN j h1).2]; exact h2, h3⟩
  | .sp j, v, h => by simp only [VRep] at h ⊢; exact ⟨(hN j h.1).1, by rw [(hN j h.1).2]; exact h.2⟩
  | .fn f caps, v, h => by
    simp only [VRep] at h ⊢
    obtain ⟨vs, h1, h2⟩ := h
    exact ⟨vs, h1, VReps.keep hN k caps vs h2⟩
  | .tup xs, v, h => by
    simp only [VRep] at h ⊢
    obtain ⟨vs, h1, h2⟩ := h
    exact ⟨vs, h1, VReps.keep hN k xs vs h2⟩
  | .u, v, h => by simp only [VRep]
theorem VReps.keep {N N' : Nat → Prop} {ρ ρ' : Nat → Value} {w w' : World} {X X' : Nat → Prop} (hN : ∀ k, N k → N' k ∧ ρ' k = ρ k) (k : Keep w X w' X') : ∀ (xs : List SV) (vs : List Value), VReps N ρ w X xs vs → VReps N' ρ' w' X' xs vs
  | [], vs, h => by simpa only [VReps] using h
  | x :: xs, vs, h => by
    simp only [VReps] at h ⊢
    obtain ⟨v, r, h1, h2, h3⟩ := h
    exact ⟨v, r, h1, VRep.keep hN k x v h2, VReps.keep hN k xs r h3⟩
end
def isCell : Value → Bool
 | .agg _ | .tuple _ => false
 | _ => true
inductive Ob where
  | blk (ty : Nat) (cs : List SV)
  | row (ty sz : Nat) (es : List (List D))
  | it (s : List UInt8) (pos : Nat)
  | set (ks : List (List UInt8))
  | sit (left : List (List UInt8)) (cur : Option (List UInt8))
  | dead
def Ob.live : Ob → Bool
 | .dead => false
 | _ => true
def ob : Value → Option Nat
  | .pointer (some a) => some a.block
  | .slice (some a) _ _ => some a.block
  | .map (some b) => some b
  | _ => none
structure SitIs (es : Array MapEntry) (clock since c0 : Nat) (seen : Array Nat) (left : List (List UInt8)) (cur : Option (List UInt8)) : Prop where
  hold : ∀ x, x ∈ es.toList → x.born < since
  last : since ≤ c0
  clk : since ≤ clock
  keys : (es.toList.filter fun e => !seen.contains e.born).map (·.key) = left.map (fun s => Value.string ⟨⟨s⟩⟩)
  cur : ∀ s, cur = some s → c0 = clock ∧ ∃ e, e ∈ es.toList ∧ e.key = Value.string ⟨⟨s⟩⟩ ∧ seen.back? = some e.born
def OwnsR (w : World) (e : TypeId) (size : Nat) (v : Value) (n : Nat) (xs : List Value) : Prop :=
  xs.length = n * size ∧
  ((v = .slice none 0 0 ∧ n = 0) ∨
   ∃ g cap cur fz, v = .slice (some ⟨g, 0, none⟩) n cap ∧ w.heap[g]? = some (.cells cur e fz) ∧ (fz.2 ≤ fz.1 ∨ cur.size ≤ fz.1) ∧ n ≤ cap ∧ cap ≤ maxLen ∧ cur.size = cap * size ∧ cur.toList.take (n * size) = xs)
theorem OwnsR.nil (w : World) (e : TypeId) (size : Nat) : OwnsR w e size (.slice none 0 0) 0 [] := ⟨by simp, .inl ⟨rfl, rfl⟩⟩
theorem OwnsR.of {w : World} {base : Nat} {e : TypeId} {size : Nat} {v : Value} {n : Nat} {xs : List Value} (h : w.ownsRow base e size v n xs) : OwnsR w e size v n xs := by
 refine ⟨h.1, ?_⟩
 rcases h.2 with hn | ⟨g, cap, cur, hv, hb, hg, rest⟩
 ·exact .inl hn
 ·exact .inr ⟨g, cap, cur, (0, 0), hv, hg, .inl (Nat.le_refl _), rest⟩
def ObOk (N : Nat → Prop) (ρ : Nat → Value) (w : World) (X L : Nat → Prop) (v : Value) : Ob → Prop
 | .blk ty cs => ∃ b vs, v = .pointer (some ⟨b, 0, none⟩) ∧ w.heap[b]? = some (.cells vs.toArray ty (0, 0)) ∧ L b ∧ VReps N ρ w X cs vs
 | .row ty sz es => ∃ rows : List (List Value), RepRows w X es rows ∧ (∀ r, r ∈ rows → r.length = sz) ∧ OwnsR w ty sz v rows.length rows.flatten ∧ ∀ b, ob v = some b → L b
 | .it s pos => ∃ b, v = .pointer (some ⟨b, 0, none⟩) ∧ w.heap[b]? = some (.stringIter ⟨⟨s⟩⟩ pos) ∧ L b
 | .set ks => ∃ b es clock, v = .map (some b) ∧ w.heap[b]? = some (.map es clock) ∧ L b ∧ SetIs es clock ks
 | .sit left cur => ∃ b bm es clock since c0 seen ks, v = .pointer (some ⟨b, 0, none⟩) ∧ w.heap[b]? = some (.mapIter (some bm) since seen c0) ∧ L b ∧ bm < w.heap.size ∧ ¬ X bm ∧ w.heap[bm]? = some (.map es clock) ∧ SetIs es clock ks ∧ SitIs es clock since c0 seen left cur
 | .dead => isCell v = true
def nth {α : Type} : List α → Nat → Option α
 | [], _ => none
 | x :: _, 0 => some x
 | _ :: r, k + 1 => nth r k
def get {α : Type} : List (Nat × α) → Nat → Option α
 | [], _ => none
 | (k, x) :: r, t => match Nat.beq k t with | true => some x | false => get r t
structure St where
  S : List (Nat × SV)
  O : List (Nat × Ob)
structure Step (L : Nat → Prop) (w : World) (L' : Nat → Prop) (w' : World) : Prop where
  os : w'.os = w.os
  tape : w'.tape = w.tape
  output : w'.output = w.output
  size : w.heap.size ≤ w'.heap.size
  block : ∀ b, b < w.heap.size → ¬ L b → w'.heap[b]? = w.heap[b]?
  new : ∀ b, L' b → L b ∨ w.heap.size ≤ b
theorem Step.refl (L : Nat → Prop) (w : World) : Step L w L w := ⟨rfl, rfl, rfl, Nat.le_refl _, fun _ _ _ => rfl, fun _ h => .inl h⟩
theorem Step.trans {L L' L'' : Nat → Prop} {w w' w'' : World} (h : Step L w L' w') (k : Step L' w' L'' w'') : Step L w L'' w'' :=
  ⟨k.os.trans h.os, k.tape.trans h.tape, k.output.trans h.output, Nat.le_trans h.size k.size,
   fun b hb hL => (k.block b (Nat.lt_of_lt_of_le hb h.size) (fun hL' => by rcases h.new b hL' with h1 | h1; exact hL h1; omega)).trans (h.block b hb hL),
   fun b hb => by rcases k.new b hb with h1 | h1; exact h.new b h1; exact .inr (Nat.le_trans h.size h1)⟩
structure Base where
  F : Nat → Prop
  L0 : Nat → Prop
  w0 : World
  wg : World
  G : List (Nat × List D)
  N : List (Nat × Value)
def un (F L : Nat → Prop) (b : Nat) : Prop := F b ∨ L b
structure Ext (wg w : World) (X : Nat → Prop) : Prop where
  size : wg.heap.size ≤ w.heap.size
  block : ∀ b, b < wg.heap.size → w.heap[b]? = wg.heap[b]? ∧ ¬ X b
theorem Ext.keep {wg w w' : World} {X X' : Nat → Prop} (h : Ext wg w X) (k : Keep w X w' X') : Ext wg w' X' :=
 ⟨Nat.le_trans h.size k.size, fun b hb => ⟨(k.block b (Nat.lt_of_lt_of_le hb h.size) (h.block b hb).2).trans (h.block b hb).1, k.out b (Nat.lt_of_lt_of_le hb h.size) (h.block b hb).2⟩⟩
def nmO (O : List (Nat × Ob)) (k : Nat) : Prop := (get O k).isSome = true
def GlobOk (G : List (Nat × List D)) (w : World) (X : Nat → Prop) : Prop := ∀ g cs, get G g = some cs → ∃ vs, g < w.heap.size ∧ ¬ X g ∧ Reps w X cs vs ∧ CellsAt w vs g 0
structure Sat (B : Base) (n : Nat) (st : St) (ρ : Nat → Value) (a : Act) (w : World) (L : Nat → Prop) : Prop where
 size : a.tmps.size = n
 defers : a.defers = []
 slot : ∀ t x, get st.S t = some x → ∃ v, a.tmps[t]? = some v ∧ VRep (nmO st.O) ρ w (un B.F L) x v
 obj : ∀ k o, get st.O k = some o → ObOk (nmO st.O) ρ w (un B.F L) L (ρ k) o
 inj : ∀ k o k' o', get st.O k = some o → get st.O k' = some o' → k ≠ k' → o.live = true → o'.live = true → ∀ b, ob (ρ k) = some b → ob (ρ k') ≠ some b
 low : ∀ b, un B.F L b → b < w.heap.size
 step : Step B.L0 B.w0 L w
 ext : Ext B.wg w (un B.F L)
 glob : GlobOk B.G w (un B.F L)
 pin : ∀ k v, get B.N k = some v → ρ k = v ∧ nmO st.O k
 dis : ∀ b, B.F b → ¬ L b
theorem keep_of_step {F L L' : Nat → Prop} {w w' : World} (h : Step L w L' w') : Keep w (un F L) w' (un F L') :=
 ⟨h.size, fun b hb hx => h.block b hb (fun hl => hx (.inr hl)), fun b hb hx hx' => by
  rcases hx' with h1 | h1
  ·exact hx (.inl h1)
  ·rcases h.new b h1 with h2 | h2
   ·exact hx (.inr h2)
   ·omega⟩
theorem GlobOk.keep {G : List (Nat × List D)} {w w' : World} {X X' : Nat → Prop} (h : GlobOk G w X) (k : Keep w X w' X') : GlobOk G w' X' := fun g cs hg => by
 obtain ⟨vs, h1, h2, h3, h4⟩ := h g cs hg
 exact ⟨vs, Nat.lt_of_lt_of_le h1 k.size, k.out g h1 h2, Reps.keep k cs vs h3, h4.keep k h1 h2⟩
structure TI where
  size : Nat
  zero : Value
  agg : Bool
  offs : List (Nat × Nat)
  ik : Option IntKind
  el : Option Nat
  sort : Nat
def isAggD : TypeDesc → Bool
 | .struct _ | .array _ _ => true
 | _ => false
def ikD : TypeDesc → Option IntKind
 | .int k => some k
 | _ => none
def offsD (P : Program) : TypeDesc → List (Nat × Nat)
 | .struct fs => fs.toList.map fun f => if P.cellsOf f.type = 0 then (1000000, f.type) else (f.offset, f.type)
 | _ => []
def elD (P : Program) : TypeDesc → Option Nat
 | .slice e => (P.info? e).map (·.size)
 | _ => none
def sortD : TypeDesc → Nat
 | .bool => 1
 | .string => 2
 | .slice e => e + 4
 | .interface _ => 3
 | _ => 0
structure TIok (P : Program) (T : Nat) (ti : TI) : Prop where
 info : (P.info? T).map (fun i => (i.size, i.zero)) = some (ti.size, some ti.zero)
 desc : (P.underlying T).map (fun d => (isAggD d, offsD P d, ikD d, elD P d, sortD d)) = some (ti.agg, ti.offs, ti.ik, ti.el, ti.sort)
def TblOk (P : Program) : List (Nat × TI) → Prop
 | [] => True
 | (T, ti) :: r => TIok P T ti ∧ TblOk P r
theorem TblOk.get {P : Program} : ∀ {tb : List (Nat × TI)} {T : Nat} {ti : TI}, TblOk P tb → V.get tb T = some ti → TIok P T ti
 | [], _, _, _, h => by simp [V.get] at h
 | (T', ti') :: r, T, ti, hok, h => by
  unfold V.get at h
  split at h
  ·rename_i he
   have : T' = T := Nat.eq_of_beq_eq_true he
   cases h; subst this; exact hok.1
  ·exact TblOk.get hok.2 h
def ofV1 : Value → D
  | .int k n => .int k n
  | .bool b => .bool b
  | .string ⟨⟨s⟩⟩ => .str s
  | v => .raw v
def ofVs : List Value → List D
 | [] => []
 | v :: r => ofV1 v :: ofVs r
def ofV : Value → D
 | .agg ⟨cs⟩ => .agg (ofVs cs)
 | v => ofV1 v
def opnd (G : List (Nat × List D)) (S : List (Nat × SV)) : Operand → Option SV
 | .tmp t => get S t
 | .const x => some (.v (ofV x))
 | .global g => match get G g with | some cs => some (.at cs 0) | none => some (.v (.raw (.pointer (some ⟨g, 0, none⟩))))
 | .func f => some (.fn f [])
def o1 (G : List (Nat × List D)) (S : List (Nat × SV)) (x : Operand) : Option (SV × List Prop) :=
  match opnd G S x with
  | some (.g c y) => some (y, [c = true])
  | some y => some (y, [])
  | none => none
def oLo (G : List (Nat × List D)) (S : List (Nat × SV)) : Option Operand → Option (SV × List Prop)
  | some y => o1 G S y
  | none => some (.v (.int .i64 0), [])
def vcs : List Prop → Prop
 | [] => True
 | [p] => p
 | p :: r => p ∧ vcs r
theorem vcs_cons {p : Prop} {r : List Prop} (h : vcs (p :: r)) : p ∧ vcs r := by
 cases r with
 | nil => exact ⟨h, trivial⟩
 | cons q r => exact h
theorem vcs_mk {p : Prop} {r : List Prop} (h : p) (h' : vcs r) : vcs (p :: r) := by
 cases r with
 | nil => exact h
 | cons q r => exact ⟨h, h'⟩
theorem zR1 {l r : List Prop} (h : vcs (l ++ r)) : vcs l ∧ vcs r := by
 induction l with
 | nil => exact ⟨trivial, h⟩
 | cons p l ih =>
  have h1 := vcs_cons h
  obtain ⟨h2, h3⟩ := ih h1.2
  exact ⟨vcs_mk h1.1 h2, h3⟩
theorem vcs_reverse {l : List Prop} (h : vcs l.reverse) : vcs l := by
 induction l with
 | nil => trivial
 | cons p l ih =>
  rw [List.reverse_cons] at h
  obtain ⟨h1, h2⟩ := zR1 h
  exact vcs_mk h2 (ih h1)
def pushK {β : Type} : List Prop → List Prop → (List Prop → β) → β
  | [], acc, k => k acc
  | p :: r, acc, k => pushK r (p :: acc) k
theorem pushK_eq {β : Type} : ∀ (l acc : List Prop) (k : List Prop → β), pushK l acc k = k (l.reverse ++ acc)
 | [], acc, k => rfl
 | p :: r, acc, k => by simp [pushK, pushK_eq r]
def forceL {α β : Type} : List α → (List α → β) → β
  | [], k => k []
  | x :: r, k => forceL r fun r' => k (x :: r')
theorem forceL_eq {α β : Type} : ∀ (l : List α) (k : List α → β), forceL l k = k l
 | [], k => rfl
 | x :: r, k => by simp [forceL, forceL_eq r]
def bin (op : BinOp) : D → D → Option (D × List Prop)
  | .int k a, .int k' b =>
    match op with
    | .shl => some (.int k (k.wrap (a * 2 ^ (min b.toNat k.bits))), [0 ≤ b])
    | .shr => some (.int k (a.fdiv (2 ^ (min b.toNat k.bits))), [0 ≤ b])
    | op =>
    match decide (k = k') with
    | true =>
      match op with
      | .add => some (.int k (k.wrap (a + b)), [])
      | .sub => some (.int k (k.wrap (a - b)), [])
      | .mul => some (.int k (k.wrap (a * b)), [])
      | .quo => some (.int k (k.wrap (a.tdiv b)), [b ≠ 0])
      | .rem => some (.int k (a.tmod b), [b ≠ 0])
      | .eql => some (.bool (a == b), [])
      | .neq => some (.bool (a != b), [])
      | .lss => some (.bool (decide (a < b)), [])
      | .leq => some (.bool (decide (a ≤ b)), [])
      | .gtr => some (.bool (decide (b < a)), [])
      | .geq => some (.bool (decide (b ≤ a)), [])
      | .and => some (.int k (k.wrap ((BitVec.ofInt k.bits a &&& BitVec.ofInt k.bits b).toNat : Int)), [])
      | .or => some (.int k (k.wrap ((BitVec.ofInt k.bits a ||| BitVec.ofInt k.bits b).toNat : Int)), [])
      | .xor => some (.int k (k.wrap ((BitVec.ofInt k.bits a ^^^ BitVec.ofInt k.bits b).toNat : Int)), [])
      | _ => none
    | false => none
  | .str a, .str b =>
    match op with
    | .add => some (.str (a ++ b), [a.length + b.length ≤ 9223372036854775807])
    | .eql => some (.bool (a == b), [])
    | .neq => some (.bool (!(a == b)), [])
    | .lss => some (.bool (Op.bytesLess a b), [])
    | .leq => some (.bool (Op.bytesLess a b || a == b), [])
    | .gtr => some (.bool (!(Op.bytesLess a b || a == b)), [])
    | .geq => some (.bool (!Op.bytesLess a b), [])
    | _ => none
  | _, _ => none
def bv : Option SV → Option (Bool × Option Bool)
  | some (.v (.bool x)) => some (x, none)
  | some (.g c (.v (.bool x))) => some (x, some c)
  | _ => none
def dropL {α : Type} : Nat → List α → List α
 | 0, l => l
 | _ + 1, [] => []
 | k + 1, _ :: r => dropL k r
def takeL {α : Type} : Nat → List α → Option (List α)
 | 0, _ => some []
 | _ + 1, [] => none
 | k + 1, x :: r => match takeL k r with | some l => some (x :: l) | none => none
def cellsD (cs : List D) (off n : Nat) (agg : Bool) : Option D :=
  match agg with
  | true => match takeL n (dropL off cs) with | some l => some (.agg l) | none => none
  | false => nth cs off
def toD : SV → Option D
  | .v x => some x
  | .fn f [] => some (.raw (.func (.func f) #[] #[]))
  | _ => none
def toDs : List SV → Option (List D)
 | [] => some []
 | x :: r => match toD x, toDs r with | some d, some l => some (d :: l) | _, _ => none
def cellsS (cs : List SV) (off n : Nat) (agg : Bool) : Option SV :=
  match agg with
  | true => match takeL n (dropL off cs) with | some l => (match toDs l with | some ds => some (.v (.agg ds)) | none => none) | none => none
  | false => nth cs off
def splice {α : Type} (cs : List α) (off : Nat) : List α → List α
 | [] => cs
 | v :: r => splice (cs.set off v) (off + 1) r
def cellD : D → Bool
 | .agg _ => false
 | .raw v => isCell v
 | _ => true
def cellDs : List D → Bool
 | [] => true
 | d :: r => match cellD d with | true => cellDs r | false => false
def cellS : SV → Bool
 | .v d => cellD d
 | .g _ _ => false
 | .tup _ => false
 | .u => false
 | _ => true
def cellSs : List SV → Bool
 | [] => true
 | x :: r => match cellS x with | true => cellSs r | false => false
def cellsOfD : D → Option (List D)
 | .agg cs => some cs
 | d => match cellD d with | true => some [d] | false => none
def vs : List D → List SV
 | [] => []
 | d :: r => .v d :: vs r
def cellsOfS : SV → Option (List SV)
  | .v d => match cellsOfD d with | some l => some (vs l) | none => none
  | x => match cellS x with | true => some [x] | false => none
def fillS (tb : List (Nat × TI)) (G : List (Nat × List D)) (S : List (Nat × SV)) (offs : List (Nat × Nat)) (cells : List D) : List (Nat × Operand) → Option (List D × List Prop)
  | [] => some (cells, [])
  | (i, x) :: r =>
    match nth offs i, o1 G S x with
    | some (fo, ft), some (y, l) =>
      match toD y, get tb ft, Nat.beq fo 1000000 with
      | some v, some ⟨size, _, _, _, _, _, _⟩, false =>
        match cellsOfD v with
        | some vc =>
          match Nat.beq vc.length size, Nat.ble (fo + vc.length) cells.length with
          | true, true =>
            match fillS tb G S offs (splice cells fo vc) r with
            | some (cs, m) => some (cs, l ++ m)
            | none => none
          | _, _ => none
        | none => none
      | _, _, _ => none
    | _, _ => none
def allTy (tb : List (Nat × TI)) : List (Nat × Nat) → Bool
 | [] => true
 | (fo, ft) :: r => match get tb ft, Nat.beq fo 1000000 with | some _, false => allTy tb r | _, _ => false
def needs : Option Bool → Bool → Bool → List Prop
 | some c', g, t => [g = t → c' = true]
 | none, _, _ => []
def asSl (z : Nat) : D → Option (List (List D))
  | .sl sz es => match Nat.beq z sz with | true => some es | false => none
  | .raw (.slice none 0 0) => some []
  | _ => none
def o1s (G : List (Nat × List D)) (S : List (Nat × SV)) : List Operand → Option (List SV × List Prop)
  | [] => some ([], [])
  | x :: r =>
    match o1 G S x with
    | some (y, l) => match o1s G S r with | some (ys, m) => some (y :: ys, l ++ m) | none => none
    | none => none
def ifNil : D → Option Bool
  | .raw .nilIface => some true
  | .err b => some b
  | .ifc _ _ => some false
  | _ => none
def ev (tb : List (Nat × TI)) (G : List (Nat × List D)) (S : List (Nat × SV)) (O : List (Nat × Ob)) (op : Op) : Option (SV × List Prop) :=
  match op with
  | .move x | .assign x => o1 G S x
  | .pick c a b =>
    match o1 G S c, bv (opnd G S a), bv (opnd G S b) with
    | some (.v (.bool g), l), some (x, ca), some (y, cb) => some (.v (.bool (bif g then x else y)), l ++ (needs ca g true ++ needs cb g false))
    | _, _, _ => none
  | .load T a =>
    match get tb T, o1 G S a with
    | some ⟨size, _, agg, _, _, _, _⟩, some (.p k off, l) =>
      match get O k with
      | some (.blk _ cs) => match cellsS cs off size agg with | some x => some (x, l) | none => none
      | _ => none
    | some ⟨size, _, agg, _, _, _, _⟩, some (.at cs off, l) => match cellsD cs off size agg with | some x => some (.v x, l) | none => none
    | _, _ => none
  | .nilCheck x =>
    match o1 G S x with
    | some (.p k off, l) => some (.p k off, l)
    | some (.at cs off, l) => some (.at cs off, l)
    | some (.re k sz i off, l) => some (.re k sz i off, l)
    | some (.fn f cs, l) => some (.fn f cs, l)
    | some (.v (.ifc t d), l) => some (.v (.ifc t d), l)
    | _ => none
  | .binOp op T x y _ =>
    match o1 G S x, o1 G S y with
    | some (.v (.bool a), l), some (.v (.bool b), m) =>
      match get tb T, op with
      | some ⟨_, _, _, _, _, _, 1⟩, .eql => some (.v (.bool (a == b)), l ++ m)
      | some ⟨_, _, _, _, _, _, 1⟩, .neq => some (.v (.bool (!(a == b))), l ++ m)
      | _, _ => none
    | some (.v a, l), some (.v b, m) =>
      match get tb T with
      | some ⟨_, _, _, _, _, _, 3⟩ =>
        match ifNil a, y, op with
        | some c, .const .nilIface, .eql => some (.v (.bool c), l ++ m)
        | some c, .const .nilIface, .neq => some (.v (.bool (!c)), l ++ m)
        | _, _, _ => none
      | _ => match bin op a b with | some (z, zl) => some (.v z, l ++ (m ++ zl)) | none => none
    | _, _ => none
  | .unOp .not _ x =>
    match o1 G S x with
    | some (.v (.bool b), l) => some (.v (.bool (!b)), l)
    | _ => none
  | .unOp .neg _ x =>
    match o1 G S x with
    | some (.v (.int k n), l) => some (.v (.int k (k.wrap (0 - n))), l)
    | _ => none
  | .convert src dst x =>
    match get tb src, get tb dst, o1 G S x with
    | some _, some ⟨_, _, _, _, some k, _, _⟩, some (.v (.int _ n), l) => some (.v (.int k (k.wrap n)), l)
    | some _, some ⟨_, _, _, _, _, _, 2⟩, some (.v (.str s), l) => some (.v (.str s), l)
    | _, _, _ => none
  | .fieldAddr T x f =>
    match get tb T, o1 G S x with
    | some ⟨_, _, _, offs, _, _, _⟩, some (y, l) =>
      match nth offs f with
      | some (fo, _) =>
        match Nat.beq fo 1000000, y with
        | false, .p k off => some (.p k (off + fo), l)
        | false, .at cs off => some (.at cs (off + fo), l)
        | false, .re k sz i off => some (.re k sz i (off + fo), l)
        | _, _ => none
      | none => none
    | _, _ => none
  | .field T x f =>
    match get tb T, o1 G S x with
    | some ⟨_, _, _, offs, _, _, _⟩, some (.v (.agg cs), l) =>
      match nth offs f with
      | some (fo, ft) =>
        match get tb ft, Nat.beq fo 1000000 with
        | some ⟨size, _, agg, _, _, _, _⟩, false => match cellsD cs fo size agg with | some x => some (.v x, l) | none => none
        | _, _ => none
      | none => none
    | _, _ => none
  | .index T x i =>
    match get tb T, o1 G S x, o1 G S i with
    | some ⟨_, _, _, _, _, _, 2⟩, some (.v (.str a), l), some (.v (.int _ n), m) => some (.v (.int .u8 ((a.getD n.toNat 0).toNat : Int)), l ++ (m ++ [0 ≤ n ∧ n < a.length]))
    | _, _, _ => none
  | .extract x ix =>
    match o1 G S x with
    | some (.tup xs, l) => match nth xs ix with | some y => some (y, l) | none => none
    | _ => none
  | .slice T x lo hi none =>
    match get tb T, o1 G S x, oLo G S lo with
    | some ⟨_, _, _, _, _, _, 2⟩, some (.v (.str a), l), some (.v (.int _ i), m) =>
      match hi with
      | none => some (.v (.str (a.drop i.toNat)), l ++ (m ++ [0 ≤ i ∧ i ≤ a.length]))
      | some h =>
        match o1 G S h with
        | some (.v (.int _ j), o) => some (.v (.str ((a.take j.toNat).drop i.toNat)), l ++ (m ++ (o ++ [0 ≤ i ∧ i ≤ j ∧ j ≤ a.length])))
        | _ => none
    | some ⟨_, _, _, _, _, some z, _⟩, some (.v d, l), some (.v (.int _ i), m) =>
      match asSl z d with
      | some es =>
        match hi with
        | none => some (.v (.sl z (es.drop i.toNat)), l ++ (m ++ [0 ≤ i ∧ i ≤ es.length]))
        | some h =>
          match o1 G S h with
          | some (.v (.int _ j), o) => some (.v (.sl z ((es.take j.toNat).drop i.toNat)), l ++ (m ++ (o ++ [0 ≤ i ∧ i ≤ j ∧ j ≤ es.length])))
          | _ => none
      | none => none
    | _, _, _ => none
  | .build T ⟨parts⟩ =>
    match get tb T with
    | some ⟨_, zero, true, o0 :: offs, _, _, _⟩ =>
      match zero with
      | .agg ⟨z⟩ =>
        match allTy tb (o0 :: offs), fillS tb G S (o0 :: offs) (ofVs z) parts with
        | true, some (cs, l) => forceL cs fun cs' => some (.v (.agg cs'), l)
        | _, _ => none
      | _ => none
    | _ => none
  | .makeFunc (.func f) ⟨[]⟩ ⟨caps⟩ => match o1s G S caps with | some (ys, l) => some (.fn f ys, l) | none => none
  | .makeInterface T x =>
    match get tb T, o1 G S x with
    | some ⟨_, _, _, _, _, _, 3⟩, _ => none
    | some _, some (.v d, l) => some (.v (.ifc T d), l)
    | _, _ => none
  | .call ⟨.builtin .len, ⟨[x]⟩, ⟨[T]⟩⟩ =>
    match get tb T, o1 G S x with
    | some ⟨_, _, _, _, _, some _, _⟩, some (.r k, l) =>
      match get O k with
      | some (.row _ _ es) => some (.v (.int .i64 es.length), l)
      | _ => none
    | some ⟨_, _, _, _, _, _, 2⟩, some (.v (.str a), l) => some (.v (.int .i64 a.length), l)
    | some ⟨_, _, _, _, _, some z, _⟩, some (.v d, l) => match asSl z d with | some es => some (.v (.int .i64 es.length), l) | none => none
    | _, _ => none
  | .call ⟨.builtin .max, ⟨[x, y]⟩, _⟩ =>
    match o1 G S x, o1 G S y with
    | some (.v (.int k a), l), some (.v (.int _ b), m) => some (.v (.int k (if b > a then b else a)), l ++ m)
    | _, _ => none
  | .call ⟨.builtin .min, ⟨[x, y]⟩, _⟩ =>
    match o1 G S x, o1 G S y with
    | some (.v (.int k a), l), some (.v (.int _ b), m) => some (.v (.int k (if b < a then b else a)), l ++ m)
    | _, _ => none
  | _ => none
end Go.V
namespace Go.V
theorem nth_eq {α : Type} : ∀ (l : List α) (k : Nat), nth l k = l[k]?
 | [], _ => rfl
 | x :: r, 0 => rfl
 | x :: r, k + 1 => by simp [nth, nth_eq r k]
theorem dropL_eq {α : Type} : ∀ (k : Nat) (l : List α), dropL k l = l.drop k
 | 0, l => by simp [dropL]
 | k + 1, [] => by simp [dropL]
 | k + 1, x :: r => by simp [dropL, dropL_eq k r]
theorem takeL_eq {α : Type} : ∀ {k : Nat} {l r : List α}, takeL k l = some r → r = l.take k ∧ k ≤ l.length
 | 0, l, r, h => by simp only [takeL] at h; cases h; simp
 | k + 1, [], r, h => by simp [takeL] at h
 | k + 1, x :: l, r, h => by
  simp only [takeL] at h
  split at h
  ·rename_i l' h1; cases h
   obtain ⟨h2, h3⟩ := takeL_eq h1
   subst h2; simp; exact h3
  ·cases h
theorem zJ1 {α : Type} (d : Nat) (x : α) (l : List (Nat × α)) : get ((d, x) :: l) d = some x := by simp [get, Nat.beq_refl]
theorem zI1 {α : Type} {d t : Nat} (x : α) (l : List (Nat × α)) (h : d ≠ t) : get ((d, x) :: l) t = get l t := by
 have : Nat.beq d t = false := by cases hb : Nat.beq d t with | false => rfl | true => exact absurd (Nat.eq_of_beq_eq_true hb) h
 simp [get, this]
theorem beq_ne {a b : Nat} (h : Nat.beq a b = false) : a ≠ b := fun e => by rw [e, Nat.beq_refl] at h; cases h
section lists
variable {w : World} {X : Nat → Prop} {N : Nat → Prop} {ρ : Nat → Value}
theorem Reps.length : ∀ {ds : List D} {vs : List Value}, Reps w X ds vs → vs.length = ds.length
 | [], vs, h => by simp only [Reps] at h; subst h; rfl
 | d :: ds, vs, h => by
  simp only [Reps] at h
  obtain ⟨v, r, rfl, _, h3⟩ := h
  simp [Reps.length h3]
theorem VReps.length : ∀ {xs : List SV} {vs : List Value}, VReps N ρ w X xs vs → vs.length = xs.length
 | [], vs, h => by simp only [VReps] at h; subst h; rfl
 | x :: xs, vs, h => by
  simp only [VReps] at h
  obtain ⟨v, r, rfl, _, h3⟩ := h
  simp [VReps.length h3]
theorem RepRows.length : ∀ {es : List (List D)} {rs : List (List Value)}, RepRows w X es rs → rs.length = es.length
 | [], rs, h => by simp only [RepRows] at h; subst h; rfl
 | e :: es, rs, h => by
  simp only [RepRows] at h
  obtain ⟨c, r, rfl, _, h3⟩ := h
  simp [RepRows.length h3]
theorem Reps.get : ∀ {ds : List D} {vs : List Value} {j : Nat} {d : D}, Reps w X ds vs → ds[j]? = some d → ∃ v, vs[j]? = some v ∧ Rep w X d v
 | [], vs, j, d, h, hj => by simp at hj
 | d' :: ds, vs, 0, d, h, hj => by
  simp only [Reps] at h
  obtain ⟨v, r, rfl, h2, _⟩ := h
  simp at hj; subst hj
  exact ⟨v, by simp, h2⟩
 | d' :: ds, vs, j + 1, d, h, hj => by
  simp only [Reps] at h
  obtain ⟨v, r, rfl, _, h3⟩ := h
  obtain ⟨v', h4, h5⟩ := Reps.get h3 (by simpa using hj)
  exact ⟨v', by simpa using h4, h5⟩
theorem VReps.get : ∀ {xs : List SV} {vs : List Value} {j : Nat} {x : SV}, VReps N ρ w X xs vs → xs[j]? = some x → ∃ v, vs[j]? = some v ∧ VRep N ρ w X x v
 | [], vs, j, x, h, hj => by simp at hj
 | x' :: xs, vs, 0, x, h, hj => by
  simp only [VReps] at h
  obtain ⟨v, r, rfl, h2, _⟩ := h
  simp at hj; subst hj
  exact ⟨v, by simp, h2⟩
 | x' :: xs, vs, j + 1, x, h, hj => by
  simp only [VReps] at h
  obtain ⟨v, r, rfl, _, h3⟩ := h
  obtain ⟨v', h4, h5⟩ := VReps.get h3 (by simpa using hj)
  exact ⟨v', by simpa using h4, h5⟩
theorem RepRows.get : ∀ {es : List (List D)} {rs : List (List Value)} {j : Nat} {e : List D}, RepRows w X es rs → es[j]? = some e → ∃ r, rs[j]? = some r ∧ Reps w X e r
 | [], rs, j, e, h, hj => by simp at hj
 | e' :: es, rs, 0, e, h, hj => by
  simp only [RepRows] at h
  obtain ⟨v, r, rfl, h2, _⟩ := h
  simp at hj; subst hj
  exact ⟨v, by simp, h2⟩
 | e' :: es, rs, j + 1, e, h, hj => by
  simp only [RepRows] at h
  obtain ⟨v, r, rfl, _, h3⟩ := h
  obtain ⟨v', h4, h5⟩ := RepRows.get h3 (by simpa using hj)
  exact ⟨v', by simpa using h4, h5⟩
theorem Reps.drop : ∀ {ds : List D} {vs : List Value} (k : Nat), Reps w X ds vs → Reps w X (ds.drop k) (vs.drop k)
 | ds, vs, 0, h => by simpa using h
 | [], vs, k + 1, h => by simp only [Reps] at h; subst h; simp [Reps]
 | d :: ds, vs, k + 1, h => by
  simp only [Reps] at h
  obtain ⟨v, r, rfl, _, h3⟩ := h
  simpa using Reps.drop k h3
theorem Reps.take : ∀ {ds : List D} {vs : List Value} (k : Nat), Reps w X ds vs → Reps w X (ds.take k) (vs.take k)
 | ds, vs, 0, h => by simp [Reps]
 | [], vs, k + 1, h => by simp only [Reps] at h; subst h; simp [Reps]
 | d :: ds, vs, k + 1, h => by
  simp only [Reps] at h
  obtain ⟨v, r, rfl, h2, h3⟩ := h
  simp only [List.take_succ_cons, Reps]
  exact ⟨v, r.take k, rfl, h2, Reps.take k h3⟩
theorem VReps.drop : ∀ {ds : List SV} {vs : List Value} (k : Nat), VReps N ρ w X ds vs → VReps N ρ w X (ds.drop k) (vs.drop k)
 | ds, vs, 0, h => by simpa using h
 | [], vs, k + 1, h => by simp only [VReps] at h; subst h; simp [VReps]
 | d :: ds, vs, k + 1, h => by
  simp only [VReps] at h
  obtain ⟨v, r, rfl, _, h3⟩ := h
  simpa using VReps.drop k h3
theorem VReps.take : ∀ {ds : List SV} {vs : List Value} (k : Nat), VReps N ρ w X ds vs → VReps N ρ w X (ds.take k) (vs.take k)
 | ds, vs, 0, h => by simp [VReps]
 | [], vs, k + 1, h => by simp only [VReps] at h; subst h; simp [VReps]
 | d :: ds, vs, k + 1, h => by
  simp only [VReps] at h
  obtain ⟨v, r, rfl, h2, h3⟩ := h
  simp only [List.take_succ_cons, VReps]
  exact ⟨v, r.take k, rfl, h2, VReps.take k h3⟩
theorem Reps.set : ∀ {ds : List D} {vs : List Value} (k : Nat) {d : D} {v : Value}, Reps w X ds vs → Rep w X d v → Reps w X (ds.set k d) (vs.set k v)
 | [], vs, k, d, v, h, _ => by simp only [Reps] at h; subst h; simp [Reps]
 | d' :: ds, vs, 0, d, v, h, h1 => by
  simp only [Reps] at h
  obtain ⟨v', r, rfl, _, h3⟩ := h
  simp only [List.set_cons_zero, Reps]
  exact ⟨v, r, rfl, h1, h3⟩
 | d' :: ds, vs, k + 1, d, v, h, h1 => by
  simp only [Reps] at h
  obtain ⟨v', r, rfl, h2, h3⟩ := h
  simp only [List.set_cons_succ, Reps]
  exact ⟨v', r.set k v, rfl, h2, Reps.set k h3 h1⟩
theorem VReps.set : ∀ {ds : List SV} {vs : List Value} (k : Nat) {d : SV} {v : Value}, VReps N ρ w X ds vs → VRep N ρ w X d v → VReps N ρ w X (ds.set k d) (vs.set k v)
 | [], vs, k, d, v, h, _ => by simp only [VReps] at h; subst h; simp [VReps]
 | d' :: ds, vs, 0, d, v, h, h1 => by
  simp only [VReps] at h
  obtain ⟨v', r, rfl, _, h3⟩ := h
  simp only [List.set_cons_zero, VReps]
  exact ⟨v, r, rfl, h1, h3⟩
 | d' :: ds, vs, k + 1, d, v, h, h1 => by
  simp only [VReps] at h
  obtain ⟨v', r, rfl, h2, h3⟩ := h
  simp only [List.set_cons_succ, VReps]
  exact ⟨v', r.set k v, rfl, h2, VReps.set k h3 h1⟩
theorem Reps.splice : ∀ {es : List D} {us : List Value} {ds : List D} {vs : List Value} (k : Nat), Reps w X ds vs → Reps w X es us → Reps w X (V.splice ds k es) (V.splice vs k us)
 | [], us, ds, vs, k, h, h1 => by simp only [Reps] at h1; subst h1; simpa [V.splice] using h
 | e :: es, us, ds, vs, k, h, h1 => by
  simp only [Reps] at h1
  obtain ⟨v', r, rfl, h2, h3⟩ := h1
  simp only [V.splice]
  exact Reps.splice (k + 1) (Reps.set k h h2) h3
theorem VReps.splice : ∀ {es : List SV} {us : List Value} {ds : List SV} {vs : List Value} (k : Nat), VReps N ρ w X ds vs → VReps N ρ w X es us → VReps N ρ w X (V.splice ds k es) (V.splice vs k us)
 | [], us, ds, vs, k, h, h1 => by simp only [VReps] at h1; subst h1; simpa [V.splice] using h
 | e :: es, us, ds, vs, k, h, h1 => by
  simp only [VReps] at h1
  obtain ⟨v', r, rfl, h2, h3⟩ := h1
  simp only [V.splice]
  exact VReps.splice (k + 1) (VReps.set k h h2) h3
theorem toD_sound {x : SV} {d : D} {v : Value} (h : toD x = some d) (h1 : VRep N ρ w X x v) : Rep w X d v := by
 unfold toD at h
 split at h
 ·cases h; simpa only [VRep] using h1
 ·cases h
  simp only [VRep, VReps] at h1
  obtain ⟨vs, h2, rfl⟩ := h1
  simpa only [Rep] using h2
 ·cases h
theorem toDs_sound : ∀ {xs : List SV} {ds : List D} {vs : List Value}, toDs xs = some ds → VReps N ρ w X xs vs → Reps w X ds vs
 | [], ds, vs, h, h1 => by simp only [toDs] at h; cases h; simpa [Reps, VReps] using h1
 | x :: xs, ds, vs, h, h1 => by
  simp only [toDs] at h
  split at h
  ·rename_i d l h2 h3
   cases h
   simp only [VReps] at h1
   obtain ⟨v, r, rfl, h4, h5⟩ := h1
   simp only [Reps]
   exact ⟨v, r, rfl, toD_sound h2 h4, toDs_sound h3 h5⟩
  ·cases h
theorem vs_sound : ∀ {ds : List D} {us : List Value}, Reps w X ds us → VReps N ρ w X (vs ds) us
 | [], us, h => by simpa [Reps, VReps, vs] using h
 | d :: ds, us, h => by
  simp only [Reps] at h
  obtain ⟨v, r, rfl, h2, h3⟩ := h
  simp only [vs, VReps]
  exact ⟨v, r, rfl, by simpa [VRep] using h2, vs_sound h3⟩
theorem ofV1_rep (v : Value) : Rep w X (ofV1 v) v := by
 unfold ofV1
 split <;> simp [Rep]
theorem ofVs_rep : ∀ (l : List Value), Reps w X (ofVs l) l
 | [] => by simp [ofVs, Reps]
 | v :: r => by simp only [ofVs, Reps]; exact ⟨v, r, rfl, ofV1_rep v, ofVs_rep r⟩
theorem ofV_rep (v : Value) : Rep w X (ofV v) v := by
 unfold ofV
 split
 ·simp only [Rep]; exact ⟨_, rfl, ofVs_rep _⟩
 ·exact ofV1_rep _
theorem cell_of_rep {d : D} {v : Value} (h : Rep w X d v) (hc : cellD d = true) : isCell v = true := by
 cases d <;> simp only [Rep] at h <;> simp only [cellD] at hc
 ·subst h; rfl
 ·subst h; rfl
 ·subst h; rfl
 ·subst h; exact hc
 ·rename_i b; cases b with
  | true => rw [h.1 rfl]; rfl
  | false => obtain ⟨t, x, h⟩ := h.2 rfl; rw [h]; rfl
 ·cases hc
 ·obtain ⟨b, c, rfl, _⟩ := h; rfl
 ·obtain ⟨x, rfl, _⟩ := h; rfl
 ·obtain ⟨b, es, clock, rfl, _⟩ := h; rfl
theorem cell_of_vrep {x : SV} {v : Value} (h : VRep N ρ w X x v) (hc : cellS x = true) (hN : ∀ k, N k → isCell (ρ k) = true) : isCell v = true := by
 cases x <;> simp only [VRep] at h <;> simp only [cellS] at hc
 ·exact cell_of_rep h hc
 ·cases hc
 ·obtain ⟨_, b, _, rfl⟩ := h; rfl
 ·obtain ⟨b, o, vs, rfl, _⟩ := h; rfl
 ·rw [h.2]; exact hN _ h.1
 ·obtain ⟨_, b, n, c, _, rfl⟩ := h; rfl
 ·rcases h.2 with h2 | h2
  ·rw [h2]; rfl
  ·rw [h2]; exact hN _ h.1
 ·obtain ⟨vs, rfl, _⟩ := h; rfl
 ·cases hc
 ·cases hc
theorem cells_one {v : Value} (h : isCell v = true) : v.cells.toList = [v] := by cases v <;> first | rfl | cases h
theorem cellsOfD_sound {d : D} {l : List D} {v : Value} (h : cellsOfD d = some l) (hr : Rep w X d v) : Reps w X l v.cells.toList := by
 unfold cellsOfD at h
 split at h
 ·cases h
  simp only [Rep] at hr
  obtain ⟨cs, rfl, h2⟩ := hr
  exact h2
 ·split at h
  ·rename_i hc
   cases h
   rw [cells_one (cell_of_rep hr hc)]
   simp only [Reps]; exact ⟨v, [], rfl, hr, rfl⟩
  ·cases h
theorem cellsOfS_sound {x : SV} {l : List SV} {v : Value} (hN : ∀ k, N k → isCell (ρ k) = true) (h : cellsOfS x = some l) (hr : VRep N ρ w X x v) : VReps N ρ w X l v.cells.toList := by
 unfold cellsOfS at h
 split at h
 ·split at h
  ·rename_i h1
   cases h
   exact vs_sound (cellsOfD_sound h1 (by simpa [VRep] using hr))
  ·cases h
 ·split at h
  ·rename_i hc
   cases h
   rw [cells_one (cell_of_vrep hr hc hN)]
   simp only [VReps]; exact ⟨v, [], rfl, hr, rfl⟩
  ·cases h
theorem CellsAt.drop {vs : List Value} {b o : Nat} (h : CellsAt w vs b o) (k : Nat) : CellsAt w (vs.drop k) b (o + k) := fun j x hj => by
 rw [List.getElem?_drop] at hj
 have := h _ _ hj
 rwa [← Nat.add_assoc] at this
theorem CellsAt.take {vs : List Value} {b o : Nat} (h : CellsAt w vs b o) (k : Nat) : CellsAt w (vs.take k) b o := fun j x hj => by
 rw [List.getElem?_take] at hj
 split at hj
 ·exact h _ _ hj
 ·cases hj
theorem RowsAt.get {sz : Nat} : ∀ {es : List (List D)} {b o i : Nat} {e : List D}, RowsAt w X sz es b o → es[i]? = some e → ∃ cs, Reps w X e cs ∧ cs.length = sz ∧ CellsAt w cs b (o + i * sz)
 | [], b, o, i, e, h, hi => by simp at hi
 | e' :: es, b, o, 0, e, h, hi => by
  simp only [RowsAt] at h
  simp at hi; subst hi
  simpa using h.1
 | e' :: es, b, o, i + 1, e, h, hi => by
  simp only [RowsAt] at h
  obtain ⟨cs, h1, h2, h3⟩ := RowsAt.get h.2 (by simpa using hi)
  refine ⟨cs, h1, h2, ?_⟩
  rw [show o + (i + 1) * sz = o + sz + i * sz by rw [Nat.succ_mul]; omega]; exact h3
theorem RowsAt.mk {sz : Nat} : ∀ {es : List (List D)} {b o : Nat}, (∀ i e, es[i]? = some e → ∃ cs, Reps w X e cs ∧ cs.length = sz ∧ CellsAt w cs b (o + i * sz)) → RowsAt w X sz es b o
 | [], b, o, h => by simp only [RowsAt]
 | e :: es, b, o, h => by
  simp only [RowsAt]
  refine ⟨by simpa using h 0 e rfl, RowsAt.mk fun i e' hi => ?_⟩
  obtain ⟨cs, h1, h2, h3⟩ := h (i + 1) e' (by simpa using hi)
  refine ⟨cs, h1, h2, ?_⟩
  rw [show o + sz + i * sz = o + (i + 1) * sz by rw [Nat.succ_mul]; omega]; exact h3
theorem RowsAt.part {sz : Nat} {es : List (List D)} {b o i j : Nat} (h : RowsAt w X sz es b o) : RowsAt w X sz ((es.take j).drop i) b (o + i * sz) :=
 RowsAt.mk fun k e hk => by
  rw [List.getElem?_drop, List.getElem?_take] at hk
  split at hk
  ·obtain ⟨cs, h1, h2, h3⟩ := h.get hk
   refine ⟨cs, h1, h2, ?_⟩
   rw [show o + i * sz + k * sz = o + (i + k) * sz by rw [Nat.add_mul]; omega]; exact h3
  ·cases hk
theorem RowsAt.nil {sz b o : Nat} : RowsAt w X sz [] b o := by simp only [RowsAt]
theorem asSl_sound {z : Nat} {d : D} {es : List (List D)} {v : Value} (h : asSl z d = some es) (hr : Rep w X d v) : Rep w X (.sl z es) v := by
 unfold asSl at h
 split at h
 ·split at h
  ·rename_i he
   cases h; cases Nat.eq_of_beq_eq_true he; exact hr
  ·cases h
 ·cases h
  simp only [Rep] at hr ⊢
  exact ⟨none, 0, hr, Nat.le_refl _, fun _ => trivial, fun ad h => by cases h⟩
 ·cases h
end lists
variable {P : Program} {n : Nat} {B : Base} {st : St} {ρ : Nat → Value} {a : Act} {w : World} {L : Nat → Prop} {tb : List (Nat × TI)} {S : List (Nat × SV)} {O : List (Nat × Ob)}
theorem Sat.cellN (hs : Sat B n st ρ a w L) : ∀ k, nmO st.O k → isCell (ρ k) = true := fun k hk => by
 cases hg : get st.O k with
 | none => simp [nmO, hg] at hk
 | some o =>
  have h1 := hs.obj k o hg
  cases o with
  | blk ty cs => obtain ⟨b, vs, h2, _⟩ := h1; rw [h2]; rfl
  | row ty sz es =>
   obtain ⟨rows, _, _, h2, _⟩ := h1
   rcases h2.2 with ⟨h3, _⟩ | ⟨g, cap, cur, fz, h3, _⟩ <;> rw [h3] <;> rfl
  | it s pos => obtain ⟨b, h2, _⟩ := h1; rw [h2]; rfl
  | set ks => obtain ⟨b, es, clock, h2, _⟩ := h1; rw [h2]; rfl
  | sit l cu => obtain ⟨b, bm, es, clock, since, c0, seen, ks, h2, _⟩ := h1; rw [h2]; rfl
  | dead => exact h1
theorem opnd_sound (hs : Sat B n st ρ a w L) (hS : ∀ t x, get S t = some x → get st.S t = some x) {x : Operand} {y : SV} (h : opnd B.G S x = some y) : VRep (nmO st.O) ρ w (un B.F L) y (a.eval x) := by
 cases x with
 | tmp t =>
  obtain ⟨v, h1, h2⟩ := hs.slot t y (hS t y h)
  simp only [Act.eval, Array.getD_eq_getD_getElem?, h1]; exact h2
 | const v => cases h; simp only [VRep, Act.eval]; exact ofV_rep v
 | global g =>
  simp only [opnd] at h
  split at h
  ·rename_i cs hg
   cases h
   obtain ⟨vs, h1, h2, h3, h4⟩ := hs.glob g cs hg
   simp only [VRep, Act.eval]
   exact ⟨g, 0, vs, rfl, h1, h2, h3, h4⟩
  ·cases h; simp [VRep, Rep, Act.eval]
 | func f => cases h; simp only [VRep, Act.eval]; exact ⟨[], rfl, by simp [VReps]⟩
theorem zN1 (hs : Sat B n st ρ a w L) (hS : ∀ t x, get S t = some x → get st.S t = some x) {x : Operand} {y : SV} {l : List Prop} (h : o1 B.G S x = some (y, l)) (hv : vcs l) : VRep (nmO st.O) ρ w (un B.F L) y (a.eval x) := by
 unfold o1 at h
 split at h
 ·rename_i c z hz
  cases h
  have := opnd_sound hs hS hz
  simp only [VRep] at this
  exact this.1 hv
 ·rename_i z hne hz
  cases h
  exact opnd_sound hs hS hz
 ·cases h
theorem o1s_sound (hs : Sat B n st ρ a w L) (hS : ∀ t x, get S t = some x → get st.S t = some x) : ∀ {xs : List Operand} {ys : List SV} {l : List Prop}, o1s B.G S xs = some (ys, l) → vcs l → VReps (nmO st.O) ρ w (un B.F L) ys (xs.map a.eval)
 | [], ys, l, h, _ => by simp only [o1s] at h; cases h; simp [VReps]
 | x :: r, ys, l, h, hv => by
  simp only [o1s] at h
  split at h
  ·rename_i y l1 h1
   split at h
   ·rename_i ys' m h2
    cases h
    obtain ⟨v1, v2⟩ := zR1 hv
    simp only [List.map_cons, VReps]
    exact ⟨_, _, rfl, zN1 hs hS h1 v1, o1s_sound hs hS h2 v2⟩
   ·cases h
  ·cases h
theorem TIok.size_run {T : Nat} {ti : TI} (h : TIok P T ti) (w : World) : (sizeOf T).run P w = .ok ti.size w := by
 have := h.info
 cases hi : P.info? T with
 | none => rw [hi] at this; cases this
 | some i =>
  rw [hi] at this
  simp at this
  simp [sizeOf, typeInfo, program, Sem.run, hi, this]
theorem TIok.zero_run {T : Nat} {ti : TI} (h : TIok P T ti) (w : World) : (zeroValue T).run P w = .ok ti.zero w := by
 have := h.info
 cases hi : P.info? T with
 | none => rw [hi] at this; cases this
 | some i =>
  rw [hi] at this
  simp at this
  simp [zeroValue, typeInfo, program, Sem.run, hi, this]
theorem TIok.under {T : Nat} {ti : TI} (h : TIok P T ti) : ∃ d, P.underlying T = some d ∧ isAggD d = ti.agg ∧ offsD P d = ti.offs ∧ ikD d = ti.ik ∧ elD P d = ti.el ∧ sortD d = ti.sort := by
 have := h.desc
 cases hi : P.underlying T with
 | none => rw [hi] at this; cases this
 | some d =>
  rw [hi] at this
  simp at this
  exact ⟨d, rfl, this⟩
theorem TIok.under_run {T : Nat} {ti : TI} (h : TIok P T ti) (w : World) : ∃ d, (underlying T).run P w = .ok d w ∧ P.underlying T = some d ∧ isAggD d = ti.agg ∧ offsD P d = ti.offs ∧ ikD d = ti.ik ∧ elD P d = ti.el ∧ sortD d = ti.sort := by
 obtain ⟨d, h1, h2⟩ := h.under
 exact ⟨d, run_underlying h1 w, h1, h2⟩
theorem TIok.isAgg_run {T : Nat} {ti : TI} (h : TIok P T ti) (w : World) : (isAgg T).run P w = .ok ti.agg w := by
 obtain ⟨d, h1, _, h2, _⟩ := h.under_run w
 simp only [isAgg, Sem.run_bind, h1, Result.andThen_ok]
 rw [← h2]
 cases d <;> rfl
theorem run_loadCellsFrom (w : World) (b o : Nat) : ∀ (m i : Nat) (acc : Array Value) (cs : List Value), cs.length = m → (∀ j x, cs[j]? = some x → w.cell? ⟨b, o + (i + j), none⟩ = some x) →
  (loadCellsFrom ⟨b, o, none⟩ i m acc).run P w = .ok (acc ++ cs.toArray) w
 | 0, i, acc, cs, hl, _ => by
  obtain rfl : cs = [] := List.eq_nil_of_length_eq_zero hl
  simp [loadCellsFrom]
 | m + 1, i, acc, [], hl, _ => by cases hl
 | m + 1, i, acc, c :: cs, hl, h => by
  have h0 := h 0 c rfl
  have ih := run_loadCellsFrom w b o m (i + 1) (acc.push c) cs (by simpa using hl) (fun j x hx => by
   have := h (j + 1) x (by simpa using hx)
   rwa [show o + (i + (j + 1)) = o + (i + 1 + j) by omega] at this)
  simp only [Nat.add_zero] at h0
  simp only [loadCellsFrom, Sem.run_bind, run_load, Addr.add_lit, h0, Result.andThen_ok, ih]
  congr 1
  apply Array.ext'
  simp
theorem run_loadVar_agg {T : Nat} {ti : TI} (hT : TIok P T ti) (hagg : ti.agg = true) (w : World) (b o : Nat) (cs : List Value) (hl : cs.length = ti.size) (hc : CellsAt w cs b o) : (loadVar T ⟨b, o, none⟩).run P w = .ok (.agg ⟨cs⟩) w := by
  have := run_loadCellsFrom (P := P) w b o ti.size 0 #[] cs hl (fun j y hy => by rw [Nat.zero_add]; exact hc j y hy)
  simp only [loadVar, Sem.run_bind, hT.isAgg_run, hagg, Result.andThen_ok, if_true, hT.size_run, loadCells, this, Sem.run_pure]
  simp
theorem run_loadVar_one {T : Nat} {ti : TI} (hT : TIok P T ti) (hagg : ti.agg = false) (w : World) (b o : Nat) (x : Value) (hc : w.cell? ⟨b, o, none⟩ = some x) : (loadVar T ⟨b, o, none⟩).run P w = .ok x w := by
 simp only [loadVar, Sem.run_bind, hT.isAgg_run, hagg, Result.andThen_ok]
 simp [hc]
theorem run_loadD {T : Nat} {ti : TI} (hT : TIok P T ti) {w : World} {X : Nat → Prop} {b o off : Nat} {cs : List D} {us : List Value} {x : D} (hr : Reps w X cs us) (hc : CellsAt w us b o) (h : cellsD cs off ti.size ti.agg = some x) :
  ∃ v, (loadVar T ⟨b, o + off, none⟩).run P w = .ok v w ∧ Rep w X x v := by
 unfold cellsD at h
 split at h
 ·rename_i hagg
  split at h
  ·rename_i l hl
   cases h
   rw [dropL_eq] at hl
   obtain ⟨rfl, hle⟩ := takeL_eq hl
   have h1 : Reps w X ((cs.drop off).take ti.size) ((us.drop off).take ti.size) := (hr.drop off).take ti.size
   refine ⟨.agg ⟨(us.drop off).take ti.size⟩, run_loadVar_agg hT hagg w b (o + off) _ ?_ ((hc.drop off).take _), by simp only [Rep]; exact ⟨_, rfl, h1⟩⟩
   rw [h1.length, List.length_take, Nat.min_eq_left hle]
  ·cases h
 ·rename_i hagg
  rw [nth_eq] at h
  obtain ⟨v, h1, h2⟩ := hr.get h
  exact ⟨v, run_loadVar_one hT hagg w b (o + off) v (hc off v h1), h2⟩
theorem run_loadS {T : Nat} {ti : TI} (hT : TIok P T ti) {w : World} {X N : Nat → Prop} {b off : Nat} {cs : List SV} {us : List Value} {x : SV} (hr : VReps N ρ w X cs us) (hc : CellsAt w us b 0) (h : cellsS cs off ti.size ti.agg = some x) :
  ∃ v, (loadVar T ⟨b, off, none⟩).run P w = .ok v w ∧ VRep N ρ w X x v := by
 unfold cellsS at h
 split at h
 ·rename_i hagg
  split at h
  ·rename_i l hl
   split at h
   ·rename_i ds hds
    cases h
    rw [dropL_eq] at hl
    obtain ⟨rfl, hle⟩ := takeL_eq hl
    have h1 : VReps N ρ w X ((cs.drop off).take ti.size) ((us.drop off).take ti.size) := (hr.drop off).take ti.size
    have h2 := toDs_sound hds h1
    have hc' : CellsAt w ((us.drop off).take ti.size) b off := by have := (hc.drop off).take ti.size; rwa [Nat.zero_add] at this
    refine ⟨.agg ⟨(us.drop off).take ti.size⟩, run_loadVar_agg hT hagg w b off _ ?_ hc', by simp only [VRep, Rep]; exact ⟨_, rfl, h2⟩⟩
    rw [h1.length, List.length_take, Nat.min_eq_left hle]
   ·cases h
  ·cases h
 ·rename_i hagg
  rw [nth_eq] at h
  obtain ⟨v, h1, h2⟩ := hr.get h
  have := hc off v h1
  rw [Nat.zero_add] at this
  exact ⟨v, run_loadVar_one hT hagg w b off v this, h2⟩
theorem run_fieldAt {T : Nat} {ti : TI} (hT : TIok P T ti) (w : World) (b o f fo ft : Nat) (h : nth ti.offs f = some (fo, ft)) (hne : fo ≠ 1000000) :
  (Instr.fieldAt T (.pointer (some ⟨b, o, none⟩)) f).run P w = .ok (.pointer (some ⟨b, o + fo, none⟩)) w := by
 obtain ⟨d, h1, _, _, h2, _⟩ := hT.under_run w
 rw [nth_eq, ← h2] at h
 cases d with
 | struct fs =>
  simp only [offsD, List.getElem?_map, Array.getElem?_toList] at h
  cases hf : fs[f]? with
  | none => rw [hf] at h; cases h
  | some fd =>
   rw [hf] at h
   simp only [Option.map_some, Option.some.injEq] at h
   split at h
   ·cases h; exact absurd rfl hne
   ·rename_i hsz
    cases h
    have hsz' : (sizeOf fd.type).run P w = .ok (P.cellsOf fd.type) w := by
     unfold Program.cellsOf at *
     cases hi : P.info? fd.type with
     | none => rw [hi] at hsz; simp at hsz
     | some i => simp [sizeOf, typeInfo, program, Sem.run, hi]
    simp only [Instr.fieldAt, Sem.run_bind, h1, Result.andThen_ok, hf, Instr.sureAddr, Sem.run_pure, fieldPlace, hsz', if_neg hsz, Sem.run_ite, Addr.add_lit]
 | _ => simp [offsD] at h
theorem run_sliceBound {x : Value} {k : IntKind} {i : Int} {y : Nat} {c : BoundsCode} (hx : x = .int k i) (h0 : 0 ≤ i) (h1 : i ≤ y) (w : World) : (Instr.sliceBound x y c).run P w = .ok i.toNat w := by
  subst hx
  simp [Instr.sliceBound, asIntOf, h0, h1]
theorem bin_sound {op : BinOp} {T : Nat} {X : Nat → Prop} {x y : Value} {p q z : D} {zl : List Prop} (h : bin op p q = some (z, zl)) (hv : vcs zl) (w : World) (hx : Rep w X p x) (hy : Rep w X q y) (ox oy : Operand) :
  ∃ v, (do eqGuard op T ox oy x y; binOp op T x y : Sem Value).run P w = .ok v w ∧ Rep w X z v := by
 unfold bin at h
 split at h
 ·rename_i k a k' b
  simp only [Rep] at hx hy
  subst hx; subst hy
  simp only [eqGuard_at_int, pure_bind]
  split at h
  ·cases h
   have h0 : 0 ≤ b := hv
   simp only [binOp_shl, Op.shift]
   rw [if_neg (by omega)]; exact ⟨_, rfl, by simp only [Rep]⟩
  ·cases h
   have h0 : 0 ≤ b := hv
   simp only [binOp_shr, Op.shift]
   rw [if_neg (by omega)]; exact ⟨_, rfl, by simp only [Rep]⟩
  ·rename_i hnl hnr
   split at h
   ·rename_i hk
    have hk := of_decide_eq_true hk
    subst hk
    split at h
    all_goals (try (cases h))
    ·rw [binOp_add]; exact ⟨_, rfl, by simp only [Rep]⟩
    ·rw [binOp_sub]; exact ⟨_, rfl, by simp only [Rep]⟩
    ·rw [binOp_mul]; exact ⟨_, rfl, by simp only [Rep]⟩
    ·have h0 : b ≠ 0 := hv
     rw [binOp_quo]; simp only [Op.intDiv]; rw [if_neg h0]; exact ⟨_, rfl, by simp only [Rep]⟩
    ·have h0 : b ≠ 0 := hv
     rw [binOp_rem]; simp only [Op.intDiv]; rw [if_neg h0]; exact ⟨_, rfl, by simp only [Rep]⟩
    ·rw [binOp_eql]; exact ⟨_, rfl, by simp only [Rep]⟩
    ·rw [binOp_neq]; exact ⟨_, rfl, by simp only [Rep]⟩
    ·rw [binOp_lss]; exact ⟨_, rfl, by simp only [Rep]⟩
    ·rw [binOp_leq]; exact ⟨_, rfl, by simp only [Rep]⟩
    ·rw [binOp_gtr]; exact ⟨_, rfl, by simp only [Rep]⟩
    ·rw [binOp_geq]; exact ⟨_, rfl, by simp only [Rep]⟩
    ·refine ⟨.int k (k.wrap ((BitVec.ofInt k.bits a &&& BitVec.ofInt k.bits b).toNat : Int)), ?_, by simp only [Rep]⟩
     simp [binOp, Op.intBits]
    ·refine ⟨.int k (k.wrap ((BitVec.ofInt k.bits a ||| BitVec.ofInt k.bits b).toNat : Int)), ?_, by simp only [Rep]⟩
     simp [binOp, Op.intBits]
    ·refine ⟨.int k (k.wrap ((BitVec.ofInt k.bits a ^^^ BitVec.ofInt k.bits b).toNat : Int)), ?_, by simp only [Rep]⟩
     simp [binOp, Op.intBits]
   ·cases h
 ·rename_i a b
  simp only [Rep] at hx hy
  subst hx; subst hy
  simp only [eqGuard_at_string, pure_bind]
  have ta : (ByteArray.mk ⟨a⟩).toList = a := ByteArray.toList_mk a
  have tb' : (ByteArray.mk ⟨b⟩).toList = b := ByteArray.toList_mk b
  split at h
  all_goals (try (cases h))
  all_goals simp only [binOp, Op.stringOp, ta, tb']
  ·have h0 : a.length + b.length ≤ 9223372036854775807 := hv
   have hsz : ((ByteArray.mk ⟨a⟩).size + (ByteArray.mk ⟨b⟩).size) = a.length + b.length := rfl
   rw [hsz, if_neg (by simp [IntKind.max_i64]; omega)]
   refine ⟨.string ⟨⟨a ++ b⟩⟩, ?_, by simp only [Rep]⟩
   show Result.ok _ w = _
   congr 2
  all_goals exact ⟨_, rfl, by simp only [Rep]⟩
 ·cases h
theorem bv_sound {X N : Nat → Prop} {y : Option SV} {x : Bool} {c : Option Bool} (h : bv y = some (x, c)) : ∃ z, y = some z ∧ ((c = none ∨ c = some true) → ∀ v, VRep N ρ w X z v → v = .bool x) := by
 unfold bv at h
 split at h
 ·cases h; exact ⟨_, rfl, fun _ v hv => by simpa [VRep, Rep] using hv⟩
 ·cases h
  refine ⟨_, rfl, fun hc v hv => ?_⟩
  simp only [VRep, Rep] at hv
  rcases hc with hc | hc
  ·cases hc
  ·cases hc; exact hv.1 rfl
 ·cases h
theorem string_size (l : List UInt8) : (ByteArray.mk ⟨l⟩).size = l.length := rfl
theorem execOp_bi {o : Oper} {b : Builtin} {xs : Array Operand} {ats : Array TypeId} (hop : o.op = .call ⟨.builtin b, xs, ats⟩) (ρ : Operand → Value) :
  execOp ρ o = builtin b ats o.type (xs.map fun | .const _ => true | _ => false) (xs.map ρ) := by
 unfold execOp; rw [hop]; rfl
theorem run_equal_bool {T : Nat} {p q : Bool} (hd : (underlying T).run P w = .ok .bool w) : (Op.equal T (.bool p) (.bool q)).run P w = .ok (p == q) w := by
 unfold Op.equal
 generalize hm : Op.maxDepth = m
 cases m with
 | zero => exact absurd hm (by decide)
 | succ m => simp only [Op.equalIn, Sem.run_bind, hd, Result.andThen_ok]; rfl
theorem run_sliceBounds {isS : Bool} {len cap : Nat} {lo hi : Option Value} {i j : Nat} (hlo : (lo = none ∧ i = 0) ∨ ∃ k z, lo = some (.int k z) ∧ 0 ≤ z ∧ z.toNat = i)
  (hhi : (hi = none ∧ j = len) ∨ ∃ k z, hi = some (.int k z) ∧ 0 ≤ z ∧ z.toNat = j) (hij : i ≤ j) (hj : j ≤ cap) (w : World) :
  (Instr.sliceBounds isS len cap lo hi none).run P w = .ok (i, j, cap) w := by
 rcases hlo with ⟨rfl, rfl⟩ | ⟨k, z, rfl, h0, rfl⟩ <;> rcases hhi with ⟨rfl, rfl⟩ | ⟨k', z', rfl, h0', rfl⟩
 ·simp [Instr.sliceBounds]
 ·have := fun c => run_sliceBound (P := P) (x := .int k' z') (y := cap) (c := c) rfl h0' (by omega) w
  simp [Instr.sliceBounds, this]
 ·have := fun c => run_sliceBound (P := P) (x := .int k z) (y := j) (c := c) rfl h0 (by omega) w
  simp [Instr.sliceBounds, this]
 ·have := fun c => run_sliceBound (P := P) (x := .int k' z') (y := cap) (c := c) rfl h0' (by omega) w
  have h2 := fun c => run_sliceBound (P := P) (x := .int k z) (y := z'.toNat) (c := c) rfl h0 (by omega) w
  simp [Instr.sliceBounds, this, h2]
theorem extract_mk (l : List UInt8) (i j : Nat) : (ByteArray.mk ⟨l⟩).extract i j = ⟨⟨(l.take j).drop i⟩⟩ := by
 apply ByteArray.ext
 apply Array.ext'
 simp [List.drop_take]
theorem run_slice_string {T : Nat} {ti : TI} (hT : TIok P T ti) (hso : ti.sort = 2) {lo hi : Option Value} {l : List UInt8} {i j : Nat}
  (hlo : (lo = none ∧ i = 0) ∨ ∃ k z, lo = some (.int k z) ∧ 0 ≤ z ∧ z.toNat = i) (hhi : (hi = none ∧ j = l.length) ∨ ∃ k z, hi = some (.int k z) ∧ 0 ≤ z ∧ z.toNat = j)
  (hij : i ≤ j) (hj : j ≤ l.length) (w : World) : (Instr.sliceAt T (.string ⟨⟨l⟩⟩) lo hi none).run P w = .ok (.string ⟨⟨(l.take j).drop i⟩⟩) w := by
 obtain ⟨d, hd, _, _, _, _, _, h5⟩ := hT.under_run w
 rw [hso] at h5
 cases d <;> simp [sortD] at h5
 have hb := run_sliceBounds (P := P) (isS := false) (len := l.length) (cap := l.length) hlo hhi hij hj w
 simp only [Instr.sliceAt, Instr.slice, Sem.run_bind, hd, Result.andThen_ok, Option.isSome_none, Bool.false_eq_true, if_false, Sem.run_pure, string_size, hb, extract_mk]
theorem el_size {T z : Nat} {ti : TI} (hT : TIok P T ti) (hel : ti.el = some z) (w : World) : ∃ el, (underlying T).run P w = .ok (.slice el) w ∧ (sizeOf el).run P w = .ok z w := by
  obtain ⟨d, hd, _, _, _, _, h5, _⟩ := hT.under_run w
  rw [hel] at h5
  cases d with
  | slice el =>
    refine ⟨el, hd, ?_⟩
    simp only [elD] at h5
    cases hi : P.info? el with
    | none => rw [hi] at h5; cases h5
    | some i => rw [hi] at h5; simp at h5; simp [sizeOf, typeInfo, program, Sem.run, hi, h5]
  | _ => simp [elD] at h5
theorem run_slice_slice {T z : Nat} {ti : TI} {X : Nat → Prop} {es : List (List D)} {v : Value} (hT : TIok P T ti) (hel : ti.el = some z) {lo hi : Option Value} {i j : Nat}
  (hlo : (lo = none ∧ i = 0) ∨ ∃ k z, lo = some (.int k z) ∧ 0 ≤ z ∧ z.toNat = i) (hhi : (hi = none ∧ j = es.length) ∨ ∃ k z, hi = some (.int k z) ∧ 0 ≤ z ∧ z.toNat = j)
  (hij : i ≤ j) (hj : j ≤ es.length) (w : World) (hr : Rep w X (.sl z es) v) : ∃ u, (Instr.sliceAt T v lo hi none).run P w = .ok u w ∧ Rep w X (.sl z ((es.take j).drop i)) u := by
 obtain ⟨el, hd, hsz⟩ := el_size hT hel w
 simp only [Rep] at hr ⊢
 obtain ⟨base, cap, rfl, h2, h3, h4⟩ := hr
 have hb := run_sliceBounds (P := P) (isS := true) (len := es.length) (cap := cap) hlo hhi hij (by omega) w
 have hlen : ((es.take j).drop i).length = j - i := by simp; omega
 refine ⟨.slice (if cap = i then base else base.map (·.add (i * z))) (j - i) (cap - i), ?_, if cap = i then base else base.map (·.add (i * z)), cap - i, by rw [hlen], by rw [hlen]; omega, fun hb => ?_, fun ad had hne => ?_⟩
 ·simp only [Instr.sliceAt, Instr.slice, Sem.run_bind, hd, Result.andThen_ok, Sem.run_pure, hb, hsz]
 ·split at hb
  ·have := h3 hb; subst this; simp
  ·simp at hb; have := h3 hb; subst this; simp
 ·have hne' : es ≠ [] := fun h => hne (by rw [h]; simp)
  split at had
  ·rename_i he
   exact absurd (List.eq_nil_of_length_eq_zero (by rw [hlen]; omega)) hne
  ·simp only [Option.map_eq_some_iff] at had
   obtain ⟨ad', had, rfl⟩ := had
   obtain ⟨h5, h6, h7, h8⟩ := h4 ad' had hne'
   obtain ⟨b', o', e'⟩ := ad'
   simp only at h5
   subst h5
   rw [Addr.add_lit]
   exact ⟨rfl, h6, h7, h8.part⟩
end Go.V
namespace Go.V
variable {P : Program} {n : Nat} {B : Base} {st : St} {ρ : Nat → Value} {a : Act} {w : World} {L : Nat → Prop} {tb : List (Nat × TI)} {S : List (Nat × SV)} {O : List (Nat × Ob)}
theorem needs_sound {c : Option Bool} {g t : Bool} (h : vcs (needs c g t)) (hg : g = t) : c = none ∨ c = some true := by
 cases c with
 | none => exact .inl rfl
 | some c' => exact .inr (by have := h hg; rw [this])
theorem foldl_splice (off : Nat) : ∀ (vs : List Value) (k : Nat) (cells : Array Value), ((vs.zipIdx k).foldl (fun (cs : Array Value) (p : Value × Nat) => cs.setIfInBounds (off + p.2) p.1) cells).toList = splice cells.toList (off + k) vs
 | [], k, cells => rfl
 | v :: vs, k, cells => by
  simp only [List.zipIdx_cons, List.foldl_cons, splice]
  rw [foldl_splice off vs (k + 1)]
  simp [Nat.add_assoc]
theorem allTy_places (hP : TblOk P tb) : ∀ {fs : List Field}, allTy tb (offsD P (.struct fs.toArray)) = true →
    (fs.mapM (fun f => do pure (f.offset, ← sizeOf f.type) : Field → Sem (Nat × Nat))).run P w = .ok (fs.map fun f => (f.offset, P.cellsOf f.type)) w
  | [], _ => by simp
  | f :: fs, h => by
    simp only [offsD, List.map_cons] at h
    simp only [allTy] at h
    split at h
    · rename_i ti hT hne
      have ih := allTy_places (fs := fs) hP (by simpa [offsD] using h)
      have hsz : P.cellsOf f.type ≠ 0 := fun e => by rw [if_pos e] at hne; simp at hne
      rw [if_neg hsz] at hT
      have hsize := (hP.get hT).size_run w
      have hc : ti.size = P.cellsOf f.type := by
        have := (hP.get hT).info
        unfold Program.cellsOf
        cases hi : P.info? f.type with
        | none => rw [hi] at this; cases this
        | some i => rw [hi] at this; simp at this; simp [this.1]
      simp only [List.mapM_cons, Sem.run_bind, hsize, Result.andThen_ok, Sem.run_pure, ih, hc, List.map_cons]
    · cases h
theorem fill_sound (hP : TblOk P tb) (hs : Sat B n st ρ a w L) (hS : ∀ t x, get S t = some x → get st.S t = some x) {fs : List Field} : ∀ {parts : List (Nat × Operand)} {cells cs : List D} {us : List Value} {l : List Prop}, fillS tb B.G S (offsD P (.struct fs.toArray)) cells parts = some (cs, l) → vcs l → Reps w (un B.F L) cells us →
  ∃ us', Instr.fill (fun i => (fs.map fun f => (f.offset, P.cellsOf f.type)).toArray[i]?) us.toArray (parts.map fun p => (p.1, a.eval p.2)) = some us'.toArray ∧ Reps w (un B.F L) cs us'
 | [], cells, cs, us, l, h, _, hr => by simp only [fillS] at h; cases h; exact ⟨us, rfl, hr⟩
 | (i, x) :: r, cells, cs, us, l, h, hv, hr => by
  simp only [fillS] at h
  split at h
  ·rename_i fo ft y l1 h1 h2
   split at h
   ·rename_i v sz _ _ _ _ _ _ h3 hT hne
    split at h
    ·rename_i vc hvc
     split at h
     ·rename_i c1 c2
      split at h
      ·rename_i cs' m h4
       cases h
       obtain ⟨v1, v2⟩ := zR1 hv
       have e1 := zN1 hs hS h2 v1
       replace e1 := toD_sound h3 e1
       have hcell := cellsOfD_sound hvc e1
       obtain ⟨us', ih, ihr⟩ := fill_sound hP hs hS h4 v2 (Reps.splice fo hr hcell)
       refine ⟨us', ?_, ihr⟩
       simp only [offsD, nth_eq, List.getElem?_map] at h1
       cases hf : fs[i]? with
       | none => rw [hf] at h1; cases h1
       | some fd =>
        rw [hf] at h1
        simp only [Option.map_some, Option.some.injEq] at h1
        split at h1
        ·cases h1; simp at hne
        ·cases h1
         have hc : sz = P.cellsOf fd.type := by
          have := (hP.get hT).info
          unfold Program.cellsOf
          cases hi : P.info? fd.type with
          | none => rw [hi] at this; cases this
          | some i => rw [hi] at this; simp at this; simp [this.1]
         have c1 := Nat.eq_of_beq_eq_true c1
         have c2 := Nat.le_of_ble_eq_true c2
         have hlen := hcell.length
         have hlen2 := hr.length
         rw [Array.length_toList] at hlen
         simp only [List.map_cons, Instr.fill, List.getElem?_toArray, List.getElem?_map, hf, Option.map_some]
         rw [if_neg (by simp [hlen, c1, hc]; simp [hlen2, ← hc, ← c1]; omega)]
         rw [← ih]
         congr 1
         ·funext j; simp
         apply Array.ext'
         have := foldl_splice fd.offset (a.eval x).cells.toList 0 us.toArray
         simp only [Nat.add_zero] at this
         rw [← this, ← Array.foldl_toList, Array.toList_zipIdx]
      ·cases h
     ·cases h
    ·cases h
   ·cases h
  ·cases h
theorem ifNil_sound {X : Nat → Prop} {d : D} {v : Value} {b : Bool} (h : ifNil d = some b) (hr : Rep w X d v) : (b = true → v = .nilIface) ∧ (b = false → ∃ t x, v = .iface t x) := by
 unfold ifNil at h
 split at h
 ·cases h; simp only [Rep] at hr; exact ⟨fun _ => hr, (fun h => by cases h)⟩
 ·cases h; simpa only [Rep] using hr
 ·cases h; simp only [Rep] at hr; obtain ⟨z, h1, _⟩ := hr; exact ⟨(fun h => by cases h), fun _ => ⟨_, z, h1⟩⟩
 ·cases h
set_option maxHeartbeats 4000000 in
theorem ev_sound (hP : TblOk P tb) (hs : Sat B n st ρ a w L) (hS : ∀ t x, get S t = some x → get st.S t = some x) (hO : ∀ k o, get O k = some o → get st.O k = some o) (o : Oper) {x : SV} {l : List Prop} (h : ev tb B.G S O o.op = some (x, l)) (hv : vcs l) :
  ∃ v, (execOp a.eval o).run P w = .ok (.value v) w ∧ VRep (nmO st.O) ρ w (un B.F L) x v := by
 cases hop : o.op with
 | move x =>
  rw [hop] at h
  simp only [ev] at h
  exact ⟨a.eval x, by simp only [execOp, hop]; rfl, zN1 hs hS h hv⟩
 | assign x =>
  rw [hop] at h
  simp only [ev] at h
  exact ⟨a.eval x, by simp only [execOp, hop]; rfl, zN1 hs hS h hv⟩
 | pick c x y =>
  rw [hop] at h
  simp only [ev] at h
  split at h
  ·rename_i g l bx ca by_ cb h1 h2 h3
   cases h
   obtain ⟨v1, v2⟩ := zR1 hv
   obtain ⟨v3, v4⟩ := zR1 v2
   have e1 := zN1 hs hS h1 v1
   simp only [VRep, Rep] at e1
   obtain ⟨z2, hz2, d2⟩ := bv_sound (N := nmO st.O) (ρ := ρ) (w := w) (X := un B.F L) h2
   obtain ⟨z3, hz3, d3⟩ := bv_sound (N := nmO st.O) (ρ := ρ) (w := w) (X := un B.F L) h3
   have e2 := opnd_sound hs hS hz2
   have e3 := opnd_sound hs hS hz3
   refine ⟨.bool (bif g then bx else by_), ?_, by simp only [VRep, Rep]⟩
   simp only [execOp, hop, e1, asBool, Sem.run_bind, Sem.run_pure, Result.andThen_ok]
   cases g with
   | true => simp [d2 (needs_sound v3 rfl) _ e2]
   | false => simp [d3 (needs_sound v4 rfl) _ e3]
  ·cases h
 | load T x =>
  rw [hop] at h
  simp only [ev] at h
  split at h
  ·rename_i size zero agg offs ik el so k off l hT h1
   split at h
   ·rename_i ty cs hk
    split at h
    ·rename_i y h2
     cases h
     have e1 := zN1 hs hS h1 hv
     simp only [VRep] at e1
     obtain ⟨_, b, e2, e3⟩ := e1
     obtain ⟨b', us, e4, hb, _, hr⟩ := hs.obj k _ (hO k _ hk)
     rw [e4] at e2; cases e2
     obtain ⟨v, hl, hrep⟩ := run_loadS (hP.get hT) hr (b := b) (fun j z hz => by simp only [World.cell?, hb, Nat.zero_add]; simpa using hz) h2
     refine ⟨v, ?_, hrep⟩
     simp only [execOp, hop, e3, Instr.loadAt, Instr.sureAddr, Sem.run_bind, Sem.run_pure, Result.andThen_ok, hl]
    ·cases h
   ·cases h
  ·rename_i size zero agg offs ik el so cs off l hT h1
   split at h
   ·rename_i y h2
    cases h
    have e1 := zN1 hs hS h1 hv
    simp only [VRep] at e1
    obtain ⟨b, o', us, e2, e3, e4, e5, e6⟩ := e1
    obtain ⟨v, hl, hrep⟩ := run_loadD (hP.get hT) e5 e6 h2
    refine ⟨v, ?_, by simpa only [VRep] using hrep⟩
    simp only [execOp, hop, e2, Instr.loadAt, Instr.sureAddr, Sem.run_bind, Sem.run_pure, Result.andThen_ok, hl]
   ·cases h
  ·cases h
 | nilCheck x =>
  rw [hop] at h
  simp only [ev] at h
  split at h
  all_goals (try (cases h; done))
  all_goals
   rename_i h1
   cases h
   have e1 := zN1 hs hS h1 hv
   refine ⟨a.eval x, ?_, e1⟩
  ·simp only [VRep] at e1
   obtain ⟨_, b, _, e3⟩ := e1
   simp only [execOp, hop, e3]; rfl
  ·simp only [VRep] at e1
   obtain ⟨b, o', us, e3, _⟩ := e1
   simp only [execOp, hop, e3]; rfl
  ·simp only [VRep] at e1
   obtain ⟨_, b, m, c, _, e3⟩ := e1
   simp only [execOp, hop, e3]; rfl
  ·simp only [VRep] at e1
   obtain ⟨us, e3, _⟩ := e1
   simp only [execOp, hop, e3]; rfl
  ·simp only [VRep, Rep] at e1
   obtain ⟨x', e3, _⟩ := e1
   simp only [execOp, hop, e3]; rfl
 | binOp op T x y yT =>
  rw [hop] at h
  simp only [ev] at h
  split at h
  ·rename_i p l q m h1 h2
   have hq : ∀ {ti : TI}, get tb T = some ti → ti.sort = 1 → (underlying T).run P w = .ok .bool w := fun {ti} hT hso => by
    obtain ⟨d, hd, _, _, _, _, _, h5⟩ := (hP.get hT).under_run w
    rw [hso] at h5
    cases d <;> simp [sortD] at h5
    exact hd
   split at h
   all_goals (try (cases h; done))
   all_goals
    rename_i hT
    cases h
    obtain ⟨v1, v2⟩ := zR1 hv
    have e1 := zN1 hs hS h1 v1
    have e2 := zN1 hs hS h2 v2
    simp only [VRep, Rep] at e1 e2
    have hd := hq hT rfl
    refine ⟨_, ?_, by simp only [VRep, Rep]; rfl⟩
    simp only [execOp, hop, e1, e2, eqGuard_at_bool, binOp, Sem.run_bind, Sem.run_pure, Result.andThen_ok, run_equal_bool hd]
  ·rename_i p l q m hnb h1 h2
   split at h
   ·rename_i hT
    obtain ⟨d, hd, _, _, _, _, _, h5⟩ := (hP.get hT).under_run w
    have hd' : ∃ ms, d = .interface ms := by
     cases d <;> simp [sortD] at h5
     exact ⟨_, rfl⟩
    obtain ⟨ms, rfl⟩ := hd'
    split at h
    all_goals (try (cases h; done))
    all_goals
     rename_i c hn1
     cases h
     obtain ⟨v1, v2⟩ := zR1 hv
     have e1 := zN1 hs hS h1 v1
     simp only [VRep] at e1
     have e1 := ifNil_sound hn1 e1
     have heq : (Op.equal T (a.eval x) .nilIface).run P w = .ok c w := by
      unfold Op.equal
      generalize hm : Op.maxDepth = m
      cases m with
      | zero => exact absurd hm (by decide)
      | succ m =>
       simp only [Op.equalIn, Sem.run_bind, hd, Result.andThen_ok]
       cases c with
       | true => rw [e1.1 rfl]; rfl
       | false => obtain ⟨t, z, e⟩ := e1.2 rfl; rw [e]; rfl
     have hbin : ∀ op, (op = BinOp.eql ∨ op = BinOp.neq) → (do eqGuard op T x (.const .nilIface) (a.eval x) .nilIface; binOp op T (a.eval x) .nilIface : Sem Value).run P w = .ok (.bool (match op with | .eql => c | _ => !c)) w := by
      intro op hop
      cases c with
      | true =>
       have e := e1.1 rfl
       rw [e] at heq
       rcases hop with rfl | rfl <;> simp [e, eqGuard, binOp, heq]
      | false =>
       obtain ⟨t, z, e⟩ := e1.2 rfl
       rw [e] at heq
       rcases hop with rfl | rfl <;> simp [e, eqGuard, binOp, heq]
     refine ⟨_, ?_, by simp only [VRep, Rep]; rfl⟩
     have ey : a.eval (.const .nilIface) = .nilIface := rfl
     simp only [execOp, hop, ey]
     simp only [Sem.run_bind] at hbin ⊢
     first | (rw [hbin .eql (.inl rfl)]; rfl) | (rw [hbin .neq (.inr rfl)]; rfl)
   ·split at h
    ·rename_i z zl h3
     cases h
     obtain ⟨v1, v2⟩ := zR1 hv
     obtain ⟨v3, v4⟩ := zR1 v2
     have e1 := zN1 hs hS h1 v1
     have e2 := zN1 hs hS h2 v3
     simp only [VRep] at e1 e2
     obtain ⟨v, hr, hrep⟩ := bin_sound (P := P) (T := T) h3 v4 w e1 e2 x y
     refine ⟨v, ?_, by simpa only [VRep] using hrep⟩
     simp only [execOp, hop]
     simp only [Sem.run_bind] at hr ⊢
     rw [hr]; rfl
    ·cases h
  ·cases h
 | unOp op T x =>
  rw [hop] at h
  cases op <;> simp only [ev] at h <;> try (cases h; done)
  all_goals
   split at h
   ·rename_i h1
    cases h
    have e1 := zN1 hs hS h1 hv
    simp only [VRep, Rep] at e1
    refine ⟨_, ?_, by simp only [VRep, Rep]; rfl⟩
    simp only [execOp, hop, e1, Op.unary, Op.intArith]; rfl
   ·cases h
 | convert src dst x =>
  rw [hop] at h
  simp only [ev] at h
  split at h
  ·rename_i hT1 hT2 h1
   cases h
   have e1 := zN1 hs hS h1 hv
   simp only [VRep, Rep] at e1
   obtain ⟨d1, hd1, _⟩ := (hP.get hT1).under_run w
   obtain ⟨d2, hd2, _, _, _, h5, _⟩ := (hP.get hT2).under_run w
   cases d2 <;> simp [ikD] at h5
   subst h5
   refine ⟨_, ?_, by simp only [VRep, Rep]; rfl⟩
   simp only [execOp, hop, e1, convert, Sem.run_bind, hd1, hd2, Result.andThen_ok, Conv.intToInt]; rfl
  ·rename_i hT1 hT2 h1
   cases h
   have e1 := zN1 hs hS h1 hv
   simp only [VRep, Rep] at e1
   obtain ⟨d1, hd1, _⟩ := (hP.get hT1).under_run w
   obtain ⟨d2, hd2, _, _, _, _, _, h5⟩ := (hP.get hT2).under_run w
   cases d2 <;> simp [sortD] at h5
   refine ⟨_, ?_, by simp only [VRep, Rep]; rfl⟩
   simp only [execOp, hop, e1, convert, Sem.run_bind, hd1, hd2, Result.andThen_ok]; rfl
  ·cases h
 | fieldAddr T x f =>
  rw [hop] at h
  simp only [ev] at h
  split at h
  ·rename_i offs _ _ _ y l hT h1
   split at h
   ·rename_i fo ft hf
    split at h
    all_goals (try (cases h; done))
    all_goals
     rename_i hne
     cases h
     have e1 := zN1 hs hS h1 hv
     simp only [VRep] at e1 ⊢
    ·obtain ⟨hk, b, e2, e3⟩ := e1
     refine ⟨_, ?_, hk, b, e2, rfl⟩
     simp only [execOp, hop, e3, Sem.run_bind, run_fieldAt (hP.get hT) w _ _ f fo ft hf (beq_ne hne), Result.andThen_ok, Sem.run_pure]
    ·obtain ⟨b, o', us, e2, e3⟩ := e1
     refine ⟨_, ?_, b, o', us, rfl, e3⟩
     simp only [execOp, hop, e2, Sem.run_bind, run_fieldAt (hP.get hT) w _ _ f fo ft hf (beq_ne hne), Result.andThen_ok, Sem.run_pure, Nat.add_assoc]
    ·obtain ⟨hk, b, m, c, e2, e3⟩ := e1
     refine ⟨_, ?_, hk, b, m, c, e2, rfl⟩
     simp only [execOp, hop, e3, Sem.run_bind, run_fieldAt (hP.get hT) w _ _ f fo ft hf (beq_ne hne), Result.andThen_ok, Sem.run_pure, Nat.add_assoc]
   ·cases h
  ·cases h
 | field T x f =>
  rw [hop] at h
  simp only [ev] at h
  split at h
  ·rename_i offs _ _ _ cs l hT h1
   split at h
   ·rename_i fo ft hf
    split at h
    ·rename_i size _ agg _ _ _ _ hF hne
     split at h
     ·rename_i y h2
      cases h
      have e1 := zN1 hs hS h1 hv
      simp only [VRep, Rep] at e1
      obtain ⟨us, e1, hr⟩ := e1
      obtain ⟨d, hd, _, _, h3, _⟩ := (hP.get hT).under_run w
      simp only at h3
      rw [nth_eq, ← h3] at hf
      cases d with
      | struct fs =>
       simp only [offsD, List.getElem?_map, Array.getElem?_toList] at hf
       cases hfd : fs[f]? with
       | none => rw [hfd] at hf; cases hf
       | some fd =>
        rw [hfd] at hf
        simp only [Option.map_some, Option.some.injEq] at hf
        split at hf
        ·cases hf; exact absurd rfl (beq_ne hne)
        ·cases hf
         simp only [execOp, hop, e1, Instr.field, Sem.run_bind, hd, Result.andThen_ok, hfd, asAgg, Sem.run_pure, part, (hP.get hF).isAgg_run]
         unfold cellsD at h2
         split at h2
         ·split at h2
          ·rename_i lq hlq
           cases h2
           rw [dropL_eq] at hlq
           obtain ⟨rfl, hle⟩ := takeL_eq hlq
           refine ⟨.agg ⟨(us.drop fd.offset).take size⟩, ?_, ?_⟩
           ·simp only [if_true, Sem.run_bind, (hP.get hF).size_run, Result.andThen_ok, Sem.run_pure]
            congr 3
            apply Array.ext'
            simp [List.take_drop, Nat.add_comm]
           ·simp only [VRep, Rep]; exact ⟨_, rfl, (hr.drop fd.offset).take size⟩
          ·cases h2
         ·rw [nth_eq] at h2
          obtain ⟨v, h4, h5⟩ := hr.get h2
          have : (Array.mk us)[fd.offset]? = some v := by simpa using h4
          exact ⟨v, by simp [this], by simpa only [VRep] using h5⟩
      | _ => simp [offsD] at hf
     ·cases h
    ·cases h
   ·cases h
  ·cases h
 | index T x i =>
  rw [hop] at h
  simp only [ev] at h
  split at h
  ·rename_i s l k m l2 hT h1 h2
   cases h
   obtain ⟨v1, v2⟩ := zR1 hv
   obtain ⟨v3, v4⟩ := zR1 v2
   have hi : 0 ≤ m ∧ m < s.length := v4
   have e1 := zN1 hs hS h1 v1
   have e2 := zN1 hs hS h2 v3
   simp only [VRep, Rep] at e1 e2
   obtain ⟨d, hd, _, _, _, _, _, h5⟩ := (hP.get hT).under_run w
   cases d <;> simp [sortD] at h5
   refine ⟨_, ?_, by (simp only [VRep, Rep]; try rfl)⟩
   have hlt : m.toNat < s.length := by omega
   have hg : (ByteArray.mk ⟨s⟩)[m.toNat]? = some s[m.toNat] := by
    rw [getElem?_pos (ByteArray.mk ⟨s⟩) m.toNat hlt]; rfl
   simp only [execOp, hop, e1, e2, Instr.index, asIntOf, Sem.run_bind, Sem.run_pure, hd, Result.andThen_ok, if_pos hi.1, hg]
   simp [List.getD_eq_getElem?_getD, hlt]
  ·cases h
 | extract x ix =>
  rw [hop] at h
  simp only [ev] at h
  split at h
  ·rename_i xs l h1
   split at h
   ·rename_i y h2
    cases h
    have e1 := zN1 hs hS h1 hv
    simp only [VRep] at e1
    obtain ⟨us, e1, hr⟩ := e1
    rw [nth_eq] at h2
    obtain ⟨v, h3, h4⟩ := hr.get h2
    have : (Array.mk us)[ix]? = some v := by simpa using h3
    refine ⟨v, ?_, h4⟩
    simp only [execOp, hop, e1, Instr.extract, this, Sem.run_bind, Sem.run_pure, Result.andThen_ok]
   ·cases h
  ·cases h
 | slice T x lo hi mx =>
  rw [hop] at h
  cases mx with
  | some y => simp only [ev] at h; cases h
  | none =>
  simp only [ev] at h
  
  have hlo : ∀ {k : IntKind} {i : Int} {m : List Prop}, oLo B.G S lo = some (SV.v (.int k i), m) → vcs m → 0 ≤ i →
    (lo.map a.eval = none ∧ i.toNat = 0) ∨ ∃ k z, lo.map a.eval = some (.int k z) ∧ 0 ≤ z ∧ z.toNat = i.toNat := fun {k i m} hl hm hi => by
   cases lo with
   | none => cases hl; exact .inl ⟨rfl, rfl⟩
   | some y =>
    have e := zN1 hs hS hl hm
    simp only [VRep, Rep] at e
    exact .inr ⟨k, i, by simp [e], hi, rfl⟩
  split at h
  ·rename_i s l k i m hT h1 h2
   split at h
   ·cases h
    obtain ⟨v1, v2⟩ := zR1 hv
    obtain ⟨v3, v4⟩ := zR1 v2
    have hi : 0 ≤ i ∧ i ≤ s.length := v4
    have e1 := zN1 hs hS h1 v1
    simp only [VRep, Rep] at e1
    have := run_slice_string (P := P) (hP.get hT) rfl (l := s) (i := i.toNat) (j := s.length) (hlo h2 v3 hi.1) (.inl ⟨rfl, rfl⟩) (by omega) (Nat.le_refl _) w
    refine ⟨.string ⟨⟨s.drop i.toNat⟩⟩, ?_, by simp only [VRep, Rep]⟩
    simp only [execOp, hop, e1, Sem.run_bind, Option.map_none] at this ⊢
    rw [this]
    simp
   ·rename_i hh
    split at h
    ·rename_i k2 j o2 h3
     cases h
     obtain ⟨v1, v2⟩ := zR1 hv
     obtain ⟨v3, v4⟩ := zR1 v2
     obtain ⟨v5, v6⟩ := zR1 v4
     have hi : 0 ≤ i ∧ i ≤ j ∧ j ≤ s.length := v6
     have e1 := zN1 hs hS h1 v1
     have e3 := zN1 hs hS h3 v5
     simp only [VRep, Rep] at e1 e3
     have := run_slice_string (P := P) (hP.get hT) rfl (l := s) (i := i.toNat) (j := j.toNat) (hlo h2 v3 hi.1) (.inr ⟨k2, j, rfl, by omega, rfl⟩) (by omega) (by omega) w
     refine ⟨_, ?_, by (simp only [VRep, Rep]; try rfl)⟩
     simp only [execOp, hop, e1, e3, Sem.run_bind, Option.map_none, Option.map_some] at this ⊢
     rw [this]
     rfl
    ·cases h
  ·rename_i z _ d l k' i m hne hT h1 h2
   split at h
   ·rename_i es hes
    split at h
    ·cases h
     obtain ⟨v1, v2⟩ := zR1 hv
     obtain ⟨v3, v4⟩ := zR1 v2
     have hi : 0 ≤ i ∧ i ≤ es.length := v4
     have e1 := zN1 hs hS h1 v1
     simp only [VRep] at e1
     have e1 := asSl_sound hes e1
     obtain ⟨u, hu, hrep⟩ := run_slice_slice (P := P) (hP.get hT) rfl (i := i.toNat) (j := es.length) (hlo h2 v3 hi.1) (.inl ⟨rfl, rfl⟩) (by omega) (Nat.le_refl _) w e1
     rw [List.take_length] at hrep
     refine ⟨u, ?_, by simpa only [VRep] using hrep⟩
     simp only [execOp, hop, Sem.run_bind, Option.map_none] at hu ⊢
     rw [hu]
     rfl
    ·rename_i hh
     split at h
     ·rename_i k2 j o2 h3
      cases h
      obtain ⟨v1, v2⟩ := zR1 hv
      obtain ⟨v3, v4⟩ := zR1 v2
      obtain ⟨v5, v6⟩ := zR1 v4
      have hi : 0 ≤ i ∧ i ≤ j ∧ j ≤ es.length := v6
      have e1 := zN1 hs hS h1 v1
      have e3 := zN1 hs hS h3 v5
      simp only [VRep] at e1 e3
      simp only [Rep] at e3
      have e1 := asSl_sound hes e1
      obtain ⟨u, hu, hrep⟩ := run_slice_slice (P := P) (hP.get hT) rfl (i := i.toNat) (j := j.toNat) (hlo h2 v3 hi.1) (.inr ⟨k2, j, rfl, by omega, rfl⟩) (by omega) (by omega) w e1
      refine ⟨u, ?_, by simpa only [VRep] using hrep⟩
      simp only [execOp, hop, e3, Sem.run_bind, Option.map_none, Option.map_some] at hu ⊢
      rw [hu]
      rfl
     ·cases h
   ·cases h
  ·cases h
 | makeFunc f first caps =>
  obtain ⟨first⟩ := first
  obtain ⟨caps⟩ := caps
  rw [hop] at h
  cases f <;> cases first <;> simp only [ev] at h <;> try (cases h; done)
  ·rename_i f
   split at h
   ·rename_i ys l h1
    cases h
    have e1 := o1s_sound hs hS h1 hv
    refine ⟨.func (.func f) #[] (caps.map a.eval).toArray, ?_, by simp only [VRep]; exact ⟨_, rfl, e1⟩⟩
    simp only [execOp, hop, Instr.makeFunc, Sem.run_bind, Sem.run_pure, Result.andThen_ok]
    simp
   ·cases h
 | makeInterface T x =>
  rw [hop] at h
  simp only [ev] at h
  split at h
  ·cases h
  ·rename_i ti d l hne hT h1
   cases h
   have e1 := zN1 hs hS h1 hv
   simp only [VRep] at e1
   obtain ⟨ds, hd, _, _, _, _, _, h5⟩ := (hP.get hT).under_run w
   have hni : ∀ ms, ds ≠ .interface ms := fun ms e => by
    subst e
    simp only [sortD] at h5
    obtain ⟨q1, q2, q3, q4, q5, q6, q7⟩ := ti
    simp only at h5
    subst h5
    exact hne _ _ _ _ _ _ rfl
   refine ⟨.iface T (a.eval x), ?_, by simp only [VRep, Rep]; exact ⟨_, rfl, e1⟩⟩
   simp only [execOp, hop, Instr.makeInterface, Sem.run_bind, hd, Result.andThen_ok]
   cases ds <;> first | rfl | exact absurd rfl (hni _)
  ·cases h
 | call c =>
  rw [hop] at h
  unfold ev at h
  split at h <;> try (cases h; done)
  all_goals rename_i hop'
  all_goals first | (cases hop'; done) | skip
  all_goals cases hop'
  ·rename_i x T
   split at h
   ·rename_i el _ k l hT h1
    split at h
    ·rename_i T' sz' es hk
     cases h
     have e1 := zN1 hs hS h1 hv
     simp only [VRep] at e1
     obtain ⟨el, hd, _⟩ := el_size (hP.get hT) rfl w
     refine ⟨.int .i64 es.length, ?_, by simp only [VRep, Rep]⟩
     rw [execOp_bi hop, BigFrame.builtin_len]
     have hv : ∃ ad c, ρ k = .slice ad es.length c := by
      obtain ⟨rows, h5, _, h7, _⟩ := hs.obj k _ (hO k _ hk)
      rw [← h5.length]
      rcases h7.2 with ⟨h6, h7⟩ | ⟨g, cap, cur, fz, h6, _⟩
      ·exact ⟨none, 0, by rw [h6, h7]⟩
      ·exact ⟨_, _, h6⟩
     obtain ⟨ad, c', hv⟩ := hv
     simp only [Builtin.len_, e1.2, hv, List.map_toArray, List.map_cons, List.map_nil, List.getElem?_toArray, List.getElem?_cons_zero, Sem.run_bind, hd, Result.andThen_ok]; rfl
    ·cases h
   ·rename_i s l hT h1
    cases h
    have e1 := zN1 hs hS h1 hv
    simp only [VRep, Rep] at e1
    obtain ⟨d, hd, _, _, _, _, _, h5⟩ := (hP.get hT).under_run w
    refine ⟨.int .i64 s.length, ?_, by simp only [VRep, Rep]⟩
    rw [execOp_bi hop, BigFrame.builtin_len]
    cases d <;> simp [sortD] at h5
    simp only [Builtin.len_, e1, List.map_toArray, List.map_cons, List.map_nil, List.getElem?_toArray, List.getElem?_cons_zero, Sem.run_bind, hd, Result.andThen_ok]; rfl
   ·rename_i z _ d l hT h1
    split at h
    ·rename_i es hes
     cases h
     have e1 := zN1 hs hS h1 hv
     simp only [VRep] at e1
     have e1 := asSl_sound hes e1
     simp only [Rep] at e1
     obtain ⟨base, cap, e1, _⟩ := e1
     obtain ⟨el, hd, _⟩ := el_size (hP.get hT) rfl w
     refine ⟨.int .i64 es.length, ?_, by simp only [VRep, Rep]⟩
     rw [execOp_bi hop, BigFrame.builtin_len]
     simp only [Builtin.len_, e1, List.map_toArray, List.map_cons, List.map_nil, List.getElem?_toArray, List.getElem?_cons_zero, Sem.run_bind, hd, Result.andThen_ok]; rfl
    ·cases h
   ·cases h
  ·rename_i x y ats
   split at h
   ·rename_i k p l k' q m h1 h2
    cases h
    obtain ⟨v1, v2⟩ := zR1 hv
    have e1 := zN1 hs hS h1 v1
    have e2 := zN1 hs hS h2 v2
    simp only [VRep, Rep] at e1 e2
    refine ⟨_, ?_, by (simp only [VRep, Rep]; try rfl)⟩
    rw [execOp_bi hop, BigFrame.builtin_max]
    simp only [Builtin.max_, e1, e2, List.map_toArray, List.map_cons, List.map_nil, List.foldlM_cons, List.foldlM_nil, Builtin.max2, Sem.run_bind, Sem.run_pure, Result.andThen_ok]
   ·cases h
  ·rename_i x y ats
   split at h
   ·rename_i k p l k' q m h1 h2
    cases h
    obtain ⟨v1, v2⟩ := zR1 hv
    have e1 := zN1 hs hS h1 v1
    have e2 := zN1 hs hS h2 v2
    simp only [VRep, Rep] at e1 e2
    refine ⟨_, ?_, by (simp only [VRep, Rep]; try rfl)⟩
    rw [execOp_bi hop, BigFrame.builtin_min]
    simp only [Builtin.min_, e1, e2, List.map_toArray, List.map_cons, List.map_nil, List.foldlM_cons, List.foldlM_nil, Builtin.min2, Sem.run_bind, Sem.run_pure, Result.andThen_ok]
   ·cases h
 | build T parts =>
  obtain ⟨parts⟩ := parts
  rw [hop] at h
  simp only [ev] at h
  split at h
  ·rename_i sz zero o0 offs _ _ _ hT
   split at h
   ·rename_i z
    split at h
    ·rename_i cs l h1 h2
     rw [forceL_eq] at h
     cases h
     obtain ⟨d, hd, _, hag, hof, _⟩ := (hP.get hT).under_run w
     simp only at hag hof
     cases d with
     | struct fs =>
      obtain ⟨fs⟩ := fs
      rw [← hof] at h1 h2
      have hpl := allTy_places (w := w) hP h1
      obtain ⟨us, hfill, hr⟩ := fill_sound hP hs hS h2 hv (ofVs_rep z)
      refine ⟨.agg ⟨us⟩, ?_, by simp only [VRep, Rep]; exact ⟨_, rfl, hr⟩⟩
      simp only [execOp, hop, Instr.build, Sem.run_bind, (hP.get hT).zero_run, hd, Result.andThen_ok, List.mapM_toArray, Sem.run_map, hpl, List.map_toArray]
      have hz : (Value.agg ⟨z⟩).cells = z.toArray := rfl
      rw [hz, hfill]; rfl
     | array m e => simp [offsD] at hof
     | _ => simp [isAggD] at hag
    ·cases h
   ·cases h
  ·cases h
 | _ => (rw [hop] at h; simp only [ev] at h; cases h)
end Go.V
namespace Go.V
open Go.RowKit
def inB (n d : Nat) : Bool := Nat.blt d n
def gcond (ops : List Oper) (S : List (Nat × SV)) (j : Nat) (want : Bool) : Option Bool :=
  match nth ops j with
  | some ⟨some d, _, _, _, _, _⟩ =>
    match get S d, want with
    | some (.v (.bool b)), true => some b
    | some (.v (.bool b)), false => some (!b)
    | some (.g c (.v (.bool b))), true => some (c && b)
    | some (.g c (.v (.bool b))), false => some (c && !b)
    | _, _ => none
  | _ => none
def gvc (c : Bool) : List Prop → List Prop
 | [] => []
 | p :: l => [c = true → vcs (p :: l)]
def optC {α : Type} : Option α → List α → List α
 | some x, l => x :: l
 | none, l => l
inductive R2 where
  | no
  | yes (s : Option (Nat × SV)) (o : Option (Nat × Ob)) (wn : List Nat) (l : List Prop)
def rowsOf (sz : Nat) (G : List (Nat × List D)) (S : List (Nat × SV)) : Nat → List (Nat × Operand) → Option (List (List D) × List Prop)
  | _, [] => some ([], [])
  | i, (j, x) :: r =>
    match Nat.beq i j, o1 G S x with
    | true, some (.v d, l) =>
      match cellsOfD d with
      | some cs =>
        match Nat.beq cs.length sz, rowsOf sz G S (i + 1) r with
        | true, some (rs, m) => forceL cs fun cs => some (cs :: rs, l ++ m)
        | _, _ => none
      | none => none
    | _, _ => none
def d1 (tb : List (Nat × TI)) (G : List (Nat × List D)) (n : Nat) (ops : List Oper) (o : Oper) (S : List (Nat × SV)) (O : List (Nat × Ob)) : R2 :=
  match o with
  | ⟨some d, op, _, _, _, guard⟩ =>
    match inB n d, ev tb G S O op, guard with
    | true, some (x, l), none => .yes (some (d, x)) none [] l
    | true, some (x, l), some (j, want) =>
      match gcond ops S j want with
      | some c => .yes (some (d, .g c x)) none [] (gvc c l)
      | none => .no
    | _, _, _ => .no
  | _ => .no
def dW (tb : List (Nat × TI)) (G : List (Nat × List D)) (n : Nat) (o : Oper) (S : List (Nat × SV)) (O : List (Nat × Ob)) : R2 :=
  match o with
  | ⟨some d, .alloc T, _, _, _, none⟩ =>
    match inB n d, get tb T, get O d with
    | true, some ⟨_, zero, _, _, _, _, _⟩, none =>
      match cellsOfS (.v (ofV zero)) with
      | some cs => forceL cs fun cs => .yes (some (d, .p d 0)) (some (d, .blk T cs)) [d] []
      | none => .no
    | _, _, _ => .no
  | ⟨some d, .box T x, _, _, _, none⟩ =>
    match inB n d, o1 G S x, get O d with
    | true, some (y, l), none =>
      match cellsOfS y with
      | some cs => forceL cs fun cs => .yes (some (d, .p d 0)) (some (d, .blk T cs)) [d] l
      | none => .no
    | _, _, _ => .no
  | ⟨none, .store T ad x, _, _, _, none⟩ =>
    match get tb T, o1 G S ad, o1 G S x with
    | some ⟨size, _, _, _, _, _, _⟩, some (.p k off, l), some (y, m) =>
      match cellsOfS y, get O k with
      | some vc, some (.blk ty cs) =>
        match Nat.beq vc.length size, Nat.ble (off + vc.length) cs.length, cellSs vc with
        | true, true, true => forceL (splice cs off vc) fun cs' => .yes none (some (k, .blk ty cs')) [k] (l ++ m)
        | _, _, _ => .no
      | _, _ => .no
    | _, _, _ => .no
  | ⟨some d, .buildSlice T len ⟨parts⟩, _, _, _, none⟩ =>
    match inB n d, get tb T with
    | true, some ⟨_, _, _, _, _, some sz, so⟩ =>
      match get tb (so - 4), rowsOf sz G S 0 parts, Nat.beq len parts.length, Nat.ble (len * sz) 16777216 with
      | some _, some (rows, l), true, true => forceL rows fun rows' => .yes (some (d, .v (.sl sz rows'))) none [] l
      | _, _, _, _ => .no
    | _, _ => .no
  | _ => .no
variable {P : Program} {n : Nat} {B : Base} {st : St} {ρ : Nat → Value} {a : Act} {w : World} {L : Nat → Prop} {tb : List (Nat × TI)} {S : List (Nat × SV)} {O : List (Nat × Ob)}
theorem ObOk.keep {N N' : Nat → Prop} {ρ ρ' : Nat → Value} {w w' : World} {X X' L L' : Nat → Prop} {v : Value} {o : Ob} (h : ObOk N ρ w X L v o) (hN : ∀ k, N k → N' k ∧ ρ' k = ρ k) (k : Keep w X w' X')
  (hb : o.live = true → ∀ b, ob v = some b → w'.heap[b]? = w.heap[b]? ∧ (L b → L' b)) : ObOk N' ρ' w' X' L' v o := by
 cases o with
 | blk ty cs =>
  obtain ⟨b, vs, h1, h2, h3, h4⟩ := h
  obtain ⟨h5, h6⟩ := hb rfl b (by rw [h1]; rfl)
  exact ⟨b, vs, h1, by rw [h5]; exact h2, h6 h3, VReps.keep hN k cs vs h4⟩
 | row ty sz es =>
  obtain ⟨rows, h1, h2, h3, h4⟩ := h
  refine ⟨rows, RepRows.keep k es rows h1, h2, ⟨h3.1, ?_⟩, fun b hb' => (hb rfl b hb').2 (h4 b hb')⟩
  rcases h3.2 with h5 | ⟨g, cap, cur, fz, e, h6, h7⟩
  ·exact .inl h5
  ·exact .inr ⟨g, cap, cur, fz, e, by rw [(hb rfl g (by rw [e]; rfl)).1]; exact h6, h7⟩
 | it s pos =>
  obtain ⟨b, h1, h2, h3⟩ := h
  obtain ⟨h5, h6⟩ := hb rfl b (by rw [h1]; rfl)
  exact ⟨b, h1, by rw [h5]; exact h2, h6 h3⟩
 | set ks =>
  obtain ⟨b, es, clock, h1, h2, h3, h4⟩ := h
  obtain ⟨h5, h6⟩ := hb rfl b (by rw [h1]; rfl)
  exact ⟨b, es, clock, h1, by rw [h5]; exact h2, h6 h3, h4⟩
 | sit l cu =>
  obtain ⟨b, bm, es, clock, since, c0, seen, ks, h1, h2, h3, h4, h5, h6, h7⟩ := h
  obtain ⟨h8, h9⟩ := hb rfl b (by rw [h1]; rfl)
  exact ⟨b, bm, es, clock, since, c0, seen, ks, h1, by rw [h8]; exact h2, h9 h3, Nat.lt_of_lt_of_le h4 k.size, k.out _ h4 h5, (k.block bm h4 h5).trans h6, h7⟩
 | dead => exact h
theorem Sat.own (hs : Sat B n st ρ a w L) {k : Nat} {o : Ob} (hk : get st.O k = some o) (hl : o.live = true) {b : Nat} (hb : ob (ρ k) = some b) : L b := by
  have h := hs.obj k o hk
  cases o with
  | blk ty cs => obtain ⟨b', vs, h1, h2, h3, h4⟩ := h; rw [h1] at hb; cases hb; exact h3
  | row ty sz es => obtain ⟨rows, h1, h2, h3, h4⟩ := h; exact h4 b hb
  | it s pos => obtain ⟨b', h1, h2, h3⟩ := h; rw [h1] at hb; cases hb; exact h3
  | set ks => obtain ⟨b', es, clock, h1, h2, h3, _⟩ := h; rw [h1] at hb; cases hb; exact h3
  | sit l cu => obtain ⟨b', bm, es, clock, since, c0, seen, ks, h1, h2, h3, _⟩ := h; rw [h1] at hb; cases hb; exact h3
  | dead => cases hl
theorem Sat.go (hs : Sat B n st ρ a w L) {st' : St} {ρ' : Nat → Value} {a' : Act} {w' : World} {L' : Nat → Prop} (hstep : Step L w L' w') (hlow : ∀ b, L' b → b < w'.heap.size) (hN : ∀ k, nmO st.O k → nmO st'.O k ∧ ρ' k = ρ k) (hsz : a'.tmps.size = n) (hdf : a'.defers = [])
  (slot : ∀ t x, get st'.S t = some x → ∃ v, a'.tmps[t]? = some v ∧ VRep (nmO st'.O) ρ' w' (un B.F L') x v)
  (obj : ∀ k o, get st'.O k = some o → ObOk (nmO st'.O) ρ' w' (un B.F L') L' (ρ' k) o)
  (inj : ∀ k o k' o', get st'.O k = some o → get st'.O k' = some o' → k ≠ k' → o.live = true → o'.live = true → ∀ b, ob (ρ' k) = some b → ob (ρ' k') ≠ some b) : Sat B n st' ρ' a' w' L' :=
 ⟨hsz, hdf, slot, obj, inj, fun b hb => by
  rcases hb with hb | hb
  ·exact Nat.lt_of_lt_of_le (hs.low b (.inl hb)) hstep.size
  ·exact hlow b hb, hs.step.trans hstep, hs.ext.keep (keep_of_step hstep), hs.glob.keep (keep_of_step hstep), fun k v hk => by
   obtain ⟨h1, h2⟩ := hs.pin k v hk
   exact ⟨by rw [(hN k h2).2]; exact h1, (hN k h2).1⟩, fun b hF hL => by
   rcases hstep.new b hL with h1 | h1
   ·exact hs.dis b hF h1
   ·have := hs.low b (.inl hF); omega⟩
theorem sat_put (hs : Sat B n st ρ a w L) {d : Nat} {x : SV} {v : Value} (hd : inB n d = true) (hx : VRep (nmO st.O) ρ w (un B.F L) x v) : Sat B n ⟨(d, x) :: st.S, st.O⟩ ρ (a.put (some d) v) w L := by
  have hd' : d < n := by simpa [inB] using hd
  refine hs.go (Step.refl _ _) (fun b hb => hs.low b (.inr hb)) (fun _ h => ⟨h, rfl⟩) (by simp [Act.put, hs.size]) hs.defers (fun t y hy => ?_) hs.obj hs.inj
  simp only [Act.put]
  by_cases hdt : d = t
  · subst hdt
    rw [zJ1] at hy
    cases hy
    exact ⟨v, by simp [hs.size, hd'], hx⟩
  · rw [zI1 _ _ hdt] at hy
    obtain ⟨v', h1, h2⟩ := hs.slot t y hy
    exact ⟨v', by rw [Array.getElem?_setIfInBounds_ne hdt]; exact h1, h2⟩
theorem step_of_below {L : Nat → Prop} {w w' : World} (h : Below w.heap.size w w') : Step L w L w' :=
 ⟨h.os, h.tape, h.output, h.size, fun b hb _ => h.block b hb, fun _ h => .inl h⟩
theorem Sat.below (hs : Sat B n st ρ a w L) {w' : World} (h : Below w.heap.size w w') : Sat B n st ρ a w' L := by
 have hstep : Step L w L w' := step_of_below h
 have hk : Keep w (un B.F L) w' (un B.F L) := keep_of_step hstep
 refine hs.go hstep (fun b hb => Nat.lt_of_lt_of_le (hs.low b (.inr hb)) h.size) (fun _ h => ⟨h, rfl⟩) hs.size hs.defers (fun t x hx => ?_) (fun k o hk' => ?_) hs.inj
 ·obtain ⟨v, h1, h2⟩ := hs.slot t x hx
  exact ⟨v, h1, VRep.keep (fun _ h => ⟨h, rfl⟩) hk x v h2⟩
 ·exact (hs.obj k o hk').keep (fun _ h => ⟨h, rfl⟩) hk (fun hl b hb => ⟨h.block b (hs.low b (.inr (hs.own hk' hl hb))), id⟩)
def upd (ρ : Nat → Value) (d : Nat) (v : Value) (k : Nat) : Value := if k = d then v else ρ k
theorem nmO_cons {O : List (Nat × Ob)} {d k : Nat} {o : Ob} (h : nmO O k) : nmO ((d, o) :: O) k := by
 unfold nmO at *
 by_cases e : d = k
 ·subst e; rw [zJ1]; rfl
 ·rw [zI1 _ _ e]; exact h
theorem nmO_self {O : List (Nat × Ob)} {d : Nat} {o : Ob} : nmO ((d, o) :: O) d := by unfold nmO; rw [zJ1]; rfl
theorem nmO_ne {O : List (Nat × Ob)} {d k : Nat} (h : nmO O k) (hd : get O d = none) : k ≠ d := fun e => by subst e; simp [nmO, hd] at h
theorem upd_ne {ρ : Nat → Value} {d k : Nat} {v : Value} (h : k ≠ d) : upd ρ d v k = ρ k := if_neg h
theorem upd_self {ρ : Nat → Value} {d : Nat} {v : Value} : upd ρ d v d = v := if_pos rfl
theorem sat_new (hs : Sat B n st ρ a w L) {d : Nat} {v : Value} {o : Ob} {w' : World} (hd : inB n d = true) (hfr : get st.O d = none) (hb : Below w.heap.size w w') (hnew : ∀ b, ob v = some b → w.heap.size ≤ b ∧ b < w'.heap.size)
    {x : SV} (hx : VRep (nmO ((d, o) :: st.O)) (upd ρ d v) w' (un B.F (fun b => L b ∨ ob v = some b)) x v)
    (ho : ∀ X, (∀ b, X b → un B.F L b ∨ w.heap.size ≤ b) → Keep w (un B.F L) w' X → ObOk (nmO ((d, o) :: st.O)) (upd ρ d v) w' X (fun b => L b ∨ ob v = some b) v o) :
    Sat B n ⟨(d, x) :: st.S, (d, o) :: st.O⟩ (upd ρ d v) (a.put (some d) v) w' (fun b => L b ∨ ob v = some b) := by
  have hd' : d < n := by simpa [inB] using hd
  have hstep : Step L w (fun b => L b ∨ ob v = some b) w' := ⟨hb.os, hb.tape, hb.output, hb.size, fun b h1 _ => hb.block b h1, fun b h => h.imp id (fun h => (hnew b h).1)⟩
  have hk : Keep w (un B.F L) w' (un B.F (fun b => L b ∨ ob v = some b)) := keep_of_step hstep
  have hN : ∀ k, nmO st.O k → nmO ((d, o) :: st.O) k ∧ upd ρ d v k = ρ k := fun k h => ⟨nmO_cons h, upd_ne (nmO_ne h hfr)⟩
  refine hs.go hstep (fun b hb' => ?_) hN (by simp [Act.put, hs.size]) hs.defers (fun t y hy => ?_) (fun k o' hk' => ?_) (fun k o1 k' o2 h1 h2 hne l1 l2 b hb1 hb2 => ?_)
  · rcases hb' with h1 | h1
    · exact Nat.lt_of_lt_of_le (hs.low b (.inr h1)) hb.size
    · exact (hnew b h1).2
  · simp only [Act.put]
    by_cases hdt : d = t
    · subst hdt
      rw [zJ1] at hy
      cases hy
      exact ⟨v, by simp [hs.size, hd'], hx⟩
    · rw [zI1 _ _ hdt] at hy
      obtain ⟨v', h1, h2⟩ := hs.slot t y hy
      exact ⟨v', by rw [Array.getElem?_setIfInBounds_ne hdt]; exact h1, VRep.keep hN hk y v' h2⟩
  · by_cases e : d = k
    · subst e
      rw [zJ1] at hk'
      cases hk'
      rw [upd_self]
      exact ho _ (fun b h => by
        rcases h with h | h | h
        · exact .inl (.inl h)
        · exact .inl (.inr h)
        · exact .inr (hnew b h).1) hk
    · rw [zI1 _ _ e] at hk'
      rw [upd_ne (fun e' => e e'.symm)]
      exact (hs.obj k o' hk').keep hN hk (fun hl b hb' => ⟨hb.block b (hs.low b (.inr (hs.own hk' hl hb'))), .inl⟩)
  · have key : ∀ {k o}, k ≠ d → get ((d, o) :: st.O) k = get st.O k := fun {k o} h => zI1 _ _ (fun e => h e.symm)
    by_cases e1 : k = d <;> by_cases e2 : k' = d
    · exact hne (e1.trans e2.symm)
    · subst e1
      rw [upd_self] at hb1
      rw [upd_ne e2] at hb2
      rw [key e2] at h2
      have := hs.low b (.inr (hs.own h2 l2 hb2))
      have := (hnew b hb1).1
      omega
    · subst e2
      rw [upd_ne e1] at hb1
      rw [upd_self] at hb2
      rw [key e1] at h1
      have := hs.low b (.inr (hs.own h1 l1 hb1))
      have := (hnew b hb2).1
      omega
    · rw [upd_ne e1] at hb1
      rw [upd_ne e2] at hb2
      rw [key e1] at h1
      rw [key e2] at h2
      exact hs.inj k o1 k' o2 h1 h2 hne l1 l2 b hb1 hb2
structure But (w w' : World) (b : Nat) : Prop where
  os : w'.os = w.os
  tape : w'.tape = w.tape
  output : w'.output = w.output
  size : w.heap.size ≤ w'.heap.size
  block : ∀ k, k < w.heap.size → k ≠ b → w'.heap[k]? = w.heap[k]?
theorem sat_but (hs : Sat B n st ρ a w L) {k b : Nat} {o o' : Ob} (hk : get st.O k = some o) (hl : o.live = true) (hob : ob (ρ k) = some b) {w' : World} (hb : But w w' b)
    (ho : ObOk (nmO ((k, o') :: st.O)) ρ w' (un B.F L) L (ρ k) o') : Sat B n ⟨st.S, (k, o') :: st.O⟩ ρ a w' L := by
  have hL := hs.own hk hl hob
  have hstep : Step L w L w' := ⟨hb.os, hb.tape, hb.output, hb.size, fun b' h1 h2 => hb.block b' h1 (fun e => h2 (e ▸ hL)), fun _ h => .inl h⟩
  have hkp : Keep w (un B.F L) w' (un B.F L) := keep_of_step hstep
  have hN : ∀ j, nmO st.O j → nmO ((k, o') :: st.O) j ∧ ρ j = ρ j := fun j h => ⟨nmO_cons h, rfl⟩
  refine hs.go hstep (fun b' hb' => Nat.lt_of_lt_of_le (hs.low b' (.inr hb')) hb.size) hN hs.size hs.defers (fun t y hy => ?_) (fun j o2 hj => ?_) (fun j o1 j' o2 h1 h2 hne l1 l2 c hb1 hb2 => ?_)
  · obtain ⟨v, h1, h2⟩ := hs.slot t y hy
    exact ⟨v, h1, VRep.keep hN hkp y v h2⟩
  · by_cases e : k = j
    · subst e; rw [zJ1] at hj; cases hj; exact ho
    · rw [zI1 _ _ e] at hj
      exact (hs.obj j o2 hj).keep hN hkp (fun hl2 c hc => ⟨hb.block c (hs.low c (.inr (hs.own hj hl2 hc))) (fun e' => hs.inj k o j o2 hk hj e hl hl2 b hob (e' ▸ hc)), id⟩)
  · have key : ∀ {j o1}, get ((k, o') :: st.O) j = some o1 → o1.live = true → ∃ o3, get st.O j = some o3 ∧ o3.live = true := fun {j o1} h l => by
      by_cases e : k = j
      · subst e; exact ⟨o, hk, hl⟩
      · rw [zI1 _ _ e] at h; exact ⟨o1, h, l⟩
    obtain ⟨o3, g1, g2⟩ := key h1 l1
    obtain ⟨o4, g3, g4⟩ := key h2 l2
    exact hs.inj j o3 j' o4 g1 g3 hne g2 g4 c hb1 hb2
theorem gcond_sound (hs : Sat B n st ρ a w L) (hS : ∀ t x, get S t = some x → get st.S t = some x) {ops : List Oper} {j : Nat} {want c : Bool} (h : gcond ops S j want = some c) :
  (yielded ops.toArray a.tmps j == some want) = c := by
 unfold gcond at h
 split at h
 ·rename_i d _ _ _ _ _ ho
  rw [nth_eq] at ho
  have hop : ((ops.toArray[j]?).bind (·.dst)) = some d := by simp [ho]
  split at h
  ·rename_i b hb
   obtain ⟨v, h1, h2⟩ := hs.slot d _ (hS d _ hb)
   simp only [VRep, Rep] at h2; subst h2
   simp only [yielded, hop, Option.bind_some, h1]
   cases h; cases c <;> rfl
  ·rename_i b hb
   obtain ⟨v, h1, h2⟩ := hs.slot d _ (hS d _ hb)
   simp only [VRep, Rep] at h2; subst h2
   simp only [yielded, hop, Option.bind_some, h1]
   cases h; cases b <;> rfl
  ·rename_i c' b hb
   obtain ⟨v, h1, h2⟩ := hs.slot d _ (hS d _ hb)
   cases h
   simp only [VRep, Rep] at h2
   simp only [yielded, hop, Option.bind_some, h1]
   cases c' with
   | true => rw [h2.1 rfl]; cases b <;> rfl
   | false => rw [h2.2 rfl]; rfl
  ·rename_i c' b hb
   obtain ⟨v, h1, h2⟩ := hs.slot d _ (hS d _ hb)
   cases h
   simp only [VRep, Rep] at h2
   simp only [yielded, hop, Option.bind_some, h1]
   cases c' with
   | true => rw [h2.1 rfl]; cases b <;> rfl
   | false => rw [h2.2 rfl]; rfl
  ·cases h
 ·cases h
theorem vcs_gvc {c : Bool} {l : List Prop} (h : vcs (gvc c l)) (hc : c = true) : vcs l := by
 cases l with
 | nil => trivial
 | cons p l => exact h hc
end Go.V
namespace Go.V
open Go.RowKit
variable {P : Program} {n : Nat} {B : Base} {st : St} {ρ : Nat → Value} {a : Act} {w : World} {L : Nat → Prop} {tb : List (Nat × TI)} {S : List (Nat × SV)} {O : List (Nat × Ob)}
structure Wrote (w w' : World) (b : Nat) (cs : List Value) (ty : Nat) : Prop where
  os : w'.os = w.os
  tape : w'.tape = w.tape
  output : w'.output = w.output
  size : w'.heap.size = w.heap.size
  here : w'.heap[b]? = some (.cells cs.toArray ty (0, 0))
  other : ∀ k, k ≠ b → w'.heap[k]? = w.heap[k]?
theorem wrote_setCell {b ty : Nat} {cs : List Value} (h : w.heap[b]? = some (.cells cs.toArray ty (0, 0))) (o : Nat) (v : Value) : Wrote w (w.setCell ⟨b, o, none⟩ v) b (cs.set o v) ty := by
 refine ⟨rfl, rfl, rfl, by simp [World.setCell], ?_, fun k hk => ?_⟩
 ·simp only [World.setCell, Array.getElem?_modify, if_true, h, Option.map_some]
  simp
 ·simp only [World.setCell, Array.getElem?_modify]
  rw [if_neg (by omega)]
def allCell : List Value → Bool
 | [] => true
 | v :: r => match isCell v with | true => allCell r | false => false
theorem run_storeCells {b ty : Nat} : ∀ (vs : List Value) (w : World) (o i : Nat) (cs : List Value), w.heap[b]? = some (.cells cs.toArray ty (0, 0)) → o + i + vs.length ≤ cs.length → allCell vs = true →
  ∃ w', (storeCells ⟨b, o, none⟩ vs i).run P w = .ok () w' ∧ Wrote w w' b (splice cs (o + i) vs) ty
 | [], w, o, i, cs, h, _, _ => ⟨w, rfl, ⟨rfl, rfl, rfl, rfl, h, fun _ _ => rfl⟩⟩
 | v :: vs, w, o, i, cs, h, hl, hc => by
  simp only [allCell] at hc
  split at hc
  ·rename_i hc1
   have hcell : w.cell? ⟨b, o + i, none⟩ = cs[o + i]? := by simp [World.cell?, h]
   have hlt : o + i < cs.length := by simp at hl; omega
   have hfr : w.frozen? ⟨b, o + i, none⟩ = false := by simp [World.frozen?, h]
   have hw1 := wrote_setCell h (o + i) v
   obtain ⟨w', hr, hw2⟩ := run_storeCells vs (w.setCell ⟨b, o + i, none⟩ v) o (i + 1) (cs.set (o + i) v) hw1.here (by simp at hl ⊢; omega) hc
   refine ⟨w', ?_, ?_⟩
   ·have hst : (store ⟨b, o + i, none⟩ v).run P w = .ok () (w.setCell ⟨b, o + i, none⟩ v) := by
     have e : w.cell? ⟨b, o + i, none⟩ = some cs[o + i] := by rw [hcell, List.getElem?_eq_getElem hlt]
     cases v <;> simp [isCell] at hc1 <;> simp [store, Sem.run, e, hfr]
    simp only [storeCells, Sem.run_bind, Addr.add_lit, hst, Result.andThen_ok, hr]
   ·refine ⟨hw2.os.trans hw1.os, hw2.tape.trans hw1.tape, hw2.output.trans hw1.output, hw2.size.trans hw1.size, ?_, fun k hk => (hw2.other k hk).trans (hw1.other k hk)⟩
    have := hw2.here
    simpa [splice, Nat.add_assoc] using this
  ·cases hc
theorem Wrote.but {w' : World} {b ty : Nat} {cs : List Value} (h : Wrote w w' b cs ty) : But w w' b := ⟨h.os, h.tape, h.output, by rw [h.size]; exact Nat.le_refl _, fun k _ hk => h.other k hk⟩
theorem allCell_of {N : Nat → Prop} {X : Nat → Prop} (hN : ∀ k, N k → isCell (ρ k) = true) : ∀ {xs : List SV} {us : List Value}, VReps N ρ w X xs us → cellSs xs = true → allCell us = true
 | [], us, h, _ => by simp only [VReps] at h; subst h; rfl
 | x :: xs, us, h, hc => by
  simp only [VReps] at h
  obtain ⟨v, r, rfl, h2, h3⟩ := h
  simp only [cellSs] at hc
  split at hc
  ·rename_i h4
   simp only [allCell, cell_of_vrep h2 h4 hN]
   exact allCell_of hN h3 hc
  ·cases hc
theorem newVar_run (T : Nat) (v : Value) (w : World) : (newVar T v).run P w = .ok ⟨w.heap.size, 0, none⟩ { w with heap := w.heap.push (.cells v.cells T (0, 0)) } := rfl
theorem below_push (w : World) (o : Obj) : Below w.heap.size w { w with heap := w.heap.push o } :=
 ⟨rfl, rfl, rfl, by simp, fun k hk => by simp only [Array.getElem?_push]; rw [if_neg (by omega)]⟩
theorem sat_blk (hs : Sat B n st ρ a w L) {d T : Nat} {cs : List SV} {us : List Value} (hd : inB n d = true) (hfr : get st.O d = none) (hr : VReps (nmO st.O) ρ w (un B.F L) cs us) :
    ∃ ρ' L', Sat B n ⟨(d, .p d 0) :: st.S, (d, .blk T cs) :: st.O⟩ ρ' (a.put (some d) (.pointer (some ⟨w.heap.size, 0, none⟩))) { w with heap := w.heap.push (.cells us.toArray T (0, 0)) } L' := by
  refine ⟨_, _, sat_new hs (d := d) (v := .pointer (some ⟨w.heap.size, 0, none⟩)) hd hfr (below_push w _) (fun b hb => by simp only [ob, Option.some.injEq] at hb; subst hb; simp) ?_ (fun X hX hk => ?_)⟩
  · simp only [VRep]
    exact ⟨nmO_self, _, upd_self, rfl⟩
  · refine ⟨w.heap.size, us, rfl, by simp, .inr rfl, VReps.keep (fun k h => ⟨nmO_cons h, upd_ne (nmO_ne h hfr)⟩) hk cs us hr⟩
theorem nth_flat {sz : Nat} : ∀ {rows : List (List Value)} (i : Nat) (r : List Value) (j : Nat) (x : Value), (∀ r, r ∈ rows → r.length = sz) → rows[i]? = some r → r[j]? = some x → rows.flatten[i * sz + j]? = some x
 | [], i, r, j, x, _, h, _ => by simp at h
 | r0 :: rows, 0, r, j, x, hl, h, hx => by
  simp at h; subst h
  have := (List.getElem?_eq_some_iff.1 hx).1
  simp only [List.flatten_cons, Nat.zero_mul, Nat.zero_add]
  rw [List.getElem?_append_left this]; exact hx
 | r0 :: rows, i + 1, r, j, x, hl, h, hx => by
  simp at h
  have h0 := hl r0 (by simp)
  simp only [List.flatten_cons]
  rw [List.getElem?_append_right (by rw [h0, Nat.succ_mul]; omega)]
  have := nth_flat i r j x (fun r hr => hl r (by simp [hr])) h hx
  rw [h0, show (i + 1) * sz + j - sz = i * sz + j by rw [Nat.succ_mul]; omega]; exact this
theorem flat_length {sz : Nat} : ∀ {rows : List (List Value)}, (∀ r, r ∈ rows → r.length = sz) → rows.flatten.length = rows.length * sz
 | [], _ => by simp
 | r0 :: rows, hl => by
  simp only [List.flatten_cons, List.length_append, hl r0 (by simp), flat_length (rows := rows) (fun r hr => hl r (by simp [hr])), List.length_cons, Nat.succ_mul]; omega
theorem splice_mid : ∀ (vs a b : List Value), vs.length ≤ b.length → splice (a ++ b) a.length vs = a ++ vs ++ b.drop vs.length
 | [], a, b, _ => by simp [splice]
 | v :: vs, a, [], h => by simp at h
 | v :: vs, a, x :: b, h => by
  simp only [splice]
  have e1 : (a ++ x :: b).set a.length v = (a ++ [v]) ++ b := by simp
  have := splice_mid vs (a ++ [v]) b (by simpa using h)
  rw [e1]
  simpa using this
theorem rowsOf_sound (hs : Sat B n st ρ a w L) (hS : ∀ t x, get S t = some x → get st.S t = some x) {sz : Nat} : ∀ {parts : List (Nat × Operand)} {i : Nat} {rows : List (List D)} {l : List Prop}, rowsOf sz B.G S i parts = some (rows, l) → vcs l →
  ∃ us : List (List Value), RepRows w (un B.F L) rows us ∧ (∀ r, r ∈ us → r.length = sz) ∧ rows.length = parts.length ∧
   ∀ {done rest : List Value}, done.length = i * sz → rest.length = parts.length * sz → Instr.fill (fun i => some (i * sz, sz)) (done ++ rest).toArray (parts.map fun p => (p.1, a.eval p.2)) = some (done ++ us.flatten).toArray
 | [], i, rows, l, h, _ => by
  simp only [rowsOf] at h; cases h
  refine ⟨[], by simp [RepRows], by simp, rfl, fun {done rest} hd hr => ?_⟩
  have : rest = [] := List.eq_nil_of_length_eq_zero (by simpa using hr)
  subst this
  rfl
 | (j, x) :: r, i, rows, l, h, hv => by
  simp only [rowsOf] at h
  split at h
  ·rename_i d l1 hij h1
   split at h
   ·rename_i cs hcs
    split at h
    ·rename_i rs m hl h3
     rw [forceL_eq] at h
     cases h
     obtain ⟨v1, v2⟩ := zR1 hv
     have e1 := zN1 hs hS h1 v1
     simp only [VRep] at e1
     have hcell := cellsOfD_sound hcs e1
     have hl := Nat.eq_of_beq_eq_true hl
     have hij := Nat.eq_of_beq_eq_true hij
     subst hij
     obtain ⟨us, k1, k2, k3, k4⟩ := rowsOf_sound hs hS h3 v2
     have hlc : (a.eval x).cells.toList.length = sz := by rw [hcell.length, hl]
     refine ⟨(a.eval x).cells.toList :: us, by simp only [RepRows]; exact ⟨_, _, rfl, hcell, k1⟩, fun r hr' => ?_, by simp [k3], fun {done rest} hd hr => ?_⟩
     ·rcases List.mem_cons.1 hr' with rfl | hr'
      ·exact hlc
      ·exact k2 r hr'
     ·have hlen : (a.eval x).cells.toList.length ≤ rest.length := by rw [hlc, hr]; simp only [List.length_cons, Nat.succ_mul]; omega
      have k5 := k4 (done := done ++ (a.eval x).cells.toList) (rest := rest.drop (a.eval x).cells.toList.length) (by simp only [List.length_append, hd, hlc, Nat.succ_mul]) (by simp only [List.length_drop, hr, hlc, List.length_cons, Nat.succ_mul]; omega)
      simp only [List.map_cons, Instr.fill]
      have hc : (a.eval x).cells.size = sz := by rw [← Array.length_toList]; exact hlc
      rw [if_neg (by simp [hc, hd, hr, Nat.succ_mul] <;> omega)]
      have hf := foldl_splice (i * sz) (a.eval x).cells.toList 0 (done ++ rest).toArray
      simp only [Nat.add_zero] at hf
      rw [← hd, splice_mid _ _ _ hlen] at hf
      have e : ((a.eval x).cells.zipIdx.foldl (fun cs x => cs.setIfInBounds (i * sz + x.2) x.1) (done ++ rest).toArray) = ((done ++ (a.eval x).cells.toList) ++ rest.drop (a.eval x).cells.toList.length).toArray := by
       apply Array.ext'
       rw [← hf, ← Array.foldl_toList, Array.toList_zipIdx, hd]
      simp only [List.flatten_cons]
      rw [← List.append_assoc, ← k5]
      congr 1
    ·cases h
   ·cases h
  ·cases h
theorem run_buildSlice (hP : TblOk P tb) {T so sz len : Nat} {z0 : Nat} {z1 : Value} {z2 : Bool} {z3 : List (Nat × Nat)} {z4 : Option IntKind} (hT : get tb T = some ⟨z0, z1, z2, z3, z4, some sz, so⟩) {ti : TI} (hE : get tb (so - 4) = some ti) {parts : List (Nat × Value)} {cs : List Value}
  (hb : len * sz ≤ 16777216) (hlen : parts.length = len) (h : ∀ rest : List Value, rest.length = len * sz → Instr.fill (fun i => some (i * sz, sz)) rest.toArray parts = some cs.toArray) (w : World) :
  (Instr.buildSlice T len parts.toArray).run P w = .ok (.slice (some ⟨w.heap.size, 0, none⟩) len len) { w with heap := w.heap.push (.cells cs.toArray (so - 4) (0, 0)) } := by
 have hd := (hP.get hT).desc
 cases hu : P.underlying T with
 | none => rw [hu] at hd; cases hd
 | some d =>
  rw [hu] at hd
  simp only [Option.map_some, Option.some.injEq, Prod.mk.injEq] at hd
  obtain ⟨_, _, _, hel, hso⟩ := hd
  cases d with
  | slice e =>
   simp only [elD] at hel
   simp only [sortD] at hso
   have he : e = so - 4 := by rw [← hso]; exact (Nat.add_sub_cancel (n := e) (m := 4)).symm
   subst he
   have hsz := (hP.get hE).size_run w
   have hinfo : ti.size = sz := by
    have := (hP.get hE).info
    cases hi : P.info? (so - 4) with
    | none => rw [hi] at hel; cases hel
    | some i => rw [hi] at hel this; simp at hel this; omega
   rw [hinfo] at hsz
   have hrun : (underlying T).run P w = .ok (.slice (so - 4)) w := run_underlying hu w
   unfold Instr.buildSlice
   simp only [Sem.run_bind, hrun, Result.andThen_ok, hsz]
   rw [if_neg (by omega)]
   by_cases hz : len * sz = 0
   ·simp only [hz, if_true, Sem.run_pure, Result.andThen_ok, Sem.run_bind]
    have := h ((Array.range 0).map fun x => (#[] : Array Value)[x % (#[] : Array Value).size]!).toList (by simp [hz])
    simp only [Array.toArray_toList] at this
    rw [this]; rfl
   ·rw [if_neg hz]
    simp only [Sem.run_bind, (hP.get hE).zero_run, Result.andThen_ok, Sem.run_pure]
    have := h ((Array.range (len * sz)).map fun x => ti.zero.cells[x % ti.zero.cells.size]!).toList (by simp)
    simp only [Array.toArray_toList] at this
    rw [this]; rfl
  | _ => simp [elD] at hel
theorem rep_rows {X X' : Nat → Prop} {w' : World} (k : Keep w X w' X') {sz b : Nat} {es : List (List D)} {us : List (List Value)} (h : RepRows w X es us) (hl : ∀ r, r ∈ us → r.length = sz) (hc : CellsAt w' us.flatten b 0) : RowsAt w' X' sz es b 0 :=
 RowsAt.mk fun i e hi => by
  obtain ⟨r, h1, h2⟩ := h.get hi
  refine ⟨r, Reps.keep k e r h2, hl r (List.mem_of_getElem? h1), fun j x hx => ?_⟩
  have := hc (i * sz + j) x (nth_flat i r j x hl h1 hx)
  rwa [Nat.zero_add] at this ⊢
def wpO (P : Program) (ops : List Oper) (Q : Exit → Act → World → Prop) (o : Oper) (K : Act → World → Prop) (a : Act) (w : World) : Prop :=
  if Region.wanted o (yielded ops.toArray a.tmps) then o.wp P a w K Q else K (a.put o.dst undef) w
theorem wpO_value {ops : List Oper} {Q : Exit → Act → World → Prop} {o : Oper} {K : Act → World → Prop} {v : Value} {w' : World} (hg : o.guard = none) (h : (execOp a.eval o).run P w = .ok (.value v) w') (hk : K (a.put o.dst v) w') : wpO P ops Q o K a w := by
 unfold wpO
 rw [if_pos (by simp [Region.wanted, hg])]
 simp only [Oper.wp, h, Oper.upon]
 exact hk
theorem wpO_skip {ops : List Oper} {Q : Exit → Act → World → Prop} {o : Oper} {K : Act → World → Prop} {w' : World} (hg : o.guard = none) (h : (execOp a.eval o).run P w = .ok .skip w') (hk : K (a.put o.dst undef) w') : wpO P ops Q o K a w := by
 unfold wpO
 rw [if_pos (by simp [Region.wanted, hg])]
 simp only [Oper.wp, h, Oper.upon]
 exact hk
theorem d1_core (hP : TblOk P tb) (hs : Sat B n st ρ a w L) (hS : ∀ t x, get S t = some x → get st.S t = some x) (hO : ∀ k o, get O k = some o → get st.O k = some o) {ops : List Oper} {o : Oper} {s : Option (Nat × SV)} {oo : Option (Nat × Ob)} {wn : List Nat} {l : List Prop}
  (h : d1 tb B.G n ops o S O = .yes s oo wn l) (hv : vcs l) {Q : Exit → Act → World → Prop} {K : Act → World → Prop} (hK : ∀ a' ρ' w' L', Sat B n ⟨optC s st.S, optC oo st.O⟩ ρ' a' w' L' → K a' w') : wpO P ops Q o K a w := by
 unfold d1 at h
 split at h
 ·rename_i d op ty pos after guard
  split at h
  ·rename_i x l hd hr
   cases h
   obtain ⟨v, h1, h2⟩ := ev_sound hP hs hS hO ⟨some d, op, ty, pos, after, none⟩ hr hv
   exact wpO_value rfl h1 (hK _ _ _ _ (sat_put hs hd h2))
  ·rename_i x l j want hd hr
   split at h
   ·rename_i c hc
    cases h
    have hw := gcond_sound hs hS hc
    have hwd : Region.wanted ⟨some d, op, ty, pos, after, some (j, want)⟩ (yielded ops.toArray a.tmps) = c := hw
    unfold wpO
    rw [hwd]
    cases c with
    | true =>
     obtain ⟨v, h1, h2⟩ := ev_sound hP hs hS hO ⟨some d, op, ty, pos, after, some (j, want)⟩ hr (vcs_gvc hv rfl)
     rw [if_pos rfl]
     simp only [Oper.wp, h1, Oper.upon]
     exact hK _ _ _ _ (sat_put hs (x := .g true x) hd (by simp only [VRep]; exact ⟨fun _ => h2, (fun h => by cases h)⟩))
    | false =>
     rw [if_neg (by simp)]
     exact hK _ _ _ _ (sat_put hs (x := .g false x) hd (by simp only [VRep]; exact ⟨(fun h => by cases h), fun _ => trivial⟩))
   ·cases h
  ·cases h
 ·cases h
theorem dW_core (hP : TblOk P tb) (hs : Sat B n st ρ a w L) (hS : ∀ t x, get S t = some x → get st.S t = some x) (hO : ∀ k o, get O k = some o → get st.O k = some o) {ops : List Oper} {o : Oper} {s : Option (Nat × SV)} {oo : Option (Nat × Ob)} {wn : List Nat} {l : List Prop}
  (h : dW tb B.G n o S O = .yes s oo wn l) (hv : vcs l) (hfr : ∀ k, k ∈ wn → get O k = none → get st.O k = none) {Q : Exit → Act → World → Prop} {K : Act → World → Prop} (hK : ∀ a' ρ' w' L', Sat B n ⟨optC s st.S, optC oo st.O⟩ ρ' a' w' L' → K a' w') : wpO P ops Q o K a w := by
 unfold dW at h
 split at h
 ·rename_i d T ty pos after
  split at h
  ·rename_i sz zero _ _ _ _ _ hd hT hf
   split at h
   ·rename_i cs hcs
    rw [forceL_eq] at h
    cases h
    have hr := cellsOfS_sound hs.cellN hcs (show VRep (nmO st.O) ρ w (un B.F L) (.v (ofV zero)) zero by simp only [VRep]; exact ofV_rep _)
    obtain ⟨ρ', L', h1⟩ := sat_blk hs (T := T) hd (hfr d (by simp) hf) hr
    refine wpO_value rfl ?_ (hK _ _ _ _ h1)
    simp only [execOp, Instr.alloc, Sem.run_bind, (hP.get hT).zero_run, Result.andThen_ok, newVar_run, Sem.run_pure]
   ·cases h
  ·cases h
 ·rename_i d T x ty pos after
  split at h
  ·rename_i y l hd h1 hf
   split at h
   ·rename_i cs hcs
    rw [forceL_eq] at h
    cases h
    have e1 := zN1 hs hS h1 hv
    have hr := cellsOfS_sound hs.cellN hcs e1
    obtain ⟨ρ', L', h2⟩ := sat_blk hs (T := T) hd (hfr d (by simp) hf) hr
    refine wpO_value rfl ?_ (hK _ _ _ _ h2)
    simp only [execOp, Instr.box, Sem.run_bind, newVar_run, Result.andThen_ok, Sem.run_pure]
   ·cases h
  ·cases h
 ·rename_i T ad x ty pos after
  split at h
  ·rename_i size zero agg offs ik el so k off l y m hT h1 h2
   split at h
   ·rename_i vc ty' cs h3 h4
    split at h
    ·rename_i c1 c2 c3
     rw [forceL_eq] at h
     cases h
     obtain ⟨v1, v2⟩ := zR1 hv
     have e1 := zN1 hs hS h1 v1
     have e2 := zN1 hs hS h2 v2
     simp only [VRep] at e1
     obtain ⟨_, b, e3, e4⟩ := e1
     have hk := hO k _ h4
     obtain ⟨b', us, e5, hb, hL, hr⟩ := hs.obj k _ hk
     rw [e5] at e3; cases e3
     have hcell := cellsOfS_sound hs.cellN h3 e2
     have hlen := hcell.length
     have hlen2 := hr.length
     have c1 := Nat.eq_of_beq_eq_true c1
     have c2 := Nat.le_of_ble_eq_true c2
     obtain ⟨w', hrun, hw⟩ := run_storeCells (P := P) (a.eval x).cells.toList w off 0 us hb (by omega) (allCell_of hs.cellN hcell c3)
     have hstep : Step L w L w' := ⟨hw.os, hw.tape, hw.output, by rw [hw.size]; exact Nat.le_refl _, fun c h1 h2 => hw.other c (fun e => h2 (e ▸ hL)), fun _ h => .inl h⟩
     have hs' := sat_but hs (o' := .blk ty' (splice cs off vc)) hk rfl (by rw [e5]; rfl) hw.but ⟨b, _, e5, by rw [hw.here, Nat.add_zero], hL, VReps.keep (fun k h => ⟨nmO_cons h, rfl⟩) (keep_of_step hstep) _ _ (VReps.splice off hr hcell)⟩
     refine wpO_skip rfl ?_ (hK _ _ _ _ (by simpa [Act.put, optC] using hs'))
     rw [Array.length_toList] at hlen
     have hsz : (a.eval x).cells.size = size := by omega
     simp only [execOp, e4, Instr.storeAt, Instr.sureAddr, storeVar, Sem.run_bind, Sem.run_pure, Result.andThen_ok, (hP.get hT).size_run, hsz, ne_eq, not_true, if_false, hrun]
    ·cases h
   ·cases h
  ·cases h
 ·rename_i d T len parts ty pos after
  split at h
  ·rename_i z0 z1 z2 z3 z4 sz so hd hT
   split at h
   ·rename_i ti rows l hE hrows hlen hb
    rw [forceL_eq] at h
    cases h
    have hlen := Nat.eq_of_beq_eq_true hlen
    have hb := Nat.le_of_ble_eq_true hb
    obtain ⟨us, k1, k2, k3, k4⟩ := rowsOf_sound hs hS hrows hv
    have hrun := run_buildSlice (parts := parts.map fun p => (p.1, a.eval p.2)) (cs := us.flatten) hP hT hE hb (by simp [hlen]) (fun rest hr => by
     have := k4 (done := []) (rest := rest) (by simp) (by rw [hr, hlen])
     simpa using this) w
    have hbel := below_push w (.cells us.flatten.toArray (so - 4) (0, 0))
    have h1 := hs.below hbel
    have h2 := sat_put h1 (d := d) (x := .v (.sl sz rows)) (v := .slice (some ⟨w.heap.size, 0, none⟩) len len) hd (by
     simp only [VRep, Rep]
     refine ⟨some ⟨w.heap.size, 0, none⟩, len, by rw [k3, hlen], by rw [k3, hlen]; exact Nat.le_refl _, (fun h => by cases h), fun ad had _ => ?_⟩
     cases had
     refine ⟨rfl, by simp, fun hx => Nat.lt_irrefl _ (hs.low _ hx), rep_rows (keep_of_step (step_of_below hbel)) k1 k2 (fun j x hx => ?_)⟩
     simp only [World.cell?, Array.getElem?_push_size, Nat.zero_add]
     simpa using hx)
    refine wpO_value rfl ?_ (hK _ _ _ _ h2)
    simp only [execOp, List.map_toArray, hrun, Sem.run_bind, Result.andThen_ok, Sem.run_pure]
   ·cases h
  ·cases h
 ·cases h
def dA (tb : List (Nat × TI)) (G : List (Nat × List D)) (n : Nat) (ops : List Oper) (o : Oper) (S : List (Nat × SV)) (O : List (Nat × Ob)) : R2 :=
  match d1 tb G n ops o S O with
  | .yes s oo wn l => .yes s oo wn l
  | .no => dW tb G n o S O
theorem dA_core (hP : TblOk P tb) (hs : Sat B n st ρ a w L) (hS : ∀ t x, get S t = some x → get st.S t = some x) (hO : ∀ k o, get O k = some o → get st.O k = some o) {ops : List Oper} {o : Oper} {s : Option (Nat × SV)} {oo : Option (Nat × Ob)} {wn : List Nat} {l : List Prop}
  (h : dA tb B.G n ops o S O = .yes s oo wn l) (hv : vcs l) (hfr : ∀ k, k ∈ wn → get O k = none → get st.O k = none) {Q : Exit → Act → World → Prop} {K : Act → World → Prop} (hK : ∀ a' ρ' w' L', Sat B n ⟨optC s st.S, optC oo st.O⟩ ρ' a' w' L' → K a' w') : wpO P ops Q o K a w := by
 unfold dA at h
 split at h
 ·rename_i h1; cases h; exact d1_core hP hs hS hO h1 hv hK
 ·exact dW_core hP hs hS hO h hv hfr hK
end Go.V
namespace Go.V
open Go.RowKit
def has (t : Nat) : List Nat → Bool
 | [] => false
 | x :: r => match Nat.beq x t with | true => true | false => has t r
theorem has_iff {t : Nat} : ∀ {l : List Nat}, has t l = true ↔ t ∈ l
 | [] => by simp [has]
 | x :: r => by
  simp only [has]
  split
  ·rename_i h; simp [Nat.eq_of_beq_eq_true h]
  ·rename_i h
   have : x ≠ t := beq_ne h
   simp [has_iff (l := r), Ne.symm this]
structure Dl where
  s : List (Nat × SV)
  o : List (Nat × Ob)
def St.add (st : St) (d : Dl) : St := ⟨d.s ++ st.S, d.o ++ st.O⟩
structure Agree (sl : List Nat) (ns : List Nat) (st st' : St) : Prop where
  S : ∀ t, t ∈ sl → get st'.S t = get st.S t
  O : ∀ t, t ∈ ns → get st'.O t = get st.O t
structure Key where
 sl : List Nat
 ns : List Nat
 ws : List Nat
 wn : List Nat
def meet : List Nat → List Nat → Bool
 | [], _ => false
 | x :: r, l => match has x l with | true => true | false => meet r l
theorem meet_false {l r : List Nat} (h : meet l r = false) : ∀ x, x ∈ l → x ∉ r := by
 induction l with
 | nil => intro x hx; cases hx
 | cons y l ih =>
  simp only [meet] at h
  split at h
  ·cases h
  ·rename_i hy
   intro x hx
   rcases List.mem_cons.1 hx with rfl | hx
   ·exact fun hr => by rw [has_iff.2 hr] at hy; cases hy
   ·exact ih h x hx
def clash (a b : Key) : Bool := meet a.ws b.sl || meet a.ws b.ws || meet a.sl b.ws || meet a.wn b.ns || meet a.ns b.wn
inductive Anc (ops : List Oper) : Nat → Nat → Prop
  | one {j i : Nat} {o : Oper} {e : Edge} (h : ops[j]? = some o) (he : e ∈ o.after) (hb : Region.binds .any e = true) (hi : e.on = i) : Anc ops j i
  | step {j i : Nat} {o : Oper} {e : Edge} (h : ops[j]? = some o) (he : e ∈ o.after) (hb : Region.binds .any e = true) (hi : Anc ops e.on i) : Anc ops j i
def ancOf (A : List Nat) : List Edge → Nat
  | [] => 0
  | e :: r => match Region.binds .any e with | true => Nat.lor (Nat.lor (2 ^ e.on) (match nth A e.on with | some x => x | none => 0)) (ancOf A r) | false => ancOf A r
def ancs : List Nat → List Oper → List Nat
 | A, [] => A
 | A, o :: os => ancs (A ++ [ancOf A o.after.toList]) os
theorem ancOf_spec {ops : List Oper} {A : List Nat} {j : Nat} {o : Oper} (ho : ops[j]? = some o) (hA : ∀ k x, A[k]? = some x → ∀ i, x.testBit i = true → Anc ops k i) : ∀ {es : List Edge}, (∀ e, e ∈ es → e ∈ o.after) → ∀ i, (ancOf A es).testBit i = true → Anc ops j i
 | [], _, i, h => by simp [ancOf] at h
 | e :: r, hs, i, h => by
  simp only [ancOf] at h
  split at h
  ·rename_i hb
   change ((2 ^ e.on ||| _) ||| ancOf A r).testBit i = true at h
   rw [Nat.testBit_or, Nat.testBit_or, Bool.or_eq_true, Bool.or_eq_true] at h
   rcases h with (h | h) | h
   ·rw [Nat.testBit_two_pow] at h
    exact .one ho (hs e (by simp)) hb (by simpa using h)
   ·split at h
    ·rename_i x hx
     rw [nth_eq] at hx
     exact .step ho (hs e (by simp)) hb (hA e.on x hx i h)
    ·simp at h
   ·exact ancOf_spec ho hA (fun e he => hs e (by simp [he])) i h
  ·exact ancOf_spec ho hA (fun e he => hs e (by simp [he])) i h
theorem ancs_spec {ops : List Oper} : ∀ {os : List Oper} {A : List Nat}, (∀ j o, os[j]? = some o → ops[A.length + j]? = some o) → (∀ k x, A[k]? = some x → ∀ i, x.testBit i = true → Anc ops k i) → ∀ k x, (ancs A os)[k]? = some x → ∀ i, x.testBit i = true → Anc ops k i
 | [], A, _, hA => hA
 | o :: os, A, ho, hA => by
  simp only [ancs]
  refine ancs_spec (fun j o' hj => by have := ho (j + 1) o' (by simpa using hj); simpa [Nat.add_assoc, Nat.add_comm 1 j] using this) (fun k x hx i hi => ?_)
  by_cases hk : k < A.length
  ·rw [List.getElem?_append_left hk] at hx; exact hA k x hx i hi
  ·rw [List.getElem?_append_right (by omega)] at hx
   cases hk0 : k - A.length with
   | zero =>
    rw [hk0] at hx
    simp at hx
    subst hx
    have : k = A.length := by omega
    subst this
    exact ancOf_spec (by simpa using ho 0 o rfl) hA (fun e he => by simpa using he) i hi
   | succ m => rw [hk0] at hx; simp at hx
def chk2 (k : Key) (i : Nat) : List Nat → List Key → Bool
  | a :: as, k' :: ks => (!clash k k' || a.testBit i) && chk2 k i as ks
  | _, _ => true
def chkA (i : Nat) : List Oper → List Key → List Nat → Bool
 | o :: os, k :: ks, _ :: as => o.after.toList.all (fun e => !Region.binds .any e || Nat.blt e.on i) && chk2 k i as ks && chkA (i + 1) os ks as
 | [], [], [] => true
 | _, _, _ => false
def chk (i : Nat) (ops : List Oper) (ks : List Key) : Bool := chkA i ops ks (ancs [] ops)
theorem chk2_spec {k : Key} {i : Nat} : ∀ {as : List Nat} {ks : List Key}, chk2 k i as ks = true → ∀ (j : Nat) (a : Nat) (k' : Key), as[j]? = some a → ks[j]? = some k' → clash k k' = true → a.testBit i = true
 | [], _, _, j, o, k', h1, _, _ => by simp at h1
 | _ :: _, [], _, j, o, k', _, h2, _ => by simp at h2
 | o' :: os, k2 :: ks, h, j, o, k', h1, h2, hc => by
  simp only [chk2, Bool.and_eq_true, Bool.or_eq_true, Bool.not_eq_true'] at h
  cases j with
  | zero =>
   simp at h1 h2; subst h1; subst h2
   rcases h.1 with h3 | h3
   ·rw [hc] at h3; cases h3
   ·exact h3
  | succ j => exact chk2_spec h.2 j o k' (by simpa using h1) (by simpa using h2) hc
theorem chkA_spec : ∀ {i : Nat} {os : List Oper} {ks : List Key} {as : List Nat}, chkA i os ks as = true → as.length = os.length ∧ ∀ (j : Nat) (o : Oper) (k : Key), os[j]? = some o → ks[j]? = some k →
  (∀ e, e ∈ o.after → Region.binds .any e = true → e.on < i + j) ∧ ∀ (j' : Nat) (a : Nat) (k' : Key), j < j' → as[j']? = some a → ks[j']? = some k' → clash k k' = true → a.testBit (i + j) = true
 | _, [], [], [], _ => ⟨rfl, fun j o k h1 _ => by simp at h1⟩
 | i, o1 :: os, k1 :: ks, a1 :: as, h => by
  simp only [chkA, Bool.and_eq_true, List.all_eq_true, Bool.or_eq_true, Bool.not_eq_true'] at h
  obtain ⟨⟨h3, h4⟩, h5⟩ := h
  have ih := chkA_spec h5
  refine ⟨by simp [ih.1], fun j o k h1 h2 => ?_⟩
  cases j with
  | zero =>
   simp at h1 h2; subst h1; subst h2
   refine ⟨fun e he hb => ?_, fun j' o' k' hj h6 h7 hc => ?_⟩
   ·rcases h3 e (by simpa using he) with h8 | h8
    ·rw [hb] at h8; cases h8
    ·have h9 : e.on + 1 ≤ i := by simpa [Nat.blt] using h8
     omega
   ·cases j' with
    | zero => omega
    | succ j' => exact chk2_spec h4 j' o' k' (by simpa using h6) (by simpa using h7) hc
  | succ j =>
   obtain ⟨h6, h7⟩ := ih.2 j o k (by simpa using h1) (by simpa using h2)
   refine ⟨fun e he hb => by have := h6 e he hb; omega, fun j' o' k' hj h8 h9 hc => ?_⟩
   cases j' with
   | zero => omega
   | succ j' =>
    have := h7 j' o' k' (by omega) (by simpa using h8) (by simpa using h9) hc
    rwa [show i + 1 + j = i + (j + 1) by omega] at this
 | _, [], [], _ :: _, h => by simp [chkA] at h
 | _, [], _ :: _, _, h => by simp [chkA] at h
 | _, _ :: _, [], _, h => by simp [chkA] at h
 | _, _ :: _, _ :: _, [], h => by simp [chkA] at h
theorem chk_spec {ops : List Oper} {ks : List Key} (h : chk 0 ops ks = true) (j : Nat) (o : Oper) (k : Key) (h1 : ops[j]? = some o) (h2 : ks[j]? = some k) :
  (∀ e, e ∈ o.after → Region.binds .any e = true → e.on < j) ∧ ∀ (j' : Nat) (o' : Oper) (k' : Key), j < j' → ops[j']? = some o' → ks[j']? = some k' → clash k k' = true → Anc ops j' j := by
 obtain ⟨hl, hs⟩ := chkA_spec h
 obtain ⟨h3, h4⟩ := hs j o k h1 h2
 refine ⟨fun e he hb => by have := h3 e he hb; omega, fun j' o' k' hj ho' hk' hc => ?_⟩
 have hlt : j' < (ancs [] ops).length := by rw [hl]; exact (List.getElem?_eq_some_iff.1 ho').1
 have hg := List.getElem?_eq_getElem hlt
 have := h4 j' _ k' hj hg hk' hc
 rw [Nat.zero_add] at this
 exact ancs_spec (ops := ops) (os := ops) (A := []) (fun j o hj => by simpa using hj) (fun k x hx => by simp at hx) j' _ hg j this
theorem get_app {α : Type} {t : Nat} : ∀ {l r : List (Nat × α)}, t ∉ l.map (·.1) → get (l ++ r) t = get r t
 | [], r, _ => rfl
 | (k, x) :: l, r, h => by
  simp at h
  rw [List.cons_append, zI1 _ _ (fun e => h.1 e.symm)]
  exact get_app (by simpa using h.2)
theorem get_app_some {α : Type} {t : Nat} : ∀ {l r : List (Nat × α)}, t ∈ l.map (·.1) → get (l ++ r) t = get l t ∧ (get l t).isSome = true
 | [], r, h => by simp at h
 | (k, x) :: l, r, h => by
  by_cases e : k = t
  ·subst e; simp [zJ1]
  ·rw [List.cons_append, zI1 _ _ e, zI1 _ _ e]
   rcases List.mem_cons.1 h with h | h
   ·exact absurd h.symm e
   ·exact get_app_some h
def stX (st : St) : List Dl → (Nat → Bool) → Nat → St
  | [], _, _ => st
  | d :: r, f, i => stX (if f i then st.add d else st) r f (i + 1)
theorem stX_S {t : Nat} {f g : Nat → Bool} : ∀ {ds : List Dl} {st st' : St} {i : Nat}, get st.S t = get st'.S t → (∀ j d, ds[j]? = some d → t ∈ d.s.map (·.1) → f (i + j) = g (i + j)) → get (stX st ds f i).S t = get (stX st' ds g i).S t
  | [], st, st', i, h, _ => h
  | d :: r, st, st', i, h, hd => by
    simp only [stX]
    refine stX_S ?_ (fun j d' hj ht => by have := hd (j + 1) d' (by simpa using hj) ht; rwa [show i + (j + 1) = i + 1 + j by omega] at this)
    by_cases ht : t ∈ d.s.map (·.1)
    · have := hd 0 d rfl ht
      simp only [Nat.add_zero] at this
      rw [this]
      split
      · show get (d.s ++ st.S) t = get (d.s ++ st'.S) t
        rw [(get_app_some ht).1, (get_app_some ht).1]
      · exact h
    · have e1 : get (if f i = true then st.add d else st).S t = get st.S t := by
        split
        · exact get_app ht
        · rfl
      have e2 : get (if g i = true then st'.add d else st').S t = get st'.S t := by
        split
        · exact get_app ht
        · rfl
      rw [e1, e2, h]
theorem stX_O {t : Nat} {f g : Nat → Bool} : ∀ {ds : List Dl} {st st' : St} {i : Nat}, get st.O t = get st'.O t → (∀ j d, ds[j]? = some d → t ∈ d.o.map (·.1) → f (i + j) = g (i + j)) → get (stX st ds f i).O t = get (stX st' ds g i).O t
 | [], st, st', i, h, _ => h
 | d :: r, st, st', i, h, hd => by
  simp only [stX]
  refine stX_O ?_ (fun j d' hj ht => by have := hd (j + 1) d' (by simpa using hj) ht; rwa [show i + (j + 1) = i + 1 + j by omega] at this)
  by_cases ht : t ∈ d.o.map (·.1)
  ·have := hd 0 d rfl ht
   simp only [Nat.add_zero] at this
   rw [this]
   split
   ·show get (d.o ++ st.O) t = get (d.o ++ st'.O) t
    rw [(get_app_some ht).1, (get_app_some ht).1]
   ·exact h
  ·have e1 : get (if f i = true then st.add d else st).O t = get st.O t := by
    split
    ·exact get_app ht
    ·rfl
   have e2 : get (if g i = true then st'.add d else st').O t = get st'.O t := by
    split
    ·exact get_app ht
    ·rfl
   rw [e1, e2, h]
theorem stX_S_at {t : Nat} {f : Nat → Bool} : ∀ {ds : List Dl} {st : St} {i k : Nat} {d : Dl}, ds[k]? = some d → t ∈ d.s.map (·.1) → f (i + k) = true → (∀ j d', k < j → ds[j]? = some d' → t ∈ d'.s.map (·.1) → f (i + j) = false) → get (stX st ds f i).S t = get d.s t
 | [], st, i, k, d, h, _, _, _ => by simp at h
 | d0 :: r, st, i, 0, d, h, ht, hf, hl => by
  simp at h; subst h
  simp only [stX]
  simp only [Nat.add_zero] at hf
  rw [hf, if_pos rfl]
  rw [stX_S (g := fun _ => false) (st' := st.add d0) rfl (fun j d' hj ht' => by rw [show i + 1 + j = i + (j + 1) by omega]; exact hl (j + 1) d' (by omega) (by simpa using hj) ht')]
  have : ∀ (ds : List Dl) (st : St) (i : Nat), stX st ds (fun _ => false) i = st := fun ds => by
   induction ds with
   | nil => intros; rfl
   | cons d r ih => intro st i; simp only [stX, Bool.false_eq_true, if_false, ih]
  rw [this]
  exact (get_app_some ht).1
 | d0 :: r, st, i, k + 1, d, h, ht, hf, hl => by
  simp only [stX]
  exact stX_S_at (by simpa using h) ht (by rw [show i + 1 + k = i + (k + 1) by omega]; exact hf) (fun j d' hj hd ht' => by rw [show i + 1 + j = i + (j + 1) by omega]; exact hl (j + 1) d' (by omega) (by simpa using hd) ht')
theorem stX_O_at {t : Nat} {f : Nat → Bool} : ∀ {ds : List Dl} {st : St} {i k : Nat} {d : Dl}, ds[k]? = some d → t ∈ d.o.map (·.1) → f (i + k) = true → (∀ j d', k < j → ds[j]? = some d' → t ∈ d'.o.map (·.1) → f (i + j) = false) → get (stX st ds f i).O t = get d.o t
 | [], st, i, k, d, h, _, _, _ => by simp at h
 | d0 :: r, st, i, 0, d, h, ht, hf, hl => by
  simp at h; subst h
  simp only [stX]
  simp only [Nat.add_zero] at hf
  rw [hf, if_pos rfl]
  rw [stX_O (g := fun _ => false) (st' := st.add d0) rfl (fun j d' hj ht' => by rw [show i + 1 + j = i + (j + 1) by omega]; exact hl (j + 1) d' (by omega) (by simpa using hj) ht')]
  have : ∀ (ds : List Dl) (st : St) (i : Nat), stX st ds (fun _ => false) i = st := fun ds => by
   induction ds with
   | nil => intros; rfl
   | cons d r ih => intro st i; simp only [stX, Bool.false_eq_true, if_false, ih]
  rw [this]
  exact (get_app_some ht).1
 | d0 :: r, st, i, k + 1, d, h, ht, hf, hl => by
  simp only [stX]
  exact stX_O_at (by simpa using h) ht (by rw [show i + 1 + k = i + (k + 1) by omega]; exact hf) (fun j d' hj hd ht' => by rw [show i + 1 + j = i + (j + 1) by omega]; exact hl (j + 1) d' (by omega) (by simpa using hd) ht')
variable {P : Program} {n : Nat} {B : Base} {st : St} {ρ : Nat → Value} {a : Act} {w : World} {L : Nat → Prop} {tb : List (Nat × TI)} {Q : Exit → Act → World → Prop}
theorem Sat.congr {st st' : St} (hs : Sat B n st ρ a w L) (hS : ∀ t, get st'.S t = get st.S t) (hO : ∀ t, get st'.O t = get st.O t) : Sat B n st' ρ a w L := by
 have hN : nmO st'.O = nmO st.O := funext fun k => by unfold nmO; rw [hO]
 refine hs.go (Step.refl _ _) (fun b hb => hs.low b (.inr hb)) (fun k h => ⟨by rw [hN]; exact h, rfl⟩) hs.size hs.defers (fun t y hy => ?_) (fun k o hk => ?_) (fun k o k' o' hk hk' => ?_)
 ·rw [hS] at hy; rw [hN]; exact hs.slot t y hy
 ·rw [hO] at hk; rw [hN]; exact hs.obj k o hk
 ·rw [hO] at hk hk'; exact hs.inj k o k' o' hk hk'
def After (B : Base) (n : Nat) (st' : St) (a : Act) (w' : World) : Prop := ∃ ρ L', Sat B n st' ρ a w' L'
def OpOk (P : Program) (B : Base) (n : Nat) (ops : List Oper) (Q : Exit → Act → World → Prop) (o : Oper) (k : Key) (view : St) (d : Dl) : Prop :=
  ∀ st' a ρ w' L' (K : Act → World → Prop), Agree k.sl k.ns view st' → Sat B n st' ρ a w' L' → (∀ a' w'', After B n (st'.add d) a' w'' → K a' w'') → wpO P ops Q o K a w'
theorem wpOp_of {ops : List Oper} {o : Oper} {i : Nat} {K : Act → World → Prop} (ho : ops[i]? = some o) (h : wpO P ops Q o K a w) : wpOp P ops.toArray Q i K a w := by
 unfold wpOp
 simp only [List.getElem?_toArray, ho]
 unfold wpO at h
 split
 ·rename_i hw; rw [if_pos hw] at h; exact .inl h
 ·rename_i hw; rw [if_neg hw] at h; exact h
structure Info where
 key : Key
 d : Dl
def keyOk (i : Info) : Prop := i.d.s.map (·.1) = i.key.ws ∧ (∀ k, k ∈ i.d.o.map (·.1) → k ∈ i.key.wn) ∧ ∀ k, k ∈ i.key.wn → k ∈ i.key.ns
theorem mem_ready {ops : List Oper} {listed : Array Bool} {i : Nat} (h : i ∈ Region.ready .any ops.toArray listed) : listed.getD i true = false ∧ ∃ o, ops[i]? = some o ∧ ∀ e, e ∈ o.after → Region.binds .any e = true → listed.getD e.on false = true := by
 simp only [Region.ready, List.mem_filter, Bool.and_eq_true, Bool.not_eq_true'] at h
 obtain ⟨h1, h2, h3⟩ := h
 refine ⟨h2, ?_⟩
 cases ho : ops[i]? with
 | none => simp [ho] at h3
 | some o =>
  simp only [List.getElem?_toArray, ho, Option.map_some, Option.getD_some, Array.all_eq_true_iff_forall_mem, Bool.or_eq_true, Bool.not_eq_true'] at h3
  refine ⟨o, rfl, fun e he hb => ?_⟩
  rcases h3 e he with h4 | h4
  ·rw [hb] at h4; cases h4
  ·exact h4
theorem ready_mem {ops : List Oper} {listed : Array Bool} {i : Nat} {o : Oper} (hl : listed.getD i true = false) (ho : ops[i]? = some o) (he : ∀ e, e ∈ o.after → Region.binds .any e = true → listed.getD e.on false = true) : i ∈ Region.ready .any ops.toArray listed := by
 have hlt := (List.getElem?_eq_some_iff.1 ho).1
 simp only [Region.ready, List.mem_filter, List.mem_range, Bool.and_eq_true, Bool.not_eq_true', List.size_toArray]
 refine ⟨hlt, hl, ?_⟩
 simp only [List.getElem?_toArray, ho, Option.map_some, Option.getD_some, Array.all_eq_true_iff_forall_mem, Bool.or_eq_true, Bool.not_eq_true']
 intro e h1
 cases hb : Region.binds .any e with
 | false => exact .inl rfl
 | true => exact .inr (he e h1 hb)
def lf (listed : Array Bool) : Nat → Bool := fun i => listed.getD i false
structure Inv (ops : List Oper) (listed : Array Bool) : Prop where
 size : listed.size = ops.length
 down : ∀ (j : Nat) (o : Oper), ops[j]? = some o → lf listed j = true → ∀ e, e ∈ o.after → Region.binds .any e = true → lf listed e.on = true
theorem Inv.anc {ops : List Oper} {listed : Array Bool} (inv : Inv ops listed) {j i : Nat} (h : Anc ops j i) : lf listed j = true → lf listed i = true := by
 induction h with
 | one h he hb hi => intro hj; exact hi ▸ inv.down _ _ h hj _ he hb
 | step h he hb _ ih => intro hj; exact ih (inv.down _ _ h hj _ he hb)
theorem lf_false {listed : Array Bool} {i : Nat} (h : listed.getD i true = false) : lf listed i = false := by
 simp only [lf, Array.getD_eq_getD_getElem?] at *
 cases hi : listed[i]? with
 | none => rw [hi] at h; cases h
 | some b => rw [hi] at h; simpa using h
theorem lf_true {listed : Array Bool} {i : Nat} (hi : i < listed.size) (h : lf listed i = false) : listed.getD i true = false := by
 simp only [lf, Array.getD_eq_getD_getElem?, Array.getElem?_eq_getElem hi, Option.getD_some] at *
 exact h
theorem lf_set {listed : Array Bool} {i j : Nat} (hi : i < listed.size) : lf (listed.setIfInBounds i true) j = if j = i then true else lf listed j := by
 simp only [lf, Array.getD_eq_getD_getElem?]
 by_cases e : j = i
 ·subst e; simp [hi]
 ·rw [if_neg e, Array.getElem?_setIfInBounds_ne (fun e' => e e'.symm)]
theorem key_clash {a b : Key} {x : Nat} (h : (x ∈ a.ws ∧ (x ∈ b.sl ∨ x ∈ b.ws)) ∨ (x ∈ a.sl ∧ x ∈ b.ws) ∨ (x ∈ a.wn ∧ x ∈ b.ns) ∨ (x ∈ a.ns ∧ x ∈ b.wn)) : clash a b = true := by
 cases hc : clash a b with
 | true => rfl
 | false =>
  simp only [clash, Bool.or_eq_false_iff] at hc
  obtain ⟨⟨⟨⟨c1, c2⟩, c3⟩, c4⟩, c5⟩ := hc
  rcases h with ⟨h1, h2 | h2⟩ | ⟨h1, h2⟩ | ⟨h1, h2⟩ | ⟨h1, h2⟩
  ·exact absurd h2 (meet_false c1 x h1)
  ·exact absurd h2 (meet_false c2 x h1)
  ·exact absurd h2 (meet_false c3 x h1)
  ·exact absurd h2 (meet_false c4 x h1)
  ·exact absurd h2 (meet_false c5 x h1)
theorem clash_side {ops : List Oper} {ks : List Key} (hchk : chk 0 ops ks = true) {listed : Array Bool} (inv : Inv ops listed) {i : Nat} {oi : Oper} {ki : Key} (hoi : ops[i]? = some oi) (hki : ks[i]? = some ki) (hl : lf listed i = false)
    (hr : ∀ e, e ∈ oi.after → Region.binds .any e = true → lf listed e.on = true) {j : Nat} {oj : Oper} {kj : Key} (hoj : ops[j]? = some oj) (hkj : ks[j]? = some kj) (hne : j ≠ i) (hc : (j < i → clash kj ki = true) ∧ (i < j → clash ki kj = true)) :
    lf listed j = decide (j < i) := by
  by_cases hlt : j < i
  · rw [decide_eq_true hlt]
    have := (chk_spec hchk j oj kj hoj hkj).2 i oi ki hlt hoi hki (hc.1 hlt)
    cases this with
    | one h he hb hi => rw [hoi] at h; cases h; exact hi ▸ hr _ he hb
    | step h he hb hi => rw [hoi] at h; cases h; exact inv.anc hi (hr _ he hb)
  · have hgt : i < j := by omega
    rw [decide_eq_false hlt]
    have := (chk_spec hchk i oi ki hoi hki).2 j oj kj hgt hoj hkj (hc.2 hgt)
    cases hj : lf listed j with
    | false => rfl
    | true =>
      have := inv.anc this hj
      rw [hl] at this; cases this
theorem keys_get {infos : List Info} {j : Nat} {d : Dl} (h : (infos.map (·.d))[j]? = some d) : ∃ inf, infos[j]? = some inf ∧ inf.d = d ∧ (infos.map (·.key))[j]? = some inf.key := by
 rw [List.getElem?_map] at h
 cases hi : infos[j]? with
 | none => rw [hi] at h; cases h
 | some inf =>
  rw [hi] at h
  exact ⟨inf, rfl, by simpa using h, by simp [List.getElem?_map, hi]⟩
def viewOf (st : St) (ds : List Dl) (i : Nat) : St := stX st ds (fun j => decide (j < i)) 0
theorem region_order {l : List Oper} (infos : List Info) (hlen : infos.length = l.length) (hkey : ∀ inf, inf ∈ infos → keyOk inf)
  (hok : ∀ i inf o, infos[i]? = some inf → l[i]? = some o → OpOk P B n l Q o inf.key (viewOf st (infos.map (·.d)) i) inf.d) (hchk : chk 0 l (infos.map (·.key)) = true)
  (hk : ∀ a w', After B n (viewOf st (infos.map (·.d)) l.length) a w' → Q .normal a w') :
  ∀ (fuel : Nat) (listed : Array Bool) (a : Act) (w' : World), (listed.toList.filter (! ·)).length ≤ fuel → Inv l listed → After B n (stX st (infos.map (·.d)) (lf listed) 0) a w' → wpAny P .any l.toArray Q fuel listed a w' := by
 have hall : ∀ {listed : Array Bool}, Inv l listed → Region.ready .any l.toArray listed = [] → ∀ j, j < l.length → lf listed j = true := fun {listed} inv hr j => by
  induction j using Nat.strongRecOn with
  | _ j ih =>
   intro hj
   cases hf : lf listed j with
   | true => rfl
   | false =>
    have hoj : l[j]? = some l[j] := List.getElem?_eq_getElem hj
    have hkj : (infos.map (·.key))[j]? = some (infos[j]'(by omega)).key := by simp [List.getElem?_map, List.getElem?_eq_getElem (show j < infos.length by omega)]
    have := ready_mem (lf_true (by rw [inv.size]; exact hj) hf) hoj (fun e h1 h2 => by
     have hlt := (chk_spec hchk j _ _ hoj hkj).1 e h1 h2
     exact ih e.on (by omega) (by omega))
    rw [hr] at this; cases this
 have hdone : ∀ {listed : Array Bool} {a : Act} {w' : World}, Inv l listed → Region.ready .any l.toArray listed = [] → After B n (stX st (infos.map (·.d)) (lf listed) 0) a w' → Q .normal a w' := fun {listed a w'} inv hr h => by
  obtain ⟨ρ, L', s'⟩ := h
  have hfe : ∀ j d, (infos.map (·.d))[j]? = some d → decide (0 + j < l.length) = lf listed (0 + j) := fun j d hj => by
   have hlt := (List.getElem?_eq_some_iff.1 hj).1
   simp only [List.length_map] at hlt
   rw [Nat.zero_add, hall inv hr j (by omega), decide_eq_true (by omega)]
  exact hk a w' ⟨ρ, L', s'.congr (fun t => stX_S rfl (fun j d hj _ => hfe j d hj)) (fun t => stX_O rfl (fun j d hj _ => hfe j d hj))⟩
 intro fuel
 induction fuel with
 | zero =>
  intro listed a w' hf inv h
  have hnone : Region.ready .any l.toArray listed = [] := by
   cases hr : Region.ready .any l.toArray listed with
   | nil => rfl
   | cons i r =>
    obtain ⟨h1, o, ho, _⟩ := mem_ready (i := i) (by rw [hr]; simp)
    have hlt : i < listed.size := by rw [inv.size]; exact (List.getElem?_eq_some_iff.1 ho).1
    have : false ∈ listed.toList.filter (! ·) := by
     simp only [List.mem_filter, Bool.not_false, and_true]
     have e : listed[i] = false := by simpa [Array.getD_eq_getD_getElem?, hlt] using h1
     rw [← e]; exact Array.getElem_mem_toList hlt
    have := List.length_pos_of_mem this
    omega
  exact ⟨hnone, hdone inv hnone h⟩
 | succ fuel ih =>
  intro listed a w' hf inv h
  refine ⟨fun hr => hdone inv hr h, fun i hi => ?_⟩
  obtain ⟨h1, oi, hoi, hre⟩ := mem_ready hi
  have hil : i < l.length := (List.getElem?_eq_some_iff.1 hoi).1
  have hisz : i < listed.size := by rw [inv.size]; exact hil
  have hlfi := lf_false h1
  have hinf : infos[i]? = some (infos[i]'(by omega)) := List.getElem?_eq_getElem (by omega)
  obtain ⟨ρ, L', s'⟩ := h
  generalize hinfo : infos[i]'(by omega) = inf at hinf
  have hki : (infos.map (·.key))[i]? = some inf.key := by simp [List.getElem?_map, hinf]
  obtain ⟨kw, ko, kn⟩ := hkey inf (List.mem_of_getElem? hinf)
  
  have side : ∀ j d, (infos.map (·.d))[j]? = some d → j ≠ i → ∀ {x : Nat}, (x ∈ d.s.map (·.1) ∧ (x ∈ inf.key.sl ∨ x ∈ inf.key.ws)) ∨ (x ∈ d.o.map (·.1) ∧ x ∈ inf.key.ns) → lf listed j = decide (j < i) := fun j d hj hne {x} hx => by
   obtain ⟨ij, hij, rfl, hkj⟩ := keys_get hj
   obtain ⟨jw, jo, jn⟩ := hkey ij (List.mem_of_getElem? hij)
   have hjl : j < l.length := by have := (List.getElem?_eq_some_iff.1 hij).1; omega
   refine clash_side hchk inv hoi hki hlfi hre (List.getElem?_eq_getElem hjl) hkj hne ⟨fun _ => key_clash (x := x) ?_, fun _ => key_clash (x := x) ?_⟩
   ·rcases hx with ⟨h3, h4⟩ | ⟨h3, h4⟩
    ·rw [jw] at h3; exact .inl ⟨h3, h4⟩
    ·exact .inr (.inr (.inl ⟨jo x h3, h4⟩))
   ·rcases hx with ⟨h3, h4 | h4⟩ | ⟨h3, h4⟩
    ·rw [jw] at h3; exact .inr (.inl ⟨h4, h3⟩)
    ·rw [jw] at h3; exact .inl ⟨h4, .inr h3⟩
    ·exact .inr (.inr (.inr ⟨h4, jo x h3⟩))
  have self : ∀ j d, (infos.map (·.d))[j]? = some d → ∀ {x : Nat}, (x ∈ d.s.map (·.1) ∧ (x ∈ inf.key.sl ∨ x ∈ inf.key.ws)) ∨ (x ∈ d.o.map (·.1) ∧ x ∈ inf.key.ns) → lf listed (0 + j) = decide (0 + j < i) := fun j d hj {x} hx => by
   rw [Nat.zero_add]
   by_cases e : j = i
   ·subst e; rw [hlfi, decide_eq_false (by omega)]
   ·exact side j d hj e hx
  have hagree : Agree inf.key.sl inf.key.ns (viewOf st (infos.map (·.d)) i) (stX st (infos.map (·.d)) (lf listed) 0) :=
   ⟨fun t ht => stX_S rfl (fun j d hj hm => self j d hj (.inl ⟨hm, .inl ht⟩)), fun t ht => stX_O rfl (fun j d hj hm => self j d hj (.inr ⟨hm, ht⟩))⟩
  refine wpOp_of hoi (hok i inf oi hinf hoi _ a ρ w' L' _ hagree s' (fun a2 w2 h2 => ?_))
  obtain ⟨ρ2, L2, s2⟩ := h2
  have hdi : (infos.map (·.d))[i]? = some inf.d := by simp [List.getElem?_map, hinf]
  
  refine ih (listed.setIfInBounds i true) a2 w2 ?_ ⟨by simp [inv.size], fun j o hj hlj e he hb => ?_⟩ ⟨ρ2, L2, s2.congr (fun t => ?_) (fun t => ?_)⟩
  ·have hcount : ∀ (l : List Bool) (i : Nat), i < l.length → l[i]? = some false → ((l.set i true).filter (! ·)).length + 1 = (l.filter (! ·)).length := by
    intro l
    induction l with
    | nil => intro i hi; simp at hi
    | cons b l ih =>
     intro i hi hb
     cases i with
     | zero => simp at hb; subst hb; simp
     | succ i =>
      have := ih i (by simpa using hi) (by simpa using hb)
      simp only [List.set_cons_succ, List.filter_cons]
      split <;> simp at this ⊢ <;> omega
   have hb : listed.toList[i]? = some false := by
    have e : listed[i] = false := by simpa [Array.getD_eq_getD_getElem?, hisz] using h1
    rw [Array.getElem?_toList, Array.getElem?_eq_getElem hisz, e]
   have := hcount listed.toList i (by simpa using hisz) hb
   rw [Array.toList_setIfInBounds]
   omega
  ·rw [lf_set hisz] at hlj ⊢
   split
   ·rfl
   ·split at hlj
    ·rename_i hne heq
     subst heq
     rw [hoi] at hj; cases hj
     exact hre e he hb
    ·exact inv.down j o hj hlj e he hb
  ·show get (stX _ _ _ _).S t = get (inf.d.s ++ _) t
   by_cases ht : t ∈ inf.d.s.map (·.1)
   ·rw [(get_app_some ht).1]
    refine stX_S_at hdi ht (by rw [Nat.zero_add, lf_set hisz, if_pos rfl]) (fun j d' hj hd ht' => ?_)
    rw [Nat.zero_add, lf_set hisz, if_neg (by omega), side j d' hd (by omega) (.inl ⟨ht', .inr (kw ▸ ht)⟩), decide_eq_false (by omega)]
   ·rw [get_app ht]
    refine stX_S rfl (fun j d' hd ht' => ?_)
    rw [Nat.zero_add, lf_set hisz, if_neg (fun e => by subst e; rw [hdi] at hd; cases hd; exact ht ht')]
  ·show get (stX _ _ _ _).O t = get (inf.d.o ++ _) t
   by_cases ht : t ∈ inf.d.o.map (·.1)
   ·rw [(get_app_some ht).1]
    refine stX_O_at hdi ht (by rw [Nat.zero_add, lf_set hisz, if_pos rfl]) (fun j d' hj hd ht' => ?_)
    rw [Nat.zero_add, lf_set hisz, if_neg (by omega), side j d' hd (by omega) (.inr ⟨ht', kn _ (ko _ ht)⟩), decide_eq_false (by omega)]
   ·rw [get_app ht]
    refine stX_O rfl (fun j d' hd ht' => ?_)
    rw [Nat.zero_add, lf_set hisz, if_neg (fun e => by subst e; rw [hdi] at hd; cases hd; exact ht ht')]
end Go.V
end zVx
