/- The engine: the bytes of a text as a slice of the call's own. No program in sight. -/
import Derived.Test.YtinickkcieecdaaGreatDoorVm
import Derived.Laws.IdiomStrings
set_option linter.unusedVariables false
namespace Go.V
open Go.RowKit

variable {P : Program} {n : Nat} {B : Base} {st : St} {tb : List (Nat × TI)} {Q : Exit → Act → World → Prop} {ρ : Nat → Value} {a : Act} {w : World} {L : Nat → Prop}

def sbOf (tb : List (Nat × TI)) (G : List (Nat × List D)) (S : List (Nat × SV)) : Op → Option (Nat × List UInt8 × List Prop)
  | .convert src dst x =>
    match get tb src, o1 G S x with
    | some ⟨_, _, _, _, _, _, 2⟩, some (.v (.str s), l) => some (dst, s, l)
    | _, _ => none
  | _ => none

theorem rows_bytes {X : Nat → Prop} : ∀ s : List UInt8, RepRows w X (s.map fun b => [D.int .u8 (b.toNat : Int)]) (s.map fun b => [Value.int .u8 (b.toNat : Int)])
  | [] => by simp [RepRows]
  | b :: s => by simp only [List.map_cons, RepRows]; exact ⟨_, _, rfl, by simp [Reps, Rep], rows_bytes s⟩
theorem flat_bytes : ∀ s : List UInt8, (s.map fun b => [Value.int .u8 (b.toNat : Int)]).flatten = s.map fun b => Value.int .u8 (b.toNat : Int)
  | [] => rfl
  | b :: s => by simp only [List.map_cons, List.flatten_cons, flat_bytes s]; rfl

theorem OpOk.bytes (hP : TblOk P tb) {ops : List Oper} {o : Oper} {d T e : Nat} {s : List UInt8} {es2 : List (List D)} {l : List Prop} {sl ns ws wn : List Nat} (hT : ApOk P T e 1) (hu8 : P.underlying e = some (.int .u8)) (hg : o.guard = none) (ho : o.dst = some d) (hd : inB n d = true)
    (h : sbOf tb B.G (pickL st.S sl) o.op = some (T, s, l)) (hl : vcs l) (hs9 : s.length ≤ 9223372036854775807) (hdn : has d ns = true) (hfr : get (pickL st.O ns) d = none) (he : (s.map fun b => [D.int .u8 (b.toNat : Int)]) = es2) :
    OpOk P B n ops Q o ⟨sl, ns, ws, wn⟩ st ⟨[(d, .r d)], [(d, .row e 1 es2)]⟩ := by
  subst he
  intro st' a ρ w L K hag hs hK
  have hS : ∀ t x, get (pickL st.S sl) t = some x → get st'.S t = some x := fun t x ht => by obtain ⟨h1, h2⟩ := pickL_some ht; rw [hag.S t h1]; exact h2
  have hfr' : get st'.O d = none := by rw [hag.O d (has_iff.1 hdn)]; exact pickL_none (has_iff.1 hdn) hfr
  unfold sbOf at h
  split at h
  · rename_i src dst x hop
    split at h
    · rename_i hT2 h1
      cases h
      have e1 := o1_sound hs hS h1 hl
      simp only [VRep, Rep] at e1
      have hu := under_string (hP.get hT2) rfl
      have hrun := run_bytes_of_string w src T e ⟨⟨s⟩⟩ hu hT.under hu8
      have hsz : (⟨⟨s⟩⟩ : ByteArray).size = s.length := rfl
      rw [hsz] at hrun
      generalize hcap : grownCap w s.length 0 e = cap at hrun
      have hge : s.length ≤ cap := by rw [← hcap]; exact grownCap_ge w s.length 0 e
      have hcm : cap ≤ maxLen := by rw [← hcap]; exact grownCap_le_maxLen w s.length 0 e (by simp only [maxLen]; omega)
      have hbs : (bytesRow ⟨⟨s⟩⟩ cap).size = cap := by simp only [bytesRow, Array.size_append, Array.size_map, Array.size_replicate, hsz]; show s.length + (cap - s.length) = cap; omega
      have hbt : (bytesRow ⟨⟨s⟩⟩ cap).toList.take s.length = s.map fun b => Value.int .u8 (b.toNat : Int) := by
        simp only [bytesRow, Array.toList_append, Array.toList_map]
        rw [List.take_append_of_le_length (by simp)]
        rw [List.take_of_length_le (by simp)]
      have hsat := sat_new hs (d := d) (v := .slice (some ⟨w.heap.size, 0, none⟩) s.length cap) (o := .row e 1 (s.map fun b => [D.int .u8 (b.toNat : Int)])) (w' := w.drew.alloc (.cells (bytesRow ⟨⟨s⟩⟩ cap) e ((bytesRow ⟨⟨s⟩⟩ cap).size, (bytesRow ⟨⟨s⟩⟩ cap).size + 1))) hd hfr' (below_alloc w _)
        (fun b hb => by simp only [ob, Option.some.injEq] at hb; subst hb; exact ⟨Nat.le_refl _, by show _ < (w.heap.push _).size; simp⟩) (x := .r d) (by simp only [VRep]; exact ⟨nmO_self, upd_self.symm⟩)
        (fun X _ hkp => by
          refine ⟨s.map fun b => [Value.int .u8 (b.toNat : Int)], rows_bytes s, fun r hr => by obtain ⟨b, _, rfl⟩ := List.mem_map.1 hr; rfl, ⟨by rw [flat_bytes]; simp, .inr ⟨w.heap.size, cap, _, _, by rw [List.length_map], Go.heap_alloc_new w.drew _, .inr (Nat.le_refl _), by rw [List.length_map]; exact hge, hcm, by rw [hbs]; simp, by rw [List.length_map, Nat.mul_one, hbt, flat_bytes]⟩⟩, fun b hb => .inr hb⟩)
      refine wpO_value hg (v := .slice (some ⟨w.heap.size, 0, none⟩) s.length cap) (w' := w.drew.alloc (.cells (bytesRow ⟨⟨s⟩⟩ cap) e ((bytesRow ⟨⟨s⟩⟩ cap).size, (bytesRow ⟨⟨s⟩⟩ cap).size + 1))) ?_ (by rw [ho]; exact hK _ _ ⟨_, _, hsat⟩)
      simp only [execOp, hop, e1, Sem.run_bind, hrun, Result.andThen_ok, Sem.run_pure]
    · cases h
  · cases h

theorem WL.bytes (hP : TblOk P tb) {ops rest : List Oper} {o : Oper} {d T e : Nat} {s : List UInt8} (es2 : List (List D)) {l : List Prop} (hT : ApOk P T e 1) (hu8 : P.underlying e = some (.int .u8)) (hg : o.guard = none) (ho : o.dst = some d) (hd : inB n d = true)
    (h : sbOf tb B.G (pickL st.S (rd ops o)) o.op = some (T, s, l)) (hl : vcs l) (hs9 : s.length ≤ 9223372036854775807) (hfr : get (pickL st.O [d]) d = none) (he : (s.map fun b => [D.int .u8 (b.toNat : Int)]) = es2)
    (hw : WL P B n ⟨(d, .r d) :: st.S, (d, .row e 1 es2) :: st.O⟩ ops Q rest) : WL P B n st ops Q (o :: rest) :=
  WL.op (OpOk.bytes (ns := [d]) (ws := []) (wn := []) hP hT hu8 hg ho hd h hl hs9 (by simp [has_iff]) hfr he) hw
theorem WR.bytes (hP : TblOk P tb) {ops rest : List Oper} {o : Oper} {done : List Key} {d T e : Nat} {s : List UInt8} (es2 : List (List D)) {l : List Prop} (hT : ApOk P T e 1) (hu8 : P.underlying e = some (.int .u8)) (hg : o.guard = none) (ho : o.dst = some d) (hd : inB n d = true)
    (h : sbOf tb B.G (pickL st.S (rd ops o)) o.op = some (T, s, l)) (hl : vcs l) (hs9 : s.length ≤ 9223372036854775807) (hfr : get (pickL st.O [d]) d = none) (he : (s.map fun b => [D.int .u8 (b.toNat : Int)]) = es2)
    (hw : WR P B n ⟨(d, .r d) :: st.S, (d, .row e 1 es2) :: st.O⟩ ops Q (done ++ [⟨rd ops o, [d], [d], [d]⟩]) rest) : WR P B n st ops Q done (o :: rest) :=
  WR.cons ⟨rfl, fun j hj => by simpa using hj, fun j hj => hj⟩ (OpOk.bytes (ns := [d]) (ws := [d]) (wn := [d]) hP hT hu8 hg ho hd h hl hs9 (by simp [has_iff]) hfr he) hw

end Go.V
