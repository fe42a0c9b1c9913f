/- What is known of the world in which the laws are called; the library's functions by their contracts. -/
import Derived.Test.YtbilobjddflpeaaGreatDoorTb
import Derived.Test.YtbilobjddflpeaaGreatDoorVp
import Derived.Test.YtbilobjddflpeaaGreatDoorPl
import Derived.Test.YtbilobjddflpeaaGreatDoorShelf
import Derived.Lib.LaidTab
import Derived.Laws.Externs
import Derived.Shelf.Strings.SlTrimAscii
set_option linter.unusedVariables false
namespace Go.V
theorem Le.nerr : Le (.v (.raw .nilIface)) (.v (.err true)) := fun N ρ w X v h => by
  simp only [VRep, Rep] at h ⊢; exact ⟨fun _ => h, fun e => by cases e⟩
end Go.V
namespace Go.Proofs.YtbilobjddflpeaaGreatDoor
open Go.V Go.C Go.RowKit
theorem sideT {P : Prop} (h : P := by first | exact trivial | assumption | (refine not_i ?_; assumption) | (refine and_l ?_; assumption) | decide | omega | (simp [vcs]; done) | (simp only [List.length_map]; omega)) : P := h
theorem lenT {P : Prop} (h : P := by first | (simp only [List.length_map]; done) | (simp only [List.length_map]; rfl) | rfl) : P := h
theorem tdT {P : Prop} (h : P := by first | (simp only [List.map_take, List.map_drop]; done) | (simp only [List.map_take, List.map_drop]; rfl) | rfl) : P := h
theorem sideR {P : Prop} (h : P := by repeat' (first | exact trivial | assumption | intro _ | apply And.intro | exact sideT | (refine and_i ?_ ?_))) : P := h
theorem lr {B : Base} {n : Nat} {Q : Exit → Act → World → Prop} {ops : List Oper} (k : Nat) {rest : List Oper} {st st' : St} {vc : List Prop} {rest' : List Oper} (h : V.run tb B.G n ops k rest st [] = some (st', vc, rest')) (hv : vcs vc) (hk : WL Tryz.prog B n st' ops Q rest') : WL Tryz.prog B n st ops Q rest := WL.run tbOk k h hv hk
theorem wr {B : Base} {n : Nat} {Q : Exit → Act → World → Prop} {ops : List Oper} (k : Nat) {rest : List Oper} {st st' : St} {done : List Key} {vc : List Prop} {rest' : List Oper} {ks' : List Key} (h : runR tb B.G n ops k rest st [] done = some (st', vc, rest', ks')) (hv : vcs vc) (hk : WR Tryz.prog B n st' ops Q ks' rest') : WR Tryz.prog B n st ops Q done rest := WR.run tbOk k h hv hk

def gl : List (Nat × List D) := [(0, [.int .i64 2, .int .i64 4, .int .i64 6, .int .i64 8])]

structure WG (wg : World) : Prop where
  glob : GlobOk gl wg (fun _ => False)
  low : 9 ≤ wg.heap.size
  maxLen : ∃ m, wg.cell? ⟨1, 0, none⟩ = some (.int .i64 m)
  errS : ∃ t p, wg.cell? ⟨4, 0, none⟩ = some (.iface t p)
  errR : ∃ t p, wg.cell? ⟨5, 0, none⟩ = some (.iface t p)
  pow10 : Lib.TabIs Tryz.prog wg "internal/strconv.uint64pow10" .u64 Lib.pow10Tab

theorem WG.cell {wg w : World} {X : Nat → Prop} (hw : WG wg) (he : Ext wg w X) {b : Nat} (hb : b < 9) : w.cell? ⟨b, 0, none⟩ = wg.cell? ⟨b, 0, none⟩ := by
  have := hw.low
  exact World.cell?_of_block (w := wg) (he.block b (by omega)).1
theorem WG.tab {wg w : World} {X : Nat → Prop} (hw : WG wg) (he : Ext wg w X) : Lib.TabIs Tryz.prog w "internal/strconv.uint64pow10" .u64 Lib.pow10Tab := by
  have h1 := hw.pow10
  have h2 := hw.low
  have hg : Tryz.prog.globalNamed "internal/strconv.uint64pow10" = some 6 := by kernel_rfl
  unfold Lib.TabIs World.var? at *
  rw [hg] at h1 ⊢
  simp only [Option.bind_some] at h1 ⊢
  rw [(he.block 6 (by omega)).1]; exact h1

/-- A function that is handed nothing of the caller's own. -/
theorem con_pure {P : Program} {wg : World} {G : List (Nat × List D)} {f : FuncId} {args : List SV} {r : SV}
    (h : ∀ w ρ X vals, (∀ b, X b → b < w.heap.size) → Ext wg w X → VReps (nmO []) ρ w X args vals → Calls P f vals.toArray w fun e w' => ∃ v, e = .returned v ∧ Below w.heap.size w w' ∧ VRep (nmO []) ρ w' X r v) : Con P wg G f args [] r [] := by
  intro w ρ F L vals hlow hdis hext hglob hobs hargs
  refine (h w ρ (un F L) vals hlow hext hargs).mono ?_
  rintro e w' ⟨v, rfl, hb, hr⟩
  refine ⟨v, ρ, L, rfl, hr, ⟨(fun k o hk => by cases hk), (fun k o k' o' hk => by cases hk)⟩, step_of_below hb, fun b hL => Nat.lt_of_lt_of_le (hlow b (.inr hL)) hb.size, fun k v hk => by cases hk⟩

theorem below_grow (w : World) (k : Nat) (os : Array Obj) : Below w.heap.size w (Sort.grow (w.drewN k) os) :=
  ⟨rfl, rfl, rfl, by simp [Sort.grow, World.drewN], fun b hb => by
    show (w.heap ++ os)[b]? = w.heap[b]?
    rw [Array.getElem?_append_left hb]⟩
theorem below_drewN' (w : World) (k : Nat) : Below w.heap.size w (w.drewN k) := ⟨rfl, rfl, rfl, Nat.le_refl _, fun _ _ => rfl⟩
theorem below_bytes (w : World) (e : TypeId) (s : ByteArray) : Below w.heap.size w (Lib.bytesWorld w e s) := by
  refine ⟨rfl, rfl, rfl, ?_, fun b hb => ?_⟩
  · simp [Lib.bytesWorld, World.freeze, World.alloc]
    try (split <;> simp)
  · simp only [Lib.bytesWorld, World.freeze]
    split
    · simp only [World.alloc, World.drew]; rw [Array.getElem?_push, if_neg (by omega)]
    · simp only [World.alloc, World.drew, Array.getElem?_modify]; rw [if_neg (by omega), Array.getElem?_push, if_neg (by omega)]

theorem itoa_con {wg : World} (hw : WG wg) {n : Int} {r : Str} (h : itoa n = some r) : Con Tryz.prog wg gl 76 [.v (.int .i64 n)] [] (.v (.str r)) [] := by
  unfold itoa at h
  split at h
  · rename_i hn
    cases h
    refine con_pure fun w ρ X vals hlow hext hargs => ?_
    simp only [VReps, VRep, Rep] at hargs
    obtain ⟨_, _, rfl, rfl, rfl⟩ := hargs
    refine (Tryz.strconv_Itoa n hn.1 hn.2 w (hw.tab hext)).mono ?_
    rintro e w' ⟨rfl, k, os, rfl⟩
    exact ⟨_, rfl, below_grow _ _ _, by simp only [VRep, Rep]⟩
  · cases h

theorem cutS_con {wg : World} (hw : WG wg) {s sep : Str} {r : Str × Str × Bool} (h : cutS s sep = some r) : Con Tryz.prog wg gl 128 [.v (.str s), .v (.str sep)] [] (.tup [.v (.str r.1), .v (.str r.2.1), .v (.bool r.2.2)]) [] := by
  unfold cutS at h
  split at h
  · rename_i hn
    cases h
    refine con_pure fun w ρ X vals hlow hext hargs => ?_
    simp only [VReps, VRep, Rep] at hargs
    obtain ⟨_, _, rfl, rfl, _, _, rfl, rfl, rfl⟩ := hargs
    obtain ⟨m, hm⟩ := hw.maxLen
    refine (Tryz.strings_Cut ⟨⟨s⟩⟩ ⟨⟨sep⟩⟩ m w hn (by rw [hw.cell hext (by omega)]; exact hm)).mono ?_
    rintro e w' ⟨rfl, k, rfl⟩
    exact ⟨_, rfl, below_drewN' _ _, by simp only [VRep]; exact ⟨_, rfl, by simp [VReps, VRep, Rep]⟩⟩
  · cases h

theorem cutSuffixS_con {wg : World} (hw : WG wg) {s p : Str} {r : Str × Bool} (h : cutSuffixS s p = some r) : Con Tryz.prog wg gl 143 [.v (.str s), .v (.str p)] [] (.tup [.v (.str r.1), .v (.bool r.2)]) [] := by
  unfold cutSuffixS at h
  split at h
  · rename_i hn
    cases h
    refine con_pure fun w ρ X vals hlow hext hargs => ?_
    simp only [VReps, VRep, Rep] at hargs
    obtain ⟨_, _, rfl, rfl, _, _, rfl, rfl, rfl⟩ := hargs
    refine (Tryz.strings_CutSuffix ⟨⟨s⟩⟩ ⟨⟨p⟩⟩ w hn).mono ?_
    rintro e w' ⟨rfl, rfl⟩
    exact ⟨_, rfl, Below.refl _ _, by simp only [VRep]; exact ⟨_, rfl, by simp [VReps, VRep, Rep]⟩⟩
  · cases h

theorem hasPrefixS_con {wg : World} (hw : WG wg) {s p : Str} {r : Bool} (h : hasPrefixS s p = some r) : Con Tryz.prog wg gl 46 [.v (.str s), .v (.str p)] [] (.v (.bool r)) [] := by
  unfold hasPrefixS at h
  cases h
  refine con_pure fun w ρ X vals hlow hext hargs => ?_
  simp only [VReps, VRep, Rep] at hargs
  obtain ⟨_, _, rfl, rfl, _, _, rfl, rfl, rfl⟩ := hargs
  refine (Tryz.strings_HasPrefix ⟨⟨s⟩⟩ ⟨⟨p⟩⟩ w).mono ?_
  rintro e w' ⟨rfl, rfl⟩
  exact ⟨_, rfl, Below.refl _ _, by simp only [VRep, Rep]⟩

theorem trimS_con {wg : World} (hw : WG wg) {s c r : Str} (h : trimS s c = some r) : Con Tryz.prog wg gl 57 [.v (.str s), .v (.str c)] [] (.v (.str r)) [] := by
  have _ := Tryz.strings_Trim_one
  unfold trimS at h
  split at h
  · rename_i hn
    cases h
    refine con_pure fun w ρ X vals hlow hext hargs => ?_
    simp only [VReps, VRep, Rep] at hargs
    obtain ⟨_, _, rfl, rfl, _, _, rfl, rfl, rfl⟩ := hargs
    refine (Any.strings_Trim_laid Tryz.lays160 (by kernel_rfl) ⟨⟨s⟩⟩ ⟨⟨c⟩⟩ w hn.1 hn.2.1 (ascii_of_all hn.2.2)).mono ?_
    rintro e w' ⟨rfl, hb⟩
    exact ⟨_, rfl, hb, by simp only [VRep, Rep]⟩
  · cases h

theorem trimRightS_con {wg : World} (hw : WG wg) {s c r : Str} (h : trimRightS s c = some r) : Con Tryz.prog wg gl 113 [.v (.str s), .v (.str c)] [] (.v (.str r)) [] := by
  unfold trimRightS at h
  split at h
  · rename_i x
    split at h
    · rename_i hn
      cases h
      refine con_pure fun w ρ X vals hlow hext hargs => ?_
      simp only [VReps, VRep, Rep] at hargs
      obtain ⟨_, _, rfl, rfl, _, _, rfl, rfl, rfl⟩ := hargs
      refine (Tryz.strings_TrimRight_one ⟨⟨s⟩⟩ x hn.1 w hn.2).mono ?_
      rintro e w' ⟨rfl, rfl⟩
      exact ⟨_, rfl, Below.refl _ _, by simp only [VRep, Rep]⟩
    · cases h
  · cases h

theorem reps_strs {w : World} {X : Nat → Prop} {l : List Str} {b o : Nat} (h : RowsAt w X 1 (l.map eStr) b o) : ∀ (j : Nat) (x : ByteArray), (l.map fun s => (⟨⟨s⟩⟩ : ByteArray))[j]? = some x → w.cell? ⟨b, o + j, none⟩ = some (.string x) := by
  intro j x hj
  rw [List.getElem?_map] at hj
  cases hs : l[j]? with
  | none => rw [hs] at hj; cases hj
  | some s =>
    rw [hs] at hj
    simp only [Option.map_some, Option.some.injEq] at hj
    subst hj
    obtain ⟨cs, h1, h2, h3⟩ := h.get (i := j) (e := eStr s) (by simp [hs])
    simp only [eStr, Reps, Rep] at h1
    obtain ⟨v, r, rfl, rfl, rfl⟩ := h1
    have := h3 0 _ rfl
    simpa using this

theorem joinS_con {wg : World} (hw : WG wg) {l : List Str} {sep r : Str} (h : joinS l sep = some r) : Con Tryz.prog wg gl 75 [.v (.sl 1 (l.map eStr)), .v (.str sep)] [] (.v (.str r)) [] := by
  unfold joinS at h
  split at h
  · rename_i hn
    cases h
    refine con_pure fun w ρ X vals hlow hext hargs => ?_
    simp only [VReps, VRep, Rep] at hargs
    obtain ⟨_, _, rfl, ⟨base, cap, rfl, h2, h3, h4⟩, _, _, rfl, rfl, rfl⟩ := hargs
    have hid : (l.map fun s => (⟨⟨s⟩⟩ : ByteArray)).map (fun x => x.data.toList) = l := by simp [Function.comp_def]
    by_cases hl : l = []
    · subst hl
      refine (Tryz.strings_Join_none base cap ⟨⟨sep⟩⟩ w).mono ?_
      rintro e w' ⟨rfl, rfl⟩
      exact ⟨_, rfl, Below.refl _ _, by simp [VRep, Rep, Lib.join]⟩
    · cases hb : base with
      | none => have := h3 hb; simp at this; exact absurd this hl
      | some ad =>
        obtain ⟨h5, h6, h7, h8⟩ := h4 ad hb (by simpa using hl)
        obtain ⟨b, o, q⟩ := ad
        simp only at h5; subst h5
        have := Tryz.strings_Join b o cap (l.map fun s => (⟨⟨s⟩⟩ : ByteArray)) ⟨⟨sep⟩⟩ w (reps_strs h8) h6 (by simpa using hn.1) (by simpa using h2) (by rw [hid]; exact hn.2)
        rw [hid] at this
        simp only [List.length_map] at this ⊢
        refine this.mono ?_
        rintro e w' ⟨rfl, hbl⟩
        exact ⟨_, rfl, hbl, by simp only [VRep, Rep]⟩
  · cases h

theorem len64_con {wg : World} (hw : WG wg) {x r : Int} (h : len64 x = some r) : Con Tryz.prog wg gl 146 [.v (.int .u64 x)] [] (.v (.int .i64 r)) [] := by
  unfold len64 at h
  split at h
  · rename_i hn
    cases h
    refine con_pure fun w ρ X vals hlow hext hargs => ?_
    simp only [VReps, VRep, Rep] at hargs
    obtain ⟨_, _, rfl, rfl, rfl⟩ := hargs
    refine (Tryz.bits_Len64 x w hn.1 hn.2).mono ?_
    rintro e w' ⟨rfl, rfl⟩
    exact ⟨_, rfl, Below.refl _ _, by simp only [VRep, Rep]⟩
  · cases h

theorem atoiS_con {wg : World} (hw : WG wg) {s : Str} {r : Int × Bool} (h : atoiS s = some r) : Con Tryz.prog wg gl 92 [.v (.str s)] [] (.tup [.v (.int .i64 r.1), .v (.err r.2)]) [] := by
  unfold atoiS at h
  split at h
  · rename_i hn
    refine con_pure fun w ρ X vals hlow hext hargs => ?_
    simp only [VReps, VRep, Rep] at hargs
    obtain ⟨_, _, rfl, rfl, rfl⟩ := hargs
    split at h
    · rename_i v hv
      cases h
      refine (Tryz.strconv_Atoi_ok ⟨⟨s⟩⟩ (by show s.length ≤ _; omega) v hv w).mono ?_
      rintro e w' ⟨rfl, hw'⟩
      refine ⟨_, rfl, ?_, by simp only [VRep]; exact ⟨_, rfl, by simp [VReps, VRep, Rep]⟩⟩
      rcases hw' with rfl | ⟨t, rfl⟩
      · exact Below.refl _ _
      · exact below_bytes _ _ _
    · rename_i hv
      cases h
      obtain ⟨t, p, hm⟩ := hw.errR
      refine (Tryz.strconv_Atoi_range ⟨⟨s⟩⟩ hn hv _ w (by rw [hw.cell hext (by omega)]; exact hm) (.inr ⟨t, p, rfl⟩)).mono ?_
      rintro e w' ⟨N, rfl, _, _, hb⟩
      exact ⟨_, rfl, hb, by simp only [VRep]; exact ⟨_, rfl, by simp only [VReps, VRep, Rep]; exact ⟨_, _, rfl, rfl, _, _, rfl, ⟨(fun h => by cases h), fun _ => ⟨_, _, rfl⟩⟩, rfl⟩⟩⟩
    · rename_i hok hrg
      cases h
      cases hv : Lib.atoiAll s with
      | ok v => exact absurd hv (hok v)
      | range => exact absurd hv hrg
      | _ =>
        obtain ⟨t, p, hm⟩ := hw.errS
        refine (Tryz.strconv_Atoi_syntax ⟨⟨s⟩⟩ hn hok hrg _ w (by rw [hw.cell hext (by omega)]; exact hm) (.inr ⟨t, p, rfl⟩)).mono ?_
        rintro e w' ⟨N, rfl, _, _, hb⟩
        exact ⟨_, rfl, hb, by simp only [VRep]; exact ⟨_, rfl, by simp only [VReps, VRep, Rep]; exact ⟨_, _, rfl, rfl, _, _, rfl, ⟨(fun h => by cases h), fun _ => ⟨_, _, rfl⟩⟩, rfl⟩⟩⟩
  · cases h

theorem splitS_con {wg : World} (hw : WG wg) {s sep : Str} {r : List Str} (h : splitS s sep = some r) : Con Tryz.prog wg gl 41 [.v (.str s), .v (.str sep)] [] (.v (.sl 1 (r.map eStr))) [] := by
  unfold splitS at h
  split at h
  · rename_i hn
    cases h
    refine con_pure fun w ρ X vals hlow hext hargs => ?_
    simp only [VReps, VRep, Rep] at hargs
    obtain ⟨_, _, rfl, rfl, _, _, rfl, rfl, rfl⟩ := hargs
    obtain ⟨m, hm⟩ := hw.maxLen
    refine (Tryz.strings_Split ⟨⟨s⟩⟩ ⟨⟨sep⟩⟩ m w hn.1 (by rw [hw.cell hext (by omega)]; exact hm) hn.2).mono ?_
    rintro e w' ⟨rfl, rfl⟩
    have hd := Lib.splitB_data ⟨⟨sep⟩⟩ 0 (Lib.countB ⟨⟨s⟩⟩ ⟨⟨sep⟩⟩) ⟨⟨s⟩⟩
    have hl := Lib.splitB_all ⟨⟨sep⟩⟩ hn.2 0 (Lib.countB ⟨⟨s⟩⟩ ⟨⟨sep⟩⟩) ⟨⟨s⟩⟩ rfl
    have hd : (Lib.splitB ⟨⟨sep⟩⟩ 0 (Lib.countB ⟨⟨s⟩⟩ ⟨⟨sep⟩⟩) ⟨⟨s⟩⟩).map (·.data.toList) = Lib.split s sep := hd
    generalize Lib.splitB ⟨⟨sep⟩⟩ 0 (Lib.countB ⟨⟨s⟩⟩ ⟨⟨sep⟩⟩) ⟨⟨s⟩⟩ = bs at hd hl
    refine ⟨_, rfl, (Below.refl _ _).alloc (Nat.le_refl _) _, ?_⟩
    have hlen : (Lib.split s sep).length = Lib.countB ⟨⟨s⟩⟩ ⟨⟨sep⟩⟩ + 1 := by rw [← hd, List.length_map, hl]
    simp only [VRep, Rep]
    refine ⟨some ⟨w.heap.size, 0, none⟩, Lib.countB ⟨⟨s⟩⟩ ⟨⟨sep⟩⟩ + 1, by rw [List.length_map, hlen], by rw [List.length_map, hlen]; exact Nat.le_refl _, (fun h => by cases h), fun ad had _ => ?_⟩
    cases had
    refine ⟨rfl, by simp, fun hx => Nat.lt_irrefl _ (hlow _ hx), RowsAt.mk fun i e hi => ?_⟩
    rw [List.getElem?_map] at hi
    cases hs : (Lib.split s sep)[i]? with
    | none => rw [hs] at hi; cases hi
    | some x =>
      rw [hs] at hi
      simp only [Option.map_some, Option.some.injEq] at hi
      subst hi
      rw [← hd, List.getElem?_map] at hs
      cases hb : bs[i]? with
      | none => rw [hb] at hs; cases hs
      | some b =>
        rw [hb] at hs
        simp only [Option.map_some, Option.some.injEq] at hs
        subst hs
        refine ⟨[.string b], by simp only [eStr, Reps, Rep]; exact ⟨_, _, rfl, rfl, rfl⟩, rfl, fun q y hq => ?_⟩
        cases q with
        | zero =>
          simp only [List.getElem?_cons_zero, Option.some.injEq] at hq
          subst hq
          show (w.alloc (.cells (bs.map Value.string).toArray 9)).cell? ⟨w.heap.size, 0 + i * 1 + 0, none⟩ = _
          have hheap : (w.alloc (.cells (bs.map Value.string).toArray 9)).heap[w.heap.size]? = some (.cells (bs.map Value.string).toArray 9) := by
            show (w.heap.push _)[w.heap.size]? = _
            simp
          simp only [World.cell?, hheap]
          simp [hb]
        | succ q => simp at hq
  · cases h

theorem splitNS_con {wg : World} (hw : WG wg) {s sep : Str} {n : Int} {r : List Str} (h : splitNS s sep n = some r) : Con Tryz.prog wg gl 66 [.v (.str s), .v (.str sep), .v (.int .i64 n)] [] (.v (.sl 1 (r.map eStr))) [] := by
  unfold splitNS at h
  split at h
  · rename_i hn
    obtain ⟨n1, n2, n3, n4⟩ := hn
    cases h
    refine con_pure fun w ρ X vals hlow hext hargs => ?_
    simp only [VReps, VRep, Rep] at hargs
    obtain ⟨_, _, rfl, rfl, _, _, rfl, rfl, _, _, rfl, rfl, rfl⟩ := hargs
    obtain ⟨m, hm⟩ := hw.maxLen
    obtain ⟨N, rfl⟩ := Int.eq_ofNat_of_zero_le (show 0 ≤ n by omega)
    refine (Tryz.strings_SplitN ⟨⟨s⟩⟩ ⟨⟨sep⟩⟩ N m w n1 (by rw [hw.cell hext (by omega)]; exact hm) n2 (by omega) (by omega)).mono ?_
    rintro e w' ⟨rfl, rfl⟩
    have hsz : (⟨⟨s⟩⟩ : ByteArray).size = s.length := rfl
    rw [hsz]
    have hd := Lib.splitB_data ⟨⟨sep⟩⟩ 0 (min N (s.length + 1) - 1) ⟨⟨s⟩⟩
    have hl := Lib.splitB_length_le ⟨⟨sep⟩⟩ 0 (min N (s.length + 1) - 1) ⟨⟨s⟩⟩
    have hd : (Lib.splitB ⟨⟨sep⟩⟩ 0 (min N (s.length + 1) - 1) ⟨⟨s⟩⟩).map (·.data.toList) = Lib.splitN s sep N := hd
    generalize Lib.splitB ⟨⟨sep⟩⟩ 0 (min N (s.length + 1) - 1) ⟨⟨s⟩⟩ = bs at hd hl
    have hN : 1 ≤ min N (s.length + 1) := by omega
    generalize hq : min N (s.length + 1) = q at hl hN
    refine ⟨_, rfl, (Below.refl _ _).alloc (Nat.le_refl _) _, ?_⟩
    have hlen : (Lib.splitN s sep N).length = bs.length := by rw [← hd, List.length_map]
    have hn2 : ((N : Nat) : Int).toNat = N := rfl
    rw [hn2]
    simp only [VRep, Rep]
    refine ⟨some ⟨w.heap.size, 0, none⟩, q, by rw [List.length_map, hlen], by rw [List.length_map, hlen]; omega, (fun h => by cases h), fun ad had _ => ?_⟩
    cases had
    refine ⟨rfl, by simp, fun hx => Nat.lt_irrefl _ (hlow _ hx), RowsAt.mk fun i e hi => ?_⟩
    rw [List.getElem?_map] at hi
    cases hs : (Lib.splitN s sep N)[i]? with
    | none => rw [hs] at hi; cases hi
    | some x =>
      rw [hs] at hi
      simp only [Option.map_some, Option.some.injEq] at hi
      subst hi
      rw [← hd, List.getElem?_map] at hs
      cases hb : bs[i]? with
      | none => rw [hb] at hs; cases hs
      | some b =>
        rw [hb] at hs
        simp only [Option.map_some, Option.some.injEq] at hs
        subst hs
        have hib : i < bs.length := (List.getElem?_eq_some_iff.1 hb).1
        refine ⟨[.string b], by simp only [eStr, Reps, Rep]; exact ⟨_, _, rfl, rfl, rfl⟩, rfl, fun j y hj => ?_⟩
        cases j with
        | zero =>
          simp only [List.getElem?_cons_zero, Option.some.injEq] at hj
          subst hj
          have hheap : (w.alloc (.cells (Lib.cellsOf bs q) 9)).heap[w.heap.size]? = some (.cells (Lib.cellsOf bs q) 9) := by
            show (w.heap.push _)[w.heap.size]? = _
            simp
          simp only [World.cell?, hheap]
          simp only [Lib.cellsOf, Nat.zero_add, Nat.mul_one, Nat.add_zero, List.getElem?_toArray]
          rw [List.getElem?_append_left (by simpa using hib)]
          simp [hb]
        | succ j => simp at hj
  · cases h

/-- A row that was made is data. -/
theorem rep_strs {w w' : World} {X : Nat → Prop} {T : Nat} {v : Value} {l : List Str} (hlow : ∀ b, X b → b < w.heap.size) (h : w'.ownsRow w.heap.size T 1 v l.length (l.map fun s => Value.string ⟨⟨s⟩⟩)) : Rep w' X (.sl 1 (l.map eStr)) v := by
  have hrows : RepRows w' X (l.map eStr) (l.map fun s => [Value.string ⟨⟨s⟩⟩]) := by
    have : ∀ l : List Str, RepRows w' X (l.map eStr) (l.map fun s => [Value.string ⟨⟨s⟩⟩]) := by
      intro l
      induction l with
      | nil => simp [RepRows]
      | cons s l ih => simp only [List.map_cons, RepRows]; exact ⟨_, _, rfl, by simp [eStr, Reps, Rep], ih⟩
    exact this l
  have hfl : (l.map fun s => [Value.string ⟨⟨s⟩⟩]).flatten = l.map fun s => Value.string ⟨⟨s⟩⟩ := by
    have : ∀ l : List Str, (l.map fun s => [Value.string ⟨⟨s⟩⟩]).flatten = l.map fun s => Value.string ⟨⟨s⟩⟩ := by
      intro l
      induction l with
      | nil => rfl
      | cons s l ih => simp only [List.map_cons, List.flatten_cons, ih]; rfl
    exact this l
  refine rep_of_row (T := T) (X := X) (X' := X) (Keep.refl _ _) hrows (fun r hr => ?_) (OwnsR.of (base := w.heap.size) (by rw [hfl, List.length_map]; exact h)) (fun b hb hx => ?_)
  · obtain ⟨s, _, rfl⟩ := List.mem_map.1 hr; rfl
  · rcases h.2 with ⟨e, _⟩ | ⟨g, cap, cur, e, hge, _⟩
    · rw [e] at hb; simp [ob] at hb
    · rw [e] at hb; simp only [ob, Option.some.injEq] at hb; subst hb; exact Nat.lt_irrefl _ (Nat.lt_of_lt_of_le (hlow _ hx) hge)

theorem cloneS_con {wg : World} (hw : WG wg) {l r : List Str} (h : cloneS l = some r) : Con Tryz.prog wg gl 51 [.v (.sl 1 (l.map eStr))] [] (.v (.sl 1 (r.map eStr))) [] := by
  unfold cloneS at h
  split at h
  · rename_i hn
    cases h
    refine con_pure fun w ρ X vals hlow hext hargs => ?_
    simp only [VReps, VRep, Rep] at hargs
    obtain ⟨_, _, rfl, ⟨base, cap, rfl, h2, h3, h4⟩, rfl⟩ := hargs
    cases hb : base with
    | none =>
      have := h3 hb
      simp only [List.map_eq_nil_iff] at this
      subst this
      refine (Tryz.slices_Clone_string_nil 0 cap w).mono ?_
      rintro e w' ⟨rfl, rfl⟩
      exact ⟨_, rfl, Below.refl _ _, by simp only [VRep, Rep]; exact ⟨none, 0, rfl, Nat.le_refl _, fun _ => rfl, fun ad h => by cases h⟩⟩
    | some ad =>
      by_cases hl : l = []
      · subst hl
        refine (Tryz.slices_Clone_string_zero ad cap w).mono ?_
        rintro e w' ⟨v', rfl, ho, _, hbel⟩
        exact ⟨_, rfl, hbel, by simp only [VRep]; exact rep_strs (l := []) hlow ho⟩
      · obtain ⟨h5, h6, h7, h8⟩ := h4 ad hb (by simpa using hl)
        obtain ⟨b, o, q⟩ := ad
        simp only at h5; subst h5
        have hcells := reps_strs h8
        rw [List.length_map]
        refine (Tryz.slices_Clone_string b o l.length cap (l.map fun s => (⟨⟨s⟩⟩ : ByteArray)) w (by simp) hn (fun j hj => by
          have := hcells j ((l.map fun s => (⟨⟨s⟩⟩ : ByteArray))[j]) (by simp)
          rw [this]; simp [List.getD_eq_getElem?_getD, List.getElem?_eq_getElem hj])).mono ?_
        rintro e w' ⟨v', rfl, ho, _, hbel⟩
        refine ⟨_, rfl, hbel, ?_⟩
        have e1 : ((l.map fun s => (⟨⟨s⟩⟩ : ByteArray)).take l.length).map Value.string = l.map fun s => Value.string ⟨⟨s⟩⟩ := by rw [List.take_of_length_le (by simp), List.map_map]; rfl
        rw [e1] at ho
        simp only [VRep]
        exact rep_strs hlow ho
  · cases h

end Go.Proofs.YtbilobjddflpeaaGreatDoor
