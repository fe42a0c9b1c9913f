/- strings.Builder's copy check and String, by their contracts. -/
import Derived.Test.YtfkefolbabniaaaGreatDoorLib
import Derived.Test.YtfkefolbabniaaaGreatDoorBp
import Derived.Shelf.Strings.BuilderK
import Derived.Lib.SmallJoins
set_option linter.unusedVariables false
set_option linter.unusedSimpArgs false
namespace Go.Proofs
open Go.Shelf Go.RowKit
variable {P : Program} {ρ : Ren}

theorem World.grownBy.drew' (w : World) (r : Option Nat) : w.grownBy w.drew r := ⟨rfl, rfl, rfl, Nat.le_refl _, fun _ _ _ => rfl⟩
theorem World.grownBy.freeze' (w : World) (g n : Nat) : w.grownBy (w.drew.freeze ⟨g, 0, none⟩ n) (some g) := by
  unfold World.freeze
  split
  · exact ⟨rfl, rfl, rfl, Nat.le_refl _, fun _ _ _ => rfl⟩
  · refine ⟨rfl, rfl, rfl, by show w.heap.size ≤ (Array.modify _ _ _).size; rw [Array.size_modify]; exact Nat.le_refl _, fun k hk hne => ?_⟩
    simp only [Array.getElem?_modify]
    rw [if_neg (fun e => hne (by rw [← e]))]
    rfl
theorem World.grownBy.alloc' (w : World) (o : Obj) (r : Option Nat) : w.grownBy (w.drew.alloc o) r := ⟨rfl, rfl, rfl, by simp, fun k hk _ => Go.heap_alloc_old w.drew _ hk⟩

set_option maxHeartbeats 1000000 in
set_option maxRecDepth 100000 in
theorem string_some (L : Lays.n169 P ρ) (X : Builder.Extra P ρ) (b : Nat) (l : List UInt8) (w : World) (h0 : l ≠ []) (p : Value) (g cap : Nat) (cur : Array Value) (fz : Nat × Nat)
    (hbk : w.heap[b]? = some (.cells #[p, .slice (some ⟨g, 0, none⟩) l.length cap] (ρ.t 72) (0, 0))) (hbg : w.heap[g]? = some (.cells cur (ρ.t 5) fz)) (hnc : l.length ≤ cap) (hcm : cap ≤ maxLen) (hcs : cur.size = cap * 1) (htake : cur.toList.take (l.length * 1) = Lib.byteCells l) :
    Calls P (ρ.f 169) #[.pointer (some ⟨b, 0, none⟩)] w fun e w' => e = .returned (.string ⟨l.toArray⟩) ∧ w.grownBy w' (some g) := by
  have hl0 : l.length ≠ 0 := by simpa using h0
  have c1 : w.drew.cell? ⟨b, 1, none⟩ = some (.slice (some ⟨g, 0, none⟩) l.length cap) := by
    have : w.drew.heap[b]? = some (.cells #[p, .slice (some ⟨g, 0, none⟩) l.length cap] (ρ.t 72) (0, 0)) := hbk
    rw [Lib.cell_of_heap this]; rfl
  have hSD : (Builtin.unsafeSliceData_ #[(ρ.t 37)] (ρ.t 127) #[.slice (some ⟨g, 0, none⟩) l.length cap]).run P w.drew = .ok (.pointer (some ⟨g, 0, none⟩)) w.drew :=
    Lib.run_unsafeSliceData_row _ _ _ _ _ _ (by omega)
  have hUS : (Builtin.unsafeString_ #[(ρ.t 127), (ρ.t 3)] (ρ.t 9) #[.pointer (some ⟨g, 0, none⟩), .int .i64 l.length]).run P w.drew = .ok (.string ⟨l.toArray⟩) (w.drew.freeze ⟨g, 0, none⟩ l.length) := by
    refine Lib.run_unsafeString_row w.drew (ρ.t 127) (ρ.t 3) (ρ.t 9) (ρ.t 5) L.t127 X.cellsByte g cur.size (by have hg' : w.drew.heap[g]? = some (.cells cur (ρ.t 5) fz) := hbg; simp [World.shape?, hg']) l h0 (by omega) (by unfold maxLen at hcm; omega) ?_
    intro j x hx
    have hj : (Lib.byteCells l)[j]? = some (.int .u8 x.toNat) := by simp [Lib.byteCells, hx]
    rw [← htake, List.getElem?_take] at hj
    split at hj
    · rw [Addr.add_lit, cell_of_row w.drew g (0 + j) cur (ρ.t 5) fz hbg]
      simpa using hj
    · cases hj
  have hfin : w.grownBy (w.drew.freeze ⟨g, 0, none⟩ l.length) (some g) := World.grownBy.freeze' w g _
  have mixed := L.mixed
  have t72 := L.t72; have a72 := L.a72; have z72 := L.z72; have v72 := L.v72; have u72 := run_underlying L.t72
  have t70 := L.t70; have a70 := L.a70; have z70 := L.z70; have v70 := L.v70; have u70 := run_underlying L.t70
  have t37 := L.t37; have a37 := L.a37; have z37 := L.z37; have v37 := L.v37; have u37 := run_underlying L.t37
  have t127 := L.t127; have a127 := L.a127; have z127 := L.z127; have v127 := L.v127; have u127 := run_underlying L.t127
  have t3 := L.t3; have a3 := L.a3; have z3 := L.z3; have v3 := L.v3; have u3 := run_underlying L.t3
  have t9 := L.t9; have a9 := L.a9; have z9 := L.z9; have v9 := L.v9; have u9 := run_underlying L.t9
  have t5 := X.t5; have a5 := X.a5; have z5 := X.z5; have v5 := X.v5; have u5 := run_underlying X.t5
  go_enter L.f169, Body.n169_ntmps ρ
  go_wp2
  go_region_o
  all_goals (go_wp2; go_ret; exact ⟨rfl, hfin⟩)

set_option maxHeartbeats 2000000 in
set_option maxRecDepth 100000 in
theorem string_nil (L : Lays.n169 P ρ) (X : Builder.Extra P ρ) (b : Nat) (p : Value) (w : World) (r : Option Nat) (hbk : w.heap[b]? = some (.cells #[p, .slice none 0 0] (ρ.t 72) (0, 0))) :
    Calls P (ρ.f 169) #[.pointer (some ⟨b, 0, none⟩)] w fun e w' => e = .returned (.string ⟨#[]⟩) ∧ w.grownBy w' r := by
  have hUS := Any.unsafeString_none L X
  have c1 : w.drew.cell? ⟨b, 1, none⟩ = some (.slice none 0 0) := by
    have : w.drew.heap[b]? = some (.cells #[p, .slice none 0 0] (ρ.t 72) (0, 0)) := hbk
    rw [Lib.cell_of_heap this]; rfl
  have hSD : (Builtin.unsafeSliceData_ #[(ρ.t 37)] (ρ.t 127) #[.slice none 0 0]).run P w.drew = .ok (.pointer none) w.drew := rfl
  have mixed := L.mixed
  have t72 := L.t72; have a72 := L.a72; have z72 := L.z72; have v72 := L.v72; have u72 := run_underlying L.t72
  have t70 := L.t70; have a70 := L.a70; have z70 := L.z70; have v70 := L.v70; have u70 := run_underlying L.t70
  have t37 := L.t37; have a37 := L.a37; have z37 := L.z37; have v37 := L.v37; have u37 := run_underlying L.t37
  have t127 := L.t127; have a127 := L.a127; have z127 := L.z127; have v127 := L.v127; have u127 := run_underlying L.t127
  have t3 := L.t3; have a3 := L.a3; have z3 := L.z3; have v3 := L.v3; have u3 := run_underlying L.t3
  have t9 := L.t9; have a9 := L.a9; have z9 := L.z9; have v9 := L.v9; have u9 := run_underlying L.t9
  have t5 := X.t5; have a5 := X.a5; have z5 := X.z5; have v5 := X.v5; have u5 := run_underlying X.t5
  have hfin : w.grownBy w.drew r := World.grownBy.drew' w r
  go_enter L.f169, Body.n169_ntmps ρ
  go_wp2
  go_region_o
  all_goals (go_wp2; go_ret; exact ⟨rfl, hfin⟩)

set_option maxHeartbeats 2000000 in
set_option maxRecDepth 100000 in
theorem string_noroom (L : Lays.n169 P ρ) (X : Builder.Extra P ρ) (b g : Nat) (p : Value) (cur : Array Value) (w : World) (r : Option Nat) (hbk : w.heap[b]? = some (.cells #[p, .slice (some ⟨g, 0, none⟩) 0 0] (ρ.t 72) (0, 0))) (fz : Nat × Nat) (hg : w.heap[g]? = some (.cells cur (ρ.t 5) fz)) :
    Calls P (ρ.f 169) #[.pointer (some ⟨b, 0, none⟩)] w fun e w' => e = .returned (.string ⟨#[]⟩) ∧ w.grownBy w' r := by
  have hUS := Any.unsafeString_none L X
  have hlt : b < w.heap.size := by
    rcases Nat.lt_or_ge b w.heap.size with h' | h'
    · exact h'
    · simp [Array.getElem?_eq_none h'] at hbk
  have c1 : w.drew.cell? ⟨b, 1, none⟩ = some (.slice (some ⟨g, 0, none⟩) 0 0) := by
    have : w.drew.heap[b]? = some (.cells #[p, .slice (some ⟨g, 0, none⟩) 0 0] (ρ.t 72) (0, 0)) := hbk
    rw [Lib.cell_of_heap this]; rfl
  have hSD : (Builtin.unsafeSliceData_ #[(ρ.t 37)] (ρ.t 127) #[.slice (some ⟨g, 0, none⟩) 0 0]).run P w.drew = .ok (.pointer (some ⟨w.drew.heap.size, 0, none⟩)) (w.drew.alloc (.view ⟨g, 0, none⟩ (ρ.t 5))) :=
    Lib.run_unsafeSliceData_zero w.drew _ _ (ρ.t 5) L.t127 ⟨g, 0, none⟩ 0 ((ρ.t 5), cur.size) (by have hg' : w.drew.heap[g]? = some (.cells cur (ρ.t 5) fz) := hg; simp [World.shape?, hg'])
  have c2 : (w.drew.alloc (.view ⟨g, 0, none⟩ (ρ.t 5))).cell? ⟨b, 1, none⟩ = some (.slice (some ⟨g, 0, none⟩) 0 0) := by
    have : (w.drew.alloc (.view ⟨g, 0, none⟩ (ρ.t 5))).heap[b]? = _ := (Lib.alloc_old w.drew _ b hlt).trans hbk
    rw [Lib.cell_of_heap this]; rfl
  have c3 : (w.alloc (.view ⟨g, 0, none⟩ (ρ.t 5))).drew.cell? ⟨b, 1, none⟩ = some (.slice (some ⟨g, 0, none⟩) 0 0) := c2
  have c0 : w.cell? ⟨b, 1, none⟩ = some (.slice (some ⟨g, 0, none⟩) 0 0) := c1
  have mixed := L.mixed
  have t72 := L.t72; have a72 := L.a72; have z72 := L.z72; have v72 := L.v72; have u72 := run_underlying L.t72
  have t70 := L.t70; have a70 := L.a70; have z70 := L.z70; have v70 := L.v70; have u70 := run_underlying L.t70
  have t37 := L.t37; have a37 := L.a37; have z37 := L.z37; have v37 := L.v37; have u37 := run_underlying L.t37
  have t127 := L.t127; have a127 := L.a127; have z127 := L.z127; have v127 := L.v127; have u127 := run_underlying L.t127
  have t3 := L.t3; have a3 := L.a3; have z3 := L.z3; have v3 := L.v3; have u3 := run_underlying L.t3
  have t9 := L.t9; have a9 := L.a9; have z9 := L.z9; have v9 := L.v9; have u9 := run_underlying L.t9
  have t5 := X.t5; have a5 := X.a5; have z5 := X.z5; have v5 := X.v5; have u5 := run_underlying X.t5
  have hfin : w.grownBy (w.drew.alloc (.view ⟨g, 0, none⟩ (ρ.t 5))) r := World.grownBy.alloc' w _ r
  have hfin2 : w.grownBy ((w.alloc (.view ⟨g, 0, none⟩ (ρ.t 5))).drew) r := hfin
  go_enter L.f169, Body.n169_ntmps ρ
  go_wp2
  go_region_o
  all_goals (go_wp2; go_ret; first | exact ⟨rfl, hfin⟩ | exact ⟨rfl, hfin2⟩)

set_option maxHeartbeats 2000000 in
set_option maxRecDepth 100000 in
theorem string_room (L : Lays.n169 P ρ) (X : Builder.Extra P ρ) (b g cap : Nat) (p : Value) (w : World) (r : Option Nat) (hc0 : cap ≠ 0) (hbk : w.heap[b]? = some (.cells #[p, .slice (some ⟨g, 0, none⟩) 0 cap] (ρ.t 72) (0, 0))) :
    Calls P (ρ.f 169) #[.pointer (some ⟨b, 0, none⟩)] w fun e w' => e = .returned (.string ⟨#[]⟩) ∧ w.grownBy w' r := by
  have hUS := Any.unsafeString_none L X
  have c1 : w.drew.cell? ⟨b, 1, none⟩ = some (.slice (some ⟨g, 0, none⟩) 0 cap) := by
    have : w.drew.heap[b]? = some (.cells #[p, .slice (some ⟨g, 0, none⟩) 0 cap] (ρ.t 72) (0, 0)) := hbk
    rw [Lib.cell_of_heap this]; rfl
  have hSD : (Builtin.unsafeSliceData_ #[(ρ.t 37)] (ρ.t 127) #[.slice (some ⟨g, 0, none⟩) 0 cap]).run P w.drew = .ok (.pointer (some ⟨g, 0, none⟩)) w.drew :=
    Lib.run_unsafeSliceData_row _ _ _ _ _ _ hc0
  clear hc0
  have mixed := L.mixed
  have t72 := L.t72; have a72 := L.a72; have z72 := L.z72; have v72 := L.v72; have u72 := run_underlying L.t72
  have t70 := L.t70; have a70 := L.a70; have z70 := L.z70; have v70 := L.v70; have u70 := run_underlying L.t70
  have t37 := L.t37; have a37 := L.a37; have z37 := L.z37; have v37 := L.v37; have u37 := run_underlying L.t37
  have t127 := L.t127; have a127 := L.a127; have z127 := L.z127; have v127 := L.v127; have u127 := run_underlying L.t127
  have t3 := L.t3; have a3 := L.a3; have z3 := L.z3; have v3 := L.v3; have u3 := run_underlying L.t3
  have t9 := L.t9; have a9 := L.a9; have z9 := L.z9; have v9 := L.v9; have u9 := run_underlying L.t9
  have t5 := X.t5; have a5 := X.a5; have z5 := X.z5; have v5 := X.v5; have u5 := run_underlying X.t5
  have hfin : w.grownBy w.drew r := World.grownBy.drew' w r
  go_enter L.f169, Body.n169_ntmps ρ
  go_wp2
  go_region_o
  all_goals (go_wp2; go_ret; exact ⟨rfl, hfin⟩)

end Go.Proofs
namespace Go.Proofs.YtfkefolbabniaaaGreatDoor
open Go.V Go.C Go.RowKit

theorem rows_ints {w : World} {X : Nat → Prop} : ∀ {xs : List Int} {rows : List (List Value)}, RepRows w X (xs.map eInt_u8) rows → rows.flatten = xs.map (Value.int .u8)
  | [], rows, h => by simp only [List.map_nil, RepRows] at h; subst h; rfl
  | x :: xs, rows, h => by
    simp only [List.map_cons, RepRows] at h
    obtain ⟨c, r, rfl, h1, h2⟩ := h
    simp only [eInt_u8, Reps, Rep] at h1
    obtain ⟨v, q, rfl, rfl, rfl⟩ := h1
    simp only [List.flatten_cons, rows_ints h2, List.map_cons]; rfl

theorem pins_same {ρ : Nat → Value} {O : List (Nat × Ob)} {N : Nat → Prop} : ∀ k v, get (pinsOf ρ O) k = some v → N k → ρ k = v := fun _ _ h _ => (pinsOf_get h).1

theorem bCheck_con {wg : World} (hw : WG wg) {b : StringsBuilder} {r : Unit} (h : bCheck b = some r) : Con Tryz.prog wg gl 140 [.p 0 0] [(0, .blk 126 [.sp 0, .r 601]), (601, .row 5 1 (b.buf.map eInt_u8))] (.tup []) [(0, .blk 126 [.sp 0, .r 601]), (601, .row 5 1 (b.buf.map eInt_u8))] := by
  intro w ρ F L vals hlow hdis hext hglob hobs hargs
  obtain ⟨bk, vs, hp, hbk, hL0, hvs⟩ := hobs.obj 0 _ rfl
  have hO6 := hobs.obj 601 _ rfl
  simp only [VReps, VRep] at hvs
  obtain ⟨v0, _, rfl, ⟨_, hv0⟩, v1, _, rfl, ⟨_, hv1⟩, rfl⟩ := hvs
  simp only [VReps, VRep] at hargs
  obtain ⟨a0, _, rfl, ⟨_, bk', hp', rfl⟩, rfl⟩ := hargs
  rw [hp] at hp'
  cases hp'
  have fin : ∀ w' : World, Step L w L w' → w'.heap[bk]? = some (.cells #[.pointer (some ⟨bk, 0, none⟩), v1] 126 (0, 0)) → (∀ k, k < w.heap.size → k ≠ bk → w'.heap[k]? = w.heap[k]?) →
      ∃ v ρ' L', Ending.returned (.tuple #[]) = .returned v ∧ VRep (nmO [(0, Ob.blk 126 [.sp 0, .r 601]), (601, .row 5 1 (b.buf.map eInt_u8))]) ρ' w' (un F L') (.tup []) v ∧
        ObsOk [(0, Ob.blk 126 [.sp 0, .r 601]), (601, .row 5 1 (b.buf.map eInt_u8))] ρ' w' (un F L') L' ∧ Step L w L' w' ∧ (∀ b, L' b → b < w'.heap.size) ∧
        ∀ k v, get (pinsOf ρ [(0, Ob.blk 126 [.sp 0, .r 601]), (601, .row 5 1 (b.buf.map eInt_u8))]) k = some v → nmO [(0, Ob.blk 126 [.sp 0, .r 601]), (601, .row 5 1 (b.buf.map eInt_u8))] k → ρ' k = v := fun w' hst hb' hk' => by
    have hkp : Keep w (un F L) w' (un F L) := keep_of_step hst
    have ne6 : ∀ g, ob (ρ 601) = some g → g ≠ bk := fun g hg e => by
      subst e
      exact hobs.inj 601 _ 0 _ rfl rfl (by decide) rfl rfl g hg (by rw [hp]; rfl)
    refine ⟨.tuple #[], ρ, L, rfl, by simp only [VRep]; exact ⟨[], rfl, by simp [VReps]⟩, ⟨fun k o hk => ?_, hobs.inj⟩, hst, fun b hb => Nat.lt_of_lt_of_le (hlow b (.inr hb)) hst.size, pins_same⟩
    by_cases e0 : 0 = k
    · subst e0
      cases hk
      refine ⟨bk, [.pointer (some ⟨bk, 0, none⟩), v1], hp, hb', hL0, ?_⟩
      simp only [VReps, VRep]
      exact ⟨_, _, rfl, ⟨rfl, .inr hp.symm⟩, _, _, rfl, ⟨rfl, hv1⟩, rfl⟩
    · rw [get_cons_ne _ _ e0] at hk
      by_cases e6 : 601 = k
      · subst e6
        cases hk
        exact hO6.keep (fun _ h => ⟨h, rfl⟩) hkp (fun _ g hg => ⟨hk' g (hlow g (.inr (by
          obtain ⟨_, _, _, _, h4⟩ := hO6
          exact h4 g hg))) (ne6 g hg), id⟩)
      · rw [get_cons_ne _ _ e6] at hk
        cases hk
  have hc0 : w.cell? ⟨bk, 0, none⟩ = some v0 := by rw [Lib.cell_of_heap hbk]; rfl
  rcases hv0 with rfl | rfl
  · refine (Any.Builder_copyCheck_fresh (ρ := Tryz.lays156_ren) { Tryz.lays156 with } Tryz.Builder_Extra_156.toX72 bk w hc0 (by simp [World.shape?, hbk]; rfl) (by simp [World.frozen?, hbk])).mono ?_
    rintro e w' ⟨rfl, rfl⟩
    refine fin _ ⟨rfl, rfl, rfl, by simp [World.setCell], fun k hk hn => Below.heap_setCell _ _ _ _ (fun e => hn (e ▸ hL0)), fun b h => .inl h⟩ ?_ (fun k _ hn => Below.heap_setCell _ _ _ _ (fun e => hn e))
    rw [Go.Joins.block_setCell hbk]; rfl
  · rw [hp] at hc0
    refine (Any.Builder_copyCheck_used (ρ := Tryz.lays156_ren) { Tryz.lays156 with } Tryz.Builder_Extra_156.toX72 bk w hc0).mono ?_
    rintro e w' ⟨rfl, rfl⟩
    exact fin _ (Step.refl _ _) (by rw [hbk, hp]) (fun _ _ _ => rfl)

theorem bString_con {wg : World} (hw : WG wg) {b : StringsBuilder} {r : Str} (h : bString b = some r) : Con Tryz.prog wg gl 94 [.p 0 0] [(0, .blk 126 [.sp 0, .r 601]), (601, .row 5 1 (b.buf.map eInt_u8))] (.v (.str r)) [(0, .dead), (601, .dead)] := by
  unfold bString at h
  split at h
  case isFalse => cases h
  rename_i hbytes
  cases h
  intro w ρ F L vals hlow hdis hext hglob hobs hargs
  obtain ⟨bk, vs, hp, hbk, hL0, hvs⟩ := hobs.obj 0 _ rfl
  have hO6 := hobs.obj 601 _ rfl
  obtain ⟨rows, hr1, hr2, ⟨_, hown⟩, hr4⟩ := hO6
  have hcell6 : isCell (ρ 601) = true := by
    rcases hown with ⟨hv, _⟩ | ⟨g, cap, cur, fz, hv, _⟩ <;> rw [hv] <;> rfl
  simp only [VReps, VRep] at hvs
  obtain ⟨v0, _, rfl, ⟨_, hv0⟩, v1, _, rfl, ⟨_, hv1⟩, rfl⟩ := hvs
  simp only [VReps, VRep] at hargs
  obtain ⟨a0, _, rfl, ⟨_, bk', hp', rfl⟩, rfl⟩ := hargs
  rw [hp] at hp'
  cases hp'
  have hfl := rows_ints hr1
  have hlen : rows.length = (bytesI b.buf).length := by
    have := hr1.length
    rw [List.length_map] at this
    simpa [bytesI] using this
  generalize bytesI b.buf = l at hbytes hlen
  have hfl2 : rows.flatten = Lib.byteCells l := by
    rw [hfl, hbytes]; simp [intsB, Lib.byteCells, List.map_map]
  have fin : ∀ w' : World, ∀ g : Option Nat, (∀ x, g = some x → L x) → w.grownBy w' g →
      ∃ v ρ' L', Ending.returned (.string ⟨l.toArray⟩) = .returned v ∧ VRep (nmO [(0, Ob.dead), (601, Ob.dead)]) ρ' w' (un F L') (.v (.str l)) v ∧
        ObsOk [(0, Ob.dead), (601, Ob.dead)] ρ' w' (un F L') L' ∧ Step L w L' w' ∧ (∀ b, L' b → b < w'.heap.size) ∧
        ∀ k v, get (pinsOf ρ [(0, Ob.blk 126 [.sp 0, .r 601]), (601, .row 5 1 (b.buf.map eInt_u8))]) k = some v → nmO [(0, Ob.dead), (601, Ob.dead)] k → ρ' k = v := fun w' g hg hgr => by
    refine ⟨_, ρ, L, rfl, by simp only [VRep, Rep], ⟨fun k o hk => ?_, fun k o k' o' hk hk' hne l1 l2 => ?_⟩, ⟨hgr.os, hgr.tape, hgr.output, hgr.size, fun k hk hn => hgr.block k hk (fun e => hn (hg k (by first | exact e | exact e.symm))), fun b h => .inl h⟩, fun b hb => Nat.lt_of_lt_of_le (hlow b (.inr hb)) hgr.size, pins_same⟩
    · by_cases e0 : 0 = k
      · subst e0; cases hk; rw [hp]; rfl
      · rw [get_cons_ne _ _ e0] at hk
        by_cases e6 : 601 = k
        · subst e6; cases hk; exact hcell6
        · rw [get_cons_ne _ _ e6] at hk
          cases hk
    · by_cases e0 : 0 = k
      · subst e0; cases hk; cases l1
      · rw [get_cons_ne _ _ e0] at hk
        by_cases e6 : 601 = k
        · subst e6; cases hk; cases l1
        · rw [get_cons_ne _ _ e6] at hk
          cases hk
  rcases hown with ⟨hv, h0⟩ | ⟨g, cap, cur, fz, hv, hg, hfz, hnc, hcm, hcs, htake⟩
  · rw [hv] at hv1
    subst hv1
    have hl0 : l = [] := List.length_eq_zero_iff.1 (by omega)
    subst hl0
    refine (string_nil (ρ := Tryz.lays156_ren) { Tryz.lays156 with } Tryz.Builder_Extra_156 bk v0 w none hbk).mono ?_
    rintro e w' ⟨rfl, hgr⟩
    exact fin w' none (fun _ e => by cases e) hgr
  · rw [hv] at hv1
    subst hv1
    have hLg : ∀ x, some g = some x → L x := fun x e => by cases e; exact hr4 g (by rw [hv]; rfl)
    by_cases hl0 : l = []
    · subst hl0
      have hr0 : rows.length = 0 := by simpa using hlen
      rw [hr0] at hbk
      by_cases hc0 : cap = 0
      · subst hc0
        refine (string_noroom (ρ := Tryz.lays156_ren) { Tryz.lays156 with } Tryz.Builder_Extra_156 bk g v0 cur w (some g) hbk fz hg).mono ?_
        rintro e w' ⟨rfl, hgr⟩
        exact fin w' _ hLg hgr
      · refine (string_room (ρ := Tryz.lays156_ren) { Tryz.lays156 with } Tryz.Builder_Extra_156 bk g cap v0 w (some g) hc0 hbk).mono ?_
        rintro e w' ⟨rfl, hgr⟩
        exact fin w' _ hLg hgr
    · rw [hlen] at hbk hnc htake
      refine (string_some (ρ := Tryz.lays156_ren) { Tryz.lays156 with } Tryz.Builder_Extra_156 bk l w hl0 v0 g cap cur fz hbk hg hnc hcm hcs (by rw [htake, hfl2])).mono ?_
      rintro e w' ⟨rfl, hgr⟩
      exact fin w' _ hLg hgr

end Go.Proofs.YtfkefolbabniaaaGreatDoor
