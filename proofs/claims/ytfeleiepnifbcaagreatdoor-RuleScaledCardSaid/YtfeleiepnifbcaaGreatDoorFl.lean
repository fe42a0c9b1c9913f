/- strings.Fields and strings.ReplaceAll by their contracts. -/
import Derived.Test.YtfeleiepnifbcaaGreatDoorLib
import Derived.Test.YtfeleiepnifbcaaGreatDoorFp
set_option linter.unusedVariables false
namespace Go.Proofs.YtfeleiepnifbcaaGreatDoor
open Go.V Go.C Go.RowKit

theorem WG.tabS {wg w : World} {X : Nat → Prop} (hw : WG wg) (he : Ext wg w X) : Lib.TabIs Tryz.prog w "strings.asciiSpace" .u8 Lib.asciiSpaceTab := by
  have h1 := hw.space
  have h2 := hw.low
  have hg : Tryz.prog.globalNamed "strings.asciiSpace" = some 1 := by kernel_rfl
  unfold Lib.TabIs World.var? at *
  rw [hg] at h1 ⊢
  simp only [Option.bind_some] at h1 ⊢
  rw [(he.block 1 (by omega)).1]; exact h1
theorem replaceAllS_con {wg : World} (hw : WG wg) {s old new r : Str} (h : replaceAllS s old new = some r) : Con Tryz.prog wg gl 57 [.v (.str s), .v (.str old), .v (.str new)] [] (.v (.str r)) [] := by
  unfold replaceAllS at h
  split at h
  · rename_i hn
    cases h
    refine con_pure fun w ρ X vals hlow hext hargs => ?_
    simp only [VReps, VRep, Rep] at hargs
    obtain ⟨_, _, rfl, rfl, _, _, rfl, rfl, _, _, rfl, rfl, rfl⟩ := hargs
    obtain ⟨m, hm⟩ := hw.maxLen
    refine (Tryz.strings_ReplaceAll ⟨⟨s⟩⟩ ⟨⟨old⟩⟩ ⟨⟨new⟩⟩ m w hn.1 (by rw [hw.cell hext (by omega)]; exact hm) hn.2.1 hn.2.2).mono ?_
    rintro e w' ⟨rfl, hb⟩
    exact ⟨_, rfl, hb, by simp only [VRep, Rep]⟩
  · cases h
theorem fieldsS_con {wg : World} (hw : WG wg) {s : Str} {r : List Str} (h : fieldsS s = some r) : Con Tryz.prog wg gl 58 [.v (.str s)] [] (.v (.sl 1 (r.map eStr))) [] := by
  unfold fieldsS at h
  split at h
  · rename_i hn
    cases h
    refine con_pure fun w ρ X vals hlow hext hargs => ?_
    simp only [VReps, VRep, Rep] at hargs
    obtain ⟨_, _, rfl, rfl, rfl⟩ := hargs
    refine (Tryz.strings_Fields ⟨⟨s⟩⟩ w hn.1 (fun j b hb => by
      have := List.all_eq_true.1 hn.2 b (List.mem_of_getElem? hb)
      exact of_decide_eq_true this) (hw.tabS hext)).mono ?_
    rintro e w' ⟨rfl, rfl⟩
    refine ⟨_, rfl, (Below.refl _ _).alloc (Nat.le_refl _) _, ?_⟩
    simp only [VRep, Rep]
    refine ⟨some ⟨w.heap.size, 0, none⟩, (Lib.fields s).length, by rw [List.length_map], by rw [List.length_map]; exact Nat.le_refl _, (fun h => by cases h), fun ad had _ => ?_⟩
    cases had
    refine ⟨rfl, by simp, fun hx => Nat.lt_irrefl _ (hlow _ hx), RowsAt.mk fun i e hi => ?_⟩
    rw [List.getElem?_map] at hi
    cases hs : (Lib.fields s)[i]? with
    | none => rw [hs] at hi; cases hi
    | some x =>
      rw [hs] at hi
      simp only [Option.map_some, Option.some.injEq] at hi
      subst hi
      refine ⟨[.string ⟨⟨x⟩⟩], by simp [eStr, Reps, Rep], rfl, fun j y hy => ?_⟩
      cases j with
      | succ j => simp at hy
      | zero =>
        simp only [List.getElem?_cons_zero, Option.some.injEq] at hy
        subst hy
        show (w.alloc (.cells ((Lib.fields s).map fun l => Value.string ⟨l.toArray⟩).toArray 9)).cell? ⟨w.heap.size, 0 + i * 1 + 0, none⟩ = _
        have hheap : (w.alloc (.cells ((Lib.fields s).map fun l => Value.string ⟨l.toArray⟩).toArray 9)).heap[w.heap.size]? = some (.cells ((Lib.fields s).map fun l => Value.string ⟨l.toArray⟩).toArray 9) := by
          show (w.heap.push _)[w.heap.size]? = _
          simp
        simp only [World.cell?, hheap]
        simp [hs]
  · cases h
end Go.Proofs.YtfeleiepnifbcaaGreatDoor
