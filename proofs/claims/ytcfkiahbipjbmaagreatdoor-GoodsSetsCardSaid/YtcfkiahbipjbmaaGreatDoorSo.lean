/- slices.Sort and slices.Compact of texts, by their contracts. -/
import Derived.Test.YtcfkiahbipjbmaaGreatDoorLib
import Derived.Test.YtcfkiahbipjbmaaGreatDoorSp
import Derived.Sort.Grow
import Derived.Sort.EncStr
set_option linter.unusedVariables false
set_option linter.unusedSimpArgs false
namespace Go.Proofs.YtcfkiahbipjbmaaGreatDoor
open Go.V Go.C Go.RowKit Go.Sort

theorem rows_strs2 {w : World} {X : Nat → Prop} : ∀ {xs : List Str} {rows : List (List Value)}, RepRows w X (xs.map eStr) rows → rows = xs.map fun s => [Value.string ⟨⟨s⟩⟩]
  | [], rows, h => by simp only [List.map_nil, RepRows] at h; subst h; rfl
  | x :: xs, rows, h => by
    simp only [List.map_cons, RepRows] at h
    obtain ⟨c, r, rfl, h1, h2⟩ := h
    simp only [eStr, Reps, Rep] at h1
    obtain ⟨v, q, rfl, rfl, rfl⟩ := h1
    rw [rows_strs2 h2, List.map_cons]
theorem reps_strs2 {w : World} {X : Nat → Prop} : ∀ xs : List Str, RepRows w X (xs.map eStr) (xs.map fun s => [Value.string ⟨⟨s⟩⟩])
  | [] => by simp [RepRows]
  | x :: xs => by
    simp only [List.map_cons, RepRows, eStr, Reps, Rep]
    exact ⟨_, _, rfl, ⟨_, _, rfl, rfl, rfl⟩, reps_strs2 xs⟩
theorem flat_strs (xs : List Str) : (xs.map fun s => [Value.string ⟨⟨s⟩⟩]).flatten = xs.map encStr := by
  induction xs with
  | nil => rfl
  | cons x xs ih => simp only [List.map_cons, List.flatten_cons, ih]; rfl

theorem put_take {w : World} {g e : Nat} {cur : Array Value} {fz : Nat × Nat} (hg : w.heap[g]? = some (.cells cur e fz)) (q : Nat) (d : List Str) (hle : d.length ≤ cur.size) :
    ∃ cur' : Array Value, (putRow encStr (Sort.ahead w q) g 0 d.toArray).heap[g]? = some (.cells cur' e fz) ∧ cur'.size = cur.size ∧ cur'.toList.take d.length = d.map encStr := by
  refine ⟨putCells encStr 0 d.toArray cur, ?_, by simp [putCells], ?_⟩
  · show (w.heap.modify g (onCells (putCells encStr 0 d.toArray)))[g]? = _
    rw [Array.getElem?_modify, if_pos rfl, hg]; rfl
  · apply List.ext_getElem?
    intro i
    rw [List.getElem?_take, List.getElem?_map]
    by_cases hi : i < d.length
    · rw [if_pos hi, List.getElem?_eq_getElem hi]
      simp only [putCells, Array.getElem?_toList, Array.getElem?_mapIdx, Array.getElem?_eq_getElem (by omega : i < cur.size), Option.map_some]
      rw [if_pos ⟨by omega, by simpa using hi⟩]
      simp [hi]
    · rw [if_neg hi, List.getElem?_eq_none (by omega)]; rfl
theorem put_other {w : World} {g k : Nat} (q : Nat) (d : Array Str) (h : k ≠ g) : (putRow encStr (Sort.ahead w q) g 0 d).heap[k]? = w.heap[k]? := by
  show (w.heap.modify g _)[k]? = _
  rw [Array.getElem?_modify, if_neg (fun e => h e.symm)]
theorem put_size (w : World) (g q : Nat) (d : Array Str) : (putRow encStr (Sort.ahead w q) g 0 d).heap.size = w.heap.size := by
  show (w.heap.modify g _).size = _
  rw [Array.size_modify]

theorem holds_of {w : World} {g e n : Nat} {cur : Array Value} {fz : Nat × Nat} {l : List Str} (hg : w.heap[g]? = some (.cells cur e fz)) (hfz : fz.2 ≤ fz.1 ∨ cur.size ≤ fz.1) (hn : n = l.length) (hle : n ≤ cur.size) (ht : cur.toList.take n = l.map encStr) : Holds encStr w g 0 l.toArray := by
  intro j hj
  have hj : j < l.length := by simpa using hj
  have h1 : cur[j]? = some (encStr l[j]) := by
    have h2 : (cur.toList.take n)[j]? = some (encStr l[j]) := by rw [ht, List.getElem?_map, List.getElem?_eq_getElem hj]; rfl
    rw [List.getElem?_take, if_pos (by omega)] at h2
    simpa using h2
  have h3 : j < cur.size := by omega
  refine ⟨?_, ?_⟩
  · simp only [World.cell?, hg, Nat.zero_add, h1]
    simp [hj]
  · simp only [World.frozen?, hg, Nat.zero_add]
    rcases hfz with h | h <;> simp <;> omega
theorem obs_one {k : Nat} {o : Ob} {ρ : Nat → Value} {w : World} {X L : Nat → Prop} (h : ObOk (nmO [(k, o)]) ρ w X L (ρ k) o) : ObsOk [(k, o)] ρ w X L := by
  refine ⟨fun j o' hj => ?_, fun j o' j' o2 hj hj' hne _ _ b _ => ?_⟩
  · by_cases e : k = j
    · subst e; rw [get_cons_self] at hj; cases hj; exact h
    · rw [get_cons_ne _ _ e] at hj; cases hj
  · by_cases e : k = j
    · by_cases e' : k = j'
      · exact absurd (e.symm.trans e') hne
      · rw [get_cons_ne _ _ e'] at hj'; cases hj'
    · rw [get_cons_ne _ _ e] at hj; cases hj

theorem sortS_con {wg : World} (hw : WG wg) {l r : List Str} (h : sortS l = some r) : Con Tryz.prog wg gl 21 [.r 0] [(0, .row 9 1 (l.map eStr))] (.tup []) [(0, .row 9 1 (r.map eStr))] := by
  unfold sortS at h
  split at h
  case isFalse => cases h
  rename_i hlen
  cases h
  intro w ρ F L vals hlow hdis hext hglob hobs hargs
  obtain ⟨rows, h1, h2, h3, h4⟩ := hobs.obj 0 _ rfl
  simp only [VReps, VRep] at hargs
  obtain ⟨a0, _, rfl, ⟨_, rfl⟩, rfl⟩ := hargs
  have hrows := rows_strs2 h1
  have hrl : rows.length = l.length := by rw [hrows, List.length_map]
  rcases h3.2 with ⟨hv, hn⟩ | ⟨g, cap, cur, fz, hv, hg, hfz, hcap, hmax, hcs, htake⟩
  · have hl : l = [] := List.eq_nil_of_length_eq_zero (by omega)
    subst hl
    rw [hv]
    refine (Tryz.slices_Sort_string_none none 0 w).mono ?_
    rintro e w' ⟨rfl, rfl⟩
    refine ⟨_, ρ, L, rfl, by simp only [VRep]; exact ⟨[], rfl, by simp [VReps]⟩, obs_one ⟨rows, by simpa using h1, h2, h3, h4⟩, Step.refl _ _, fun b hb => hlow b (.inr hb), fun k v hk _ => (pinsOf_get hk).1⟩
  · rw [hrows, flat_strs] at htake
    rw [hv, hrl]
    have hsz : l.length ≤ cur.size := by omega
    have htk : cur.toList.take l.length = l.map encStr := by rw [← htake, hrl.symm, hrows]; simp
    have hlt := (Array.getElem?_eq_some_iff.1 hg).1
    refine (Tryz.slices_Sort_string g 0 cap l w (holds_of hg hfz rfl hsz htk) hlt hlen).mono ?_
    rintro e w' ⟨rfl, n, os, rfl⟩
    have hml : (l.mergeSort fun x y => decide (x ≤ y)).length = l.length := List.length_mergeSort _
    obtain ⟨cur', c1, c2, c3⟩ := put_take hg n (l.mergeSort fun x y => decide (x ≤ y)) (by omega)
    have hps := put_size w g n (l.mergeSort fun x y => decide (x ≤ y)).toArray
    have hheap : ∀ k, k < w.heap.size → (grow (putRow encStr (Sort.ahead w n) g 0 (l.mergeSort fun x y => decide (x ≤ y)).toArray) os).heap[k]? = (putRow encStr (Sort.ahead w n) g 0 (l.mergeSort fun x y => decide (x ≤ y)).toArray).heap[k]? := fun k hk => by
      show (_ ++ os)[k]? = _
      rw [Array.getElem?_append_left (by rw [hps]; exact hk)]
    have hgs : w.heap.size ≤ (grow (putRow encStr (Sort.ahead w n) g 0 (l.mergeSort fun x y => decide (x ≤ y)).toArray) os).heap.size := by rw [size_grow, hps]; omega
    refine ⟨_, ρ, L, rfl, by simp only [VRep]; exact ⟨[], rfl, by simp [VReps]⟩, obs_one ⟨_, reps_strs2 _, fun r hr => ?_, ⟨?_, .inr ⟨g, cap, cur', fz, ?_, (hheap g hlt).trans c1, ?_, ?_, hmax, ?_, ?_⟩⟩, h4⟩, ⟨rfl, rfl, rfl, hgs, fun b hb hL => ?_, fun b hb => .inl hb⟩, fun b hb => Nat.lt_of_lt_of_le (hlow b (.inr hb)) hgs, fun k v hk _ => (pinsOf_get hk).1⟩
    · obtain ⟨s, _, rfl⟩ := List.mem_map.1 hr; rfl
    · rw [flat_strs]; simp
    · rw [hv, List.length_map, hml, hrl]
    · rw [c2]; exact hfz
    · rw [List.length_map, hml]; omega
    · rw [c2]; exact hcs
    · rw [flat_strs, List.length_map, Nat.mul_one]; exact c3
    · rw [hheap b hb]; exact put_other n _ (fun e => hL (h4 b (by rw [hv, e]; rfl)))

theorem compactS_con {wg : World} (hw : WG wg) {l r : List Str} (h : compactS l = some r) : Con Tryz.prog wg gl 22 [.r 0] [(0, .row 9 1 (l.map eStr))] (.r 500) [(0, .dead), (500, .row 9 1 (r.map eStr))] := by
  unfold compactS at h
  split at h
  case isFalse => cases h
  rename_i hlen
  cases h
  intro w ρ F L vals hlow hdis hext hglob hobs hargs
  obtain ⟨rows, h1, h2, h3, h4⟩ := hobs.obj 0 _ rfl
  simp only [VReps, VRep] at hargs
  obtain ⟨a0, _, rfl, ⟨_, rfl⟩, rfl⟩ := hargs
  have hrows := rows_strs2 h1
  have hrl : rows.length = l.length := by rw [hrows, List.length_map]
  have hcell0 : isCell (ρ 0) = true := by
    rcases h3.2 with ⟨hv, _⟩ | ⟨g, cap, cur, fz, hv, _⟩ <;> rw [hv] <;> rfl
  have obs : ∀ {o : Ob} {ρ' : Nat → Value} {w' : World} {X L' : Nat → Prop}, isCell (ρ' 0) = true → ObOk (nmO [(0, Ob.dead), (500, o)]) ρ' w' X L' (ρ' 500) o → ObsOk [(0, .dead), (500, o)] ρ' w' X L' := fun {o ρ' w' X L'} hc ho => by
    refine ⟨fun j o' hj => ?_, fun j o' j' o2 hj hj' hne l1 l2 b _ => ?_⟩
    · by_cases e : 0 = j
      · subst e; rw [get_cons_self] at hj; cases hj; exact hc
      · rw [get_cons_ne _ _ e] at hj
        by_cases e5 : 500 = j
        · subst e5; rw [get_cons_self] at hj; cases hj; exact ho
        · rw [get_cons_ne _ _ e5] at hj; cases hj
    · by_cases e : 0 = j
      · subst e; rw [get_cons_self] at hj; cases hj; cases l1
      · rw [get_cons_ne _ _ e] at hj
        by_cases e' : 0 = j'
        · subst e'; rw [get_cons_self] at hj'; cases hj'; cases l2
        · rw [get_cons_ne _ _ e'] at hj'
          by_cases e5 : 500 = j
          · by_cases e6 : 500 = j'
            · exact absurd (e5.symm.trans e6) hne
            · rw [get_cons_ne _ _ e6] at hj'; cases hj'
          · rw [get_cons_ne _ _ e5] at hj; cases hj
  have pins : ∀ (u : Value) k v, get (pinsOf ρ [(0, Ob.row 9 1 (l.map eStr))]) k = some v → nmO [(0, Ob.dead), (500, Ob.row 9 1 ((Lib.compact l).map eStr))] k → upd ρ 500 u k = v := fun u k v hk _ => by
    have h5 : k ≠ 500 := fun e => by subst e; cases hk
    rw [upd_ne h5]; exact (pinsOf_get hk).1
  by_cases hl : l = []
  · subst hl
    have hn : rows.length = 0 := hrl
    have hcase : ∃ a c, ρ 0 = .slice a 0 c := by
      rcases h3.2 with ⟨hv, _⟩ | ⟨g, cap, cur, fz, hv, _⟩
      · exact ⟨_, _, hv⟩
      · exact ⟨_, _, by rw [hv, hn]⟩
    obtain ⟨a, c, hv⟩ := hcase
    rw [hv]
    refine (Tryz.slices_Compact_string_empty a c w).mono ?_
    rintro e w' ⟨rfl, rfl⟩
    refine ⟨_, upd ρ 500 (ρ 0), L, rfl, by simp only [VRep]; exact ⟨nmO_cons nmO_self, by rw [upd_self, hv]⟩, obs (by rw [upd_ne (by decide)]; exact hcell0) ?_, Step.refl _ _, fun b hb => hlow b (.inr hb), pins _⟩
    rw [upd_self]
    exact ⟨rows, by rw [show Lib.compact ([] : List Str) = [] from rfl]; exact h1, h2, h3, h4⟩
  · rcases h3.2 with ⟨hv, hn⟩ | ⟨g, cap, cur, fz, hv, hg, hfz, hcap, hmax, hcs, htake⟩
    · exact absurd (List.eq_nil_of_length_eq_zero (by omega)) hl
    · rw [hrows, flat_strs] at htake
      rw [hv, hrl]
      have hsz : l.length ≤ cur.size := by omega
      have htk : cur.toList.take l.length = l.map encStr := by rw [← htake, hrl.symm, hrows]; simp
      have hlt := (Array.getElem?_eq_some_iff.1 hg).1
      refine (Tryz.slices_Compact_string g 0 cap l w (holds_of hg hfz rfl hsz htk) hlen (by omega)).mono ?_
      rintro e w' ⟨rfl, q, rfl⟩
      have hml : (Lib.compact l).length ≤ l.length := by
        unfold Lib.compact Lib.compactUpTo
        rw [List.length_map]
        exact Nat.le_trans (List.length_filter_le _ _) (by simp)
      obtain ⟨cur', c1, c2, c3⟩ := put_take hg q (Lib.compact l ++ List.replicate (l.length - (Lib.compact l).length) []) (by simp only [List.length_append, List.length_replicate]; omega)
      have hps := put_size w g q (Lib.compact l ++ List.replicate (l.length - (Lib.compact l).length) []).toArray
      have c4 : cur'.toList.take (Lib.compact l).length = (Lib.compact l).map encStr := by
        have := congrArg (List.take (Lib.compact l).length) c3
        rw [List.take_take, Nat.min_eq_left (by simp)] at this
        rw [this, List.map_append, List.take_left' (by simp)]
      refine ⟨_, upd ρ 500 (.slice (some ⟨g, 0, none⟩) (Lib.compact l).length cap), L, rfl, by simp only [VRep]; exact ⟨nmO_cons nmO_self, by rw [upd_self]⟩, obs (by rw [upd_ne (by decide)]; exact hcell0) ?_, ⟨rfl, rfl, rfl, by rw [hps]; exact Nat.le_refl _, fun b hb hL => put_other q _ (fun e => hL (h4 b (by rw [hv, e]; rfl))), fun b hb => .inl hb⟩, fun b hb => by rw [hps]; exact hlow b (.inr hb), pins _⟩
      rw [upd_self]
      refine ⟨_, reps_strs2 _, fun r hr => ?_, ⟨?_, .inr ⟨g, cap, cur', fz, ?_, c1, ?_, ?_, hmax, ?_, ?_⟩⟩, fun b hb => h4 b (by rw [hv]; simpa [ob] using hb)⟩
      · obtain ⟨s, _, rfl⟩ := List.mem_map.1 hr; rfl
      · rw [flat_strs]; simp
      · rw [List.length_map]
      · rw [c2]; exact hfz
      · rw [List.length_map]; omega
      · rw [c2]; exact hcs
      · rw [flat_strs, List.length_map, Nat.mul_one]; exact c4

end Go.Proofs.YtcfkiahbipjbmaaGreatDoor
