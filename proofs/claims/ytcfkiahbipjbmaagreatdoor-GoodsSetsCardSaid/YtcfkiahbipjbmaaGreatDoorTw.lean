/- Plain law of GoodsSets. No program in sight. -/
import Derived.Test.YtcfkiahbipjbmaaGreatDoorTv
import Derived.Test.YtcfkiahbipjbmaaGreatDoorPr
set_option linter.unusedVariables false
set_option linter.unusedSimpArgs false
namespace Go.C
open Go.V

theorem sameStrings_refl (l : List Str) (hl : l.length ≤ 1000) : sameStrings l l = some true := by
  unfold sameStrings
  rw [if_neg (by simp)]
  have := loop_seq (f := sameStrings_b1 l l) l.length (fun i => (i : Int)) (.inr ()) (fun i hi => by
    unfold sameStrings_b1
    rw [if_pos (by simp only [decide_eq_true_eq]; omega), if_pos (by omega), Int.toNat_natCast, List.getElem?_eq_getElem hi, Option.bind_some, if_pos (by omega), Option.bind_some, if_neg (by simp), w64 (n := (i : Int) + 1) (by omega)]
    rfl) (by unfold sameStrings_b1; rw [if_neg (by simp)])
  rw [show ((0 : Int) = ((0 : Nat) : Int)) from rfl, this]; rfl
theorem few_30 {l : List Str} (h : l.length ≤ 9223372036854775807 ∧ ∀ x, x ∈ l → x.length ≤ 9223372036854775807) : ∃ v, few l = some v ∧ v.length ≤ 30 ∧ ∀ x, x ∈ v → x.length ≤ 9223372036854775807 := by
  unfold few few_j1
  split
  · rename_i c
    simp only [decide_eq_true_eq] at c
    rw [if_pos (by omega)]
    exact ⟨_, rfl, by simp; omega, fun x hx => h.2 x (List.mem_of_mem_take (List.mem_of_mem_drop hx))⟩
  · rename_i c
    simp only [decide_eq_true_eq] at c
    exact ⟨_, rfl, by omega, h.2⟩
theorem subS_uni (a b : List Str) : subS a (uniS a b) = true ∧ subS b (uniS a b) = true := by
  unfold subS
  simp only [List.all_eq_true, List.contains_iff_mem, uniS_mem]
  exact ⟨fun x hx => .inl hx, fun x hx => .inr hx⟩
theorem sets_j1 {a b : List Str} (ha : a.length ≤ 30) (hb : b.length ≤ 30) (wa : ∀ x, x ∈ a → x.length ≤ 9223372036854775807) : lawSets_j1 b a = some true := by
  have hul := uniS_len a b
  have hu1 := uniS_len a []
  have hu2 := uniS_len b []
  simp only [List.length_nil] at hu1 hu2
  have hc := comS_le a b
  have hcount := uni_count a b
  unfold lawSets_j1
  rw [union_eq (by omega) (by omega), Option.bind_some, refUnion_eq (by omega) (by omega), Option.bind_some, sameStrings_refl _ (by omega), Option.bind_some]
  simp only [Bool.not_true, Bool.not_false, if_true, cond_false]
  rw [subsetP_eq (by omega) (by omega), Option.bind_some, refSubset_eq (by omega) (by omega), Option.bind_some]
  simp only [beq_self_eq_true, Bool.not_true, Bool.not_false, if_true, cond_false]
  rw [commonP_eq (by omega) (by omega), Option.bind_some, refCommon_eq (by omega) (by omega), Option.bind_some]
  simp only [bne_self_eq_false, Bool.not_true, Bool.not_false, if_true, cond_false]
  rw [validWords_eq, Option.bind_some, refWords_eq _ (by omega) wa, Option.bind_some]
  simp only [beq_self_eq_true, Bool.not_true, Bool.false_eq_true, if_false, cond_false]
  rw [subsetP_eq (by omega) (by omega), Option.bind_some, (subS_uni a b).1]
  simp only [if_true, cond_true]
  rw [subsetP_eq (by omega) (by omega), Option.bind_some, (subS_uni a b).2]
  simp only [if_true, cond_true]
  rw [Option.bind_some, commonP_eq (by omega) (by omega), Option.bind_some, comS_comm b a]
  simp only [beq_self_eq_true, if_true, cond_true]
  rw [Option.bind_some, refUnion_eq (by omega) (by simp), Option.bind_some, refUnion_eq (by omega) (by simp), Option.bind_some, w64 (by omega), w64 (by omega), beq_iff_eq.2 hcount]
  simp only [if_true, cond_true]
  rw [awake_true]; rfl
theorem lawSets_true {a b : List Str} {l m : List Int} {raw : Bool} (ha : a.length ≤ 9223372036854775807 ∧ ∀ x, x ∈ a → x.length ≤ 9223372036854775807) (hb : b.length ≤ 9223372036854775807 ∧ ∀ x, x ∈ b → x.length ≤ 9223372036854775807) (hl : l.length ≤ 9223372036854775807 ∧ ∀ x, x ∈ l → okI_i64 x) (hm : m.length ≤ 9223372036854775807 ∧ ∀ x, x ∈ m → okI_i64 x) : lawSets a b l m raw = some true := by
  obtain ⟨v, e1, v1, v2⟩ := few_30 ha
  obtain ⟨w, e2, w1, w2⟩ := few_30 hb
  unfold lawSets
  rw [e1, Option.bind_some, e2, Option.bind_some]
  cases raw with
  | true => exact sets_j1 v1 w1 v2
  | false =>
    obtain ⟨g1, e3, h1⟩ := madeGood_ok l
    obtain ⟨g2, e4, h2⟩ := madeGood_ok m
    rw [if_pos (by rfl), e3, Option.bind_some, e4, Option.bind_some]
    exact sets_j1 (by have := h1.words.2.2; omega) (by have := h2.words.2.2; omega) (fun x hx => by
      have h3 := h1.words.1.2 x hx
      unfold isW at h3
      simp only [Bool.and_eq_true, decide_eq_true_eq] at h3
      omega)

end Go.C
