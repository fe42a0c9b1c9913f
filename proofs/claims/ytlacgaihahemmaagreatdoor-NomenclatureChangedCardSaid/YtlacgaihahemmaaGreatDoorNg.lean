/- Plain laws of chapter 9: CodeLevel, NomenclatureValidate, NomenclatureChanged. No program in sight. -/
import Derived.Test.YtlacgaihahemmaaGreatDoorNf
import Derived.Test.YtlacgaihahemmaaGreatDoorPf
set_option linter.unusedVariables false
set_option linter.unusedSimpArgs false
namespace Go.C
open Go.V

theorem bytesI_len (l : List Int) : (bytesI l).length = l.length := by unfold bytesI; simp
theorem intsB_len (l : Str) : (intsB l).length = l.length := by unfold intsB; simp
theorem level_tail {s : Str} {x : List Int} (hs : s.length ≤ 9223372036854775807) (hx : x.length ≤ 100) : lawLevel_j1 s x = some true := by
  unfold lawLevel_j1
  rw [nomLevel_eq, Option.bind_some, refLevel_eq hs, Option.bind_some, if_pos (by simp), nomLevel_eq, Option.bind_some, if_pos (by simp), refLevel_eq (by rw [bytesI_len]; omega), Option.bind_some, if_pos (by simp), awake_true, Option.bind_some]
  simp
theorem lawLevel_true {s : Str} {n at_ by_ : Int} (hs : s.length ≤ 9223372036854775807) (hn : okI_i64 n) (ha : okI_i64 at_) (hb : okI_u8 by_) : lawLevel s n at_ by_ = some true := by
  unfold lawLevel
  rw [within_eq (by omega) (by omega), Option.bind_some]
  have m1 := Int.emod_nonneg n (by omega : (11 : Int) ≠ 0)
  have m2 := Int.emod_lt_of_pos n (by omega : (0 : Int) < 11)
  generalize n % 11 = v at m1 m2
  rw [if_pos (by simp only [List.length_cons, List.length_nil]; omega)]
  have hl : ((([48, 49, 50, 51, 52, 53, 54, 55, 56, 57] : Str).take v.toNat).drop (0 : Int).toNat).length ≤ 10 := by simp; omega
  generalize (([48, 49, 50, 51, 52, 53, 54, 55, 56, 57] : Str).take v.toNat).drop (0 : Int).toNat = t at hl
  rw [if_pos (by omega)]
  have hil := intsB_len t
  split
  · rename_i hc
    have hpos : (0 : Int) < ((intsB t).length : Int) := by
      by_cases c : (0 : Int) < ((intsB t).length : Int)
      · exact c
      · simp [c] at hc; omega
    generalize (at_.fdiv (2 ^ (min (1 : Int).toNat (IntKind.i64).bits))) = a
    have w1 := Int.emod_nonneg a (by omega : ((intsB t).length : Int) ≠ 0)
    have w2 := Int.emod_lt_of_pos a hpos
    rw [within_eq hpos (by omega), Option.bind_some, if_pos ⟨w1, w2⟩]
    exact level_tail hs (by rw [List.length_set]; omega)
  · exact level_tail hs (by omega)

theorem few_ok {b : ApiNomenclature} (h : okApiNomenclature b) : ∃ v, few09 b = some v ∧ okApiNomenclature v := by
  obtain ⟨⟨h1, h2⟩, h3, h4⟩ := h
  have fin : ∀ es : List Ent, (es.length ≤ 9223372036854775807 ∧ ∀ x, x ∈ es → okApiCodeEntry x) → ∃ v, few09_j1 b es = some v ∧ okApiNomenclature v := fun es hes => by
    unfold few09_j1 few09_j2
    split
    · rename_i c
      simp only [decide_eq_true_eq] at c
      rw [if_pos (by omega)]
      exact ⟨_, rfl, hes, by simp; omega, fun x hx => h4 x (List.mem_of_mem_take (List.mem_of_mem_drop hx))⟩
    · exact ⟨_, rfl, hes, h3, h4⟩
  unfold few09
  split
  · rename_i c
    simp only [decide_eq_true_eq] at c
    rw [if_pos (by omega)]
    exact fin _ ⟨by simp; omega, fun x hx => h2 x (List.mem_of_mem_take (List.mem_of_mem_drop hx))⟩
  · exact fin _ ⟨h1, h2⟩
theorem lawNValidate_true {raw : ApiNomenclature} {l : List Int} (hraw : okApiNomenclature raw) (hl : l.length ≤ 9223372036854775807 ∧ ∀ x, x ∈ l → okI_i64 x) : lawNValidate raw l = some true := by
  unfold lawNValidate
  obtain ⟨v, e1, hv⟩ := few_ok hraw
  obtain ⟨b, e2, hb⟩ := madeNom_ok l
  rw [e1, Option.bind_some, nomValidate_eq, Option.bind_some, refBook_eq hv, Option.bind_some, if_pos (by simp), e2, Option.bind_some, if_pos (by simp), nomValidate_eq, hb.nv, Option.bind_some, if_pos (by simp), awake_true, Option.bind_some]
  simp

theorem okW9 (n : Int) : okI_i64 (IntKind.i64.wrap n) := by
  have := IntKind.wrap_i64 n
  unfold okI_i64
  rw [this]; omega
theorem changed_tail {v : ApiNomenclature} {es : List Ent} {ns : List ApiCodeNote} (h : okApiNomenclature ⟨es, ns⟩) : lawNChanged_j1 v es ns = some true := by
  unfold lawNChanged_j1
  rw [nomValidate_eq, Option.bind_some, refBook_eq h, Option.bind_some, if_pos (by simp), awake_true, Option.bind_some]
  simp
theorem lawNChanged_true {l : List Int} {raw : ApiCodeEntry} {note : ApiCodeNote} {at_ how n : Int} (hl : l.length ≤ 9223372036854775807 ∧ ∀ x, x ∈ l → okI_i64 x) (hraw : okApiCodeEntry raw) (hnote : okApiCodeNote note) (ha : okI_i64 at_) (hh : okI_i64 how) (hn : okI_i64 n) : lawNChanged l raw note at_ how n = some true := by
  unfold lawNChanged
  obtain ⟨b, e2, hb⟩ := madeNom_ok l
  have hlen := hb.len
  obtain ⟨⟨k1, k2⟩, k3, k4⟩ := hb.ok
  rw [e2, Option.bind_some, if_pos (by omega)]
  have hpos : (0 : Int) < (b.Entries.length : Int) := by omega
  have m1 := Int.emod_nonneg at_ (by omega : (b.Entries.length : Int) ≠ 0)
  have m2 := Int.emod_lt_of_pos at_ hpos
  rw [within_eq hpos (by omega), Option.bind_some, within_eq (x := how) (by omega) (by omega), Option.bind_some]
  generalize at_ % (b.Entries.length : Int) = k at m1 m2
  generalize how % 8 = w
  have hkl : k.toNat < b.Entries.length := by omega
  have hg := k2 _ (show b.Entries.getD k.toNat default ∈ b.Entries by rw [getD_get hkl]; exact List.getElem_mem hkl)
  have set_ok : ∀ x : Ent, okApiCodeEntry x → lawNChanged_j1 b (b.Entries.set k.toNat x) b.Notes = some true := fun x hx => changed_tail ⟨⟨by simp; omega, fun y hy => by
    rcases List.mem_or_eq_of_mem_set hy with h | rfl
    · exact k2 y h
    · exact hx⟩, k3, k4⟩
  have mem_td : ∀ (x : Ent) (a c : Nat), x ∈ (b.Entries.take a).drop c → okApiCodeEntry x := fun x a c hx => k2 x (List.mem_of_mem_take (List.mem_of_mem_drop hx))
  have dl : ∀ m, (b.Entries.drop m).length ≤ 160 := fun m => by simp; omega
  have tl : ((b.Entries.take k.toNat).drop (0 : Int).toNat).length ≤ 160 := by simp; omega
  by_cases c0 : w = 0
  · rw [if_pos (by simpa using c0)]
    rw [if_pos (by omega)]
    exact set_ok _ hraw
  rw [if_neg (by simpa using c0)]
  by_cases c1 : w = 1
  · rw [if_pos (by simpa using c1)]
    rw [if_pos (by omega), if_pos (by omega), w64 (n := k + 1) (by omega), if_pos (by omega), if_pos (by have := dl (k + 1).toNat; omega)]
    refine changed_tail ⟨⟨by rw [List.length_append]; have := dl (k + 1).toNat; omega, fun x hx => ?_⟩, k3, k4⟩
    rcases List.mem_append.1 hx with h | h
    · exact mem_td x _ _ h
    · exact k2 x (List.mem_of_mem_drop h)
  rw [if_neg (by simpa using c1)]
  by_cases c2 : w = 2
  · rw [if_pos (by simpa using c2)]
    rw [if_pos (by omega), if_pos (by omega), if_pos (by omega), List.getElem?_eq_getElem hkl, Option.bind_some, if_pos (by simp only [List.length_cons, List.length_nil]; omega), if_pos (by omega), if_pos (by simp only [List.length_append, List.length_cons, List.length_nil, List.length_drop] at tl ⊢; omega)]
    refine changed_tail ⟨⟨by simp only [List.length_append, List.length_cons, List.length_nil, List.length_drop] at tl ⊢; omega, fun x hx => ?_⟩, k3, k4⟩
    rcases List.mem_append.1 hx with h | h
    · rcases List.mem_append.1 h with h | h
      · exact mem_td x _ _ h
      · simp at h; subst h; exact k2 _ (List.getElem_mem hkl)
    · exact k2 x (List.mem_of_mem_drop h)
  rw [if_neg (by simpa using c2)]
  obtain ⟨g1, g2, g3, g4⟩ := hg
  by_cases c3 : w = 3
  · rw [if_pos (by simpa using c3)]
    rw [within_eq (by omega) (by omega), Option.bind_some, if_pos (by omega)]
    exact set_ok _ ⟨g1, okW9 _, g3, g4⟩
  rw [if_neg (by simpa using c3)]
  by_cases c4 : w = 4
  · rw [if_pos (by simpa using c4)]
    have w1 := Int.emod_nonneg n (by omega : (25 : Int) ≠ 0)
    have w2 := Int.emod_lt_of_pos n (by omega : (0 : Int) < 25)
    rw [within_eq (by omega) (by omega), Option.bind_some, if_pos (by omega)]
    exact set_ok _ ⟨g1, g2, by unfold okI_i64; simp only; omega, g4⟩
  rw [if_neg (by simpa using c4)]
  by_cases c5 : w = 5
  · rw [if_pos (by simpa using c5)]
    rw [if_pos (by omega)]
    exact set_ok _ ⟨g1, g2, g3, hraw.2.2.2⟩
  rw [if_neg (by simpa using c5)]
  by_cases c6 : w = 6
  · rw [if_pos (by simpa using c6)]
    rw [if_pos (by omega), if_pos (by omega)]
    exact set_ok _ ⟨g1, g2, g3, g4⟩
  · rw [if_neg (by simpa using c6)]
    have := hb.notes.1
    rw [if_pos (by omega), if_pos (by simp only [List.length_cons, List.length_nil]; omega)]
    refine changed_tail ⟨⟨k1, k2⟩, by simp; omega, fun x hx => ?_⟩
    rcases List.mem_append.1 hx with h | h
    · exact k4 x h
    · simp at h; subst h; exact hnote

end Go.C
