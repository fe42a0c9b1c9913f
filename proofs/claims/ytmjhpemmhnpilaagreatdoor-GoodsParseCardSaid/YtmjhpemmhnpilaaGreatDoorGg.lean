/- Plain laws of chapter 8: the fixed example. No program in sight. -/
import Derived.Test.YtmjhpemmhnpilaaGreatDoorGf
import Derived.Test.YtmjhpemmhnpilaaGreatDoorPe
set_option linter.unusedVariables false
set_option linter.unusedSimpArgs false
namespace Go.C
open Go.V

theorem loop_of {σ τ : Type} {f : σ → Option (σ ⊕ τ)} {s : σ} {r : τ} (k : Nat) (h : iter f k s = some r) : loopO f s = some r := loopO_iff.2 ⟨k, h⟩

def aw0 : Str := [99, 104, 97, 105, 114, 43, 111, 102, 102, 105, 99, 101]
def aw1 : Str := [109, 58, 115, 116, 101, 101, 108, 58, 52, 48, 48, 48, 48, 48, 44, 119, 111, 111, 100, 58, 54, 48, 48, 48, 48, 48]
def aw2 : Str := [115, 116, 101, 101, 108, 58, 52, 48, 48, 48, 48, 48, 44, 119, 111, 111, 100, 58, 54, 48, 48, 48, 48, 48]
def aw : Str := [99, 104, 97, 105, 114, 43, 111, 102, 102, 105, 99, 101, 32, 109, 58, 115, 116, 101, 101, 108, 58, 52, 48, 48, 48, 48, 48, 44, 119, 111, 111, 100, 58, 54, 48, 48, 48, 48, 48]
def awm : List ApiMaterial := [⟨[115, 116, 101, 101, 108], 400000⟩, ⟨[119, 111, 111, 100], 600000⟩]
def awg : ApiGood := ⟨[[99, 104, 97, 105, 114], [111, 102, 102, 105, 99, 101]], awm, [], false⟩

theorem aw_gv : gv awg = 0 := by decide
theorem aw_split : splitS aw [32] = some [aw0, aw1] := by kernel_rfl
theorem aw_words : splitS aw0 [43] = some [[99, 104, 97, 105, 114], [111, 102, 102, 105, 99, 101]] := by kernel_rfl
theorem aw_items : splitS aw2 [44] = some [[115, 116, 101, 101, 108, 58, 52, 48, 48, 48, 48, 48], [119, 111, 111, 100, 58, 54, 48, 48, 48, 48, 48]] := by kernel_rfl
theorem aw_inner (v v2 : List Str) : loopO (goodsParse_b2 aw v v2 0 false [[115, 116, 101, 101, 108, 58, 52, 48, 48, 48, 48, 48], [119, 111, 111, 100, 58, 54, 48, 48, 48, 48, 48]]) ((0 : Int), [], []) = some (awm, []) := loop_of 3 (by kernel_rfl)
theorem aw_format : goodsFormat awg = some aw := by
  unfold goodsFormat
  rw [goodsValidate_eq, aw_gv, Option.bind_some, if_neg (by decide)]
  have e1 : joinS awg.Words [43] = some aw0 := by kernel_rfl
  rw [e1, Option.bind_some]
  have e2 : loopO (goodsFormat_b2 awg aw0) ((0 : Int), []) = some [[115, 116, 101, 101, 108, 58, 52, 48, 48, 48, 48, 48], [119, 111, 111, 100, 58, 54, 48, 48, 48, 48, 48]] := loop_of 3 (by kernel_rfl)
  rw [e2, Option.bind_some]
  dsimp only
  unfold goodsFormat_j1
  have e3 : loopO (goodsFormat_b1 awg aw0) ((0 : Int), [], [[115, 116, 101, 101, 108, 58, 52, 48, 48, 48, 48, 48], [119, 111, 111, 100, 58, 54, 48, 48, 48, 48, 48]]) = some ([], [[115, 116, 101, 101, 108, 58, 52, 48, 48, 48, 48, 48], [119, 111, 111, 100, 58, 54, 48, 48, 48, 48, 48]]) := loop_of 1 (by kernel_rfl)
  rw [e3, Option.bind_some]
  show goodsFormat_j2 awg aw0 [] [[115, 116, 101, 101, 108, 58, 52, 48, 48, 48, 48, 48], [119, 111, 111, 100, 58, 54, 48, 48, 48, 48, 48]] = some aw
  kernel_rfl

theorem aw_parse : goodsParse aw = some (awg, 0) := by
  unfold goodsParse
  rw [aw_split, Option.bind_some]
  show Option.bind (some aw0) _ = _
  rw [Option.bind_some, aw_words, Option.bind_some, if_pos (by decide)]
  have hl : loopO (goodsParse_b1 aw [aw0, aw1] awg.Words) ((0 : Int), [], [], false) = some (awm, [], false) := by
    rw [loop_step (x := ((1 : Int), awm, [], false)), loop_stop]
    · kernel_rfl
    · unfold goodsParse_b1
      dsimp only
      rw [if_pos (by kernel_rfl), if_pos (by decide)]
      show Option.bind (some aw1) _ = _
      rw [Option.bind_some]
      have e1 : cutPrefixS aw1 [109, 58] = some (aw2, true) := by kernel_rfl
      rw [e1, Option.bind_some, if_pos rfl, aw_items, Option.bind_some, aw_inner, Option.bind_some]
      rfl
  show (loopO (goodsParse_b1 aw [aw0, aw1] awg.Words) _).bind _ = _
  rw [hl, Option.bind_some]
  dsimp only
  unfold goodsParse_j1
  show (goodsValidate awg).bind _ = _
  rw [goodsValidate_eq, aw_gv, Option.bind_some, if_pos (by decide)]
  show (goodsFormat awg).bind _ = _
  rw [aw_format, Option.bind_some]
  rfl

def awc : List ApiComponent := [⟨[[115, 116, 101, 101, 108]], 400000⟩, ⟨[[119, 111, 111, 100]], 600000⟩]
def awd : List ApiComponent := [⟨[[119, 111, 111, 100]], 600000⟩, ⟨[[115, 116, 101, 101, 108]], 400000⟩]
theorem aw_ins : insSort awc 0 2 = some awd := by
  unfold insSort
  have e1 : IntKind.i64.wrap ((0 : Int) + 1) = 1 := by rfl
  rw [e1]
  have hl : loopO (insSort_b1 0 2) ((1 : Int), awc) = some awd := by
    rw [loop_step (x := ((2 : Int), awd)), loop_stop]
    · rfl
    · unfold insSort_b1
      dsimp only
      rw [if_pos (by rfl)]
      have hi : loopO (insSort_b2 0 2 1) ((1 : Int), awc) = some awd := loop_of 2 (by kernel_rfl)
      rw [hi, Option.bind_some]
      rfl
  rw [hl]; rfl

theorem sort_small (l : List ApiComponent) (h : l.length ≤ 19) : sortStable l = (insSort l 0 (l.length : Int)) := by
  unfold sortStable stableSort
  have e1 : loopO (stableSort_b3 (l.length : Int)) ((20 : Int), (0 : Int), l) = some ((0 : Int), l) := by
    rw [loop_stop]
    unfold stableSort_b3
    dsimp only
    rw [if_neg (by simp only [decide_eq_true_eq]; omega)]
  rw [e1, Option.bind_some]
  dsimp only
  unfold stableSort_j1
  cases hi : insSort l 0 (l.length : Int) with
  | none => rfl
  | some v =>
    rw [Option.bind_some]
    have e2 : loopO (stableSort_b1 (l.length : Int) v) (20 : Int) = some () := by
      rw [loop_stop]
      unfold stableSort_b1
      dsimp only
      rw [if_neg (by simp only [decide_eq_true_eq]; omega)]
    rw [e2]; rfl

theorem aw_chars : goodsCharacters awg = some awd := by
  unfold goodsCharacters
  have e1 : loopO (goodsCharacters_b2 awg) ((0 : Int), []) = some [] := loop_of 1 (by kernel_rfl)
  rw [e1, Option.bind_some]
  try dsimp only
  unfold goodsCharacters_j1
  rw [if_pos (by rfl)]
  have e2 : loopO (goodsCharacters_b1 awg) ((0 : Int), []) = some awc := loop_of 3 (by kernel_rfl)
  rw [e2, Option.bind_some]
  try dsimp only
  unfold goodsCharacters_j2
  rw [sort_small awc (by decide)]
  show (insSort awc 0 2).bind _ = _
  rw [aw_ins]; rfl

theorem awake_true : awake08 = some true := by
  unfold awake08
  show (goodsParse aw).bind _ = _
  rw [aw_parse, Option.bind_some]
  dsimp only
  rw [aw_chars, Option.bind_some, if_pos (by decide), if_pos (by decide), if_pos (by decide), if_pos (by decide), goodsValidate_eq, aw_gv, Option.bind_some, if_pos (by decide), aw_format, Option.bind_some]
  decide

theorem few_ok {l : List Str} (h : l.length ≤ 9223372036854775807 ∧ ∀ x, x ∈ l → x.length ≤ 9223372036854775807) : ∃ v, few l = some v ∧ v.length ≤ 9223372036854775807 ∧ ∀ x, x ∈ v → x.length ≤ 9223372036854775807 := by
  unfold few few_j1
  split
  · rename_i c
    simp only [decide_eq_true_eq] at c
    rw [if_pos (by omega)]
    exact ⟨_, rfl, by simp; omega, fun x hx => h.2 x (List.mem_of_mem_take (List.mem_of_mem_drop hx))⟩
  · exact ⟨_, rfl, h.1, h.2⟩

theorem small_ok {g : ApiGood} (h : okApiGood g) : ∃ v, small g = some v ∧ okApiGood v := by
  obtain ⟨h1, ⟨h2, h3⟩, ⟨h4, h5⟩⟩ := h
  unfold small
  obtain ⟨w, e, hw⟩ := few_ok h1
  rw [e, Option.bind_some]
  have parts : ∀ ms : List ApiMaterial, (ms.length ≤ 9223372036854775807 ∧ ∀ x, x ∈ ms → okApiMaterial x) → ∃ v, small_j1 g w ms = some v ∧ okApiGood v := fun ms hms => by
    unfold small_j1 small_j2
    split
    · rename_i c
      simp only [decide_eq_true_eq] at c
      rw [if_pos (by omega)]
      exact ⟨_, rfl, hw, hms, by simp; omega, fun x hx => h5 x (List.mem_of_mem_take (List.mem_of_mem_drop hx))⟩
    · exact ⟨_, rfl, hw, hms, h4, h5⟩
  split
  · rename_i c
    simp only [decide_eq_true_eq] at c
    rw [if_pos (by omega)]
    exact parts _ ⟨by simp; omega, fun x hx => h3 x (List.mem_of_mem_take (List.mem_of_mem_drop hx))⟩
  · exact parts _ ⟨h2, h3⟩

theorem Asc.len {l : List Str} (h : Asc l) : ∀ x, x ∈ l → x.length ≤ 12 := fun x hx => by
  have := h.2 x hx
  simp [isW] at this
  omega
theorem Shs.rng {l : List Int} (h : Shs l) : ∀ x, x ∈ l → okI_i64 x := fun x hx => by
  rcases h with rfl | h
  · simp at hx
  · have := h.rng x hx; unfold okI_i64; omega
theorem MOk.okW {g : ApiGood} (h : MOk g) : g.Words.length ≤ 9223372036854775807 ∧ ∀ x, x ∈ g.Words → x.length ≤ 9223372036854775807 :=
  ⟨by have := h.words.2.2; omega, fun x hx => by have := h.words.1.len x hx; omega⟩
theorem MOk.okM {g : ApiGood} (h : MOk g) : g.Materials.length ≤ 9223372036854775807 ∧ ∀ x, x ∈ g.Materials → okApiMaterial x :=
  ⟨by have := h.mats.2.1; omega, fun x hx => ⟨by have := h.mats.1.len x.Name (List.mem_map.2 ⟨x, hx, rfl⟩); omega, h.mats.2.2.rng x.Share (List.mem_map.2 ⟨x, hx, rfl⟩)⟩⟩
theorem MOk.okP {g : ApiGood} (h : MOk g) : g.Parts.length ≤ 9223372036854775807 ∧ ∀ x, x ∈ g.Parts → okApiComponent x :=
  ⟨by have := h.parts.2.1; omega, fun x hx => by
    obtain ⟨a1, a2, a3⟩ := h.parts.1 x hx
    exact ⟨⟨by omega, fun y hy => by have := a1.len y hy; omega⟩, h.parts.2.2.rng x.Share (List.mem_map.2 ⟨x, hx, rfl⟩)⟩⟩

theorem both (g : ApiGood) (h : okApiGood g) : ((goodsValidate g).bind fun v7 => (refGood g).bind fun v8 => (if (v7 == v8) = true then awake08 else some default).bind fun v9 => some (bif (v7 == v8) then v9 else false)) = some true := by
  rw [goodsValidate_eq, refGood_eq g h, Option.bind_some, Option.bind_some, if_pos (by simp), awake_true]
  simp

theorem getD_mem {α : Type} {l : List α} {i : Nat} {d : α} (h : i < l.length) : l.getD i d ∈ l := by
  rw [List.getD_eq_getElem?_getD, List.getElem?_eq_getElem h]; exact List.getElem_mem h
theorem okW (n : Int) : okI_i64 (IntKind.i64.wrap n) := by
  unfold okI_i64
  rw [IntKind.wrap_i64]
  omega

end Go.C
