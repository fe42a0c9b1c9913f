/- Plain laws of chapter 8: how a description is written. No program in sight. -/
import Derived.Test.YtmjhpemmhnpilaaGreatDoorUb
import Derived.Test.YtmjhpemmhnpilaaGreatDoorGs
set_option linter.unusedVariables false
set_option linter.unusedSimpArgs false
namespace Go.C
open Go.V
open Go.Lib (decDigits)

/-- A word list that is not empty. -/
def WOk (l : List Str) : Prop := l ≠ [] ∧ l.length ≤ 8 ∧ ∀ x, x ∈ l → isW x = true
/-- A description that holds. -/
structure GOk (g : ApiGood) : Prop where
  words : WOk g.Words
  mats : g.Materials.length ≤ 8 ∧ ∀ m, m ∈ g.Materials → isW m.Name = true ∧ 1 ≤ m.Share ∧ m.Share ≤ 1000000
  parts : g.Parts.length ≤ 6 ∧ ∀ p, p ∈ g.Parts → WOk p.Words ∧ 1 ≤ p.Share ∧ p.Share ≤ 1000000

theorem wp_isW {l : List Str} (h : (List.range l.length).all (wp l) = true) : ∀ x, x ∈ l → isW x = true := fun x hx => by
  obtain ⟨i, hi, rfl⟩ := List.getElem_of_mem hx
  have := List.all_eq_true.1 h i (List.mem_range.2 hi)
  unfold wp at this
  rw [List.getD_eq_getElem?_getD, List.getElem?_eq_getElem hi] at this
  simp only [Option.getD_some, Bool.and_eq_true] at this
  exact this.1
theorem some1_wok {l : List Str} (h : some1 l = true) : WOk l := by
  unfold some1 wordsOk at h
  simp only [ne_eq, Bool.and_eq_true, decide_eq_true_eq] at h
  exact ⟨h.1, h.2.1, wp_isW h.2.2⟩
theorem far_false {l : List Int} (h : far l = false) : ∀ x, x ∈ l → 1 ≤ x ∧ x ≤ 1000000 := fun x hx => by
  unfold far at h
  have := List.any_eq_false.1 h x hx
  unfold out1 at this
  by_cases h1 : x < 1
  · simp [h1] at this
  · by_cases h2 : 1000000 < x
    · simp [h2] at this
    · omega
theorem gv_gok {g : ApiGood} (h : gv g = 0) : GOk g := by
  unfold gv at h
  split at h
  · cases h
  rename_i h1
  split at h
  · cases h
  rename_i h2
  split at h
  · cases h
  rename_i h3
  split at h
  · cases h
  rename_i h4
  unfold gvTail at h
  split at h
  · cases h
  rename_i h5
  simp only [Bool.not_eq_false] at h1 h3 h4
  simp only [Bool.or_eq_true, not_or, Bool.not_eq_true] at h5
  have hf1 := far_false h5.1
  have hf2 := far_false h5.2
  refine ⟨some1_wok h1, ⟨by omega, fun m hm => ?_⟩, ⟨by omega, fun p hp => ?_⟩⟩
  · have hn := wp_isW (l := g.Materials.map (·.Name)) (by rw [List.length_map]; exact h3) m.Name (List.mem_map.2 ⟨m, hm, rfl⟩)
    have := hf1 m.Share (List.mem_map.2 ⟨m, hm, rfl⟩)
    exact ⟨hn, this⟩
  · have := hf2 p.Share (List.mem_map.2 ⟨p, hp, rfl⟩)
    exact ⟨some1_wok (List.all_eq_true.1 h4 p hp), this⟩

theorem isW_len {s : Str} (h : isW s = true) : 1 ≤ s.length ∧ s.length ≤ 12 := by
  unfold isW at h
  simp only [Bool.and_eq_true, decide_eq_true_eq] at h
  exact ⟨h.1, h.2.1⟩
theorem isW_no {s : Str} (h : isW s = true) {c : UInt8} (hc : c.toNat < 97 ∨ 122 < c.toNat) : c ∉ s := fun hm => by
  unfold isW at h
  simp only [Bool.and_eq_true, decide_eq_true_eq] at h
  obtain ⟨i, hi, rfl⟩ := List.getElem_of_mem hm
  have := List.all_eq_true.1 h.2.2 i (List.mem_range.2 hi)
  rw [List.getD_eq_getElem?_getD, List.getElem?_eq_getElem hi] at this
  have := (isL_iff _).1 this
  simp only [Option.getD_some] at this
  omega
theorem WOk.lens {l : List Str} (h : WOk l) : [43].length * l.length + Lib.lens l ≤ 104 := by
  have := lens_le (k := 12) (fun x hx => (isW_len (h.2.2 x hx)).2)
  have := h.2.1
  simp only [List.length_cons, List.length_nil]; omega
theorem WOk.len {l : List Str} (h : WOk l) : (Lib.join l [43]).length ≤ 104 := Nat.le_trans (join_len l [43]) h.lens
theorem join_mem {c : UInt8} {sep : Str} : ∀ {l : List Str}, c ∈ Lib.join l sep → c ∈ sep ∨ ∃ x, x ∈ l ∧ c ∈ x
  | [], h => by simp [Lib.join_nil] at h
  | [x], h => by rw [Lib.join_one] at h; exact .inr ⟨x, by simp, h⟩
  | x :: y :: r, h => by
    rw [join_cons2] at h
    rcases List.mem_append.1 h with h | h
    · rcases List.mem_append.1 h with h | h
      · exact .inr ⟨x, by simp, h⟩
      · exact .inl h
    · rcases join_mem h with h | ⟨z, h1, h2⟩
      · exact .inl h
      · exact .inr ⟨z, List.mem_cons_of_mem _ h1, h2⟩
theorem WOk.no {l : List Str} (h : WOk l) {c : UInt8} (hc : c.toNat < 97 ∨ 122 < c.toNat) (hp : c ≠ 43) : c ∉ Lib.join l [43] := fun hm => by
  rcases join_mem hm with h1 | ⟨x, h1, h2⟩
  · simp at h1; exact hp h1
  · exact isW_no (h.2.2 x h1) hc h2

def share (n : Int) : Str := decDigits n.toNat
theorem share_len {n : Int} (h : n ≤ 1000000) : (share n).length ≤ 7 := dec_len 6 _ (by omega)
theorem share_no (n : Int) {c : UInt8} (hc : c.toNat < 48 ∨ 57 < c.toNat) : c ∉ share n := (isDig_dec n.toNat).1.not_mem hc

/-- A material, a part, as they are written. -/
def mline (m : ApiMaterial) : Str := (m.Name ++ [58]) ++ share m.Share
def pline (p : ApiComponent) : Str := (Lib.join p.Words [43] ++ [58]) ++ share p.Share
def mtext (l : List ApiMaterial) : Str := Lib.join (l.map mline) [44]
def ptext (l : List ApiComponent) : Str := Lib.join (l.map pline) [44]
abbrev incW : Str := [105, 110, 99, 111, 109, 112, 108, 101, 116, 101]
def mfield (l : List ApiMaterial) : Str := [109, 58] ++ mtext l
def pfield (l : List ApiComponent) : Str := [112, 58] ++ ptext l
def fields (g : ApiGood) : List Str := (if g.Materials = [] then [] else [mfield g.Materials]) ++ ((if g.Parts = [] then [] else [pfield g.Parts]) ++ (if g.Incomplete = true then [incW] else []))
def fmtG (g : ApiGood) : Str := Lib.join (Lib.join g.Words [43] :: fields g) [32]

theorem GOk.mlen {g : ApiGood} (h : GOk g) : ∀ m, m ∈ g.Materials → (mline m).length ≤ 20 := fun m hm => by
  obtain ⟨h1, h2, h3⟩ := h.mats.2 m hm
  have := (isW_len h1).2; have := share_len h3
  unfold mline; simp; omega
theorem GOk.plen {g : ApiGood} (h : GOk g) : ∀ p, p ∈ g.Parts → (pline p).length ≤ 112 := fun p hp => by
  obtain ⟨h1, h2, h3⟩ := h.parts.2 p hp
  have := h1.len; have := share_len h3
  unfold pline; simp; omega
theorem lens_map {α : Type} {f : α → Str} {l : List α} {k n : Nat} (hn : l.length ≤ n) (h : ∀ x, x ∈ l → (f x).length ≤ k) : [44].length * (l.map f).length + Lib.lens (l.map f) ≤ n + k * n := by
  have h1 := lens_le (l := l.map f) (k := k) (fun y hy => by obtain ⟨x, hx, rfl⟩ := List.mem_map.1 hy; exact h x hx)
  rw [List.length_map] at h1 ⊢
  have : k * l.length ≤ k * n := Nat.mul_le_mul (Nat.le_refl _) hn
  simp only [List.length_cons, List.length_nil]; omega
theorem GOk.ml {g : ApiGood} (h : GOk g) : [44].length * (g.Materials.map mline).length + Lib.lens (g.Materials.map mline) ≤ 168 := lens_map h.mats.1 h.mlen
theorem GOk.pl {g : ApiGood} (h : GOk g) : [44].length * (g.Parts.map pline).length + Lib.lens (g.Parts.map pline) ≤ 678 := lens_map h.parts.1 h.plen
theorem GOk.mtl {g : ApiGood} (h : GOk g) : (mtext g.Materials).length ≤ 168 := Nat.le_trans (join_len _ _) h.ml
theorem GOk.ptl {g : ApiGood} (h : GOk g) : (ptext g.Parts).length ≤ 678 := Nat.le_trans (join_len _ _) h.pl

/-- A text that grows by its parts. -/
def app1 (t : Str) (c : Bool) (x : Str) : Str := if c = true then t else t ++ x
theorem fmtG_app (g : ApiGood) : fmtG g = (let a := Lib.join g.Words [43]; let b := if g.Materials = [] then a else a ++ ([32, 109, 58] ++ mtext g.Materials); let c := if g.Parts = [] then b else b ++ ([32, 112, 58] ++ ptext g.Parts); if g.Incomplete = true then c ++ ([32] ++ incW) else c) := by
  unfold fmtG fields
  by_cases h1 : g.Materials = [] <;> by_cases h2 : g.Parts = [] <;> cases h3 : g.Incomplete <;> simp [h1, h2, h3, join_cons2, Lib.join_one, mfield, pfield]
theorem GOk.flen {g : ApiGood} (h : GOk g) : (fmtG g).length ≤ 1000 ∧ 0 < (fmtG g).length := by
  have a := h.words.len; have b := h.mtl; have c := h.ptl
  have d : 0 < (Lib.join g.Words [43]).length := by
    obtain ⟨h1, h2, h3⟩ := h.words
    cases hw : g.Words with
    | nil => exact absurd hw h1
    | cons x r => have := (isW_len (h3 x (by rw [hw]; simp))).1; rw [Lib.join_cons]; simp; omega
  rw [fmtG_app]
  dsimp only
  constructor
  · repeat' split
    all_goals ((try simp only [List.length_append, List.length_cons, List.length_nil]); omega)
  · repeat' split
    all_goals ((try simp only [List.length_append, List.length_cons, List.length_nil]); omega)

theorem joinS_ok {l : List Str} {sep : Str} (h : sep.length * l.length + Lib.lens l ≤ 1000000) (hl : l.length ≤ 1000000) : joinS l sep = some (Lib.join l sep) := by
  unfold joinS
  rw [if_pos ⟨by omega, by have := join_len l sep; omega⟩]

theorem goodsFormat_ok {g : ApiGood} (hv : gv g = 0) : goodsFormat g = some (fmtG g) := by
  have h := gv_gok hv
  have a := h.words.len; have b := h.mtl; have c := h.ptl
  have hm := h.mats.1; have hp := h.parts.1
  unfold goodsFormat
  rw [goodsValidate_eq, hv, Option.bind_some, if_neg (by simp), joinS_ok (by have := h.words.lens; omega) (by have := h.words.2.1; omega), Option.bind_some]
  have l1 := loop_seq (f := goodsFormat_b2 g (Lib.join g.Words [43])) g.Materials.length (fun i => ((i : Int), (g.Materials.take i).map mline)) (g.Materials.map mline) (fun i hi => by
    obtain ⟨h1, h2, h3⟩ := h.mats.2 _ (List.getElem_mem hi)
    have h4 := isW_len h1; have h5 := share_len h3
    unfold share at h5
    unfold goodsFormat_b2
    dsimp only
    rw [if_pos (by simp only [decide_eq_true_eq]; omega), if_pos (by omega), Int.toNat_natCast, List.getElem?_eq_getElem hi, Option.bind_some, if_pos (by simp; omega), itoa_ok (by omega) (by omega), Option.bind_some, if_pos (by simp; omega), if_pos (by simp; omega), w64 (n := (i : Int) + 1) (by omega), take_snoc hi]
    rw [List.map_append]; rfl)
    (by unfold goodsFormat_b2; dsimp only; rw [if_neg (by simp), List.take_length])
  rw [show ((0 : Int), ([] : List Str)) = (((0 : Nat) : Int), (g.Materials.take 0).map mline) from rfl, l1, Option.bind_some]
  dsimp only
  unfold goodsFormat_j1
  have l2 := loop_seq (f := goodsFormat_b1 g (Lib.join g.Words [43])) g.Parts.length (fun i => ((i : Int), (g.Parts.take i).map pline, g.Materials.map mline)) (g.Parts.map pline, g.Materials.map mline) (fun i hi => by
    obtain ⟨h1, h2, h3⟩ := h.parts.2 _ (List.getElem_mem hi)
    have h4 := h1.len; have h5 := share_len h3
    unfold share at h5
    unfold goodsFormat_b1
    dsimp only
    rw [if_pos (by simp only [decide_eq_true_eq]; omega), if_pos (by omega), Int.toNat_natCast, List.getElem?_eq_getElem hi, Option.bind_some, joinS_ok (by have := h1.lens; omega) (by have := h1.2.1; omega), Option.bind_some, if_pos (by simp; omega), itoa_ok (by omega) (by omega), Option.bind_some, if_pos (by simp; omega), if_pos (by simp; omega), w64 (n := (i : Int) + 1) (by omega), take_snoc hi]
    rw [List.map_append]; rfl)
    (by unfold goodsFormat_b1; dsimp only; rw [if_neg (by simp), List.take_length])
  rw [show ((0 : Int), ([] : List Str), g.Materials.map mline) = (((0 : Nat) : Int), (g.Parts.take 0).map pline, g.Materials.map mline) from rfl, l2, Option.bind_some]
  dsimp only
  have e4 : ∀ t : Str, t.length ≤ 1000 → goodsFormat_j4 g t = some (if g.Incomplete = true then t ++ ([32] ++ incW) else t) := fun t ht => by
    unfold goodsFormat_j4 goodsFormat_j5
    split
    · rw [if_pos (by simp; omega)]; rfl
    · rfl
  have e3 : ∀ t : Str, t.length ≤ 300 → goodsFormat_j3 g t (g.Parts.map pline) = some (let c := if g.Parts = [] then t else t ++ ([32, 112, 58] ++ ptext g.Parts); if g.Incomplete = true then c ++ ([32] ++ incW) else c) := fun t ht => by
    unfold goodsFormat_j3
    by_cases hp0 : g.Parts = []
    · rw [if_neg (by rw [hp0]; simp), e4 t (by omega)]; simp [hp0]
    · have : 0 < g.Parts.length := List.length_pos_iff.2 hp0
      rw [if_pos (by simp only [List.length_map, decide_eq_true_eq]; omega), joinS_ok (by have := h.pl; omega) (by rw [List.length_map]; omega), Option.bind_some]
      have hc : (Lib.join (g.Parts.map pline) [44]).length ≤ 678 := c
      rw [if_pos (by simp; omega), if_pos (by simp; omega), e4 _ (by simp; omega)]
      simp [hp0, ptext]
  rw [fmtG_app]
  unfold goodsFormat_j2
  by_cases hm0 : g.Materials = []
  · rw [if_neg (by rw [hm0]; simp), e3 _ (by omega)]; simp [hm0]
  · have : 0 < g.Materials.length := List.length_pos_iff.2 hm0
    rw [if_pos (by simp only [List.length_map, decide_eq_true_eq]; omega), joinS_ok (by have := h.ml; omega) (by rw [List.length_map]; omega), Option.bind_some]
    have hb : (Lib.join (g.Materials.map mline) [44]).length ≤ 168 := b
    rw [if_pos (by simp; omega), if_pos (by simp; omega), e3 _ (by simp; omega)]
    simp [hm0, mtext]
theorem goodsFormat_bad {g : ApiGood} (hv : gv g ≠ 0) : goodsFormat g = some [] := by
  unfold goodsFormat
  rw [goodsValidate_eq, Option.bind_some, if_pos (by simpa using hv)]

/-- One part behind the others. -/
theorem part_snoc {α : Type} (f : α → Str) (t head : Str) {l : List α} {i : Nat} (hi : i < l.length) (sep : Str) : (if l.take (i + 1) = [] then t else t ++ (head ++ Lib.join ((l.take (i + 1)).map f) sep)) = if i = 0 then (t ++ head) ++ f l[i] else ((if l.take i = [] then t else t ++ (head ++ Lib.join ((l.take i).map f) sep)) ++ sep) ++ f l[i] := by
  have hne : l.take (i + 1) ≠ [] := fun e => by have := congrArg List.length e; simp only [List.length_take, List.length_nil] at this; omega
  rw [if_neg hne, take_snoc hi]
  by_cases h0 : i = 0
  · subst h0
    rw [if_pos rfl]; simp [Lib.join_one]
  · have hn2 : l.take i ≠ [] := fun e => by have := congrArg List.length e; simp only [List.length_take, List.length_nil] at this; omega
    have hn3 : (l.take i).map f ≠ [] := fun e => hn2 (List.map_eq_nil_iff.1 e)
    rw [if_neg h0, if_neg hn2, List.map_append, List.map_cons, List.map_nil, join_snoc hn3]; simp
theorem part_len {α : Type} (f : α → Str) (t head : Str) {l : List α} (i : Nat) (sep : Str) {k : Nat} (h : sep.length * (l.map f).length + Lib.lens (l.map f) ≤ k) : (if l.take i = [] then t else t ++ (head ++ Lib.join ((l.take i).map f) sep)).length ≤ t.length + head.length + k := by
  split
  · omega
  · have h1 := join_len ((l.take i).map f) sep
    have h2 : Lib.lens ((l.take i).map f) ≤ Lib.lens (l.map f) := by rw [List.map_take]; exact Lib.lens_take_le _ _
    have h3 : sep.length * ((l.take i).map f).length ≤ sep.length * (l.map f).length := Nat.mul_le_mul (Nat.le_refl _) (by simp; omega)
    simp only [List.length_append]; omega

theorem refFormat_ok {g : ApiGood} (hok : okApiGood g) (hv : gv g = 0) : refFormatGood g = some (fmtG g) := by
  have h := gv_gok hv
  have a := h.words.len; have b := h.mtl; have c := h.ptl
  have hm := h.mats.1; have hp := h.parts.1
  unfold refFormatGood
  rw [refGood_eq g hok, hv, Option.bind_some, if_neg (by simp), refJoined_eq (by have := h.words.lens; omega) (by have := h.words.2.1; omega), Option.bind_some]
  have l1 := loop_seq (f := refFormatGood_b2 g) g.Materials.length (fun i => ((i : Int), if g.Materials.take i = [] then Lib.join g.Words [43] else Lib.join g.Words [43] ++ ([32, 109, 58] ++ Lib.join ((g.Materials.take i).map mline) [44]))) (if g.Materials = [] then Lib.join g.Words [43] else Lib.join g.Words [43] ++ ([32, 109, 58] ++ mtext g.Materials)) (fun i hi => by
    obtain ⟨h1, h2, h3⟩ := h.mats.2 _ (List.getElem_mem hi)
    have h4 := isW_len h1; have h5 := share_len h3
    unfold share at h5
    have h6 := part_len mline (Lib.join g.Words [43]) [32, 109, 58] i [44] h.ml
    simp only [List.length_cons, List.length_nil] at h6
    unfold refFormatGood_b2 refFormatGood_j5
    dsimp only
    rw [if_pos (by simp only [decide_eq_true_eq]; omega), if_pos (by omega), Int.toNat_natCast, List.getElem?_eq_getElem hi, Option.bind_some, if_pos (by simp; omega), if_pos (by omega), Option.bind_some, digits_ok (by omega) (by omega), Option.bind_some, if_pos (by simp; omega), w64 (n := (i : Int) + 1) (by omega), part_snoc mline _ _ hi]
    by_cases h0 : i = 0
    · rw [if_pos (by simp [h0]), if_pos (by simp only [List.length_cons, List.length_nil]; omega), if_pos (by simp only [List.length_append, List.length_cons, List.length_nil]; omega), if_pos h0]
      subst h0
      rfl
    · rw [if_neg (by simp; omega), if_pos (by simp only [List.length_cons, List.length_nil]; omega), if_pos (by simp only [List.length_append, List.length_cons, List.length_nil]; omega), if_neg h0]
      rfl)
    (by unfold refFormatGood_b2; dsimp only; rw [if_neg (by simp), List.take_length]; rfl)
  rw [show ((0 : Int), Lib.join g.Words [43]) = (((0 : Nat) : Int), if g.Materials.take 0 = [] then Lib.join g.Words [43] else Lib.join g.Words [43] ++ ([32, 109, 58] ++ Lib.join ((g.Materials.take 0).map mline) [44])) from rfl, l1, Option.bind_some]
  generalize ht : (if g.Materials = [] then Lib.join g.Words [43] else Lib.join g.Words [43] ++ ([32, 109, 58] ++ mtext g.Materials)) = t
  have hl : t.length ≤ 300 := by
    rw [← ht]
    split
    · omega
    · simp only [List.length_append, List.length_cons, List.length_nil]; omega
  dsimp only
  unfold refFormatGood_j1
  have l2 := loop_seq (f := refFormatGood_b1 g) g.Parts.length (fun i => ((i : Int), if g.Parts.take i = [] then t else t ++ ([32, 112, 58] ++ Lib.join ((g.Parts.take i).map pline) [44]))) (if g.Parts = [] then t else t ++ ([32, 112, 58] ++ ptext g.Parts)) (fun i hi => by
    obtain ⟨h1, h2, h3⟩ := h.parts.2 _ (List.getElem_mem hi)
    have h4 := h1.len; have h5 := share_len h3
    unfold share at h5
    have h6 := part_len pline t [32, 112, 58] i [44] h.pl
    simp only [List.length_cons, List.length_nil] at h6
    unfold refFormatGood_b1 refFormatGood_j4
    dsimp only
    rw [if_pos (by simp only [decide_eq_true_eq]; omega), if_pos (by omega), Int.toNat_natCast, List.getElem?_eq_getElem hi, Option.bind_some, refJoined_eq (by have := h1.lens; omega) (by have := h1.2.1; omega), Option.bind_some, if_pos (by simp; omega), if_pos (by omega), Option.bind_some, digits_ok (by omega) (by omega), Option.bind_some, if_pos (by simp; omega), w64 (n := (i : Int) + 1) (by omega), part_snoc pline _ _ hi]
    by_cases h0 : i = 0
    · rw [if_pos (by simp [h0]), if_pos (by simp only [List.length_cons, List.length_nil]; omega), if_pos (by simp only [List.length_append, List.length_cons, List.length_nil]; omega), if_pos h0]
      subst h0
      rfl
    · rw [if_neg (by simp; omega), if_pos (by simp only [List.length_cons, List.length_nil]; omega), if_pos (by simp only [List.length_append, List.length_cons, List.length_nil]; omega), if_neg h0]
      rfl)
    (by unfold refFormatGood_b1; dsimp only; rw [if_neg (by simp), List.take_length]; rfl)
  rw [show ((0 : Int), t) = (((0 : Nat) : Int), if g.Parts.take 0 = [] then t else t ++ ([32, 112, 58] ++ Lib.join ((g.Parts.take 0).map pline) [44])) from rfl, l2, Option.bind_some]
  rw [fmtG_app]
  dsimp only
  rw [ht]
  unfold refFormatGood_j2 refFormatGood_j3
  split
  · rw [if_pos (by
      split
      · simp; omega
      · simp only [List.length_append, List.length_cons, List.length_nil]; omega)]
    rfl
  · rfl
theorem refFormat_bad {g : ApiGood} (hok : okApiGood g) (hv : gv g ≠ 0) : refFormatGood g = some [] := by
  unfold refFormatGood
  rw [refGood_eq g hok, Option.bind_some, if_pos (by simpa using hv)]

end Go.C
