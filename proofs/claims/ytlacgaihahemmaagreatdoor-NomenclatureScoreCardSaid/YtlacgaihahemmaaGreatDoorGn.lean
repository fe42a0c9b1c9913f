/- Plain laws of chapter 8: how a description is made. No program in sight. -/
import Derived.Test.YtlacgaihahemmaaGreatDoorGe
set_option linter.unusedVariables false
set_option linter.unusedSimpArgs false
namespace Go.C
open Go.V

def Shs (l : List Int) : Prop := l = [] ∨ ShOk l

/-- A description that was made. -/
structure MOk (g : ApiGood) : Prop where
  words : Asc g.Words ∧ g.Words ≠ [] ∧ g.Words.length ≤ 4
  mats : Asc (g.Materials.map (·.Name)) ∧ g.Materials.length ≤ 4 ∧ Shs (g.Materials.map (·.Share))
  parts : (∀ p, p ∈ g.Parts → Asc p.Words ∧ p.Words ≠ [] ∧ p.Words.length ≤ 3) ∧ g.Parts.length ≤ 3 ∧ Shs (g.Parts.map (·.Share))

def names4 : List Str := [([103, 108, 97, 115, 115] : Str), ([108, 97, 109, 112] : Str), ([115, 116, 101, 101, 108] : Str), ([119, 111, 111, 100] : Str)]
theorem asc_names : Asc names4 := ⟨by decide, by decide⟩

theorem parts_ok (v2 : List Str × CustomsmadeSource) (v3 : Int × CustomsmadeSource) (hv2 : Asc v2.1 ∧ v2.1 ≠ [] ∧ v2.1.length ≤ 4) (ms : List ApiMaterial) (hms : Asc (ms.map (·.Name)) ∧ ms.length ≤ 4 ∧ Shs (ms.map (·.Share))) (L : List Int) (I : Int) (hs : SOk ⟨L, I⟩) :
    ∃ g, madeGood_j1 v2 v3 ms L I = some g ∧ MOk g := by
  unfold madeGood_j1
  obtain ⟨r1, s1, e1, b1, b2, k1⟩ := next_ok (n := 3) hs (by omega) (by omega)
  rw [e1, Option.bind_some]
  dsimp only
  split
  · obtain ⟨r2, s2, e2, b3, b4, k2⟩ := next_ok (n := 3) k1 (by omega) (by omega)
    rw [e2, Option.bind_some]
    dsimp only
    obtain ⟨n, rfl⟩ : ∃ n : Nat, r2 = (n : Int) := ⟨r2.toNat, by omega⟩
    rw [w64 (n := 1 + (n : Int)) (by omega), show (1 : Int) + (n : Int) = ((1 + n : Nat) : Int) by omega]
    obtain ⟨sh, s3, e3, hl, hsh, k3⟩ := shares_ok k2 (1 + n) (by omega) (by omega)
    rw [e3, Option.bind_some]
    dsimp only
    obtain ⟨⟨ms', ps⟩, eo, ho1, ho2, ho3⟩ := loop_inv (f := madeGood_b1 v2 v3 (sh, s3)) (fun m x => ∃ k : Nat, m = sh.length - k ∧ k ≤ sh.length ∧ x.1 = (k : Int) ∧ x.2.1 = ms ∧ x.2.2.1.map (·.Share) = sh.take k ∧ (∀ p, p ∈ x.2.2.1 → Asc p.Words ∧ p.Words ≠ [] ∧ p.Words.length ≤ 3) ∧ SOk ⟨x.2.2.2.1, x.2.2.2.2⟩)
      (fun r => r.1 = ms ∧ r.2.map (·.Share) = sh ∧ (∀ p, p ∈ r.2 → Asc p.Words ∧ p.Words ≠ [] ∧ p.Words.length ≤ 3)) (by
      rintro m ⟨i, c1, c2, cL, cI⟩ ⟨k, rfl, hk, hi, hc, hsum, hp, hso⟩
      simp only at hi hc hsum hp hso
      subst hi; subst hc
      unfold madeGood_b1
      dsimp only
      by_cases hlt : k < sh.length
      · refine .inl ?_
        rw [if_pos (by simp only [decide_eq_true_eq]; omega)]
        obtain ⟨ws, s4, e4, w1, w2, w3, k4⟩ := words_ok hso 3 (by omega) (by omega)
        rw [show (3 : Int) = ((3 : Nat) : Int) from rfl, e4, Option.bind_some, if_pos (by omega), Int.toNat_natCast, List.getElem?_eq_getElem hlt, Option.bind_some]
        have hcl : c2.length = k := by have := congrArg List.length hsum; simp at this; omega
        rw [if_pos (by simp; omega), w64 (n := (k : Int) + 1) (by omega)]
        refine ⟨_, sh.length - (k + 1), by omega, rfl, k + 1, rfl, by omega, rfl, rfl, ?_, fun p hp' => ?_, k4⟩
        · simp only [List.map_append, List.map_cons, List.map_nil, hsum]
          rw [List.take_add_one, List.getElem?_eq_getElem hlt]; rfl
        · rcases List.mem_append.1 hp' with h | h
          · exact hp p h
          · simp at h; subst h; exact ⟨w1, w2, w3⟩
      · refine .inr ?_
        have : k = sh.length := by omega
        subst this
        rw [if_neg (by simp)]
        exact ⟨_, rfl, rfl, by simpa using hsum, hp⟩) sh.length ((0 : Int), ms, [], s3.L, s3.I) ⟨0, rfl, by omega, rfl, rfl, by simp, fun p hp => by simp at hp, k3⟩
    simp only at ho1 ho2 ho3
    rw [eo, Option.bind_some]
    unfold madeGood_j2
    refine ⟨_, rfl, hv2, by rw [ho1]; exact hms, ho3, ?_, .inr (by simp only; rw [ho2]; exact hsh)⟩
    have := congrArg List.length ho2
    simp only [List.length_map] at this
    simp only
    omega
  · unfold madeGood_j2
    exact ⟨_, rfl, hv2, hms, fun p hp => by simp at hp, by simp, .inl rfl⟩

theorem madeGood_ok (l : List Int) : ∃ g, madeGood l = some g ∧ MOk g := by
  unfold madeGood
  obtain ⟨v, e0, hv⟩ := cut_ok l 60 (by omega)
  rw [show (60 : Int) = ((60 : Nat) : Int) from rfl, e0, Option.bind_some]
  obtain ⟨ws, s1, e1, w1, w2, w3, k1⟩ := words_ok (s := ⟨v, 0⟩) ⟨by simp only; omega, by simp only; omega, by simp only; omega⟩ 4 (by omega) (by omega)
  rw [show (4 : Int) = ((4 : Nat) : Int) from rfl, e1, Option.bind_some]
  dsimp only
  obtain ⟨r2, s2, e2, b1, b2, k2⟩ := next_ok (n := ((4 : Nat) : Int)) k1 (by omega) (by omega)
  rw [e2, Option.bind_some]
  dsimp only
  obtain ⟨r3, s3, e3, b3, b4, k3⟩ := next_ok (n := ((4 : Nat) : Int)) k2 (by omega) (by omega)
  rw [e3, Option.bind_some]
  dsimp only
  split
  · rename_i hpos
    simp only [decide_eq_true_eq] at hpos
    obtain ⟨r4, s4, e4, b5, b6, k4⟩ := next_ok (n := 2) k3 (by omega) (by omega)
    rw [e4, Option.bind_some]
    dsimp only
    rw [if_pos (by simp only [List.length_cons, List.length_nil]; omega)]
    obtain ⟨j, rfl⟩ : ∃ j : Nat, r4 = (j : Int) := ⟨r4.toNat, by omega⟩
    obtain ⟨n, rfl⟩ : ∃ n : Nat, r3 = (n : Int) := ⟨r3.toNat, by omega⟩
    show ∃ g, ((srcShares s4 (if (((names4.drop (j : Int).toNat).length : Nat) : Int) < (n : Int) then (((names4.drop (j : Int).toNat).length : Nat) : Int) else (n : Int))).bind _) = some g ∧ MOk g
    have hdl : (names4.drop (j : Int).toNat).length = 4 - j := by simp [names4]
    rw [if_neg (by rw [hdl]; omega)]
    obtain ⟨sh, s5, e5, hl, hsh, k5⟩ := shares_ok k4 n (by omega) (by omega)
    rw [e5, Option.bind_some]
    dsimp only
    obtain ⟨ms, eo, ho1, ho2⟩ := loop_inv (f := madeGood_b2 (ws, s1) (r2, s2) ((j : Int), s4) (sh, s5)) (fun m x => ∃ k : Nat, m = sh.length - k ∧ k ≤ sh.length ∧ x.1 = (k : Int) ∧ x.2.map (·.Share) = sh.take k ∧ x.2.map (·.Name) = (names4.drop j).take k)
      (fun r => r.map (·.Share) = sh ∧ r.map (·.Name) = (names4.drop j).take sh.length) (by
      rintro m ⟨i, c1⟩ ⟨k, rfl, hk, hi, hsum, hnm⟩
      simp only at hi hsum hnm
      subst hi
      unfold madeGood_b2
      dsimp only
      by_cases hlt : k < sh.length
      · refine .inl ?_
        have hdj : k < (names4.drop j).length := by rw [Int.toNat_natCast] at hdl; omega
        rw [if_pos (by simp only [decide_eq_true_eq]; omega), if_pos (by omega)]
        have hget : ([([103, 108, 97, 115, 115] : Str), ([108, 97, 109, 112] : Str), ([115, 116, 101, 101, 108] : Str), ([119, 111, 111, 100] : Str)].drop (j : Int).toNat)[(k : Int).toNat]? = some ((names4.drop j)[k]) := by
          show (names4.drop (j : Int).toNat)[(k : Int).toNat]? = _
          rw [Int.toNat_natCast, Int.toNat_natCast, List.getElem?_eq_getElem hdj]
        rw [hget, Option.bind_some, if_pos (by omega), Int.toNat_natCast, List.getElem?_eq_getElem hlt, Option.bind_some]
        have hcl : c1.length = k := by have := congrArg List.length hsum; simp at this; omega
        rw [if_pos (by simp; omega), w64 (n := (k : Int) + 1) (by omega)]
        refine ⟨_, sh.length - (k + 1), by omega, rfl, k + 1, rfl, by omega, rfl, ?_, ?_⟩
        · simp only [List.map_append, List.map_cons, List.map_nil, hsum]
          rw [List.take_add_one, List.getElem?_eq_getElem hlt]; rfl
        · simp only [List.map_append, List.map_cons, List.map_nil, hnm]
          rw [List.take_add_one, List.getElem?_eq_getElem hdj]; rfl
      · refine .inr ?_
        have : k = sh.length := by omega
        subst this
        rw [if_neg (by simp)]
        exact ⟨_, rfl, by simpa using hsum, hnm⟩) sh.length ((0 : Int), []) ⟨0, rfl, by omega, rfl, by simp, by simp⟩
    rw [eo, Option.bind_some]
    try dsimp only
    have hml : ms.length = sh.length := by have := congrArg List.length ho1; simpa using this
    exact parts_ok _ _ ⟨w1, w2, w3⟩ ms ⟨by rw [ho2]; exact asc_names.sub ((List.take_sublist _ _).trans (List.drop_sublist _ _)), by omega, .inr (by rw [ho1]; exact hsh)⟩ _ _ k5
  · exact parts_ok _ _ ⟨w1, w2, w3⟩ [] ⟨⟨by simp, by simp⟩, by simp, .inl rfl⟩ _ _ k3

end Go.C
