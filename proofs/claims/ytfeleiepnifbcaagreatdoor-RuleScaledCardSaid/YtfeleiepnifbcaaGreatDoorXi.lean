/- Plain laws of chapter 12: the fixed example. No program in sight. -/
import Derived.Test.YtfeleiepnifbcaaGreatDoorXh
import Derived.Test.YtfeleiepnifbcaaGreatDoorPd
set_option linter.unusedVariables false
set_option linter.unusedSimpArgs false
set_option maxHeartbeats 1000000
namespace Go.C
open Go.V

abbrev awText : Str := [99, 104, 97, 110, 103, 101, 32, 52, 32, 101, 120, 99, 101, 112, 116, 32, 53, 50, 48, 52, 44, 53, 50, 48, 53, 32, 116, 111, 108, 101, 114, 97, 110, 99, 101, 32, 49, 48, 37, 32, 111, 114, 32, 102, 111, 114, 101, 105, 103, 110, 32, 52, 48, 37, 32, 97, 110, 100, 32, 112, 114, 111, 99, 101, 115, 115, 32, 97, 110, 100]
abbrev kOr : Str := [111, 114]
abbrev kAnd : Str := [97, 110, 100]
abbrev t3 : List Str := [[97, 110, 100], [112, 114, 111, 99, 101, 115, 115], [97, 110, 100]]
abbrev t2 : List Str := [102, 111, 114, 101, 105, 103, 110] :: [52, 48, 37] :: t3
abbrev t1 : List Str := [116, 111, 108, 101, 114, 97, 110, 99, 101] :: [49, 48, 37] :: kOr :: t2
abbrev t0 : List Str := [99, 104, 97, 110, 103, 101] :: [52] :: [101, 120, 99, 101, 112, 116] :: [53, 50, 48, 52, 44, 53, 50, 48, 53] :: t1
def awE : List Str := [[53, 50, 48, 52], [53, 50, 48, 53]]
def aw2 : ApiRule := ⟨2, 4, awE, 100000, 0, [], []⟩
def aw3 : ApiRule := ⟨3, 0, [], 0, 400000, [], []⟩
def aw4 : ApiRule := ⟨4, 0, [], 0, 0, [97, 110, 100], []⟩
def aw5 : ApiRule := ⟨5, 0, [], 0, 0, [], [aw3, aw4]⟩
def awR : ApiRule := ⟨6, 0, [], 0, 0, [], [aw2, aw5]⟩
def awC : ApiCase := ⟨[57, 52, 48, 49, 51, 48], 100, false, [[97, 110, 100]], [⟨[57, 52, 48, 49, 57, 48], 40, false⟩]⟩
theorem aw_codes : validCodes awE = some true := by
  have n1 : nomLevel [53, 50, 48, 52] = some 4 := by rw [nomLevel_eq]; rfl
  have n2 : nomLevel [53, 50, 48, 53] = some 4 := by rw [nomLevel_eq]; rfl
  unfold validCodes
  rw [if_neg (by decide)]
  have : loopO (validCodes_b1 awE) (0 : Int) = some (.inr ()) := by
    rw [loop_step (x := (1 : Int)), loop_step (x := (2 : Int)), loop_stop (r := .inr ())]
    · unfold validCodes_b1; rw [if_neg (by decide)]
    · unfold validCodes_b1
      rw [if_pos (by decide), if_pos (by decide)]
      show (some ([53, 50, 48, 53] : Str)).bind _ = _
      rw [Option.bind_some, n2, Option.bind_some, if_pos (by decide)]; rfl
    · unfold validCodes_b1
      rw [if_pos (by decide), if_pos (by decide)]
      show (some ([53, 50, 48, 52] : Str)).bind _ = _
      rw [Option.bind_some, n1, Option.bind_some, if_pos (by decide)]; rfl
  rw [this]; rfl
theorem aw_lf2 : LF aw2 := .chg 4 awE 100000 (by omega) ⟨by decide, aw_codes⟩ (by omega)
theorem aw_lf3 : LF aw3 := .fore 400000 (by omega)
theorem aw_lf4 : LF aw4 := .proc [97, 110, 100] (by decide)
theorem aw_mr : MR 3 0 awR := .inr ⟨6, [aw2, aw5], .inr rfl, by decide, rfl, by decide, by decide, fun a ha => by
  rcases List.mem_cons.1 ha with rfl | ha
  · exact .inl aw_lf2
  · rw [List.mem_singleton.1 ha]
    exact .inr ⟨5, [aw3, aw4], .inl rfl, by decide, rfl, by decide, by decide, fun b hb => by
      rcases List.mem_cons.1 hb with rfl | hb
      · exact .inl aw_lf3
      · rw [List.mem_singleton.1 hb]; exact .inl aw_lf4⟩⟩
theorem aw_case : COk awC := ⟨by decide, by decide, by decide, by decide, fun x hx => by
  have : x = ⟨[57, 52, 48, 49, 57, 48], 40, false⟩ := by simpa [awC] using hx
  subst this; decide⟩
theorem aw_tok : tokensOf awText = some t0 := by kernel_rfl
theorem aw_f1 : percentage 100000 = some [49, 48, 37] := by kernel_rfl
theorem aw_f2 : percentage 400000 = some [52, 48, 37] := by kernel_rfl
theorem aw_p1 : parsePercentage [49, 48, 37] = some 100000 := by
  unfold parsePercentage
  have c1 : cutSuffixS [49, 48, 37] [37] = some ([49, 48], true) := by kernel_rfl
  have c2 : cutS [49, 48] [46] = some ([49, 48], [], false) := by kernel_rfl
  have l1 : loopO (parsePercentage_b1 [49, 48, 37] ([49, 48], [], false)) [] = some [48, 48, 48, 48] := loop_of 5 (by kernel_rfl)
  have a1 : atoiS [49, 48, 48, 48, 48, 48] = some (100000, true) := by kernel_rfl
  rw [c1, Option.bind_some, if_neg (by decide)]
  dsimp only
  rw [c2, Option.bind_some]
  dsimp only
  rw [l1, Option.bind_some]
  unfold parsePercentage_j1
  dsimp only
  rw [if_pos (by decide)]
  show (atoiS [49, 48, 48, 48, 48, 48]).bind _ = _
  rw [a1, Option.bind_some]
  show (some true).bind _ = _
  rw [Option.bind_some]
  show (percentage 100000).bind _ = _
  rw [aw_f1]; rfl
theorem aw_p2 : parsePercentage [52, 48, 37] = some 400000 := by
  unfold parsePercentage
  have c1 : cutSuffixS [52, 48, 37] [37] = some ([52, 48], true) := by kernel_rfl
  have c2 : cutS [52, 48] [46] = some ([52, 48], [], false) := by kernel_rfl
  have l1 : loopO (parsePercentage_b1 [52, 48, 37] ([52, 48], [], false)) [] = some [48, 48, 48, 48] := loop_of 5 (by kernel_rfl)
  have a1 : atoiS [52, 48, 48, 48, 48, 48] = some (400000, true) := by kernel_rfl
  rw [c1, Option.bind_some, if_neg (by decide)]
  dsimp only
  rw [c2, Option.bind_some]
  dsimp only
  rw [l1, Option.bind_some]
  unfold parsePercentage_j1
  dsimp only
  rw [if_pos (by decide)]
  show (atoiS [52, 48, 48, 48, 48, 48]).bind _ = _
  rw [a1, Option.bind_some]
  show (some true).bind _ = _
  rw [Option.bind_some]
  show (percentage 400000).bind _ = _
  rw [aw_f2]; rfl
theorem aw_e2 : parElement ⟨t0, 0⟩ = some (aw2, ⟨kOr :: t2, 0⟩) := by
  have a1 : atoiS [52] = some (4, true) := by kernel_rfl
  have s1 : splitS [53, 50, 48, 52, 44, 53, 50, 48, 53] [44] = some awE := by kernel_rfl
  have hc : parChange ⟨t0.tail, 0⟩ = some (aw2, ⟨kOr :: t2, 0⟩) := by
    unfold parChange
    show (some (([52] : Str), (⟨t0.tail.tail, 0⟩ : RuleParser))).bind _ = _
    rw [Option.bind_some]
    dsimp only
    rw [a1, Option.bind_some, if_neg (by decide)]
    show (some (true, (⟨t0.tail.tail.tail, 0⟩ : RuleParser))).bind _ = _
    rw [Option.bind_some, if_pos rfl]
    show (some (([53, 50, 48, 52, 44, 53, 50, 48, 53] : Str), (⟨t1, 0⟩ : RuleParser))).bind _ = _
    rw [Option.bind_some]
    dsimp only
    rw [s1, Option.bind_some]
    unfold parChange_j1
    show (some (true, (⟨t1.tail, 0⟩ : RuleParser))).bind _ = _
    rw [Option.bind_some, if_pos rfl]
    show (some (([49, 48, 37] : Str), (⟨kOr :: t2, 0⟩ : RuleParser))).bind _ = _
    rw [Option.bind_some]
    dsimp only
    rw [aw_p1]; rfl
  unfold parElement
  show (some (([99, 104, 97, 110, 103, 101] : Str), (⟨t0.tail, 0⟩ : RuleParser))).bind _ = _
  rw [Option.bind_some]
  dsimp only
  rw [if_neg (by decide), if_neg (by decide), if_pos (by decide), hc]; rfl
theorem aw_e3 : parElement ⟨t2, 0⟩ = some (aw3, ⟨t3, 0⟩) := by
  unfold parElement
  show (some (([102, 111, 114, 101, 105, 103, 110] : Str), (⟨t2.tail, 0⟩ : RuleParser))).bind _ = _
  rw [Option.bind_some]
  dsimp only
  rw [if_neg (by decide), if_neg (by decide), if_neg (by decide), if_pos (by decide)]
  show (some (([52, 48, 37] : Str), (⟨t3, 0⟩ : RuleParser))).bind _ = _
  rw [Option.bind_some]
  dsimp only
  rw [aw_p2]; rfl
theorem aw_e4 : parElement ⟨t3.tail, 0⟩ = some (aw4, ⟨[], 0⟩) := by kernel_rfl
theorem aw_c2 : parComb ⟨t0, 0⟩ = some (aw2, ⟨kOr :: t2, 0⟩) := by
  unfold parComb
  rw [aw_e2, Option.bind_some]
  have l1 : loopO parComb_b1 ([aw2], kOr :: t2, 0) = some ([aw2], kOr :: t2, 0) := loop_stop (by kernel_rfl)
  dsimp only
  rw [l1]; rfl
theorem aw_c5 : parComb ⟨t2, 0⟩ = some (aw5, ⟨[], 0⟩) := by
  unfold parComb
  rw [aw_e3, Option.bind_some]
  have l1 : loopO parComb_b1 ([aw3], t3, 0) = some ([aw3, aw4], [], 0) := by
    rw [loop_step (x := ([aw3, aw4], [], 0)), loop_stop (r := ([aw3, aw4], [], 0))]
    · kernel_rfl
    · kernel_rfl
  dsimp only
  rw [l1]; rfl
theorem aw_alt : parAlt ⟨t0, 0⟩ = some (awR, ⟨[], 0⟩) := by
  unfold parAlt
  rw [aw_c2, Option.bind_some]
  have l1 : loopO parAlt_b1 ([aw2], kOr :: t2, 0) = some ([aw2, aw5], [], 0) := by
    rw [loop_step (x := ([aw2, aw5], [], 0)), loop_stop (r := ([aw2, aw5], [], 0))]
    · kernel_rfl
    · unfold parAlt_b1
      dsimp only
      show (some (true, (⟨t2, 0⟩ : RuleParser))).bind _ = _
      rw [Option.bind_some, if_pos rfl]
      dsimp only
      rw [aw_c5]; rfl
  dsimp only
  rw [l1]; rfl
theorem aw_val : ruleValidate awR = some 0 := aw_mr.validate
theorem aw_x5 (n : Nat) : ruleText_n (n + 2) aw5 = some [102, 111, 114, 101, 105, 103, 110, 32, 52, 48, 37, 32, 97, 110, 100, 32, 112, 114, 111, 99, 101, 115, 115, 32, 97, 110, 100] := by
  show ruleText_F (ruleText_n (n + 1)) aw5 = _
  unfold ruleText_F
  rw [if_neg (by decide), if_neg (by decide), if_neg (by decide), if_neg (by decide)]
  have l1 : loopO (ruleText_b1 (ruleText_n (n + 1)) aw5) ((0 : Int), []) = some [[102, 111, 114, 101, 105, 103, 110, 32, 52, 48, 37], [112, 114, 111, 99, 101, 115, 115, 32, 97, 110, 100]] := loop_of 3 (by kernel_rfl)
  rw [l1, Option.bind_some]
  exact (show ruleText_j3 _ _ _ = _ by kernel_rfl)
theorem aw_x2 (n : Nat) : ruleText_n (n + 1) aw2 = some [99, 104, 97, 110, 103, 101, 32, 52, 32, 101, 120, 99, 101, 112, 116, 32, 53, 50, 48, 52, 44, 53, 50, 48, 53, 32, 116, 111, 108, 101, 114, 97, 110, 99, 101, 32, 49, 48, 37] := by
  show ruleText_F (ruleText_n n) aw2 = _
  kernel_rfl
theorem aw_text : ruleText awR = some awText := by
  unfold ruleText
  show ruleText_F (ruleText_n 7) awR = _
  unfold ruleText_F
  rw [if_neg (by decide), if_neg (by decide), if_neg (by decide), if_neg (by decide)]
  have l1 : loopO (ruleText_b1 (ruleText_n 7) awR) ((0 : Int), []) = some [[99, 104, 97, 110, 103, 101, 32, 52, 32, 101, 120, 99, 101, 112, 116, 32, 53, 50, 48, 52, 44, 53, 50, 48, 53, 32, 116, 111, 108, 101, 114, 97, 110, 99, 101, 32, 49, 48, 37], [102, 111, 114, 101, 105, 103, 110, 32, 52, 48, 37, 32, 97, 110, 100, 32, 112, 114, 111, 99, 101, 115, 115, 32, 97, 110, 100]] := by
    rw [loop_step (x := ((1 : Int), [[99, 104, 97, 110, 103, 101, 32, 52, 32, 101, 120, 99, 101, 112, 116, 32, 53, 50, 48, 52, 44, 53, 50, 48, 53, 32, 116, 111, 108, 101, 114, 97, 110, 99, 101, 32, 49, 48, 37]])), loop_step (x := ((2 : Int), [[99, 104, 97, 110, 103, 101, 32, 52, 32, 101, 120, 99, 101, 112, 116, 32, 53, 50, 48, 52, 44, 53, 50, 48, 53, 32, 116, 111, 108, 101, 114, 97, 110, 99, 101, 32, 49, 48, 37], [102, 111, 114, 101, 105, 103, 110, 32, 52, 48, 37, 32, 97, 110, 100, 32, 112, 114, 111, 99, 101, 115, 115, 32, 97, 110, 100]])), loop_stop (r := [[99, 104, 97, 110, 103, 101, 32, 52, 32, 101, 120, 99, 101, 112, 116, 32, 53, 50, 48, 52, 44, 53, 50, 48, 53, 32, 116, 111, 108, 101, 114, 97, 110, 99, 101, 32, 49, 48, 37], [102, 111, 114, 101, 105, 103, 110, 32, 52, 48, 37, 32, 97, 110, 100, 32, 112, 114, 111, 99, 101, 115, 115, 32, 97, 110, 100]])]
    · kernel_rfl
    · unfold ruleText_b1
      dsimp only
      rw [if_pos (by decide), if_pos (by decide)]
      show (some aw5).bind _ = _
      rw [Option.bind_some, aw_x5]; rfl
    · unfold ruleText_b1
      dsimp only
      rw [if_pos (by decide), if_pos (by decide)]
      show (some aw2).bind _ = _
      rw [Option.bind_some, aw_x2]; rfl
  rw [l1, Option.bind_some]
  exact (show ruleText_j3 _ _ _ = _ by kernel_rfl)
theorem aw_format : ruleFormat awR = some awText := by
  unfold ruleFormat
  rw [aw_val, Option.bind_some, if_neg (by decide), aw_text]; rfl
theorem aw_parse : ruleParse awText = some (awR, 0) := by
  unfold ruleParse
  rw [aw_tok, Option.bind_some, aw_alt, Option.bind_some]
  dsimp only
  rw [aw_val, Option.bind_some, if_pos (by decide), aw_format, Option.bind_some, if_neg (by decide)]
end Go.C
