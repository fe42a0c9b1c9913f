/- Plain laws of chapter 9: the fixed example. No program in sight. -/
import Derived.Test.YtfkefolbabniaaaGreatDoorNe
import Derived.Test.YtfkefolbabniaaaGreatDoorPe
set_option linter.unusedVariables false
set_option linter.unusedSimpArgs false
namespace Go.C
open Go.V

abbrev aw1 : Str := [57, 52, 32, 48, 32, 51, 54, 53, 50, 53]
abbrev aw2 : Str := [57, 52, 48, 49, 32, 48, 32, 51, 54, 53, 50, 53, 32, 115, 101, 97, 116, 32, 99, 104, 97, 105, 114, 43, 111, 102, 102, 105, 99, 101]
abbrev aw3 : Str := [110, 111, 116, 101, 32, 57, 53, 32, 108, 97, 109, 112, 32, 57, 52, 48, 49]
abbrev awText : Str := [57, 52, 32, 48, 32, 51, 54, 53, 50, 53, 10, 57, 52, 48, 49, 32, 48, 32, 51, 54, 53, 50, 53, 32, 115, 101, 97, 116, 32, 99, 104, 97, 105, 114, 43, 111, 102, 102, 105, 99, 101, 10, 110, 111, 116, 101, 32, 57, 53, 32, 108, 97, 109, 112, 32, 57, 52, 48, 49, 10]
def awe1 : Ent := ⟨[57, 52], 0, 36525, [], false⟩
def awe2 : Ent := ⟨[57, 52, 48, 49], 0, 36525, [[[115, 101, 97, 116]], [[99, 104, 97, 105, 114], [111, 102, 102, 105, 99, 101]]], false⟩
def awn : ApiCodeNote := ⟨[57, 53], [[108, 97, 109, 112]], [57, 52, 48, 49]⟩
def awb : ApiNomenclature := ⟨[awe1, awe2], [awn]⟩

theorem awe1_one : oneE awe1 = 0 := by decide
theorem awe2_one : oneE awe2 = 0 := by decide
theorem awn_ok : noteOk awn = true := by decide
theorem awb_nv : nv awb = 0 := by decide

theorem aw_e1 : entryLine awe1 = some aw1 := by
  unfold entryLine
  have e1 : itoa awe1.From = some [48] := by kernel_rfl
  have e2 : itoa awe1.To = some [51, 54, 53, 50, 53] := by kernel_rfl
  rw [e1, Option.bind_some, e2, Option.bind_some]
  have l1 : loopO (entryLine_b1 awe1) ((0 : Int), [awe1.Code, [48], [51, 54, 53, 50, 53]]) = some [awe1.Code, [48], [51, 54, 53, 50, 53]] := loop_of 1 (by kernel_rfl)
  rw [l1, Option.bind_some]
  show entryLine_j1 awe1 [awe1.Code, [48], [51, 54, 53, 50, 53]] = some aw1
  kernel_rfl
theorem aw_e2 : entryLine awe2 = some aw2 := by
  unfold entryLine
  have e1 : itoa awe2.From = some [48] := by kernel_rfl
  have e2 : itoa awe2.To = some [51, 54, 53, 50, 53] := by kernel_rfl
  rw [e1, Option.bind_some, e2, Option.bind_some]
  have l1 : loopO (entryLine_b1 awe2) ((0 : Int), [awe2.Code, [48], [51, 54, 53, 50, 53]]) = some [awe2.Code, [48], [51, 54, 53, 50, 53], [115, 101, 97, 116], [99, 104, 97, 105, 114, 43, 111, 102, 102, 105, 99, 101]] := loop_of 3 (by kernel_rfl)
  rw [l1, Option.bind_some]
  show entryLine_j1 awe2 [awe2.Code, [48], [51, 54, 53, 50, 53], [115, 101, 97, 116], [99, 104, 97, 105, 114, 43, 111, 102, 102, 105, 99, 101]] = some aw2
  kernel_rfl
theorem aw_n : noteLine awn = some aw3 := by kernel_rfl

theorem aw_pn1 : parseNote aw1 = some (⟨[], [], []⟩, false) := by kernel_rfl
theorem aw_pn2 : parseNote aw2 = some (⟨[], [], []⟩, false) := by kernel_rfl
theorem aw_pn3 : parseNote aw3 = some (awn, true) := by
  unfold parseNote
  have e1 : splitS aw3 [32] = some [[110, 111, 116, 101], [57, 53], [108, 97, 109, 112], [57, 52, 48, 49]] := by kernel_rfl
  rw [e1, Option.bind_some, if_neg (by decide)]
  show (Option.bind (some ([57, 53] : Str)) _) = _
  rw [Option.bind_some]
  show (Option.bind (some ([108, 97, 109, 112] : Str)) _) = _
  have e2 : splitS [108, 97, 109, 112] [43] = some [[108, 97, 109, 112]] := by kernel_rfl
  rw [Option.bind_some, e2, Option.bind_some]
  show (Option.bind (some ([57, 52, 48, 49] : Str)) _) = _
  rw [Option.bind_some, if_neg (by decide)]
  unfold parseNote_j1
  show (validateNote awn).bind _ = _
  rw [validateNote_eq, awn_ok, Option.bind_some, if_pos (by decide)]
  show (noteLine awn).bind _ = _
  rw [aw_n]
  rfl
theorem aw_pe1 : parseEntry aw1 = some (awe1, true) := by
  unfold parseEntry
  have e1 : splitS aw1 [32] = some [[57, 52], [48], [51, 54, 53, 50, 53]] := by kernel_rfl
  have e2 : atoiS [48] = some (0, true) := by kernel_rfl
  have e3 : atoiS [51, 54, 53, 50, 53] = some (36525, true) := by kernel_rfl
  rw [e1, Option.bind_some, if_neg (by decide)]
  show (Option.bind (some ([48] : Str)) _) = _
  rw [Option.bind_some, e2, Option.bind_some, if_neg (by decide)]
  show (Option.bind (some ([51, 54, 53, 50, 53] : Str)) _) = _
  rw [Option.bind_some, e3, Option.bind_some, if_neg (by decide)]
  show (Option.bind (some ([57, 52] : Str)) _) = _
  rw [Option.bind_some, if_pos (by decide)]
  have l1 : loopO (parseEntry_b1 aw1 [[57, 52], [48], [51, 54, 53, 50, 53]] (0, true) (36525, true) [57, 52]) ((0 : Int), [], false) = some ([], false) := loop_of 1 (by kernel_rfl)
  rw [l1, Option.bind_some]
  show parseEntry_j1 aw1 (0, true) (36525, true) [57, 52] [] false = _
  unfold parseEntry_j1
  show (validateEntry awe1).bind _ = _
  rw [validateEntry_eq, awe1_one, Option.bind_some, if_pos (by decide)]
  show (entryLine awe1).bind _ = _
  rw [aw_e1]
  rfl
theorem aw_pe2 : parseEntry aw2 = some (awe2, true) := by
  unfold parseEntry
  have e1 : splitS aw2 [32] = some [[57, 52, 48, 49], [48], [51, 54, 53, 50, 53], [115, 101, 97, 116], [99, 104, 97, 105, 114, 43, 111, 102, 102, 105, 99, 101]] := by kernel_rfl
  have e2 : atoiS [48] = some (0, true) := by kernel_rfl
  have e3 : atoiS [51, 54, 53, 50, 53] = some (36525, true) := by kernel_rfl
  rw [e1, Option.bind_some, if_neg (by decide)]
  show (Option.bind (some ([48] : Str)) _) = _
  rw [Option.bind_some, e2, Option.bind_some, if_neg (by decide)]
  show (Option.bind (some ([51, 54, 53, 50, 53] : Str)) _) = _
  rw [Option.bind_some, e3, Option.bind_some, if_neg (by decide)]
  show (Option.bind (some ([57, 52, 48, 49] : Str)) _) = _
  rw [Option.bind_some, if_pos (by decide)]
  have l1 : loopO (parseEntry_b1 aw2 [[57, 52, 48, 49], [48], [51, 54, 53, 50, 53], [115, 101, 97, 116], [99, 104, 97, 105, 114, 43, 111, 102, 102, 105, 99, 101]] (0, true) (36525, true) [57, 52, 48, 49]) ((0 : Int), [], false) = some (awe2.Terms, false) := loop_of 3 (by kernel_rfl)
  rw [l1, Option.bind_some]
  show parseEntry_j1 aw2 (0, true) (36525, true) [57, 52, 48, 49] awe2.Terms false = _
  unfold parseEntry_j1
  show (validateEntry awe2).bind _ = _
  rw [validateEntry_eq, awe2_one, Option.bind_some, if_pos (by decide)]
  show (entryLine awe2).bind _ = _
  rw [aw_e2]
  rfl

theorem aw_parse : nomParse awText = some (awb, 3, 0) := by
  unfold nomParse
  have c1 : cutS awText [10] = some (aw1, aw2 ++ 10 :: (aw3 ++ [10]), true) := by kernel_rfl
  have c2 : cutS (aw2 ++ 10 :: (aw3 ++ [10])) [10] = some (aw2, aw3 ++ [10], true) := by kernel_rfl
  have c3 : cutS (aw3 ++ [10]) [10] = some (aw3, [], true) := by kernel_rfl
  have hl : loopO nomParse_b1 ((0 : Int), awText, [], []) = some (.inr (3, [awe1, awe2], [awn])) := by
    rw [loop_step (x := ((1 : Int), aw2 ++ 10 :: (aw3 ++ [10]), [awe1], [])), loop_step (x := ((2 : Int), aw3 ++ [10], [awe1, awe2], [])), loop_step (x := ((3 : Int), [], [awe1, awe2], [awn])), loop_stop]
    · unfold nomParse_b1; rfl
    · unfold nomParse_b1
      dsimp only
      rw [if_pos (by decide), c3, Option.bind_some, if_pos (by decide)]
      unfold addLine
      rw [aw_pn3]
      rfl
    · unfold nomParse_b1
      dsimp only
      rw [if_pos (by decide), c2, Option.bind_some, if_pos (by decide)]
      unfold addLine
      rw [aw_pn2, Option.bind_some, if_neg (by decide), aw_pe2]
      rfl
    · unfold nomParse_b1
      dsimp only
      rw [if_pos (by decide), c1, Option.bind_some, if_pos (by decide)]
      unfold addLine
      rw [aw_pn1, Option.bind_some, if_neg (by decide), aw_pe1]
      rfl
  rw [hl, Option.bind_some]
  show nomParse_j1 3 [awe1, awe2] [awn] = _
  unfold nomParse_j1
  show (nomValidate awb).bind _ = _
  rw [nomValidate_eq, awb_nv]
  rfl

theorem awb_BB : BB awb := ⟨⟨by decide, fun e he => by
  simp [awb] at he
  rcases he with rfl | rfl
  · exact ⟨by decide, fun x hx => by simp [awe1] at hx⟩
  · exact ⟨by decide, fun x hx => by simp [awe2] at hx; rcases hx with rfl | rfl <;> decide⟩⟩, by decide, fun n hn => by simp [awb] at hn; subst hn; decide⟩
theorem awe2_LB : LB awe2.Terms := ⟨by decide, fun x hx => by simp [awe2] at hx; rcases hx with rfl | rfl <;> decide⟩
theorem awake_true : awake09 = some true := by
  unfold awake09
  rw [show ([57, 52, 32, 48, 32, 51, 54, 53, 50, 53, 10, 57, 52, 48, 49, 32, 48, 32, 51, 54, 53, 50, 53, 32, 115, 101, 97, 116, 32, 99, 104, 97, 105, 114, 43, 111, 102, 102, 105, 99, 101, 10, 110, 111, 116, 101, 32, 57, 53, 32, 108, 97, 109, 112, 32, 57, 52, 48, 49, 10] : Str) = awText from rfl, aw_parse, Option.bind_some]
  have e1 : belS awb 7 [] = [awe2] := by rfl
  rw [nomBelow_eq awb_BB (fun e he => by simp [awb] at he; rcases he with rfl | rfl <;> decide), e1, Option.bind_some, if_pos (fun _ => by decide), if_pos (by decide)]
  have e2 : scS awb awe2 [[99, 104, 97, 105, 114], [111, 102, 102, 105, 99, 101]] = 2 := by decide
  show (nomScore awb awe2 _).bind _ = _
  rw [nomScore_eq awb_BB awe2_LB (by decide), e2, Option.bind_some, if_pos (fun _ => by decide), if_pos (by decide)]
  have e3 : scS awb awe2 [[108, 97, 109, 112]] = 1 := by decide
  show (nomScore awb awe2 _).bind _ = _
  rw [nomScore_eq awb_BB awe2_LB (by decide), e3, Option.bind_some, if_pos (by decide)]
  have e4 : exS awb [57, 53, 48, 49] [[108, 97, 109, 112]] = true := by decide
  show (nomExcluded awb _ _).bind _ = _
  rw [nomExcluded_eq awb_BB _ (by decide), e4, Option.bind_some, if_pos (by decide), nomLevel_eq, Option.bind_some]
  decide

end Go.C
