/- Packed by pack.py. -/
import Derived.Test.YtaeplfiaahkgpaaGreatDoorProg
import Derived.Test.YtaeplfiaahkgpaaGreatDoorQd2
import Derived.Lib.Split
import Derived.Lib.ItoaNum
import Derived.Lib.Join
import Derived.Lib.TrimByte
import Derived.Lib.IndexMore
import Derived.Lib.Strings
import Derived.Lib.AtoiAll
import Derived.Lib.BitFns
import Derived.Lib.SlTrimSet
import Derived.Shelf.Strings.Builder1
import Derived.Shelf.Strings.Builder2
import Derived.Shelf.Strings.OnBuilder
import Derived.Shelf.Strings.Trim
import Derived.Shelf.Small.Utf8
import Derived.Shelf.Small.Bits
import Derived.Shelf.Small.Strs
import Derived.Shelf.Small.Wraps
import Derived.Shelf.Strings.BuilderF
import Derived.Shelf.Strings.BuilderK
import Derived.Shelf.Strconv.Itoa0
import Derived.Shelf.Strconv.Itoa1
import Derived.Shelf.LaysM
import Derived.Shelf.Strconv.Itoa2
import Derived.Shelf.Strconv.Itoa3
import Derived.Shelf.Strings.Search1
import Derived.Shelf.Sort.Plain
import Derived.Shelf.Strings.Prefix
import Derived.Shelf.Strings.Runes
import Derived.Shelf.Strings.AsciiSet
import Derived.Shelf.Unicode.DecodeSlow
import Derived.Ground.Names2Prog
import Derived.Shelf.Slices.Clone
import Derived.Shelf.Slices.CompactS
import Derived.Shelf.Slices.Cells
import Derived.Shelf.Slices.In.SortNone
import Derived.Lib.LaidTab
import Derived.Laws.Externs
import Derived.Shelf.Strings.SlTrimAscii
import Derived.Test.YtaeplfiaahkgpaaGreatDoorQd1
import Derived.Test.YtaeplfiaahkgpaaGreatDoorCards
import Derived.Test.YtaeplfiaahkgpaaGreatDoorTie
import Derived.Lay
import Derived.ProofKit
import Derived.MakeChecks
import Derived.Deep.DeepHandedRow
import Derived.Deep.DeepWitnessRowRef
import Derived.SevenTiedAt
import Derived.Stop.Joined
noncomputable section zTb
namespace Go.Proofs.YtaeplfiaahkgpaaGreatDoor
open Go.V
def tb : List (Nat × TI) := [(1, ⟨1, .nilFunc, false, [], none, none, 0⟩),
 (2, ⟨1, .int .i64 0, false, [], some .i64, none, 0⟩),
 (3, ⟨1, .int .i64 0, false, [], some .i64, none, 0⟩),
 (4, ⟨1, .bool false, false, [], none, none, 1⟩),
 (5, ⟨1, .int .u8 0, false, [], some .u8, none, 0⟩),
 (6, ⟨1, .int .u8 0, false, [], some .u8, none, 0⟩),
 (7, ⟨4, .agg #[.int .i64 0, .int .i64 0, .bool false, .int .u8 0], true, [(0, 2), (1, 3), (2, 4), (3, 6)], none, none, 0⟩),
 (8, ⟨4, .agg #[.int .i64 0, .int .i64 0, .bool false, .int .u8 0], true, [(0, 2), (1, 3), (2, 4), (3, 6)], none, none, 0⟩),
 (9, ⟨1, .string ⟨⟨[]⟩⟩, false, [], none, none, 2⟩),
 (10, ⟨1, .string ⟨⟨[]⟩⟩, false, [], none, none, 2⟩),
 (11, ⟨1, .string ⟨⟨[]⟩⟩, false, [], none, none, 2⟩),
 (12, ⟨1, .int .u64 0, false, [], some .u64, none, 0⟩),
 (13, ⟨2, .agg #[.string ⟨⟨[]⟩⟩, .int .u64 0], true, [(0, 9), (1, 12)], none, none, 0⟩),
 (14, ⟨2, .agg #[.string ⟨⟨[]⟩⟩, .int .u64 0], true, [(0, 9), (1, 12)], none, none, 0⟩),
 (15, ⟨1, .pointer none, false, [], none, none, 0⟩),
 (16, ⟨1, .pointer none, false, [], none, none, 0⟩),
 (17, ⟨1, .pointer none, false, [], none, none, 0⟩),
 (18, ⟨1, .agg #[.pointer none], true, [(0, 17)], none, none, 0⟩),
 (19, ⟨1, .agg #[.pointer none], true, [(0, 17)], none, none, 0⟩),
 (20, ⟨1, .nilIface, false, [], none, none, 3⟩),
 (21, ⟨1, .int .i32 0, false, [], some .i32, none, 0⟩),
 (22, ⟨1, .slice none 0 0, false, [], none, some 1, 7⟩),
 (23, ⟨1, .slice none 0 0, false, [], none, some 5, 57⟩),
 (24, ⟨1, .slice none 0 0, false, [], none, some 3, 70⟩),
 (25, ⟨2, .agg #[.slice none 0 0, .slice none 0 0], true, [(0, 23), (1, 24)], none, none, 0⟩),
 (26, ⟨2, .agg #[.slice none 0 0, .slice none 0 0], true, [(0, 23), (1, 24)], none, none, 0⟩),
 (27, ⟨1, .nilFunc, false, [], none, none, 0⟩),
 (28, ⟨1, .slice none 0 0, false, [], none, some 1, 13⟩),
 (29, ⟨1, .slice none 0 0, false, [], none, some 2, 74⟩),
 (30, ⟨1, .slice none 0 0, false, [], none, some 2, 76⟩),
 (31, ⟨4, .agg #[.slice none 0 0, .slice none 0 0, .slice none 0 0, .bool false], true, [(0, 28), (1, 29), (2, 30), (3, 4)], none, none, 0⟩),
 (32, ⟨4, .agg #[.slice none 0 0, .slice none 0 0, .slice none 0 0, .bool false], true, [(0, 28), (1, 29), (2, 30), (3, 4)], none, none, 0⟩),
 (33, ⟨1, .nilFunc, false, [], none, none, 0⟩),
 (34, ⟨1, .slice none 0 0, false, [], none, some 5, 49⟩),
 (35, ⟨1, .int .i64 0, false, [], some .i64, none, 0⟩),
 (45, ⟨5, .agg #[.string ⟨⟨[]⟩⟩, .int .i64 0, .slice none 0 0, .int .i64 0, .string ⟨⟨[]⟩⟩], true, [(0, 9), (1, 3), (2, 28), (3, 3), (4, 9)], none, none, 0⟩),
 (48, ⟨1, .int .u64 0, false, [], some .u64, none, 0⟩),
 (51, ⟨1, .slice none 0 0, false, [], none, some 1, 32⟩),
 (53, ⟨5, .agg #[.string ⟨⟨[]⟩⟩, .int .i64 0, .int .i64 0, .slice none 0 0, .bool false], true, [(0, 9), (1, 3), (2, 3), (3, 51), (4, 4)], none, none, 0⟩),
 (60, ⟨1, .pointer none, false, [], none, none, 0⟩),
 (63, ⟨2, .agg #[.slice none 0 0, .int .i64 0], true, [(0, 22), (1, 3)], none, none, 0⟩),
 (66, ⟨3, .agg #[.string ⟨⟨[]⟩⟩, .slice none 0 0, .string ⟨⟨[]⟩⟩], true, [(0, 9), (1, 28), (2, 9)], none, none, 0⟩),
 (70, ⟨2, .agg #[.string ⟨⟨[]⟩⟩, .int .i64 0], true, [(0, 9), (1, 3)], none, none, 0⟩),
 (72, ⟨2, .agg #[.slice none 0 0, .int .i64 0], true, [(0, 28), (1, 3)], none, none, 0⟩),
 (85, ⟨1, .pointer none, false, [], none, none, 0⟩),
 (86, ⟨1, .slice none 0 0, false, [], none, some 1, 9⟩),
 (88, ⟨2, .agg #[.pointer none, .slice none 0 0], true, [(0, 85), (1, 86)], none, none, 0⟩),
 (92, ⟨1, .nilIface, false, [], none, none, 3⟩),
 (94, ⟨1, .nilFunc, false, [], none, none, 0⟩),
 (107, ⟨8, .agg #[.slice none 0 0, .slice none 0 0, .slice none 0 0, .slice none 0 0, .slice none 0 0, .bool false, .string ⟨⟨[]⟩⟩, .slice none 0 0], true, [(0, 26), (2, 32), (6, 9), (7, 23)], none, none, 0⟩),
 (108, ⟨1, .nilFunc, false, [], none, none, 0⟩),
 (110, ⟨2, .agg #[.int .i64 0, .nilFunc], true, [(0, 3), (1, 108)], none, none, 0⟩),
 (111, ⟨1, .slice none 0 0, false, [], none, some 2, 114⟩),
 (113, ⟨1, .nilFunc, false, [], none, none, 0⟩),
 (115, ⟨1, .nilFunc, false, [], none, none, 0⟩),
 (117, ⟨4, .agg #[.string ⟨⟨[]⟩⟩, .string ⟨⟨[]⟩⟩, .int .i64 0, .int .i64 0], true, [(0, 9), (1, 9), (2, 3), (3, 3)], none, none, 0⟩),
 (118, ⟨1, .nilFunc, false, [], none, none, 0⟩),
 (121, ⟨1, .nilFunc, false, [], none, none, 0⟩),
 (122, ⟨1, .nilFunc, false, [], none, none, 0⟩),
 (125, ⟨1, .nilFunc, false, [], none, none, 0⟩),
 (135, ⟨1, .nilFunc, false, [], none, none, 0⟩),
 (137, ⟨1, .pointer none, false, [], none, none, 0⟩),
 (140, ⟨2, .agg #[.string ⟨⟨[]⟩⟩, .int .i64 0], true, [(0, 9), (1, 3)], none, none, 0⟩),
 (143, ⟨1, .slice none 0 0, false, [], none, some 1, 26⟩),
 (146, ⟨1, .nilFunc, false, [], none, none, 0⟩),
 (150, ⟨1, .nilFunc, false, [], none, none, 0⟩),
 (161, ⟨4, .agg #[.int .i64 0, .int .i64 0, .int .i64 0, .int .i64 0], true, [], none, none, 0⟩),
 (169, ⟨1, .nilFunc, false, [], none, none, 0⟩),
 (171, ⟨1, .int .u64 0, false, [], some .u64, none, 0⟩),
 (184, ⟨1, .map none, false, [], none, none, 0⟩),
 (193, ⟨1, .int .u32 0, false, [], some .u32, none, 0⟩),
 (200, ⟨1, .int .i64 0, false, [], some .i64, none, 0⟩),
 (209, ⟨1, .int .u64 0, false, [], some .u64, none, 0⟩),
 (227, ⟨4, .agg #[.pointer none, .pointer none, .pointer none, .string ⟨⟨[]⟩⟩], true, [(0, 17), (1, 17), (2, 17), (3, 9)], none, none, 0⟩),
 (228, ⟨0, .agg #[], true, [], none, none, 0⟩),
 (230, ⟨0, .agg #[], true, [(1000000, 228)], none, none, 0⟩),
 (232, ⟨1, .int .u8 0, false, [], some .u8, none, 0⟩),
 (233, ⟨1, .int .u8 0, false, [], some .u8, none, 0⟩),
 (234, ⟨1, .nilFunc, false, [], none, none, 0⟩),
 (235, ⟨1, .int .i32 0, false, [], some .i32, none, 0⟩),
 (236, ⟨1, .int .i32 0, false, [], some .i32, none, 0⟩),
 (238, ⟨11, .agg #[.int .u64 0, .int .u64 0, .int .u32 0, .int .u8 0, .int .u8 0, .int .u8 0, .int .u8 0, .nilFunc, .pointer none, .int .i32 0, .int .i32 0], true, [(0, 12), (1, 12), (2, 193), (3, 232), (4, 5), (5, 5), (6, 233), (7, 234), (8, 137), (9, 235), (10, 236)], none, none, 0⟩)]
theorem tb1 : TIok Tryz.prog 1 ((get tb 1).getD ⟨0, undef, false, [], none, none, 0⟩) := ⟨by kernel_rfl, by kernel_rfl⟩
theorem tb2 : TIok Tryz.prog 2 ((get tb 2).getD ⟨0, undef, false, [], none, none, 0⟩) := ⟨by kernel_rfl, by kernel_rfl⟩
theorem tb3 : TIok Tryz.prog 3 ((get tb 3).getD ⟨0, undef, false, [], none, none, 0⟩) := ⟨by kernel_rfl, by kernel_rfl⟩
theorem tb4 : TIok Tryz.prog 4 ((get tb 4).getD ⟨0, undef, false, [], none, none, 0⟩) := ⟨by kernel_rfl, by kernel_rfl⟩
theorem tb5 : TIok Tryz.prog 5 ((get tb 5).getD ⟨0, undef, false, [], none, none, 0⟩) := ⟨by kernel_rfl, by kernel_rfl⟩
theorem tb6 : TIok Tryz.prog 6 ((get tb 6).getD ⟨0, undef, false, [], none, none, 0⟩) := ⟨by kernel_rfl, by kernel_rfl⟩
theorem tb7 : TIok Tryz.prog 7 ((get tb 7).getD ⟨0, undef, false, [], none, none, 0⟩) := ⟨by kernel_rfl, by kernel_rfl⟩
theorem tb8 : TIok Tryz.prog 8 ((get tb 8).getD ⟨0, undef, false, [], none, none, 0⟩) := ⟨by kernel_rfl, by kernel_rfl⟩
theorem tb9 : TIok Tryz.prog 9 ((get tb 9).getD ⟨0, undef, false, [], none, none, 0⟩) := ⟨by kernel_rfl, by kernel_rfl⟩
theorem tb10 : TIok Tryz.prog 10 ((get tb 10).getD ⟨0, undef, false, [], none, none, 0⟩) := ⟨by kernel_rfl, by kernel_rfl⟩
theorem tb11 : TIok Tryz.prog 11 ((get tb 11).getD ⟨0, undef, false, [], none, none, 0⟩) := ⟨by kernel_rfl, by kernel_rfl⟩
theorem tb12 : TIok Tryz.prog 12 ((get tb 12).getD ⟨0, undef, false, [], none, none, 0⟩) := ⟨by kernel_rfl, by kernel_rfl⟩
theorem tb13 : TIok Tryz.prog 13 ((get tb 13).getD ⟨0, undef, false, [], none, none, 0⟩) := ⟨by kernel_rfl, by kernel_rfl⟩
theorem tb14 : TIok Tryz.prog 14 ((get tb 14).getD ⟨0, undef, false, [], none, none, 0⟩) := ⟨by kernel_rfl, by kernel_rfl⟩
theorem tb15 : TIok Tryz.prog 15 ((get tb 15).getD ⟨0, undef, false, [], none, none, 0⟩) := ⟨by kernel_rfl, by kernel_rfl⟩
theorem tb16 : TIok Tryz.prog 16 ((get tb 16).getD ⟨0, undef, false, [], none, none, 0⟩) := ⟨by kernel_rfl, by kernel_rfl⟩
theorem tb17 : TIok Tryz.prog 17 ((get tb 17).getD ⟨0, undef, false, [], none, none, 0⟩) := ⟨by kernel_rfl, by kernel_rfl⟩
theorem tb18 : TIok Tryz.prog 18 ((get tb 18).getD ⟨0, undef, false, [], none, none, 0⟩) := ⟨by kernel_rfl, by kernel_rfl⟩
theorem tb19 : TIok Tryz.prog 19 ((get tb 19).getD ⟨0, undef, false, [], none, none, 0⟩) := ⟨by kernel_rfl, by kernel_rfl⟩
theorem tb20 : TIok Tryz.prog 20 ((get tb 20).getD ⟨0, undef, false, [], none, none, 0⟩) := ⟨by kernel_rfl, by kernel_rfl⟩
theorem tb21 : TIok Tryz.prog 21 ((get tb 21).getD ⟨0, undef, false, [], none, none, 0⟩) := ⟨by kernel_rfl, by kernel_rfl⟩
theorem tb22 : TIok Tryz.prog 22 ((get tb 22).getD ⟨0, undef, false, [], none, none, 0⟩) := ⟨by kernel_rfl, by kernel_rfl⟩
theorem tb23 : TIok Tryz.prog 23 ((get tb 23).getD ⟨0, undef, false, [], none, none, 0⟩) := ⟨by kernel_rfl, by kernel_rfl⟩
theorem tb24 : TIok Tryz.prog 24 ((get tb 24).getD ⟨0, undef, false, [], none, none, 0⟩) := ⟨by kernel_rfl, by kernel_rfl⟩
theorem tb25 : TIok Tryz.prog 25 ((get tb 25).getD ⟨0, undef, false, [], none, none, 0⟩) := ⟨by kernel_rfl, by kernel_rfl⟩
theorem tb26 : TIok Tryz.prog 26 ((get tb 26).getD ⟨0, undef, false, [], none, none, 0⟩) := ⟨by kernel_rfl, by kernel_rfl⟩
theorem tb27 : TIok Tryz.prog 27 ((get tb 27).getD ⟨0, undef, false, [], none, none, 0⟩) := ⟨by kernel_rfl, by kernel_rfl⟩
theorem tb28 : TIok Tryz.prog 28 ((get tb 28).getD ⟨0, undef, false, [], none, none, 0⟩) := ⟨by kernel_rfl, by kernel_rfl⟩
theorem tb29 : TIok Tryz.prog 29 ((get tb 29).getD ⟨0, undef, false, [], none, none, 0⟩) := ⟨by kernel_rfl, by kernel_rfl⟩
theorem tb30 : TIok Tryz.prog 30 ((get tb 30).getD ⟨0, undef, false, [], none, none, 0⟩) := ⟨by kernel_rfl, by kernel_rfl⟩
theorem tb31 : TIok Tryz.prog 31 ((get tb 31).getD ⟨0, undef, false, [], none, none, 0⟩) := ⟨by kernel_rfl, by kernel_rfl⟩
theorem tb32 : TIok Tryz.prog 32 ((get tb 32).getD ⟨0, undef, false, [], none, none, 0⟩) := ⟨by kernel_rfl, by kernel_rfl⟩
theorem tb33 : TIok Tryz.prog 33 ((get tb 33).getD ⟨0, undef, false, [], none, none, 0⟩) := ⟨by kernel_rfl, by kernel_rfl⟩
theorem tb34 : TIok Tryz.prog 34 ((get tb 34).getD ⟨0, undef, false, [], none, none, 0⟩) := ⟨by kernel_rfl, by kernel_rfl⟩
theorem tb35 : TIok Tryz.prog 35 ((get tb 35).getD ⟨0, undef, false, [], none, none, 0⟩) := ⟨by kernel_rfl, by kernel_rfl⟩
theorem tb45 : TIok Tryz.prog 45 ((get tb 45).getD ⟨0, undef, false, [], none, none, 0⟩) := ⟨by kernel_rfl, by kernel_rfl⟩
theorem tb48 : TIok Tryz.prog 48 ((get tb 48).getD ⟨0, undef, false, [], none, none, 0⟩) := ⟨by kernel_rfl, by kernel_rfl⟩
theorem tb51 : TIok Tryz.prog 51 ((get tb 51).getD ⟨0, undef, false, [], none, none, 0⟩) := ⟨by kernel_rfl, by kernel_rfl⟩
theorem tb53 : TIok Tryz.prog 53 ((get tb 53).getD ⟨0, undef, false, [], none, none, 0⟩) := ⟨by kernel_rfl, by kernel_rfl⟩
theorem tb60 : TIok Tryz.prog 60 ((get tb 60).getD ⟨0, undef, false, [], none, none, 0⟩) := ⟨by kernel_rfl, by kernel_rfl⟩
theorem tb63 : TIok Tryz.prog 63 ((get tb 63).getD ⟨0, undef, false, [], none, none, 0⟩) := ⟨by kernel_rfl, by kernel_rfl⟩
theorem tb66 : TIok Tryz.prog 66 ((get tb 66).getD ⟨0, undef, false, [], none, none, 0⟩) := ⟨by kernel_rfl, by kernel_rfl⟩
theorem tb70 : TIok Tryz.prog 70 ((get tb 70).getD ⟨0, undef, false, [], none, none, 0⟩) := ⟨by kernel_rfl, by kernel_rfl⟩
theorem tb72 : TIok Tryz.prog 72 ((get tb 72).getD ⟨0, undef, false, [], none, none, 0⟩) := ⟨by kernel_rfl, by kernel_rfl⟩
theorem tb85 : TIok Tryz.prog 85 ((get tb 85).getD ⟨0, undef, false, [], none, none, 0⟩) := ⟨by kernel_rfl, by kernel_rfl⟩
theorem tb86 : TIok Tryz.prog 86 ((get tb 86).getD ⟨0, undef, false, [], none, none, 0⟩) := ⟨by kernel_rfl, by kernel_rfl⟩
theorem tb88 : TIok Tryz.prog 88 ((get tb 88).getD ⟨0, undef, false, [], none, none, 0⟩) := ⟨by kernel_rfl, by kernel_rfl⟩
theorem tb92 : TIok Tryz.prog 92 ((get tb 92).getD ⟨0, undef, false, [], none, none, 0⟩) := ⟨by kernel_rfl, by kernel_rfl⟩
theorem tb94 : TIok Tryz.prog 94 ((get tb 94).getD ⟨0, undef, false, [], none, none, 0⟩) := ⟨by kernel_rfl, by kernel_rfl⟩
theorem tb107 : TIok Tryz.prog 107 ((get tb 107).getD ⟨0, undef, false, [], none, none, 0⟩) := ⟨by kernel_rfl, by kernel_rfl⟩
theorem tb108 : TIok Tryz.prog 108 ((get tb 108).getD ⟨0, undef, false, [], none, none, 0⟩) := ⟨by kernel_rfl, by kernel_rfl⟩
theorem tb110 : TIok Tryz.prog 110 ((get tb 110).getD ⟨0, undef, false, [], none, none, 0⟩) := ⟨by kernel_rfl, by kernel_rfl⟩
theorem tb111 : TIok Tryz.prog 111 ((get tb 111).getD ⟨0, undef, false, [], none, none, 0⟩) := ⟨by kernel_rfl, by kernel_rfl⟩
theorem tb113 : TIok Tryz.prog 113 ((get tb 113).getD ⟨0, undef, false, [], none, none, 0⟩) := ⟨by kernel_rfl, by kernel_rfl⟩
theorem tb115 : TIok Tryz.prog 115 ((get tb 115).getD ⟨0, undef, false, [], none, none, 0⟩) := ⟨by kernel_rfl, by kernel_rfl⟩
theorem tb117 : TIok Tryz.prog 117 ((get tb 117).getD ⟨0, undef, false, [], none, none, 0⟩) := ⟨by kernel_rfl, by kernel_rfl⟩
theorem tb118 : TIok Tryz.prog 118 ((get tb 118).getD ⟨0, undef, false, [], none, none, 0⟩) := ⟨by kernel_rfl, by kernel_rfl⟩
theorem tb121 : TIok Tryz.prog 121 ((get tb 121).getD ⟨0, undef, false, [], none, none, 0⟩) := ⟨by kernel_rfl, by kernel_rfl⟩
theorem tb122 : TIok Tryz.prog 122 ((get tb 122).getD ⟨0, undef, false, [], none, none, 0⟩) := ⟨by kernel_rfl, by kernel_rfl⟩
theorem tb125 : TIok Tryz.prog 125 ((get tb 125).getD ⟨0, undef, false, [], none, none, 0⟩) := ⟨by kernel_rfl, by kernel_rfl⟩
theorem tb135 : TIok Tryz.prog 135 ((get tb 135).getD ⟨0, undef, false, [], none, none, 0⟩) := ⟨by kernel_rfl, by kernel_rfl⟩
theorem tb137 : TIok Tryz.prog 137 ((get tb 137).getD ⟨0, undef, false, [], none, none, 0⟩) := ⟨by kernel_rfl, by kernel_rfl⟩
theorem tb140 : TIok Tryz.prog 140 ((get tb 140).getD ⟨0, undef, false, [], none, none, 0⟩) := ⟨by kernel_rfl, by kernel_rfl⟩
theorem tb143 : TIok Tryz.prog 143 ((get tb 143).getD ⟨0, undef, false, [], none, none, 0⟩) := ⟨by kernel_rfl, by kernel_rfl⟩
theorem tb146 : TIok Tryz.prog 146 ((get tb 146).getD ⟨0, undef, false, [], none, none, 0⟩) := ⟨by kernel_rfl, by kernel_rfl⟩
theorem tb150 : TIok Tryz.prog 150 ((get tb 150).getD ⟨0, undef, false, [], none, none, 0⟩) := ⟨by kernel_rfl, by kernel_rfl⟩
theorem tb161 : TIok Tryz.prog 161 ((get tb 161).getD ⟨0, undef, false, [], none, none, 0⟩) := ⟨by kernel_rfl, by kernel_rfl⟩
theorem tb169 : TIok Tryz.prog 169 ((get tb 169).getD ⟨0, undef, false, [], none, none, 0⟩) := ⟨by kernel_rfl, by kernel_rfl⟩
theorem tb171 : TIok Tryz.prog 171 ((get tb 171).getD ⟨0, undef, false, [], none, none, 0⟩) := ⟨by kernel_rfl, by kernel_rfl⟩
theorem tb184 : TIok Tryz.prog 184 ((get tb 184).getD ⟨0, undef, false, [], none, none, 0⟩) := ⟨by kernel_rfl, by kernel_rfl⟩
theorem tb193 : TIok Tryz.prog 193 ((get tb 193).getD ⟨0, undef, false, [], none, none, 0⟩) := ⟨by kernel_rfl, by kernel_rfl⟩
theorem tb200 : TIok Tryz.prog 200 ((get tb 200).getD ⟨0, undef, false, [], none, none, 0⟩) := ⟨by kernel_rfl, by kernel_rfl⟩
theorem tb209 : TIok Tryz.prog 209 ((get tb 209).getD ⟨0, undef, false, [], none, none, 0⟩) := ⟨by kernel_rfl, by kernel_rfl⟩
theorem tb227 : TIok Tryz.prog 227 ((get tb 227).getD ⟨0, undef, false, [], none, none, 0⟩) := ⟨by kernel_rfl, by kernel_rfl⟩
theorem tb228 : TIok Tryz.prog 228 ((get tb 228).getD ⟨0, undef, false, [], none, none, 0⟩) := ⟨by kernel_rfl, by kernel_rfl⟩
theorem tb230 : TIok Tryz.prog 230 ((get tb 230).getD ⟨0, undef, false, [], none, none, 0⟩) := ⟨by kernel_rfl, by kernel_rfl⟩
theorem tb232 : TIok Tryz.prog 232 ((get tb 232).getD ⟨0, undef, false, [], none, none, 0⟩) := ⟨by kernel_rfl, by kernel_rfl⟩
theorem tb233 : TIok Tryz.prog 233 ((get tb 233).getD ⟨0, undef, false, [], none, none, 0⟩) := ⟨by kernel_rfl, by kernel_rfl⟩
theorem tb234 : TIok Tryz.prog 234 ((get tb 234).getD ⟨0, undef, false, [], none, none, 0⟩) := ⟨by kernel_rfl, by kernel_rfl⟩
theorem tb235 : TIok Tryz.prog 235 ((get tb 235).getD ⟨0, undef, false, [], none, none, 0⟩) := ⟨by kernel_rfl, by kernel_rfl⟩
theorem tb236 : TIok Tryz.prog 236 ((get tb 236).getD ⟨0, undef, false, [], none, none, 0⟩) := ⟨by kernel_rfl, by kernel_rfl⟩
theorem tb238 : TIok Tryz.prog 238 ((get tb 238).getD ⟨0, undef, false, [], none, none, 0⟩) := ⟨by kernel_rfl, by kernel_rfl⟩
set_option maxRecDepth 100000 in
theorem tbOk : TblOk Tryz.prog tb := ⟨tb1, tb2, tb3, tb4, tb5, tb6, tb7, tb8, tb9, tb10, tb11, tb12, tb13, tb14, tb15, tb16, tb17, tb18, tb19, tb20, tb21, tb22, tb23, tb24, tb25, tb26, tb27, tb28, tb29, tb30, tb31, tb32, tb33, tb34, tb35, tb45, tb48, tb51, tb53, tb60, tb63, tb66, tb70, tb72, tb85, tb86, tb88, tb92, tb94, tb107, tb108, tb110, tb111, tb113, tb115, tb117, tb118, tb121, tb122, tb125, tb135, tb137, tb140, tb143, tb146, tb150, tb161, tb169, tb171, tb184, tb193, tb200, tb209, tb227, tb228, tb230, tb232, tb233, tb234, tb235, tb236, tb238, trivial⟩
theorem fn10 : HasBody Tryz.prog 10 := hasBody Tryz.func10 (by kernel_rfl) (by kernel_rfl)
theorem fn11 : HasBody Tryz.prog 11 := hasBody Tryz.func11 (by kernel_rfl) (by kernel_rfl)
theorem fn12 : HasBody Tryz.prog 12 := hasBody Tryz.func12 (by kernel_rfl) (by kernel_rfl)
theorem fn13 : HasBody Tryz.prog 13 := hasBody Tryz.func13 (by kernel_rfl) (by kernel_rfl)
theorem fn14 : HasBody Tryz.prog 14 := hasBody Tryz.func14 (by kernel_rfl) (by kernel_rfl)
theorem fn15 : HasBody Tryz.prog 15 := hasBody Tryz.func15 (by kernel_rfl) (by kernel_rfl)
theorem fn16 : HasBody Tryz.prog 16 := hasBody Tryz.func16 (by kernel_rfl) (by kernel_rfl)
theorem fn17 : HasBody Tryz.prog 17 := hasBody Tryz.func17 (by kernel_rfl) (by kernel_rfl)
theorem fn20 : HasBody Tryz.prog 20 := hasBody Tryz.func20 (by kernel_rfl) (by kernel_rfl)
theorem fn21 : HasBody Tryz.prog 21 := hasBody Tryz.func21 (by kernel_rfl) (by kernel_rfl)
theorem fn22 : HasBody Tryz.prog 22 := hasBody Tryz.func22 (by kernel_rfl) (by kernel_rfl)
theorem fn24 : HasBody Tryz.prog 24 := hasBody Tryz.func24 (by kernel_rfl) (by kernel_rfl)
theorem fn25 : HasBody Tryz.prog 25 := hasBody Tryz.func25 (by kernel_rfl) (by kernel_rfl)
theorem fn26 : HasBody Tryz.prog 26 := hasBody Tryz.func26 (by kernel_rfl) (by kernel_rfl)
theorem fn27 : HasBody Tryz.prog 27 := hasBody Tryz.func27 (by kernel_rfl) (by kernel_rfl)
theorem fn28 : HasBody Tryz.prog 28 := hasBody Tryz.func28 (by kernel_rfl) (by kernel_rfl)
theorem fn29 : HasBody Tryz.prog 29 := hasBody Tryz.func29 (by kernel_rfl) (by kernel_rfl)
theorem fn30 : HasBody Tryz.prog 30 := hasBody Tryz.func30 (by kernel_rfl) (by kernel_rfl)
theorem fn31 : HasBody Tryz.prog 31 := hasBody Tryz.func31 (by kernel_rfl) (by kernel_rfl)
theorem fn32 : HasBody Tryz.prog 32 := hasBody Tryz.func32 (by kernel_rfl) (by kernel_rfl)
theorem fn33 : HasBody Tryz.prog 33 := hasBody Tryz.func33 (by kernel_rfl) (by kernel_rfl)
theorem fn34 : HasBody Tryz.prog 34 := hasBody Tryz.func34 (by kernel_rfl) (by kernel_rfl)
theorem fn35 : HasBody Tryz.prog 35 := hasBody Tryz.func35 (by kernel_rfl) (by kernel_rfl)
theorem fn36 : HasBody Tryz.prog 36 := hasBody Tryz.func36 (by kernel_rfl) (by kernel_rfl)
theorem fn37 : HasBody Tryz.prog 37 := hasBody Tryz.func37 (by kernel_rfl) (by kernel_rfl)
theorem fn38 : HasBody Tryz.prog 38 := hasBody Tryz.func38 (by kernel_rfl) (by kernel_rfl)
theorem fn40 : HasBody Tryz.prog 40 := hasBody Tryz.func40 (by kernel_rfl) (by kernel_rfl)
theorem fn41 : HasBody Tryz.prog 41 := hasBody Tryz.func41 (by kernel_rfl) (by kernel_rfl)
theorem fn42 : HasBody Tryz.prog 42 := hasBody Tryz.func42 (by kernel_rfl) (by kernel_rfl)
theorem fn43 : HasBody Tryz.prog 43 := hasBody Tryz.func43 (by kernel_rfl) (by kernel_rfl)
theorem fn44 : HasBody Tryz.prog 44 := hasBody Tryz.func44 (by kernel_rfl) (by kernel_rfl)
theorem fn45 : HasBody Tryz.prog 45 := hasBody Tryz.func45 (by kernel_rfl) (by kernel_rfl)
theorem fn46 : HasBody Tryz.prog 46 := hasBody Tryz.func46 (by kernel_rfl) (by kernel_rfl)
theorem fn47 : HasBody Tryz.prog 47 := hasBody Tryz.func47 (by kernel_rfl) (by kernel_rfl)
theorem fn48 : HasBody Tryz.prog 48 := hasBody Tryz.func48 (by kernel_rfl) (by kernel_rfl)
theorem fn51 : HasBody Tryz.prog 51 := hasBody Tryz.func51 (by kernel_rfl) (by kernel_rfl)
theorem fn52 : HasBody Tryz.prog 52 := hasBody Tryz.func52 (by kernel_rfl) (by kernel_rfl)
theorem fn53 : HasBody Tryz.prog 53 := hasBody Tryz.func53 (by kernel_rfl) (by kernel_rfl)
theorem fn54 : HasBody Tryz.prog 54 := hasBody Tryz.func54 (by kernel_rfl) (by kernel_rfl)
theorem fn55 : HasBody Tryz.prog 55 := hasBody Tryz.func55 (by kernel_rfl) (by kernel_rfl)
theorem fn56 : HasBody Tryz.prog 56 := hasBody Tryz.func56 (by kernel_rfl) (by kernel_rfl)
theorem fn57 : HasBody Tryz.prog 57 := hasBody Tryz.func57 (by kernel_rfl) (by kernel_rfl)
theorem fn58 : HasBody Tryz.prog 58 := hasBody Tryz.func58 (by kernel_rfl) (by kernel_rfl)
theorem fn59 : HasBody Tryz.prog 59 := hasBody Tryz.func59 (by kernel_rfl) (by kernel_rfl)
theorem fn60 : HasBody Tryz.prog 60 := hasBody Tryz.func60 (by kernel_rfl) (by kernel_rfl)
theorem fn61 : HasBody Tryz.prog 61 := hasBody Tryz.func61 (by kernel_rfl) (by kernel_rfl)
theorem fn62 : HasBody Tryz.prog 62 := hasBody Tryz.func62 (by kernel_rfl) (by kernel_rfl)
theorem fn63 : HasBody Tryz.prog 63 := hasBody Tryz.func63 (by kernel_rfl) (by kernel_rfl)
theorem fn64 : HasBody Tryz.prog 64 := hasBody Tryz.func64 (by kernel_rfl) (by kernel_rfl)
theorem fn65 : HasBody Tryz.prog 65 := hasBody Tryz.func65 (by kernel_rfl) (by kernel_rfl)
theorem fn66 : HasBody Tryz.prog 66 := hasBody Tryz.func66 (by kernel_rfl) (by kernel_rfl)
theorem fn67 : HasBody Tryz.prog 67 := hasBody Tryz.func67 (by kernel_rfl) (by kernel_rfl)
theorem fn68 : HasBody Tryz.prog 68 := hasBody Tryz.func68 (by kernel_rfl) (by kernel_rfl)
theorem fn69 : HasBody Tryz.prog 69 := hasBody Tryz.func69 (by kernel_rfl) (by kernel_rfl)
theorem fn70 : HasBody Tryz.prog 70 := hasBody Tryz.func70 (by kernel_rfl) (by kernel_rfl)
theorem fn71 : HasBody Tryz.prog 71 := hasBody Tryz.func71 (by kernel_rfl) (by kernel_rfl)
theorem fn72 : HasBody Tryz.prog 72 := hasBody Tryz.func72 (by kernel_rfl) (by kernel_rfl)
theorem fn73 : HasBody Tryz.prog 73 := hasBody Tryz.func73 (by kernel_rfl) (by kernel_rfl)
theorem fn74 : HasBody Tryz.prog 74 := hasBody Tryz.func74 (by kernel_rfl) (by kernel_rfl)
theorem fn75 : HasBody Tryz.prog 75 := hasBody Tryz.func75 (by kernel_rfl) (by kernel_rfl)
theorem fn76 : HasBody Tryz.prog 76 := hasBody Tryz.func76 (by kernel_rfl) (by kernel_rfl)
theorem fn77 : HasBody Tryz.prog 77 := hasBody Tryz.func77 (by kernel_rfl) (by kernel_rfl)
theorem fn78 : HasBody Tryz.prog 78 := hasBody Tryz.func78 (by kernel_rfl) (by kernel_rfl)
theorem fn79 : HasBody Tryz.prog 79 := hasBody Tryz.func79 (by kernel_rfl) (by kernel_rfl)
theorem fn80 : HasBody Tryz.prog 80 := hasBody Tryz.func80 (by kernel_rfl) (by kernel_rfl)
theorem fn81 : HasBody Tryz.prog 81 := hasBody Tryz.func81 (by kernel_rfl) (by kernel_rfl)
theorem fn82 : HasBody Tryz.prog 82 := hasBody Tryz.func82 (by kernel_rfl) (by kernel_rfl)
theorem fn83 : HasBody Tryz.prog 83 := hasBody Tryz.func83 (by kernel_rfl) (by kernel_rfl)
theorem fn84 : HasBody Tryz.prog 84 := hasBody Tryz.func84 (by kernel_rfl) (by kernel_rfl)
theorem fn86 : HasBody Tryz.prog 86 := hasBody Tryz.func86 (by kernel_rfl) (by kernel_rfl)
theorem fn88 : HasBody Tryz.prog 88 := hasBody Tryz.func88 (by kernel_rfl) (by kernel_rfl)
theorem fn89 : HasBody Tryz.prog 89 := hasBody Tryz.func89 (by kernel_rfl) (by kernel_rfl)
theorem fn90 : HasBody Tryz.prog 90 := hasBody Tryz.func90 (by kernel_rfl) (by kernel_rfl)
theorem fn91 : HasBody Tryz.prog 91 := hasBody Tryz.func91 (by kernel_rfl) (by kernel_rfl)
theorem fn92 : HasBody Tryz.prog 92 := hasBody Tryz.func92 (by kernel_rfl) (by kernel_rfl)
theorem fn93 : HasBody Tryz.prog 93 := hasBody Tryz.func93 (by kernel_rfl) (by kernel_rfl)
theorem fn94 : HasBody Tryz.prog 94 := hasBody Tryz.func94 (by kernel_rfl) (by kernel_rfl)
theorem fn95 : HasBody Tryz.prog 95 := hasBody Tryz.func95 (by kernel_rfl) (by kernel_rfl)
theorem fn96 : HasBody Tryz.prog 96 := hasBody Tryz.func96 (by kernel_rfl) (by kernel_rfl)
theorem fn97 : HasBody Tryz.prog 97 := hasBody Tryz.func97 (by kernel_rfl) (by kernel_rfl)
theorem fn98 : HasBody Tryz.prog 98 := hasBody Tryz.func98 (by kernel_rfl) (by kernel_rfl)
theorem fn99 : HasBody Tryz.prog 99 := hasBody Tryz.func99 (by kernel_rfl) (by kernel_rfl)
theorem fn102 : HasBody Tryz.prog 102 := hasBody Tryz.func102 (by kernel_rfl) (by kernel_rfl)
theorem fn103 : HasBody Tryz.prog 103 := hasBody Tryz.func103 (by kernel_rfl) (by kernel_rfl)
theorem fn104 : HasBody Tryz.prog 104 := hasBody Tryz.func104 (by kernel_rfl) (by kernel_rfl)
theorem fn105 : HasBody Tryz.prog 105 := hasBody Tryz.func105 (by kernel_rfl) (by kernel_rfl)
theorem fn106 : HasBody Tryz.prog 106 := hasBody Tryz.func106 (by kernel_rfl) (by kernel_rfl)
theorem fn107 : HasBody Tryz.prog 107 := hasBody Tryz.func107 (by kernel_rfl) (by kernel_rfl)
theorem fn108 : HasBody Tryz.prog 108 := hasBody Tryz.func108 (by kernel_rfl) (by kernel_rfl)
theorem fn109 : HasBody Tryz.prog 109 := hasBody Tryz.func109 (by kernel_rfl) (by kernel_rfl)
theorem fn110 : HasBody Tryz.prog 110 := hasBody Tryz.func110 (by kernel_rfl) (by kernel_rfl)
theorem fn111 : HasBody Tryz.prog 111 := hasBody Tryz.func111 (by kernel_rfl) (by kernel_rfl)
theorem fn112 : HasBody Tryz.prog 112 := hasBody Tryz.func112 (by kernel_rfl) (by kernel_rfl)
theorem fn113 : HasBody Tryz.prog 113 := hasBody Tryz.func113 (by kernel_rfl) (by kernel_rfl)
theorem fn114 : HasBody Tryz.prog 114 := hasBody Tryz.func114 (by kernel_rfl) (by kernel_rfl)
theorem fn115 : HasBody Tryz.prog 115 := hasBody Tryz.func115 (by kernel_rfl) (by kernel_rfl)
theorem fn116 : HasBody Tryz.prog 116 := hasBody Tryz.func116 (by kernel_rfl) (by kernel_rfl)
theorem fn117 : HasBody Tryz.prog 117 := hasBody Tryz.func117 (by kernel_rfl) (by kernel_rfl)
theorem fn118 : HasBody Tryz.prog 118 := hasBody Tryz.func118 (by kernel_rfl) (by kernel_rfl)
theorem fn119 : HasBody Tryz.prog 119 := hasBody Tryz.func119 (by kernel_rfl) (by kernel_rfl)
theorem fn120 : HasBody Tryz.prog 120 := hasBody Tryz.func120 (by kernel_rfl) (by kernel_rfl)
theorem fn121 : HasBody Tryz.prog 121 := hasBody Tryz.func121 (by kernel_rfl) (by kernel_rfl)
theorem fn122 : HasBody Tryz.prog 122 := hasBody Tryz.func122 (by kernel_rfl) (by kernel_rfl)
theorem fn123 : HasBody Tryz.prog 123 := hasBody Tryz.func123 (by kernel_rfl) (by kernel_rfl)
theorem fn124 : HasBody Tryz.prog 124 := hasBody Tryz.func124 (by kernel_rfl) (by kernel_rfl)
theorem fn125 : HasBody Tryz.prog 125 := hasBody Tryz.func125 (by kernel_rfl) (by kernel_rfl)
theorem fn126 : HasBody Tryz.prog 126 := hasBody Tryz.func126 (by kernel_rfl) (by kernel_rfl)
theorem fn127 : HasBody Tryz.prog 127 := hasBody Tryz.func127 (by kernel_rfl) (by kernel_rfl)
theorem fn128 : HasBody Tryz.prog 128 := hasBody Tryz.func128 (by kernel_rfl) (by kernel_rfl)
theorem fn129 : HasBody Tryz.prog 129 := hasBody Tryz.func129 (by kernel_rfl) (by kernel_rfl)
theorem fn130 : HasBody Tryz.prog 130 := hasBody Tryz.func130 (by kernel_rfl) (by kernel_rfl)
theorem fn131 : HasBody Tryz.prog 131 := hasBody Tryz.func131 (by kernel_rfl) (by kernel_rfl)
theorem fn132 : HasBody Tryz.prog 132 := hasBody Tryz.func132 (by kernel_rfl) (by kernel_rfl)
theorem fn133 : HasBody Tryz.prog 133 := hasBody Tryz.func133 (by kernel_rfl) (by kernel_rfl)
theorem fn134 : HasBody Tryz.prog 134 := hasBody Tryz.func134 (by kernel_rfl) (by kernel_rfl)
theorem fn135 : HasBody Tryz.prog 135 := hasBody Tryz.func135 (by kernel_rfl) (by kernel_rfl)
theorem fn136 : HasBody Tryz.prog 136 := hasBody Tryz.func136 (by kernel_rfl) (by kernel_rfl)
theorem fn137 : HasBody Tryz.prog 137 := hasBody Tryz.func137 (by kernel_rfl) (by kernel_rfl)
theorem fn138 : HasBody Tryz.prog 138 := hasBody Tryz.func138 (by kernel_rfl) (by kernel_rfl)
theorem fn139 : HasBody Tryz.prog 139 := hasBody Tryz.func139 (by kernel_rfl) (by kernel_rfl)
theorem fn140 : HasBody Tryz.prog 140 := hasBody Tryz.func140 (by kernel_rfl) (by kernel_rfl)
theorem fn141 : HasBody Tryz.prog 141 := hasBody Tryz.func141 (by kernel_rfl) (by kernel_rfl)
theorem fn142 : HasBody Tryz.prog 142 := hasBody Tryz.func142 (by kernel_rfl) (by kernel_rfl)
theorem fn146 : HasBody Tryz.prog 146 := hasBody Tryz.func146 (by kernel_rfl) (by kernel_rfl)
theorem fn147 : HasBody Tryz.prog 147 := hasBody Tryz.func147 (by kernel_rfl) (by kernel_rfl)
theorem fn148 : HasBody Tryz.prog 148 := hasBody Tryz.func148 (by kernel_rfl) (by kernel_rfl)
theorem fn149 : HasBody Tryz.prog 149 := hasBody Tryz.func149 (by kernel_rfl) (by kernel_rfl)
theorem fn150 : HasBody Tryz.prog 150 := hasBody Tryz.func150 (by kernel_rfl) (by kernel_rfl)
theorem fn151 : HasBody Tryz.prog 151 := hasBody Tryz.func151 (by kernel_rfl) (by kernel_rfl)
theorem fn152 : HasBody Tryz.prog 152 := hasBody Tryz.func152 (by kernel_rfl) (by kernel_rfl)
theorem fn153 : HasBody Tryz.prog 153 := hasBody Tryz.func153 (by kernel_rfl) (by kernel_rfl)
theorem fn154 : HasBody Tryz.prog 154 := hasBody Tryz.func154 (by kernel_rfl) (by kernel_rfl)
theorem fn155 : HasBody Tryz.prog 155 := hasBody Tryz.func155 (by kernel_rfl) (by kernel_rfl)
theorem fn168 : HasBody Tryz.prog 168 := hasBody Tryz.func168 (by kernel_rfl) (by kernel_rfl)
theorem fn169 : HasBody Tryz.prog 169 := hasBody Tryz.func169 (by kernel_rfl) (by kernel_rfl)
theorem fn170 : HasBody Tryz.prog 170 := hasBody Tryz.func170 (by kernel_rfl) (by kernel_rfl)
theorem fn171 : HasBody Tryz.prog 171 := hasBody Tryz.func171 (by kernel_rfl) (by kernel_rfl)
theorem fn172 : HasBody Tryz.prog 172 := hasBody Tryz.func172 (by kernel_rfl) (by kernel_rfl)
theorem fn175 : HasBody Tryz.prog 175 := hasBody Tryz.func175 (by kernel_rfl) (by kernel_rfl)
theorem ap22 : ApOk Tryz.prog 22 3 1 := ⟨by kernel_rfl, by kernel_rfl, by decide⟩
theorem ap23 : ApOk Tryz.prog 23 53 5 := ⟨by kernel_rfl, by kernel_rfl, by decide⟩
theorem ap24 : ApOk Tryz.prog 24 66 3 := ⟨by kernel_rfl, by kernel_rfl, by decide⟩
theorem ap28 : ApOk Tryz.prog 28 9 1 := ⟨by kernel_rfl, by kernel_rfl, by decide⟩
theorem ap29 : ApOk Tryz.prog 29 70 2 := ⟨by kernel_rfl, by kernel_rfl, by decide⟩
theorem ap30 : ApOk Tryz.prog 30 72 2 := ⟨by kernel_rfl, by kernel_rfl, by decide⟩
theorem ap34 : ApOk Tryz.prog 34 45 5 := ⟨by kernel_rfl, by kernel_rfl, by decide⟩
theorem ap51 : ApOk Tryz.prog 51 28 1 := ⟨by kernel_rfl, by kernel_rfl, by decide⟩
theorem held117 : Tryz.prog.stoodInHeld 117 = false := by kernel_rfl
theorem eg117 : Tryz.prog.eqGuardType Tryz.prog.depth 117 = false := by kernel_rfl
theorem eqT117 {x0 y0 : List UInt8} {x1 y1 : List UInt8} {x2 y2 : Int} {x3 y3 : Int} : EqLaw Tryz.prog 117 [.str x0, .str x1, .int .i64 x2, .int .i64 x3] [.str y0, .str y1, .int .i64 y2, .int .i64 y3] ((x0 == y0) && ((x1 == y1) && ((x2 == y2) && (x3 == y3)))) := by
 intro w X xs ys hx hy
 simp only [Reps, Rep] at hx hy
 obtain ⟨_, _, rfl, rfl, _, _, rfl, rfl, _, _, rfl, rfl, _, _, rfl, rfl, rfl⟩ := hx
 obtain ⟨_, _, rfl, rfl, _, _, rfl, rfl, _, _, rfl, rfl, _, _, rfl, rfl, rfl⟩ := hy
 unfold Op.equal
 obtain ⟨m, hm⟩ : ∃ m, Op.maxDepth = m + 2 := ⟨9998, rfl⟩
 rw [hm]
 have hprog : (program : Sem Program).run Tryz.prog w = .ok Tryz.prog w := rfl
 unfold Op.equalIn
 simp only [Sem.run_bind, run_underlying Tryz.underlying117, Result.andThen_ok, hprog, held117, Bool.false_eq_true, if_false, List.forIn_toArray, List.forIn_cons, List.forIn_nil]
 have p0 : (part 9 ⟨[.string ⟨⟨x0⟩⟩, .string ⟨⟨x1⟩⟩, .int .i64 x2, .int .i64 x3]⟩ 0).run Tryz.prog w = .ok (.string ⟨⟨x0⟩⟩) w := run_part_one tb9 rfl w _ _ _ rfl
 have r0 : (part 9 ⟨[.string ⟨⟨y0⟩⟩, .string ⟨⟨y1⟩⟩, .int .i64 y2, .int .i64 y3]⟩ 0).run Tryz.prog w = .ok (.string ⟨⟨y0⟩⟩) w := run_part_one tb9 rfl w _ _ _ rfl
 have q0 : (Op.equalIn (m + 1) 9 (.string ⟨⟨x0⟩⟩) (.string ⟨⟨y0⟩⟩)).run Tryz.prog w = .ok (x0 == y0) w := eqIn_str Tryz.underlying9 w
 have p1 : (part 9 ⟨[.string ⟨⟨x0⟩⟩, .string ⟨⟨x1⟩⟩, .int .i64 x2, .int .i64 x3]⟩ 1).run Tryz.prog w = .ok (.string ⟨⟨x1⟩⟩) w := run_part_one tb9 rfl w _ _ _ rfl
 have r1 : (part 9 ⟨[.string ⟨⟨y0⟩⟩, .string ⟨⟨y1⟩⟩, .int .i64 y2, .int .i64 y3]⟩ 1).run Tryz.prog w = .ok (.string ⟨⟨y1⟩⟩) w := run_part_one tb9 rfl w _ _ _ rfl
 have q1 : (Op.equalIn (m + 1) 9 (.string ⟨⟨x1⟩⟩) (.string ⟨⟨y1⟩⟩)).run Tryz.prog w = .ok (x1 == y1) w := eqIn_str Tryz.underlying9 w
 have p2 : (part 3 ⟨[.string ⟨⟨x0⟩⟩, .string ⟨⟨x1⟩⟩, .int .i64 x2, .int .i64 x3]⟩ 2).run Tryz.prog w = .ok (.int .i64 x2) w := run_part_one tb3 rfl w _ _ _ rfl
 have r2 : (part 3 ⟨[.string ⟨⟨y0⟩⟩, .string ⟨⟨y1⟩⟩, .int .i64 y2, .int .i64 y3]⟩ 2).run Tryz.prog w = .ok (.int .i64 y2) w := run_part_one tb3 rfl w _ _ _ rfl
 have q2 : (Op.equalIn (m + 1) 3 (.int .i64 x2) (.int .i64 y2)).run Tryz.prog w = .ok (x2 == y2) w := eqIn_int Tryz.underlying3 w
 have p3 : (part 3 ⟨[.string ⟨⟨x0⟩⟩, .string ⟨⟨x1⟩⟩, .int .i64 x2, .int .i64 x3]⟩ 3).run Tryz.prog w = .ok (.int .i64 x3) w := run_part_one tb3 rfl w _ _ _ rfl
 have r3 : (part 3 ⟨[.string ⟨⟨y0⟩⟩, .string ⟨⟨y1⟩⟩, .int .i64 y2, .int .i64 y3]⟩ 3).run Tryz.prog w = .ok (.int .i64 y3) w := run_part_one tb3 rfl w _ _ _ rfl
 have q3 : (Op.equalIn (m + 1) 3 (.int .i64 x3) (.int .i64 y3)).run Tryz.prog w = .ok (x3 == y3) w := eqIn_int Tryz.underlying3 w
 cases h0 : (x0 == y0) with
 | false => simp [p0, r0, q0, h0]
 | true =>
  cases h1 : (x1 == y1) with
  | false => simp [p0, r0, q0, h0, p1, r1, q1, h1]
  | true =>
   cases h2 : (x2 == y2) with
   | false => simp [p0, r0, q0, h0, p1, r1, q1, h1, p2, r2, q2, h2]
   | true =>
    cases h3 : (x3 == y3) with
    | false => simp [p0, r0, q0, h0, p1, r1, q1, h1, p2, r2, q2, h2, p3, r3, q3, h3]
    | true =>
     simp [p0, r0, q0, h0, p1, r1, q1, h1, p2, r2, q2, h2, p3, r3, q3, h3]
theorem held140 : Tryz.prog.stoodInHeld 140 = false := by kernel_rfl
theorem eg140 : Tryz.prog.eqGuardType Tryz.prog.depth 140 = false := by kernel_rfl
theorem eqT140 {x0 y0 : List UInt8} {x1 y1 : Int} : EqLaw Tryz.prog 140 [.str x0, .int .i64 x1] [.str y0, .int .i64 y1] ((x0 == y0) && (x1 == y1)) := by
 intro w X xs ys hx hy
 simp only [Reps, Rep] at hx hy
 obtain ⟨_, _, rfl, rfl, _, _, rfl, rfl, rfl⟩ := hx
 obtain ⟨_, _, rfl, rfl, _, _, rfl, rfl, rfl⟩ := hy
 unfold Op.equal
 obtain ⟨m, hm⟩ : ∃ m, Op.maxDepth = m + 2 := ⟨9998, rfl⟩
 rw [hm]
 have hprog : (program : Sem Program).run Tryz.prog w = .ok Tryz.prog w := rfl
 unfold Op.equalIn
 simp only [Sem.run_bind, run_underlying Tryz.underlying140, Result.andThen_ok, hprog, held140, Bool.false_eq_true, if_false, List.forIn_toArray, List.forIn_cons, List.forIn_nil]
 have p0 : (part 9 ⟨[.string ⟨⟨x0⟩⟩, .int .i64 x1]⟩ 0).run Tryz.prog w = .ok (.string ⟨⟨x0⟩⟩) w := run_part_one tb9 rfl w _ _ _ rfl
 have r0 : (part 9 ⟨[.string ⟨⟨y0⟩⟩, .int .i64 y1]⟩ 0).run Tryz.prog w = .ok (.string ⟨⟨y0⟩⟩) w := run_part_one tb9 rfl w _ _ _ rfl
 have q0 : (Op.equalIn (m + 1) 9 (.string ⟨⟨x0⟩⟩) (.string ⟨⟨y0⟩⟩)).run Tryz.prog w = .ok (x0 == y0) w := eqIn_str Tryz.underlying9 w
 have p1 : (part 3 ⟨[.string ⟨⟨x0⟩⟩, .int .i64 x1]⟩ 1).run Tryz.prog w = .ok (.int .i64 x1) w := run_part_one tb3 rfl w _ _ _ rfl
 have r1 : (part 3 ⟨[.string ⟨⟨y0⟩⟩, .int .i64 y1]⟩ 1).run Tryz.prog w = .ok (.int .i64 y1) w := run_part_one tb3 rfl w _ _ _ rfl
 have q1 : (Op.equalIn (m + 1) 3 (.int .i64 x1) (.int .i64 y1)).run Tryz.prog w = .ok (x1 == y1) w := eqIn_int Tryz.underlying3 w
 cases h0 : (x0 == y0) with
 | false => simp [p0, r0, q0, h0]
 | true =>
  cases h1 : (x1 == y1) with
  | false => simp [p0, r0, q0, h0, p1, r1, q1, h1]
  | true =>
   simp [p0, r0, q0, h0, p1, r1, q1, h1]
theorem by86 : ByOk Tryz.prog 86 := ⟨⟨5, Tryz.underlying86, Tryz.underlying5⟩⟩
theorem apB86 : ApBytes Tryz.prog 86 5 := ⟨by kernel_rfl, by kernel_rfl⟩
theorem mixed : Tryz.prog.follows .mixedOrders = true := by kernel_rfl
end Go.Proofs.YtaeplfiaahkgpaaGreatDoor
end zTb
noncomputable section zDat
namespace Go.C
open Go.V
abbrev Str := List UInt8
def zD1 (x : Int) : List D := [.int .i64 x]
def eInt_u8 (x : Int) : List D := [.int .u8 x]
def eStr (x : Str) : List D := [.str x]
def okI_i64 (n : Int) : Prop := -9223372036854775808 ≤ n ∧ n ≤ 9223372036854775807
instance (n : Int) : Decidable (okI_i64 n) := inferInstanceAs (Decidable (_ ∧ _))
def okI_i32 (n : Int) : Prop := -2147483648 ≤ n ∧ n ≤ 2147483647
instance (n : Int) : Decidable (okI_i32 n) := inferInstanceAs (Decidable (_ ∧ _))
def okI_u8 (n : Int) : Prop := 0 ≤ n ∧ n ≤ 255
instance (n : Int) : Decidable (okI_u8 n) := inferInstanceAs (Decidable (_ ∧ _))
def okI_u64 (n : Int) : Prop := 0 ≤ n ∧ n ≤ 18446744073709551615
instance (n : Int) : Decidable (okI_u64 n) := inferInstanceAs (Decidable (_ ∧ _))
def okI_u32 (n : Int) : Prop := 0 ≤ n ∧ n ≤ 4294967295
instance (n : Int) : Decidable (okI_u32 n) := inferInstanceAs (Decidable (_ ∧ _))
def zE1 (x : (List Str)) : List D := [.sl 1 (x.map eStr)]
structure YB where
 Code : Str
 From : Int
 To : Int
 Terms : (List (List Str))
 Other : Bool
deriving Inhabited
def eC (x : YB) : List D := [.str x.Code, .int .i64 x.From, .int .i64 x.To, .sl 1 (x.Terms.map zE1), .bool x.Other]
def okD (a : YB) : Prop := a.Code.length ≤ 9223372036854775807 ∧ okI_i64 a.From ∧ okI_i64 a.To ∧ (a.Terms.length ≤ 9223372036854775807 ∧ ∀ x, x ∈ a.Terms → (x.length ≤ 9223372036854775807 ∧ ∀ y, y ∈ x → y.length ≤ 9223372036854775807))
structure YT where
 Scope : Str
 Words : (List Str)
 Target : Str
deriving Inhabited
def eU (x : YT) : List D := [.str x.Scope, .sl 1 (x.Words.map eStr), .str x.Target]
def okV (a : YT) : Prop := a.Scope.length ≤ 9223372036854775807 ∧ (a.Words.length ≤ 9223372036854775807 ∧ ∀ x, x ∈ a.Words → x.length ≤ 9223372036854775807) ∧ a.Target.length ≤ 9223372036854775807
structure YE where
 Entries : (List YB)
 Notes : (List YT)
deriving Inhabited
def eF (x : YE) : List D := [.sl 5 (x.Entries.map eC), .sl 3 (x.Notes.map eU)]
def okG (a : YE) : Prop := (a.Entries.length ≤ 9223372036854775807 ∧ ∀ x, x ∈ a.Entries → okD x) ∧ (a.Notes.length ≤ 9223372036854775807 ∧ ∀ x, x ∈ a.Notes → okV x)
structure YW where
 Name : Str
 Share : Int
deriving Inhabited
def eX (x : YW) : List D := [.str x.Name, .int .i64 x.Share]
def okY (a : YW) : Prop := a.Name.length ≤ 9223372036854775807 ∧ okI_i64 a.Share
structure YI where
 Words : (List Str)
 Share : Int
deriving Inhabited
def eJ (x : YI) : List D := [.sl 1 (x.Words.map eStr), .int .i64 x.Share]
def okK (a : YI) : Prop := (a.Words.length ≤ 9223372036854775807 ∧ ∀ x, x ∈ a.Words → x.length ≤ 9223372036854775807) ∧ okI_i64 a.Share
structure YN where
 Words : (List Str)
 Materials : (List YW)
 Parts : (List YI)
 Incomplete : Bool
deriving Inhabited
def eO (x : YN) : List D := [.sl 1 (x.Words.map eStr), .sl 2 (x.Materials.map eX), .sl 2 (x.Parts.map eJ), .bool x.Incomplete]
def okQ (a : YN) : Prop := (a.Words.length ≤ 9223372036854775807 ∧ ∀ x, x ∈ a.Words → x.length ≤ 9223372036854775807) ∧ (a.Materials.length ≤ 9223372036854775807 ∧ ∀ x, x ∈ a.Materials → okY x) ∧ (a.Parts.length ≤ 9223372036854775807 ∧ ∀ x, x ∈ a.Parts → okK x)
structure YL where
 Parent : Str
 Basis : Int
 Candidates : (List Str)
 Rule : Int
 Chosen : Str
deriving Inhabited
def eM (x : YL) : List D := [.str x.Parent, .int .i64 x.Basis, .sl 1 (x.Candidates.map eStr), .int .i64 x.Rule, .str x.Chosen]
structure YH where
 L : (List Int)
 I : Int
deriving Inhabited
structure YZ where
 addr : Unit
 buf : (List Int)
deriving Inhabited
structure YR where
 book : YE
 good : YN
 parent : Str
 entries : (List YB)
deriving Inhabited
def eS (x : YR) : List D := [.sl 5 (x.book.Entries.map eC), .sl 3 (x.book.Notes.map eU), .sl 1 (x.good.Words.map eStr), .sl 2 (x.good.Materials.map eX), .sl 2 (x.good.Parts.map eJ), .bool x.good.Incomplete, .str x.parent, .sl 5 (x.entries.map eC)]
structure YA1 where
 code : Str
 from_ : Int
deriving Inhabited
structure YB1 where
 parent : Str
 chosen : Str
 basis : Int
 rule : Int
deriving Inhabited
def eC1 (x : YB1) : List D := [.str x.parent, .str x.chosen, .int .i64 x.basis, .int .i64 x.rule]
def eLInt_i64 (x : (List Int)) : List D := [.sl 1 (x.map zD1)]
end Go.C
end zDat
noncomputable section zPl
set_option linter.unusedVariables false
namespace Go.C
open Go.V
abbrev i64 (n : Int) : Prop := okI_i64 n
def itoa (n : Int) : Option Str := if i64 n then some (Lib.itoa n) else none
def joinS (l : List Str) (sep : Str) : Option Str := if l.length ≤ 140737488355328 ∧ (Lib.join l sep).length ≤ 140737488355328 then some (Lib.join l sep) else none
def trimRightS (s c : Str) : Option Str := match c with | [x] => if x.toNat < 128 ∧ s.length ≤ 9223372036854775807 then some (Lib.trimRightB s x) else none | _ => none
def hasPrefixS (s p : Str) : Option Bool := some (Lib.hasPrefix s p)
def trimS (s c : Str) : Option Str := if s.length ≤ 9223372036854775807 ∧ c.length < 4294967281 ∧ (c.all fun b => decide (b.toNat < 128)) = true then some (Lib.trimS s c) else none
def cloneS (l : List Str) : Option (List Str) := if l.length * 16 ≤ 140737488355328 then some l else none
end Go.C
end zPl
noncomputable section zShelf
namespace Go.Proofs
open Go.Shelf
def Tryz.lays156_ren : Go.Shelf.Ren := ⟨fun | 156 => 46 | 165 => 101 | 166 => 47 | 169 => 48 | 240 => 102 | 241 => 144 | 276 => 145 | 277 => 160 | n => n, fun | 31 => 28 | 9 => 9 | 3 => 3 | 4 => 4 | 0 => 0 | 20 => 20 | 72 => 88 | 76 => 93 | 70 => 85 | 37 => 86 | 75 => 92 | 127 => 137 | 164 => 159 | 5 => 5 | 80 => 95 | n => n, fun | n => n⟩
theorem Tryz.lays156 : Go.Proofs.Lays.n156 Tryz.prog Tryz.lays156_ren := {
 mixed := by kernel_rfl
 f156 := Tryz.func46.trans (congrArg some (by kernel_rfl))
 f165 := Tryz.func101.trans (congrArg some (by kernel_rfl))
 f166 := Tryz.func47.trans (congrArg some (by kernel_rfl))
 f169 := Tryz.func48.trans (congrArg some (by kernel_rfl))
 f240 := Tryz.func102.trans (congrArg some (by kernel_rfl))
 f241 := Tryz.func144.trans (congrArg some (by kernel_rfl))
 f276 := Tryz.func145.trans (congrArg some (by kernel_rfl))
 f277 := Tryz.func160.trans (congrArg some (by kernel_rfl))
 t0 := Tryz.underlying0
 a0 := Tryz.isAgg0
 z0 := Tryz.sizeOf0
 v0 := Tryz.zeroValue0
 t3 := Tryz.underlying3
 a3 := Tryz.isAgg3
 z3 := Tryz.sizeOf3
 v3 := Tryz.zeroValue3
 t4 := Tryz.underlying4
 a4 := Tryz.isAgg4
 z4 := Tryz.sizeOf4
 v4 := Tryz.zeroValue4
 t9 := Tryz.underlying9
 a9 := Tryz.isAgg9
 z9 := Tryz.sizeOf9
 v9 := Tryz.zeroValue9
 t20 := Tryz.underlying20
 a20 := Tryz.isAgg20
 z20 := Tryz.sizeOf20
 v20 := Tryz.zeroValue20
 t31 := Tryz.underlying28
 a31 := Tryz.isAgg28
 z31 := Tryz.sizeOf28
 v31 := Tryz.zeroValue28
 t37 := Tryz.underlying86
 a37 := Tryz.isAgg86
 z37 := Tryz.sizeOf86
 v37 := Tryz.zeroValue86
 t70 := Tryz.underlying85
 a70 := Tryz.isAgg85
 z70 := Tryz.sizeOf85
 v70 := Tryz.zeroValue85
 t72 := Tryz.underlying88
 a72 := Tryz.isAgg88
 z72 := Tryz.sizeOf88
 v72 := Tryz.zeroValue88
 t75 := Tryz.underlying92
 a75 := Tryz.isAgg92
 z75 := Tryz.sizeOf92
 v75 := Tryz.zeroValue92
 t76 := Tryz.underlying93
 a76 := Tryz.isAgg93
 z76 := Tryz.sizeOf93
 v76 := Tryz.zeroValue93
 t127 := Tryz.underlying137
 a127 := Tryz.isAgg137
 z127 := Tryz.sizeOf137
 v127 := Tryz.zeroValue137
 t164 := Tryz.underlying159
 a164 := Tryz.isAgg159
 z164 := Tryz.sizeOf159
 v164 := Tryz.zeroValue159 }
theorem Tryz.Builder_Extra_156 : Builder.Extra Tryz.prog Tryz.lays156_ren := {
 sizeBuilder := by kernel_rfl
 liesBuilder := by kernel_rfl
 t5 := Tryz.underlying5
 a5 := Tryz.isAgg5
 z5 := Tryz.sizeOf5
 v5 := Tryz.zeroValue5
 infoByte := by kernel_rfl
 cellsByte := by kernel_rfl
 sizeByte := by kernel_rfl
 neB5 := by decide }
open Go.RowKit in
theorem Tryz.strings_Join_none (a : Option Addr) (c : Nat) (sep : ByteArray) (w : World) :
  Calls Tryz.prog 46 #[.slice a 0 c, .string sep] w fun e w' => e = .returned (.string ⟨#[]⟩) ∧ w' = w := Any.strings_Join_none Tryz.lays156 Tryz.Builder_Extra_156 a c sep w
open Go.RowKit in
theorem Tryz.strings_Join (bk o c : Nat) (xs : List ByteArray) (sep : ByteArray) (w : World) (hcells : ∀ (j : Nat) x, xs[j]? = some x → w.cell? ⟨bk, o + j, none⟩ = some (.string x)) (hbk : bk < w.heap.size) (hN : xs.length ≤ 140737488355328) (hcap : xs.length ≤ c) (hlen : (Lib.join (xs.map (·.data.toList)) sep.data.toList).length ≤ 140737488355328) :
  Calls Tryz.prog 46 #[.slice (some ⟨bk, o, none⟩) xs.length c, .string sep] w fun e w' => e = .returned (.string ⟨(Lib.join (xs.map (·.data.toList)) sep.data.toList).toArray⟩) ∧ Below w.heap.size w w' := Any.strings_Join Tryz.lays156 Tryz.Builder_Extra_156 bk o c xs sep w hcells hbk hN hcap hlen
def Tryz.lays160_ren : Go.Shelf.Ren := ⟨fun | 160 => 146 | 232 => 162 | 231 => 161 | 227 => 163 | 234 => 165 | 233 => 164 | 236 => 167 | 235 => 166 | 228 => 182 | 271 => 185 | 151 => 184 | 197 => 183 | 120 => 201 | 152 => 200 | 260 => 199 | 137 => 208 | 119 => 209 | 224 => 210 | 225 => 211 | 217 => 213 | 266 => 214 | n => n, fun | 9 => 9 | 4 => 4 | 3 => 3 | 5 => 5 | 117 => 180 | 116 => 179 | 0 => 0 | 124 => 183 | 21 => 21 | 105 => 196 | 46 => 48 | 119 => 217 | 139 => 220 | 138 => 219 | n => n, fun | 3 => 5 | 4 => 6 | n => n⟩
theorem Tryz.lays160 : Go.Proofs.Lays.n160 Tryz.prog Tryz.lays160_ren := {
 mixed := by kernel_rfl
 f119 := Tryz.func209.trans (congrArg some (by kernel_rfl))
 f120 := Tryz.func201.trans (congrArg some (by kernel_rfl))
 f137 := Tryz.func208.trans (congrArg some (by kernel_rfl))
 f151 := Tryz.func184.trans (congrArg some (by kernel_rfl))
 f152 := Tryz.func200.trans (congrArg some (by kernel_rfl))
 f160 := Tryz.func146.trans (congrArg some (by kernel_rfl))
 f197 := Tryz.func183.trans (congrArg some (by kernel_rfl))
 f217 := Tryz.func213.trans (congrArg some (by kernel_rfl))
 f224 := Tryz.func210.trans (congrArg some (by kernel_rfl))
 f225 := Tryz.func211.trans (congrArg some (by kernel_rfl))
 f227 := Tryz.func163.trans (congrArg some (by kernel_rfl))
 f228 := Tryz.func182.trans (congrArg some (by kernel_rfl))
 f231 := Tryz.func161.trans (congrArg some (by kernel_rfl))
 f232 := Tryz.func162.trans (congrArg some (by kernel_rfl))
 f233 := Tryz.func164.trans (congrArg some (by kernel_rfl))
 f234 := Tryz.func165.trans (congrArg some (by kernel_rfl))
 f235 := Tryz.func166.trans (congrArg some (by kernel_rfl))
 f236 := Tryz.func167.trans (congrArg some (by kernel_rfl))
 f260 := Tryz.func199.trans (congrArg some (by kernel_rfl))
 f266 := Tryz.func214.trans (congrArg some (by kernel_rfl))
 f271 := Tryz.func185.trans (congrArg some (by kernel_rfl))
 t0 := Tryz.underlying0
 a0 := Tryz.isAgg0
 z0 := Tryz.sizeOf0
 v0 := Tryz.zeroValue0
 t3 := Tryz.underlying3
 a3 := Tryz.isAgg3
 z3 := Tryz.sizeOf3
 v3 := Tryz.zeroValue3
 t4 := Tryz.underlying4
 a4 := Tryz.isAgg4
 z4 := Tryz.sizeOf4
 v4 := Tryz.zeroValue4
 t5 := Tryz.underlying5
 a5 := Tryz.isAgg5
 z5 := Tryz.sizeOf5
 v5 := Tryz.zeroValue5
 t9 := Tryz.underlying9
 a9 := Tryz.isAgg9
 z9 := Tryz.sizeOf9
 v9 := Tryz.zeroValue9
 t21 := Tryz.underlying21
 a21 := Tryz.isAgg21
 z21 := Tryz.sizeOf21
 v21 := Tryz.zeroValue21
 t46 := Tryz.underlying48
 a46 := Tryz.isAgg48
 z46 := Tryz.sizeOf48
 v46 := Tryz.zeroValue48
 t105 := Tryz.underlying196
 a105 := Tryz.isAgg196
 z105 := Tryz.sizeOf196
 v105 := Tryz.zeroValue196
 t116 := Tryz.underlying179
 a116 := Tryz.isAgg179
 z116 := Tryz.sizeOf179
 t117 := Tryz.underlying180
 a117 := Tryz.isAgg180
 z117 := Tryz.sizeOf180
 v117 := Tryz.zeroValue180
 t119 := Tryz.underlying217
 a119 := Tryz.isAgg217
 z119 := Tryz.sizeOf217
 t124 := Tryz.underlying183
 a124 := Tryz.isAgg183
 z124 := Tryz.sizeOf183
 v124 := Tryz.zeroValue183
 t138 := Tryz.underlying219
 a138 := Tryz.isAgg219
 z138 := Tryz.sizeOf219
 v138 := Tryz.zeroValue219
 t139 := Tryz.underlying220
 a139 := Tryz.isAgg220
 z139 := Tryz.sizeOf220
 v139 := Tryz.zeroValue220
 g3 := by kernel_rfl
 g4 := by kernel_rfl }
open Go.RowKit in
theorem Tryz.strings_Trim_one (s : ByteArray) (c : UInt8) (hc : c.toNat < 128) (w : World) (hs : s.size ≤ 9223372036854775807) :
  Calls Tryz.prog 146 #[.string s, .string ⟨#[c]⟩] w fun e w' => e = .returned (.string ⟨(Lib.trimB s.data.toList c).toArray⟩) ∧ (w' = w ∨ w' = w.drew) := Any.strings_Trim_one Tryz.lays160 s c hc w hs
def Tryz.laysM171_ren : Go.Shelf.Ren := ⟨fun | 171 => 45 | 243 => 100 | 246 => 143 | 283 => 156 | 284 => 157 | 285 => 158 | 286 => 159 | 129 => 178 | 317 => 177 | 318 => 179 | 319 => 180 | 320 => 181 | 337 => 197 | 338 => 198 | n => n, fun | 3 => 3 | 9 => 9 | 2 => 2 | 4 => 4 | 171 => 170 | 0 => 0 | 53 => 171 | 37 => 86 | 5 => 5 | 173 => 174 | 212 => 192 | 51 => 193 | 20 => 20 | 213 => 194 | 46 => 48 | 232 => 215 | 233 => 216 | n => n, fun | 17 => 1 | 18 => 3 | 19 => 4 | n => n⟩
theorem Tryz.laysM171 : Go.Proofs.LaysM.n171 Tryz.prog Tryz.laysM171_ren := {
 mixed := by kernel_rfl
 f129 := Tryz.func178.trans (congrArg some (by kernel_rfl))
 f171 := Tryz.func45.trans (congrArg some (by kernel_rfl))
 f243 := Tryz.func100.trans (congrArg some (by kernel_rfl))
 f246 := Tryz.func143.trans (congrArg some (by kernel_rfl))
 f283 := Tryz.func156.trans (congrArg some (by kernel_rfl))
 f284 := Tryz.func157.trans (congrArg some (by kernel_rfl))
 f285 := Tryz.func158.trans (congrArg some (by kernel_rfl))
 f286 := Tryz.func159.trans (congrArg some (by kernel_rfl))
 f317 := Tryz.func177.trans (congrArg some (by kernel_rfl))
 f318 := Tryz.func179.trans (congrArg some (by kernel_rfl))
 f319 := Tryz.func180.trans (congrArg some (by kernel_rfl))
 f320 := Tryz.func181.trans (congrArg some (by kernel_rfl))
 f337 := Tryz.func197.trans (congrArg some (by kernel_rfl))
 f338 := Tryz.func198.trans (congrArg some (by kernel_rfl))
 t0 := Tryz.underlying0
 a0 := Tryz.isAgg0
 z0 := Tryz.sizeOf0
 v0 := Tryz.zeroValue0
 t2 := Tryz.underlying2
 a2 := Tryz.isAgg2
 z2 := Tryz.sizeOf2
 v2 := Tryz.zeroValue2
 t3 := Tryz.underlying3
 a3 := Tryz.isAgg3
 z3 := Tryz.sizeOf3
 v3 := Tryz.zeroValue3
 t4 := Tryz.underlying4
 a4 := Tryz.isAgg4
 z4 := Tryz.sizeOf4
 v4 := Tryz.zeroValue4
 t5 := Tryz.underlying5
 a5 := Tryz.isAgg5
 z5 := Tryz.sizeOf5
 v5 := Tryz.zeroValue5
 t9 := Tryz.underlying9
 a9 := Tryz.isAgg9
 z9 := Tryz.sizeOf9
 v9 := Tryz.zeroValue9
 t20 := Tryz.underlying20
 a20 := Tryz.isAgg20
 z20 := Tryz.sizeOf20
 v20 := Tryz.zeroValue20
 t37 := Tryz.underlying86
 a37 := Tryz.isAgg86
 z37 := Tryz.sizeOf86
 v37 := Tryz.zeroValue86
 t46 := Tryz.underlying48
 a46 := Tryz.isAgg48
 z46 := Tryz.sizeOf48
 v46 := Tryz.zeroValue48
 t51 := Tryz.underlying193
 a51 := Tryz.isAgg193
 z51 := Tryz.sizeOf193
 v51 := Tryz.zeroValue193
 t53 := Tryz.underlying171
 a53 := Tryz.isAgg171
 z53 := Tryz.sizeOf171
 v53 := Tryz.zeroValue171
 t171 := Tryz.underlying170
 a171 := Tryz.isAgg170
 z171 := Tryz.sizeOf170
 v171 := Tryz.zeroValue170
 t173 := Tryz.underlying174
 a173 := Tryz.isAgg174
 z173 := Tryz.sizeOf174
 v173 := Tryz.zeroValue174
 t212 := Tryz.underlying192
 a212 := Tryz.isAgg192
 z212 := Tryz.sizeOf192
 v212 := Tryz.zeroValue192
 t213 := Tryz.underlying194
 a213 := Tryz.isAgg194
 z213 := Tryz.sizeOf194
 t232 := Tryz.underlying215
 a232 := Tryz.isAgg215
 z232 := Tryz.sizeOf215
 v232 := Tryz.zeroValue215
 t233 := Tryz.underlying216
 a233 := Tryz.isAgg216
 z233 := Tryz.sizeOf216
 v233 := Tryz.zeroValue216
 g17 := by kernel_rfl
 g18 := by kernel_rfl
 g19 := by kernel_rfl
 i0 := by kernel_rfl
 i2 := by kernel_rfl
 i3 := by kernel_rfl
 i4 := by kernel_rfl
 i5 := by kernel_rfl
 i9 := by kernel_rfl
 i20 := by kernel_rfl
 i37 := by kernel_rfl
 i46 := by kernel_rfl
 i51 := by kernel_rfl
 i53 := by kernel_rfl
 i171 := by kernel_rfl
 i173 := by kernel_rfl
 i212 := by kernel_rfl
 i232 := by kernel_rfl
 i233 := by kernel_rfl
 m17 := by kernel_rfl
 m18 := by kernel_rfl
 m19 := by kernel_rfl }
open Go.RowKit Go.Sort Go.Lib in
theorem Tryz.strconv_Itoa (n : Int) (h0 : -9223372036854775808 ≤ n) (h1 : n ≤ 9223372036854775807) (w : World) (htab : Lib.TabIs Tryz.prog w "internal/strconv.uint64pow10" .u64 Lib.pow10Tab) :
    Calls Tryz.prog 45 #[.int .i64 n] w fun e w' => e = .returned (.string ⟨(Lib.itoa n).toArray⟩) ∧ ∃ k os, w' = grow (w.drewN k) os := Any.strconv_Itoa Tryz.laysM171 n h0 h1 w htab
def Tryz.lays190_ren : Go.Shelf.Ren := ⟨fun | 190 => 152 | 125 => 174 | 258 => 173 | 128 => 195 | 129 => 178 | 302 => 186 | 303 => 187 | 304 => 188 | 305 => 189 | 306 => 190 | 307 => 191 | 308 => 192 | 309 => 193 | 310 => 194 | 333 => 202 | 329 => 203 | 330 => 204 | 334 => 205 | 335 => 206 | 336 => 168 | 344 => 212 | n => n, fun | 31 => 28 | 9 => 9 | 3 => 3 | 46 => 48 | 0 => 0 | 51 => 193 | 53 => 171 | 4 => 4 | 183 => 201 | 182 => 200 | 131 => 205 | 5 => 5 | 218 => 209 | 222 => 213 | 228 => 223 | 229 => 224 | n => n, fun | n => n⟩
theorem Tryz.lays190 : Go.Proofs.Lays.n190 Tryz.prog Tryz.lays190_ren := {
 mixed := by kernel_rfl
 f125 := Tryz.func174.trans (congrArg some (by kernel_rfl))
 f128 := Tryz.func195.trans (congrArg some (by kernel_rfl))
 f129 := Tryz.func178.trans (congrArg some (by kernel_rfl))
 f190 := Tryz.func152.trans (congrArg some (by kernel_rfl))
 f258 := Tryz.func173.trans (congrArg some (by kernel_rfl))
 f302 := Tryz.func186.trans (congrArg some (by kernel_rfl))
 f303 := Tryz.func187.trans (congrArg some (by kernel_rfl))
 f304 := Tryz.func188.trans (congrArg some (by kernel_rfl))
 f305 := Tryz.func189.trans (congrArg some (by kernel_rfl))
 f306 := Tryz.func190.trans (congrArg some (by kernel_rfl))
 f307 := Tryz.func191.trans (congrArg some (by kernel_rfl))
 f308 := Tryz.func192.trans (congrArg some (by kernel_rfl))
 f309 := Tryz.func193.trans (congrArg some (by kernel_rfl))
 f310 := Tryz.func194.trans (congrArg some (by kernel_rfl))
 f329 := Tryz.func203.trans (congrArg some (by kernel_rfl))
 f330 := Tryz.func204.trans (congrArg some (by kernel_rfl))
 f333 := Tryz.func202.trans (congrArg some (by kernel_rfl))
 f334 := Tryz.func205.trans (congrArg some (by kernel_rfl))
 f335 := Tryz.func206.trans (congrArg some (by kernel_rfl))
 f336 := Tryz.func168.trans (congrArg some (by kernel_rfl))
 f344 := Tryz.func212.trans (congrArg some (by kernel_rfl))
 t0 := Tryz.underlying0
 a0 := Tryz.isAgg0
 z0 := Tryz.sizeOf0
 v0 := Tryz.zeroValue0
 t3 := Tryz.underlying3
 a3 := Tryz.isAgg3
 z3 := Tryz.sizeOf3
 v3 := Tryz.zeroValue3
 t4 := Tryz.underlying4
 a4 := Tryz.isAgg4
 z4 := Tryz.sizeOf4
 v4 := Tryz.zeroValue4
 t5 := Tryz.underlying5
 a5 := Tryz.isAgg5
 z5 := Tryz.sizeOf5
 v5 := Tryz.zeroValue5
 t9 := Tryz.underlying9
 a9 := Tryz.isAgg9
 z9 := Tryz.sizeOf9
 v9 := Tryz.zeroValue9
 t31 := Tryz.underlying28
 a31 := Tryz.isAgg28
 z31 := Tryz.sizeOf28
 v31 := Tryz.zeroValue28
 t46 := Tryz.underlying48
 a46 := Tryz.isAgg48
 z46 := Tryz.sizeOf48
 v46 := Tryz.zeroValue48
 t51 := Tryz.underlying193
 a51 := Tryz.isAgg193
 z51 := Tryz.sizeOf193
 v51 := Tryz.zeroValue193
 t53 := Tryz.underlying171
 a53 := Tryz.isAgg171
 z53 := Tryz.sizeOf171
 v53 := Tryz.zeroValue171
 t131 := Tryz.underlying205
 a131 := Tryz.isAgg205
 z131 := Tryz.sizeOf205
 v131 := Tryz.zeroValue205
 t182 := Tryz.underlying200
 a182 := Tryz.isAgg200
 z182 := Tryz.sizeOf200
 v182 := Tryz.zeroValue200
 t183 := Tryz.underlying201
 a183 := Tryz.isAgg201
 z183 := Tryz.sizeOf201
 v183 := Tryz.zeroValue201
 t218 := Tryz.underlying209
 a218 := Tryz.isAgg209
 z218 := Tryz.sizeOf209
 v218 := Tryz.zeroValue209
 t222 := Tryz.underlying213
 a222 := Tryz.isAgg213
 z222 := Tryz.sizeOf213
 v222 := Tryz.zeroValue213
 t228 := Tryz.underlying223
 a228 := Tryz.isAgg223
 z228 := Tryz.sizeOf223
 v228 := Tryz.zeroValue223
 t229 := Tryz.underlying224
 a229 := Tryz.isAgg224
 z229 := Tryz.sizeOf224
 v229 := Tryz.zeroValue224 }
open Go.Sort Go.RowKit in
theorem Tryz.slices_Sort_string (blk off cap : Nat) (ss : List (List UInt8)) (w : World) (hH : Holds encStr w blk off ss.toArray) (hblk : blk < w.heap.size) (hsz : ss.length < 4611686018427387904) :
  Calls Tryz.prog 152 #[.slice (some ⟨blk, off, none⟩) ss.length cap] w fun e w' =>
   e = .returned (.tuple #[]) ∧ ∃ n os, w' = grow (putRow encStr (Sort.ahead w n) blk off (ss.mergeSort fun x y => decide (x ≤ y)).toArray) os := Any.slices_Sort_string Tryz.lays190 blk off cap ss w hH hblk hsz
def Tryz.lays99_ren : Go.Shelf.Ren := ⟨fun | 99 => 41 | 206 => 87 | n => n, fun | 9 => 9 | 4 => 4 | 3 => 3 | n => n, fun | n => n⟩
theorem Tryz.lays99 : Go.Proofs.Lays.n99 Tryz.prog Tryz.lays99_ren := {
 mixed := by kernel_rfl
 f99 := Tryz.func41.trans (congrArg some (by kernel_rfl))
 f206 := Tryz.func87.trans (congrArg some (by kernel_rfl))
 t3 := Tryz.underlying3
 a3 := Tryz.isAgg3
 z3 := Tryz.sizeOf3
 v3 := Tryz.zeroValue3
 t4 := Tryz.underlying4
 a4 := Tryz.isAgg4
 z4 := Tryz.sizeOf4
 v4 := Tryz.zeroValue4
 t9 := Tryz.underlying9
 a9 := Tryz.isAgg9
 z9 := Tryz.sizeOf9
 v9 := Tryz.zeroValue9 }
open Go.RowKit Go.Lib in
theorem Tryz.strings_HasPrefix (s p : ByteArray) (w : World) :
  Calls Tryz.prog 41 #[.string s, .string p] w fun e w' => e = .returned (.bool (Lib.hasPrefix s.data.toList p.data.toList)) ∧ w' = w := Any.strings_HasPrefix Tryz.lays99 s p w
def Tryz.laysNm216_ren : Go.Shelf.Ren := ⟨fun | 16 => 119 | n => n, fun | 24 => 28 | 9 => 9 | 4 => 4 | n => n, fun | n => n⟩
theorem Tryz.laysNm216 : Go.Proofs.Lays2.n16 Tryz.prog Tryz.laysNm216_ren := {
 mixed := by kernel_rfl
 f16 := Tryz.func119.trans (congrArg some (by kernel_rfl))
 t4 := Tryz.underlying4
 a4 := Tryz.isAgg4
 z4 := Tryz.sizeOf4
 v4 := Tryz.zeroValue4
 t9 := Tryz.underlying9
 a9 := Tryz.isAgg9
 z9 := Tryz.sizeOf9
 v9 := Tryz.zeroValue9
 t24 := Tryz.underlying28
 a24 := Tryz.isAgg28
 z24 := Tryz.sizeOf28
 v24 := Tryz.zeroValue28
 i9 := by kernel_rfl }
open Go.RowKit Go.Lib in
theorem Tryz.slices_Clone_string (b off n c : Nat) (zs : List ByteArray) (w : World) (hz : n ≤ zs.length) (hbig : n * 16 ≤ 140737488355328) (hc : ∀ j, j < zs.length → w.cell? ⟨b, off + j, none⟩ = some (.string (zs.getD j ByteArray.empty))) :
  Calls Tryz.prog 119 #[.slice (some ⟨b, off, none⟩) n c] w fun e w' => ∃ v', e = .returned v' ∧ w'.ownsRow w.heap.size 9 1 v' n ((zs.take n).map (Value.string)) ∧ v' ≠ .slice none 0 0 ∧ Below w.heap.size w w' := Any.slices_Clone_string Tryz.laysNm216 b off n c zs w hz hbig hc
open Go.RowKit Go.Lib in
theorem Tryz.slices_Clone_string_nil (n c : Nat) (w : World) :
  Calls Tryz.prog 119 #[.slice none n c] w fun e w' => e = .returned (.slice none 0 0) ∧ w' = w := Any.slices_Clone_string_nil Tryz.laysNm216 n c w
open Go.RowKit Go.Lib in
theorem Tryz.slices_Clone_string_zero (a : Addr) (c : Nat) (w : World) :
  Calls Tryz.prog 119 #[.slice (some a) 0 c] w fun e w' => ∃ v', e = .returned v' ∧ w'.ownsRow w.heap.size 9 1 v' 0 [] ∧ v' ≠ .slice none 0 0 ∧ Below w.heap.size w w' := Any.slices_Clone_string_zero Tryz.laysNm216 a c w
def Tryz.lays194_ren : Go.Shelf.Ren := ⟨fun | 194 => 153 | n => n, fun | 31 => 28 | 9 => 9 | 3 => 3 | 4 => 4 | 0 => 0 | n => n, fun | n => n⟩
theorem Tryz.lays194 : Go.Proofs.Lays.n194 Tryz.prog Tryz.lays194_ren := {
 mixed := by kernel_rfl
 f194 := Tryz.func153.trans (congrArg some (by kernel_rfl))
 t0 := Tryz.underlying0
 a0 := Tryz.isAgg0
 z0 := Tryz.sizeOf0
 v0 := Tryz.zeroValue0
 t3 := Tryz.underlying3
 a3 := Tryz.isAgg3
 z3 := Tryz.sizeOf3
 v3 := Tryz.zeroValue3
 t4 := Tryz.underlying4
 a4 := Tryz.isAgg4
 z4 := Tryz.sizeOf4
 v4 := Tryz.zeroValue4
 t9 := Tryz.underlying9
 a9 := Tryz.isAgg9
 z9 := Tryz.sizeOf9
 v9 := Tryz.zeroValue9
 t31 := Tryz.underlying28
 a31 := Tryz.isAgg28
 z31 := Tryz.sizeOf28
 v31 := Tryz.zeroValue28 }
open Go.RowKit Go.Lib Go.Sort in
theorem Tryz.slices_Compact_string (blk off cap : Nat) (zs : List (List UInt8)) (w : World) (hH : Holds encStr w blk off zs.toArray) (hsz : zs.length ≤ 9223372036854775807) (hcap : zs.length ≤ cap) :
  Calls Tryz.prog 153 #[.slice (some ⟨blk, off, none⟩) zs.length cap] w fun e w' => e = .returned (.slice (some ⟨blk, off, none⟩) (Lib.compact zs).length cap) ∧ ∃ q, w' = putRow encStr (Sort.ahead w q) blk off (Lib.compact zs ++ List.replicate (zs.length - (Lib.compact zs).length) []).toArray := Any.slices_Compact_string Tryz.lays194 blk off cap zs w hH hsz hcap
open Go.RowKit Go.Lib Go.Sort in
theorem Tryz.slices_Compact_string_empty (a : Option Addr) (cap : Nat) (w : World) :
  Calls Tryz.prog 153 #[.slice a 0 cap] w fun e w' => e = .returned (.slice a 0 cap) ∧ w' = w := Any.slices_Compact_string_empty Tryz.lays194 a cap w
open Go.RowKit Go.Sort in
theorem Tryz.slices_Sort_string_none (p : Option Addr) (cap : Nat) (w : World) :
  Calls Tryz.prog 152 #[.slice p 0 cap] w fun e w' => e = .returned (.tuple #[]) ∧ w' = w := Any.slices_Sort_string_none Tryz.lays190 p cap w
end Go.Proofs
end zShelf
noncomputable section zLib
set_option linter.unusedVariables false
namespace Go.V
theorem Le.nerr : Le (.v (.raw .nilIface)) (.v (.err true)) := fun N ρ w X v h => by
 simp only [VRep, Rep] at h ⊢; exact ⟨fun _ => h, fun e => by cases e⟩
end Go.V
namespace Go.Proofs.YtaeplfiaahkgpaaGreatDoor
open Go.V Go.C Go.RowKit
theorem sideT {P : Prop} (h : P := by first | exact trivial | assumption | (refine not_i ?_; assumption) | (refine and_l ?_; assumption) | decide | omega | (simp [vcs]; done) | (simp only [List.length_map]; omega)) : P := h
theorem lenT {P : Prop} (h : P := by first | (simp only [List.length_map]; done) | (simp only [List.length_map]; rfl) | rfl) : P := h
theorem tdT {P : Prop} (h : P := by first | (simp only [List.map_take, List.map_drop]; done) | (simp only [List.map_take, List.map_drop]; rfl) | rfl) : P := h
theorem sideR {P : Prop} (h : P := by repeat' (first | exact trivial | assumption | intro _ | apply And.intro | exact sideT | (refine and_i ?_ ?_))) : P := h
theorem lr {B : Base} {n : Nat} {Q : Exit → Act → World → Prop} {ops : List Oper} (k : Nat) {rest : List Oper} {st st' : St} {vc : List Prop} {rest' : List Oper} (h : V.run tb B.G n ops k rest st [] = some (st', vc, rest')) (hv : vcs vc) (hk : WL Tryz.prog B n st' ops Q rest') : WL Tryz.prog B n st ops Q rest := WL.run tbOk k h hv hk
theorem wr {B : Base} {n : Nat} {Q : Exit → Act → World → Prop} {ops : List Oper} (k : Nat) {rest : List Oper} {st st' : St} {done : List Key} {vc : List Prop} {rest' : List Oper} {ks' : List Key} (h : runR tb B.G n ops k rest st [] done = some (st', vc, rest', ks')) (hv : vcs vc) (hk : WR Tryz.prog B n st' ops Q ks' rest') : WR Tryz.prog B n st ops Q done rest := WR.run tbOk k h hv hk
def gl : List (Nat × List D) := [(0, [.int .i64 2, .int .i64 4, .int .i64 6, .int .i64 8])]
structure WG (wg : World) : Prop where
  glob : GlobOk gl wg (fun _ => False)
  low : 7 ≤ wg.heap.size
  maxLen : ∃ m, wg.cell? ⟨2, 0, none⟩ = some (.int .i64 m)
  pow10 : Lib.TabIs Tryz.prog wg "internal/strconv.uint64pow10" .u64 Lib.pow10Tab
theorem WG.cell {wg w : World} {X : Nat → Prop} (hw : WG wg) (he : Ext wg w X) {b : Nat} (hb : b < 7) : w.cell? ⟨b, 0, none⟩ = wg.cell? ⟨b, 0, none⟩ := by
 have := hw.low
 exact World.cell?_of_block (w := wg) (he.block b (by omega)).1
theorem WG.tab {wg w : World} {X : Nat → Prop} (hw : WG wg) (he : Ext wg w X) : Lib.TabIs Tryz.prog w "internal/strconv.uint64pow10" .u64 Lib.pow10Tab := by
  have h1 := hw.pow10
  have h2 := hw.low
  have hg : Tryz.prog.globalNamed "internal/strconv.uint64pow10" = some 1 := by kernel_rfl
  unfold Lib.TabIs World.var? at *
  rw [hg] at h1 ⊢
  simp only [Option.bind_some] at h1 ⊢
  rw [(he.block 1 (by omega)).1]; exact h1
theorem con_pure {P : Program} {wg : World} {G : List (Nat × List D)} {f : FuncId} {args : List SV} {r : SV}
    (h : ∀ w ρ X vals, (∀ b, X b → b < w.heap.size) → Ext wg w X → VReps (nmO []) ρ w X args vals → Calls P f vals.toArray w fun e w' => ∃ v, e = .returned v ∧ Below w.heap.size w w' ∧ VRep (nmO []) ρ w' X r v) : Con P wg G f args [] r [] := by
  intro w ρ F L vals hlow hdis hext hglob hobs hargs
  refine (h w ρ (un F L) vals hlow hext hargs).mono ?_
  rintro e w' ⟨v, rfl, hb, hr⟩
  refine ⟨v, ρ, L, rfl, hr, ⟨(fun k o hk => by cases hk), (fun k o k' o' hk => by cases hk)⟩, step_of_below hb, fun b hL => Nat.lt_of_lt_of_le (hlow b (.inr hL)) hb.size, fun k v hk => by cases hk⟩
theorem below_grow (w : World) (k : Nat) (os : Array Obj) : Below w.heap.size w (Sort.grow (w.drewN k) os) :=
 ⟨rfl, rfl, rfl, by simp [Sort.grow, World.drewN], fun b hb => by
  show (w.heap ++ os)[b]? = w.heap[b]?
  rw [Array.getElem?_append_left hb]⟩
theorem itoa_con {wg : World} (hw : WG wg) {n : Int} {r : Str} (h : itoa n = some r) : Con Tryz.prog wg gl 45 [.v (.int .i64 n)] [] (.v (.str r)) [] := by
 unfold itoa at h
 split at h
 ·rename_i hn
  cases h
  refine con_pure fun w ρ X vals hlow hext hargs => ?_
  simp only [VReps, VRep, Rep] at hargs
  obtain ⟨_, _, rfl, rfl, rfl⟩ := hargs
  refine (Tryz.strconv_Itoa n hn.1 hn.2 w (hw.tab hext)).mono ?_
  rintro e w' ⟨rfl, k, os, rfl⟩
  exact ⟨_, rfl, below_grow _ _ _, by simp only [VRep, Rep]⟩
 ·cases h
theorem hasPrefixS_con {wg : World} (hw : WG wg) {s p : Str} {r : Bool} (h : hasPrefixS s p = some r) : Con Tryz.prog wg gl 41 [.v (.str s), .v (.str p)] [] (.v (.bool r)) [] := by
 unfold hasPrefixS at h
 cases h
 refine con_pure fun w ρ X vals hlow hext hargs => ?_
 simp only [VReps, VRep, Rep] at hargs
 obtain ⟨_, _, rfl, rfl, _, _, rfl, rfl, rfl⟩ := hargs
 refine (Tryz.strings_HasPrefix ⟨⟨s⟩⟩ ⟨⟨p⟩⟩ w).mono ?_
 rintro e w' ⟨rfl, rfl⟩
 exact ⟨_, rfl, Below.refl _ _, by simp only [VRep, Rep]⟩
theorem trimS_con {wg : World} (hw : WG wg) {s c r : Str} (h : trimS s c = some r) : Con Tryz.prog wg gl 146 [.v (.str s), .v (.str c)] [] (.v (.str r)) [] := by
 have _ := Tryz.strings_Trim_one
 unfold trimS at h
 split at h
 ·rename_i hn
  cases h
  refine con_pure fun w ρ X vals hlow hext hargs => ?_
  simp only [VReps, VRep, Rep] at hargs
  obtain ⟨_, _, rfl, rfl, _, _, rfl, rfl, rfl⟩ := hargs
  refine (Any.strings_Trim_laid Tryz.lays160 (by kernel_rfl) ⟨⟨s⟩⟩ ⟨⟨c⟩⟩ w hn.1 hn.2.1 (ascii_of_all hn.2.2)).mono ?_
  rintro e w' ⟨rfl, hb⟩
  exact ⟨_, rfl, hb, by simp only [VRep, Rep]⟩
 ·cases h
theorem reps_strs {w : World} {X : Nat → Prop} {l : List Str} {b o : Nat} (h : RowsAt w X 1 (l.map eStr) b o) : ∀ (j : Nat) (x : ByteArray), (l.map fun s => (⟨⟨s⟩⟩ : ByteArray))[j]? = some x → w.cell? ⟨b, o + j, none⟩ = some (.string x) := by
 intro j x hj
 rw [List.getElem?_map] at hj
 cases hs : l[j]? with
 | none => rw [hs] at hj; cases hj
 | some s =>
  rw [hs] at hj
  simp only [Option.map_some, Option.some.injEq] at hj
  subst hj
  obtain ⟨cs, h1, h2, h3⟩ := h.get (i := j) (e := eStr s) (by simp [hs])
  simp only [eStr, Reps, Rep] at h1
  obtain ⟨v, r, rfl, rfl, rfl⟩ := h1
  have := h3 0 _ rfl
  simpa using this
theorem joinS_con {wg : World} (hw : WG wg) {l : List Str} {sep r : Str} (h : joinS l sep = some r) : Con Tryz.prog wg gl 46 [.v (.sl 1 (l.map eStr)), .v (.str sep)] [] (.v (.str r)) [] := by
 unfold joinS at h
 split at h
 ·rename_i hn
  cases h
  refine con_pure fun w ρ X vals hlow hext hargs => ?_
  simp only [VReps, VRep, Rep] at hargs
  obtain ⟨_, _, rfl, ⟨base, cap, rfl, h2, h3, h4⟩, _, _, rfl, rfl, rfl⟩ := hargs
  have hid : (l.map fun s => (⟨⟨s⟩⟩ : ByteArray)).map (fun x => x.data.toList) = l := by simp [Function.comp_def]
  by_cases hl : l = []
  ·subst hl
   refine (Tryz.strings_Join_none base cap ⟨⟨sep⟩⟩ w).mono ?_
   rintro e w' ⟨rfl, rfl⟩
   exact ⟨_, rfl, Below.refl _ _, by simp [VRep, Rep, Lib.join]⟩
  ·cases hb : base with
   | none => have := h3 hb; simp at this; exact absurd this hl
   | some ad =>
    obtain ⟨h5, h6, h7, h8⟩ := h4 ad hb (by simpa using hl)
    obtain ⟨b, o, q⟩ := ad
    simp only at h5; subst h5
    have := Tryz.strings_Join b o cap (l.map fun s => (⟨⟨s⟩⟩ : ByteArray)) ⟨⟨sep⟩⟩ w (reps_strs h8) h6 (by simpa using hn.1) (by simpa using h2) (by rw [hid]; exact hn.2)
    rw [hid] at this
    simp only [List.length_map] at this ⊢
    refine this.mono ?_
    rintro e w' ⟨rfl, hbl⟩
    exact ⟨_, rfl, hbl, by simp only [VRep, Rep]⟩
 ·cases h
theorem rep_strs {w w' : World} {X : Nat → Prop} {T : Nat} {v : Value} {l : List Str} (hlow : ∀ b, X b → b < w.heap.size) (h : w'.ownsRow w.heap.size T 1 v l.length (l.map fun s => Value.string ⟨⟨s⟩⟩)) : Rep w' X (.sl 1 (l.map eStr)) v := by
  have hrows : RepRows w' X (l.map eStr) (l.map fun s => [Value.string ⟨⟨s⟩⟩]) := by
    have : ∀ l : List Str, RepRows w' X (l.map eStr) (l.map fun s => [Value.string ⟨⟨s⟩⟩]) := by
      intro l
      induction l with
      | nil => simp [RepRows]
      | cons s l ih => simp only [List.map_cons, RepRows]; exact ⟨_, _, rfl, by simp [eStr, Reps, Rep], ih⟩
    exact this l
  have hfl : (l.map fun s => [Value.string ⟨⟨s⟩⟩]).flatten = l.map fun s => Value.string ⟨⟨s⟩⟩ := by
    have : ∀ l : List Str, (l.map fun s => [Value.string ⟨⟨s⟩⟩]).flatten = l.map fun s => Value.string ⟨⟨s⟩⟩ := by
      intro l
      induction l with
      | nil => rfl
      | cons s l ih => simp only [List.map_cons, List.flatten_cons, ih]; rfl
    exact this l
  refine rep_of_row (T := T) (X := X) (X' := X) (Keep.refl _ _) hrows (fun r hr => ?_) (OwnsR.of (base := w.heap.size) (by rw [hfl, List.length_map]; exact h)) (fun b hb hx => ?_)
  · obtain ⟨s, _, rfl⟩ := List.mem_map.1 hr; rfl
  · rcases h.2 with ⟨e, _⟩ | ⟨g, cap, cur, e, hge, _⟩
    · rw [e] at hb; simp [ob] at hb
    · rw [e] at hb; simp only [ob, Option.some.injEq] at hb; subst hb; exact Nat.lt_irrefl _ (Nat.lt_of_lt_of_le (hlow _ hx) hge)
theorem cloneS_con {wg : World} (hw : WG wg) {l r : List Str} (h : cloneS l = some r) : Con Tryz.prog wg gl 119 [.v (.sl 1 (l.map eStr))] [] (.v (.sl 1 (r.map eStr))) [] := by
 unfold cloneS at h
 split at h
 ·rename_i hn
  cases h
  refine con_pure fun w ρ X vals hlow hext hargs => ?_
  simp only [VReps, VRep, Rep] at hargs
  obtain ⟨_, _, rfl, ⟨base, cap, rfl, h2, h3, h4⟩, rfl⟩ := hargs
  cases hb : base with
  | none =>
   have := h3 hb
   simp only [List.map_eq_nil_iff] at this
   subst this
   refine (Tryz.slices_Clone_string_nil 0 cap w).mono ?_
   rintro e w' ⟨rfl, rfl⟩
   exact ⟨_, rfl, Below.refl _ _, by simp only [VRep, Rep]; exact ⟨none, 0, rfl, Nat.le_refl _, fun _ => rfl, fun ad h => by cases h⟩⟩
  | some ad =>
   by_cases hl : l = []
   ·subst hl
    refine (Tryz.slices_Clone_string_zero ad cap w).mono ?_
    rintro e w' ⟨v', rfl, ho, _, hbel⟩
    exact ⟨_, rfl, hbel, by simp only [VRep]; exact rep_strs (l := []) hlow ho⟩
   ·obtain ⟨h5, h6, h7, h8⟩ := h4 ad hb (by simpa using hl)
    obtain ⟨b, o, q⟩ := ad
    simp only at h5; subst h5
    have hcells := reps_strs h8
    rw [List.length_map]
    refine (Tryz.slices_Clone_string b o l.length cap (l.map fun s => (⟨⟨s⟩⟩ : ByteArray)) w (by simp) hn (fun j hj => by
     have := hcells j ((l.map fun s => (⟨⟨s⟩⟩ : ByteArray))[j]) (by simp)
     rw [this]; simp [List.getD_eq_getElem?_getD, List.getElem?_eq_getElem hj])).mono ?_
    rintro e w' ⟨v', rfl, ho, _, hbel⟩
    refine ⟨_, rfl, hbel, ?_⟩
    have e1 : ((l.map fun s => (⟨⟨s⟩⟩ : ByteArray)).take l.length).map Value.string = l.map fun s => Value.string ⟨⟨s⟩⟩ := by rw [List.take_of_length_le (by simp), List.map_map]; rfl
    rw [e1] at ho
    simp only [VRep]
    exact rep_strs hlow ho
 ·cases h
end Go.Proofs.YtaeplfiaahkgpaaGreatDoor
end zLib
noncomputable section zRw
set_option linter.unusedVariables false
set_option linter.unusedSimpArgs false
namespace Go.Proofs.YtaeplfiaahkgpaaGreatDoor
open Go.V Go.C Go.ChangeShapes Go.WideShapes Go.ChangeAt Go.RowKit
theorem own : ownKnob Tryz.prog.godebug = none := by kernel_rfl
theorem laidOut : laidOutB Tryz.prog = true := by kernel_rfl
theorem mapsRow : mapsRowed Tryz.prog = true := by kernel_rfl
theorem slicesOk1 : slicesOkB Tryz.prog = true := by kernel_rfl
theorem wf_i64 {n : Int} (h : (Lit.int .i64 n).wf = true) : okI_i64 n := by
 simp only [Lit.wf, Bool.and_eq_true, decide_eq_true_eq, IntKind.min, IntKind.max] at h
 unfold okI_i64
 constructor <;> (have h1 := h.1; have h2 := h.2; revert h1 h2; simp [IntKind.bits, IntKind.signed] <;> omega)
theorem open_3 {H : Type} {enc : TypeId × Value → H} {W : World} {X : Nat → Prop} (hX : ∀ b, X b → W.heap.size ≤ b) : Opens enc Tryz.prog W X 3 (fun l => ∃ a : Int, l = zD1 a ∧ okI_i64 a) := by
 intro base sp held fuel cs x h
 obtain ⟨l, ⟨n, rfl, hn⟩, hr⟩ := op_int Tryz.underlying3 _ _ _ _ _ _ h
 exact ⟨_, ⟨n, rfl, wf_i64 hn⟩, hr⟩
theorem open_22 {H : Type} {enc : TypeId × Value → H} {W : World} {X : Nat → Prop} (hX : ∀ b, X b → W.heap.size ≤ b) : Opens enc Tryz.prog W X 22 (fun l => ∃ a : (List Int), l = [.sl 1 (a.map zD1)] ∧ (a.length ≤ 9223372036854775807 ∧ ∀ x, x ∈ a → okI_i64 x)) := by
 intro base sp held fuel cs x h
 obtain ⟨l, ⟨es, rfl, hl, he⟩, hr⟩ := op_slice Tryz.underlying22 (z := 1) (by kernel_rfl) (by decide) hX (open_3 hX) _ _ _ _ _ _ h
 obtain ⟨xs, rfl, hx⟩ := list_map he
 exact ⟨_, ⟨xs, rfl, by simpa [maxLen] using hl, hx⟩, hr⟩
theorem wg_of {W : World} (hL : laidMetH Tryz.prog Rows.checkAcceptsRow.laid W) (hsh : W.ShapedOpen Tryz.prog) : WG W := by
  rw [MakeChecks.laidMetH_plain _ _ _ (by kernel_rfl)] at hL
  refine ⟨?_, ?_, ?_, ?_⟩
  · exact glob_tab (name := "customs/nomenclature.lengths") (k := .i64) (zs := [2, 4, 6, 8]) (laid_tab hL (List.mem_cons_of_mem _ (List.mem_cons_of_mem _ (List.mem_cons_of_mem _ (List.mem_cons_of_mem _ (List.mem_cons.2 (.inl (by kernel_rfl))))))) (g := 0) (by kernel_rfl) (t := 161) (by kernel_rfl) Tryz.underlying161 Tryz.underlying3 (by kernel_rfl) (by kernel_rfl)) (by kernel_rfl)
  · have hlen : Tryz.prog.globals.size = 7 := by kernel_rfl
    obtain ⟨⟨z, t⟩, hz⟩ := Option.isSome_iff_exists.1 (show (((begin Tryz.prog (fun _ _ => 0) default).world.heap[6]?).bind Obj.row?).isSome = true by kernel_rfl)
    obtain ⟨cs, hh, _⟩ := hsh.1 6 _ _ (by omega) hz
    have := (Array.getElem?_eq_some_iff.1 hh).1
    omega
  · exact cell_of_shapedOpen_int hsh (of_decide_eq_true (by kernel_rfl)) (zero := #[.int .i64 0]) (t := 3) (by kernel_rfl) (by kernel_rfl) (by kernel_rfl) (by kernel_rfl) (by kernel_rfl)
  · exact laid_tab hL (List.mem_cons_of_mem _ (List.mem_cons_of_mem _ (List.mem_cons.2 (.inl (by kernel_rfl))))) (g := 1) (by kernel_rfl) (t := 192) (by kernel_rfl) Tryz.underlying192 Tryz.underlying171 (by kernel_rfl) (by kernel_rfl)
end Go.Proofs.YtaeplfiaahkgpaaGreatDoor
end zRw
noncomputable section zAl
set_option linter.unusedVariables false
set_option linter.unusedSimpArgs false
namespace Go.Proofs.YtaeplfiaahkgpaaGreatDoor
open Go.V Go.C Go.RowKit
variable {B : Base} {n : Nat} {st st' : St} {Q : Exit → Act → World → Prop} {ops rest rest' : List Oper}
theorem lr1 (h : V.run tb B.G n ops 1 rest st [] = some (st', [], rest')) (hk : WL Tryz.prog B n st' ops Q rest') : WL Tryz.prog B n st ops Q rest := lr 1 h trivial hk
theorem lr2 (h : V.run tb B.G n ops 2 rest st [] = some (st', [], rest')) (hk : WL Tryz.prog B n st' ops Q rest') : WL Tryz.prog B n st ops Q rest := lr 2 h trivial hk
theorem lr3 (h : V.run tb B.G n ops 3 rest st [] = some (st', [], rest')) (hk : WL Tryz.prog B n st' ops Q rest') : WL Tryz.prog B n st ops Q rest := lr 3 h trivial hk
theorem lr4 (h : V.run tb B.G n ops 4 rest st [] = some (st', [], rest')) (hk : WL Tryz.prog B n st' ops Q rest') : WL Tryz.prog B n st ops Q rest := lr 4 h trivial hk
theorem lr5 (h : V.run tb B.G n ops 5 rest st [] = some (st', [], rest')) (hk : WL Tryz.prog B n st' ops Q rest') : WL Tryz.prog B n st ops Q rest := lr 5 h trivial hk
theorem lr6 (h : V.run tb B.G n ops 6 rest st [] = some (st', [], rest')) (hk : WL Tryz.prog B n st' ops Q rest') : WL Tryz.prog B n st ops Q rest := lr 6 h trivial hk
section
variable {P : Program} {id id2 : Nat} {l : List Oper} {x y z : Code}
theorem sr (h : WL P B n st l (Exit.then (y.wp P Q) Q) l) : WC P B n st (.seq (.region id l.toArray false) y) Q := WC.seq (WC.region h)
theorem nn (h : WC P B n st y Q) : WL P B n st ops (Exit.then (y.wp P Q) Q) [] := WL.nil (WQ.thenNormal h)
theorem ns (h : WL P B n st l (Exit.then (y.wp P Q) Q) l) : WL P B n st ops (Exit.then ((Code.seq (.region id l.toArray false) y).wp P Q) Q) [] := WL.nil (WQ.thenNormal (WC.seq (WC.region h)))
theorem nr (h : WQ B n st Q .ret) : WL P B n st ops (Exit.then ((Code.ret).wp P Q) Q) [] := WL.nil (WQ.thenNormal (WC.ret h))
theorem kn (h : WC P B n st y Q) : WC P B n st .skip (Exit.then (y.wp P Q) Q) := WC.skip (WQ.thenNormal h)
theorem sb (h : WC P B n st x (Exit.inBlock id (Exit.then (y.wp P Q) Q))) : WC P B n st (.seq (.block id x) y) Q := WC.seq (WC.block h)
theorem rb {K : Act → World → Prop} (h : WQ B n st Q .ret) : WQ B n st (Exit.inBlock id (Exit.then K Q)) .ret := WQ.blockRet (WQ.thenRet h)
theorem eb {K : Act → World → Prop} (h : WQ B n st Q .normal) : WQ B n st (Exit.then K (Exit.inBlock id Q)) (.exit id) := WQ.thenExit (WQ.blockExit h)
theorem bn (h : WC P B n st y Q) : WQ B n st (Exit.inBlock id (Exit.then (y.wp P Q) Q)) .normal := WQ.blockNormal (WQ.thenNormal h)
end
theorem eqs {P : Prop} (h : P := by repeat' (first | exact trivial | exact rfl | apply And.intro)) : P := h
theorem sub {B : Base} {π : List (Nat × Nat)} {S1 S2 : St} (h1 : subS π S1.S S2.S := by exact eqs) (h2 : subO π S1.O S2.O := by exact eqs) (h3 : wfAllS S2.O S2.S = true := by rfl) (h4 : wfAllO S2.O S2.O = true := by rfl) (h5 : injB π S2.O = true := by rfl) (h6 : pinAll π S2.O B.N = true := by rfl) : Sub B π S1 S2 := ⟨h1, h2, h3, h4, h5, h6⟩
theorem rt {P : Program} {fn : Func} {R : Ending → World → Prop} {r : SV} {O' : List (Nat × Ob)} (hP : TblOk P tb)
  (hR : ∀ v ρ' w' L', VRep (nmO O') ρ' w' (un B.F L') r v → ObsOk O' ρ' w' (un B.F L') L' → Step B.L0 B.w0 L' w' → (∀ b, L' b → b < w'.heap.size) → (∀ k v, get B.N k = some v → nmO O' k → ρ' k = v) → R (.returned v) w')
  {l : List ResultVar} {xs : List SV} {e : Exit} (he : e = .ret ∨ e = .normal := by exact .inl rfl) (hr : fn.results = l.toArray := by rfl) (h : resL tb st l = some xs := by rfl) (hx : Le (resV xs) (ren [] r) := by exact Le.refl _) (hO : subO [] st.O O' := by exact eqs) (hw : wfB O' r = true := by rfl) (hwO : wfAllO O' O' = true := by rfl) (hi : injB [] O' = true := by rfl)
  (hpn : pinFix [] B.N = true := by rfl) : WQ B n st (bodyPost P fn R) e := WQ.rets hP hR [] he hr h hx hO hw hwO hi hpn
theorem tr {P : Prop} (h : P := by exact trivial) : P := h
theorem cw {P : Program} {wg : World} {G : List (Nat × List D)} {f : FuncId} {fn : Func} {c : Code} {args : List SV} {O : List (Nat × Ob)} {r : SV} {O' : List (Nat × Ob)} {n : Nat} (hf : P.funcs[f]? = some fn) (hn : fn.ntmps = n)
  (h : ∀ (F L : Nat → Prop) (w : World) (ρ0 : Nat → Value) (R : Ending → World → Prop),
   (∀ v ρ' w' L', VRep (nmO O') ρ' w' (un F L') r v → ObsOk O' ρ' w' (un F L') L' → Step L w L' w' → (∀ b, L' b → b < w'.heap.size) → (∀ k v, get (pinsOf ρ0 O) k = some v → nmO O' k → ρ' k = v) → R (.returned v) w') →
   WC P ⟨F, L, w, wg, G, pinsOf ρ0 O⟩ n ⟨zM1 0 args, O⟩ c (bodyPost P fn R)) (hb : fn.body = some c := by rfl) (hl : Nat.ble args.length n = true := by rfl) : Con P wg G f args O r O' :=
 con_of_WC (S := zM1 0 args) hf hb hn hl (fun t x hx => (slotsOf_get hx).2) h
def kv (l : List D) : List SV := l.map .v
abbrev iv (x : Int) : SV := .v (.int .i64 x)
abbrev tv (x : List UInt8) : SV := .v (.str x)
abbrev ov (x : Bool) : SV := .v (.bool x)
theorem ci {P : Program} {c : Operand} {x y : Code} {b : Bool} {α : Type} {p q : Option α} {r : α} (ht : b = true → p = some r → WC P B n st x Q) (hf : b = false → q = some r → WC P B n st y Q) (hc : opnd B.G st.S c = some (.v (.bool b)) := by rfl) : (if b = true then p else q) = some r → WC P B n st (.cond c x y) Q :=
 fun h => WC.cond hc (fun hb => ht hb (ite_t hb h)) (fun hb => hf hb (ite_f hb h))
theorem zb {α β : Type} {m : Option α} {k : α → Option β} {r : β} {C : Prop} (H : ∀ v, m = some v → k v = some r → C) : m.bind k = some r → C := fun h => by obtain ⟨v, h1, h2⟩ := bnd h; exact H v h1 h2
theorem al {a b c d k : Nat} (g : a + b ≤ k) (h : c = a ∧ d = b := by simp only [List.length_map, List.length_nil, List.length_cons, and_self]) : c + d ≤ k := by omega
theorem ma {P : Prop} (h : P := by (simp only [List.map_append]; try rfl)) : P := h
theorem ce {P : Prop} (h : P := by exact fun _ e => by cases e; rfl) : P := h
end Go.Proofs.YtaeplfiaahkgpaaGreatDoor
end zAl
noncomputable section zPa
set_option linter.unusedVariables false
namespace Go.C
open Go.V
def within (x : Int) (n1 : Int) : Option (Int) := if (n1 ≠ 0) then if (n1 ≠ 0) then some ((IntKind.i64.wrap ((x.tmod n1) + n1)).tmod n1) else none else none
def srcNext (s : YH) (n1 : Int) : Option (Int × YH) := if (decide ((s.L.length : Int) ≤ s.I)) = true then some ((0 : Int), s) else if (0 ≤ (IntKind.i64.wrap ((IntKind.i64.wrap (s.I + (1 : Int))) - (1 : Int)))) then (s.L[(IntKind.i64.wrap ((IntKind.i64.wrap (s.I + (1 : Int))) - (1 : Int))).toNat]?).bind fun x => (within x n1).bind fun v => some (v, (⟨s.L, (IntKind.i64.wrap (s.I + (1 : Int)))⟩ : YH)) else none
def madeCut (l : (List Int)) (n1 : Int) : Option ((List Int)) := if (decide (n1 < (l.length : Int))) = true then if (0 ≤ (0 : Int) ∧ (0 : Int) ≤ n1 ∧ n1 ≤ (l.length : Int)) then some ((l.take n1.toNat).drop (0 : Int).toNat) else none else some l
def vocabulary  : Option ((List Str)) := some [([99, 104, 97, 105, 114] : Str), ([100, 101, 115, 107] : Str), ([103, 108, 97, 115, 115] : Str), ([108, 97, 109, 112] : Str), ([111, 102, 102, 105, 99, 101] : Str), ([112, 97, 114, 116, 115] : Str), ([115, 101, 97, 116] : Str), ([115, 116, 101, 101, 108] : Str), ([119, 111, 111, 100] : Str)]
def srcWords_j2 (v2 : Int × YH) (out2 : (List Str)) : Option ((List Str) × YH) := some (out2, v2.2)
def srcWords_j1 (v : (List Str)) (v2 : Int × YH) (out : (List Str)) : Option ((List Str) × YH) := if ((out.length : Int) == (0 : Int)) = true then if ((v.length : Int) ≠ 0) then if (0 ≤ (v2.1.tmod (v.length : Int))) then (v[(v2.1.tmod (v.length : Int)).toNat]?).bind fun x => srcWords_j2 v2 [x] else none else none else srcWords_j2 v2 out
def srcWords_j3 (most : Int) (v : (List Str)) (v2 : Int × YH) (i2 : Int) (out7 : (List Str)) : Option ((Int × (List Str)) ⊕ ((List Str))) := some (.inl ((IntKind.i64.wrap (i2 + (1 : Int))), out7))
def srcWords_b1 (most : Int) (v : (List Str)) (v2 : Int × YH) : (Int × (List Str)) → Option ((Int × (List Str)) ⊕ ((List Str)))
 | (i2, out4) => if (bif (decide (i2 < (v.length : Int))) then (decide ((out4.length : Int) < most)) else false) = true then if (0 ≤ i2) then if ((IntKind.i64.wrap ((BitVec.ofInt (IntKind.i64).bits (v2.1.fdiv (2 ^ (min i2.toNat (IntKind.i64).bits))) &&& BitVec.ofInt (IntKind.i64).bits (1 : Int)).toNat : Int)) == (1 : Int)) = true then if (0 ≤ i2) then (v[i2.toNat]?).bind fun x4 => if (out4.length + [x4].length ≤ 137438953472) then srcWords_j3 most v v2 i2 (out4 ++ [x4]) else none else none else srcWords_j3 most v v2 i2 out4 else none else some (.inr out4)
def srcWords (s : YH) (most : Int) : Option ((List Str) × YH) := (vocabulary ).bind fun v => (srcNext s (512 : Int)).bind fun v2 => (loopO (srcWords_b1 most v v2) ((0 : Int), [])).bind fun e => match e with
 | out6 => srcWords_j1 v v2 out6
def srcShares_j1 (left : Int) (out : (List Int)) (c0_0 : (List Int)) (c0_1 : Int) : Option ((List Int) × YH) := if (out.length + [left].length ≤ 137438953472) then some ((out ++ [left]), (⟨c0_0, c0_1⟩ : YH)) else none
def srcShares_j2 (n1 : Int) (i2 : Int) (left3 : Int) (x3 : Int) (out5 : (List Int)) (c0_07 : (List Int)) (c0_17 : Int) : Option ((Int × Int × (List Int) × (List Int) × Int) ⊕ (Int × (List Int) × (List Int) × Int)) := if (out5.length + [(if (IntKind.i64.wrap (left3 - (IntKind.i64.wrap (n1 - i2)))) < x3 then (IntKind.i64.wrap (left3 - (IntKind.i64.wrap (n1 - i2)))) else x3)].length ≤ 137438953472) then some (.inl ((IntKind.i64.wrap (i2 + (1 : Int))), (IntKind.i64.wrap (left3 - (if (IntKind.i64.wrap (left3 - (IntKind.i64.wrap (n1 - i2)))) < x3 then (IntKind.i64.wrap (left3 - (IntKind.i64.wrap (n1 - i2)))) else x3))), (out5 ++ [(if (IntKind.i64.wrap (left3 - (IntKind.i64.wrap (n1 - i2)))) < x3 then (IntKind.i64.wrap (left3 - (IntKind.i64.wrap (n1 - i2)))) else x3)]), c0_07, c0_17)) else none
def srcShares_b1 (n1 : Int) : (Int × Int × (List Int) × (List Int) × Int) → Option ((Int × Int × (List Int) × (List Int) × Int) ⊕ (Int × (List Int) × (List Int) × Int))
 | (i2, left3, out2, c0_04, c0_14) => if (decide (i2 < n1)) = true then (srcNext (⟨c0_04, c0_14⟩ : YH) (4 : Int)).bind fun v7 => (srcNext v7.2 (2 : Int)).bind fun v8 => if (v8.1 == (1 : Int)) = true then if (n1 ≠ 0) then (srcNext v8.2 (IntKind.i64.wrap ((1000000 : Int).tdiv n1))).bind fun v9 => srcShares_j2 n1 i2 left3 (IntKind.i64.wrap ((1 : Int) + v9.1)) out2 v9.2.L v9.2.I else none else srcShares_j2 n1 i2 left3 (IntKind.i64.wrap ((1 : Int) + (IntKind.i64.wrap (v7.1 * (100000 : Int))))) out2 v8.2.L v8.2.I else some (.inr (left3, out2, c0_04, c0_14))
def srcShares (s : YH) (n1 : Int) : Option ((List Int) × YH) := (loopO (srcShares_b1 n1) ((1 : Int), (1000000 : Int), [], s.L, s.I)).bind fun e => match e with
 | (left4, out4, c0_06, c0_16) => srcShares_j1 left4 out4 c0_06 c0_16
def madeGood_j2 (v2 : (List Str) × YH) (v3 : Int × YH) (c4_12 : (List YW)) (c4_2 : (List YI)) : Option (YN) := some (⟨v2.1, c4_12, c4_2, (v3.1 == (1 : Int))⟩ : YN)
def madeGood_b1 (v2 : (List Str) × YH) (v3 : Int × YH) (v7 : (List Int) × YH) : (Int × (List YW) × (List YI) × (List Int) × Int) → Option ((Int × (List YW) × (List YI) × (List Int) × Int) ⊕ ((List YW) × (List YI)))
 | (i2, c4_14, c4_22, c14_03, c14_13) => if (decide (i2 < (v7.1.length : Int))) = true then (srcWords (⟨c14_03, c14_13⟩ : YH) (3 : Int)).bind fun v10 => if (0 ≤ i2) then (v7.1[i2.toNat]?).bind fun x3 => if (c4_22.length + [(⟨v10.1, x3⟩ : YI)].length ≤ 137438953472) then some (.inl ((IntKind.i64.wrap (i2 + (1 : Int))), c4_14, (c4_22 ++ [(⟨v10.1, x3⟩ : YI)]), v10.2.L, v10.2.I)) else none else none else some (.inr (c4_14, c4_22))
def madeGood_j1 (v2 : (List Str) × YH) (v3 : Int × YH) (c4_1 : (List YW)) (c14_0 : (List Int)) (c14_1 : Int) : Option (YN) := (srcNext (⟨c14_0, c14_1⟩ : YH) (3 : Int)).bind fun v5 => if (v5.1 == (1 : Int)) = true then (srcNext v5.2 (3 : Int)).bind fun v6 => (srcShares v6.2 (IntKind.i64.wrap ((1 : Int) + v6.1))).bind fun v7 => (loopO (madeGood_b1 v2 v3 v7) ((0 : Int), c4_1, [], v7.2.L, v7.2.I)).bind fun e => match e with
 | (c4_15, c4_23) => madeGood_j2 v2 v3 c4_15 c4_23 else madeGood_j2 v2 v3 c4_1 []
def madeGood_b2 (v2 : (List Str) × YH) (v3 : Int × YH) (v11 : Int × YH) (v12 : (List Int) × YH) : (Int × (List YW)) → Option ((Int × (List YW)) ⊕ ((List YW)))
 | (i4, c4_16) => if (decide (i4 < (v12.1.length : Int))) = true then if (0 ≤ i4) then (([([103, 108, 97, 115, 115] : Str), ([108, 97, 109, 112] : Str), ([115, 116, 101, 101, 108] : Str), ([119, 111, 111, 100] : Str)].drop v11.1.toNat)[i4.toNat]?).bind fun x8 => if (0 ≤ i4) then (v12.1[i4.toNat]?).bind fun x9 => if (c4_16.length + [(⟨x8, x9⟩ : YW)].length ≤ 137438953472) then some (.inl ((IntKind.i64.wrap (i4 + (1 : Int))), (c4_16 ++ [(⟨x8, x9⟩ : YW)]))) else none else none else none else some (.inr c4_16)
def madeGood (l : (List Int)) : Option (YN) := (madeCut l (60 : Int)).bind fun v => (srcWords (⟨v, 0⟩ : YH) (4 : Int)).bind fun v2 => (srcNext v2.2 (4 : Int)).bind fun v3 => (srcNext v3.2 (4 : Int)).bind fun v4 => if (decide ((0 : Int) < v4.1)) = true then (srcNext v4.2 (2 : Int)).bind fun v11 => if (0 ≤ v11.1 ∧ v11.1 ≤ ([([103, 108, 97, 115, 115] : Str), ([108, 97, 109, 112] : Str), ([115, 116, 101, 101, 108] : Str), ([119, 111, 111, 100] : Str)].length : Int)) then (srcShares v11.2 (if (([([103, 108, 97, 115, 115] : Str), ([108, 97, 109, 112] : Str), ([115, 116, 101, 101, 108] : Str), ([119, 111, 111, 100] : Str)].drop v11.1.toNat).length : Int) < v4.1 then (([([103, 108, 97, 115, 115] : Str), ([108, 97, 109, 112] : Str), ([115, 116, 101, 101, 108] : Str), ([119, 111, 111, 100] : Str)].drop v11.1.toNat).length : Int) else v4.1)).bind fun v12 => (loopO (madeGood_b2 v2 v3 v11 v12) ((0 : Int), [])).bind fun e => match e with
 | c4_17 => madeGood_j1 v2 v3 c4_17 v12.2.L v12.2.I else none else madeGood_j1 v2 v3 [] v4.2.L v4.2.I
def srcTerms_j1 (out : (List (List Str))) (c0_0 : (List Int)) (c0_1 : Int) : Option ((List (List Str)) × YH) := some (out, (⟨c0_0, c0_1⟩ : YH))
def srcTerms (s : YH) : Option ((List (List Str)) × YH) := (srcWords s (2 : Int)).bind fun v => (srcNext v.2 (3 : Int)).bind fun v2 => if (v2.1 == (1 : Int)) = true then (srcWords v2.2 (3 : Int)).bind fun v3 => if ([v.1].length + [v3.1].length ≤ 137438953472) then srcTerms_j1 ([v.1] ++ [v3.1]) v3.2.L v3.2.I else none else srcTerms_j1 [v.1] v2.2.L v2.2.I
def srcEntry_j4 (F : YH → Str → Int → Option ((List YB) × YH)) (out2 : (List YB)) (c0_03 : (List Int)) (c0_13 : Int) : Option ((List YB) × YH) := some (out2, (⟨c0_03, c0_13⟩ : YH))
def srcEntry_b1 (F : YH → Str → Int → Option ((List YB) × YH)) (code : Str) (c7_32 : (List (List Str))) (c7_4 : Bool) (c7_1 : Int) (c7_2 : Int) (v2 : Int × YH) : (Int × (List YB) × (List Int) × Int) → Option ((Int × (List YB) × (List Int) × Int) ⊕ ((List YB) × (List Int) × Int))
 | (i, out3, c0_04, c0_14) => if (decide (i ≤ v2.1)) = true then if (code.length + ([48] : Str).length ≤ 9223372036854775807) then if ((code ++ ([48] : Str)).length + (bytesI [(IntKind.u8.wrap (IntKind.i64.wrap ((48 : Int) + i)))]).length ≤ 9223372036854775807) then (F (⟨c0_04, c0_14⟩ : YH) ((code ++ ([48] : Str)) ++ (bytesI [(IntKind.u8.wrap (IntKind.i64.wrap ((48 : Int) + i)))])) c7_2).bind fun v4 => if (out3.length + v4.1.length ≤ 137438953472) then some (.inl ((IntKind.i64.wrap (i + (1 : Int))), (out3 ++ v4.1), v4.2.L, v4.2.I)) else none else none else none else some (.inr (out3, c0_04, c0_14))
def srcEntry_j3 (F : YH → Str → Int → Option ((List YB) × YH)) (code : Str) (c7_32 : (List (List Str))) (c7_4 : Bool) (out : (List YB)) (c0_02 : (List Int)) (c0_12 : Int) (c7_1 : Int) (c7_2 : Int) : Option ((List YB) × YH) := if (out.length + [(⟨code, c7_1, c7_2, c7_32, c7_4⟩ : YB)].length ≤ 137438953472) then if ((code.length : Int) == (8 : Int)) = true then some ((out ++ [(⟨code, c7_1, c7_2, c7_32, c7_4⟩ : YB)]), (⟨c0_02, c0_12⟩ : YH)) else (srcNext (⟨c0_02, c0_12⟩ : YH) (4 : Int)).bind fun v2 => (loopO (srcEntry_b1 F code c7_32 c7_4 c7_1 c7_2 v2) ((1 : Int), (out ++ [(⟨code, c7_1, c7_2, c7_32, c7_4⟩ : YB)]), v2.2.L, v2.2.I)).bind fun e => match e with
 | (out5, c0_06, c0_16) => srcEntry_j4 F out5 c0_06 c0_16 else none
def srcEntry_j2 (F : YH → Str → Int → Option ((List YB) × YH)) (code : Str) (end_ : Int) (v : Int × YH) (c7_32 : (List (List Str))) (c7_4 : Bool) : Option ((List YB) × YH) := if (bif (decide ((2 : Int) < (code.length : Int))) then (decide ((12 : Int) < end_)) else false) = true then (srcNext v.2 (6 : Int)).bind fun v5 => if (v5.1 == (1 : Int)) = true then (srcTerms v5.2).bind fun v6 => if (0 + [(⟨code, (0 : Int), (10 : Int), v6.1, false⟩ : YB)].length ≤ 137438953472) then srcEntry_j3 F code c7_32 c7_4 [(⟨code, (0 : Int), (10 : Int), v6.1, false⟩ : YB)] v6.2.L v6.2.I (10 : Int) end_ else none else if (v5.1 == (2 : Int)) = true then srcEntry_j3 F code c7_32 c7_4 [] v5.2.L v5.2.I (0 : Int) (12 : Int) else srcEntry_j3 F code c7_32 c7_4 [] v5.2.L v5.2.I (0 : Int) end_ else srcEntry_j3 F code c7_32 c7_4 [] v.2.L v.2.I (0 : Int) end_
def srcEntry_j7 (F : YH → Str → Int → Option ((List YB) × YH)) (out7 : (List YB)) (c0_08 : (List Int)) (c0_18 : Int) : Option ((List YB) × YH) := some (out7, (⟨c0_08, c0_18⟩ : YH))
def srcEntry_b2 (F : YH → Str → Int → Option ((List YB) × YH)) (code : Str) (c7_33 : (List (List Str))) (c7_42 : Bool) (c7_12 : Int) (c7_22 : Int) (v7 : Int × YH) : (Int × (List YB) × (List Int) × Int) → Option ((Int × (List YB) × (List Int) × Int) ⊕ ((List YB) × (List Int) × Int))
 | (i3, out8, c0_09, c0_19) => if (decide (i3 ≤ v7.1)) = true then if (code.length + ([48] : Str).length ≤ 9223372036854775807) then if ((code ++ ([48] : Str)).length + (bytesI [(IntKind.u8.wrap (IntKind.i64.wrap ((48 : Int) + i3)))]).length ≤ 9223372036854775807) then (F (⟨c0_09, c0_19⟩ : YH) ((code ++ ([48] : Str)) ++ (bytesI [(IntKind.u8.wrap (IntKind.i64.wrap ((48 : Int) + i3)))])) c7_22).bind fun v9 => if (out8.length + v9.1.length ≤ 137438953472) then some (.inl ((IntKind.i64.wrap (i3 + (1 : Int))), (out8 ++ v9.1), v9.2.L, v9.2.I)) else none else none else none else some (.inr (out8, c0_09, c0_19))
def srcEntry_j6 (F : YH → Str → Int → Option ((List YB) × YH)) (code : Str) (c7_33 : (List (List Str))) (c7_42 : Bool) (out6 : (List YB)) (c0_07 : (List Int)) (c0_17 : Int) (c7_12 : Int) (c7_22 : Int) : Option ((List YB) × YH) := if (out6.length + [(⟨code, c7_12, c7_22, c7_33, c7_42⟩ : YB)].length ≤ 137438953472) then if ((code.length : Int) == (8 : Int)) = true then some ((out6 ++ [(⟨code, c7_12, c7_22, c7_33, c7_42⟩ : YB)]), (⟨c0_07, c0_17⟩ : YH)) else (srcNext (⟨c0_07, c0_17⟩ : YH) (4 : Int)).bind fun v7 => (loopO (srcEntry_b2 F code c7_33 c7_42 c7_12 c7_22 v7) ((1 : Int), (out6 ++ [(⟨code, c7_12, c7_22, c7_33, c7_42⟩ : YB)]), v7.2.L, v7.2.I)).bind fun e => match e with
 | (out10, c0_011, c0_111) => srcEntry_j7 F out10 c0_011 c0_111 else none
def srcEntry_j5 (F : YH → Str → Int → Option ((List YB) × YH)) (code : Str) (end_ : Int) (c0_0 : (List Int)) (c0_1 : Int) (c7_33 : (List (List Str))) (c7_42 : Bool) : Option ((List YB) × YH) := if (bif (decide ((2 : Int) < (code.length : Int))) then (decide ((12 : Int) < end_)) else false) = true then (srcNext (⟨c0_0, c0_1⟩ : YH) (6 : Int)).bind fun v10 => if (v10.1 == (1 : Int)) = true then (srcTerms v10.2).bind fun v11 => if (0 + [(⟨code, (0 : Int), (10 : Int), v11.1, false⟩ : YB)].length ≤ 137438953472) then srcEntry_j6 F code c7_33 c7_42 [(⟨code, (0 : Int), (10 : Int), v11.1, false⟩ : YB)] v11.2.L v11.2.I (10 : Int) end_ else none else if (v10.1 == (2 : Int)) = true then srcEntry_j6 F code c7_33 c7_42 [] v10.2.L v10.2.I (0 : Int) (12 : Int) else srcEntry_j6 F code c7_33 c7_42 [] v10.2.L v10.2.I (0 : Int) end_ else srcEntry_j6 F code c7_33 c7_42 [] c0_0 c0_1 (0 : Int) end_
def srcEntry_j1 (F : YH → Str → Int → Option ((List YB) × YH)) (code : Str) (end_ : Int) (c0_0 : (List Int)) (c0_1 : Int) (c7_3 : (List (List Str))) : Option ((List YB) × YH) := if (decide ((4 : Int) < (code.length : Int))) = true then (srcNext (⟨c0_0, c0_1⟩ : YH) (3 : Int)).bind fun v => if (bif (decide ((4 : Int) < (code.length : Int))) then (v.1 == (1 : Int)) else false) = true then srcEntry_j2 F code end_ v [] true else srcEntry_j2 F code end_ v c7_3 false else if (bif (decide ((4 : Int) < (code.length : Int))) then false else false) = true then srcEntry_j5 F code end_ c0_0 c0_1 [] true else srcEntry_j5 F code end_ c0_0 c0_1 c7_3 false
def srcEntry_F (F : YH → Str → Int → Option ((List YB) × YH)) (s : YH) (code : Str) (end_ : Int) : Option ((List YB) × YH) := if (decide ((2 : Int) < (code.length : Int))) = true then (srcTerms s).bind fun v12 => srcEntry_j1 F code end_ v12.2.L v12.2.I v12.1 else srcEntry_j1 F code end_ s.L s.I []
def srcEntry_n : Nat → YH → Str → Int → Option ((List YB) × YH)
 | 0 => fun _ _ _ => none
 | n + 1 => srcEntry_F (srcEntry_n n)
def srcEntry (s : YH) (code : Str) (end_ : Int) : Option ((List YB) × YH) := srcEntry_n 5 s code end_
def srcEntryR_j4 (out2 : (List YB)) (c0_03 : (List Int)) (c0_13 : Int) : Option ((List YB) × YH) := some (out2, (⟨c0_03, c0_13⟩ : YH))
def srcEntryR_b1 (code : Str) (c7_32 : (List (List Str))) (c7_4 : Bool) (c7_1 : Int) (c7_2 : Int) (v2 : Int × YH) : (Int × (List YB) × (List Int) × Int) → Option ((Int × (List YB) × (List Int) × Int) ⊕ ((List YB) × (List Int) × Int))
 | (i, out3, c0_04, c0_14) => if (decide (i ≤ v2.1)) = true then if (code.length + ([48] : Str).length ≤ 9223372036854775807) then if ((code ++ ([48] : Str)).length + (bytesI [(IntKind.u8.wrap (IntKind.i64.wrap ((48 : Int) + i)))]).length ≤ 9223372036854775807) then (srcEntry (⟨c0_04, c0_14⟩ : YH) ((code ++ ([48] : Str)) ++ (bytesI [(IntKind.u8.wrap (IntKind.i64.wrap ((48 : Int) + i)))])) c7_2).bind fun v4 => if (out3.length + v4.1.length ≤ 137438953472) then some (.inl ((IntKind.i64.wrap (i + (1 : Int))), (out3 ++ v4.1), v4.2.L, v4.2.I)) else none else none else none else some (.inr (out3, c0_04, c0_14))
def srcEntryR_j3 (code : Str) (c7_32 : (List (List Str))) (c7_4 : Bool) (out : (List YB)) (c0_02 : (List Int)) (c0_12 : Int) (c7_1 : Int) (c7_2 : Int) : Option ((List YB) × YH) := if (out.length + [(⟨code, c7_1, c7_2, c7_32, c7_4⟩ : YB)].length ≤ 137438953472) then if ((code.length : Int) == (8 : Int)) = true then some ((out ++ [(⟨code, c7_1, c7_2, c7_32, c7_4⟩ : YB)]), (⟨c0_02, c0_12⟩ : YH)) else (srcNext (⟨c0_02, c0_12⟩ : YH) (4 : Int)).bind fun v2 => (loopO (srcEntryR_b1 code c7_32 c7_4 c7_1 c7_2 v2) ((1 : Int), (out ++ [(⟨code, c7_1, c7_2, c7_32, c7_4⟩ : YB)]), v2.2.L, v2.2.I)).bind fun e => match e with
 | (out5, c0_06, c0_16) => srcEntryR_j4 out5 c0_06 c0_16 else none
def srcEntryR_j2 (code : Str) (end_ : Int) (v : Int × YH) (c7_32 : (List (List Str))) (c7_4 : Bool) : Option ((List YB) × YH) := if (bif (decide ((2 : Int) < (code.length : Int))) then (decide ((12 : Int) < end_)) else false) = true then (srcNext v.2 (6 : Int)).bind fun v5 => if (v5.1 == (1 : Int)) = true then (srcTerms v5.2).bind fun v6 => if (0 + [(⟨code, (0 : Int), (10 : Int), v6.1, false⟩ : YB)].length ≤ 137438953472) then srcEntryR_j3 code c7_32 c7_4 [(⟨code, (0 : Int), (10 : Int), v6.1, false⟩ : YB)] v6.2.L v6.2.I (10 : Int) end_ else none else if (v5.1 == (2 : Int)) = true then srcEntryR_j3 code c7_32 c7_4 [] v5.2.L v5.2.I (0 : Int) (12 : Int) else srcEntryR_j3 code c7_32 c7_4 [] v5.2.L v5.2.I (0 : Int) end_ else srcEntryR_j3 code c7_32 c7_4 [] v.2.L v.2.I (0 : Int) end_
def srcEntryR_j7 (out7 : (List YB)) (c0_08 : (List Int)) (c0_18 : Int) : Option ((List YB) × YH) := some (out7, (⟨c0_08, c0_18⟩ : YH))
def srcEntryR_b2 (code : Str) (c7_33 : (List (List Str))) (c7_42 : Bool) (c7_12 : Int) (c7_22 : Int) (v7 : Int × YH) : (Int × (List YB) × (List Int) × Int) → Option ((Int × (List YB) × (List Int) × Int) ⊕ ((List YB) × (List Int) × Int))
 | (i3, out8, c0_09, c0_19) => if (decide (i3 ≤ v7.1)) = true then if (code.length + ([48] : Str).length ≤ 9223372036854775807) then if ((code ++ ([48] : Str)).length + (bytesI [(IntKind.u8.wrap (IntKind.i64.wrap ((48 : Int) + i3)))]).length ≤ 9223372036854775807) then (srcEntry (⟨c0_09, c0_19⟩ : YH) ((code ++ ([48] : Str)) ++ (bytesI [(IntKind.u8.wrap (IntKind.i64.wrap ((48 : Int) + i3)))])) c7_22).bind fun v9 => if (out8.length + v9.1.length ≤ 137438953472) then some (.inl ((IntKind.i64.wrap (i3 + (1 : Int))), (out8 ++ v9.1), v9.2.L, v9.2.I)) else none else none else none else some (.inr (out8, c0_09, c0_19))
def srcEntryR_j6 (code : Str) (c7_33 : (List (List Str))) (c7_42 : Bool) (out6 : (List YB)) (c0_07 : (List Int)) (c0_17 : Int) (c7_12 : Int) (c7_22 : Int) : Option ((List YB) × YH) := if (out6.length + [(⟨code, c7_12, c7_22, c7_33, c7_42⟩ : YB)].length ≤ 137438953472) then if ((code.length : Int) == (8 : Int)) = true then some ((out6 ++ [(⟨code, c7_12, c7_22, c7_33, c7_42⟩ : YB)]), (⟨c0_07, c0_17⟩ : YH)) else (srcNext (⟨c0_07, c0_17⟩ : YH) (4 : Int)).bind fun v7 => (loopO (srcEntryR_b2 code c7_33 c7_42 c7_12 c7_22 v7) ((1 : Int), (out6 ++ [(⟨code, c7_12, c7_22, c7_33, c7_42⟩ : YB)]), v7.2.L, v7.2.I)).bind fun e => match e with
 | (out10, c0_011, c0_111) => srcEntryR_j7 out10 c0_011 c0_111 else none
def srcEntryR_j5 (code : Str) (end_ : Int) (c0_0 : (List Int)) (c0_1 : Int) (c7_33 : (List (List Str))) (c7_42 : Bool) : Option ((List YB) × YH) := if (bif (decide ((2 : Int) < (code.length : Int))) then (decide ((12 : Int) < end_)) else false) = true then (srcNext (⟨c0_0, c0_1⟩ : YH) (6 : Int)).bind fun v10 => if (v10.1 == (1 : Int)) = true then (srcTerms v10.2).bind fun v11 => if (0 + [(⟨code, (0 : Int), (10 : Int), v11.1, false⟩ : YB)].length ≤ 137438953472) then srcEntryR_j6 code c7_33 c7_42 [(⟨code, (0 : Int), (10 : Int), v11.1, false⟩ : YB)] v11.2.L v11.2.I (10 : Int) end_ else none else if (v10.1 == (2 : Int)) = true then srcEntryR_j6 code c7_33 c7_42 [] v10.2.L v10.2.I (0 : Int) (12 : Int) else srcEntryR_j6 code c7_33 c7_42 [] v10.2.L v10.2.I (0 : Int) end_ else srcEntryR_j6 code c7_33 c7_42 [] c0_0 c0_1 (0 : Int) end_
def srcEntryR_j1 (code : Str) (end_ : Int) (c0_0 : (List Int)) (c0_1 : Int) (c7_3 : (List (List Str))) : Option ((List YB) × YH) := if (decide ((4 : Int) < (code.length : Int))) = true then (srcNext (⟨c0_0, c0_1⟩ : YH) (3 : Int)).bind fun v => if (bif (decide ((4 : Int) < (code.length : Int))) then (v.1 == (1 : Int)) else false) = true then srcEntryR_j2 code end_ v [] true else srcEntryR_j2 code end_ v c7_3 false else if (bif (decide ((4 : Int) < (code.length : Int))) then false else false) = true then srcEntryR_j5 code end_ c0_0 c0_1 [] true else srcEntryR_j5 code end_ c0_0 c0_1 c7_3 false
def srcEntryR (s : YH) (code : Str) (end_ : Int) : Option ((List YB) × YH) := if (decide ((2 : Int) < (code.length : Int))) = true then (srcTerms s).bind fun v12 => srcEntryR_j1 code end_ v12.2.L v12.2.I v12.1 else srcEntryR_j1 code end_ s.L s.I []
def madeNom_j1 (c10_0 : (List Int)) (c10_1 : Int) (c4_1 : (List YT)) : Option (YE) := (srcEntryR (⟨c10_0, c10_1⟩ : YH) ([57, 52] : Str) (36525 : Int)).bind fun v3 => (srcEntry v3.2 ([57, 53] : Str) (36525 : Int)).bind fun v4 => if (v3.1.length + v4.1.length ≤ 137438953472) then some (⟨(v3.1 ++ v4.1), c4_1⟩ : YE) else none
def madeNom_j2 (n12 : Int) (x5 : Str) (v14 : (List Str) × YH) (c10_07 : (List Int)) (c10_17 : Int) (c4_15 : (List YT)) (c6_23 : Str) : Option ((Int × (List Int) × Int × (List YT)) ⊕ ((List Int) × Int × (List YT))) := if (c4_15.length + [(⟨x5, v14.1, c6_23⟩ : YT)].length ≤ 137438953472) then some (.inl ((IntKind.i64.wrap (n12 - (1 : Int))), c10_07, c10_17, (c4_15 ++ [(⟨x5, v14.1, c6_23⟩ : YT)]))) else none
def madeNom_b1  : (Int × (List Int) × Int × (List YT)) → Option ((Int × (List Int) × Int × (List YT)) ⊕ ((List Int) × Int × (List YT)))
 | (n12, c10_04, c10_14, c4_12) => if (decide ((0 : Int) < n12)) = true then (srcNext (⟨c10_04, c10_14⟩ : YH) (5 : Int)).bind fun v13 => if (0 ≤ v13.1) then ([([57, 52] : Str), ([57, 53] : Str), ([57, 52, 48, 49] : Str), ([57, 52, 48, 50] : Str), ([57, 52, 48, 49, 48, 49] : Str)][v13.1.toNat]?).bind fun x5 => (srcWords v13.2 (2 : Int)).bind fun v14 => (srcNext v14.2 (2 : Int)).bind fun v15 => if (v15.1 == (1 : Int)) = true then (srcNext v15.2 (3 : Int)).bind fun v16 => if (0 ≤ v16.1) then ([([57, 52, 48, 49] : Str), ([57, 52, 48, 50] : Str), ([57, 53, 48, 49] : Str)][v16.1.toNat]?).bind fun x6 => madeNom_j2 n12 x5 v14 v16.2.L v16.2.I c4_12 x6 else none else madeNom_j2 n12 x5 v14 v15.2.L v15.2.I c4_12 [] else none else some (.inr (c10_04, c10_14, c4_12))
def madeNom (l : (List Int)) : Option (YE) := (madeCut l (300 : Int)).bind fun v => (srcNext (⟨v, 0⟩ : YH) (4 : Int)).bind fun v2 => (loopO (madeNom_b1) (v2.1, v2.2.L, v2.2.I, [])).bind fun e => match e with
 | (c10_06, c10_16, c4_14) => madeNom_j1 c10_06 c10_16 c4_14
end Go.C
end zPa
noncomputable section zPb
set_option linter.unusedVariables false
namespace Go.C
open Go.V
def isWord_j1  : Option (Bool) := some true
def isWord_b1 (s : Str) : (Nat) → Option ((Nat) ⊕ ((Bool) ⊕ (Unit)))
 | pos => if pos < s.length then if (bif (decide ((runeI s pos) < (97 : Int))) then true else (decide ((122 : Int) < (runeI s pos)))) = true then some (.inr (.inl false)) else some (.inl (pos + runeW s pos)) else some (.inr (.inr ()))
def isWord (s : Str) : Option (Bool) := if (bif (decide ((s.length : Int) < (1 : Int))) then true else (decide ((12 : Int) < (s.length : Int)))) = true then some false else (loopO (isWord_b1 s) 0).bind fun e => match e with
 | (.inl rv) => some rv
 | (.inr ()) => isWord_j1
def validWords_j1  : Option (Bool) := some true
def validWords_b1 (l : (List Str)) : (Int) → Option ((Int) ⊕ ((Bool) ⊕ (Unit)))
 | t10 => if (decide (t10 < (l.length : Int))) = true then if (0 ≤ t10) then (l[t10.toNat]?).bind fun x2 => (isWord x2).bind fun v2 => if (((!(!v2)) && (decide ((0 : Int) < t10))) = true → (0 ≤ (IntKind.i64.wrap (t10 - (1 : Int))) ∧ (IntKind.i64.wrap (t10 - (1 : Int))) < (l.length : Int))) then if (bif (!v2) then true else (bif (decide ((0 : Int) < t10)) then (Op.bytesLess x2 (l.getD (IntKind.i64.wrap (t10 - (1 : Int))).toNat default) || x2 == (l.getD (IntKind.i64.wrap (t10 - (1 : Int))).toNat default)) else false)) = true then some (.inr (.inl false)) else some (.inl (IntKind.i64.wrap (t10 + (1 : Int)))) else none else none else some (.inr (.inr ()))
def validWords (l : (List Str)) : Option (Bool) := if (decide ((8 : Int) < (l.length : Int))) = true then some false else (loopO (validWords_b1 l) (0 : Int)).bind fun e => match e with
 | (.inl rv) => some rv
 | (.inr ()) => validWords_j1
def isNaNS (x : Str) : Option (Bool) := some (!(x == x))
def cmpStr (x : Str) (y : Str) : Option (Int) := (isNaNS x).bind fun v => (isNaNS y).bind fun v2 => if v = true then if v2 = true then some (0 : Int) else some (-1 : Int) else if v2 = true then some (1 : Int) else if (Op.bytesLess x y) = true then some (-1 : Int) else if (!(Op.bytesLess x y || x == y)) = true then some (1 : Int) else some (0 : Int)
def isNaN (x : Int) : Option (Bool) := some (x != x)
def cmpInt (x : Int) (y : Int) : Option (Int) := (isNaN x).bind fun v => (isNaN y).bind fun v2 => if v = true then if v2 = true then some (0 : Int) else some (-1 : Int) else if v2 = true then some (1 : Int) else if (decide (x < y)) = true then some (-1 : Int) else if (decide (y < x)) = true then some (1 : Int) else some (0 : Int)
def versionOf (e1 : YB) : Option (YA1) := some (⟨e1.Code, e1.From⟩ : YA1)
def versionCmp (v : YA1) (w1 : YA1) : Option (Int) := if ((v.code == w1.code) && (v.from_ == w1.from_)) = true then some (0 : Int) else if (!(v.code == w1.code)) = true then (cmpStr v.code w1.code).bind fun v2 => some v2 else (cmpInt v.from_ w1.from_).bind fun v3 => some v3
def nomLevel_j1  : Option (Int) := some (0 : Int)
def nomLevel (code : Str) : Option (Int) := (if ((code.length : Int) == (2 : Int)) = true then trimS code ([48, 49, 50, 51, 52, 53, 54, 55, 56, 57] : Str) else some default).bind fun v => if (bif ((code.length : Int) == (2 : Int)) then (v == ([] : Str)) else false) = true then some (2 : Int) else (if ((code.length : Int) == (4 : Int)) = true then trimS code ([48, 49, 50, 51, 52, 53, 54, 55, 56, 57] : Str) else some default).bind fun v2 => if (bif ((code.length : Int) == (4 : Int)) then (v2 == ([] : Str)) else false) = true then some (4 : Int) else (if ((code.length : Int) == (6 : Int)) = true then trimS code ([48, 49, 50, 51, 52, 53, 54, 55, 56, 57] : Str) else some default).bind fun v3 => if (bif ((code.length : Int) == (6 : Int)) then (v3 == ([] : Str)) else false) = true then some (6 : Int) else (if ((code.length : Int) == (8 : Int)) = true then trimS code ([48, 49, 50, 51, 52, 53, 54, 55, 56, 57] : Str) else some default).bind fun v4 => if (bif ((code.length : Int) == (8 : Int)) then (v4 == ([] : Str)) else false) = true then some (8 : Int) else nomLevel_j1
def nomDescribed (l : (List Str)) : Option (Bool) := (if (decide ((0 : Int) < (l.length : Int))) = true then validWords l else some default).bind fun v => some (bif (decide ((0 : Int) < (l.length : Int))) then v else false)
def validateEntry_j2 (wrong : Bool) : Option (Int) := if wrong = true then some (1 : Int) else some (0 : Int)
def validateEntry_j1 (e1 : YB) (v : Int) : Option (Int) := if (v == (2 : Int)) = true then validateEntry_j2 (bif (decide ((0 : Int) < (e1.Terms.length : Int))) then true else e1.Other) else if (v == (4 : Int)) = true then validateEntry_j2 (bif (!(decide ((0 : Int) < (e1.Terms.length : Int)))) then true else e1.Other) else validateEntry_j2 ((decide ((0 : Int) < (e1.Terms.length : Int))) == e1.Other)
def validateEntry_b1 (e1 : YB) (v : Int) : (Int) → Option ((Int) ⊕ ((Int) ⊕ (Unit)))
 | t38 => if (decide (t38 < (e1.Terms.length : Int))) = true then if (0 ≤ t38) then (e1.Terms[t38.toNat]?).bind fun x2 => (nomDescribed x2).bind fun v3 => if (!v3) = true then some (.inr (.inl (1 : Int))) else some (.inl (IntKind.i64.wrap (t38 + (1 : Int)))) else none else some (.inr (.inr ()))
def validateEntry (e1 : YB) : Option (Int) := (nomLevel e1.Code).bind fun v => if (v == (0 : Int)) = true then some (1 : Int) else if (bif (bif (decide (e1.From < (0 : Int))) then true else (decide (e1.To ≤ e1.From))) then true else (decide ((36525 : Int) < e1.To))) = true then some (2 : Int) else if (decide ((6 : Int) < (e1.Terms.length : Int))) = true then some (8 : Int) else (loopO (validateEntry_b1 e1 v) (0 : Int)).bind fun e => match e with
 | (.inl rv) => some rv
 | (.inr ()) => validateEntry_j1 e1 v
def validateNote (n1 : YT) : Option (Int) := (nomLevel n1.Scope).bind fun v => (if (!(v == (0 : Int))) = true then nomDescribed n1.Words else some default).bind fun v2 => if (bif (v == (0 : Int)) then true else (!v2)) = true then some (1 : Int) else (if (!(n1.Target == ([] : Str))) = true then nomLevel n1.Target else some default).bind fun v3 => if (bif (!(n1.Target == ([] : Str))) then (v3 != (4 : Int)) else false) = true then some (1 : Int) else some (0 : Int)
def validateOrder (before : YB) (e1 : YB) : Option (Int) := (versionOf before).bind fun v => (versionOf e1).bind fun v2 => (versionCmp v v2).bind fun v3 => if (decide ((0 : Int) ≤ v3)) = true then some (9 : Int) else if (bif (before.Code == e1.Code) then (decide (e1.From < before.To)) else false) = true then some (1 : Int) else some (0 : Int)
def hasParent_j1 (e1 : YB) (day : Int) : Option (Bool) := some (decide (e1.To ≤ day))
def hasParent_j2 (b : YE) (e1 : YB) (t25 : Int) (day6 : Int) : Option ((Int × Int) ⊕ (Int)) := some (.inl ((IntKind.i64.wrap (t25 + (1 : Int))), day6))
def hasParent_b1 (b : YE) (e1 : YB) : (Int × Int) → Option ((Int × Int) ⊕ (Int))
 | (t25, day2) => if (decide (t25 < (b.Entries.length : Int))) = true then if (0 ≤ t25) then (b.Entries[t25.toNat]?).bind fun x2 => if (bif (bif (x2.Code == ((e1.Code.take (IntKind.i64.wrap ((e1.Code.length : Int) - (2 : Int))).toNat).drop (0 : Int).toNat)) then (decide (x2.From ≤ day2)) else false) then (decide (day2 < x2.To)) else false) = true then hasParent_j2 b e1 t25 x2.To else hasParent_j2 b e1 t25 day2 else none else some (.inr day2)
def hasParent (b : YE) (e1 : YB) : Option (Bool) := if ((e1.Code.length : Int) == (2 : Int)) = true then some true else if (0 ≤ (0 : Int) ∧ (0 : Int) ≤ (IntKind.i64.wrap ((e1.Code.length : Int) - (2 : Int))) ∧ (IntKind.i64.wrap ((e1.Code.length : Int) - (2 : Int))) ≤ (e1.Code.length : Int)) then (loopO (hasParent_b1 b e1) ((0 : Int), e1.From)).bind fun e => match e with
 | day5 => hasParent_j1 e1 day5 else none
def nomValidate_j3  : Option (Int) := some (0 : Int)
def nomValidate_b1 (b : YE) : (Int) → Option ((Int) ⊕ ((Int) ⊕ (Unit)))
 | t64 => if (decide (t64 < (b.Notes.length : Int))) = true then if (0 ≤ t64) then (b.Notes[t64.toNat]?).bind fun x2 => (validateNote x2).bind fun v2 => if (v2 != (0 : Int)) = true then some (.inr (.inl v2)) else some (.inl (IntKind.i64.wrap (t64 + (1 : Int)))) else none else some (.inr (.inr ()))
def nomValidate_j2 (b : YE) : Option (Int) := (loopO (nomValidate_b1 b) (0 : Int)).bind fun e => match e with
 | (.inl rv) => some rv
 | (.inr ()) => nomValidate_j3
def nomValidate_b2 (b : YE) : (Int) → Option ((Int) ⊕ ((Int) ⊕ (Unit)))
 | t52 => if (decide (t52 < (b.Entries.length : Int))) = true then if (0 ≤ t52) then (b.Entries[t52.toNat]?).bind fun x4 => (hasParent b x4).bind fun v4 => if (!v4) = true then some (.inr (.inl (6 : Int))) else some (.inl (IntKind.i64.wrap (t52 + (1 : Int)))) else none else some (.inr (.inr ()))
def nomValidate_j1 (b : YE) : Option (Int) := (loopO (nomValidate_b2 b) (0 : Int)).bind fun e => match e with
 | (.inl rv) => some rv
 | (.inr ()) => nomValidate_j2 b
def nomValidate_j4 (b : YE) (t25 : Int) : Option ((Int) ⊕ ((Int) ⊕ (Unit))) := some (.inl (IntKind.i64.wrap (t25 + (1 : Int))))
def nomValidate_b3 (b : YE) : (Int) → Option ((Int) ⊕ ((Int) ⊕ (Unit)))
 | t25 => if (decide (t25 < (b.Entries.length : Int))) = true then if (0 ≤ t25) then (b.Entries[t25.toNat]?).bind fun x7 => (validateEntry x7).bind fun v7 => if (v7 != (0 : Int)) = true then some (.inr (.inl v7)) else if (t25 == (0 : Int)) = true then nomValidate_j4 b t25 else if (0 ≤ (IntKind.i64.wrap (t25 - (1 : Int)))) then (b.Entries[(IntKind.i64.wrap (t25 - (1 : Int))).toNat]?).bind fun x8 => (validateOrder x8 x7).bind fun v8 => if (v8 != (0 : Int)) = true then some (.inr (.inl v8)) else nomValidate_j4 b t25 else none else none else some (.inr (.inr ()))
def nomValidate (b : YE) : Option (Int) := if (bif (decide ((300 : Int) < (b.Entries.length : Int))) then true else (decide ((100 : Int) < (b.Notes.length : Int)))) = true then some (8 : Int) else (loopO (nomValidate_b3 b) (0 : Int)).bind fun e => match e with
 | (.inl rv) => some rv
 | (.inr ()) => nomValidate_j1 b
def refWord_j1 (s : Str) : Option (Bool) := some (bif (decide ((1 : Int) ≤ (s.length : Int))) then (decide ((s.length : Int) ≤ (12 : Int))) else false)
def refWord_b1 (s : Str) : (Int) → Option ((Int) ⊕ ((Bool) ⊕ (Unit)))
 | i => if (decide (i < (s.length : Int))) = true then if (0 ≤ i ∧ i < (s.length : Int)) then if (!(decide (((s.getD i.toNat 0).toNat : Int) < (97 : Int)))) = true → (0 ≤ i ∧ i < (s.length : Int)) then if (bif (decide (((s.getD i.toNat 0).toNat : Int) < (97 : Int))) then true else (decide ((122 : Int) < ((s.getD i.toNat 0).toNat : Int)))) = true then some (.inr (.inl false)) else some (.inl (IntKind.i64.wrap (i + (1 : Int)))) else none else none else some (.inr (.inr ()))
def refWord (s : Str) : Option (Bool) := (loopO (refWord_b1 s) (0 : Int)).bind fun e => match e with
 | (.inl rv) => some rv
 | (.inr ()) => refWord_j1 s
def refWords_j1 (l : (List Str)) : Option (Bool) := some (decide ((l.length : Int) ≤ (8 : Int)))
def refWords_b1 (l : (List Str)) : (Int) → Option ((Int) ⊕ ((Bool) ⊕ (Unit)))
 | i => if (decide (i < (l.length : Int))) = true then if (0 ≤ i) then (l[i.toNat]?).bind fun x2 => (refWord x2).bind fun v2 => if (((!(!v2)) && (decide ((0 : Int) < i))) = true → (0 ≤ (IntKind.i64.wrap (i - (1 : Int))) ∧ (IntKind.i64.wrap (i - (1 : Int))) < (l.length : Int))) then if (((!(!v2)) && (decide ((0 : Int) < i))) = true → (0 ≤ i ∧ i < (l.length : Int))) then if (bif (!v2) then true else (bif (decide ((0 : Int) < i)) then (!Op.bytesLess (l.getD (IntKind.i64.wrap (i - (1 : Int))).toNat default) (l.getD i.toNat default)) else false)) = true then some (.inr (.inl false)) else some (.inl (IntKind.i64.wrap (i + (1 : Int)))) else none else none else none else some (.inr (.inr ()))
def refWords (l : (List Str)) : Option (Bool) := (loopO (refWords_b1 l) (0 : Int)).bind fun e => match e with
 | (.inl rv) => some rv
 | (.inr ()) => refWords_j1 l
def refLevel_j1 (s : Str) : Option (Int) := if (bif (decide ((8 : Int) < (s.length : Int))) then true else (((s.length : Int).tmod (2 : Int)) == (1 : Int))) = true then some (0 : Int) else some (s.length : Int)
def refLevel_b1 (s : Str) : (Int) → Option ((Int) ⊕ ((Int) ⊕ (Unit)))
 | i => if (decide (i < (s.length : Int))) = true then if (0 ≤ i ∧ i < (s.length : Int)) then if (!(decide (((s.getD i.toNat 0).toNat : Int) < (48 : Int)))) = true → (0 ≤ i ∧ i < (s.length : Int)) then if (bif (decide (((s.getD i.toNat 0).toNat : Int) < (48 : Int))) then true else (decide ((57 : Int) < ((s.getD i.toNat 0).toNat : Int)))) = true then some (.inr (.inl (0 : Int))) else some (.inl (IntKind.i64.wrap (i + (1 : Int)))) else none else none else some (.inr (.inr ()))
def refLevel (s : Str) : Option (Int) := (loopO (refLevel_b1 s) (0 : Int)).bind fun e => match e with
 | (.inl rv) => some rv
 | (.inr ()) => refLevel_j1 s
def refOne_j2  : Option (Int) := some (0 : Int)
def refOne_j1 (x : YB) : Option (Int) := (refLevel x.Code).bind fun v2 => if (v2 == (2 : Int)) = true then if (bif (decide ((0 : Int) < (x.Terms.length : Int))) then true else x.Other) = true then some (1 : Int) else refOne_j2 else if (v2 == (4 : Int)) = true then if (bif (!(decide ((0 : Int) < (x.Terms.length : Int)))) then true else x.Other) = true then some (1 : Int) else refOne_j2 else if ((decide ((0 : Int) < (x.Terms.length : Int))) == x.Other) = true then some (1 : Int) else refOne_j2
def refOne_b1 (x : YB) : (Int) → Option ((Int) ⊕ ((Int) ⊕ (Unit)))
 | i => if (decide (i < (x.Terms.length : Int))) = true then if (0 ≤ i) then (x.Terms[i.toNat]?).bind fun x3 => (refWords x3).bind fun v4 => if ((!(!v4)) = true → (0 ≤ i ∧ i < (x.Terms.length : Int))) then if (bif (!v4) then true else (((x.Terms.getD i.toNat default).length : Int) == (0 : Int))) = true then some (.inr (.inl (1 : Int))) else some (.inl (IntKind.i64.wrap (i + (1 : Int)))) else none else none else some (.inr (.inr ()))
def refOne (x : YB) : Option (Int) := (refLevel x.Code).bind fun v => if (v == (0 : Int)) = true then some (1 : Int) else if (bif (bif (decide (x.From < (0 : Int))) then true else (decide (x.To ≤ x.From))) then true else (decide ((36525 : Int) < x.To))) = true then some (2 : Int) else if (decide ((6 : Int) < (x.Terms.length : Int))) = true then some (8 : Int) else (loopO (refOne_b1 x) (0 : Int)).bind fun e => match e with
 | (.inl rv) => some rv
 | (.inr ()) => refOne_j1 x
def refNote (x : YT) : Option (Bool) := (refLevel x.Scope).bind fun v => (if (decide ((0 : Int) < v)) = true then refWords x.Words else some default).bind fun v2 => (if ((bif (bif (decide ((0 : Int) < v)) then v2 else false) then (decide ((0 : Int) < (x.Words.length : Int))) else false) && (!(x.Target == ([] : Str)))) = true then refLevel x.Target else some default).bind fun v3 => some (bif (bif (bif (decide ((0 : Int) < v)) then v2 else false) then (decide ((0 : Int) < (x.Words.length : Int))) else false) then (bif (x.Target == ([] : Str)) then true else (v3 == (4 : Int))) else false)
def refCovered_j1 (to_ : Int) (from_2 : Int) : Option (Bool) := some (decide (to_ ≤ from_2))
def refCovered_j2 (b : YE) (code : Str) (to_ : Int) (i : Int) (from_7 : Int) : Option ((Int × Int) ⊕ (Int)) := some (.inl ((IntKind.i64.wrap (i + (1 : Int))), from_7))
def refCovered_b1 (b : YE) (code : Str) (to_ : Int) : (Int × Int) → Option ((Int × Int) ⊕ (Int))
 | (i, from_3) => if (decide (i < (b.Entries.length : Int))) = true then if (0 ≤ i) then (b.Entries[i.toNat]?).bind fun x2 => if (bif (x2.Code == code) then (decide (x2.From ≤ from_3)) else false) = true then refCovered_j2 b code to_ i (if x2.To > from_3 then x2.To else from_3) else refCovered_j2 b code to_ i from_3 else none else some (.inr from_3)
def refCovered (b : YE) (code : Str) (from_ : Int) (to_ : Int) : Option (Bool) := (loopO (refCovered_b1 b code to_) ((0 : Int), from_)).bind fun e => match e with
 | from_6 => refCovered_j1 to_ from_6
def refBook_j3  : Option (Int) := some (0 : Int)
def refBook_b1 (b : YE) : (Int) → Option ((Int) ⊕ ((Int) ⊕ (Unit)))
 | i => if (decide (i < (b.Notes.length : Int))) = true then if (0 ≤ i) then (b.Notes[i.toNat]?).bind fun x2 => (refNote x2).bind fun v2 => if (!v2) = true then some (.inr (.inl (1 : Int))) else some (.inl (IntKind.i64.wrap (i + (1 : Int)))) else none else some (.inr (.inr ()))
def refBook_j2 (b : YE) : Option (Int) := (loopO (refBook_b1 b) (0 : Int)).bind fun e => match e with
 | (.inl rv) => some rv
 | (.inr ()) => refBook_j3
def refBook_b2 (b : YE) : (Int) → Option ((Int) ⊕ ((Int) ⊕ (Unit)))
 | i3 => if (decide (i3 < (b.Entries.length : Int))) = true then if (0 ≤ i3) then (b.Entries[i3.toNat]?).bind fun x4 => if (decide ((2 : Int) < (x4.Code.length : Int))) = true → (0 ≤ (0 : Int) ∧ (0 : Int) ≤ (IntKind.i64.wrap ((x4.Code.length : Int) - (2 : Int))) ∧ (IntKind.i64.wrap ((x4.Code.length : Int) - (2 : Int))) ≤ (x4.Code.length : Int)) then (if (decide ((2 : Int) < (x4.Code.length : Int))) = true then refCovered b ((x4.Code.take (IntKind.i64.wrap ((x4.Code.length : Int) - (2 : Int))).toNat).drop (0 : Int).toNat) x4.From x4.To else some default).bind fun v4 => if (bif (decide ((2 : Int) < (x4.Code.length : Int))) then (!v4) else false) = true then some (.inr (.inl (6 : Int))) else some (.inl (IntKind.i64.wrap (i3 + (1 : Int)))) else none else none else some (.inr (.inr ()))
def refBook_j1 (b : YE) : Option (Int) := (loopO (refBook_b2 b) (0 : Int)).bind fun e => match e with
 | (.inl rv) => some rv
 | (.inr ()) => refBook_j2 b
def refBook_j4 (b : YE) (i5 : Int) : Option ((Int) ⊕ ((Int) ⊕ (Unit))) := some (.inl (IntKind.i64.wrap (i5 + (1 : Int))))
def refBook_b3 (b : YE) : (Int) → Option ((Int) ⊕ ((Int) ⊕ (Unit)))
 | i5 => if (decide (i5 < (b.Entries.length : Int))) = true then if (0 ≤ i5) then (b.Entries[i5.toNat]?).bind fun x7 => (refOne x7).bind fun v6 => if (v6 != (0 : Int)) = true then some (.inr (.inl v6)) else if (i5 == (0 : Int)) = true then refBook_j4 b i5 else if (0 ≤ (IntKind.i64.wrap (i5 - (1 : Int)))) then (b.Entries[(IntKind.i64.wrap (i5 - (1 : Int))).toNat]?).bind fun x8 => if (bif (Op.bytesLess x7.Code x8.Code) then true else (bif (x7.Code == x8.Code) then (decide (x7.From ≤ x8.From)) else false)) = true then some (.inr (.inl (9 : Int))) else if (bif (x7.Code == x8.Code) then (decide (x7.From < x8.To)) else false) = true then some (.inr (.inl (1 : Int))) else refBook_j4 b i5 else none else none else some (.inr (.inr ()))
def refBook (b : YE) : Option (Int) := if (bif (decide ((300 : Int) < (b.Entries.length : Int))) then true else (decide ((100 : Int) < (b.Notes.length : Int)))) = true then some (8 : Int) else (loopO (refBook_b3 b) (0 : Int)).bind fun e => match e with
 | (.inl rv) => some rv
 | (.inr ()) => refBook_j1 b
end Go.C
end zPb
noncomputable section zPc
set_option linter.unusedVariables false
namespace Go.C
open Go.V
def sIndex_j1  : Option (Int) := some (-1 : Int)
def sIndex_b1 (s : (List Str)) (v : Str) : (Int) → Option ((Int) ⊕ ((Int) ⊕ (Unit)))
 | t8 => if (decide (t8 < (s.length : Int))) = true then if (0 ≤ t8) then (s[t8.toNat]?).bind fun x2 => if (v == x2) = true then some (.inr (.inl t8)) else some (.inl (IntKind.i64.wrap (t8 + (1 : Int)))) else none else some (.inr (.inr ()))
def sIndex (s : (List Str)) (v : Str) : Option (Int) := (loopO (sIndex_b1 s v) (0 : Int)).bind fun e => match e with
 | (.inl rv) => some rv
 | (.inr ()) => sIndex_j1
def sContains (s : (List Str)) (v : Str) : Option (Bool) := (sIndex s v).bind fun v2 => some (decide ((0 : Int) ≤ v2))
def memberIn (s : Str) (a1 : (List Str)) : Option (Bool) := (sContains a1 s).bind fun v => some v
def member (l : (List Str)) : Option ((List Str)) := if (decide ((l.length : Int) ≤ (50 : Int))) = true then some l else none
def subset_j1  : Option (Bool) := some true
def subset_b1 (a : (List Str)) (v : (List Str)) : (Int) → Option ((Int) ⊕ ((Bool) ⊕ (Unit)))
 | t12 => if (decide (t12 < (a.length : Int))) = true then if (0 ≤ t12) then (a[t12.toNat]?).bind fun x2 => (memberIn x2 v).bind fun v3 => if (!v3) = true then some (.inr (.inl false)) else some (.inl (IntKind.i64.wrap (t12 + (1 : Int)))) else none else some (.inr (.inr ()))
def subset (a : (List Str)) (b : (List Str)) : Option (Bool) := (member b).bind fun v => (loopO (subset_b1 a v) (0 : Int)).bind fun e => match e with
 | (.inl rv) => some rv
 | (.inr ()) => subset_j1
def cloneWords_j1 (result : (List (List Str))) : Option ((List (List Str))) := some result
def cloneWords_b1 (l : (List (List Str))) : (Int × (List (List Str))) → Option ((Int × (List (List Str))) ⊕ ((List (List Str))))
 | (t82, result2) => if (decide (t82 < (l.length : Int))) = true then if (0 ≤ t82) then (l[t82.toNat]?).bind fun x3 => (cloneS x3).bind fun v3 => if (result2.length + [v3].length ≤ 137438953472) then some (.inl ((IntKind.i64.wrap (t82 + (1 : Int))), (result2 ++ [v3]))) else none else none else some (.inr result2)
def cloneWords (l : (List (List Str))) : Option ((List (List Str))) := (loopO (cloneWords_b1 l) ((0 : Int), [])).bind fun e => match e with
 | result3 => cloneWords_j1 result3
def nomAt_j1 (l : (List YB)) : Option ((List YB)) := some l
def nomAt_j2 (b : YE) (day : Int) (t112 : Int) (l6 : (List YB)) : Option ((Int × (List YB)) ⊕ ((List YB))) := some (.inl ((IntKind.i64.wrap (t112 + (1 : Int))), l6))
def nomAt_b1 (b : YE) (day : Int) : (Int × (List YB)) → Option ((Int × (List YB)) ⊕ ((List YB)))
 | (t112, l3) => if (decide (t112 < (b.Entries.length : Int))) = true then if (0 ≤ t112) then (b.Entries[t112.toNat]?).bind fun x3 => if (bif (decide (x3.From ≤ day)) then (decide (day < x3.To)) else false) = true then (cloneWords x3.Terms).bind fun v3 => if (l3.length + [(⟨x3.Code, x3.From, x3.To, v3, x3.Other⟩ : YB)].length ≤ 137438953472) then nomAt_j2 b day t112 (l3 ++ [(⟨x3.Code, x3.From, x3.To, v3, x3.Other⟩ : YB)]) else none else nomAt_j2 b day t112 l3 else none else some (.inr l3)
def nomAt (b : YE) (day : Int) : Option ((List YB)) := (loopO (nomAt_b1 b day) ((0 : Int), [])).bind fun e => match e with
 | l5 => nomAt_j1 l5
def nomFind_j1  : Option (YB × Bool) := some ((⟨[], 0, 0, [], false⟩ : YB), false)
def nomFind_b1 (code : Str) (v : (List YB)) : (Int) → Option ((Int) ⊕ ((YB × Bool) ⊕ (Unit)))
 | t14 => if (decide (t14 < (v.length : Int))) = true then if (0 ≤ t14) then (v[t14.toNat]?).bind fun x2 => if (x2.Code == code) = true then some (.inr (.inl (x2, true))) else some (.inl (IntKind.i64.wrap (t14 + (1 : Int)))) else none else some (.inr (.inr ()))
def nomFind (b : YE) (day : Int) (code : Str) : Option (YB × Bool) := (nomAt b day).bind fun v => (loopO (nomFind_b1 code v) (0 : Int)).bind fun e => match e with
 | (.inl rv) => some rv
 | (.inr ()) => nomFind_j1
def nomBelow_j1 (l : (List YB)) : Option ((List YB)) := some l
def nomBelow_j2 (code : Str) (v : (List YB)) (t152 : Int) (l6 : (List YB)) : Option ((Int × (List YB)) ⊕ ((List YB))) := some (.inl ((IntKind.i64.wrap (t152 + (1 : Int))), l6))
def nomBelow_b1 (code : Str) (v : (List YB)) : (Int × (List YB)) → Option ((Int × (List YB)) ⊕ ((List YB)))
 | (t152, l3) => if (decide (t152 < (v.length : Int))) = true then if (0 ≤ t152) then (v[t152.toNat]?).bind fun x3 => if ((!(bif (code == ([] : Str)) then ((x3.Code.length : Int) == (4 : Int)) else false)) && (bif (!(code == ([] : Str))) then (decide ((2 : Int) < (x3.Code.length : Int))) else false)) = true → (0 ≤ (0 : Int) ∧ (0 : Int) ≤ (IntKind.i64.wrap ((x3.Code.length : Int) - (2 : Int))) ∧ (IntKind.i64.wrap ((x3.Code.length : Int) - (2 : Int))) ≤ (x3.Code.length : Int)) then if (bif (bif (code == ([] : Str)) then ((x3.Code.length : Int) == (4 : Int)) else false) then true else (bif (bif (!(code == ([] : Str))) then (decide ((2 : Int) < (x3.Code.length : Int))) else false) then (((x3.Code.take (IntKind.i64.wrap ((x3.Code.length : Int) - (2 : Int))).toNat).drop (0 : Int).toNat) == code) else false)) = true then if (l3.length + [x3].length ≤ 137438953472) then nomBelow_j2 code v t152 (l3 ++ [x3]) else none else nomBelow_j2 code v t152 l3 else none else none else some (.inr l3)
def nomBelow (b : YE) (day : Int) (code : Str) : Option ((List YB)) := (nomAt b day).bind fun v => (loopO (nomBelow_b1 code v) ((0 : Int), [])).bind fun e => match e with
 | l5 => nomBelow_j1 l5
def nomExcluded_j1  : Option (Bool) := some false
def nomExcluded_b1 (b : YE) (code : Str) (words : (List Str)) : (Int) → Option ((Int) ⊕ ((Bool) ⊕ (Unit)))
 | t12 => if (decide (t12 < (b.Notes.length : Int))) = true then if (0 ≤ t12) then (b.Notes[t12.toNat]?).bind fun x2 => (hasPrefixS code x2.Scope).bind fun v3 => (if v3 = true then subset x2.Words words else some default).bind fun v4 => if (bif v3 then v4 else false) = true then some (.inr (.inl true)) else some (.inl (IntKind.i64.wrap (t12 + (1 : Int)))) else none else some (.inr (.inr ()))
def nomExcluded (b : YE) (code : Str) (words : (List Str)) : Option (Bool) := (loopO (nomExcluded_b1 b code words) (0 : Int)).bind fun e => match e with
 | (.inl rv) => some rv
 | (.inr ()) => nomExcluded_j1
def nomAlts_j1 (l : (List (List Str))) : Option ((List (List Str))) := some l
def nomAlts_j2 (b : YE) (e1 : YB) (t14 : Int) (l6 : (List (List Str))) : Option ((Int × (List (List Str))) ⊕ ((List (List Str)))) := some (.inl ((IntKind.i64.wrap (t14 + (1 : Int))), l6))
def nomAlts_b1 (b : YE) (e1 : YB) : (Int × (List (List Str))) → Option ((Int × (List (List Str))) ⊕ ((List (List Str))))
 | (t14, l2) => if (decide (t14 < (b.Notes.length : Int))) = true then if (0 ≤ t14) then (b.Notes[t14.toNat]?).bind fun x2 => if (x2.Target == e1.Code) = true then (cloneS x2.Words).bind fun v3 => if (l2.length + [v3].length ≤ 137438953472) then nomAlts_j2 b e1 t14 (l2 ++ [v3]) else none else nomAlts_j2 b e1 t14 l2 else none else some (.inr l2)
def nomAlts (b : YE) (e1 : YB) : Option ((List (List Str))) := (cloneWords e1.Terms).bind fun v => (loopO (nomAlts_b1 b e1) ((0 : Int), v)).bind fun e => match e with
 | l5 => nomAlts_j1 l5
def nomScore_j1 (score : Int) : Option (Int) := some score
def nomScore_j2 (words : (List Str)) (v2 : (List (List Str))) (t19 : Int) (score6 : Int) : Option ((Int × Int) ⊕ (Int)) := some (.inl ((IntKind.i64.wrap (t19 + (1 : Int))), score6))
def nomScore_b1 (words : (List Str)) (v2 : (List (List Str))) : (Int × Int) → Option ((Int × Int) ⊕ (Int))
 | (t19, score2) => if (decide (t19 < (v2.length : Int))) = true then if (0 ≤ t19) then (v2[t19.toNat]?).bind fun x2 => (if (decide (score2 < (x2.length : Int))) = true then subset x2 words else some default).bind fun v4 => if (bif (decide (score2 < (x2.length : Int))) then v4 else false) = true then nomScore_j2 words v2 t19 (x2.length : Int) else nomScore_j2 words v2 t19 score2 else none else some (.inr score2)
def nomScore (b : YE) (e1 : YB) (words : (List Str)) : Option (Int) := (nomExcluded b e1.Code words).bind fun v => if v = true then some (0 : Int) else (nomAlts b e1).bind fun v2 => (loopO (nomScore_b1 words v2) ((0 : Int), (0 : Int))).bind fun e => match e with
 | score5 => nomScore_j1 score5
end Go.C
end zPc
