/- The table of the types of this translation, for the engine; by program (tb3.py). -/
import Derived.Test.YtcfkiahbipjbmaaGreatDoorProg
import Derived.Test.YtcfkiahbipjbmaaGreatDoorVz
namespace Go.Proofs.YtcfkiahbipjbmaaGreatDoor
open Go.V
def tb : List (Nat × TI) := [(1, ⟨1, .nilFunc, false, [], none, none, 0⟩),
  (2, ⟨1, .int .i64 0, false, [], some .i64, none, 0⟩),
  (3, ⟨1, .int .i64 0, false, [], some .i64, none, 0⟩),
  (4, ⟨1, .bool false, false, [], none, none, 1⟩),
  (5, ⟨1, .int .u8 0, false, [], some .u8, none, 0⟩),
  (6, ⟨1, .int .u8 0, false, [], some .u8, none, 0⟩),
  (7, ⟨4, .agg #[.int .i64 0, .int .i64 0, .bool false, .int .u8 0], true, [(0, 2), (1, 3), (2, 4), (3, 6)], none, none, 0⟩),
  (8, ⟨4, .agg #[.int .i64 0, .int .i64 0, .bool false, .int .u8 0], true, [(0, 2), (1, 3), (2, 4), (3, 6)], none, none, 0⟩),
  (9, ⟨1, .string ⟨⟨[]⟩⟩, false, [], none, none, 2⟩),
  (10, ⟨1, .string ⟨⟨[]⟩⟩, false, [], none, none, 2⟩),
  (11, ⟨1, .string ⟨⟨[]⟩⟩, false, [], none, none, 2⟩),
  (12, ⟨1, .int .u64 0, false, [], some .u64, none, 0⟩),
  (13, ⟨2, .agg #[.string ⟨⟨[]⟩⟩, .int .u64 0], true, [(0, 9), (1, 12)], none, none, 0⟩),
  (14, ⟨2, .agg #[.string ⟨⟨[]⟩⟩, .int .u64 0], true, [(0, 9), (1, 12)], none, none, 0⟩),
  (15, ⟨1, .pointer none, false, [], none, none, 0⟩),
  (16, ⟨1, .pointer none, false, [], none, none, 0⟩),
  (17, ⟨1, .pointer none, false, [], none, none, 0⟩),
  (18, ⟨1, .agg #[.pointer none], true, [(0, 17)], none, none, 0⟩),
  (19, ⟨1, .agg #[.pointer none], true, [(0, 17)], none, none, 0⟩),
  (20, ⟨1, .nilIface, false, [], none, none, 3⟩),
  (21, ⟨1, .int .i32 0, false, [], some .i32, none, 0⟩),
  (22, ⟨1, .slice none 0 0, false, [], none, some 1, 13⟩),
  (23, ⟨1, .slice none 0 0, false, [], none, some 1, 7⟩),
  (24, ⟨1, .nilFunc, false, [], none, none, 0⟩),
  (25, ⟨1, .slice none 0 0, false, [], none, some 2, 48⟩),
  (26, ⟨1, .slice none 0 0, false, [], none, some 2, 50⟩),
  (27, ⟨4, .agg #[.slice none 0 0, .slice none 0 0, .slice none 0 0, .bool false], true, [(0, 22), (1, 25), (2, 26), (3, 4)], none, none, 0⟩),
  (28, ⟨4, .agg #[.slice none 0 0, .slice none 0 0, .slice none 0 0, .bool false], true, [(0, 22), (1, 25), (2, 26), (3, 4)], none, none, 0⟩),
  (29, ⟨1, .nilFunc, false, [], none, none, 0⟩),
  (30, ⟨1, .nilFunc, false, [], none, none, 0⟩),
  (36, ⟨1, .pointer none, false, [], none, none, 0⟩),
  (38, ⟨2, .agg #[.slice none 0 0, .int .i64 0], true, [(0, 23), (1, 3)], none, none, 0⟩),
  (39, ⟨2, .agg #[.slice none 0 0, .int .i64 0], true, [(0, 23), (1, 3)], none, none, 0⟩),
  (40, ⟨1, .nilFunc, false, [], none, none, 0⟩),
  (44, ⟨2, .agg #[.string ⟨⟨[]⟩⟩, .int .i64 0], true, [(0, 9), (1, 3)], none, none, 0⟩),
  (46, ⟨2, .agg #[.slice none 0 0, .int .i64 0], true, [(0, 22), (1, 3)], none, none, 0⟩),
  (50, ⟨1, .nilFunc, false, [], none, none, 0⟩),
  (53, ⟨1, .map none, false, [], none, none, 0⟩),
  (55, ⟨1, .int .i64 0, false, [], some .i64, none, 0⟩),
  (63, ⟨1, .slice none 0 0, false, [], none, some 1, 26⟩),
  (67, ⟨1, .int .u64 0, false, [], some .u64, none, 0⟩),
  (74, ⟨1, .nilFunc, false, [], none, none, 0⟩),
  (80, ⟨1, .int .i64 0, false, [], some .i64, none, 0⟩),
  (89, ⟨1, .int .u32 0, false, [], some .u32, none, 0⟩),
  (91, ⟨1, .int .u64 0, false, [], some .u64, none, 0⟩),
  (97, ⟨1, .nilIface, false, [], none, none, 3⟩),
  (102, ⟨1, .slice none 0 0, false, [], none, some 1, 27⟩),
  (103, ⟨1, .pointer none, false, [], none, none, 0⟩),
  (104, ⟨1, .slice none 0 0, false, [], none, some 1, 9⟩),
  (106, ⟨2, .agg #[.pointer none, .slice none 0 0], true, [(0, 103), (1, 104)], none, none, 0⟩),
  (109, ⟨1, .int .u64 0, false, [], some .u64, none, 0⟩),
  (120, ⟨1, .pointer none, false, [], none, none, 0⟩),
  (129, ⟨1, .int .i64 0, false, [], some .i64, none, 0⟩),
  (164, ⟨4, .agg #[.pointer none, .pointer none, .pointer none, .string ⟨⟨[]⟩⟩], true, [(0, 17), (1, 17), (2, 17), (3, 9)], none, none, 0⟩),
  (165, ⟨0, .agg #[], true, [], none, none, 0⟩),
  (167, ⟨0, .agg #[], true, [(1000000, 165)], none, none, 0⟩),
  (169, ⟨1, .int .u8 0, false, [], some .u8, none, 0⟩),
  (170, ⟨1, .int .u8 0, false, [], some .u8, none, 0⟩),
  (171, ⟨1, .nilFunc, false, [], none, none, 0⟩),
  (172, ⟨1, .int .i32 0, false, [], some .i32, none, 0⟩),
  (173, ⟨1, .int .i32 0, false, [], some .i32, none, 0⟩),
  (175, ⟨11, .agg #[.int .u64 0, .int .u64 0, .int .u32 0, .int .u8 0, .int .u8 0, .int .u8 0, .int .u8 0, .nilFunc, .pointer none, .int .i32 0, .int .i32 0], true, [(0, 12), (1, 12), (2, 89), (3, 169), (4, 5), (5, 5), (6, 170), (7, 171), (8, 120), (9, 172), (10, 173)], none, none, 0⟩)]
theorem tb1 : TIok Tryz.prog 1 ((get tb 1).getD ⟨0, undef, false, [], none, none, 0⟩) := ⟨by kernel_rfl, by kernel_rfl⟩
theorem tb2 : TIok Tryz.prog 2 ((get tb 2).getD ⟨0, undef, false, [], none, none, 0⟩) := ⟨by kernel_rfl, by kernel_rfl⟩
theorem tb3 : TIok Tryz.prog 3 ((get tb 3).getD ⟨0, undef, false, [], none, none, 0⟩) := ⟨by kernel_rfl, by kernel_rfl⟩
theorem tb4 : TIok Tryz.prog 4 ((get tb 4).getD ⟨0, undef, false, [], none, none, 0⟩) := ⟨by kernel_rfl, by kernel_rfl⟩
theorem tb5 : TIok Tryz.prog 5 ((get tb 5).getD ⟨0, undef, false, [], none, none, 0⟩) := ⟨by kernel_rfl, by kernel_rfl⟩
theorem tb6 : TIok Tryz.prog 6 ((get tb 6).getD ⟨0, undef, false, [], none, none, 0⟩) := ⟨by kernel_rfl, by kernel_rfl⟩
theorem tb7 : TIok Tryz.prog 7 ((get tb 7).getD ⟨0, undef, false, [], none, none, 0⟩) := ⟨by kernel_rfl, by kernel_rfl⟩
theorem tb8 : TIok Tryz.prog 8 ((get tb 8).getD ⟨0, undef, false, [], none, none, 0⟩) := ⟨by kernel_rfl, by kernel_rfl⟩
theorem tb9 : TIok Tryz.prog 9 ((get tb 9).getD ⟨0, undef, false, [], none, none, 0⟩) := ⟨by kernel_rfl, by kernel_rfl⟩
theorem tb10 : TIok Tryz.prog 10 ((get tb 10).getD ⟨0, undef, false, [], none, none, 0⟩) := ⟨by kernel_rfl, by kernel_rfl⟩
theorem tb11 : TIok Tryz.prog 11 ((get tb 11).getD ⟨0, undef, false, [], none, none, 0⟩) := ⟨by kernel_rfl, by kernel_rfl⟩
theorem tb12 : TIok Tryz.prog 12 ((get tb 12).getD ⟨0, undef, false, [], none, none, 0⟩) := ⟨by kernel_rfl, by kernel_rfl⟩
theorem tb13 : TIok Tryz.prog 13 ((get tb 13).getD ⟨0, undef, false, [], none, none, 0⟩) := ⟨by kernel_rfl, by kernel_rfl⟩
theorem tb14 : TIok Tryz.prog 14 ((get tb 14).getD ⟨0, undef, false, [], none, none, 0⟩) := ⟨by kernel_rfl, by kernel_rfl⟩
theorem tb15 : TIok Tryz.prog 15 ((get tb 15).getD ⟨0, undef, false, [], none, none, 0⟩) := ⟨by kernel_rfl, by kernel_rfl⟩
theorem tb16 : TIok Tryz.prog 16 ((get tb 16).getD ⟨0, undef, false, [], none, none, 0⟩) := ⟨by kernel_rfl, by kernel_rfl⟩
theorem tb17 : TIok Tryz.prog 17 ((get tb 17).getD ⟨0, undef, false, [], none, none, 0⟩) := ⟨by kernel_rfl, by kernel_rfl⟩
theorem tb18 : TIok Tryz.prog 18 ((get tb 18).getD ⟨0, undef, false, [], none, none, 0⟩) := ⟨by kernel_rfl, by kernel_rfl⟩
theorem tb19 : TIok Tryz.prog 19 ((get tb 19).getD ⟨0, undef, false, [], none, none, 0⟩) := ⟨by kernel_rfl, by kernel_rfl⟩
theorem tb20 : TIok Tryz.prog 20 ((get tb 20).getD ⟨0, undef, false, [], none, none, 0⟩) := ⟨by kernel_rfl, by kernel_rfl⟩
theorem tb21 : TIok Tryz.prog 21 ((get tb 21).getD ⟨0, undef, false, [], none, none, 0⟩) := ⟨by kernel_rfl, by kernel_rfl⟩
theorem tb22 : TIok Tryz.prog 22 ((get tb 22).getD ⟨0, undef, false, [], none, none, 0⟩) := ⟨by kernel_rfl, by kernel_rfl⟩
theorem tb23 : TIok Tryz.prog 23 ((get tb 23).getD ⟨0, undef, false, [], none, none, 0⟩) := ⟨by kernel_rfl, by kernel_rfl⟩
theorem tb24 : TIok Tryz.prog 24 ((get tb 24).getD ⟨0, undef, false, [], none, none, 0⟩) := ⟨by kernel_rfl, by kernel_rfl⟩
theorem tb25 : TIok Tryz.prog 25 ((get tb 25).getD ⟨0, undef, false, [], none, none, 0⟩) := ⟨by kernel_rfl, by kernel_rfl⟩
theorem tb26 : TIok Tryz.prog 26 ((get tb 26).getD ⟨0, undef, false, [], none, none, 0⟩) := ⟨by kernel_rfl, by kernel_rfl⟩
theorem tb27 : TIok Tryz.prog 27 ((get tb 27).getD ⟨0, undef, false, [], none, none, 0⟩) := ⟨by kernel_rfl, by kernel_rfl⟩
theorem tb28 : TIok Tryz.prog 28 ((get tb 28).getD ⟨0, undef, false, [], none, none, 0⟩) := ⟨by kernel_rfl, by kernel_rfl⟩
theorem tb29 : TIok Tryz.prog 29 ((get tb 29).getD ⟨0, undef, false, [], none, none, 0⟩) := ⟨by kernel_rfl, by kernel_rfl⟩
theorem tb30 : TIok Tryz.prog 30 ((get tb 30).getD ⟨0, undef, false, [], none, none, 0⟩) := ⟨by kernel_rfl, by kernel_rfl⟩
theorem tb36 : TIok Tryz.prog 36 ((get tb 36).getD ⟨0, undef, false, [], none, none, 0⟩) := ⟨by kernel_rfl, by kernel_rfl⟩
theorem tb38 : TIok Tryz.prog 38 ((get tb 38).getD ⟨0, undef, false, [], none, none, 0⟩) := ⟨by kernel_rfl, by kernel_rfl⟩
theorem tb39 : TIok Tryz.prog 39 ((get tb 39).getD ⟨0, undef, false, [], none, none, 0⟩) := ⟨by kernel_rfl, by kernel_rfl⟩
theorem tb40 : TIok Tryz.prog 40 ((get tb 40).getD ⟨0, undef, false, [], none, none, 0⟩) := ⟨by kernel_rfl, by kernel_rfl⟩
theorem tb44 : TIok Tryz.prog 44 ((get tb 44).getD ⟨0, undef, false, [], none, none, 0⟩) := ⟨by kernel_rfl, by kernel_rfl⟩
theorem tb46 : TIok Tryz.prog 46 ((get tb 46).getD ⟨0, undef, false, [], none, none, 0⟩) := ⟨by kernel_rfl, by kernel_rfl⟩
theorem tb50 : TIok Tryz.prog 50 ((get tb 50).getD ⟨0, undef, false, [], none, none, 0⟩) := ⟨by kernel_rfl, by kernel_rfl⟩
theorem tb53 : TIok Tryz.prog 53 ((get tb 53).getD ⟨0, undef, false, [], none, none, 0⟩) := ⟨by kernel_rfl, by kernel_rfl⟩
theorem tb55 : TIok Tryz.prog 55 ((get tb 55).getD ⟨0, undef, false, [], none, none, 0⟩) := ⟨by kernel_rfl, by kernel_rfl⟩
theorem tb63 : TIok Tryz.prog 63 ((get tb 63).getD ⟨0, undef, false, [], none, none, 0⟩) := ⟨by kernel_rfl, by kernel_rfl⟩
theorem tb67 : TIok Tryz.prog 67 ((get tb 67).getD ⟨0, undef, false, [], none, none, 0⟩) := ⟨by kernel_rfl, by kernel_rfl⟩
theorem tb74 : TIok Tryz.prog 74 ((get tb 74).getD ⟨0, undef, false, [], none, none, 0⟩) := ⟨by kernel_rfl, by kernel_rfl⟩
theorem tb80 : TIok Tryz.prog 80 ((get tb 80).getD ⟨0, undef, false, [], none, none, 0⟩) := ⟨by kernel_rfl, by kernel_rfl⟩
theorem tb89 : TIok Tryz.prog 89 ((get tb 89).getD ⟨0, undef, false, [], none, none, 0⟩) := ⟨by kernel_rfl, by kernel_rfl⟩
theorem tb91 : TIok Tryz.prog 91 ((get tb 91).getD ⟨0, undef, false, [], none, none, 0⟩) := ⟨by kernel_rfl, by kernel_rfl⟩
theorem tb97 : TIok Tryz.prog 97 ((get tb 97).getD ⟨0, undef, false, [], none, none, 0⟩) := ⟨by kernel_rfl, by kernel_rfl⟩
theorem tb102 : TIok Tryz.prog 102 ((get tb 102).getD ⟨0, undef, false, [], none, none, 0⟩) := ⟨by kernel_rfl, by kernel_rfl⟩
theorem tb103 : TIok Tryz.prog 103 ((get tb 103).getD ⟨0, undef, false, [], none, none, 0⟩) := ⟨by kernel_rfl, by kernel_rfl⟩
theorem tb104 : TIok Tryz.prog 104 ((get tb 104).getD ⟨0, undef, false, [], none, none, 0⟩) := ⟨by kernel_rfl, by kernel_rfl⟩
theorem tb106 : TIok Tryz.prog 106 ((get tb 106).getD ⟨0, undef, false, [], none, none, 0⟩) := ⟨by kernel_rfl, by kernel_rfl⟩
theorem tb109 : TIok Tryz.prog 109 ((get tb 109).getD ⟨0, undef, false, [], none, none, 0⟩) := ⟨by kernel_rfl, by kernel_rfl⟩
theorem tb120 : TIok Tryz.prog 120 ((get tb 120).getD ⟨0, undef, false, [], none, none, 0⟩) := ⟨by kernel_rfl, by kernel_rfl⟩
theorem tb129 : TIok Tryz.prog 129 ((get tb 129).getD ⟨0, undef, false, [], none, none, 0⟩) := ⟨by kernel_rfl, by kernel_rfl⟩
theorem tb164 : TIok Tryz.prog 164 ((get tb 164).getD ⟨0, undef, false, [], none, none, 0⟩) := ⟨by kernel_rfl, by kernel_rfl⟩
theorem tb165 : TIok Tryz.prog 165 ((get tb 165).getD ⟨0, undef, false, [], none, none, 0⟩) := ⟨by kernel_rfl, by kernel_rfl⟩
theorem tb167 : TIok Tryz.prog 167 ((get tb 167).getD ⟨0, undef, false, [], none, none, 0⟩) := ⟨by kernel_rfl, by kernel_rfl⟩
theorem tb169 : TIok Tryz.prog 169 ((get tb 169).getD ⟨0, undef, false, [], none, none, 0⟩) := ⟨by kernel_rfl, by kernel_rfl⟩
theorem tb170 : TIok Tryz.prog 170 ((get tb 170).getD ⟨0, undef, false, [], none, none, 0⟩) := ⟨by kernel_rfl, by kernel_rfl⟩
theorem tb171 : TIok Tryz.prog 171 ((get tb 171).getD ⟨0, undef, false, [], none, none, 0⟩) := ⟨by kernel_rfl, by kernel_rfl⟩
theorem tb172 : TIok Tryz.prog 172 ((get tb 172).getD ⟨0, undef, false, [], none, none, 0⟩) := ⟨by kernel_rfl, by kernel_rfl⟩
theorem tb173 : TIok Tryz.prog 173 ((get tb 173).getD ⟨0, undef, false, [], none, none, 0⟩) := ⟨by kernel_rfl, by kernel_rfl⟩
theorem tb175 : TIok Tryz.prog 175 ((get tb 175).getD ⟨0, undef, false, [], none, none, 0⟩) := ⟨by kernel_rfl, by kernel_rfl⟩
set_option maxRecDepth 100000 in
theorem tbOk : TblOk Tryz.prog tb := ⟨tb1, tb2, tb3, tb4, tb5, tb6, tb7, tb8, tb9, tb10, tb11, tb12, tb13, tb14, tb15, tb16, tb17, tb18, tb19, tb20, tb21, tb22, tb23, tb24, tb25, tb26, tb27, tb28, tb29, tb30, tb36, tb38, tb39, tb40, tb44, tb46, tb50, tb53, tb55, tb63, tb67, tb74, tb80, tb89, tb91, tb97, tb102, tb103, tb104, tb106, tb109, tb120, tb129, tb164, tb165, tb167, tb169, tb170, tb171, tb172, tb173, tb175, trivial⟩
theorem fn4 : HasBody Tryz.prog 4 := hasBody Tryz.func4 (by kernel_rfl) (by kernel_rfl)
theorem fn5 : HasBody Tryz.prog 5 := hasBody Tryz.func5 (by kernel_rfl) (by kernel_rfl)
theorem fn6 : HasBody Tryz.prog 6 := hasBody Tryz.func6 (by kernel_rfl) (by kernel_rfl)
theorem fn7 : HasBody Tryz.prog 7 := hasBody Tryz.func7 (by kernel_rfl) (by kernel_rfl)
theorem fn8 : HasBody Tryz.prog 8 := hasBody Tryz.func8 (by kernel_rfl) (by kernel_rfl)
theorem fn9 : HasBody Tryz.prog 9 := hasBody Tryz.func9 (by kernel_rfl) (by kernel_rfl)
theorem fn10 : HasBody Tryz.prog 10 := hasBody Tryz.func10 (by kernel_rfl) (by kernel_rfl)
theorem fn11 : HasBody Tryz.prog 11 := hasBody Tryz.func11 (by kernel_rfl) (by kernel_rfl)
theorem fn12 : HasBody Tryz.prog 12 := hasBody Tryz.func12 (by kernel_rfl) (by kernel_rfl)
theorem fn13 : HasBody Tryz.prog 13 := hasBody Tryz.func13 (by kernel_rfl) (by kernel_rfl)
theorem fn14 : HasBody Tryz.prog 14 := hasBody Tryz.func14 (by kernel_rfl) (by kernel_rfl)
theorem fn15 : HasBody Tryz.prog 15 := hasBody Tryz.func15 (by kernel_rfl) (by kernel_rfl)
theorem fn16 : HasBody Tryz.prog 16 := hasBody Tryz.func16 (by kernel_rfl) (by kernel_rfl)
theorem fn17 : HasBody Tryz.prog 17 := hasBody Tryz.func17 (by kernel_rfl) (by kernel_rfl)
theorem fn18 : HasBody Tryz.prog 18 := hasBody Tryz.func18 (by kernel_rfl) (by kernel_rfl)
theorem fn19 : HasBody Tryz.prog 19 := hasBody Tryz.func19 (by kernel_rfl) (by kernel_rfl)
theorem fn20 : HasBody Tryz.prog 20 := hasBody Tryz.func20 (by kernel_rfl) (by kernel_rfl)
theorem fn21 : HasBody Tryz.prog 21 := hasBody Tryz.func21 (by kernel_rfl) (by kernel_rfl)
theorem fn22 : HasBody Tryz.prog 22 := hasBody Tryz.func22 (by kernel_rfl) (by kernel_rfl)
theorem fn23 : HasBody Tryz.prog 23 := hasBody Tryz.func23 (by kernel_rfl) (by kernel_rfl)
theorem fn24 : HasBody Tryz.prog 24 := hasBody Tryz.func24 (by kernel_rfl) (by kernel_rfl)
theorem fn25 : HasBody Tryz.prog 25 := hasBody Tryz.func25 (by kernel_rfl) (by kernel_rfl)
theorem fn26 : HasBody Tryz.prog 26 := hasBody Tryz.func26 (by kernel_rfl) (by kernel_rfl)
theorem fn27 : HasBody Tryz.prog 27 := hasBody Tryz.func27 (by kernel_rfl) (by kernel_rfl)
theorem fn28 : HasBody Tryz.prog 28 := hasBody Tryz.func28 (by kernel_rfl) (by kernel_rfl)
theorem fn29 : HasBody Tryz.prog 29 := hasBody Tryz.func29 (by kernel_rfl) (by kernel_rfl)
theorem fn30 : HasBody Tryz.prog 30 := hasBody Tryz.func30 (by kernel_rfl) (by kernel_rfl)
theorem fn31 : HasBody Tryz.prog 31 := hasBody Tryz.func31 (by kernel_rfl) (by kernel_rfl)
theorem fn32 : HasBody Tryz.prog 32 := hasBody Tryz.func32 (by kernel_rfl) (by kernel_rfl)
theorem fn33 : HasBody Tryz.prog 33 := hasBody Tryz.func33 (by kernel_rfl) (by kernel_rfl)
theorem fn34 : HasBody Tryz.prog 34 := hasBody Tryz.func34 (by kernel_rfl) (by kernel_rfl)
theorem fn35 : HasBody Tryz.prog 35 := hasBody Tryz.func35 (by kernel_rfl) (by kernel_rfl)
theorem fn38 : HasBody Tryz.prog 38 := hasBody Tryz.func38 (by kernel_rfl) (by kernel_rfl)
theorem fn39 : HasBody Tryz.prog 39 := hasBody Tryz.func39 (by kernel_rfl) (by kernel_rfl)
theorem fn40 : HasBody Tryz.prog 40 := hasBody Tryz.func40 (by kernel_rfl) (by kernel_rfl)
theorem fn41 : HasBody Tryz.prog 41 := hasBody Tryz.func41 (by kernel_rfl) (by kernel_rfl)
theorem fn42 : HasBody Tryz.prog 42 := hasBody Tryz.func42 (by kernel_rfl) (by kernel_rfl)
theorem fn43 : HasBody Tryz.prog 43 := hasBody Tryz.func43 (by kernel_rfl) (by kernel_rfl)
theorem fn44 : HasBody Tryz.prog 44 := hasBody Tryz.func44 (by kernel_rfl) (by kernel_rfl)
theorem fn45 : HasBody Tryz.prog 45 := hasBody Tryz.func45 (by kernel_rfl) (by kernel_rfl)
theorem fn46 : HasBody Tryz.prog 46 := hasBody Tryz.func46 (by kernel_rfl) (by kernel_rfl)
theorem fn47 : HasBody Tryz.prog 47 := hasBody Tryz.func47 (by kernel_rfl) (by kernel_rfl)
theorem fn48 : HasBody Tryz.prog 48 := hasBody Tryz.func48 (by kernel_rfl) (by kernel_rfl)
theorem fn49 : HasBody Tryz.prog 49 := hasBody Tryz.func49 (by kernel_rfl) (by kernel_rfl)
theorem fn50 : HasBody Tryz.prog 50 := hasBody Tryz.func50 (by kernel_rfl) (by kernel_rfl)
theorem fn51 : HasBody Tryz.prog 51 := hasBody Tryz.func51 (by kernel_rfl) (by kernel_rfl)
theorem fn52 : HasBody Tryz.prog 52 := hasBody Tryz.func52 (by kernel_rfl) (by kernel_rfl)
theorem fn64 : HasBody Tryz.prog 64 := hasBody Tryz.func64 (by kernel_rfl) (by kernel_rfl)
theorem fn67 : HasBody Tryz.prog 67 := hasBody Tryz.func67 (by kernel_rfl) (by kernel_rfl)
theorem fn68 : HasBody Tryz.prog 68 := hasBody Tryz.func68 (by kernel_rfl) (by kernel_rfl)
theorem fn69 : HasBody Tryz.prog 69 := hasBody Tryz.func69 (by kernel_rfl) (by kernel_rfl)
theorem fn70 : HasBody Tryz.prog 70 := hasBody Tryz.func70 (by kernel_rfl) (by kernel_rfl)
theorem fn71 : HasBody Tryz.prog 71 := hasBody Tryz.func71 (by kernel_rfl) (by kernel_rfl)
theorem fn89 : HasBody Tryz.prog 89 := hasBody Tryz.func89 (by kernel_rfl) (by kernel_rfl)
theorem ap22 : ApOk Tryz.prog 22 9 1 := ⟨by kernel_rfl, by kernel_rfl, by decide⟩
theorem ap23 : ApOk Tryz.prog 23 3 1 := ⟨by kernel_rfl, by kernel_rfl, by decide⟩
theorem ap25 : ApOk Tryz.prog 25 44 2 := ⟨by kernel_rfl, by kernel_rfl, by decide⟩
theorem ap26 : ApOk Tryz.prog 26 46 2 := ⟨by kernel_rfl, by kernel_rfl, by decide⟩
theorem by104 : ByOk Tryz.prog 104 := ⟨⟨5, Tryz.underlying104, Tryz.underlying5⟩⟩
theorem apB104 : ApBytes Tryz.prog 104 5 := ⟨by kernel_rfl, by kernel_rfl⟩
theorem mixed : Tryz.prog.follows .mixedOrders = true := by kernel_rfl
end Go.Proofs.YtcfkiahbipjbmaaGreatDoor
