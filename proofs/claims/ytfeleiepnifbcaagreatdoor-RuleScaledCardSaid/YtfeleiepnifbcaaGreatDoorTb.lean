/- The table of the types of this translation, for the engine; by program (tb3.py). -/
import Derived.Test.YtfeleiepnifbcaaGreatDoorProg
import Derived.Test.YtfeleiepnifbcaaGreatDoorVz
namespace Go.Proofs.YtfeleiepnifbcaaGreatDoor
open Go.V
def tb : List (Nat × TI) := [(1, ⟨1, .nilFunc, false, [], none, none, 0⟩),
  (2, ⟨1, .int .i64 0, false, [], some .i64, none, 0⟩),
  (3, ⟨1, .int .i64 0, false, [], some .i64, none, 0⟩),
  (4, ⟨1, .bool false, false, [], none, none, 1⟩),
  (5, ⟨1, .int .u8 0, false, [], some .u8, none, 0⟩),
  (6, ⟨1, .int .u8 0, false, [], some .u8, none, 0⟩),
  (7, ⟨4, .agg #[.int .i64 0, .int .i64 0, .bool false, .int .u8 0], true, [(0, 2), (1, 3), (2, 4), (3, 6)], none, none, 0⟩),
  (8, ⟨4, .agg #[.int .i64 0, .int .i64 0, .bool false, .int .u8 0], true, [(0, 2), (1, 3), (2, 4), (3, 6)], none, none, 0⟩),
  (9, ⟨1, .string ⟨⟨[]⟩⟩, false, [], none, none, 2⟩),
  (10, ⟨1, .string ⟨⟨[]⟩⟩, false, [], none, none, 2⟩),
  (11, ⟨1, .string ⟨⟨[]⟩⟩, false, [], none, none, 2⟩),
  (12, ⟨1, .int .u64 0, false, [], some .u64, none, 0⟩),
  (13, ⟨2, .agg #[.string ⟨⟨[]⟩⟩, .int .u64 0], true, [(0, 9), (1, 12)], none, none, 0⟩),
  (14, ⟨2, .agg #[.string ⟨⟨[]⟩⟩, .int .u64 0], true, [(0, 9), (1, 12)], none, none, 0⟩),
  (15, ⟨1, .pointer none, false, [], none, none, 0⟩),
  (16, ⟨1, .pointer none, false, [], none, none, 0⟩),
  (17, ⟨1, .pointer none, false, [], none, none, 0⟩),
  (18, ⟨1, .agg #[.pointer none], true, [(0, 17)], none, none, 0⟩),
  (19, ⟨1, .agg #[.pointer none], true, [(0, 17)], none, none, 0⟩),
  (20, ⟨1, .nilIface, false, [], none, none, 3⟩),
  (21, ⟨1, .int .i32 0, false, [], some .i32, none, 0⟩),
  (22, ⟨1, .slice none 0 0, false, [], none, some 1, 13⟩),
  (23, ⟨1, .slice none 0 0, false, [], none, some 3, 32⟩),
  (24, ⟨5, .agg #[.string ⟨⟨[]⟩⟩, .int .i64 0, .bool false, .slice none 0 0, .slice none 0 0], true, [(0, 9), (1, 3), (2, 4), (3, 22), (4, 23)], none, none, 0⟩),
  (25, ⟨5, .agg #[.string ⟨⟨[]⟩⟩, .int .i64 0, .bool false, .slice none 0 0, .slice none 0 0], true, [(0, 9), (1, 3), (2, 4), (3, 22), (4, 23)], none, none, 0⟩),
  (26, ⟨1, .slice none 0 0, false, [], none, some 1, 7⟩),
  (28, ⟨3, .agg #[.string ⟨⟨[]⟩⟩, .int .i64 0, .bool false], true, [(0, 9), (1, 3), (2, 4)], none, none, 0⟩),
  (30, ⟨1, .int .i64 0, false, [], some .i64, none, 0⟩),
  (35, ⟨1, .slice none 0 0, false, [], none, some 7, 41⟩),
  (37, ⟨7, .agg #[.int .i64 0, .int .i64 0, .slice none 0 0, .int .i64 0, .int .i64 0, .string ⟨⟨[]⟩⟩, .slice none 0 0], true, [(0, 3), (1, 3), (2, 22), (3, 3), (4, 3), (5, 9), (6, 35)], none, none, 0⟩),
  (50, ⟨1, .pointer none, false, [], none, none, 0⟩),
  (52, ⟨2, .agg #[.slice none 0 0, .int .i64 0], true, [(0, 26), (1, 3)], none, none, 0⟩),
  (56, ⟨1, .nilFunc, false, [], none, none, 0⟩),
  (63, ⟨1, .nilIface, false, [], none, none, 3⟩),
  (73, ⟨1, .slice none 0 0, false, [], none, some 1, 9⟩),
  (75, ⟨1, .pointer none, false, [], none, none, 0⟩),
  (78, ⟨2, .agg #[.slice none 0 0, .int .i64 0], true, [(0, 22), (1, 3)], none, none, 0⟩),
  (81, ⟨1, .slice none 0 0, false, [], none, some 1, 67⟩),
  (82, ⟨1, .slice none 0 0, false, [], none, some 1, 67⟩),
  (83, ⟨1, .slice none 0 0, false, [], none, some 1, 67⟩),
  (85, ⟨7, .agg #[.int .i64 0, .int .i64 0, .slice none 0 0, .int .i64 0, .int .i64 0, .string ⟨⟨[]⟩⟩, .slice none 0 0], true, [(0, 37)], none, none, 0⟩),
  (88, ⟨1, .int .u64 0, false, [], some .u64, none, 0⟩),
  (90, ⟨2, .agg #[.int .u64 0, .int .u64 0], true, [(0, 88), (1, 88)], none, none, 0⟩),
  (93, ⟨4, .agg #[.int .i64 0, .int .i64 0, .int .i64 0, .int .i64 0], true, [], none, none, 0⟩),
  (112, ⟨1, .pointer none, false, [], none, none, 0⟩),
  (114, ⟨2, .agg #[.pointer none, .slice none 0 0], true, [(0, 112), (1, 73)], none, none, 0⟩),
  (117, ⟨1, .nilIface, false, [], none, none, 3⟩),
  (129, ⟨1, .int .u32 0, false, [], some .u32, none, 0⟩),
  (133, ⟨1, .pointer none, false, [], none, none, 0⟩),
  (140, ⟨1, .int .u16 0, false, [], some .u16, none, 0⟩),
  (160, ⟨1, .int .u64 0, false, [], some .u64, none, 0⟩),
  (174, ⟨1, .int .i64 0, false, [], some .i64, none, 0⟩),
  (177, ⟨1, .pointer none, false, [], none, none, 0⟩),
  (186, ⟨3, .agg #[.string ⟨⟨[]⟩⟩, .string ⟨⟨[]⟩⟩, .nilIface], true, [(0, 9), (1, 9), (2, 117)], none, none, 0⟩),
  (195, ⟨4, .agg #[.pointer none, .pointer none, .pointer none, .string ⟨⟨[]⟩⟩], true, [(0, 17), (1, 17), (2, 17), (3, 9)], none, none, 0⟩),
  (196, ⟨0, .agg #[], true, [], none, none, 0⟩),
  (198, ⟨0, .agg #[], true, [(1000000, 196)], none, none, 0⟩),
  (199, ⟨1, .int .u8 0, false, [], some .u8, none, 0⟩),
  (200, ⟨1, .int .u8 0, false, [], some .u8, none, 0⟩),
  (201, ⟨1, .nilFunc, false, [], none, none, 0⟩),
  (202, ⟨1, .int .i32 0, false, [], some .i32, none, 0⟩),
  (203, ⟨1, .int .i32 0, false, [], some .i32, none, 0⟩),
  (205, ⟨11, .agg #[.int .u64 0, .int .u64 0, .int .u32 0, .int .u8 0, .int .u8 0, .int .u8 0, .int .u8 0, .nilFunc, .pointer none, .int .i32 0, .int .i32 0], true, [(0, 12), (1, 12), (2, 129), (3, 199), (4, 5), (5, 5), (6, 200), (7, 201), (8, 133), (9, 202), (10, 203)], none, none, 0⟩),
  (207, ⟨1, .slice none 0 0, false, [], none, some 1, 30⟩),
  (210, ⟨2, .agg #[.int .u64 0, .int .u64 0], true, [(0, 88), (1, 88)], none, none, 0⟩)]
theorem tb1 : TIok Tryz.prog 1 ((get tb 1).getD ⟨0, undef, false, [], none, none, 0⟩) := ⟨by kernel_rfl, by kernel_rfl⟩
theorem tb2 : TIok Tryz.prog 2 ((get tb 2).getD ⟨0, undef, false, [], none, none, 0⟩) := ⟨by kernel_rfl, by kernel_rfl⟩
theorem tb3 : TIok Tryz.prog 3 ((get tb 3).getD ⟨0, undef, false, [], none, none, 0⟩) := ⟨by kernel_rfl, by kernel_rfl⟩
theorem tb4 : TIok Tryz.prog 4 ((get tb 4).getD ⟨0, undef, false, [], none, none, 0⟩) := ⟨by kernel_rfl, by kernel_rfl⟩
theorem tb5 : TIok Tryz.prog 5 ((get tb 5).getD ⟨0, undef, false, [], none, none, 0⟩) := ⟨by kernel_rfl, by kernel_rfl⟩
theorem tb6 : TIok Tryz.prog 6 ((get tb 6).getD ⟨0, undef, false, [], none, none, 0⟩) := ⟨by kernel_rfl, by kernel_rfl⟩
theorem tb7 : TIok Tryz.prog 7 ((get tb 7).getD ⟨0, undef, false, [], none, none, 0⟩) := ⟨by kernel_rfl, by kernel_rfl⟩
theorem tb8 : TIok Tryz.prog 8 ((get tb 8).getD ⟨0, undef, false, [], none, none, 0⟩) := ⟨by kernel_rfl, by kernel_rfl⟩
theorem tb9 : TIok Tryz.prog 9 ((get tb 9).getD ⟨0, undef, false, [], none, none, 0⟩) := ⟨by kernel_rfl, by kernel_rfl⟩
theorem tb10 : TIok Tryz.prog 10 ((get tb 10).getD ⟨0, undef, false, [], none, none, 0⟩) := ⟨by kernel_rfl, by kernel_rfl⟩
theorem tb11 : TIok Tryz.prog 11 ((get tb 11).getD ⟨0, undef, false, [], none, none, 0⟩) := ⟨by kernel_rfl, by kernel_rfl⟩
theorem tb12 : TIok Tryz.prog 12 ((get tb 12).getD ⟨0, undef, false, [], none, none, 0⟩) := ⟨by kernel_rfl, by kernel_rfl⟩
theorem tb13 : TIok Tryz.prog 13 ((get tb 13).getD ⟨0, undef, false, [], none, none, 0⟩) := ⟨by kernel_rfl, by kernel_rfl⟩
theorem tb14 : TIok Tryz.prog 14 ((get tb 14).getD ⟨0, undef, false, [], none, none, 0⟩) := ⟨by kernel_rfl, by kernel_rfl⟩
theorem tb15 : TIok Tryz.prog 15 ((get tb 15).getD ⟨0, undef, false, [], none, none, 0⟩) := ⟨by kernel_rfl, by kernel_rfl⟩
theorem tb16 : TIok Tryz.prog 16 ((get tb 16).getD ⟨0, undef, false, [], none, none, 0⟩) := ⟨by kernel_rfl, by kernel_rfl⟩
theorem tb17 : TIok Tryz.prog 17 ((get tb 17).getD ⟨0, undef, false, [], none, none, 0⟩) := ⟨by kernel_rfl, by kernel_rfl⟩
theorem tb18 : TIok Tryz.prog 18 ((get tb 18).getD ⟨0, undef, false, [], none, none, 0⟩) := ⟨by kernel_rfl, by kernel_rfl⟩
theorem tb19 : TIok Tryz.prog 19 ((get tb 19).getD ⟨0, undef, false, [], none, none, 0⟩) := ⟨by kernel_rfl, by kernel_rfl⟩
theorem tb20 : TIok Tryz.prog 20 ((get tb 20).getD ⟨0, undef, false, [], none, none, 0⟩) := ⟨by kernel_rfl, by kernel_rfl⟩
theorem tb21 : TIok Tryz.prog 21 ((get tb 21).getD ⟨0, undef, false, [], none, none, 0⟩) := ⟨by kernel_rfl, by kernel_rfl⟩
theorem tb22 : TIok Tryz.prog 22 ((get tb 22).getD ⟨0, undef, false, [], none, none, 0⟩) := ⟨by kernel_rfl, by kernel_rfl⟩
theorem tb23 : TIok Tryz.prog 23 ((get tb 23).getD ⟨0, undef, false, [], none, none, 0⟩) := ⟨by kernel_rfl, by kernel_rfl⟩
theorem tb24 : TIok Tryz.prog 24 ((get tb 24).getD ⟨0, undef, false, [], none, none, 0⟩) := ⟨by kernel_rfl, by kernel_rfl⟩
theorem tb25 : TIok Tryz.prog 25 ((get tb 25).getD ⟨0, undef, false, [], none, none, 0⟩) := ⟨by kernel_rfl, by kernel_rfl⟩
theorem tb26 : TIok Tryz.prog 26 ((get tb 26).getD ⟨0, undef, false, [], none, none, 0⟩) := ⟨by kernel_rfl, by kernel_rfl⟩
theorem tb28 : TIok Tryz.prog 28 ((get tb 28).getD ⟨0, undef, false, [], none, none, 0⟩) := ⟨by kernel_rfl, by kernel_rfl⟩
theorem tb30 : TIok Tryz.prog 30 ((get tb 30).getD ⟨0, undef, false, [], none, none, 0⟩) := ⟨by kernel_rfl, by kernel_rfl⟩
theorem tb35 : TIok Tryz.prog 35 ((get tb 35).getD ⟨0, undef, false, [], none, none, 0⟩) := ⟨by kernel_rfl, by kernel_rfl⟩
theorem tb37 : TIok Tryz.prog 37 ((get tb 37).getD ⟨0, undef, false, [], none, none, 0⟩) := ⟨by kernel_rfl, by kernel_rfl⟩
theorem tb50 : TIok Tryz.prog 50 ((get tb 50).getD ⟨0, undef, false, [], none, none, 0⟩) := ⟨by kernel_rfl, by kernel_rfl⟩
theorem tb52 : TIok Tryz.prog 52 ((get tb 52).getD ⟨0, undef, false, [], none, none, 0⟩) := ⟨by kernel_rfl, by kernel_rfl⟩
theorem tb56 : TIok Tryz.prog 56 ((get tb 56).getD ⟨0, undef, false, [], none, none, 0⟩) := ⟨by kernel_rfl, by kernel_rfl⟩
theorem tb63 : TIok Tryz.prog 63 ((get tb 63).getD ⟨0, undef, false, [], none, none, 0⟩) := ⟨by kernel_rfl, by kernel_rfl⟩
theorem tb73 : TIok Tryz.prog 73 ((get tb 73).getD ⟨0, undef, false, [], none, none, 0⟩) := ⟨by kernel_rfl, by kernel_rfl⟩
theorem tb75 : TIok Tryz.prog 75 ((get tb 75).getD ⟨0, undef, false, [], none, none, 0⟩) := ⟨by kernel_rfl, by kernel_rfl⟩
theorem tb78 : TIok Tryz.prog 78 ((get tb 78).getD ⟨0, undef, false, [], none, none, 0⟩) := ⟨by kernel_rfl, by kernel_rfl⟩
theorem tb81 : TIok Tryz.prog 81 ((get tb 81).getD ⟨0, undef, false, [], none, none, 0⟩) := ⟨by kernel_rfl, by kernel_rfl⟩
theorem tb82 : TIok Tryz.prog 82 ((get tb 82).getD ⟨0, undef, false, [], none, none, 0⟩) := ⟨by kernel_rfl, by kernel_rfl⟩
theorem tb83 : TIok Tryz.prog 83 ((get tb 83).getD ⟨0, undef, false, [], none, none, 0⟩) := ⟨by kernel_rfl, by kernel_rfl⟩
theorem tb85 : TIok Tryz.prog 85 ((get tb 85).getD ⟨0, undef, false, [], none, none, 0⟩) := ⟨by kernel_rfl, by kernel_rfl⟩
theorem tb88 : TIok Tryz.prog 88 ((get tb 88).getD ⟨0, undef, false, [], none, none, 0⟩) := ⟨by kernel_rfl, by kernel_rfl⟩
theorem tb90 : TIok Tryz.prog 90 ((get tb 90).getD ⟨0, undef, false, [], none, none, 0⟩) := ⟨by kernel_rfl, by kernel_rfl⟩
theorem tb93 : TIok Tryz.prog 93 ((get tb 93).getD ⟨0, undef, false, [], none, none, 0⟩) := ⟨by kernel_rfl, by kernel_rfl⟩
theorem tb112 : TIok Tryz.prog 112 ((get tb 112).getD ⟨0, undef, false, [], none, none, 0⟩) := ⟨by kernel_rfl, by kernel_rfl⟩
theorem tb114 : TIok Tryz.prog 114 ((get tb 114).getD ⟨0, undef, false, [], none, none, 0⟩) := ⟨by kernel_rfl, by kernel_rfl⟩
theorem tb117 : TIok Tryz.prog 117 ((get tb 117).getD ⟨0, undef, false, [], none, none, 0⟩) := ⟨by kernel_rfl, by kernel_rfl⟩
theorem tb129 : TIok Tryz.prog 129 ((get tb 129).getD ⟨0, undef, false, [], none, none, 0⟩) := ⟨by kernel_rfl, by kernel_rfl⟩
theorem tb133 : TIok Tryz.prog 133 ((get tb 133).getD ⟨0, undef, false, [], none, none, 0⟩) := ⟨by kernel_rfl, by kernel_rfl⟩
theorem tb140 : TIok Tryz.prog 140 ((get tb 140).getD ⟨0, undef, false, [], none, none, 0⟩) := ⟨by kernel_rfl, by kernel_rfl⟩
theorem tb160 : TIok Tryz.prog 160 ((get tb 160).getD ⟨0, undef, false, [], none, none, 0⟩) := ⟨by kernel_rfl, by kernel_rfl⟩
theorem tb174 : TIok Tryz.prog 174 ((get tb 174).getD ⟨0, undef, false, [], none, none, 0⟩) := ⟨by kernel_rfl, by kernel_rfl⟩
theorem tb177 : TIok Tryz.prog 177 ((get tb 177).getD ⟨0, undef, false, [], none, none, 0⟩) := ⟨by kernel_rfl, by kernel_rfl⟩
theorem tb186 : TIok Tryz.prog 186 ((get tb 186).getD ⟨0, undef, false, [], none, none, 0⟩) := ⟨by kernel_rfl, by kernel_rfl⟩
theorem tb195 : TIok Tryz.prog 195 ((get tb 195).getD ⟨0, undef, false, [], none, none, 0⟩) := ⟨by kernel_rfl, by kernel_rfl⟩
theorem tb196 : TIok Tryz.prog 196 ((get tb 196).getD ⟨0, undef, false, [], none, none, 0⟩) := ⟨by kernel_rfl, by kernel_rfl⟩
theorem tb198 : TIok Tryz.prog 198 ((get tb 198).getD ⟨0, undef, false, [], none, none, 0⟩) := ⟨by kernel_rfl, by kernel_rfl⟩
theorem tb199 : TIok Tryz.prog 199 ((get tb 199).getD ⟨0, undef, false, [], none, none, 0⟩) := ⟨by kernel_rfl, by kernel_rfl⟩
theorem tb200 : TIok Tryz.prog 200 ((get tb 200).getD ⟨0, undef, false, [], none, none, 0⟩) := ⟨by kernel_rfl, by kernel_rfl⟩
theorem tb201 : TIok Tryz.prog 201 ((get tb 201).getD ⟨0, undef, false, [], none, none, 0⟩) := ⟨by kernel_rfl, by kernel_rfl⟩
theorem tb202 : TIok Tryz.prog 202 ((get tb 202).getD ⟨0, undef, false, [], none, none, 0⟩) := ⟨by kernel_rfl, by kernel_rfl⟩
theorem tb203 : TIok Tryz.prog 203 ((get tb 203).getD ⟨0, undef, false, [], none, none, 0⟩) := ⟨by kernel_rfl, by kernel_rfl⟩
theorem tb205 : TIok Tryz.prog 205 ((get tb 205).getD ⟨0, undef, false, [], none, none, 0⟩) := ⟨by kernel_rfl, by kernel_rfl⟩
theorem tb207 : TIok Tryz.prog 207 ((get tb 207).getD ⟨0, undef, false, [], none, none, 0⟩) := ⟨by kernel_rfl, by kernel_rfl⟩
theorem tb210 : TIok Tryz.prog 210 ((get tb 210).getD ⟨0, undef, false, [], none, none, 0⟩) := ⟨by kernel_rfl, by kernel_rfl⟩
set_option maxRecDepth 100000 in
theorem tbOk : TblOk Tryz.prog tb := ⟨tb1, tb2, tb3, tb4, tb5, tb6, tb7, tb8, tb9, tb10, tb11, tb12, tb13, tb14, tb15, tb16, tb17, tb18, tb19, tb20, tb21, tb22, tb23, tb24, tb25, tb26, tb28, tb30, tb35, tb37, tb50, tb52, tb56, tb63, tb73, tb75, tb78, tb81, tb82, tb83, tb85, tb88, tb90, tb93, tb112, tb114, tb117, tb129, tb133, tb140, tb160, tb174, tb177, tb186, tb195, tb196, tb198, tb199, tb200, tb201, tb202, tb203, tb205, tb207, tb210, trivial⟩
theorem fn9 : HasBody Tryz.prog 9 := hasBody Tryz.func9 (by kernel_rfl) (by kernel_rfl)
theorem fn10 : HasBody Tryz.prog 10 := hasBody Tryz.func10 (by kernel_rfl) (by kernel_rfl)
theorem fn11 : HasBody Tryz.prog 11 := hasBody Tryz.func11 (by kernel_rfl) (by kernel_rfl)
theorem fn12 : HasBody Tryz.prog 12 := hasBody Tryz.func12 (by kernel_rfl) (by kernel_rfl)
theorem fn13 : HasBody Tryz.prog 13 := hasBody Tryz.func13 (by kernel_rfl) (by kernel_rfl)
theorem fn14 : HasBody Tryz.prog 14 := hasBody Tryz.func14 (by kernel_rfl) (by kernel_rfl)
theorem fn15 : HasBody Tryz.prog 15 := hasBody Tryz.func15 (by kernel_rfl) (by kernel_rfl)
theorem fn16 : HasBody Tryz.prog 16 := hasBody Tryz.func16 (by kernel_rfl) (by kernel_rfl)
theorem fn17 : HasBody Tryz.prog 17 := hasBody Tryz.func17 (by kernel_rfl) (by kernel_rfl)
theorem fn18 : HasBody Tryz.prog 18 := hasBody Tryz.func18 (by kernel_rfl) (by kernel_rfl)
theorem fn19 : HasBody Tryz.prog 19 := hasBody Tryz.func19 (by kernel_rfl) (by kernel_rfl)
theorem fn20 : HasBody Tryz.prog 20 := hasBody Tryz.func20 (by kernel_rfl) (by kernel_rfl)
theorem fn21 : HasBody Tryz.prog 21 := hasBody Tryz.func21 (by kernel_rfl) (by kernel_rfl)
theorem fn22 : HasBody Tryz.prog 22 := hasBody Tryz.func22 (by kernel_rfl) (by kernel_rfl)
theorem fn23 : HasBody Tryz.prog 23 := hasBody Tryz.func23 (by kernel_rfl) (by kernel_rfl)
theorem fn24 : HasBody Tryz.prog 24 := hasBody Tryz.func24 (by kernel_rfl) (by kernel_rfl)
theorem fn25 : HasBody Tryz.prog 25 := hasBody Tryz.func25 (by kernel_rfl) (by kernel_rfl)
theorem fn26 : HasBody Tryz.prog 26 := hasBody Tryz.func26 (by kernel_rfl) (by kernel_rfl)
theorem fn27 : HasBody Tryz.prog 27 := hasBody Tryz.func27 (by kernel_rfl) (by kernel_rfl)
theorem fn28 : HasBody Tryz.prog 28 := hasBody Tryz.func28 (by kernel_rfl) (by kernel_rfl)
theorem fn29 : HasBody Tryz.prog 29 := hasBody Tryz.func29 (by kernel_rfl) (by kernel_rfl)
theorem fn30 : HasBody Tryz.prog 30 := hasBody Tryz.func30 (by kernel_rfl) (by kernel_rfl)
theorem fn31 : HasBody Tryz.prog 31 := hasBody Tryz.func31 (by kernel_rfl) (by kernel_rfl)
theorem fn32 : HasBody Tryz.prog 32 := hasBody Tryz.func32 (by kernel_rfl) (by kernel_rfl)
theorem fn33 : HasBody Tryz.prog 33 := hasBody Tryz.func33 (by kernel_rfl) (by kernel_rfl)
theorem fn34 : HasBody Tryz.prog 34 := hasBody Tryz.func34 (by kernel_rfl) (by kernel_rfl)
theorem fn35 : HasBody Tryz.prog 35 := hasBody Tryz.func35 (by kernel_rfl) (by kernel_rfl)
theorem fn36 : HasBody Tryz.prog 36 := hasBody Tryz.func36 (by kernel_rfl) (by kernel_rfl)
theorem fn37 : HasBody Tryz.prog 37 := hasBody Tryz.func37 (by kernel_rfl) (by kernel_rfl)
theorem fn38 : HasBody Tryz.prog 38 := hasBody Tryz.func38 (by kernel_rfl) (by kernel_rfl)
theorem fn39 : HasBody Tryz.prog 39 := hasBody Tryz.func39 (by kernel_rfl) (by kernel_rfl)
theorem fn40 : HasBody Tryz.prog 40 := hasBody Tryz.func40 (by kernel_rfl) (by kernel_rfl)
theorem fn41 : HasBody Tryz.prog 41 := hasBody Tryz.func41 (by kernel_rfl) (by kernel_rfl)
theorem fn42 : HasBody Tryz.prog 42 := hasBody Tryz.func42 (by kernel_rfl) (by kernel_rfl)
theorem fn43 : HasBody Tryz.prog 43 := hasBody Tryz.func43 (by kernel_rfl) (by kernel_rfl)
theorem fn44 : HasBody Tryz.prog 44 := hasBody Tryz.func44 (by kernel_rfl) (by kernel_rfl)
theorem fn45 : HasBody Tryz.prog 45 := hasBody Tryz.func45 (by kernel_rfl) (by kernel_rfl)
theorem fn46 : HasBody Tryz.prog 46 := hasBody Tryz.func46 (by kernel_rfl) (by kernel_rfl)
theorem fn47 : HasBody Tryz.prog 47 := hasBody Tryz.func47 (by kernel_rfl) (by kernel_rfl)
theorem fn48 : HasBody Tryz.prog 48 := hasBody Tryz.func48 (by kernel_rfl) (by kernel_rfl)
theorem fn49 : HasBody Tryz.prog 49 := hasBody Tryz.func49 (by kernel_rfl) (by kernel_rfl)
theorem fn50 : HasBody Tryz.prog 50 := hasBody Tryz.func50 (by kernel_rfl) (by kernel_rfl)
theorem fn51 : HasBody Tryz.prog 51 := hasBody Tryz.func51 (by kernel_rfl) (by kernel_rfl)
theorem fn52 : HasBody Tryz.prog 52 := hasBody Tryz.func52 (by kernel_rfl) (by kernel_rfl)
theorem fn53 : HasBody Tryz.prog 53 := hasBody Tryz.func53 (by kernel_rfl) (by kernel_rfl)
theorem fn54 : HasBody Tryz.prog 54 := hasBody Tryz.func54 (by kernel_rfl) (by kernel_rfl)
theorem fn55 : HasBody Tryz.prog 55 := hasBody Tryz.func55 (by kernel_rfl) (by kernel_rfl)
theorem fn56 : HasBody Tryz.prog 56 := hasBody Tryz.func56 (by kernel_rfl) (by kernel_rfl)
theorem fn57 : HasBody Tryz.prog 57 := hasBody Tryz.func57 (by kernel_rfl) (by kernel_rfl)
theorem fn58 : HasBody Tryz.prog 58 := hasBody Tryz.func58 (by kernel_rfl) (by kernel_rfl)
theorem fn59 : HasBody Tryz.prog 59 := hasBody Tryz.func59 (by kernel_rfl) (by kernel_rfl)
theorem fn60 : HasBody Tryz.prog 60 := hasBody Tryz.func60 (by kernel_rfl) (by kernel_rfl)
theorem fn61 : HasBody Tryz.prog 61 := hasBody Tryz.func61 (by kernel_rfl) (by kernel_rfl)
theorem fn62 : HasBody Tryz.prog 62 := hasBody Tryz.func62 (by kernel_rfl) (by kernel_rfl)
theorem fn63 : HasBody Tryz.prog 63 := hasBody Tryz.func63 (by kernel_rfl) (by kernel_rfl)
theorem fn64 : HasBody Tryz.prog 64 := hasBody Tryz.func64 (by kernel_rfl) (by kernel_rfl)
theorem fn65 : HasBody Tryz.prog 65 := hasBody Tryz.func65 (by kernel_rfl) (by kernel_rfl)
theorem fn66 : HasBody Tryz.prog 66 := hasBody Tryz.func66 (by kernel_rfl) (by kernel_rfl)
theorem fn77 : HasBody Tryz.prog 77 := hasBody Tryz.func77 (by kernel_rfl) (by kernel_rfl)
theorem fn82 : HasBody Tryz.prog 82 := hasBody Tryz.func82 (by kernel_rfl) (by kernel_rfl)
theorem fn90 : HasBody Tryz.prog 90 := hasBody Tryz.func90 (by kernel_rfl) (by kernel_rfl)
theorem fn92 : HasBody Tryz.prog 92 := hasBody Tryz.func92 (by kernel_rfl) (by kernel_rfl)
theorem fn93 : HasBody Tryz.prog 93 := hasBody Tryz.func93 (by kernel_rfl) (by kernel_rfl)
theorem fn105 : HasBody Tryz.prog 105 := hasBody Tryz.func105 (by kernel_rfl) (by kernel_rfl)
theorem fn106 : HasBody Tryz.prog 106 := hasBody Tryz.func106 (by kernel_rfl) (by kernel_rfl)
theorem fn107 : HasBody Tryz.prog 107 := hasBody Tryz.func107 (by kernel_rfl) (by kernel_rfl)
theorem fn108 : HasBody Tryz.prog 108 := hasBody Tryz.func108 (by kernel_rfl) (by kernel_rfl)
theorem fn167 : HasBody Tryz.prog 167 := hasBody Tryz.func167 (by kernel_rfl) (by kernel_rfl)
theorem fn168 : HasBody Tryz.prog 168 := hasBody Tryz.func168 (by kernel_rfl) (by kernel_rfl)
theorem fn171 : HasBody Tryz.prog 171 := hasBody Tryz.func171 (by kernel_rfl) (by kernel_rfl)
theorem fn172 : HasBody Tryz.prog 172 := hasBody Tryz.func172 (by kernel_rfl) (by kernel_rfl)
theorem fn173 : HasBody Tryz.prog 173 := hasBody Tryz.func173 (by kernel_rfl) (by kernel_rfl)
theorem fn174 : HasBody Tryz.prog 174 := hasBody Tryz.func174 (by kernel_rfl) (by kernel_rfl)
theorem fn175 : HasBody Tryz.prog 175 := hasBody Tryz.func175 (by kernel_rfl) (by kernel_rfl)
theorem fn176 : HasBody Tryz.prog 176 := hasBody Tryz.func176 (by kernel_rfl) (by kernel_rfl)
theorem fn177 : HasBody Tryz.prog 177 := hasBody Tryz.func177 (by kernel_rfl) (by kernel_rfl)
theorem fn178 : HasBody Tryz.prog 178 := hasBody Tryz.func178 (by kernel_rfl) (by kernel_rfl)
theorem fn179 : HasBody Tryz.prog 179 := hasBody Tryz.func179 (by kernel_rfl) (by kernel_rfl)
theorem fn180 : HasBody Tryz.prog 180 := hasBody Tryz.func180 (by kernel_rfl) (by kernel_rfl)
theorem fn182 : HasBody Tryz.prog 182 := hasBody Tryz.func182 (by kernel_rfl) (by kernel_rfl)
theorem fn183 : HasBody Tryz.prog 183 := hasBody Tryz.func183 (by kernel_rfl) (by kernel_rfl)
theorem ap22 : ApOk Tryz.prog 22 9 1 := ⟨by kernel_rfl, by kernel_rfl, by decide⟩
theorem ap23 : ApOk Tryz.prog 23 28 3 := ⟨by kernel_rfl, by kernel_rfl, by decide⟩
theorem ap26 : ApOk Tryz.prog 26 3 1 := ⟨by kernel_rfl, by kernel_rfl, by decide⟩
theorem ap35 : ApOk Tryz.prog 35 37 7 := ⟨by kernel_rfl, by kernel_rfl, by decide⟩
theorem ap73 : ApOk Tryz.prog 73 5 1 := ⟨by kernel_rfl, by kernel_rfl, by decide⟩
theorem ap81 : ApOk Tryz.prog 81 63 1 := ⟨by kernel_rfl, by kernel_rfl, by decide⟩
theorem held210 : Tryz.prog.stoodInHeld 210 = false := by kernel_rfl
theorem eg210 : Tryz.prog.eqGuardType Tryz.prog.depth 210 = false := by kernel_rfl
theorem eqT210 {x0 y0 : Int} {x1 y1 : Int} : EqLaw Tryz.prog 210 [.int .u64 x0, .int .u64 x1] [.int .u64 y0, .int .u64 y1] ((x0 == y0) && (x1 == y1)) := by
  intro w X xs ys hx hy
  simp only [Reps, Rep] at hx hy
  obtain ⟨_, _, rfl, rfl, _, _, rfl, rfl, rfl⟩ := hx
  obtain ⟨_, _, rfl, rfl, _, _, rfl, rfl, rfl⟩ := hy
  unfold Op.equal
  obtain ⟨m, hm⟩ : ∃ m, Op.maxDepth = m + 2 := ⟨9998, rfl⟩
  rw [hm]
  have hprog : (program : Sem Program).run Tryz.prog w = .ok Tryz.prog w := rfl
  unfold Op.equalIn
  simp only [Sem.run_bind, run_underlying Tryz.underlying210, Result.andThen_ok, hprog, held210, Bool.false_eq_true, if_false, List.forIn_toArray, List.forIn_cons, List.forIn_nil]
  have p0 : (part 88 ⟨[.int .u64 x0, .int .u64 x1]⟩ 0).run Tryz.prog w = .ok (.int .u64 x0) w := run_part_one tb88 rfl w _ _ _ rfl
  have r0 : (part 88 ⟨[.int .u64 y0, .int .u64 y1]⟩ 0).run Tryz.prog w = .ok (.int .u64 y0) w := run_part_one tb88 rfl w _ _ _ rfl
  have q0 : (Op.equalIn (m + 1) 88 (.int .u64 x0) (.int .u64 y0)).run Tryz.prog w = .ok (x0 == y0) w := eqIn_int Tryz.underlying88 w
  have p1 : (part 88 ⟨[.int .u64 x0, .int .u64 x1]⟩ 1).run Tryz.prog w = .ok (.int .u64 x1) w := run_part_one tb88 rfl w _ _ _ rfl
  have r1 : (part 88 ⟨[.int .u64 y0, .int .u64 y1]⟩ 1).run Tryz.prog w = .ok (.int .u64 y1) w := run_part_one tb88 rfl w _ _ _ rfl
  have q1 : (Op.equalIn (m + 1) 88 (.int .u64 x1) (.int .u64 y1)).run Tryz.prog w = .ok (x1 == y1) w := eqIn_int Tryz.underlying88 w
  cases h0 : (x0 == y0) with
  | false => simp [p0, r0, q0, h0]
  | true =>
    cases h1 : (x1 == y1) with
    | false => simp [p0, r0, q0, h0, p1, r1, q1, h1]
    | true =>
      simp [p0, r0, q0, h0, p1, r1, q1, h1]
theorem by73 : ByOk Tryz.prog 73 := ⟨⟨5, Tryz.underlying73, Tryz.underlying5⟩⟩
theorem apB73 : ApBytes Tryz.prog 73 5 := ⟨by kernel_rfl, by kernel_rfl⟩
theorem mixed : Tryz.prog.follows .mixedOrders = true := by kernel_rfl
end Go.Proofs.YtfeleiepnifbcaaGreatDoor
