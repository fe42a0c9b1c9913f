/- The table of the types of this translation, for the engine; by program (tb3.py). -/
import Derived.Test.YtfkefolbabniaaaGreatDoorProg
import Derived.Test.YtfkefolbabniaaaGreatDoorVz
namespace Go.Proofs.YtfkefolbabniaaaGreatDoor
open Go.V
def tb : List (Nat × TI) := [(1, ⟨1, .nilFunc, false, [], none, none, 0⟩),
  (2, ⟨1, .int .i64 0, false, [], some .i64, none, 0⟩),
  (3, ⟨1, .int .i64 0, false, [], some .i64, none, 0⟩),
  (4, ⟨1, .bool false, false, [], none, none, 1⟩),
  (5, ⟨1, .int .u8 0, false, [], some .u8, none, 0⟩),
  (6, ⟨1, .int .u8 0, false, [], some .u8, none, 0⟩),
  (7, ⟨4, .agg #[.int .i64 0, .int .i64 0, .bool false, .int .u8 0], true, [(0, 2), (1, 3), (2, 4), (3, 6)], none, none, 0⟩),
  (8, ⟨4, .agg #[.int .i64 0, .int .i64 0, .bool false, .int .u8 0], true, [(0, 2), (1, 3), (2, 4), (3, 6)], none, none, 0⟩),
  (9, ⟨1, .string ⟨⟨[]⟩⟩, false, [], none, none, 2⟩),
  (10, ⟨1, .string ⟨⟨[]⟩⟩, false, [], none, none, 2⟩),
  (11, ⟨1, .string ⟨⟨[]⟩⟩, false, [], none, none, 2⟩),
  (12, ⟨1, .int .u64 0, false, [], some .u64, none, 0⟩),
  (13, ⟨2, .agg #[.string ⟨⟨[]⟩⟩, .int .u64 0], true, [(0, 9), (1, 12)], none, none, 0⟩),
  (14, ⟨2, .agg #[.string ⟨⟨[]⟩⟩, .int .u64 0], true, [(0, 9), (1, 12)], none, none, 0⟩),
  (15, ⟨1, .pointer none, false, [], none, none, 0⟩),
  (16, ⟨1, .pointer none, false, [], none, none, 0⟩),
  (17, ⟨1, .pointer none, false, [], none, none, 0⟩),
  (18, ⟨1, .agg #[.pointer none], true, [(0, 17)], none, none, 0⟩),
  (19, ⟨1, .agg #[.pointer none], true, [(0, 17)], none, none, 0⟩),
  (20, ⟨1, .nilIface, false, [], none, none, 3⟩),
  (21, ⟨1, .int .i32 0, false, [], some .i32, none, 0⟩),
  (22, ⟨1, .slice none 0 0, false, [], none, some 1, 7⟩),
  (23, ⟨1, .slice none 0 0, false, [], none, some 1, 9⟩),
  (24, ⟨1, .nilFunc, false, [], none, none, 0⟩),
  (25, ⟨1, .slice none 0 0, false, [], none, some 5, 58⟩),
  (26, ⟨1, .slice none 0 0, false, [], none, some 3, 81⟩),
  (27, ⟨2, .agg #[.slice none 0 0, .slice none 0 0], true, [(0, 25), (1, 26)], none, none, 0⟩),
  (28, ⟨2, .agg #[.slice none 0 0, .slice none 0 0], true, [(0, 25), (1, 26)], none, none, 0⟩),
  (29, ⟨1, .nilFunc, false, [], none, none, 0⟩),
  (30, ⟨1, .nilFunc, false, [], none, none, 0⟩),
  (31, ⟨1, .slice none 0 0, false, [], none, some 1, 13⟩),
  (34, ⟨1, .int .i64 0, false, [], some .i64, none, 0⟩),
  (40, ⟨1, .slice none 0 0, false, [], none, some 2, 98⟩),
  (41, ⟨1, .slice none 0 0, false, [], none, some 2, 100⟩),
  (43, ⟨4, .agg #[.slice none 0 0, .slice none 0 0, .slice none 0 0, .bool false], true, [(0, 31), (1, 40), (2, 41), (3, 4)], none, none, 0⟩),
  (52, ⟨1, .slice none 0 0, false, [], none, some 1, 35⟩),
  (54, ⟨5, .agg #[.string ⟨⟨[]⟩⟩, .int .i64 0, .int .i64 0, .slice none 0 0, .bool false], true, [(0, 9), (1, 3), (2, 3), (3, 52), (4, 4)], none, none, 0⟩),
  (77, ⟨3, .agg #[.string ⟨⟨[]⟩⟩, .slice none 0 0, .string ⟨⟨[]⟩⟩], true, [(0, 9), (1, 31), (2, 9)], none, none, 0⟩),
  (78, ⟨1, .pointer none, false, [], none, none, 0⟩),
  (81, ⟨2, .agg #[.slice none 0 0, .int .i64 0], true, [(0, 22), (1, 3)], none, none, 0⟩),
  (87, ⟨1, .pointer none, false, [], none, none, 0⟩),
  (94, ⟨2, .agg #[.string ⟨⟨[]⟩⟩, .int .i64 0], true, [(0, 9), (1, 3)], none, none, 0⟩),
  (96, ⟨2, .agg #[.slice none 0 0, .int .i64 0], true, [(0, 31), (1, 3)], none, none, 0⟩),
  (124, ⟨1, .pointer none, false, [], none, none, 0⟩),
  (126, ⟨2, .agg #[.pointer none, .slice none 0 0], true, [(0, 124), (1, 23)], none, none, 0⟩),
  (128, ⟨1, .nilIface, false, [], none, none, 3⟩),
  (141, ⟨4, .agg #[.int .i64 0, .int .i64 0, .int .i64 0, .int .i64 0], true, [], none, none, 0⟩),
  (145, ⟨1, .nilFunc, false, [], none, none, 0⟩),
  (155, ⟨1, .map none, false, [], none, none, 0⟩),
  (158, ⟨2, .agg #[.string ⟨⟨[]⟩⟩, .int .i64 0], true, [(0, 9), (1, 3)], none, none, 0⟩),
  (161, ⟨1, .pointer none, false, [], none, none, 0⟩),
  (163, ⟨1, .nilFunc, false, [], none, none, 0⟩),
  (164, ⟨1, .nilFunc, false, [], none, none, 0⟩),
  (182, ⟨1, .int .u64 0, false, [], some .u64, none, 0⟩),
  (195, ⟨1, .int .u32 0, false, [], some .u32, none, 0⟩),
  (199, ⟨1, .int .i64 0, false, [], some .i64, none, 0⟩),
  (207, ⟨1, .int .i64 0, false, [], some .i64, none, 0⟩),
  (216, ⟨1, .int .u64 0, false, [], some .u64, none, 0⟩),
  (233, ⟨1, .int .u64 0, false, [], some .u64, none, 0⟩),
  (252, ⟨4, .agg #[.pointer none, .pointer none, .pointer none, .string ⟨⟨[]⟩⟩], true, [(0, 17), (1, 17), (2, 17), (3, 9)], none, none, 0⟩),
  (253, ⟨0, .agg #[], true, [], none, none, 0⟩),
  (255, ⟨0, .agg #[], true, [(1000000, 253)], none, none, 0⟩),
  (257, ⟨1, .int .u8 0, false, [], some .u8, none, 0⟩),
  (258, ⟨1, .int .u8 0, false, [], some .u8, none, 0⟩),
  (259, ⟨1, .nilFunc, false, [], none, none, 0⟩),
  (260, ⟨1, .int .i32 0, false, [], some .i32, none, 0⟩),
  (261, ⟨1, .int .i32 0, false, [], some .i32, none, 0⟩),
  (263, ⟨11, .agg #[.int .u64 0, .int .u64 0, .int .u32 0, .int .u8 0, .int .u8 0, .int .u8 0, .int .u8 0, .nilFunc, .pointer none, .int .i32 0, .int .i32 0], true, [(0, 12), (1, 12), (2, 195), (3, 257), (4, 5), (5, 5), (6, 258), (7, 259), (8, 161), (9, 260), (10, 261)], none, none, 0⟩)]
theorem tb1 : TIok Tryz.prog 1 ((get tb 1).getD ⟨0, undef, false, [], none, none, 0⟩) := ⟨by kernel_rfl, by kernel_rfl⟩
theorem tb2 : TIok Tryz.prog 2 ((get tb 2).getD ⟨0, undef, false, [], none, none, 0⟩) := ⟨by kernel_rfl, by kernel_rfl⟩
theorem tb3 : TIok Tryz.prog 3 ((get tb 3).getD ⟨0, undef, false, [], none, none, 0⟩) := ⟨by kernel_rfl, by kernel_rfl⟩
theorem tb4 : TIok Tryz.prog 4 ((get tb 4).getD ⟨0, undef, false, [], none, none, 0⟩) := ⟨by kernel_rfl, by kernel_rfl⟩
theorem tb5 : TIok Tryz.prog 5 ((get tb 5).getD ⟨0, undef, false, [], none, none, 0⟩) := ⟨by kernel_rfl, by kernel_rfl⟩
theorem tb6 : TIok Tryz.prog 6 ((get tb 6).getD ⟨0, undef, false, [], none, none, 0⟩) := ⟨by kernel_rfl, by kernel_rfl⟩
theorem tb7 : TIok Tryz.prog 7 ((get tb 7).getD ⟨0, undef, false, [], none, none, 0⟩) := ⟨by kernel_rfl, by kernel_rfl⟩
theorem tb8 : TIok Tryz.prog 8 ((get tb 8).getD ⟨0, undef, false, [], none, none, 0⟩) := ⟨by kernel_rfl, by kernel_rfl⟩
theorem tb9 : TIok Tryz.prog 9 ((get tb 9).getD ⟨0, undef, false, [], none, none, 0⟩) := ⟨by kernel_rfl, by kernel_rfl⟩
theorem tb10 : TIok Tryz.prog 10 ((get tb 10).getD ⟨0, undef, false, [], none, none, 0⟩) := ⟨by kernel_rfl, by kernel_rfl⟩
theorem tb11 : TIok Tryz.prog 11 ((get tb 11).getD ⟨0, undef, false, [], none, none, 0⟩) := ⟨by kernel_rfl, by kernel_rfl⟩
theorem tb12 : TIok Tryz.prog 12 ((get tb 12).getD ⟨0, undef, false, [], none, none, 0⟩) := ⟨by kernel_rfl, by kernel_rfl⟩
theorem tb13 : TIok Tryz.prog 13 ((get tb 13).getD ⟨0, undef, false, [], none, none, 0⟩) := ⟨by kernel_rfl, by kernel_rfl⟩
theorem tb14 : TIok Tryz.prog 14 ((get tb 14).getD ⟨0, undef, false, [], none, none, 0⟩) := ⟨by kernel_rfl, by kernel_rfl⟩
theorem tb15 : TIok Tryz.prog 15 ((get tb 15).getD ⟨0, undef, false, [], none, none, 0⟩) := ⟨by kernel_rfl, by kernel_rfl⟩
theorem tb16 : TIok Tryz.prog 16 ((get tb 16).getD ⟨0, undef, false, [], none, none, 0⟩) := ⟨by kernel_rfl, by kernel_rfl⟩
theorem tb17 : TIok Tryz.prog 17 ((get tb 17).getD ⟨0, undef, false, [], none, none, 0⟩) := ⟨by kernel_rfl, by kernel_rfl⟩
theorem tb18 : TIok Tryz.prog 18 ((get tb 18).getD ⟨0, undef, false, [], none, none, 0⟩) := ⟨by kernel_rfl, by kernel_rfl⟩
theorem tb19 : TIok Tryz.prog 19 ((get tb 19).getD ⟨0, undef, false, [], none, none, 0⟩) := ⟨by kernel_rfl, by kernel_rfl⟩
theorem tb20 : TIok Tryz.prog 20 ((get tb 20).getD ⟨0, undef, false, [], none, none, 0⟩) := ⟨by kernel_rfl, by kernel_rfl⟩
theorem tb21 : TIok Tryz.prog 21 ((get tb 21).getD ⟨0, undef, false, [], none, none, 0⟩) := ⟨by kernel_rfl, by kernel_rfl⟩
theorem tb22 : TIok Tryz.prog 22 ((get tb 22).getD ⟨0, undef, false, [], none, none, 0⟩) := ⟨by kernel_rfl, by kernel_rfl⟩
theorem tb23 : TIok Tryz.prog 23 ((get tb 23).getD ⟨0, undef, false, [], none, none, 0⟩) := ⟨by kernel_rfl, by kernel_rfl⟩
theorem tb24 : TIok Tryz.prog 24 ((get tb 24).getD ⟨0, undef, false, [], none, none, 0⟩) := ⟨by kernel_rfl, by kernel_rfl⟩
theorem tb25 : TIok Tryz.prog 25 ((get tb 25).getD ⟨0, undef, false, [], none, none, 0⟩) := ⟨by kernel_rfl, by kernel_rfl⟩
theorem tb26 : TIok Tryz.prog 26 ((get tb 26).getD ⟨0, undef, false, [], none, none, 0⟩) := ⟨by kernel_rfl, by kernel_rfl⟩
theorem tb27 : TIok Tryz.prog 27 ((get tb 27).getD ⟨0, undef, false, [], none, none, 0⟩) := ⟨by kernel_rfl, by kernel_rfl⟩
theorem tb28 : TIok Tryz.prog 28 ((get tb 28).getD ⟨0, undef, false, [], none, none, 0⟩) := ⟨by kernel_rfl, by kernel_rfl⟩
theorem tb29 : TIok Tryz.prog 29 ((get tb 29).getD ⟨0, undef, false, [], none, none, 0⟩) := ⟨by kernel_rfl, by kernel_rfl⟩
theorem tb30 : TIok Tryz.prog 30 ((get tb 30).getD ⟨0, undef, false, [], none, none, 0⟩) := ⟨by kernel_rfl, by kernel_rfl⟩
theorem tb31 : TIok Tryz.prog 31 ((get tb 31).getD ⟨0, undef, false, [], none, none, 0⟩) := ⟨by kernel_rfl, by kernel_rfl⟩
theorem tb34 : TIok Tryz.prog 34 ((get tb 34).getD ⟨0, undef, false, [], none, none, 0⟩) := ⟨by kernel_rfl, by kernel_rfl⟩
theorem tb40 : TIok Tryz.prog 40 ((get tb 40).getD ⟨0, undef, false, [], none, none, 0⟩) := ⟨by kernel_rfl, by kernel_rfl⟩
theorem tb41 : TIok Tryz.prog 41 ((get tb 41).getD ⟨0, undef, false, [], none, none, 0⟩) := ⟨by kernel_rfl, by kernel_rfl⟩
theorem tb43 : TIok Tryz.prog 43 ((get tb 43).getD ⟨0, undef, false, [], none, none, 0⟩) := ⟨by kernel_rfl, by kernel_rfl⟩
theorem tb52 : TIok Tryz.prog 52 ((get tb 52).getD ⟨0, undef, false, [], none, none, 0⟩) := ⟨by kernel_rfl, by kernel_rfl⟩
theorem tb54 : TIok Tryz.prog 54 ((get tb 54).getD ⟨0, undef, false, [], none, none, 0⟩) := ⟨by kernel_rfl, by kernel_rfl⟩
theorem tb77 : TIok Tryz.prog 77 ((get tb 77).getD ⟨0, undef, false, [], none, none, 0⟩) := ⟨by kernel_rfl, by kernel_rfl⟩
theorem tb78 : TIok Tryz.prog 78 ((get tb 78).getD ⟨0, undef, false, [], none, none, 0⟩) := ⟨by kernel_rfl, by kernel_rfl⟩
theorem tb81 : TIok Tryz.prog 81 ((get tb 81).getD ⟨0, undef, false, [], none, none, 0⟩) := ⟨by kernel_rfl, by kernel_rfl⟩
theorem tb87 : TIok Tryz.prog 87 ((get tb 87).getD ⟨0, undef, false, [], none, none, 0⟩) := ⟨by kernel_rfl, by kernel_rfl⟩
theorem tb94 : TIok Tryz.prog 94 ((get tb 94).getD ⟨0, undef, false, [], none, none, 0⟩) := ⟨by kernel_rfl, by kernel_rfl⟩
theorem tb96 : TIok Tryz.prog 96 ((get tb 96).getD ⟨0, undef, false, [], none, none, 0⟩) := ⟨by kernel_rfl, by kernel_rfl⟩
theorem tb124 : TIok Tryz.prog 124 ((get tb 124).getD ⟨0, undef, false, [], none, none, 0⟩) := ⟨by kernel_rfl, by kernel_rfl⟩
theorem tb126 : TIok Tryz.prog 126 ((get tb 126).getD ⟨0, undef, false, [], none, none, 0⟩) := ⟨by kernel_rfl, by kernel_rfl⟩
theorem tb128 : TIok Tryz.prog 128 ((get tb 128).getD ⟨0, undef, false, [], none, none, 0⟩) := ⟨by kernel_rfl, by kernel_rfl⟩
theorem tb141 : TIok Tryz.prog 141 ((get tb 141).getD ⟨0, undef, false, [], none, none, 0⟩) := ⟨by kernel_rfl, by kernel_rfl⟩
theorem tb145 : TIok Tryz.prog 145 ((get tb 145).getD ⟨0, undef, false, [], none, none, 0⟩) := ⟨by kernel_rfl, by kernel_rfl⟩
theorem tb155 : TIok Tryz.prog 155 ((get tb 155).getD ⟨0, undef, false, [], none, none, 0⟩) := ⟨by kernel_rfl, by kernel_rfl⟩
theorem tb158 : TIok Tryz.prog 158 ((get tb 158).getD ⟨0, undef, false, [], none, none, 0⟩) := ⟨by kernel_rfl, by kernel_rfl⟩
theorem tb161 : TIok Tryz.prog 161 ((get tb 161).getD ⟨0, undef, false, [], none, none, 0⟩) := ⟨by kernel_rfl, by kernel_rfl⟩
theorem tb163 : TIok Tryz.prog 163 ((get tb 163).getD ⟨0, undef, false, [], none, none, 0⟩) := ⟨by kernel_rfl, by kernel_rfl⟩
theorem tb164 : TIok Tryz.prog 164 ((get tb 164).getD ⟨0, undef, false, [], none, none, 0⟩) := ⟨by kernel_rfl, by kernel_rfl⟩
theorem tb182 : TIok Tryz.prog 182 ((get tb 182).getD ⟨0, undef, false, [], none, none, 0⟩) := ⟨by kernel_rfl, by kernel_rfl⟩
theorem tb195 : TIok Tryz.prog 195 ((get tb 195).getD ⟨0, undef, false, [], none, none, 0⟩) := ⟨by kernel_rfl, by kernel_rfl⟩
theorem tb199 : TIok Tryz.prog 199 ((get tb 199).getD ⟨0, undef, false, [], none, none, 0⟩) := ⟨by kernel_rfl, by kernel_rfl⟩
theorem tb207 : TIok Tryz.prog 207 ((get tb 207).getD ⟨0, undef, false, [], none, none, 0⟩) := ⟨by kernel_rfl, by kernel_rfl⟩
theorem tb216 : TIok Tryz.prog 216 ((get tb 216).getD ⟨0, undef, false, [], none, none, 0⟩) := ⟨by kernel_rfl, by kernel_rfl⟩
theorem tb233 : TIok Tryz.prog 233 ((get tb 233).getD ⟨0, undef, false, [], none, none, 0⟩) := ⟨by kernel_rfl, by kernel_rfl⟩
theorem tb252 : TIok Tryz.prog 252 ((get tb 252).getD ⟨0, undef, false, [], none, none, 0⟩) := ⟨by kernel_rfl, by kernel_rfl⟩
theorem tb253 : TIok Tryz.prog 253 ((get tb 253).getD ⟨0, undef, false, [], none, none, 0⟩) := ⟨by kernel_rfl, by kernel_rfl⟩
theorem tb255 : TIok Tryz.prog 255 ((get tb 255).getD ⟨0, undef, false, [], none, none, 0⟩) := ⟨by kernel_rfl, by kernel_rfl⟩
theorem tb257 : TIok Tryz.prog 257 ((get tb 257).getD ⟨0, undef, false, [], none, none, 0⟩) := ⟨by kernel_rfl, by kernel_rfl⟩
theorem tb258 : TIok Tryz.prog 258 ((get tb 258).getD ⟨0, undef, false, [], none, none, 0⟩) := ⟨by kernel_rfl, by kernel_rfl⟩
theorem tb259 : TIok Tryz.prog 259 ((get tb 259).getD ⟨0, undef, false, [], none, none, 0⟩) := ⟨by kernel_rfl, by kernel_rfl⟩
theorem tb260 : TIok Tryz.prog 260 ((get tb 260).getD ⟨0, undef, false, [], none, none, 0⟩) := ⟨by kernel_rfl, by kernel_rfl⟩
theorem tb261 : TIok Tryz.prog 261 ((get tb 261).getD ⟨0, undef, false, [], none, none, 0⟩) := ⟨by kernel_rfl, by kernel_rfl⟩
theorem tb263 : TIok Tryz.prog 263 ((get tb 263).getD ⟨0, undef, false, [], none, none, 0⟩) := ⟨by kernel_rfl, by kernel_rfl⟩
set_option maxRecDepth 100000 in
theorem tbOk : TblOk Tryz.prog tb := ⟨tb1, tb2, tb3, tb4, tb5, tb6, tb7, tb8, tb9, tb10, tb11, tb12, tb13, tb14, tb15, tb16, tb17, tb18, tb19, tb20, tb21, tb22, tb23, tb24, tb25, tb26, tb27, tb28, tb29, tb30, tb31, tb34, tb40, tb41, tb43, tb52, tb54, tb77, tb78, tb81, tb87, tb94, tb96, tb124, tb126, tb128, tb141, tb145, tb155, tb158, tb161, tb163, tb164, tb182, tb195, tb199, tb207, tb216, tb233, tb252, tb253, tb255, tb257, tb258, tb259, tb260, tb261, tb263, trivial⟩
theorem fn12 : HasBody Tryz.prog 12 := hasBody Tryz.func12 (by kernel_rfl) (by kernel_rfl)
theorem fn13 : HasBody Tryz.prog 13 := hasBody Tryz.func13 (by kernel_rfl) (by kernel_rfl)
theorem fn14 : HasBody Tryz.prog 14 := hasBody Tryz.func14 (by kernel_rfl) (by kernel_rfl)
theorem fn15 : HasBody Tryz.prog 15 := hasBody Tryz.func15 (by kernel_rfl) (by kernel_rfl)
theorem fn16 : HasBody Tryz.prog 16 := hasBody Tryz.func16 (by kernel_rfl) (by kernel_rfl)
theorem fn17 : HasBody Tryz.prog 17 := hasBody Tryz.func17 (by kernel_rfl) (by kernel_rfl)
theorem fn18 : HasBody Tryz.prog 18 := hasBody Tryz.func18 (by kernel_rfl) (by kernel_rfl)
theorem fn19 : HasBody Tryz.prog 19 := hasBody Tryz.func19 (by kernel_rfl) (by kernel_rfl)
theorem fn20 : HasBody Tryz.prog 20 := hasBody Tryz.func20 (by kernel_rfl) (by kernel_rfl)
theorem fn29 : HasBody Tryz.prog 29 := hasBody Tryz.func29 (by kernel_rfl) (by kernel_rfl)
theorem fn34 : HasBody Tryz.prog 34 := hasBody Tryz.func34 (by kernel_rfl) (by kernel_rfl)
theorem fn35 : HasBody Tryz.prog 35 := hasBody Tryz.func35 (by kernel_rfl) (by kernel_rfl)
theorem fn36 : HasBody Tryz.prog 36 := hasBody Tryz.func36 (by kernel_rfl) (by kernel_rfl)
theorem fn37 : HasBody Tryz.prog 37 := hasBody Tryz.func37 (by kernel_rfl) (by kernel_rfl)
theorem fn38 : HasBody Tryz.prog 38 := hasBody Tryz.func38 (by kernel_rfl) (by kernel_rfl)
theorem fn40 : HasBody Tryz.prog 40 := hasBody Tryz.func40 (by kernel_rfl) (by kernel_rfl)
theorem fn41 : HasBody Tryz.prog 41 := hasBody Tryz.func41 (by kernel_rfl) (by kernel_rfl)
theorem fn42 : HasBody Tryz.prog 42 := hasBody Tryz.func42 (by kernel_rfl) (by kernel_rfl)
theorem fn43 : HasBody Tryz.prog 43 := hasBody Tryz.func43 (by kernel_rfl) (by kernel_rfl)
theorem fn44 : HasBody Tryz.prog 44 := hasBody Tryz.func44 (by kernel_rfl) (by kernel_rfl)
theorem fn45 : HasBody Tryz.prog 45 := hasBody Tryz.func45 (by kernel_rfl) (by kernel_rfl)
theorem fn46 : HasBody Tryz.prog 46 := hasBody Tryz.func46 (by kernel_rfl) (by kernel_rfl)
theorem fn47 : HasBody Tryz.prog 47 := hasBody Tryz.func47 (by kernel_rfl) (by kernel_rfl)
theorem fn48 : HasBody Tryz.prog 48 := hasBody Tryz.func48 (by kernel_rfl) (by kernel_rfl)
theorem fn49 : HasBody Tryz.prog 49 := hasBody Tryz.func49 (by kernel_rfl) (by kernel_rfl)
theorem fn50 : HasBody Tryz.prog 50 := hasBody Tryz.func50 (by kernel_rfl) (by kernel_rfl)
theorem fn51 : HasBody Tryz.prog 51 := hasBody Tryz.func51 (by kernel_rfl) (by kernel_rfl)
theorem fn52 : HasBody Tryz.prog 52 := hasBody Tryz.func52 (by kernel_rfl) (by kernel_rfl)
theorem fn53 : HasBody Tryz.prog 53 := hasBody Tryz.func53 (by kernel_rfl) (by kernel_rfl)
theorem fn54 : HasBody Tryz.prog 54 := hasBody Tryz.func54 (by kernel_rfl) (by kernel_rfl)
theorem fn55 : HasBody Tryz.prog 55 := hasBody Tryz.func55 (by kernel_rfl) (by kernel_rfl)
theorem fn56 : HasBody Tryz.prog 56 := hasBody Tryz.func56 (by kernel_rfl) (by kernel_rfl)
theorem fn77 : HasBody Tryz.prog 77 := hasBody Tryz.func77 (by kernel_rfl) (by kernel_rfl)
theorem fn78 : HasBody Tryz.prog 78 := hasBody Tryz.func78 (by kernel_rfl) (by kernel_rfl)
theorem fn80 : HasBody Tryz.prog 80 := hasBody Tryz.func80 (by kernel_rfl) (by kernel_rfl)
theorem fn81 : HasBody Tryz.prog 81 := hasBody Tryz.func81 (by kernel_rfl) (by kernel_rfl)
theorem fn83 : HasBody Tryz.prog 83 := hasBody Tryz.func83 (by kernel_rfl) (by kernel_rfl)
theorem fn85 : HasBody Tryz.prog 85 := hasBody Tryz.func85 (by kernel_rfl) (by kernel_rfl)
theorem fn86 : HasBody Tryz.prog 86 := hasBody Tryz.func86 (by kernel_rfl) (by kernel_rfl)
theorem fn87 : HasBody Tryz.prog 87 := hasBody Tryz.func87 (by kernel_rfl) (by kernel_rfl)
theorem fn88 : HasBody Tryz.prog 88 := hasBody Tryz.func88 (by kernel_rfl) (by kernel_rfl)
theorem fn89 : HasBody Tryz.prog 89 := hasBody Tryz.func89 (by kernel_rfl) (by kernel_rfl)
theorem fn90 : HasBody Tryz.prog 90 := hasBody Tryz.func90 (by kernel_rfl) (by kernel_rfl)
theorem fn91 : HasBody Tryz.prog 91 := hasBody Tryz.func91 (by kernel_rfl) (by kernel_rfl)
theorem fn92 : HasBody Tryz.prog 92 := hasBody Tryz.func92 (by kernel_rfl) (by kernel_rfl)
theorem fn93 : HasBody Tryz.prog 93 := hasBody Tryz.func93 (by kernel_rfl) (by kernel_rfl)
theorem fn94 : HasBody Tryz.prog 94 := hasBody Tryz.func94 (by kernel_rfl) (by kernel_rfl)
theorem fn95 : HasBody Tryz.prog 95 := hasBody Tryz.func95 (by kernel_rfl) (by kernel_rfl)
theorem fn96 : HasBody Tryz.prog 96 := hasBody Tryz.func96 (by kernel_rfl) (by kernel_rfl)
theorem fn97 : HasBody Tryz.prog 97 := hasBody Tryz.func97 (by kernel_rfl) (by kernel_rfl)
theorem fn98 : HasBody Tryz.prog 98 := hasBody Tryz.func98 (by kernel_rfl) (by kernel_rfl)
theorem fn99 : HasBody Tryz.prog 99 := hasBody Tryz.func99 (by kernel_rfl) (by kernel_rfl)
theorem fn101 : HasBody Tryz.prog 101 := hasBody Tryz.func101 (by kernel_rfl) (by kernel_rfl)
theorem fn102 : HasBody Tryz.prog 102 := hasBody Tryz.func102 (by kernel_rfl) (by kernel_rfl)
theorem fn103 : HasBody Tryz.prog 103 := hasBody Tryz.func103 (by kernel_rfl) (by kernel_rfl)
theorem fn104 : HasBody Tryz.prog 104 := hasBody Tryz.func104 (by kernel_rfl) (by kernel_rfl)
theorem fn105 : HasBody Tryz.prog 105 := hasBody Tryz.func105 (by kernel_rfl) (by kernel_rfl)
theorem fn107 : HasBody Tryz.prog 107 := hasBody Tryz.func107 (by kernel_rfl) (by kernel_rfl)
theorem fn110 : HasBody Tryz.prog 110 := hasBody Tryz.func110 (by kernel_rfl) (by kernel_rfl)
theorem fn113 : HasBody Tryz.prog 113 := hasBody Tryz.func113 (by kernel_rfl) (by kernel_rfl)
theorem fn119 : HasBody Tryz.prog 119 := hasBody Tryz.func119 (by kernel_rfl) (by kernel_rfl)
theorem fn120 : HasBody Tryz.prog 120 := hasBody Tryz.func120 (by kernel_rfl) (by kernel_rfl)
theorem fn128 : HasBody Tryz.prog 128 := hasBody Tryz.func128 (by kernel_rfl) (by kernel_rfl)
theorem fn132 : HasBody Tryz.prog 132 := hasBody Tryz.func132 (by kernel_rfl) (by kernel_rfl)
theorem fn133 : HasBody Tryz.prog 133 := hasBody Tryz.func133 (by kernel_rfl) (by kernel_rfl)
theorem fn135 : HasBody Tryz.prog 135 := hasBody Tryz.func135 (by kernel_rfl) (by kernel_rfl)
theorem fn137 : HasBody Tryz.prog 137 := hasBody Tryz.func137 (by kernel_rfl) (by kernel_rfl)
theorem fn138 : HasBody Tryz.prog 138 := hasBody Tryz.func138 (by kernel_rfl) (by kernel_rfl)
theorem fn139 : HasBody Tryz.prog 139 := hasBody Tryz.func139 (by kernel_rfl) (by kernel_rfl)
theorem fn140 : HasBody Tryz.prog 140 := hasBody Tryz.func140 (by kernel_rfl) (by kernel_rfl)
theorem fn141 : HasBody Tryz.prog 141 := hasBody Tryz.func141 (by kernel_rfl) (by kernel_rfl)
theorem fn142 : HasBody Tryz.prog 142 := hasBody Tryz.func142 (by kernel_rfl) (by kernel_rfl)
theorem fn143 : HasBody Tryz.prog 143 := hasBody Tryz.func143 (by kernel_rfl) (by kernel_rfl)
theorem fn145 : HasBody Tryz.prog 145 := hasBody Tryz.func145 (by kernel_rfl) (by kernel_rfl)
theorem fn146 : HasBody Tryz.prog 146 := hasBody Tryz.func146 (by kernel_rfl) (by kernel_rfl)
theorem fn154 : HasBody Tryz.prog 154 := hasBody Tryz.func154 (by kernel_rfl) (by kernel_rfl)
theorem fn156 : HasBody Tryz.prog 156 := hasBody Tryz.func156 (by kernel_rfl) (by kernel_rfl)
theorem fn162 : HasBody Tryz.prog 162 := hasBody Tryz.func162 (by kernel_rfl) (by kernel_rfl)
theorem fn163 : HasBody Tryz.prog 163 := hasBody Tryz.func163 (by kernel_rfl) (by kernel_rfl)
theorem fn165 : HasBody Tryz.prog 165 := hasBody Tryz.func165 (by kernel_rfl) (by kernel_rfl)
theorem fn185 : HasBody Tryz.prog 185 := hasBody Tryz.func185 (by kernel_rfl) (by kernel_rfl)
theorem ap22 : ApOk Tryz.prog 22 3 1 := ⟨by kernel_rfl, by kernel_rfl, by decide⟩
theorem ap23 : ApOk Tryz.prog 23 5 1 := ⟨by kernel_rfl, by kernel_rfl, by decide⟩
theorem ap25 : ApOk Tryz.prog 25 54 5 := ⟨by kernel_rfl, by kernel_rfl, by decide⟩
theorem ap26 : ApOk Tryz.prog 26 77 3 := ⟨by kernel_rfl, by kernel_rfl, by decide⟩
theorem ap31 : ApOk Tryz.prog 31 9 1 := ⟨by kernel_rfl, by kernel_rfl, by decide⟩
theorem ap40 : ApOk Tryz.prog 40 94 2 := ⟨by kernel_rfl, by kernel_rfl, by decide⟩
theorem ap41 : ApOk Tryz.prog 41 96 2 := ⟨by kernel_rfl, by kernel_rfl, by decide⟩
theorem ap52 : ApOk Tryz.prog 52 31 1 := ⟨by kernel_rfl, by kernel_rfl, by decide⟩
theorem held158 : Tryz.prog.stoodInHeld 158 = false := by kernel_rfl
theorem eg158 : Tryz.prog.eqGuardType Tryz.prog.depth 158 = false := by kernel_rfl
theorem eqT158 {x0 y0 : List UInt8} {x1 y1 : Int} : EqLaw Tryz.prog 158 [.str x0, .int .i64 x1] [.str y0, .int .i64 y1] ((x0 == y0) && (x1 == y1)) := by
  intro w X xs ys hx hy
  simp only [Reps, Rep] at hx hy
  obtain ⟨_, _, rfl, rfl, _, _, rfl, rfl, rfl⟩ := hx
  obtain ⟨_, _, rfl, rfl, _, _, rfl, rfl, rfl⟩ := hy
  unfold Op.equal
  obtain ⟨m, hm⟩ : ∃ m, Op.maxDepth = m + 2 := ⟨9998, rfl⟩
  rw [hm]
  have hprog : (program : Sem Program).run Tryz.prog w = .ok Tryz.prog w := rfl
  unfold Op.equalIn
  simp only [Sem.run_bind, run_underlying Tryz.underlying158, Result.andThen_ok, hprog, held158, Bool.false_eq_true, if_false, List.forIn_toArray, List.forIn_cons, List.forIn_nil]
  have p0 : (part 9 ⟨[.string ⟨⟨x0⟩⟩, .int .i64 x1]⟩ 0).run Tryz.prog w = .ok (.string ⟨⟨x0⟩⟩) w := run_part_one tb9 rfl w _ _ _ rfl
  have r0 : (part 9 ⟨[.string ⟨⟨y0⟩⟩, .int .i64 y1]⟩ 0).run Tryz.prog w = .ok (.string ⟨⟨y0⟩⟩) w := run_part_one tb9 rfl w _ _ _ rfl
  have q0 : (Op.equalIn (m + 1) 9 (.string ⟨⟨x0⟩⟩) (.string ⟨⟨y0⟩⟩)).run Tryz.prog w = .ok (x0 == y0) w := eqIn_str Tryz.underlying9 w
  have p1 : (part 3 ⟨[.string ⟨⟨x0⟩⟩, .int .i64 x1]⟩ 1).run Tryz.prog w = .ok (.int .i64 x1) w := run_part_one tb3 rfl w _ _ _ rfl
  have r1 : (part 3 ⟨[.string ⟨⟨y0⟩⟩, .int .i64 y1]⟩ 1).run Tryz.prog w = .ok (.int .i64 y1) w := run_part_one tb3 rfl w _ _ _ rfl
  have q1 : (Op.equalIn (m + 1) 3 (.int .i64 x1) (.int .i64 y1)).run Tryz.prog w = .ok (x1 == y1) w := eqIn_int Tryz.underlying3 w
  cases h0 : (x0 == y0) with
  | false => simp [p0, r0, q0, h0]
  | true =>
    cases h1 : (x1 == y1) with
    | false => simp [p0, r0, q0, h0, p1, r1, q1, h1]
    | true =>
      simp [p0, r0, q0, h0, p1, r1, q1, h1]
theorem by23 : ByOk Tryz.prog 23 := ⟨⟨5, Tryz.underlying23, Tryz.underlying5⟩⟩
theorem apB23 : ApBytes Tryz.prog 23 5 := ⟨by kernel_rfl, by kernel_rfl⟩
theorem mixed : Tryz.prog.follows .mixedOrders = true := by kernel_rfl
end Go.Proofs.YtfkefolbabniaaaGreatDoor
