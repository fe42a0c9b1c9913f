/- The table of the types of this translation, for the engine; by program (tb3.py). -/
import Derived.Test.YtinickkcieecdaaGreatDoorProg
import Derived.Test.YtinickkcieecdaaGreatDoorVp
namespace Go.Proofs.YtinickkcieecdaaGreatDoor
open Go.V
def tb : List (Nat × TI) := [(1, ⟨1, .nilFunc, false, [], none, none, 0⟩),
  (2, ⟨1, .int .i64 0, false, [], some .i64, none, 0⟩),
  (3, ⟨1, .int .i64 0, false, [], some .i64, none, 0⟩),
  (4, ⟨1, .bool false, false, [], none, none, 1⟩),
  (5, ⟨1, .int .u8 0, false, [], some .u8, none, 0⟩),
  (6, ⟨1, .int .u8 0, false, [], some .u8, none, 0⟩),
  (7, ⟨4, .agg #[.int .i64 0, .int .i64 0, .bool false, .int .u8 0], true, [(0, 2), (1, 3), (2, 4), (3, 6)], none, none, 0⟩),
  (8, ⟨4, .agg #[.int .i64 0, .int .i64 0, .bool false, .int .u8 0], true, [(0, 2), (1, 3), (2, 4), (3, 6)], none, none, 0⟩),
  (9, ⟨1, .string ⟨⟨[]⟩⟩, false, [], none, none, 2⟩),
  (10, ⟨1, .string ⟨⟨[]⟩⟩, false, [], none, none, 2⟩),
  (11, ⟨1, .string ⟨⟨[]⟩⟩, false, [], none, none, 2⟩),
  (12, ⟨1, .int .u64 0, false, [], some .u64, none, 0⟩),
  (13, ⟨2, .agg #[.string ⟨⟨[]⟩⟩, .int .u64 0], true, [(0, 9), (1, 12)], none, none, 0⟩),
  (14, ⟨2, .agg #[.string ⟨⟨[]⟩⟩, .int .u64 0], true, [(0, 9), (1, 12)], none, none, 0⟩),
  (15, ⟨1, .pointer none, false, [], none, none, 0⟩),
  (16, ⟨1, .pointer none, false, [], none, none, 0⟩),
  (17, ⟨1, .pointer none, false, [], none, none, 0⟩),
  (18, ⟨1, .agg #[.pointer none], true, [(0, 17)], none, none, 0⟩),
  (19, ⟨1, .agg #[.pointer none], true, [(0, 17)], none, none, 0⟩),
  (20, ⟨1, .nilIface, false, [], none, none, 3⟩),
  (21, ⟨1, .int .i32 0, false, [], some .i32, none, 0⟩),
  (22, ⟨7, .agg #[.int .i64 0, .int .i64 0, .int .i64 0, .bool false, .int .i64 0, .bool false, .int .i64 0], true, [(0, 3), (1, 3), (2, 3), (3, 4), (4, 3), (5, 4), (6, 3)], none, none, 0⟩),
  (23, ⟨7, .agg #[.int .i64 0, .int .i64 0, .int .i64 0, .bool false, .int .i64 0, .bool false, .int .i64 0], true, [(0, 3), (1, 3), (2, 3), (3, 4), (4, 3), (5, 4), (6, 3)], none, none, 0⟩),
  (24, ⟨1, .slice none 0 0, false, [], none, some 1, 7⟩),
  (25, ⟨1, .nilFunc, false, [], none, none, 0⟩),
  (26, ⟨1, .int .i64 0, false, [], some .i64, none, 0⟩),
  (27, ⟨1, .nilFunc, false, [], none, none, 0⟩),
  (28, ⟨1, .nilFunc, false, [], none, none, 0⟩),
  (29, ⟨1, .int .u64 0, false, [], some .u64, none, 0⟩),
  (30, ⟨1, .nilFunc, false, [], none, none, 0⟩),
  (31, ⟨1, .nilFunc, false, [], none, none, 0⟩),
  (32, ⟨1, .nilFunc, false, [], none, none, 0⟩),
  (34, ⟨1, .nilFunc, false, [], none, none, 0⟩),
  (35, ⟨1, .nilFunc, false, [], none, none, 0⟩),
  (36, ⟨1, .slice none 0 0, false, [], none, some 1, 9⟩),
  (37, ⟨1, .slice none 0 0, false, [], none, some 1, 13⟩),
  (38, ⟨1, .nilFunc, false, [], none, none, 0⟩),
  (39, ⟨1, .nilFunc, false, [], none, none, 0⟩),
  (41, ⟨1, .nilFunc, false, [], none, none, 0⟩),
  (42, ⟨1, .nilFunc, false, [], none, none, 0⟩),
  (43, ⟨1, .nilFunc, false, [], none, none, 0⟩),
  (44, ⟨1, .nilFunc, false, [], none, none, 0⟩),
  (45, ⟨1, .pointer none, false, [], none, none, 0⟩),
  (46, ⟨1, .nilFunc, false, [], none, none, 0⟩),
  (47, ⟨2, .agg #[.slice none 0 0, .int .i64 0], true, [(0, 24), (1, 3)], none, none, 0⟩),
  (48, ⟨2, .agg #[.slice none 0 0, .int .i64 0], true, [(0, 24), (1, 3)], none, none, 0⟩),
  (49, ⟨1, .nilFunc, false, [], none, none, 0⟩),
  (50, ⟨1, .nilFunc, false, [], none, none, 0⟩),
  (51, ⟨1, .nilFunc, false, [], none, none, 0⟩),
  (52, ⟨1, .nilFunc, false, [], none, none, 0⟩),
  (54, ⟨1, .nilFunc, false, [], none, none, 0⟩),
  (55, ⟨1, .nilFunc, false, [], none, none, 0⟩),
  (56, ⟨1, .nilFunc, false, [], none, none, 0⟩),
  (57, ⟨1, .nilFunc, false, [], none, none, 0⟩),
  (58, ⟨1, .nilFunc, false, [], none, none, 0⟩),
  (59, ⟨1, .int .u64 0, false, [], some .u64, none, 0⟩),
  (60, ⟨2, .agg #[.int .u64 0, .int .u64 0], true, [(0, 59), (1, 59)], none, none, 0⟩),
  (61, ⟨2, .agg #[.int .u64 0, .int .u64 0], true, [(0, 59), (1, 59)], none, none, 0⟩),
  (62, ⟨1, .nilFunc, false, [], none, none, 0⟩),
  (63, ⟨1, .nilFunc, false, [], none, none, 0⟩),
  (65, ⟨1, .nilFunc, false, [], none, none, 0⟩),
  (66, ⟨1, .nilFunc, false, [], none, none, 0⟩),
  (68, ⟨1, .nilFunc, false, [], none, none, 0⟩),
  (69, ⟨1, .int .i64 0, false, [], some .i64, none, 0⟩),
  (70, ⟨2, .agg #[.int .u64 0, .int .u64 0], true, [(0, 59), (1, 59)], none, none, 0⟩),
  (72, ⟨1, .nilFunc, false, [], none, none, 0⟩),
  (73, ⟨1, .nilFunc, false, [], none, none, 0⟩),
  (74, ⟨1, .nilFunc, false, [], none, none, 0⟩),
  (75, ⟨1, .nilFunc, false, [], none, none, 0⟩),
  (76, ⟨1, .nilFunc, false, [], none, none, 0⟩),
  (77, ⟨1, .nilFunc, false, [], none, none, 0⟩),
  (78, ⟨1, .nilFunc, false, [], none, none, 0⟩),
  (79, ⟨1, .nilFunc, false, [], none, none, 0⟩),
  (80, ⟨1, .nilFunc, false, [], none, none, 0⟩),
  (81, ⟨1, .pointer none, false, [], none, none, 0⟩),
  (82, ⟨2, .agg #[.pointer none, .slice none 0 0], true, [(0, 81), (1, 36)], none, none, 0⟩),
  (83, ⟨2, .agg #[.pointer none, .slice none 0 0], true, [(0, 81), (1, 36)], none, none, 0⟩),
  (84, ⟨1, .nilFunc, false, [], none, none, 0⟩),
  (85, ⟨1, .nilIface, false, [], none, none, 3⟩),
  (86, ⟨1, .nilIface, false, [], none, none, 3⟩),
  (88, ⟨1, .nilFunc, false, [], none, none, 0⟩),
  (89, ⟨1, .nilFunc, false, [], none, none, 0⟩),
  (91, ⟨1, .nilFunc, false, [], none, none, 0⟩),
  (92, ⟨1, .pointer none, false, [], none, none, 0⟩),
  (93, ⟨1, .nilFunc, false, [], none, none, 0⟩),
  (94, ⟨1, .nilFunc, false, [], none, none, 0⟩),
  (96, ⟨1, .nilFunc, false, [], none, none, 0⟩),
  (97, ⟨1, .nilFunc, false, [], none, none, 0⟩),
  (98, ⟨1, .nilFunc, false, [], none, none, 0⟩),
  (100, ⟨1, .nilFunc, false, [], none, none, 0⟩),
  (101, ⟨1, .nilFunc, false, [], none, none, 0⟩),
  (105, ⟨1, .nilFunc, false, [], none, none, 0⟩),
  (106, ⟨1, .nilFunc, false, [], none, none, 0⟩),
  (107, ⟨1, .pointer none, false, [], none, none, 0⟩),
  (108, ⟨1, .nilFunc, false, [], none, none, 0⟩),
  (109, ⟨1, .nilFunc, false, [], none, none, 0⟩),
  (110, ⟨1, .pointer none, false, [], none, none, 0⟩),
  (112, ⟨1, .nilFunc, false, [], none, none, 0⟩),
  (114, ⟨1, .nilFunc, false, [], none, none, 0⟩),
  (115, ⟨1, .nilFunc, false, [], none, none, 0⟩),
  (116, ⟨1, .nilFunc, false, [], none, none, 0⟩),
  (117, ⟨1, .nilFunc, false, [], none, none, 0⟩),
  (118, ⟨1, .nilFunc, false, [], none, none, 0⟩),
  (120, ⟨1, .nilFunc, false, [], none, none, 0⟩),
  (121, ⟨1, .nilFunc, false, [], none, none, 0⟩),
  (122, ⟨24, .agg #[.int .u8 0, .int .u8 0, .int .u8 0, .int .u8 0, .int .u8 0, .int .u8 0, .int .u8 0, .int .u8 0, .int .u8 0, .int .u8 0, .int .u8 0, .int .u8 0, .int .u8 0, .int .u8 0, .int .u8 0, .int .u8 0, .int .u8 0, .int .u8 0, .int .u8 0, .int .u8 0, .int .u8 0, .int .u8 0, .int .u8 0, .int .u8 0], true, [], none, none, 0⟩),
  (123, ⟨1, .nilFunc, false, [], none, none, 0⟩),
  (125, ⟨1, .nilFunc, false, [], none, none, 0⟩),
  (127, ⟨1, .nilFunc, false, [], none, none, 0⟩),
  (128, ⟨1, .nilFunc, false, [], none, none, 0⟩),
  (130, ⟨1, .nilFunc, false, [], none, none, 0⟩),
  (131, ⟨1, .nilFunc, false, [], none, none, 0⟩),
  (132, ⟨1, .nilFunc, false, [], none, none, 0⟩),
  (133, ⟨1, .nilFunc, false, [], none, none, 0⟩),
  (134, ⟨1, .nilFunc, false, [], none, none, 0⟩),
  (135, ⟨20, .agg #[.int .u64 0, .int .u64 0, .int .u64 0, .int .u64 0, .int .u64 0, .int .u64 0, .int .u64 0, .int .u64 0, .int .u64 0, .int .u64 0, .int .u64 0, .int .u64 0, .int .u64 0, .int .u64 0, .int .u64 0, .int .u64 0, .int .u64 0, .int .u64 0, .int .u64 0, .int .u64 0], true, [], none, none, 0⟩),
  (136, ⟨1, .int .u32 0, false, [], some .u32, none, 0⟩),
  (138, ⟨1, .nilFunc, false, [], none, none, 0⟩),
  (139, ⟨1, .int .i64 0, false, [], some .i64, none, 0⟩),
  (141, ⟨1, .nilFunc, false, [], none, none, 0⟩),
  (142, ⟨1, .pointer none, false, [], none, none, 0⟩),
  (143, ⟨1, .nilFunc, false, [], none, none, 0⟩),
  (144, ⟨1, .nilFunc, false, [], none, none, 0⟩),
  (145, ⟨1, .nilFunc, false, [], none, none, 0⟩),
  (146, ⟨1, .nilFunc, false, [], none, none, 0⟩),
  (147, ⟨1, .nilFunc, false, [], none, none, 0⟩),
  (149, ⟨1, .nilFunc, false, [], none, none, 0⟩),
  (150, ⟨1, .nilFunc, false, [], none, none, 0⟩),
  (151, ⟨3, .agg #[.string ⟨⟨[]⟩⟩, .string ⟨⟨[]⟩⟩, .nilIface], true, [(0, 9), (1, 9), (2, 86)], none, none, 0⟩),
  (152, ⟨3, .agg #[.string ⟨⟨[]⟩⟩, .string ⟨⟨[]⟩⟩, .nilIface], true, [(0, 9), (1, 9), (2, 86)], none, none, 0⟩),
  (153, ⟨1, .nilFunc, false, [], none, none, 0⟩),
  (155, ⟨2, .agg #[.int .u8 0, .int .u8 0], true, [(0, 5), (1, 5)], none, none, 0⟩),
  (156, ⟨2, .agg #[.int .u8 0, .int .u8 0], true, [(0, 5), (1, 5)], none, none, 0⟩),
  (157, ⟨32, .agg #[.int .u8 0, .int .u8 0, .int .u8 0, .int .u8 0, .int .u8 0, .int .u8 0, .int .u8 0, .int .u8 0, .int .u8 0, .int .u8 0, .int .u8 0, .int .u8 0, .int .u8 0, .int .u8 0, .int .u8 0, .int .u8 0, .int .u8 0, .int .u8 0, .int .u8 0, .int .u8 0, .int .u8 0, .int .u8 0, .int .u8 0, .int .u8 0, .int .u8 0, .int .u8 0, .int .u8 0, .int .u8 0, .int .u8 0, .int .u8 0, .int .u8 0, .int .u8 0], true, [], none, none, 0⟩),
  (159, ⟨1, .nilFunc, false, [], none, none, 0⟩),
  (160, ⟨32, .agg #[.int .u8 0, .int .u8 0, .int .u8 0, .int .u8 0, .int .u8 0, .int .u8 0, .int .u8 0, .int .u8 0, .int .u8 0, .int .u8 0, .int .u8 0, .int .u8 0, .int .u8 0, .int .u8 0, .int .u8 0, .int .u8 0, .int .u8 0, .int .u8 0, .int .u8 0, .int .u8 0, .int .u8 0, .int .u8 0, .int .u8 0, .int .u8 0, .int .u8 0, .int .u8 0, .int .u8 0, .int .u8 0, .int .u8 0, .int .u8 0, .int .u8 0, .int .u8 0], true, [], none, none, 0⟩),
  (162, ⟨1, .nilFunc, false, [], none, none, 0⟩),
  (163, ⟨1, .nilFunc, false, [], none, none, 0⟩),
  (164, ⟨1, .pointer none, false, [], none, none, 0⟩),
  (165, ⟨1, .agg #[.string ⟨⟨[]⟩⟩], true, [(0, 9)], none, none, 0⟩),
  (166, ⟨1, .agg #[.string ⟨⟨[]⟩⟩], true, [(0, 9)], none, none, 0⟩),
  (167, ⟨4, .agg #[.pointer none, .pointer none, .pointer none, .string ⟨⟨[]⟩⟩], true, [(0, 17), (1, 17), (2, 17), (3, 9)], none, none, 0⟩),
  (168, ⟨4, .agg #[.pointer none, .pointer none, .pointer none, .string ⟨⟨[]⟩⟩], true, [(0, 17), (1, 17), (2, 17), (3, 9)], none, none, 0⟩),
  (169, ⟨0, .agg #[], true, [], none, none, 0⟩),
  (170, ⟨0, .agg #[], true, [(1000000, 169)], none, none, 0⟩),
  (171, ⟨0, .agg #[], true, [(1000000, 169)], none, none, 0⟩),
  (172, ⟨1, .int .u8 0, false, [], some .u8, none, 0⟩),
  (173, ⟨1, .int .u8 0, false, [], some .u8, none, 0⟩),
  (174, ⟨1, .nilFunc, false, [], none, none, 0⟩),
  (175, ⟨1, .int .i32 0, false, [], some .i32, none, 0⟩),
  (176, ⟨1, .int .i32 0, false, [], some .i32, none, 0⟩),
  (177, ⟨11, .agg #[.int .u64 0, .int .u64 0, .int .u32 0, .int .u8 0, .int .u8 0, .int .u8 0, .int .u8 0, .nilFunc, .pointer none, .int .i32 0, .int .i32 0], true, [(0, 12), (1, 12), (2, 136), (3, 172), (4, 5), (5, 5), (6, 173), (7, 174), (8, 110), (9, 175), (10, 176)], none, none, 0⟩),
  (178, ⟨11, .agg #[.int .u64 0, .int .u64 0, .int .u32 0, .int .u8 0, .int .u8 0, .int .u8 0, .int .u8 0, .nilFunc, .pointer none, .int .i32 0, .int .i32 0], true, [(0, 12), (1, 12), (2, 136), (3, 172), (4, 5), (5, 5), (6, 173), (7, 174), (8, 110), (9, 175), (10, 176)], none, none, 0⟩)]
theorem tb1 : TIok Tryz.prog 1 ((get tb 1).getD ⟨0, undef, false, [], none, none, 0⟩) := ⟨by kernel_rfl, by kernel_rfl⟩
theorem tb2 : TIok Tryz.prog 2 ((get tb 2).getD ⟨0, undef, false, [], none, none, 0⟩) := ⟨by kernel_rfl, by kernel_rfl⟩
theorem tb3 : TIok Tryz.prog 3 ((get tb 3).getD ⟨0, undef, false, [], none, none, 0⟩) := ⟨by kernel_rfl, by kernel_rfl⟩
theorem tb4 : TIok Tryz.prog 4 ((get tb 4).getD ⟨0, undef, false, [], none, none, 0⟩) := ⟨by kernel_rfl, by kernel_rfl⟩
theorem tb5 : TIok Tryz.prog 5 ((get tb 5).getD ⟨0, undef, false, [], none, none, 0⟩) := ⟨by kernel_rfl, by kernel_rfl⟩
theorem tb6 : TIok Tryz.prog 6 ((get tb 6).getD ⟨0, undef, false, [], none, none, 0⟩) := ⟨by kernel_rfl, by kernel_rfl⟩
theorem tb7 : TIok Tryz.prog 7 ((get tb 7).getD ⟨0, undef, false, [], none, none, 0⟩) := ⟨by kernel_rfl, by kernel_rfl⟩
theorem tb8 : TIok Tryz.prog 8 ((get tb 8).getD ⟨0, undef, false, [], none, none, 0⟩) := ⟨by kernel_rfl, by kernel_rfl⟩
theorem tb9 : TIok Tryz.prog 9 ((get tb 9).getD ⟨0, undef, false, [], none, none, 0⟩) := ⟨by kernel_rfl, by kernel_rfl⟩
theorem tb10 : TIok Tryz.prog 10 ((get tb 10).getD ⟨0, undef, false, [], none, none, 0⟩) := ⟨by kernel_rfl, by kernel_rfl⟩
theorem tb11 : TIok Tryz.prog 11 ((get tb 11).getD ⟨0, undef, false, [], none, none, 0⟩) := ⟨by kernel_rfl, by kernel_rfl⟩
theorem tb12 : TIok Tryz.prog 12 ((get tb 12).getD ⟨0, undef, false, [], none, none, 0⟩) := ⟨by kernel_rfl, by kernel_rfl⟩
theorem tb13 : TIok Tryz.prog 13 ((get tb 13).getD ⟨0, undef, false, [], none, none, 0⟩) := ⟨by kernel_rfl, by kernel_rfl⟩
theorem tb14 : TIok Tryz.prog 14 ((get tb 14).getD ⟨0, undef, false, [], none, none, 0⟩) := ⟨by kernel_rfl, by kernel_rfl⟩
theorem tb15 : TIok Tryz.prog 15 ((get tb 15).getD ⟨0, undef, false, [], none, none, 0⟩) := ⟨by kernel_rfl, by kernel_rfl⟩
theorem tb16 : TIok Tryz.prog 16 ((get tb 16).getD ⟨0, undef, false, [], none, none, 0⟩) := ⟨by kernel_rfl, by kernel_rfl⟩
theorem tb17 : TIok Tryz.prog 17 ((get tb 17).getD ⟨0, undef, false, [], none, none, 0⟩) := ⟨by kernel_rfl, by kernel_rfl⟩
theorem tb18 : TIok Tryz.prog 18 ((get tb 18).getD ⟨0, undef, false, [], none, none, 0⟩) := ⟨by kernel_rfl, by kernel_rfl⟩
theorem tb19 : TIok Tryz.prog 19 ((get tb 19).getD ⟨0, undef, false, [], none, none, 0⟩) := ⟨by kernel_rfl, by kernel_rfl⟩
theorem tb20 : TIok Tryz.prog 20 ((get tb 20).getD ⟨0, undef, false, [], none, none, 0⟩) := ⟨by kernel_rfl, by kernel_rfl⟩
theorem tb21 : TIok Tryz.prog 21 ((get tb 21).getD ⟨0, undef, false, [], none, none, 0⟩) := ⟨by kernel_rfl, by kernel_rfl⟩
theorem tb22 : TIok Tryz.prog 22 ((get tb 22).getD ⟨0, undef, false, [], none, none, 0⟩) := ⟨by kernel_rfl, by kernel_rfl⟩
theorem tb23 : TIok Tryz.prog 23 ((get tb 23).getD ⟨0, undef, false, [], none, none, 0⟩) := ⟨by kernel_rfl, by kernel_rfl⟩
theorem tb24 : TIok Tryz.prog 24 ((get tb 24).getD ⟨0, undef, false, [], none, none, 0⟩) := ⟨by kernel_rfl, by kernel_rfl⟩
theorem tb25 : TIok Tryz.prog 25 ((get tb 25).getD ⟨0, undef, false, [], none, none, 0⟩) := ⟨by kernel_rfl, by kernel_rfl⟩
theorem tb26 : TIok Tryz.prog 26 ((get tb 26).getD ⟨0, undef, false, [], none, none, 0⟩) := ⟨by kernel_rfl, by kernel_rfl⟩
theorem tb27 : TIok Tryz.prog 27 ((get tb 27).getD ⟨0, undef, false, [], none, none, 0⟩) := ⟨by kernel_rfl, by kernel_rfl⟩
theorem tb28 : TIok Tryz.prog 28 ((get tb 28).getD ⟨0, undef, false, [], none, none, 0⟩) := ⟨by kernel_rfl, by kernel_rfl⟩
theorem tb29 : TIok Tryz.prog 29 ((get tb 29).getD ⟨0, undef, false, [], none, none, 0⟩) := ⟨by kernel_rfl, by kernel_rfl⟩
theorem tb30 : TIok Tryz.prog 30 ((get tb 30).getD ⟨0, undef, false, [], none, none, 0⟩) := ⟨by kernel_rfl, by kernel_rfl⟩
theorem tb31 : TIok Tryz.prog 31 ((get tb 31).getD ⟨0, undef, false, [], none, none, 0⟩) := ⟨by kernel_rfl, by kernel_rfl⟩
theorem tb32 : TIok Tryz.prog 32 ((get tb 32).getD ⟨0, undef, false, [], none, none, 0⟩) := ⟨by kernel_rfl, by kernel_rfl⟩
theorem tb34 : TIok Tryz.prog 34 ((get tb 34).getD ⟨0, undef, false, [], none, none, 0⟩) := ⟨by kernel_rfl, by kernel_rfl⟩
theorem tb35 : TIok Tryz.prog 35 ((get tb 35).getD ⟨0, undef, false, [], none, none, 0⟩) := ⟨by kernel_rfl, by kernel_rfl⟩
theorem tb36 : TIok Tryz.prog 36 ((get tb 36).getD ⟨0, undef, false, [], none, none, 0⟩) := ⟨by kernel_rfl, by kernel_rfl⟩
theorem tb37 : TIok Tryz.prog 37 ((get tb 37).getD ⟨0, undef, false, [], none, none, 0⟩) := ⟨by kernel_rfl, by kernel_rfl⟩
theorem tb38 : TIok Tryz.prog 38 ((get tb 38).getD ⟨0, undef, false, [], none, none, 0⟩) := ⟨by kernel_rfl, by kernel_rfl⟩
theorem tb39 : TIok Tryz.prog 39 ((get tb 39).getD ⟨0, undef, false, [], none, none, 0⟩) := ⟨by kernel_rfl, by kernel_rfl⟩
theorem tb41 : TIok Tryz.prog 41 ((get tb 41).getD ⟨0, undef, false, [], none, none, 0⟩) := ⟨by kernel_rfl, by kernel_rfl⟩
theorem tb42 : TIok Tryz.prog 42 ((get tb 42).getD ⟨0, undef, false, [], none, none, 0⟩) := ⟨by kernel_rfl, by kernel_rfl⟩
theorem tb43 : TIok Tryz.prog 43 ((get tb 43).getD ⟨0, undef, false, [], none, none, 0⟩) := ⟨by kernel_rfl, by kernel_rfl⟩
theorem tb44 : TIok Tryz.prog 44 ((get tb 44).getD ⟨0, undef, false, [], none, none, 0⟩) := ⟨by kernel_rfl, by kernel_rfl⟩
theorem tb45 : TIok Tryz.prog 45 ((get tb 45).getD ⟨0, undef, false, [], none, none, 0⟩) := ⟨by kernel_rfl, by kernel_rfl⟩
theorem tb46 : TIok Tryz.prog 46 ((get tb 46).getD ⟨0, undef, false, [], none, none, 0⟩) := ⟨by kernel_rfl, by kernel_rfl⟩
theorem tb47 : TIok Tryz.prog 47 ((get tb 47).getD ⟨0, undef, false, [], none, none, 0⟩) := ⟨by kernel_rfl, by kernel_rfl⟩
theorem tb48 : TIok Tryz.prog 48 ((get tb 48).getD ⟨0, undef, false, [], none, none, 0⟩) := ⟨by kernel_rfl, by kernel_rfl⟩
theorem tb49 : TIok Tryz.prog 49 ((get tb 49).getD ⟨0, undef, false, [], none, none, 0⟩) := ⟨by kernel_rfl, by kernel_rfl⟩
theorem tb50 : TIok Tryz.prog 50 ((get tb 50).getD ⟨0, undef, false, [], none, none, 0⟩) := ⟨by kernel_rfl, by kernel_rfl⟩
theorem tb51 : TIok Tryz.prog 51 ((get tb 51).getD ⟨0, undef, false, [], none, none, 0⟩) := ⟨by kernel_rfl, by kernel_rfl⟩
theorem tb52 : TIok Tryz.prog 52 ((get tb 52).getD ⟨0, undef, false, [], none, none, 0⟩) := ⟨by kernel_rfl, by kernel_rfl⟩
theorem tb54 : TIok Tryz.prog 54 ((get tb 54).getD ⟨0, undef, false, [], none, none, 0⟩) := ⟨by kernel_rfl, by kernel_rfl⟩
theorem tb55 : TIok Tryz.prog 55 ((get tb 55).getD ⟨0, undef, false, [], none, none, 0⟩) := ⟨by kernel_rfl, by kernel_rfl⟩
theorem tb56 : TIok Tryz.prog 56 ((get tb 56).getD ⟨0, undef, false, [], none, none, 0⟩) := ⟨by kernel_rfl, by kernel_rfl⟩
theorem tb57 : TIok Tryz.prog 57 ((get tb 57).getD ⟨0, undef, false, [], none, none, 0⟩) := ⟨by kernel_rfl, by kernel_rfl⟩
theorem tb58 : TIok Tryz.prog 58 ((get tb 58).getD ⟨0, undef, false, [], none, none, 0⟩) := ⟨by kernel_rfl, by kernel_rfl⟩
theorem tb59 : TIok Tryz.prog 59 ((get tb 59).getD ⟨0, undef, false, [], none, none, 0⟩) := ⟨by kernel_rfl, by kernel_rfl⟩
theorem tb60 : TIok Tryz.prog 60 ((get tb 60).getD ⟨0, undef, false, [], none, none, 0⟩) := ⟨by kernel_rfl, by kernel_rfl⟩
theorem tb61 : TIok Tryz.prog 61 ((get tb 61).getD ⟨0, undef, false, [], none, none, 0⟩) := ⟨by kernel_rfl, by kernel_rfl⟩
theorem tb62 : TIok Tryz.prog 62 ((get tb 62).getD ⟨0, undef, false, [], none, none, 0⟩) := ⟨by kernel_rfl, by kernel_rfl⟩
theorem tb63 : TIok Tryz.prog 63 ((get tb 63).getD ⟨0, undef, false, [], none, none, 0⟩) := ⟨by kernel_rfl, by kernel_rfl⟩
theorem tb65 : TIok Tryz.prog 65 ((get tb 65).getD ⟨0, undef, false, [], none, none, 0⟩) := ⟨by kernel_rfl, by kernel_rfl⟩
theorem tb66 : TIok Tryz.prog 66 ((get tb 66).getD ⟨0, undef, false, [], none, none, 0⟩) := ⟨by kernel_rfl, by kernel_rfl⟩
theorem tb68 : TIok Tryz.prog 68 ((get tb 68).getD ⟨0, undef, false, [], none, none, 0⟩) := ⟨by kernel_rfl, by kernel_rfl⟩
theorem tb69 : TIok Tryz.prog 69 ((get tb 69).getD ⟨0, undef, false, [], none, none, 0⟩) := ⟨by kernel_rfl, by kernel_rfl⟩
theorem tb70 : TIok Tryz.prog 70 ((get tb 70).getD ⟨0, undef, false, [], none, none, 0⟩) := ⟨by kernel_rfl, by kernel_rfl⟩
theorem tb72 : TIok Tryz.prog 72 ((get tb 72).getD ⟨0, undef, false, [], none, none, 0⟩) := ⟨by kernel_rfl, by kernel_rfl⟩
theorem tb73 : TIok Tryz.prog 73 ((get tb 73).getD ⟨0, undef, false, [], none, none, 0⟩) := ⟨by kernel_rfl, by kernel_rfl⟩
theorem tb74 : TIok Tryz.prog 74 ((get tb 74).getD ⟨0, undef, false, [], none, none, 0⟩) := ⟨by kernel_rfl, by kernel_rfl⟩
theorem tb75 : TIok Tryz.prog 75 ((get tb 75).getD ⟨0, undef, false, [], none, none, 0⟩) := ⟨by kernel_rfl, by kernel_rfl⟩
theorem tb76 : TIok Tryz.prog 76 ((get tb 76).getD ⟨0, undef, false, [], none, none, 0⟩) := ⟨by kernel_rfl, by kernel_rfl⟩
theorem tb77 : TIok Tryz.prog 77 ((get tb 77).getD ⟨0, undef, false, [], none, none, 0⟩) := ⟨by kernel_rfl, by kernel_rfl⟩
theorem tb78 : TIok Tryz.prog 78 ((get tb 78).getD ⟨0, undef, false, [], none, none, 0⟩) := ⟨by kernel_rfl, by kernel_rfl⟩
theorem tb79 : TIok Tryz.prog 79 ((get tb 79).getD ⟨0, undef, false, [], none, none, 0⟩) := ⟨by kernel_rfl, by kernel_rfl⟩
theorem tb80 : TIok Tryz.prog 80 ((get tb 80).getD ⟨0, undef, false, [], none, none, 0⟩) := ⟨by kernel_rfl, by kernel_rfl⟩
theorem tb81 : TIok Tryz.prog 81 ((get tb 81).getD ⟨0, undef, false, [], none, none, 0⟩) := ⟨by kernel_rfl, by kernel_rfl⟩
theorem tb82 : TIok Tryz.prog 82 ((get tb 82).getD ⟨0, undef, false, [], none, none, 0⟩) := ⟨by kernel_rfl, by kernel_rfl⟩
theorem tb83 : TIok Tryz.prog 83 ((get tb 83).getD ⟨0, undef, false, [], none, none, 0⟩) := ⟨by kernel_rfl, by kernel_rfl⟩
theorem tb84 : TIok Tryz.prog 84 ((get tb 84).getD ⟨0, undef, false, [], none, none, 0⟩) := ⟨by kernel_rfl, by kernel_rfl⟩
theorem tb85 : TIok Tryz.prog 85 ((get tb 85).getD ⟨0, undef, false, [], none, none, 0⟩) := ⟨by kernel_rfl, by kernel_rfl⟩
theorem tb86 : TIok Tryz.prog 86 ((get tb 86).getD ⟨0, undef, false, [], none, none, 0⟩) := ⟨by kernel_rfl, by kernel_rfl⟩
theorem tb88 : TIok Tryz.prog 88 ((get tb 88).getD ⟨0, undef, false, [], none, none, 0⟩) := ⟨by kernel_rfl, by kernel_rfl⟩
theorem tb89 : TIok Tryz.prog 89 ((get tb 89).getD ⟨0, undef, false, [], none, none, 0⟩) := ⟨by kernel_rfl, by kernel_rfl⟩
theorem tb91 : TIok Tryz.prog 91 ((get tb 91).getD ⟨0, undef, false, [], none, none, 0⟩) := ⟨by kernel_rfl, by kernel_rfl⟩
theorem tb92 : TIok Tryz.prog 92 ((get tb 92).getD ⟨0, undef, false, [], none, none, 0⟩) := ⟨by kernel_rfl, by kernel_rfl⟩
theorem tb93 : TIok Tryz.prog 93 ((get tb 93).getD ⟨0, undef, false, [], none, none, 0⟩) := ⟨by kernel_rfl, by kernel_rfl⟩
theorem tb94 : TIok Tryz.prog 94 ((get tb 94).getD ⟨0, undef, false, [], none, none, 0⟩) := ⟨by kernel_rfl, by kernel_rfl⟩
theorem tb96 : TIok Tryz.prog 96 ((get tb 96).getD ⟨0, undef, false, [], none, none, 0⟩) := ⟨by kernel_rfl, by kernel_rfl⟩
theorem tb97 : TIok Tryz.prog 97 ((get tb 97).getD ⟨0, undef, false, [], none, none, 0⟩) := ⟨by kernel_rfl, by kernel_rfl⟩
theorem tb98 : TIok Tryz.prog 98 ((get tb 98).getD ⟨0, undef, false, [], none, none, 0⟩) := ⟨by kernel_rfl, by kernel_rfl⟩
theorem tb100 : TIok Tryz.prog 100 ((get tb 100).getD ⟨0, undef, false, [], none, none, 0⟩) := ⟨by kernel_rfl, by kernel_rfl⟩
theorem tb101 : TIok Tryz.prog 101 ((get tb 101).getD ⟨0, undef, false, [], none, none, 0⟩) := ⟨by kernel_rfl, by kernel_rfl⟩
theorem tb105 : TIok Tryz.prog 105 ((get tb 105).getD ⟨0, undef, false, [], none, none, 0⟩) := ⟨by kernel_rfl, by kernel_rfl⟩
theorem tb106 : TIok Tryz.prog 106 ((get tb 106).getD ⟨0, undef, false, [], none, none, 0⟩) := ⟨by kernel_rfl, by kernel_rfl⟩
theorem tb107 : TIok Tryz.prog 107 ((get tb 107).getD ⟨0, undef, false, [], none, none, 0⟩) := ⟨by kernel_rfl, by kernel_rfl⟩
theorem tb108 : TIok Tryz.prog 108 ((get tb 108).getD ⟨0, undef, false, [], none, none, 0⟩) := ⟨by kernel_rfl, by kernel_rfl⟩
theorem tb109 : TIok Tryz.prog 109 ((get tb 109).getD ⟨0, undef, false, [], none, none, 0⟩) := ⟨by kernel_rfl, by kernel_rfl⟩
theorem tb110 : TIok Tryz.prog 110 ((get tb 110).getD ⟨0, undef, false, [], none, none, 0⟩) := ⟨by kernel_rfl, by kernel_rfl⟩
theorem tb112 : TIok Tryz.prog 112 ((get tb 112).getD ⟨0, undef, false, [], none, none, 0⟩) := ⟨by kernel_rfl, by kernel_rfl⟩
theorem tb114 : TIok Tryz.prog 114 ((get tb 114).getD ⟨0, undef, false, [], none, none, 0⟩) := ⟨by kernel_rfl, by kernel_rfl⟩
theorem tb115 : TIok Tryz.prog 115 ((get tb 115).getD ⟨0, undef, false, [], none, none, 0⟩) := ⟨by kernel_rfl, by kernel_rfl⟩
theorem tb116 : TIok Tryz.prog 116 ((get tb 116).getD ⟨0, undef, false, [], none, none, 0⟩) := ⟨by kernel_rfl, by kernel_rfl⟩
theorem tb117 : TIok Tryz.prog 117 ((get tb 117).getD ⟨0, undef, false, [], none, none, 0⟩) := ⟨by kernel_rfl, by kernel_rfl⟩
theorem tb118 : TIok Tryz.prog 118 ((get tb 118).getD ⟨0, undef, false, [], none, none, 0⟩) := ⟨by kernel_rfl, by kernel_rfl⟩
theorem tb120 : TIok Tryz.prog 120 ((get tb 120).getD ⟨0, undef, false, [], none, none, 0⟩) := ⟨by kernel_rfl, by kernel_rfl⟩
theorem tb121 : TIok Tryz.prog 121 ((get tb 121).getD ⟨0, undef, false, [], none, none, 0⟩) := ⟨by kernel_rfl, by kernel_rfl⟩
theorem tb122 : TIok Tryz.prog 122 ((get tb 122).getD ⟨0, undef, false, [], none, none, 0⟩) := ⟨by kernel_rfl, by kernel_rfl⟩
theorem tb123 : TIok Tryz.prog 123 ((get tb 123).getD ⟨0, undef, false, [], none, none, 0⟩) := ⟨by kernel_rfl, by kernel_rfl⟩
theorem tb125 : TIok Tryz.prog 125 ((get tb 125).getD ⟨0, undef, false, [], none, none, 0⟩) := ⟨by kernel_rfl, by kernel_rfl⟩
theorem tb127 : TIok Tryz.prog 127 ((get tb 127).getD ⟨0, undef, false, [], none, none, 0⟩) := ⟨by kernel_rfl, by kernel_rfl⟩
theorem tb128 : TIok Tryz.prog 128 ((get tb 128).getD ⟨0, undef, false, [], none, none, 0⟩) := ⟨by kernel_rfl, by kernel_rfl⟩
theorem tb130 : TIok Tryz.prog 130 ((get tb 130).getD ⟨0, undef, false, [], none, none, 0⟩) := ⟨by kernel_rfl, by kernel_rfl⟩
theorem tb131 : TIok Tryz.prog 131 ((get tb 131).getD ⟨0, undef, false, [], none, none, 0⟩) := ⟨by kernel_rfl, by kernel_rfl⟩
theorem tb132 : TIok Tryz.prog 132 ((get tb 132).getD ⟨0, undef, false, [], none, none, 0⟩) := ⟨by kernel_rfl, by kernel_rfl⟩
theorem tb133 : TIok Tryz.prog 133 ((get tb 133).getD ⟨0, undef, false, [], none, none, 0⟩) := ⟨by kernel_rfl, by kernel_rfl⟩
theorem tb134 : TIok Tryz.prog 134 ((get tb 134).getD ⟨0, undef, false, [], none, none, 0⟩) := ⟨by kernel_rfl, by kernel_rfl⟩
theorem tb135 : TIok Tryz.prog 135 ((get tb 135).getD ⟨0, undef, false, [], none, none, 0⟩) := ⟨by kernel_rfl, by kernel_rfl⟩
theorem tb136 : TIok Tryz.prog 136 ((get tb 136).getD ⟨0, undef, false, [], none, none, 0⟩) := ⟨by kernel_rfl, by kernel_rfl⟩
theorem tb138 : TIok Tryz.prog 138 ((get tb 138).getD ⟨0, undef, false, [], none, none, 0⟩) := ⟨by kernel_rfl, by kernel_rfl⟩
theorem tb139 : TIok Tryz.prog 139 ((get tb 139).getD ⟨0, undef, false, [], none, none, 0⟩) := ⟨by kernel_rfl, by kernel_rfl⟩
theorem tb141 : TIok Tryz.prog 141 ((get tb 141).getD ⟨0, undef, false, [], none, none, 0⟩) := ⟨by kernel_rfl, by kernel_rfl⟩
theorem tb142 : TIok Tryz.prog 142 ((get tb 142).getD ⟨0, undef, false, [], none, none, 0⟩) := ⟨by kernel_rfl, by kernel_rfl⟩
theorem tb143 : TIok Tryz.prog 143 ((get tb 143).getD ⟨0, undef, false, [], none, none, 0⟩) := ⟨by kernel_rfl, by kernel_rfl⟩
theorem tb144 : TIok Tryz.prog 144 ((get tb 144).getD ⟨0, undef, false, [], none, none, 0⟩) := ⟨by kernel_rfl, by kernel_rfl⟩
theorem tb145 : TIok Tryz.prog 145 ((get tb 145).getD ⟨0, undef, false, [], none, none, 0⟩) := ⟨by kernel_rfl, by kernel_rfl⟩
theorem tb146 : TIok Tryz.prog 146 ((get tb 146).getD ⟨0, undef, false, [], none, none, 0⟩) := ⟨by kernel_rfl, by kernel_rfl⟩
theorem tb147 : TIok Tryz.prog 147 ((get tb 147).getD ⟨0, undef, false, [], none, none, 0⟩) := ⟨by kernel_rfl, by kernel_rfl⟩
theorem tb149 : TIok Tryz.prog 149 ((get tb 149).getD ⟨0, undef, false, [], none, none, 0⟩) := ⟨by kernel_rfl, by kernel_rfl⟩
theorem tb150 : TIok Tryz.prog 150 ((get tb 150).getD ⟨0, undef, false, [], none, none, 0⟩) := ⟨by kernel_rfl, by kernel_rfl⟩
theorem tb151 : TIok Tryz.prog 151 ((get tb 151).getD ⟨0, undef, false, [], none, none, 0⟩) := ⟨by kernel_rfl, by kernel_rfl⟩
theorem tb152 : TIok Tryz.prog 152 ((get tb 152).getD ⟨0, undef, false, [], none, none, 0⟩) := ⟨by kernel_rfl, by kernel_rfl⟩
theorem tb153 : TIok Tryz.prog 153 ((get tb 153).getD ⟨0, undef, false, [], none, none, 0⟩) := ⟨by kernel_rfl, by kernel_rfl⟩
theorem tb155 : TIok Tryz.prog 155 ((get tb 155).getD ⟨0, undef, false, [], none, none, 0⟩) := ⟨by kernel_rfl, by kernel_rfl⟩
theorem tb156 : TIok Tryz.prog 156 ((get tb 156).getD ⟨0, undef, false, [], none, none, 0⟩) := ⟨by kernel_rfl, by kernel_rfl⟩
theorem tb157 : TIok Tryz.prog 157 ((get tb 157).getD ⟨0, undef, false, [], none, none, 0⟩) := ⟨by kernel_rfl, by kernel_rfl⟩
theorem tb159 : TIok Tryz.prog 159 ((get tb 159).getD ⟨0, undef, false, [], none, none, 0⟩) := ⟨by kernel_rfl, by kernel_rfl⟩
theorem tb160 : TIok Tryz.prog 160 ((get tb 160).getD ⟨0, undef, false, [], none, none, 0⟩) := ⟨by kernel_rfl, by kernel_rfl⟩
theorem tb162 : TIok Tryz.prog 162 ((get tb 162).getD ⟨0, undef, false, [], none, none, 0⟩) := ⟨by kernel_rfl, by kernel_rfl⟩
theorem tb163 : TIok Tryz.prog 163 ((get tb 163).getD ⟨0, undef, false, [], none, none, 0⟩) := ⟨by kernel_rfl, by kernel_rfl⟩
theorem tb164 : TIok Tryz.prog 164 ((get tb 164).getD ⟨0, undef, false, [], none, none, 0⟩) := ⟨by kernel_rfl, by kernel_rfl⟩
theorem tb165 : TIok Tryz.prog 165 ((get tb 165).getD ⟨0, undef, false, [], none, none, 0⟩) := ⟨by kernel_rfl, by kernel_rfl⟩
theorem tb166 : TIok Tryz.prog 166 ((get tb 166).getD ⟨0, undef, false, [], none, none, 0⟩) := ⟨by kernel_rfl, by kernel_rfl⟩
theorem tb167 : TIok Tryz.prog 167 ((get tb 167).getD ⟨0, undef, false, [], none, none, 0⟩) := ⟨by kernel_rfl, by kernel_rfl⟩
theorem tb168 : TIok Tryz.prog 168 ((get tb 168).getD ⟨0, undef, false, [], none, none, 0⟩) := ⟨by kernel_rfl, by kernel_rfl⟩
theorem tb169 : TIok Tryz.prog 169 ((get tb 169).getD ⟨0, undef, false, [], none, none, 0⟩) := ⟨by kernel_rfl, by kernel_rfl⟩
theorem tb170 : TIok Tryz.prog 170 ((get tb 170).getD ⟨0, undef, false, [], none, none, 0⟩) := ⟨by kernel_rfl, by kernel_rfl⟩
theorem tb171 : TIok Tryz.prog 171 ((get tb 171).getD ⟨0, undef, false, [], none, none, 0⟩) := ⟨by kernel_rfl, by kernel_rfl⟩
theorem tb172 : TIok Tryz.prog 172 ((get tb 172).getD ⟨0, undef, false, [], none, none, 0⟩) := ⟨by kernel_rfl, by kernel_rfl⟩
theorem tb173 : TIok Tryz.prog 173 ((get tb 173).getD ⟨0, undef, false, [], none, none, 0⟩) := ⟨by kernel_rfl, by kernel_rfl⟩
theorem tb174 : TIok Tryz.prog 174 ((get tb 174).getD ⟨0, undef, false, [], none, none, 0⟩) := ⟨by kernel_rfl, by kernel_rfl⟩
theorem tb175 : TIok Tryz.prog 175 ((get tb 175).getD ⟨0, undef, false, [], none, none, 0⟩) := ⟨by kernel_rfl, by kernel_rfl⟩
theorem tb176 : TIok Tryz.prog 176 ((get tb 176).getD ⟨0, undef, false, [], none, none, 0⟩) := ⟨by kernel_rfl, by kernel_rfl⟩
theorem tb177 : TIok Tryz.prog 177 ((get tb 177).getD ⟨0, undef, false, [], none, none, 0⟩) := ⟨by kernel_rfl, by kernel_rfl⟩
theorem tb178 : TIok Tryz.prog 178 ((get tb 178).getD ⟨0, undef, false, [], none, none, 0⟩) := ⟨by kernel_rfl, by kernel_rfl⟩
set_option maxRecDepth 100000 in
theorem tbOk : TblOk Tryz.prog tb := ⟨tb1, tb2, tb3, tb4, tb5, tb6, tb7, tb8, tb9, tb10, tb11, tb12, tb13, tb14, tb15, tb16, tb17, tb18, tb19, tb20, tb21, tb22, tb23, tb24, tb25, tb26, tb27, tb28, tb29, tb30, tb31, tb32, tb34, tb35, tb36, tb37, tb38, tb39, tb41, tb42, tb43, tb44, tb45, tb46, tb47, tb48, tb49, tb50, tb51, tb52, tb54, tb55, tb56, tb57, tb58, tb59, tb60, tb61, tb62, tb63, tb65, tb66, tb68, tb69, tb70, tb72, tb73, tb74, tb75, tb76, tb77, tb78, tb79, tb80, tb81, tb82, tb83, tb84, tb85, tb86, tb88, tb89, tb91, tb92, tb93, tb94, tb96, tb97, tb98, tb100, tb101, tb105, tb106, tb107, tb108, tb109, tb110, tb112, tb114, tb115, tb116, tb117, tb118, tb120, tb121, tb122, tb123, tb125, tb127, tb128, tb130, tb131, tb132, tb133, tb134, tb135, tb136, tb138, tb139, tb141, tb142, tb143, tb144, tb145, tb146, tb147, tb149, tb150, tb151, tb152, tb153, tb155, tb156, tb157, tb159, tb160, tb162, tb163, tb164, tb165, tb166, tb167, tb168, tb169, tb170, tb171, tb172, tb173, tb174, tb175, tb176, tb177, tb178, trivial⟩
theorem fn3 : HasBody Tryz.prog 3 := hasBody Tryz.func3 (by kernel_rfl) (by kernel_rfl)
theorem fn4 : HasBody Tryz.prog 4 := hasBody Tryz.func4 (by kernel_rfl) (by kernel_rfl)
theorem fn5 : HasBody Tryz.prog 5 := hasBody Tryz.func5 (by kernel_rfl) (by kernel_rfl)
theorem fn6 : HasBody Tryz.prog 6 := hasBody Tryz.func6 (by kernel_rfl) (by kernel_rfl)
theorem fn7 : HasBody Tryz.prog 7 := hasBody Tryz.func7 (by kernel_rfl) (by kernel_rfl)
theorem fn8 : HasBody Tryz.prog 8 := hasBody Tryz.func8 (by kernel_rfl) (by kernel_rfl)
theorem fn9 : HasBody Tryz.prog 9 := hasBody Tryz.func9 (by kernel_rfl) (by kernel_rfl)
theorem fn10 : HasBody Tryz.prog 10 := hasBody Tryz.func10 (by kernel_rfl) (by kernel_rfl)
theorem fn11 : HasBody Tryz.prog 11 := hasBody Tryz.func11 (by kernel_rfl) (by kernel_rfl)
theorem fn12 : HasBody Tryz.prog 12 := hasBody Tryz.func12 (by kernel_rfl) (by kernel_rfl)
theorem fn13 : HasBody Tryz.prog 13 := hasBody Tryz.func13 (by kernel_rfl) (by kernel_rfl)
theorem fn14 : HasBody Tryz.prog 14 := hasBody Tryz.func14 (by kernel_rfl) (by kernel_rfl)
theorem fn15 : HasBody Tryz.prog 15 := hasBody Tryz.func15 (by kernel_rfl) (by kernel_rfl)
theorem fn16 : HasBody Tryz.prog 16 := hasBody Tryz.func16 (by kernel_rfl) (by kernel_rfl)
theorem fn17 : HasBody Tryz.prog 17 := hasBody Tryz.func17 (by kernel_rfl) (by kernel_rfl)
theorem fn18 : HasBody Tryz.prog 18 := hasBody Tryz.func18 (by kernel_rfl) (by kernel_rfl)
theorem fn19 : HasBody Tryz.prog 19 := hasBody Tryz.func19 (by kernel_rfl) (by kernel_rfl)
theorem fn20 : HasBody Tryz.prog 20 := hasBody Tryz.func20 (by kernel_rfl) (by kernel_rfl)
theorem fn21 : HasBody Tryz.prog 21 := hasBody Tryz.func21 (by kernel_rfl) (by kernel_rfl)
theorem fn22 : HasBody Tryz.prog 22 := hasBody Tryz.func22 (by kernel_rfl) (by kernel_rfl)
theorem fn23 : HasBody Tryz.prog 23 := hasBody Tryz.func23 (by kernel_rfl) (by kernel_rfl)
theorem fn24 : HasBody Tryz.prog 24 := hasBody Tryz.func24 (by kernel_rfl) (by kernel_rfl)
theorem fn25 : HasBody Tryz.prog 25 := hasBody Tryz.func25 (by kernel_rfl) (by kernel_rfl)
theorem fn26 : HasBody Tryz.prog 26 := hasBody Tryz.func26 (by kernel_rfl) (by kernel_rfl)
theorem fn27 : HasBody Tryz.prog 27 := hasBody Tryz.func27 (by kernel_rfl) (by kernel_rfl)
theorem fn28 : HasBody Tryz.prog 28 := hasBody Tryz.func28 (by kernel_rfl) (by kernel_rfl)
theorem fn29 : HasBody Tryz.prog 29 := hasBody Tryz.func29 (by kernel_rfl) (by kernel_rfl)
theorem fn30 : HasBody Tryz.prog 30 := hasBody Tryz.func30 (by kernel_rfl) (by kernel_rfl)
theorem fn31 : HasBody Tryz.prog 31 := hasBody Tryz.func31 (by kernel_rfl) (by kernel_rfl)
theorem fn32 : HasBody Tryz.prog 32 := hasBody Tryz.func32 (by kernel_rfl) (by kernel_rfl)
theorem fn33 : HasBody Tryz.prog 33 := hasBody Tryz.func33 (by kernel_rfl) (by kernel_rfl)
theorem fn34 : HasBody Tryz.prog 34 := hasBody Tryz.func34 (by kernel_rfl) (by kernel_rfl)
theorem fn35 : HasBody Tryz.prog 35 := hasBody Tryz.func35 (by kernel_rfl) (by kernel_rfl)
theorem fn36 : HasBody Tryz.prog 36 := hasBody Tryz.func36 (by kernel_rfl) (by kernel_rfl)
theorem fn37 : HasBody Tryz.prog 37 := hasBody Tryz.func37 (by kernel_rfl) (by kernel_rfl)
theorem fn38 : HasBody Tryz.prog 38 := hasBody Tryz.func38 (by kernel_rfl) (by kernel_rfl)
theorem fn39 : HasBody Tryz.prog 39 := hasBody Tryz.func39 (by kernel_rfl) (by kernel_rfl)
theorem fn40 : HasBody Tryz.prog 40 := hasBody Tryz.func40 (by kernel_rfl) (by kernel_rfl)
theorem fn41 : HasBody Tryz.prog 41 := hasBody Tryz.func41 (by kernel_rfl) (by kernel_rfl)
theorem fn42 : HasBody Tryz.prog 42 := hasBody Tryz.func42 (by kernel_rfl) (by kernel_rfl)
theorem fn43 : HasBody Tryz.prog 43 := hasBody Tryz.func43 (by kernel_rfl) (by kernel_rfl)
theorem fn44 : HasBody Tryz.prog 44 := hasBody Tryz.func44 (by kernel_rfl) (by kernel_rfl)
theorem fn45 : HasBody Tryz.prog 45 := hasBody Tryz.func45 (by kernel_rfl) (by kernel_rfl)
theorem fn46 : HasBody Tryz.prog 46 := hasBody Tryz.func46 (by kernel_rfl) (by kernel_rfl)
theorem fn47 : HasBody Tryz.prog 47 := hasBody Tryz.func47 (by kernel_rfl) (by kernel_rfl)
theorem fn48 : HasBody Tryz.prog 48 := hasBody Tryz.func48 (by kernel_rfl) (by kernel_rfl)
theorem fn49 : HasBody Tryz.prog 49 := hasBody Tryz.func49 (by kernel_rfl) (by kernel_rfl)
theorem fn50 : HasBody Tryz.prog 50 := hasBody Tryz.func50 (by kernel_rfl) (by kernel_rfl)
theorem fn51 : HasBody Tryz.prog 51 := hasBody Tryz.func51 (by kernel_rfl) (by kernel_rfl)
theorem fn52 : HasBody Tryz.prog 52 := hasBody Tryz.func52 (by kernel_rfl) (by kernel_rfl)
theorem fn53 : HasBody Tryz.prog 53 := hasBody Tryz.func53 (by kernel_rfl) (by kernel_rfl)
theorem fn54 : HasBody Tryz.prog 54 := hasBody Tryz.func54 (by kernel_rfl) (by kernel_rfl)
theorem fn55 : HasBody Tryz.prog 55 := hasBody Tryz.func55 (by kernel_rfl) (by kernel_rfl)
theorem fn56 : HasBody Tryz.prog 56 := hasBody Tryz.func56 (by kernel_rfl) (by kernel_rfl)
theorem fn57 : HasBody Tryz.prog 57 := hasBody Tryz.func57 (by kernel_rfl) (by kernel_rfl)
theorem fn58 : HasBody Tryz.prog 58 := hasBody Tryz.func58 (by kernel_rfl) (by kernel_rfl)
theorem fn59 : HasBody Tryz.prog 59 := hasBody Tryz.func59 (by kernel_rfl) (by kernel_rfl)
theorem fn60 : HasBody Tryz.prog 60 := hasBody Tryz.func60 (by kernel_rfl) (by kernel_rfl)
theorem fn62 : HasBody Tryz.prog 62 := hasBody Tryz.func62 (by kernel_rfl) (by kernel_rfl)
theorem fn63 : HasBody Tryz.prog 63 := hasBody Tryz.func63 (by kernel_rfl) (by kernel_rfl)
theorem fn64 : HasBody Tryz.prog 64 := hasBody Tryz.func64 (by kernel_rfl) (by kernel_rfl)
theorem fn65 : HasBody Tryz.prog 65 := hasBody Tryz.func65 (by kernel_rfl) (by kernel_rfl)
theorem fn66 : HasBody Tryz.prog 66 := hasBody Tryz.func66 (by kernel_rfl) (by kernel_rfl)
theorem fn67 : HasBody Tryz.prog 67 := hasBody Tryz.func67 (by kernel_rfl) (by kernel_rfl)
theorem fn68 : HasBody Tryz.prog 68 := hasBody Tryz.func68 (by kernel_rfl) (by kernel_rfl)
theorem fn69 : HasBody Tryz.prog 69 := hasBody Tryz.func69 (by kernel_rfl) (by kernel_rfl)
theorem fn70 : HasBody Tryz.prog 70 := hasBody Tryz.func70 (by kernel_rfl) (by kernel_rfl)
theorem fn71 : HasBody Tryz.prog 71 := hasBody Tryz.func71 (by kernel_rfl) (by kernel_rfl)
theorem fn72 : HasBody Tryz.prog 72 := hasBody Tryz.func72 (by kernel_rfl) (by kernel_rfl)
theorem fn73 : HasBody Tryz.prog 73 := hasBody Tryz.func73 (by kernel_rfl) (by kernel_rfl)
theorem fn74 : HasBody Tryz.prog 74 := hasBody Tryz.func74 (by kernel_rfl) (by kernel_rfl)
theorem fn75 : HasBody Tryz.prog 75 := hasBody Tryz.func75 (by kernel_rfl) (by kernel_rfl)
theorem fn76 : HasBody Tryz.prog 76 := hasBody Tryz.func76 (by kernel_rfl) (by kernel_rfl)
theorem fn77 : HasBody Tryz.prog 77 := hasBody Tryz.func77 (by kernel_rfl) (by kernel_rfl)
theorem fn78 : HasBody Tryz.prog 78 := hasBody Tryz.func78 (by kernel_rfl) (by kernel_rfl)
theorem fn79 : HasBody Tryz.prog 79 := hasBody Tryz.func79 (by kernel_rfl) (by kernel_rfl)
theorem fn80 : HasBody Tryz.prog 80 := hasBody Tryz.func80 (by kernel_rfl) (by kernel_rfl)
theorem fn81 : HasBody Tryz.prog 81 := hasBody Tryz.func81 (by kernel_rfl) (by kernel_rfl)
theorem fn82 : HasBody Tryz.prog 82 := hasBody Tryz.func82 (by kernel_rfl) (by kernel_rfl)
theorem fn83 : HasBody Tryz.prog 83 := hasBody Tryz.func83 (by kernel_rfl) (by kernel_rfl)
theorem fn84 : HasBody Tryz.prog 84 := hasBody Tryz.func84 (by kernel_rfl) (by kernel_rfl)
theorem fn85 : HasBody Tryz.prog 85 := hasBody Tryz.func85 (by kernel_rfl) (by kernel_rfl)
theorem fn86 : HasBody Tryz.prog 86 := hasBody Tryz.func86 (by kernel_rfl) (by kernel_rfl)
theorem fn87 : HasBody Tryz.prog 87 := hasBody Tryz.func87 (by kernel_rfl) (by kernel_rfl)
theorem fn90 : HasBody Tryz.prog 90 := hasBody Tryz.func90 (by kernel_rfl) (by kernel_rfl)
theorem fn91 : HasBody Tryz.prog 91 := hasBody Tryz.func91 (by kernel_rfl) (by kernel_rfl)
theorem fn92 : HasBody Tryz.prog 92 := hasBody Tryz.func92 (by kernel_rfl) (by kernel_rfl)
theorem fn93 : HasBody Tryz.prog 93 := hasBody Tryz.func93 (by kernel_rfl) (by kernel_rfl)
theorem fn94 : HasBody Tryz.prog 94 := hasBody Tryz.func94 (by kernel_rfl) (by kernel_rfl)
theorem fn95 : HasBody Tryz.prog 95 := hasBody Tryz.func95 (by kernel_rfl) (by kernel_rfl)
theorem fn97 : HasBody Tryz.prog 97 := hasBody Tryz.func97 (by kernel_rfl) (by kernel_rfl)
theorem fn98 : HasBody Tryz.prog 98 := hasBody Tryz.func98 (by kernel_rfl) (by kernel_rfl)
theorem fn99 : HasBody Tryz.prog 99 := hasBody Tryz.func99 (by kernel_rfl) (by kernel_rfl)
theorem fn100 : HasBody Tryz.prog 100 := hasBody Tryz.func100 (by kernel_rfl) (by kernel_rfl)
theorem fn101 : HasBody Tryz.prog 101 := hasBody Tryz.func101 (by kernel_rfl) (by kernel_rfl)
theorem fn102 : HasBody Tryz.prog 102 := hasBody Tryz.func102 (by kernel_rfl) (by kernel_rfl)
theorem fn103 : HasBody Tryz.prog 103 := hasBody Tryz.func103 (by kernel_rfl) (by kernel_rfl)
theorem fn104 : HasBody Tryz.prog 104 := hasBody Tryz.func104 (by kernel_rfl) (by kernel_rfl)
theorem fn105 : HasBody Tryz.prog 105 := hasBody Tryz.func105 (by kernel_rfl) (by kernel_rfl)
theorem fn106 : HasBody Tryz.prog 106 := hasBody Tryz.func106 (by kernel_rfl) (by kernel_rfl)
theorem fn107 : HasBody Tryz.prog 107 := hasBody Tryz.func107 (by kernel_rfl) (by kernel_rfl)
theorem fn108 : HasBody Tryz.prog 108 := hasBody Tryz.func108 (by kernel_rfl) (by kernel_rfl)
theorem fn109 : HasBody Tryz.prog 109 := hasBody Tryz.func109 (by kernel_rfl) (by kernel_rfl)
theorem fn110 : HasBody Tryz.prog 110 := hasBody Tryz.func110 (by kernel_rfl) (by kernel_rfl)
theorem fn111 : HasBody Tryz.prog 111 := hasBody Tryz.func111 (by kernel_rfl) (by kernel_rfl)
theorem fn112 : HasBody Tryz.prog 112 := hasBody Tryz.func112 (by kernel_rfl) (by kernel_rfl)
theorem fn114 : HasBody Tryz.prog 114 := hasBody Tryz.func114 (by kernel_rfl) (by kernel_rfl)
theorem fn115 : HasBody Tryz.prog 115 := hasBody Tryz.func115 (by kernel_rfl) (by kernel_rfl)
theorem fn116 : HasBody Tryz.prog 116 := hasBody Tryz.func116 (by kernel_rfl) (by kernel_rfl)
theorem fn117 : HasBody Tryz.prog 117 := hasBody Tryz.func117 (by kernel_rfl) (by kernel_rfl)
theorem fn118 : HasBody Tryz.prog 118 := hasBody Tryz.func118 (by kernel_rfl) (by kernel_rfl)
theorem fn119 : HasBody Tryz.prog 119 := hasBody Tryz.func119 (by kernel_rfl) (by kernel_rfl)
theorem fn120 : HasBody Tryz.prog 120 := hasBody Tryz.func120 (by kernel_rfl) (by kernel_rfl)
theorem fn121 : HasBody Tryz.prog 121 := hasBody Tryz.func121 (by kernel_rfl) (by kernel_rfl)
theorem fn122 : HasBody Tryz.prog 122 := hasBody Tryz.func122 (by kernel_rfl) (by kernel_rfl)
theorem fn123 : HasBody Tryz.prog 123 := hasBody Tryz.func123 (by kernel_rfl) (by kernel_rfl)
theorem fn125 : HasBody Tryz.prog 125 := hasBody Tryz.func125 (by kernel_rfl) (by kernel_rfl)
theorem fn126 : HasBody Tryz.prog 126 := hasBody Tryz.func126 (by kernel_rfl) (by kernel_rfl)
theorem fn127 : HasBody Tryz.prog 127 := hasBody Tryz.func127 (by kernel_rfl) (by kernel_rfl)
theorem ap24 : ApOk Tryz.prog 24 3 1 := ⟨by kernel_rfl, by kernel_rfl, by decide⟩
theorem ap36 : ApOk Tryz.prog 36 5 1 := ⟨by kernel_rfl, by kernel_rfl, by decide⟩
theorem ap37 : ApOk Tryz.prog 37 9 1 := ⟨by kernel_rfl, by kernel_rfl, by decide⟩
theorem held23 : Tryz.prog.stoodInHeld 23 = false := by kernel_rfl
theorem eg23 : Tryz.prog.eqGuardType Tryz.prog.depth 23 = false := by kernel_rfl
theorem eqT23 {x0 y0 : Int} {x1 y1 : Int} {x2 y2 : Int} {x3 y3 : Bool} {x4 y4 : Int} {x5 y5 : Bool} {x6 y6 : Int} : EqLaw Tryz.prog 23 [.int .i64 x0, .int .i64 x1, .int .i64 x2, .bool x3, .int .i64 x4, .bool x5, .int .i64 x6] [.int .i64 y0, .int .i64 y1, .int .i64 y2, .bool y3, .int .i64 y4, .bool y5, .int .i64 y6] ((x0 == y0) && ((x1 == y1) && ((x2 == y2) && ((x3 == y3) && ((x4 == y4) && ((x5 == y5) && (x6 == y6))))))) := by
  intro w X xs ys hx hy
  simp only [Reps, Rep] at hx hy
  obtain ⟨_, _, rfl, rfl, _, _, rfl, rfl, _, _, rfl, rfl, _, _, rfl, rfl, _, _, rfl, rfl, _, _, rfl, rfl, _, _, rfl, rfl, rfl⟩ := hx
  obtain ⟨_, _, rfl, rfl, _, _, rfl, rfl, _, _, rfl, rfl, _, _, rfl, rfl, _, _, rfl, rfl, _, _, rfl, rfl, _, _, rfl, rfl, rfl⟩ := hy
  unfold Op.equal
  obtain ⟨m, hm⟩ : ∃ m, Op.maxDepth = m + 2 := ⟨9998, rfl⟩
  rw [hm]
  have hprog : (program : Sem Program).run Tryz.prog w = .ok Tryz.prog w := rfl
  unfold Op.equalIn
  simp only [Sem.run_bind, run_underlying Tryz.underlying23, Result.andThen_ok, hprog, held23, Bool.false_eq_true, if_false, List.forIn_toArray, List.forIn_cons, List.forIn_nil]
  have p0 : (part 3 ⟨[.int .i64 x0, .int .i64 x1, .int .i64 x2, .bool x3, .int .i64 x4, .bool x5, .int .i64 x6]⟩ 0).run Tryz.prog w = .ok (.int .i64 x0) w := run_part_one tb3 rfl w _ _ _ rfl
  have r0 : (part 3 ⟨[.int .i64 y0, .int .i64 y1, .int .i64 y2, .bool y3, .int .i64 y4, .bool y5, .int .i64 y6]⟩ 0).run Tryz.prog w = .ok (.int .i64 y0) w := run_part_one tb3 rfl w _ _ _ rfl
  have q0 : (Op.equalIn (m + 1) 3 (.int .i64 x0) (.int .i64 y0)).run Tryz.prog w = .ok (x0 == y0) w := eqIn_int Tryz.underlying3 w
  have p1 : (part 3 ⟨[.int .i64 x0, .int .i64 x1, .int .i64 x2, .bool x3, .int .i64 x4, .bool x5, .int .i64 x6]⟩ 1).run Tryz.prog w = .ok (.int .i64 x1) w := run_part_one tb3 rfl w _ _ _ rfl
  have r1 : (part 3 ⟨[.int .i64 y0, .int .i64 y1, .int .i64 y2, .bool y3, .int .i64 y4, .bool y5, .int .i64 y6]⟩ 1).run Tryz.prog w = .ok (.int .i64 y1) w := run_part_one tb3 rfl w _ _ _ rfl
  have q1 : (Op.equalIn (m + 1) 3 (.int .i64 x1) (.int .i64 y1)).run Tryz.prog w = .ok (x1 == y1) w := eqIn_int Tryz.underlying3 w
  have p2 : (part 3 ⟨[.int .i64 x0, .int .i64 x1, .int .i64 x2, .bool x3, .int .i64 x4, .bool x5, .int .i64 x6]⟩ 2).run Tryz.prog w = .ok (.int .i64 x2) w := run_part_one tb3 rfl w _ _ _ rfl
  have r2 : (part 3 ⟨[.int .i64 y0, .int .i64 y1, .int .i64 y2, .bool y3, .int .i64 y4, .bool y5, .int .i64 y6]⟩ 2).run Tryz.prog w = .ok (.int .i64 y2) w := run_part_one tb3 rfl w _ _ _ rfl
  have q2 : (Op.equalIn (m + 1) 3 (.int .i64 x2) (.int .i64 y2)).run Tryz.prog w = .ok (x2 == y2) w := eqIn_int Tryz.underlying3 w
  have p3 : (part 4 ⟨[.int .i64 x0, .int .i64 x1, .int .i64 x2, .bool x3, .int .i64 x4, .bool x5, .int .i64 x6]⟩ 3).run Tryz.prog w = .ok (.bool x3) w := run_part_one tb4 rfl w _ _ _ rfl
  have r3 : (part 4 ⟨[.int .i64 y0, .int .i64 y1, .int .i64 y2, .bool y3, .int .i64 y4, .bool y5, .int .i64 y6]⟩ 3).run Tryz.prog w = .ok (.bool y3) w := run_part_one tb4 rfl w _ _ _ rfl
  have q3 : (Op.equalIn (m + 1) 4 (.bool x3) (.bool y3)).run Tryz.prog w = .ok (x3 == y3) w := eqIn_bool Tryz.underlying4 w
  have p4 : (part 3 ⟨[.int .i64 x0, .int .i64 x1, .int .i64 x2, .bool x3, .int .i64 x4, .bool x5, .int .i64 x6]⟩ 4).run Tryz.prog w = .ok (.int .i64 x4) w := run_part_one tb3 rfl w _ _ _ rfl
  have r4 : (part 3 ⟨[.int .i64 y0, .int .i64 y1, .int .i64 y2, .bool y3, .int .i64 y4, .bool y5, .int .i64 y6]⟩ 4).run Tryz.prog w = .ok (.int .i64 y4) w := run_part_one tb3 rfl w _ _ _ rfl
  have q4 : (Op.equalIn (m + 1) 3 (.int .i64 x4) (.int .i64 y4)).run Tryz.prog w = .ok (x4 == y4) w := eqIn_int Tryz.underlying3 w
  have p5 : (part 4 ⟨[.int .i64 x0, .int .i64 x1, .int .i64 x2, .bool x3, .int .i64 x4, .bool x5, .int .i64 x6]⟩ 5).run Tryz.prog w = .ok (.bool x5) w := run_part_one tb4 rfl w _ _ _ rfl
  have r5 : (part 4 ⟨[.int .i64 y0, .int .i64 y1, .int .i64 y2, .bool y3, .int .i64 y4, .bool y5, .int .i64 y6]⟩ 5).run Tryz.prog w = .ok (.bool y5) w := run_part_one tb4 rfl w _ _ _ rfl
  have q5 : (Op.equalIn (m + 1) 4 (.bool x5) (.bool y5)).run Tryz.prog w = .ok (x5 == y5) w := eqIn_bool Tryz.underlying4 w
  have p6 : (part 3 ⟨[.int .i64 x0, .int .i64 x1, .int .i64 x2, .bool x3, .int .i64 x4, .bool x5, .int .i64 x6]⟩ 6).run Tryz.prog w = .ok (.int .i64 x6) w := run_part_one tb3 rfl w _ _ _ rfl
  have r6 : (part 3 ⟨[.int .i64 y0, .int .i64 y1, .int .i64 y2, .bool y3, .int .i64 y4, .bool y5, .int .i64 y6]⟩ 6).run Tryz.prog w = .ok (.int .i64 y6) w := run_part_one tb3 rfl w _ _ _ rfl
  have q6 : (Op.equalIn (m + 1) 3 (.int .i64 x6) (.int .i64 y6)).run Tryz.prog w = .ok (x6 == y6) w := eqIn_int Tryz.underlying3 w
  cases h0 : (x0 == y0) with
  | false => simp [p0, r0, q0, h0]
  | true =>
    cases h1 : (x1 == y1) with
    | false => simp [p0, r0, q0, h0, p1, r1, q1, h1]
    | true =>
      cases h2 : (x2 == y2) with
      | false => simp [p0, r0, q0, h0, p1, r1, q1, h1, p2, r2, q2, h2]
      | true =>
        cases h3 : (x3 == y3) with
        | false => simp [p0, r0, q0, h0, p1, r1, q1, h1, p2, r2, q2, h2, p3, r3, q3, h3]
        | true =>
          cases h4 : (x4 == y4) with
          | false => simp [p0, r0, q0, h0, p1, r1, q1, h1, p2, r2, q2, h2, p3, r3, q3, h3, p4, r4, q4, h4]
          | true =>
            cases h5 : (x5 == y5) with
            | false => simp [p0, r0, q0, h0, p1, r1, q1, h1, p2, r2, q2, h2, p3, r3, q3, h3, p4, r4, q4, h4, p5, r5, q5, h5]
            | true =>
              cases h6 : (x6 == y6) with
              | false => simp [p0, r0, q0, h0, p1, r1, q1, h1, p2, r2, q2, h2, p3, r3, q3, h3, p4, r4, q4, h4, p5, r5, q5, h5, p6, r6, q6, h6]
              | true =>
                simp [p0, r0, q0, h0, p1, r1, q1, h1, p2, r2, q2, h2, p3, r3, q3, h3, p4, r4, q4, h4, p5, r5, q5, h5, p6, r6, q6, h6]
theorem held61 : Tryz.prog.stoodInHeld 61 = false := by kernel_rfl
theorem eg61 : Tryz.prog.eqGuardType Tryz.prog.depth 61 = false := by kernel_rfl
theorem eqT61 {x0 y0 : Int} {x1 y1 : Int} : EqLaw Tryz.prog 61 [.int .u64 x0, .int .u64 x1] [.int .u64 y0, .int .u64 y1] ((x0 == y0) && (x1 == y1)) := by
  intro w X xs ys hx hy
  simp only [Reps, Rep] at hx hy
  obtain ⟨_, _, rfl, rfl, _, _, rfl, rfl, rfl⟩ := hx
  obtain ⟨_, _, rfl, rfl, _, _, rfl, rfl, rfl⟩ := hy
  unfold Op.equal
  obtain ⟨m, hm⟩ : ∃ m, Op.maxDepth = m + 2 := ⟨9998, rfl⟩
  rw [hm]
  have hprog : (program : Sem Program).run Tryz.prog w = .ok Tryz.prog w := rfl
  unfold Op.equalIn
  simp only [Sem.run_bind, run_underlying Tryz.underlying61, Result.andThen_ok, hprog, held61, Bool.false_eq_true, if_false, List.forIn_toArray, List.forIn_cons, List.forIn_nil]
  have p0 : (part 59 ⟨[.int .u64 x0, .int .u64 x1]⟩ 0).run Tryz.prog w = .ok (.int .u64 x0) w := run_part_one tb59 rfl w _ _ _ rfl
  have r0 : (part 59 ⟨[.int .u64 y0, .int .u64 y1]⟩ 0).run Tryz.prog w = .ok (.int .u64 y0) w := run_part_one tb59 rfl w _ _ _ rfl
  have q0 : (Op.equalIn (m + 1) 59 (.int .u64 x0) (.int .u64 y0)).run Tryz.prog w = .ok (x0 == y0) w := eqIn_int Tryz.underlying59 w
  have p1 : (part 59 ⟨[.int .u64 x0, .int .u64 x1]⟩ 1).run Tryz.prog w = .ok (.int .u64 x1) w := run_part_one tb59 rfl w _ _ _ rfl
  have r1 : (part 59 ⟨[.int .u64 y0, .int .u64 y1]⟩ 1).run Tryz.prog w = .ok (.int .u64 y1) w := run_part_one tb59 rfl w _ _ _ rfl
  have q1 : (Op.equalIn (m + 1) 59 (.int .u64 x1) (.int .u64 y1)).run Tryz.prog w = .ok (x1 == y1) w := eqIn_int Tryz.underlying59 w
  cases h0 : (x0 == y0) with
  | false => simp [p0, r0, q0, h0]
  | true =>
    cases h1 : (x1 == y1) with
    | false => simp [p0, r0, q0, h0, p1, r1, q1, h1]
    | true =>
      simp [p0, r0, q0, h0, p1, r1, q1, h1]
theorem held70 : Tryz.prog.stoodInHeld 70 = false := by kernel_rfl
theorem eg70 : Tryz.prog.eqGuardType Tryz.prog.depth 70 = false := by kernel_rfl
theorem eqT70 {x0 y0 : Int} {x1 y1 : Int} : EqLaw Tryz.prog 70 [.int .u64 x0, .int .u64 x1] [.int .u64 y0, .int .u64 y1] ((x0 == y0) && (x1 == y1)) := by
  intro w X xs ys hx hy
  simp only [Reps, Rep] at hx hy
  obtain ⟨_, _, rfl, rfl, _, _, rfl, rfl, rfl⟩ := hx
  obtain ⟨_, _, rfl, rfl, _, _, rfl, rfl, rfl⟩ := hy
  unfold Op.equal
  obtain ⟨m, hm⟩ : ∃ m, Op.maxDepth = m + 2 := ⟨9998, rfl⟩
  rw [hm]
  have hprog : (program : Sem Program).run Tryz.prog w = .ok Tryz.prog w := rfl
  unfold Op.equalIn
  simp only [Sem.run_bind, run_underlying Tryz.underlying70, Result.andThen_ok, hprog, held70, Bool.false_eq_true, if_false, List.forIn_toArray, List.forIn_cons, List.forIn_nil]
  have p0 : (part 59 ⟨[.int .u64 x0, .int .u64 x1]⟩ 0).run Tryz.prog w = .ok (.int .u64 x0) w := run_part_one tb59 rfl w _ _ _ rfl
  have r0 : (part 59 ⟨[.int .u64 y0, .int .u64 y1]⟩ 0).run Tryz.prog w = .ok (.int .u64 y0) w := run_part_one tb59 rfl w _ _ _ rfl
  have q0 : (Op.equalIn (m + 1) 59 (.int .u64 x0) (.int .u64 y0)).run Tryz.prog w = .ok (x0 == y0) w := eqIn_int Tryz.underlying59 w
  have p1 : (part 59 ⟨[.int .u64 x0, .int .u64 x1]⟩ 1).run Tryz.prog w = .ok (.int .u64 x1) w := run_part_one tb59 rfl w _ _ _ rfl
  have r1 : (part 59 ⟨[.int .u64 y0, .int .u64 y1]⟩ 1).run Tryz.prog w = .ok (.int .u64 y1) w := run_part_one tb59 rfl w _ _ _ rfl
  have q1 : (Op.equalIn (m + 1) 59 (.int .u64 x1) (.int .u64 y1)).run Tryz.prog w = .ok (x1 == y1) w := eqIn_int Tryz.underlying59 w
  cases h0 : (x0 == y0) with
  | false => simp [p0, r0, q0, h0]
  | true =>
    cases h1 : (x1 == y1) with
    | false => simp [p0, r0, q0, h0, p1, r1, q1, h1]
    | true =>
      simp [p0, r0, q0, h0, p1, r1, q1, h1]
theorem by36 : ByOk Tryz.prog 36 := ⟨⟨5, Tryz.underlying36, Tryz.underlying5⟩⟩
theorem apB36 : ApBytes Tryz.prog 36 5 := ⟨by kernel_rfl, by kernel_rfl⟩
theorem mixed : Tryz.prog.follows .mixedOrders = true := by kernel_rfl
end Go.Proofs.YtinickkcieecdaaGreatDoor
