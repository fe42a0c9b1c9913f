/- The table of the types of this translation, for the engine; by program (tb3.py). -/
import Derived.Test.YtmjhpemmhnpilaaDoorProg
import Derived.Test.YtmjhpemmhnpilaaDoorVm
namespace Go.Proofs.YtmjhpemmhnpilaaDoor
open Go.V
def tb : List (Nat × TI) := [(1, ⟨1, .nilFunc, false, [], none, none, 0⟩),
  (2, ⟨1, .int .i64 0, false, [], some .i64, none, 0⟩),
  (3, ⟨1, .int .i64 0, false, [], some .i64, none, 0⟩),
  (4, ⟨1, .bool false, false, [], none, none, 1⟩),
  (5, ⟨1, .int .u8 0, false, [], some .u8, none, 0⟩),
  (6, ⟨1, .int .u8 0, false, [], some .u8, none, 0⟩),
  (7, ⟨4, .agg #[.int .i64 0, .int .i64 0, .bool false, .int .u8 0], true, [(0, 2), (1, 3), (2, 4), (3, 6)], none, none, 0⟩),
  (8, ⟨4, .agg #[.int .i64 0, .int .i64 0, .bool false, .int .u8 0], true, [(0, 2), (1, 3), (2, 4), (3, 6)], none, none, 0⟩),
  (9, ⟨1, .string ⟨⟨[]⟩⟩, false, [], none, none, 2⟩),
  (10, ⟨1, .string ⟨⟨[]⟩⟩, false, [], none, none, 2⟩),
  (11, ⟨1, .string ⟨⟨[]⟩⟩, false, [], none, none, 2⟩),
  (12, ⟨1, .int .u64 0, false, [], some .u64, none, 0⟩),
  (13, ⟨2, .agg #[.string ⟨⟨[]⟩⟩, .int .u64 0], true, [(0, 9), (1, 12)], none, none, 0⟩),
  (14, ⟨2, .agg #[.string ⟨⟨[]⟩⟩, .int .u64 0], true, [(0, 9), (1, 12)], none, none, 0⟩),
  (15, ⟨1, .pointer none, false, [], none, none, 0⟩),
  (16, ⟨1, .pointer none, false, [], none, none, 0⟩),
  (17, ⟨1, .pointer none, false, [], none, none, 0⟩),
  (18, ⟨1, .agg #[.pointer none], true, [(0, 17)], none, none, 0⟩),
  (19, ⟨1, .agg #[.pointer none], true, [(0, 17)], none, none, 0⟩),
  (20, ⟨1, .nilIface, false, [], none, none, 3⟩),
  (21, ⟨1, .int .i32 0, false, [], some .i32, none, 0⟩),
  (22, ⟨1, .slice none 0 0, false, [], none, some 1, 13⟩),
  (23, ⟨1, .slice none 0 0, false, [], none, some 2, 40⟩),
  (24, ⟨1, .slice none 0 0, false, [], none, some 2, 42⟩),
  (25, ⟨4, .agg #[.slice none 0 0, .slice none 0 0, .slice none 0 0, .bool false], true, [(0, 22), (1, 23), (2, 24), (3, 4)], none, none, 0⟩),
  (26, ⟨4, .agg #[.slice none 0 0, .slice none 0 0, .slice none 0 0, .bool false], true, [(0, 22), (1, 23), (2, 24), (3, 4)], none, none, 0⟩),
  (27, ⟨1, .slice none 0 0, false, [], none, some 1, 7⟩),
  (28, ⟨1, .nilFunc, false, [], none, none, 0⟩),
  (29, ⟨1, .nilFunc, false, [], none, none, 0⟩),
  (30, ⟨1, .int .i64 0, false, [], some .i64, none, 0⟩),
  (31, ⟨1, .nilFunc, false, [], none, none, 0⟩),
  (32, ⟨1, .nilFunc, false, [], none, none, 0⟩),
  (33, ⟨1, .nilFunc, false, [], none, none, 0⟩),
  (34, ⟨1, .nilFunc, false, [], none, none, 0⟩),
  (35, ⟨2, .agg #[.string ⟨⟨[]⟩⟩, .int .i64 0], true, [(0, 9), (1, 3)], none, none, 0⟩),
  (36, ⟨2, .agg #[.string ⟨⟨[]⟩⟩, .int .i64 0], true, [(0, 9), (1, 3)], none, none, 0⟩),
  (37, ⟨2, .agg #[.slice none 0 0, .int .i64 0], true, [(0, 22), (1, 3)], none, none, 0⟩),
  (38, ⟨2, .agg #[.slice none 0 0, .int .i64 0], true, [(0, 22), (1, 3)], none, none, 0⟩),
  (39, ⟨1, .int .u64 0, false, [], some .u64, none, 0⟩),
  (40, ⟨1, .nilFunc, false, [], none, none, 0⟩),
  (41, ⟨1, .nilFunc, false, [], none, none, 0⟩),
  (42, ⟨1, .nilFunc, false, [], none, none, 0⟩),
  (43, ⟨1, .nilFunc, false, [], none, none, 0⟩),
  (44, ⟨1, .nilFunc, false, [], none, none, 0⟩),
  (45, ⟨1, .pointer none, false, [], none, none, 0⟩),
  (46, ⟨1, .nilFunc, false, [], none, none, 0⟩),
  (47, ⟨2, .agg #[.slice none 0 0, .int .i64 0], true, [(0, 27), (1, 3)], none, none, 0⟩),
  (48, ⟨2, .agg #[.slice none 0 0, .int .i64 0], true, [(0, 27), (1, 3)], none, none, 0⟩),
  (49, ⟨1, .nilFunc, false, [], none, none, 0⟩),
  (50, ⟨1, .nilFunc, false, [], none, none, 0⟩),
  (51, ⟨1, .nilFunc, false, [], none, none, 0⟩),
  (52, ⟨1, .nilFunc, false, [], none, none, 0⟩),
  (53, ⟨1, .nilFunc, false, [], none, none, 0⟩),
  (54, ⟨1, .nilFunc, false, [], none, none, 0⟩),
  (56, ⟨1, .nilFunc, false, [], none, none, 0⟩),
  (57, ⟨1, .nilFunc, false, [], none, none, 0⟩),
  (58, ⟨1, .nilFunc, false, [], none, none, 0⟩),
  (59, ⟨1, .nilFunc, false, [], none, none, 0⟩),
  (60, ⟨1, .nilFunc, false, [], none, none, 0⟩),
  (61, ⟨1, .nilFunc, false, [], none, none, 0⟩),
  (62, ⟨1, .slice none 0 0, false, [], none, some 1, 31⟩),
  (63, ⟨1, .nilFunc, false, [], none, none, 0⟩),
  (65, ⟨1, .nilFunc, false, [], none, none, 0⟩),
  (67, ⟨1, .nilFunc, false, [], none, none, 0⟩),
  (68, ⟨1, .nilFunc, false, [], none, none, 0⟩),
  (69, ⟨1, .nilFunc, false, [], none, none, 0⟩),
  (70, ⟨1, .nilFunc, false, [], none, none, 0⟩),
  (71, ⟨1, .nilFunc, false, [], none, none, 0⟩),
  (72, ⟨1, .nilFunc, false, [], none, none, 0⟩),
  (74, ⟨1, .nilFunc, false, [], none, none, 0⟩),
  (75, ⟨1, .nilIface, false, [], none, none, 3⟩),
  (76, ⟨1, .nilIface, false, [], none, none, 3⟩),
  (78, ⟨1, .nilFunc, false, [], none, none, 0⟩),
  (79, ⟨1, .pointer none, false, [], none, none, 0⟩),
  (80, ⟨1, .slice none 0 0, false, [], none, some 1, 9⟩),
  (81, ⟨2, .agg #[.pointer none, .slice none 0 0], true, [(0, 79), (1, 80)], none, none, 0⟩),
  (82, ⟨2, .agg #[.pointer none, .slice none 0 0], true, [(0, 79), (1, 80)], none, none, 0⟩),
  (83, ⟨1, .nilFunc, false, [], none, none, 0⟩),
  (84, ⟨1, .nilFunc, false, [], none, none, 0⟩),
  (85, ⟨1, .nilFunc, false, [], none, none, 0⟩),
  (86, ⟨1, .nilFunc, false, [], none, none, 0⟩),
  (87, ⟨1, .nilFunc, false, [], none, none, 0⟩),
  (88, ⟨1, .nilFunc, false, [], none, none, 0⟩),
  (89, ⟨1, .nilFunc, false, [], none, none, 0⟩),
  (90, ⟨1, .nilFunc, false, [], none, none, 0⟩),
  (91, ⟨1, .pointer none, false, [], none, none, 0⟩),
  (92, ⟨1, .nilFunc, false, [], none, none, 0⟩),
  (93, ⟨1, .nilFunc, false, [], none, none, 0⟩),
  (95, ⟨1, .nilFunc, false, [], none, none, 0⟩),
  (96, ⟨1, .nilFunc, false, [], none, none, 0⟩),
  (97, ⟨1, .int .i64 0, false, [], some .i64, none, 0⟩),
  (99, ⟨1, .nilFunc, false, [], none, none, 0⟩),
  (100, ⟨1, .pointer none, false, [], none, none, 0⟩),
  (101, ⟨1, .nilFunc, false, [], none, none, 0⟩),
  (102, ⟨1, .nilFunc, false, [], none, none, 0⟩),
  (104, ⟨1, .nilFunc, false, [], none, none, 0⟩),
  (105, ⟨1, .nilFunc, false, [], none, none, 0⟩),
  (106, ⟨24, .agg #[.int .u8 0, .int .u8 0, .int .u8 0, .int .u8 0, .int .u8 0, .int .u8 0, .int .u8 0, .int .u8 0, .int .u8 0, .int .u8 0, .int .u8 0, .int .u8 0, .int .u8 0, .int .u8 0, .int .u8 0, .int .u8 0, .int .u8 0, .int .u8 0, .int .u8 0, .int .u8 0, .int .u8 0, .int .u8 0, .int .u8 0, .int .u8 0], true, [], none, none, 0⟩),
  (107, ⟨1, .int .u64 0, false, [], some .u64, none, 0⟩),
  (108, ⟨1, .nilFunc, false, [], none, none, 0⟩),
  (109, ⟨1, .nilFunc, false, [], none, none, 0⟩),
  (111, ⟨1, .nilFunc, false, [], none, none, 0⟩),
  (113, ⟨1, .nilFunc, false, [], none, none, 0⟩),
  (114, ⟨1, .nilFunc, false, [], none, none, 0⟩),
  (115, ⟨3, .agg #[.string ⟨⟨[]⟩⟩, .string ⟨⟨[]⟩⟩, .nilIface], true, [(0, 9), (1, 9), (2, 76)], none, none, 0⟩),
  (116, ⟨3, .agg #[.string ⟨⟨[]⟩⟩, .string ⟨⟨[]⟩⟩, .nilIface], true, [(0, 9), (1, 9), (2, 76)], none, none, 0⟩),
  (117, ⟨1, .nilFunc, false, [], none, none, 0⟩),
  (118, ⟨1, .nilFunc, false, [], none, none, 0⟩),
  (119, ⟨20, .agg #[.int .u64 0, .int .u64 0, .int .u64 0, .int .u64 0, .int .u64 0, .int .u64 0, .int .u64 0, .int .u64 0, .int .u64 0, .int .u64 0, .int .u64 0, .int .u64 0, .int .u64 0, .int .u64 0, .int .u64 0, .int .u64 0, .int .u64 0, .int .u64 0, .int .u64 0, .int .u64 0], true, [], none, none, 0⟩),
  (120, ⟨1, .int .u32 0, false, [], some .u32, none, 0⟩),
  (122, ⟨1, .nilFunc, false, [], none, none, 0⟩),
  (124, ⟨2, .agg #[.int .u8 0, .int .u8 0], true, [(0, 5), (1, 5)], none, none, 0⟩),
  (125, ⟨2, .agg #[.int .u8 0, .int .u8 0], true, [(0, 5), (1, 5)], none, none, 0⟩),
  (126, ⟨32, .agg #[.int .u8 0, .int .u8 0, .int .u8 0, .int .u8 0, .int .u8 0, .int .u8 0, .int .u8 0, .int .u8 0, .int .u8 0, .int .u8 0, .int .u8 0, .int .u8 0, .int .u8 0, .int .u8 0, .int .u8 0, .int .u8 0, .int .u8 0, .int .u8 0, .int .u8 0, .int .u8 0, .int .u8 0, .int .u8 0, .int .u8 0, .int .u8 0, .int .u8 0, .int .u8 0, .int .u8 0, .int .u8 0, .int .u8 0, .int .u8 0, .int .u8 0, .int .u8 0], true, [], none, none, 0⟩),
  (128, ⟨1, .nilFunc, false, [], none, none, 0⟩),
  (129, ⟨1, .nilFunc, false, [], none, none, 0⟩),
  (130, ⟨1, .pointer none, false, [], none, none, 0⟩),
  (131, ⟨1, .agg #[.string ⟨⟨[]⟩⟩], true, [(0, 9)], none, none, 0⟩),
  (132, ⟨1, .agg #[.string ⟨⟨[]⟩⟩], true, [(0, 9)], none, none, 0⟩),
  (133, ⟨1, .nilFunc, false, [], none, none, 0⟩),
  (134, ⟨32, .agg #[.int .u8 0, .int .u8 0, .int .u8 0, .int .u8 0, .int .u8 0, .int .u8 0, .int .u8 0, .int .u8 0, .int .u8 0, .int .u8 0, .int .u8 0, .int .u8 0, .int .u8 0, .int .u8 0, .int .u8 0, .int .u8 0, .int .u8 0, .int .u8 0, .int .u8 0, .int .u8 0, .int .u8 0, .int .u8 0, .int .u8 0, .int .u8 0, .int .u8 0, .int .u8 0, .int .u8 0, .int .u8 0, .int .u8 0, .int .u8 0, .int .u8 0, .int .u8 0], true, [], none, none, 0⟩),
  (136, ⟨4, .agg #[.pointer none, .pointer none, .pointer none, .string ⟨⟨[]⟩⟩], true, [(0, 17), (1, 17), (2, 17), (3, 9)], none, none, 0⟩),
  (137, ⟨4, .agg #[.pointer none, .pointer none, .pointer none, .string ⟨⟨[]⟩⟩], true, [(0, 17), (1, 17), (2, 17), (3, 9)], none, none, 0⟩),
  (138, ⟨0, .agg #[], true, [], none, none, 0⟩),
  (139, ⟨0, .agg #[], true, [(1000000, 138)], none, none, 0⟩),
  (140, ⟨0, .agg #[], true, [(1000000, 138)], none, none, 0⟩),
  (141, ⟨1, .nilFunc, false, [], none, none, 0⟩),
  (142, ⟨1, .int .u8 0, false, [], some .u8, none, 0⟩),
  (143, ⟨1, .int .u8 0, false, [], some .u8, none, 0⟩),
  (144, ⟨1, .nilFunc, false, [], none, none, 0⟩),
  (145, ⟨1, .int .i32 0, false, [], some .i32, none, 0⟩),
  (146, ⟨1, .int .i32 0, false, [], some .i32, none, 0⟩),
  (147, ⟨11, .agg #[.int .u64 0, .int .u64 0, .int .u32 0, .int .u8 0, .int .u8 0, .int .u8 0, .int .u8 0, .nilFunc, .pointer none, .int .i32 0, .int .i32 0], true, [(0, 12), (1, 12), (2, 120), (3, 142), (4, 5), (5, 5), (6, 143), (7, 144), (8, 91), (9, 145), (10, 146)], none, none, 0⟩),
  (148, ⟨11, .agg #[.int .u64 0, .int .u64 0, .int .u32 0, .int .u8 0, .int .u8 0, .int .u8 0, .int .u8 0, .nilFunc, .pointer none, .int .i32 0, .int .i32 0], true, [(0, 12), (1, 12), (2, 120), (3, 142), (4, 5), (5, 5), (6, 143), (7, 144), (8, 91), (9, 145), (10, 146)], none, none, 0⟩)]
theorem tb1 : TIok Tryd.prog 1 ((get tb 1).getD ⟨0, undef, false, [], none, none, 0⟩) := ⟨by kernel_rfl, by kernel_rfl⟩
theorem tb2 : TIok Tryd.prog 2 ((get tb 2).getD ⟨0, undef, false, [], none, none, 0⟩) := ⟨by kernel_rfl, by kernel_rfl⟩
theorem tb3 : TIok Tryd.prog 3 ((get tb 3).getD ⟨0, undef, false, [], none, none, 0⟩) := ⟨by kernel_rfl, by kernel_rfl⟩
theorem tb4 : TIok Tryd.prog 4 ((get tb 4).getD ⟨0, undef, false, [], none, none, 0⟩) := ⟨by kernel_rfl, by kernel_rfl⟩
theorem tb5 : TIok Tryd.prog 5 ((get tb 5).getD ⟨0, undef, false, [], none, none, 0⟩) := ⟨by kernel_rfl, by kernel_rfl⟩
theorem tb6 : TIok Tryd.prog 6 ((get tb 6).getD ⟨0, undef, false, [], none, none, 0⟩) := ⟨by kernel_rfl, by kernel_rfl⟩
theorem tb7 : TIok Tryd.prog 7 ((get tb 7).getD ⟨0, undef, false, [], none, none, 0⟩) := ⟨by kernel_rfl, by kernel_rfl⟩
theorem tb8 : TIok Tryd.prog 8 ((get tb 8).getD ⟨0, undef, false, [], none, none, 0⟩) := ⟨by kernel_rfl, by kernel_rfl⟩
theorem tb9 : TIok Tryd.prog 9 ((get tb 9).getD ⟨0, undef, false, [], none, none, 0⟩) := ⟨by kernel_rfl, by kernel_rfl⟩
theorem tb10 : TIok Tryd.prog 10 ((get tb 10).getD ⟨0, undef, false, [], none, none, 0⟩) := ⟨by kernel_rfl, by kernel_rfl⟩
theorem tb11 : TIok Tryd.prog 11 ((get tb 11).getD ⟨0, undef, false, [], none, none, 0⟩) := ⟨by kernel_rfl, by kernel_rfl⟩
theorem tb12 : TIok Tryd.prog 12 ((get tb 12).getD ⟨0, undef, false, [], none, none, 0⟩) := ⟨by kernel_rfl, by kernel_rfl⟩
theorem tb13 : TIok Tryd.prog 13 ((get tb 13).getD ⟨0, undef, false, [], none, none, 0⟩) := ⟨by kernel_rfl, by kernel_rfl⟩
theorem tb14 : TIok Tryd.prog 14 ((get tb 14).getD ⟨0, undef, false, [], none, none, 0⟩) := ⟨by kernel_rfl, by kernel_rfl⟩
theorem tb15 : TIok Tryd.prog 15 ((get tb 15).getD ⟨0, undef, false, [], none, none, 0⟩) := ⟨by kernel_rfl, by kernel_rfl⟩
theorem tb16 : TIok Tryd.prog 16 ((get tb 16).getD ⟨0, undef, false, [], none, none, 0⟩) := ⟨by kernel_rfl, by kernel_rfl⟩
theorem tb17 : TIok Tryd.prog 17 ((get tb 17).getD ⟨0, undef, false, [], none, none, 0⟩) := ⟨by kernel_rfl, by kernel_rfl⟩
theorem tb18 : TIok Tryd.prog 18 ((get tb 18).getD ⟨0, undef, false, [], none, none, 0⟩) := ⟨by kernel_rfl, by kernel_rfl⟩
theorem tb19 : TIok Tryd.prog 19 ((get tb 19).getD ⟨0, undef, false, [], none, none, 0⟩) := ⟨by kernel_rfl, by kernel_rfl⟩
theorem tb20 : TIok Tryd.prog 20 ((get tb 20).getD ⟨0, undef, false, [], none, none, 0⟩) := ⟨by kernel_rfl, by kernel_rfl⟩
theorem tb21 : TIok Tryd.prog 21 ((get tb 21).getD ⟨0, undef, false, [], none, none, 0⟩) := ⟨by kernel_rfl, by kernel_rfl⟩
theorem tb22 : TIok Tryd.prog 22 ((get tb 22).getD ⟨0, undef, false, [], none, none, 0⟩) := ⟨by kernel_rfl, by kernel_rfl⟩
theorem tb23 : TIok Tryd.prog 23 ((get tb 23).getD ⟨0, undef, false, [], none, none, 0⟩) := ⟨by kernel_rfl, by kernel_rfl⟩
theorem tb24 : TIok Tryd.prog 24 ((get tb 24).getD ⟨0, undef, false, [], none, none, 0⟩) := ⟨by kernel_rfl, by kernel_rfl⟩
theorem tb25 : TIok Tryd.prog 25 ((get tb 25).getD ⟨0, undef, false, [], none, none, 0⟩) := ⟨by kernel_rfl, by kernel_rfl⟩
theorem tb26 : TIok Tryd.prog 26 ((get tb 26).getD ⟨0, undef, false, [], none, none, 0⟩) := ⟨by kernel_rfl, by kernel_rfl⟩
theorem tb27 : TIok Tryd.prog 27 ((get tb 27).getD ⟨0, undef, false, [], none, none, 0⟩) := ⟨by kernel_rfl, by kernel_rfl⟩
theorem tb28 : TIok Tryd.prog 28 ((get tb 28).getD ⟨0, undef, false, [], none, none, 0⟩) := ⟨by kernel_rfl, by kernel_rfl⟩
theorem tb29 : TIok Tryd.prog 29 ((get tb 29).getD ⟨0, undef, false, [], none, none, 0⟩) := ⟨by kernel_rfl, by kernel_rfl⟩
theorem tb30 : TIok Tryd.prog 30 ((get tb 30).getD ⟨0, undef, false, [], none, none, 0⟩) := ⟨by kernel_rfl, by kernel_rfl⟩
theorem tb31 : TIok Tryd.prog 31 ((get tb 31).getD ⟨0, undef, false, [], none, none, 0⟩) := ⟨by kernel_rfl, by kernel_rfl⟩
theorem tb32 : TIok Tryd.prog 32 ((get tb 32).getD ⟨0, undef, false, [], none, none, 0⟩) := ⟨by kernel_rfl, by kernel_rfl⟩
theorem tb33 : TIok Tryd.prog 33 ((get tb 33).getD ⟨0, undef, false, [], none, none, 0⟩) := ⟨by kernel_rfl, by kernel_rfl⟩
theorem tb34 : TIok Tryd.prog 34 ((get tb 34).getD ⟨0, undef, false, [], none, none, 0⟩) := ⟨by kernel_rfl, by kernel_rfl⟩
theorem tb35 : TIok Tryd.prog 35 ((get tb 35).getD ⟨0, undef, false, [], none, none, 0⟩) := ⟨by kernel_rfl, by kernel_rfl⟩
theorem tb36 : TIok Tryd.prog 36 ((get tb 36).getD ⟨0, undef, false, [], none, none, 0⟩) := ⟨by kernel_rfl, by kernel_rfl⟩
theorem tb37 : TIok Tryd.prog 37 ((get tb 37).getD ⟨0, undef, false, [], none, none, 0⟩) := ⟨by kernel_rfl, by kernel_rfl⟩
theorem tb38 : TIok Tryd.prog 38 ((get tb 38).getD ⟨0, undef, false, [], none, none, 0⟩) := ⟨by kernel_rfl, by kernel_rfl⟩
theorem tb39 : TIok Tryd.prog 39 ((get tb 39).getD ⟨0, undef, false, [], none, none, 0⟩) := ⟨by kernel_rfl, by kernel_rfl⟩
theorem tb40 : TIok Tryd.prog 40 ((get tb 40).getD ⟨0, undef, false, [], none, none, 0⟩) := ⟨by kernel_rfl, by kernel_rfl⟩
theorem tb41 : TIok Tryd.prog 41 ((get tb 41).getD ⟨0, undef, false, [], none, none, 0⟩) := ⟨by kernel_rfl, by kernel_rfl⟩
theorem tb42 : TIok Tryd.prog 42 ((get tb 42).getD ⟨0, undef, false, [], none, none, 0⟩) := ⟨by kernel_rfl, by kernel_rfl⟩
theorem tb43 : TIok Tryd.prog 43 ((get tb 43).getD ⟨0, undef, false, [], none, none, 0⟩) := ⟨by kernel_rfl, by kernel_rfl⟩
theorem tb44 : TIok Tryd.prog 44 ((get tb 44).getD ⟨0, undef, false, [], none, none, 0⟩) := ⟨by kernel_rfl, by kernel_rfl⟩
theorem tb45 : TIok Tryd.prog 45 ((get tb 45).getD ⟨0, undef, false, [], none, none, 0⟩) := ⟨by kernel_rfl, by kernel_rfl⟩
theorem tb46 : TIok Tryd.prog 46 ((get tb 46).getD ⟨0, undef, false, [], none, none, 0⟩) := ⟨by kernel_rfl, by kernel_rfl⟩
theorem tb47 : TIok Tryd.prog 47 ((get tb 47).getD ⟨0, undef, false, [], none, none, 0⟩) := ⟨by kernel_rfl, by kernel_rfl⟩
theorem tb48 : TIok Tryd.prog 48 ((get tb 48).getD ⟨0, undef, false, [], none, none, 0⟩) := ⟨by kernel_rfl, by kernel_rfl⟩
theorem tb49 : TIok Tryd.prog 49 ((get tb 49).getD ⟨0, undef, false, [], none, none, 0⟩) := ⟨by kernel_rfl, by kernel_rfl⟩
theorem tb50 : TIok Tryd.prog 50 ((get tb 50).getD ⟨0, undef, false, [], none, none, 0⟩) := ⟨by kernel_rfl, by kernel_rfl⟩
theorem tb51 : TIok Tryd.prog 51 ((get tb 51).getD ⟨0, undef, false, [], none, none, 0⟩) := ⟨by kernel_rfl, by kernel_rfl⟩
theorem tb52 : TIok Tryd.prog 52 ((get tb 52).getD ⟨0, undef, false, [], none, none, 0⟩) := ⟨by kernel_rfl, by kernel_rfl⟩
theorem tb53 : TIok Tryd.prog 53 ((get tb 53).getD ⟨0, undef, false, [], none, none, 0⟩) := ⟨by kernel_rfl, by kernel_rfl⟩
theorem tb54 : TIok Tryd.prog 54 ((get tb 54).getD ⟨0, undef, false, [], none, none, 0⟩) := ⟨by kernel_rfl, by kernel_rfl⟩
theorem tb56 : TIok Tryd.prog 56 ((get tb 56).getD ⟨0, undef, false, [], none, none, 0⟩) := ⟨by kernel_rfl, by kernel_rfl⟩
theorem tb57 : TIok Tryd.prog 57 ((get tb 57).getD ⟨0, undef, false, [], none, none, 0⟩) := ⟨by kernel_rfl, by kernel_rfl⟩
theorem tb58 : TIok Tryd.prog 58 ((get tb 58).getD ⟨0, undef, false, [], none, none, 0⟩) := ⟨by kernel_rfl, by kernel_rfl⟩
theorem tb59 : TIok Tryd.prog 59 ((get tb 59).getD ⟨0, undef, false, [], none, none, 0⟩) := ⟨by kernel_rfl, by kernel_rfl⟩
theorem tb60 : TIok Tryd.prog 60 ((get tb 60).getD ⟨0, undef, false, [], none, none, 0⟩) := ⟨by kernel_rfl, by kernel_rfl⟩
theorem tb61 : TIok Tryd.prog 61 ((get tb 61).getD ⟨0, undef, false, [], none, none, 0⟩) := ⟨by kernel_rfl, by kernel_rfl⟩
theorem tb62 : TIok Tryd.prog 62 ((get tb 62).getD ⟨0, undef, false, [], none, none, 0⟩) := ⟨by kernel_rfl, by kernel_rfl⟩
theorem tb63 : TIok Tryd.prog 63 ((get tb 63).getD ⟨0, undef, false, [], none, none, 0⟩) := ⟨by kernel_rfl, by kernel_rfl⟩
theorem tb65 : TIok Tryd.prog 65 ((get tb 65).getD ⟨0, undef, false, [], none, none, 0⟩) := ⟨by kernel_rfl, by kernel_rfl⟩
theorem tb67 : TIok Tryd.prog 67 ((get tb 67).getD ⟨0, undef, false, [], none, none, 0⟩) := ⟨by kernel_rfl, by kernel_rfl⟩
theorem tb68 : TIok Tryd.prog 68 ((get tb 68).getD ⟨0, undef, false, [], none, none, 0⟩) := ⟨by kernel_rfl, by kernel_rfl⟩
theorem tb69 : TIok Tryd.prog 69 ((get tb 69).getD ⟨0, undef, false, [], none, none, 0⟩) := ⟨by kernel_rfl, by kernel_rfl⟩
theorem tb70 : TIok Tryd.prog 70 ((get tb 70).getD ⟨0, undef, false, [], none, none, 0⟩) := ⟨by kernel_rfl, by kernel_rfl⟩
theorem tb71 : TIok Tryd.prog 71 ((get tb 71).getD ⟨0, undef, false, [], none, none, 0⟩) := ⟨by kernel_rfl, by kernel_rfl⟩
theorem tb72 : TIok Tryd.prog 72 ((get tb 72).getD ⟨0, undef, false, [], none, none, 0⟩) := ⟨by kernel_rfl, by kernel_rfl⟩
theorem tb74 : TIok Tryd.prog 74 ((get tb 74).getD ⟨0, undef, false, [], none, none, 0⟩) := ⟨by kernel_rfl, by kernel_rfl⟩
theorem tb75 : TIok Tryd.prog 75 ((get tb 75).getD ⟨0, undef, false, [], none, none, 0⟩) := ⟨by kernel_rfl, by kernel_rfl⟩
theorem tb76 : TIok Tryd.prog 76 ((get tb 76).getD ⟨0, undef, false, [], none, none, 0⟩) := ⟨by kernel_rfl, by kernel_rfl⟩
theorem tb78 : TIok Tryd.prog 78 ((get tb 78).getD ⟨0, undef, false, [], none, none, 0⟩) := ⟨by kernel_rfl, by kernel_rfl⟩
theorem tb79 : TIok Tryd.prog 79 ((get tb 79).getD ⟨0, undef, false, [], none, none, 0⟩) := ⟨by kernel_rfl, by kernel_rfl⟩
theorem tb80 : TIok Tryd.prog 80 ((get tb 80).getD ⟨0, undef, false, [], none, none, 0⟩) := ⟨by kernel_rfl, by kernel_rfl⟩
theorem tb81 : TIok Tryd.prog 81 ((get tb 81).getD ⟨0, undef, false, [], none, none, 0⟩) := ⟨by kernel_rfl, by kernel_rfl⟩
theorem tb82 : TIok Tryd.prog 82 ((get tb 82).getD ⟨0, undef, false, [], none, none, 0⟩) := ⟨by kernel_rfl, by kernel_rfl⟩
theorem tb83 : TIok Tryd.prog 83 ((get tb 83).getD ⟨0, undef, false, [], none, none, 0⟩) := ⟨by kernel_rfl, by kernel_rfl⟩
theorem tb84 : TIok Tryd.prog 84 ((get tb 84).getD ⟨0, undef, false, [], none, none, 0⟩) := ⟨by kernel_rfl, by kernel_rfl⟩
theorem tb85 : TIok Tryd.prog 85 ((get tb 85).getD ⟨0, undef, false, [], none, none, 0⟩) := ⟨by kernel_rfl, by kernel_rfl⟩
theorem tb86 : TIok Tryd.prog 86 ((get tb 86).getD ⟨0, undef, false, [], none, none, 0⟩) := ⟨by kernel_rfl, by kernel_rfl⟩
theorem tb87 : TIok Tryd.prog 87 ((get tb 87).getD ⟨0, undef, false, [], none, none, 0⟩) := ⟨by kernel_rfl, by kernel_rfl⟩
theorem tb88 : TIok Tryd.prog 88 ((get tb 88).getD ⟨0, undef, false, [], none, none, 0⟩) := ⟨by kernel_rfl, by kernel_rfl⟩
theorem tb89 : TIok Tryd.prog 89 ((get tb 89).getD ⟨0, undef, false, [], none, none, 0⟩) := ⟨by kernel_rfl, by kernel_rfl⟩
theorem tb90 : TIok Tryd.prog 90 ((get tb 90).getD ⟨0, undef, false, [], none, none, 0⟩) := ⟨by kernel_rfl, by kernel_rfl⟩
theorem tb91 : TIok Tryd.prog 91 ((get tb 91).getD ⟨0, undef, false, [], none, none, 0⟩) := ⟨by kernel_rfl, by kernel_rfl⟩
theorem tb92 : TIok Tryd.prog 92 ((get tb 92).getD ⟨0, undef, false, [], none, none, 0⟩) := ⟨by kernel_rfl, by kernel_rfl⟩
theorem tb93 : TIok Tryd.prog 93 ((get tb 93).getD ⟨0, undef, false, [], none, none, 0⟩) := ⟨by kernel_rfl, by kernel_rfl⟩
theorem tb95 : TIok Tryd.prog 95 ((get tb 95).getD ⟨0, undef, false, [], none, none, 0⟩) := ⟨by kernel_rfl, by kernel_rfl⟩
theorem tb96 : TIok Tryd.prog 96 ((get tb 96).getD ⟨0, undef, false, [], none, none, 0⟩) := ⟨by kernel_rfl, by kernel_rfl⟩
theorem tb97 : TIok Tryd.prog 97 ((get tb 97).getD ⟨0, undef, false, [], none, none, 0⟩) := ⟨by kernel_rfl, by kernel_rfl⟩
theorem tb99 : TIok Tryd.prog 99 ((get tb 99).getD ⟨0, undef, false, [], none, none, 0⟩) := ⟨by kernel_rfl, by kernel_rfl⟩
theorem tb100 : TIok Tryd.prog 100 ((get tb 100).getD ⟨0, undef, false, [], none, none, 0⟩) := ⟨by kernel_rfl, by kernel_rfl⟩
theorem tb101 : TIok Tryd.prog 101 ((get tb 101).getD ⟨0, undef, false, [], none, none, 0⟩) := ⟨by kernel_rfl, by kernel_rfl⟩
theorem tb102 : TIok Tryd.prog 102 ((get tb 102).getD ⟨0, undef, false, [], none, none, 0⟩) := ⟨by kernel_rfl, by kernel_rfl⟩
theorem tb104 : TIok Tryd.prog 104 ((get tb 104).getD ⟨0, undef, false, [], none, none, 0⟩) := ⟨by kernel_rfl, by kernel_rfl⟩
theorem tb105 : TIok Tryd.prog 105 ((get tb 105).getD ⟨0, undef, false, [], none, none, 0⟩) := ⟨by kernel_rfl, by kernel_rfl⟩
theorem tb106 : TIok Tryd.prog 106 ((get tb 106).getD ⟨0, undef, false, [], none, none, 0⟩) := ⟨by kernel_rfl, by kernel_rfl⟩
theorem tb107 : TIok Tryd.prog 107 ((get tb 107).getD ⟨0, undef, false, [], none, none, 0⟩) := ⟨by kernel_rfl, by kernel_rfl⟩
theorem tb108 : TIok Tryd.prog 108 ((get tb 108).getD ⟨0, undef, false, [], none, none, 0⟩) := ⟨by kernel_rfl, by kernel_rfl⟩
theorem tb109 : TIok Tryd.prog 109 ((get tb 109).getD ⟨0, undef, false, [], none, none, 0⟩) := ⟨by kernel_rfl, by kernel_rfl⟩
theorem tb111 : TIok Tryd.prog 111 ((get tb 111).getD ⟨0, undef, false, [], none, none, 0⟩) := ⟨by kernel_rfl, by kernel_rfl⟩
theorem tb113 : TIok Tryd.prog 113 ((get tb 113).getD ⟨0, undef, false, [], none, none, 0⟩) := ⟨by kernel_rfl, by kernel_rfl⟩
theorem tb114 : TIok Tryd.prog 114 ((get tb 114).getD ⟨0, undef, false, [], none, none, 0⟩) := ⟨by kernel_rfl, by kernel_rfl⟩
theorem tb115 : TIok Tryd.prog 115 ((get tb 115).getD ⟨0, undef, false, [], none, none, 0⟩) := ⟨by kernel_rfl, by kernel_rfl⟩
theorem tb116 : TIok Tryd.prog 116 ((get tb 116).getD ⟨0, undef, false, [], none, none, 0⟩) := ⟨by kernel_rfl, by kernel_rfl⟩
theorem tb117 : TIok Tryd.prog 117 ((get tb 117).getD ⟨0, undef, false, [], none, none, 0⟩) := ⟨by kernel_rfl, by kernel_rfl⟩
theorem tb118 : TIok Tryd.prog 118 ((get tb 118).getD ⟨0, undef, false, [], none, none, 0⟩) := ⟨by kernel_rfl, by kernel_rfl⟩
theorem tb119 : TIok Tryd.prog 119 ((get tb 119).getD ⟨0, undef, false, [], none, none, 0⟩) := ⟨by kernel_rfl, by kernel_rfl⟩
theorem tb120 : TIok Tryd.prog 120 ((get tb 120).getD ⟨0, undef, false, [], none, none, 0⟩) := ⟨by kernel_rfl, by kernel_rfl⟩
theorem tb122 : TIok Tryd.prog 122 ((get tb 122).getD ⟨0, undef, false, [], none, none, 0⟩) := ⟨by kernel_rfl, by kernel_rfl⟩
theorem tb124 : TIok Tryd.prog 124 ((get tb 124).getD ⟨0, undef, false, [], none, none, 0⟩) := ⟨by kernel_rfl, by kernel_rfl⟩
theorem tb125 : TIok Tryd.prog 125 ((get tb 125).getD ⟨0, undef, false, [], none, none, 0⟩) := ⟨by kernel_rfl, by kernel_rfl⟩
theorem tb126 : TIok Tryd.prog 126 ((get tb 126).getD ⟨0, undef, false, [], none, none, 0⟩) := ⟨by kernel_rfl, by kernel_rfl⟩
theorem tb128 : TIok Tryd.prog 128 ((get tb 128).getD ⟨0, undef, false, [], none, none, 0⟩) := ⟨by kernel_rfl, by kernel_rfl⟩
theorem tb129 : TIok Tryd.prog 129 ((get tb 129).getD ⟨0, undef, false, [], none, none, 0⟩) := ⟨by kernel_rfl, by kernel_rfl⟩
theorem tb130 : TIok Tryd.prog 130 ((get tb 130).getD ⟨0, undef, false, [], none, none, 0⟩) := ⟨by kernel_rfl, by kernel_rfl⟩
theorem tb131 : TIok Tryd.prog 131 ((get tb 131).getD ⟨0, undef, false, [], none, none, 0⟩) := ⟨by kernel_rfl, by kernel_rfl⟩
theorem tb132 : TIok Tryd.prog 132 ((get tb 132).getD ⟨0, undef, false, [], none, none, 0⟩) := ⟨by kernel_rfl, by kernel_rfl⟩
theorem tb133 : TIok Tryd.prog 133 ((get tb 133).getD ⟨0, undef, false, [], none, none, 0⟩) := ⟨by kernel_rfl, by kernel_rfl⟩
theorem tb134 : TIok Tryd.prog 134 ((get tb 134).getD ⟨0, undef, false, [], none, none, 0⟩) := ⟨by kernel_rfl, by kernel_rfl⟩
theorem tb136 : TIok Tryd.prog 136 ((get tb 136).getD ⟨0, undef, false, [], none, none, 0⟩) := ⟨by kernel_rfl, by kernel_rfl⟩
theorem tb137 : TIok Tryd.prog 137 ((get tb 137).getD ⟨0, undef, false, [], none, none, 0⟩) := ⟨by kernel_rfl, by kernel_rfl⟩
theorem tb138 : TIok Tryd.prog 138 ((get tb 138).getD ⟨0, undef, false, [], none, none, 0⟩) := ⟨by kernel_rfl, by kernel_rfl⟩
theorem tb139 : TIok Tryd.prog 139 ((get tb 139).getD ⟨0, undef, false, [], none, none, 0⟩) := ⟨by kernel_rfl, by kernel_rfl⟩
theorem tb140 : TIok Tryd.prog 140 ((get tb 140).getD ⟨0, undef, false, [], none, none, 0⟩) := ⟨by kernel_rfl, by kernel_rfl⟩
theorem tb141 : TIok Tryd.prog 141 ((get tb 141).getD ⟨0, undef, false, [], none, none, 0⟩) := ⟨by kernel_rfl, by kernel_rfl⟩
theorem tb142 : TIok Tryd.prog 142 ((get tb 142).getD ⟨0, undef, false, [], none, none, 0⟩) := ⟨by kernel_rfl, by kernel_rfl⟩
theorem tb143 : TIok Tryd.prog 143 ((get tb 143).getD ⟨0, undef, false, [], none, none, 0⟩) := ⟨by kernel_rfl, by kernel_rfl⟩
theorem tb144 : TIok Tryd.prog 144 ((get tb 144).getD ⟨0, undef, false, [], none, none, 0⟩) := ⟨by kernel_rfl, by kernel_rfl⟩
theorem tb145 : TIok Tryd.prog 145 ((get tb 145).getD ⟨0, undef, false, [], none, none, 0⟩) := ⟨by kernel_rfl, by kernel_rfl⟩
theorem tb146 : TIok Tryd.prog 146 ((get tb 146).getD ⟨0, undef, false, [], none, none, 0⟩) := ⟨by kernel_rfl, by kernel_rfl⟩
theorem tb147 : TIok Tryd.prog 147 ((get tb 147).getD ⟨0, undef, false, [], none, none, 0⟩) := ⟨by kernel_rfl, by kernel_rfl⟩
theorem tb148 : TIok Tryd.prog 148 ((get tb 148).getD ⟨0, undef, false, [], none, none, 0⟩) := ⟨by kernel_rfl, by kernel_rfl⟩
theorem tbOk : TblOk Tryd.prog tb := ⟨tb1, tb2, tb3, tb4, tb5, tb6, tb7, tb8, tb9, tb10, tb11, tb12, tb13, tb14, tb15, tb16, tb17, tb18, tb19, tb20, tb21, tb22, tb23, tb24, tb25, tb26, tb27, tb28, tb29, tb30, tb31, tb32, tb33, tb34, tb35, tb36, tb37, tb38, tb39, tb40, tb41, tb42, tb43, tb44, tb45, tb46, tb47, tb48, tb49, tb50, tb51, tb52, tb53, tb54, tb56, tb57, tb58, tb59, tb60, tb61, tb62, tb63, tb65, tb67, tb68, tb69, tb70, tb71, tb72, tb74, tb75, tb76, tb78, tb79, tb80, tb81, tb82, tb83, tb84, tb85, tb86, tb87, tb88, tb89, tb90, tb91, tb92, tb93, tb95, tb96, tb97, tb99, tb100, tb101, tb102, tb104, tb105, tb106, tb107, tb108, tb109, tb111, tb113, tb114, tb115, tb116, tb117, tb118, tb119, tb120, tb122, tb124, tb125, tb126, tb128, tb129, tb130, tb131, tb132, tb133, tb134, tb136, tb137, tb138, tb139, tb140, tb141, tb142, tb143, tb144, tb145, tb146, tb147, tb148, trivial⟩
theorem fn3 : HasBody Tryd.prog 3 := hasBody Tryd.func3 (by kernel_rfl) (by kernel_rfl)
theorem fn4 : HasBody Tryd.prog 4 := hasBody Tryd.func4 (by kernel_rfl) (by kernel_rfl)
theorem fn5 : HasBody Tryd.prog 5 := hasBody Tryd.func5 (by kernel_rfl) (by kernel_rfl)
theorem fn6 : HasBody Tryd.prog 6 := hasBody Tryd.func6 (by kernel_rfl) (by kernel_rfl)
theorem fn7 : HasBody Tryd.prog 7 := hasBody Tryd.func7 (by kernel_rfl) (by kernel_rfl)
theorem fn8 : HasBody Tryd.prog 8 := hasBody Tryd.func8 (by kernel_rfl) (by kernel_rfl)
theorem fn9 : HasBody Tryd.prog 9 := hasBody Tryd.func9 (by kernel_rfl) (by kernel_rfl)
theorem fn10 : HasBody Tryd.prog 10 := hasBody Tryd.func10 (by kernel_rfl) (by kernel_rfl)
theorem fn11 : HasBody Tryd.prog 11 := hasBody Tryd.func11 (by kernel_rfl) (by kernel_rfl)
theorem fn12 : HasBody Tryd.prog 12 := hasBody Tryd.func12 (by kernel_rfl) (by kernel_rfl)
theorem fn13 : HasBody Tryd.prog 13 := hasBody Tryd.func13 (by kernel_rfl) (by kernel_rfl)
theorem fn14 : HasBody Tryd.prog 14 := hasBody Tryd.func14 (by kernel_rfl) (by kernel_rfl)
theorem fn15 : HasBody Tryd.prog 15 := hasBody Tryd.func15 (by kernel_rfl) (by kernel_rfl)
theorem fn16 : HasBody Tryd.prog 16 := hasBody Tryd.func16 (by kernel_rfl) (by kernel_rfl)
theorem fn17 : HasBody Tryd.prog 17 := hasBody Tryd.func17 (by kernel_rfl) (by kernel_rfl)
theorem fn18 : HasBody Tryd.prog 18 := hasBody Tryd.func18 (by kernel_rfl) (by kernel_rfl)
theorem fn19 : HasBody Tryd.prog 19 := hasBody Tryd.func19 (by kernel_rfl) (by kernel_rfl)
theorem fn20 : HasBody Tryd.prog 20 := hasBody Tryd.func20 (by kernel_rfl) (by kernel_rfl)
theorem fn21 : HasBody Tryd.prog 21 := hasBody Tryd.func21 (by kernel_rfl) (by kernel_rfl)
theorem fn22 : HasBody Tryd.prog 22 := hasBody Tryd.func22 (by kernel_rfl) (by kernel_rfl)
theorem fn23 : HasBody Tryd.prog 23 := hasBody Tryd.func23 (by kernel_rfl) (by kernel_rfl)
theorem fn24 : HasBody Tryd.prog 24 := hasBody Tryd.func24 (by kernel_rfl) (by kernel_rfl)
theorem fn25 : HasBody Tryd.prog 25 := hasBody Tryd.func25 (by kernel_rfl) (by kernel_rfl)
theorem fn26 : HasBody Tryd.prog 26 := hasBody Tryd.func26 (by kernel_rfl) (by kernel_rfl)
theorem fn27 : HasBody Tryd.prog 27 := hasBody Tryd.func27 (by kernel_rfl) (by kernel_rfl)
theorem fn28 : HasBody Tryd.prog 28 := hasBody Tryd.func28 (by kernel_rfl) (by kernel_rfl)
theorem fn29 : HasBody Tryd.prog 29 := hasBody Tryd.func29 (by kernel_rfl) (by kernel_rfl)
theorem fn30 : HasBody Tryd.prog 30 := hasBody Tryd.func30 (by kernel_rfl) (by kernel_rfl)
theorem fn31 : HasBody Tryd.prog 31 := hasBody Tryd.func31 (by kernel_rfl) (by kernel_rfl)
theorem fn32 : HasBody Tryd.prog 32 := hasBody Tryd.func32 (by kernel_rfl) (by kernel_rfl)
theorem fn33 : HasBody Tryd.prog 33 := hasBody Tryd.func33 (by kernel_rfl) (by kernel_rfl)
theorem fn34 : HasBody Tryd.prog 34 := hasBody Tryd.func34 (by kernel_rfl) (by kernel_rfl)
theorem fn35 : HasBody Tryd.prog 35 := hasBody Tryd.func35 (by kernel_rfl) (by kernel_rfl)
theorem fn36 : HasBody Tryd.prog 36 := hasBody Tryd.func36 (by kernel_rfl) (by kernel_rfl)
theorem fn37 : HasBody Tryd.prog 37 := hasBody Tryd.func37 (by kernel_rfl) (by kernel_rfl)
theorem fn38 : HasBody Tryd.prog 38 := hasBody Tryd.func38 (by kernel_rfl) (by kernel_rfl)
theorem fn39 : HasBody Tryd.prog 39 := hasBody Tryd.func39 (by kernel_rfl) (by kernel_rfl)
theorem fn40 : HasBody Tryd.prog 40 := hasBody Tryd.func40 (by kernel_rfl) (by kernel_rfl)
theorem fn41 : HasBody Tryd.prog 41 := hasBody Tryd.func41 (by kernel_rfl) (by kernel_rfl)
theorem fn42 : HasBody Tryd.prog 42 := hasBody Tryd.func42 (by kernel_rfl) (by kernel_rfl)
theorem fn43 : HasBody Tryd.prog 43 := hasBody Tryd.func43 (by kernel_rfl) (by kernel_rfl)
theorem fn44 : HasBody Tryd.prog 44 := hasBody Tryd.func44 (by kernel_rfl) (by kernel_rfl)
theorem fn45 : HasBody Tryd.prog 45 := hasBody Tryd.func45 (by kernel_rfl) (by kernel_rfl)
theorem fn46 : HasBody Tryd.prog 46 := hasBody Tryd.func46 (by kernel_rfl) (by kernel_rfl)
theorem fn47 : HasBody Tryd.prog 47 := hasBody Tryd.func47 (by kernel_rfl) (by kernel_rfl)
theorem fn48 : HasBody Tryd.prog 48 := hasBody Tryd.func48 (by kernel_rfl) (by kernel_rfl)
theorem fn49 : HasBody Tryd.prog 49 := hasBody Tryd.func49 (by kernel_rfl) (by kernel_rfl)
theorem fn50 : HasBody Tryd.prog 50 := hasBody Tryd.func50 (by kernel_rfl) (by kernel_rfl)
theorem fn51 : HasBody Tryd.prog 51 := hasBody Tryd.func51 (by kernel_rfl) (by kernel_rfl)
theorem fn52 : HasBody Tryd.prog 52 := hasBody Tryd.func52 (by kernel_rfl) (by kernel_rfl)
theorem fn53 : HasBody Tryd.prog 53 := hasBody Tryd.func53 (by kernel_rfl) (by kernel_rfl)
theorem fn54 : HasBody Tryd.prog 54 := hasBody Tryd.func54 (by kernel_rfl) (by kernel_rfl)
theorem fn55 : HasBody Tryd.prog 55 := hasBody Tryd.func55 (by kernel_rfl) (by kernel_rfl)
theorem fn56 : HasBody Tryd.prog 56 := hasBody Tryd.func56 (by kernel_rfl) (by kernel_rfl)
theorem fn57 : HasBody Tryd.prog 57 := hasBody Tryd.func57 (by kernel_rfl) (by kernel_rfl)
theorem fn58 : HasBody Tryd.prog 58 := hasBody Tryd.func58 (by kernel_rfl) (by kernel_rfl)
theorem fn59 : HasBody Tryd.prog 59 := hasBody Tryd.func59 (by kernel_rfl) (by kernel_rfl)
theorem fn60 : HasBody Tryd.prog 60 := hasBody Tryd.func60 (by kernel_rfl) (by kernel_rfl)
theorem fn61 : HasBody Tryd.prog 61 := hasBody Tryd.func61 (by kernel_rfl) (by kernel_rfl)
theorem fn62 : HasBody Tryd.prog 62 := hasBody Tryd.func62 (by kernel_rfl) (by kernel_rfl)
theorem fn63 : HasBody Tryd.prog 63 := hasBody Tryd.func63 (by kernel_rfl) (by kernel_rfl)
theorem fn64 : HasBody Tryd.prog 64 := hasBody Tryd.func64 (by kernel_rfl) (by kernel_rfl)
theorem fn65 : HasBody Tryd.prog 65 := hasBody Tryd.func65 (by kernel_rfl) (by kernel_rfl)
theorem fn67 : HasBody Tryd.prog 67 := hasBody Tryd.func67 (by kernel_rfl) (by kernel_rfl)
theorem fn68 : HasBody Tryd.prog 68 := hasBody Tryd.func68 (by kernel_rfl) (by kernel_rfl)
theorem fn69 : HasBody Tryd.prog 69 := hasBody Tryd.func69 (by kernel_rfl) (by kernel_rfl)
theorem fn70 : HasBody Tryd.prog 70 := hasBody Tryd.func70 (by kernel_rfl) (by kernel_rfl)
theorem fn71 : HasBody Tryd.prog 71 := hasBody Tryd.func71 (by kernel_rfl) (by kernel_rfl)
theorem fn72 : HasBody Tryd.prog 72 := hasBody Tryd.func72 (by kernel_rfl) (by kernel_rfl)
theorem fn75 : HasBody Tryd.prog 75 := hasBody Tryd.func75 (by kernel_rfl) (by kernel_rfl)
theorem fn76 : HasBody Tryd.prog 76 := hasBody Tryd.func76 (by kernel_rfl) (by kernel_rfl)
theorem fn77 : HasBody Tryd.prog 77 := hasBody Tryd.func77 (by kernel_rfl) (by kernel_rfl)
theorem fn78 : HasBody Tryd.prog 78 := hasBody Tryd.func78 (by kernel_rfl) (by kernel_rfl)
theorem fn79 : HasBody Tryd.prog 79 := hasBody Tryd.func79 (by kernel_rfl) (by kernel_rfl)
theorem fn80 : HasBody Tryd.prog 80 := hasBody Tryd.func80 (by kernel_rfl) (by kernel_rfl)
theorem fn81 : HasBody Tryd.prog 81 := hasBody Tryd.func81 (by kernel_rfl) (by kernel_rfl)
theorem fn83 : HasBody Tryd.prog 83 := hasBody Tryd.func83 (by kernel_rfl) (by kernel_rfl)
theorem fn84 : HasBody Tryd.prog 84 := hasBody Tryd.func84 (by kernel_rfl) (by kernel_rfl)
theorem fn85 : HasBody Tryd.prog 85 := hasBody Tryd.func85 (by kernel_rfl) (by kernel_rfl)
theorem fn86 : HasBody Tryd.prog 86 := hasBody Tryd.func86 (by kernel_rfl) (by kernel_rfl)
theorem fn87 : HasBody Tryd.prog 87 := hasBody Tryd.func87 (by kernel_rfl) (by kernel_rfl)
theorem fn88 : HasBody Tryd.prog 88 := hasBody Tryd.func88 (by kernel_rfl) (by kernel_rfl)
theorem fn89 : HasBody Tryd.prog 89 := hasBody Tryd.func89 (by kernel_rfl) (by kernel_rfl)
theorem fn90 : HasBody Tryd.prog 90 := hasBody Tryd.func90 (by kernel_rfl) (by kernel_rfl)
theorem fn91 : HasBody Tryd.prog 91 := hasBody Tryd.func91 (by kernel_rfl) (by kernel_rfl)
theorem fn92 : HasBody Tryd.prog 92 := hasBody Tryd.func92 (by kernel_rfl) (by kernel_rfl)
theorem fn94 : HasBody Tryd.prog 94 := hasBody Tryd.func94 (by kernel_rfl) (by kernel_rfl)
theorem fn95 : HasBody Tryd.prog 95 := hasBody Tryd.func95 (by kernel_rfl) (by kernel_rfl)
theorem fn96 : HasBody Tryd.prog 96 := hasBody Tryd.func96 (by kernel_rfl) (by kernel_rfl)
theorem fn97 : HasBody Tryd.prog 97 := hasBody Tryd.func97 (by kernel_rfl) (by kernel_rfl)
theorem fn98 : HasBody Tryd.prog 98 := hasBody Tryd.func98 (by kernel_rfl) (by kernel_rfl)
theorem ap22 : ApOk Tryd.prog 22 9 1 := ⟨by kernel_rfl, by kernel_rfl, by decide⟩
theorem ap23 : ApOk Tryd.prog 23 36 2 := ⟨by kernel_rfl, by kernel_rfl, by decide⟩
theorem ap24 : ApOk Tryd.prog 24 38 2 := ⟨by kernel_rfl, by kernel_rfl, by decide⟩
theorem ap27 : ApOk Tryd.prog 27 3 1 := ⟨by kernel_rfl, by kernel_rfl, by decide⟩
theorem ap62 : ApOk Tryd.prog 62 27 1 := ⟨by kernel_rfl, by kernel_rfl, by decide⟩
theorem ap80 : ApOk Tryd.prog 80 5 1 := ⟨by kernel_rfl, by kernel_rfl, by decide⟩
theorem held36 : Tryd.prog.stoodInHeld 36 = false := by kernel_rfl
theorem eg36 : Tryd.prog.eqGuardType Tryd.prog.depth 36 = false := by kernel_rfl
theorem eqT36 {x0 y0 : List UInt8} {x1 y1 : Int} : EqLaw Tryd.prog 36 [.str x0, .int .i64 x1] [.str y0, .int .i64 y1] ((x0 == y0) && (x1 == y1)) := by
  intro w X xs ys hx hy
  simp only [Reps, Rep] at hx hy
  obtain ⟨_, _, rfl, rfl, _, _, rfl, rfl, rfl⟩ := hx
  obtain ⟨_, _, rfl, rfl, _, _, rfl, rfl, rfl⟩ := hy
  unfold Op.equal
  obtain ⟨m, hm⟩ : ∃ m, Op.maxDepth = m + 2 := ⟨9998, rfl⟩
  rw [hm]
  have hprog : (program : Sem Program).run Tryd.prog w = .ok Tryd.prog w := rfl
  unfold Op.equalIn
  simp only [Sem.run_bind, run_underlying Tryd.underlying36, Result.andThen_ok, hprog, held36, Bool.false_eq_true, if_false, List.forIn_toArray, List.forIn_cons, List.forIn_nil]
  have p0 : (part 9 ⟨[.string ⟨⟨x0⟩⟩, .int .i64 x1]⟩ 0).run Tryd.prog w = .ok (.string ⟨⟨x0⟩⟩) w := run_part_one tb9 rfl w _ _ _ rfl
  have r0 : (part 9 ⟨[.string ⟨⟨y0⟩⟩, .int .i64 y1]⟩ 0).run Tryd.prog w = .ok (.string ⟨⟨y0⟩⟩) w := run_part_one tb9 rfl w _ _ _ rfl
  have q0 : (Op.equalIn (m + 1) 9 (.string ⟨⟨x0⟩⟩) (.string ⟨⟨y0⟩⟩)).run Tryd.prog w = .ok (x0 == y0) w := eqIn_str Tryd.underlying9 w
  have p1 : (part 3 ⟨[.string ⟨⟨x0⟩⟩, .int .i64 x1]⟩ 1).run Tryd.prog w = .ok (.int .i64 x1) w := run_part_one tb3 rfl w _ _ _ rfl
  have r1 : (part 3 ⟨[.string ⟨⟨y0⟩⟩, .int .i64 y1]⟩ 1).run Tryd.prog w = .ok (.int .i64 y1) w := run_part_one tb3 rfl w _ _ _ rfl
  have q1 : (Op.equalIn (m + 1) 3 (.int .i64 x1) (.int .i64 y1)).run Tryd.prog w = .ok (x1 == y1) w := eqIn_int Tryd.underlying3 w
  cases h0 : (x0 == y0) with
  | false => simp [p0, r0, q0, h0]
  | true =>
    cases h1 : (x1 == y1) with
    | false => simp [p0, r0, q0, h0, p1, r1, q1, h1]
    | true =>
      simp [p0, r0, q0, h0, p1, r1, q1, h1]
theorem by80 : ByOk Tryd.prog 80 := ⟨⟨5, Tryd.underlying80, Tryd.underlying5⟩⟩
theorem mixed : Tryd.prog.follows .mixedOrders = true := by kernel_rfl
end Go.Proofs.YtmjhpemmhnpilaaDoor
