/- Functions of the program, as what they compute. -/
import Derived.Test.YtljejgmcgddppaaGreatF23b
namespace Go.Proofs.YtljejgmcgddppaaGreat
open Go Go.AM
set_option linter.unusedVariables false
set_option maxRecDepth 100000
noncomputable def F7 : Fn := ⟨70, [0], [], [], 0, [], [], Tryz.f7, [], [.c (.bool)], [(15, F15.S)]⟩
theorem ok7 : F7.S.Ok Tryz.prog 7 := F7.ok Tryz.func7 (by kernel_rfl) ⟨ok15, trivial⟩
noncomputable def g7 : Option (Bool) := F7.S.g []
noncomputable def F13 : Fn := ⟨73, [8], [(6, [(9, .c (.slice 15)), (10, .c (.slice 4)), (11, .c (.slice 74)), (12, .c (.slice 4)), (13, .c (.slice 15)), (14, .c (.slice 4)), (15, .c (.slice 74)), (16, .c (.slice 4)), (17, .c (.int .i64))])], [], 0, [], [], Tryz.f13, [.c (.int .i64), .c (.slice 15), .c (.slice 4), .agg hs0], [.c (.bool)], [(16, F16.S), (15, F15.S), (35, F35.S), (22, F22.S), (36, F36.S), (37, F37.S)]⟩
theorem ok13 : F13.S.Ok Tryz.prog 13 := F13.ok Tryz.func13 (by kernel_rfl) ⟨ok16, ⟨ok15, ⟨ok35, ⟨ok22, ⟨ok36, ⟨ok37, trivial⟩⟩⟩⟩⟩⟩
noncomputable def g13 (x0 : Int) (x1 x2 : LL) (x3 x4 x5 x6 x7 x8 x9 x10 x11 x12 x13 : Int) (x14 : Bool) (x15 x16 x17 x18 x19 x20 x21 x22 x23 x24 x25 x26 x27 x28 x29 x30 x31 x32 x33 x34 : Int) (x35 : LL) (x36 x37 x38 x39 x40 x41 : Int) (x42 : Bool) (x43 x44 x45 x46 : LL) (x47 x48 : Int) (x49 x50 x51 x52 x53 x54 x55 x56 : LL) (x57 x58 : Int) (x59 x60 x61 x62 x63 x64 x65 x66 : LL) (x67 : Bool) (x68 : Int) (x69 x70 x71 x72 x73 x74 x75 x76 : LL) : Option (Bool) := F13.S.g [.i x0, .l x1, .l x2, .i x3, .i x4, .i x5, .i x6, .i x7, .i x8, .i x9, .i x10, .i x11, .i x12, .i x13, .b x14, .i x15, .i x16, .i x17, .i x18, .i x19, .i x20, .i x21, .i x22, .i x23, .i x24, .i x25, .i x26, .i x27, .i x28, .i x29, .i x30, .i x31, .i x32, .i x33, .i x34, .l x35, .i x36, .i x37, .i x38, .i x39, .i x40, .i x41, .b x42, .l x43, .l x44, .l x45, .l x46, .i x47, .i x48, .l x49, .l x50, .l x51, .l x52, .l x53, .l x54, .l x55, .l x56, .i x57, .i x58, .l x59, .l x60, .l x61, .l x62, .l x63, .l x64, .l x65, .l x66, .b x67, .i x68, .l x69, .l x70, .l x71, .l x72, .l x73, .l x74, .l x75, .l x76]
noncomputable def g13L0 (k : Nat) (x0 x1 x2 x3 x4 x5 x6 x7 : LL) (x8 : Int) : Option (Bool) := F13.lp [4, 1, 0] 0 r0 k [.l x0, .l x1, .l x2, .l x3, .l x4, .l x5, .l x6, .l x7, .i x8]
theorem g13L0_eq (k : Nat) (x0 x1 x2 x3 x4 x5 x6 x7 : LL) (x8 : Int) : g13L0 (k + 1) x0 x1 x2 x3 x4 x5 x6 x7 x8 =
 (if (cop .lss x8 (List.length x3 : Int)) = true then
 elemK x3 x8 [.int .i64, .int .i64, .int .i64, .bool] fun (r9 : Int × Int × Int × Bool) =>
 elemK x7 x8 [.int .i64, .int .i64, .int .i64, .bool] fun (r13 : Int × Int × Int × Bool) =>
 if (!((cop .eql r9.1 r13.1) && ((cop .eql r9.2.1 r13.2.1) && ((cop .eql r9.2.2.1 r13.2.2.1) && ((r9.2.2.2 == r13.2.2.2) && true))))) = true then
 some (false)
 else
 g13L0 k x0 x1 x2 x3 x4 x5 x6 x7 (iop .add .i64 x8 1)
 else
 (g22 x0 x4).bind fun (r9 : Bool) =>
 if r9 = true then
 (g36 x1 x5).bind fun (r10 : Bool) =>
 if r10 = true then
 (g37 x2 x6).bind fun (r11 : Bool) =>
 some (r11)
 else
 some (false)
 else
 some (false)) := by kernel_rfl
theorem g13_eq (x0 : Int) (x1 x2 : LL) (x3 x4 x5 x6 x7 x8 x9 x10 x11 x12 x13 : Int) (x14 : Bool) (x15 x16 x17 x18 x19 x20 x21 x22 x23 x24 x25 x26 x27 x28 x29 x30 x31 x32 x33 x34 : Int) (x35 : LL) (x36 x37 x38 x39 x40 x41 : Int) (x42 : Bool) (x43 x44 x45 x46 : LL) (x47 x48 : Int) (x49 x50 x51 x52 x53 x54 x55 x56 : LL) (x57 x58 : Int) (x59 x60 x61 x62 x63 x64 x65 x66 : LL) (x67 : Bool) (x68 : Int) (x69 x70 x71 x72 x73 x74 x75 x76 : LL) : g13 x0 x1 x2 x3 x4 x5 x6 x7 x8 x9 x10 x11 x12 x13 x14 x15 x16 x17 x18 x19 x20 x21 x22 x23 x24 x25 x26 x27 x28 x29 x30 x31 x32 x33 x34 x35 x36 x37 x38 x39 x40 x41 x42 x43 x44 x45 x46 x47 x48 x49 x50 x51 x52 x53 x54 x55 x56 x57 x58 x59 x60 x61 x62 x63 x64 x65 x66 x67 x68 x69 x70 x71 x72 x73 x74 x75 x76 =
 ((g16 x1).bind fun (r77 : LL) =>
 reqK (roomP ([] : LL) x2 32) <|
 (g15 x0 r77 x2 x3 x4 x5 x6 x7 x8 x9 x10 x11 x12 x13 x14 x15 x16 x17 x18 x19 x20 x21 x22 x23 x24 x25 x26 x27 x28 x29 x30 x31 x32 x33 x34 x35 x36 x37 x38 x39 x40 x41 x42 x43 x44 x45 x46 x47 x48 x49 x50 x51 x52 x53 x54 x55 x56 x57 x58 x59 x60 x61 x62 x63 x64 x65 x66 x67 x68 x69 x70 x71 x72 x73 x74 x75 x76).bind fun (r78 : LL × LL × LL × LL) =>
 (g35 x0 x1 x2 x3 x4 x5 x6 x7 x8 x9 x10 x11 x12 x13 x14 x15 x16 x17 x18 x19 x20 x21 x22 x23 x24 x25 x26 x27 x28 x29 x30 x31 x32 x33 x34 x35 x36 x37 x38 x39 x40 x41 x42 x43 x44 x45 x46 x47 x48 x49 x50 x51 x52 x53 x54 x55 x56 x57 x58 x59 x60 x61 x62 x63 x64 x65 x66 x67 x68 x69 x70 x71 x72 x73 x74 x75 x76).bind fun (r82 : LL × LL × LL × LL) =>
 if (cop .neq (List.length r78.2.2.2 : Int) (List.length r82.2.2.2 : Int)) = true then
 some (false)
 else
 g13L0 FUEL r78.1 r78.2.1 r78.2.2.1 r78.2.2.2 r82.1 r82.2.1 r82.2.2.1 r82.2.2.2 0) := by kernel_rfl
noncomputable def F25 : Fn := ⟨17, [4], [], [], 0, [], [], Tryz.f25, [.c (.slice 1), .c (.int .i64)], [.c (.int .i64)], []⟩
noncomputable def F9 : Fn := ⟨16, [4], [], [], 0, [], [], Tryz.f9, [.c (.int .i64), .c (.int .i64)], [.c (.int .i64)], []⟩
theorem ok9 : F9.S.Ok Tryz.prog 9 := F9.ok Tryz.func9 (by kernel_rfl) trivial
noncomputable def g9 (x0 x1 : Int) : Option (Int) := F9.S.g [.i x0, .i x1]
theorem g9_eq (x0 x1 : Int) : g9 x0 x1 =
 (if (cop .lss x1 1) = true then
 some (0)
 else
 reqK ((x1 : Int) ≠ 0) <|
 if (cop .lss (iop .rem .i64 x0 x1) 0) = true then
 some ((iop .add .i64 (iop .rem .i64 x0 x1) x1))
 else
 some ((iop .rem .i64 x0 x1))) := by kernel_rfl
noncomputable def F12 : Fn := ⟨28, [4], [(3, [(0, .c (.slice 13)), (1, .c (.slice 1)), (5, .c (.own false 37)), (6, .c (.int .i64))])], [], 0, [], [], Tryz.f12, [.c (.slice 13), .c (.slice 1)], [.c (.own false 37)], [(25, F25.S), (9, F9.S)]⟩
noncomputable def F17 : Fn := ⟨14, [8], [], [], 0, [], [], Tryz.f17, [.c (.int .i64), .c (.int .i64), .agg [.int .i64, .int .i64, .int .i64], .c (.slice 3)], [.agg hs0], []⟩
noncomputable def F78 : Fn := ⟨20, [4], [], [], 0, [], [], Tryz.f78, [.c (.int .i64), .c (.int .i64)], [.agg [.int .i64, .int .i64]], [(9, F9.S)]⟩
noncomputable def F47 : Fn := ⟨14, [4], [], [], 0, [], [], Tryz.f47, [.c (.int .i64), .c (.int .i64)], [.agg hs13], [(78, F78.S)]⟩
noncomputable def F79 : Fn := ⟨21, [4], [(2, [(0, .c (.slice 13)), (3, .box [.int .i64, .int .i64, .int .i64]), (5, .c (.int .i64))])], [], 0, [], [], Tryz.f79, [.c (.slice 13), .agg [.int .i64, .int .i64, .int .i64]], [.c (.int .i64)], []⟩
noncomputable def F140 : Fn := ⟨13, [2], [], [], 0, [], [], Tryz.f140, [.agg [.int .i64, .int .i64]], [.c (.int .i64)], [(139, F139.S)]⟩
noncomputable def F80 : Fn := ⟨25, [4], [], [], 0, [], [], Tryz.f80, [.agg [.int .i64, .int .i64], .agg [.int .i64, .int .i64]], [.c (.bool)], [(139, F139.S), (140, F140.S)]⟩
noncomputable def F82 : Fn := ⟨25, [4], [], [], 0, [], [], Tryz.f82, [.agg [.int .i64, .int .i64], .agg [.int .i64, .int .i64]], [.c (.bool)], [(139, F139.S), (140, F140.S)]⟩
noncomputable def F48 : Fn := ⟨64, [6], [(3, [(0, .c (.slice 13)), (2, .c (.slice 7)), (7, .c (.int .i64)), (8, .c (.int .i64))]), (6, [(0, .c (.slice 13)), (2, .c (.slice 7)), (7, .c (.int .i64)), (8, .c (.int .i64)), (9, .c (.int .i64))])], [], 0, [], [], Tryz.f48, [.c (.slice 13), .agg [.int .i64, .int .i64, .int .i64], .c (.slice 7)], [.c (.bool)], [(79, F79.S), (81, F81.S), (80, F80.S), (82, F82.S)]⟩
noncomputable def F141 : Fn := ⟨31, [6], [(2, [(0, .c (.slice 13)), (1, .c (.int .i64)), (2, .c (.int .i64)), (7, .c (.int .i64))])], [], 0, [], [], Tryz.f141, [.c (.slice 13), .c (.int .i64), .c (.int .i64)], [.c (.int .i64)], []⟩
noncomputable def F142 : Fn := ⟨32, [2], [(3, [(0, .c (.slice 13)), (3, .c (.own false 88)), (4, .c (.int .i64))])], [], 0, [], [], Tryz.f142, [.c (.slice 13)], [.c (.own false 88)], [(30, F30.S)]⟩
noncomputable def F83 : Fn := ⟨62, [4, 5], [(4, [(0, .c (.slice 13)), (3, .box hs7), (6, .c (.int .i64))])], [], 0, [], [], Tryz.f83, [.c (.slice 13), .agg hs7], [.c (.own false 88), .c (.bool)], [(79, F79.S), (141, F141.S), (29, F29.S), (142, F142.S), (30, F30.S)]⟩
noncomputable def F49 : Fn := ⟨24, [8], [], [], 0, [], [], Tryz.f49, [.c (.slice 13), .c (.int .i64), .c (.int .i64), .agg hs8], [.c (.slice 13)], [(83, F83.S)]⟩
noncomputable def F50 : Fn := ⟨11, [4], [], [], 0, [], [], Tryz.f50, [.agg hs13, .c (.int .i64)], [.agg hs13], []⟩
noncomputable def F51 : Fn := ⟨136, [14, 15], [(16, [(1, .c (.int .i64)), (2, .c (.int .i64)), (3, .c (.int .i64)), (4, .c (.int .i64)), (5, .c (.int .i64)), (6, .c (.int .i64)), (7, .box hs13), (16, .c (.bool)), (17, .c (.int .i64)), (19, .c (.own false 42)), (20, .c (.int .i64))])], [], 0, [], [], Tryz.f51, [.agg hs13, .c (.int .i64), .c (.int .i64), .c (.int .i64), .c (.int .i64), .c (.int .i64), .c (.int .i64)], [.c (.slice 7), .c (.int .i64)], [(84, F84.S), (85, F85.S), (86, F86.S)]⟩
noncomputable def F52 : Fn := ⟨49, [6, 7], [], [], 0, [], [], Tryz.f52, [.agg hs8, .agg [.int .i64, .int .i64, .int .i64], .agg hs13], [.agg hs8, .c (.int .i64)], [(87, F87.S), (88, F88.S), (84, F84.S), (18, F18.S), (53, F53.S)]⟩
noncomputable def F24 : Fn := ⟨146, [6], [(18, [(0, .c (.slice 13)), (2, .c (.int .i64)), (7, .c (.int .i64)), (8, .c (.int .i64)), (10, .box hs8), (11, .c (.slice 7)), (16, .c (.int .i64))])], [], 0, [], [], Tryz.f24, [.c (.slice 13), .agg hs9, .c (.int .i64)], [.c (.slice 13)], [(9, F9.S), (47, F47.S), (48, F48.S), (49, F49.S), (50, F50.S), (51, F51.S), (52, F52.S)]⟩
noncomputable def F8 : Fn := ⟨29, [2], [(3, [(0, .c (.slice 10)), (3, .c (.slice 13)), (4, .c (.int .i64))])], [], 0, [], [], Tryz.f8, [.c (.slice 10)], [.c (.slice 13)], [(24, F24.S)]⟩
noncomputable def g8 (x0 : LL) : Option (LL) := F8.S.g [.l x0]
end Go.Proofs.YtljejgmcgddppaaGreat
