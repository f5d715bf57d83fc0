/- Functions of the program, as what they compute. -/
import Derived.Test.YtljejgmcgddppaaGreatF23d
namespace Go.Proofs.YtljejgmcgddppaaGreat
open Go Go.AM
set_option linter.unusedVariables false
set_option maxRecDepth 100000
noncomputable def F4 : Fn := ⟨70, [10], [(4, [(0, .c (.int .i64)), (1, .c (.slice 15)), (2, .c (.int .i64)), (8, .box [.int .i64, .int .i64, .int .i64]), (9, .box hs0), (11, .c (.int .i64))])], [], 0, [], [], Tryz.f4, [.c (.int .i64), .c (.slice 15), .c (.int .i64), .agg [.int .i64, .int .i64, .int .i64], .agg hs0], [.c (.bool)], [(7, F7.S), (9, F9.S), (13, F13.S)]⟩
theorem ok4 : F4.S.Ok Tryz.prog 4 := F4.ok Tryz.func4 (by kernel_rfl) ⟨ok7, ⟨ok9, ⟨ok13, trivial⟩⟩⟩
noncomputable def g4 (x0 : Int) (x1 : LL) (x2 x3 x4 x5 x6 x7 x8 x9 x10 x11 x12 x13 x14 x15 x16 : Int) (x17 : Bool) (x18 x19 x20 x21 x22 x23 x24 x25 x26 x27 x28 x29 x30 x31 x32 x33 x34 x35 x36 x37 : Int) (x38 : LL) (x39 x40 x41 x42 x43 x44 : Int) (x45 : Bool) (x46 x47 x48 x49 : LL) (x50 x51 : Int) (x52 x53 x54 x55 x56 x57 x58 x59 : LL) (x60 x61 : Int) (x62 x63 x64 x65 x66 x67 x68 x69 : LL) (x70 : Bool) (x71 : Int) (x72 x73 x74 x75 x76 x77 x78 x79 : LL) : Option (Bool) := F4.S.g [.i x0, .l x1, .i x2, .i x3, .i x4, .i x5, .i x6, .i x7, .i x8, .i x9, .i x10, .i x11, .i x12, .i x13, .i x14, .i x15, .i x16, .b x17, .i x18, .i x19, .i x20, .i x21, .i x22, .i x23, .i x24, .i x25, .i x26, .i x27, .i x28, .i x29, .i x30, .i x31, .i x32, .i x33, .i x34, .i x35, .i x36, .i x37, .l x38, .i x39, .i x40, .i x41, .i x42, .i x43, .i x44, .b x45, .l x46, .l x47, .l x48, .l x49, .i x50, .i x51, .l x52, .l x53, .l x54, .l x55, .l x56, .l x57, .l x58, .l x59, .i x60, .i x61, .l x62, .l x63, .l x64, .l x65, .l x66, .l x67, .l x68, .l x69, .b x70, .i x71, .l x72, .l x73, .l x74, .l x75, .l x76, .l x77, .l x78, .l x79]
noncomputable def g4L0 (k : Nat) (x0 : Int) (x1 : LL) (x2 x3 x4 x5 x6 x7 x8 x9 x10 x11 x12 x13 x14 x15 x16 : Int) (x17 : Bool) (x18 x19 x20 x21 x22 x23 x24 x25 x26 x27 x28 x29 x30 x31 x32 x33 x34 x35 x36 x37 : Int) (x38 : LL) (x39 x40 x41 x42 x43 x44 : Int) (x45 : Bool) (x46 x47 x48 x49 : LL) (x50 x51 : Int) (x52 x53 x54 x55 x56 x57 x58 x59 : LL) (x60 x61 : Int) (x62 x63 x64 x65 x66 x67 x68 x69 : LL) (x70 : Bool) (x71 : Int) (x72 x73 x74 x75 x76 x77 x78 x79 : LL) (x80 : Int) : Option (Bool) := F4.lp [1, 1, 1, 1, 1, 0] 0 r0 k [.i x0, .l x1, .i x2, .i x3, .i x4, .i x5, .i x6, .i x7, .i x8, .i x9, .i x10, .i x11, .i x12, .i x13, .i x14, .i x15, .i x16, .b x17, .i x18, .i x19, .i x20, .i x21, .i x22, .i x23, .i x24, .i x25, .i x26, .i x27, .i x28, .i x29, .i x30, .i x31, .i x32, .i x33, .i x34, .i x35, .i x36, .i x37, .l x38, .i x39, .i x40, .i x41, .i x42, .i x43, .i x44, .b x45, .l x46, .l x47, .l x48, .l x49, .i x50, .i x51, .l x52, .l x53, .l x54, .l x55, .l x56, .l x57, .l x58, .l x59, .i x60, .i x61, .l x62, .l x63, .l x64, .l x65, .l x66, .l x67, .l x68, .l x69, .b x70, .i x71, .l x72, .l x73, .l x74, .l x75, .l x76, .l x77, .l x78, .l x79, .i x80]
theorem g4L0_eq (k : Nat) (x0 : Int) (x1 : LL) (x2 x3 x4 x5 x6 x7 x8 x9 x10 x11 x12 x13 x14 x15 x16 : Int) (x17 : Bool) (x18 x19 x20 x21 x22 x23 x24 x25 x26 x27 x28 x29 x30 x31 x32 x33 x34 x35 x36 x37 : Int) (x38 : LL) (x39 x40 x41 x42 x43 x44 : Int) (x45 : Bool) (x46 x47 x48 x49 : LL) (x50 x51 : Int) (x52 x53 x54 x55 x56 x57 x58 x59 : LL) (x60 x61 : Int) (x62 x63 x64 x65 x66 x67 x68 x69 : LL) (x70 : Bool) (x71 : Int) (x72 x73 x74 x75 x76 x77 x78 x79 : LL) (x80 : Int) : g4L0 (k + 1) x0 x1 x2 x3 x4 x5 x6 x7 x8 x9 x10 x11 x12 x13 x14 x15 x16 x17 x18 x19 x20 x21 x22 x23 x24 x25 x26 x27 x28 x29 x30 x31 x32 x33 x34 x35 x36 x37 x38 x39 x40 x41 x42 x43 x44 x45 x46 x47 x48 x49 x50 x51 x52 x53 x54 x55 x56 x57 x58 x59 x60 x61 x62 x63 x64 x65 x66 x67 x68 x69 x70 x71 x72 x73 x74 x75 x76 x77 x78 x79 x80 =
 (if (cop .lss x80 (List.length x1 : Int)) = true then
 elemK x1 x80 hs6 fun (r81 : Qt11) =>
 if (cop .gtr (List.length r81.2.2.2.1 : Int) 20) = true then
 (g7).bind fun (r96 : Bool) =>
 some (r96)
 else
 g4L0 k x0 x1 x2 x3 x4 x5 x6 x7 x8 x9 x10 x11 x12 x13 x14 x15 x16 x17 x18 x19 x20 x21 x22 x23 x24 x25 x26 x27 x28 x29 x30 x31 x32 x33 x34 x35 x36 x37 x38 x39 x40 x41 x42 x43 x44 x45 x46 x47 x48 x49 x50 x51 x52 x53 x54 x55 x56 x57 x58 x59 x60 x61 x62 x63 x64 x65 x66 x67 x68 x69 x70 x71 x72 x73 x74 x75 x76 x77 x78 x79 (iop .add .i64 x80 1)
 else
 (g9 x2 16).bind fun (r81 : Int) =>
 (g13 x0 x1 (([] : LL) ++ [[AV.val (.int .i64 r81), AV.val (.int .i64 x3), AV.val (.int .i64 x4), AV.val (.int .i64 x5)]]) x6 x7 x8 x9 x10 x11 x12 x13 x14 x15 x16 x17 x18 x19 x20 x21 x22 x23 x24 x25 x26 x27 x28 x29 x30 x31 x32 x33 x34 x35 x36 x37 x38 x39 x40 x41 x42 x43 x44 x45 x46 x47 x48 x49 x50 x51 x52 x53 x54 x55 x56 x57 x58 x59 x60 x61 x62 x63 x64 x65 x66 x67 x68 x69 x70 x71 x72 x73 x74 x75 x76 x77 x78 x79).bind fun (r82 : Bool) =>
 if r82 = true then
 (g7).bind fun (r83 : Bool) =>
 some (r83)
 else
 some (false)) := by kernel_rfl
theorem g4_eq (x0 : Int) (x1 : LL) (x2 x3 x4 x5 x6 x7 x8 x9 x10 x11 x12 x13 x14 x15 x16 : Int) (x17 : Bool) (x18 x19 x20 x21 x22 x23 x24 x25 x26 x27 x28 x29 x30 x31 x32 x33 x34 x35 x36 x37 : Int) (x38 : LL) (x39 x40 x41 x42 x43 x44 : Int) (x45 : Bool) (x46 x47 x48 x49 : LL) (x50 x51 : Int) (x52 x53 x54 x55 x56 x57 x58 x59 : LL) (x60 x61 : Int) (x62 x63 x64 x65 x66 x67 x68 x69 : LL) (x70 : Bool) (x71 : Int) (x72 x73 x74 x75 x76 x77 x78 x79 : LL) : g4 x0 x1 x2 x3 x4 x5 x6 x7 x8 x9 x10 x11 x12 x13 x14 x15 x16 x17 x18 x19 x20 x21 x22 x23 x24 x25 x26 x27 x28 x29 x30 x31 x32 x33 x34 x35 x36 x37 x38 x39 x40 x41 x42 x43 x44 x45 x46 x47 x48 x49 x50 x51 x52 x53 x54 x55 x56 x57 x58 x59 x60 x61 x62 x63 x64 x65 x66 x67 x68 x69 x70 x71 x72 x73 x74 x75 x76 x77 x78 x79 =
 (if (cop .gtr (List.length x1 : Int) 70) = true then
 (g7).bind fun (r80 : Bool) =>
 some (r80)
 else
 if (cop .gtr (List.length x46 : Int) 70) = true then
 (g7).bind fun (r80 : Bool) =>
 some (r80)
 else
 if (cop .gtr (List.length x47 : Int) 10) = true then
 (g7).bind fun (r80 : Bool) =>
 some (r80)
 else
 if (cop .gtr (List.length x54 : Int) 10) = true then
 (g7).bind fun (r80 : Bool) =>
 some (r80)
 else
 if (cop .gtr (List.length x64 : Int) 10) = true then
 (g7).bind fun (r80 : Bool) =>
 some (r80)
 else
 g4L0 FUEL x0 x1 x2 x3 x4 x5 x6 x7 x8 x9 x10 x11 x12 x13 x14 x15 x16 x17 x18 x19 x20 x21 x22 x23 x24 x25 x26 x27 x28 x29 x30 x31 x32 x33 x34 x35 x36 x37 x38 x39 x40 x41 x42 x43 x44 x45 x46 x47 x48 x49 x50 x51 x52 x53 x54 x55 x56 x57 x58 x59 x60 x61 x62 x63 x64 x65 x66 x67 x68 x69 x70 x71 x72 x73 x74 x75 x76 x77 x78 x79 0) := by kernel_rfl
noncomputable def F3 : Fn := ⟨60, [12], [], [], 0, [], [], Tryz.f3, [.c (.int .i64), .c (.slice 1), .c (.slice 10), .c (.int .i64), .c (.slice 1), .c (.int .i64)], [.c (.bool)], [(7, F7.S), (8, F8.S), (9, F9.S), (10, F10.S), (11, F11.S), (12, F12.S), (13, F13.S)]⟩
noncomputable def g3 (x0 : Int) (x1 x2 : LL) (x3 : Int) (x4 : LL) (x5 : Int) : Option (Bool) := F3.S.g [.i x0, .l x1, .l x2, .i x3, .l x4, .i x5]
noncomputable def F6 : Fn := ⟨165, [10], [], [], 0, [], [], Tryz.f6, [.c (.int .i64), .c (.slice 1), .c (.slice 10), .c (.int .i64), .c (.int .i64)], [.c (.bool)], [(7, F7.S), (9, F9.S), (8, F8.S), (10, F10.S), (16, F16.S), (15, F15.S), (22, F22.S), (23, F23.S), (20, F20.S), (21, F21.S)]⟩
noncomputable def g6 (x0 : Int) (x1 x2 : LL) (x3 x4 : Int) : Option (Bool) := F6.S.g [.i x0, .l x1, .l x2, .i x3, .i x4]
noncomputable def F5 : Fn := ⟨243, [6], [(14, [(9, .c (.slice 15)), (10, .c (.slice 3)), (12, .c (.slice 15)), (16, .c (.slice 15)), (20, .c (.slice 15)), (24, .c (.int .i64))])], [], 0, [], [(6, [(9, 0)])], Tryz.f5, [.c (.int .i64), .c (.slice 10), .c (.slice 1)], [.c (.bool)], [(8, F8.S), (9, F9.S), (14, F14.S), (12, F12.S), (16, F16.S), (17, F17.S), (15, F15.S), (18, F18.S), (19, F19.S), (20, F20.S), (21, F21.S), (7, F7.S)]⟩
noncomputable def g5 (x0 : Int) (x1 x2 : LL) : Option (Bool) := F5.S.g [.i x0, .l x1, .l x2]
end Go.Proofs.YtljejgmcgddppaaGreat
