/- Functions of the program, as what they compute. -/
import Derived.Test.YtljejgmcgddppaaGreatF23a
namespace Go.Proofs.YtljejgmcgddppaaGreat
open Go Go.AM
set_option linter.unusedVariables false
set_option maxRecDepth 100000
noncomputable def F89 : Fn := ⟨9, [2], [], [], 0, [], [], Tryz.f89, [.c (.int .i64)], [.c (.bool)], []⟩
noncomputable def F90 : Fn := ⟨9, [2], [], [], 0, [], [], Tryz.f90, [.c (.int .i64)], [.c (.bool)], []⟩
noncomputable def F88 : Fn := ⟨31, [2], [], [], 0, [], [], Tryz.f88, [.agg [.int .i64, .int .i64, .int .i64]], [.c (.bool)], []⟩
theorem ok88 : F88.S.Ok Tryz.prog 88 := F88.ok Tryz.func88 (by kernel_rfl) trivial
noncomputable def g88 (x0 x1 x2 : Int) : Option (Bool) := F88.S.g [.i x0, .i x1, .i x2]
theorem g88_eq (x0 x1 x2 : Int) : g88 x0 x1 x2 =
 (if (cop .geq x0 0) = true then
 if (cop .lss x0 32) = true then
 if (cop .geq x1 1) = true then
 if (cop .leq x1 1073741824) = true then
 if (cop .geq x2 0) = true then
 some ((cop .lss x2 8))
 else
 some (false)
 else
 some (false)
 else
 some (false)
 else
 some (false)
 else
 some (false)) := by kernel_rfl
noncomputable def F92 : Fn := ⟨10, [2], [], [], 0, [], [], Tryz.f92, [.agg [.int .i64, .int .i64, .int .i64]], [.c (.bool)], [(88, F88.S)]⟩
noncomputable def F100 : Fn := ⟨9, [2], [], [], 0, [], [], Tryz.f100, [.c (.int .i64)], [.c (.bool)], []⟩
noncomputable def F46 : Fn := ⟨26, [4], [(4, [(0, .c (.slice 3)), (1, .c (.slice 3)), (5, .c (.int .i64))])], [], 0, [], [], Tryz.f46, [.c (.slice 3), .c (.slice 3)], [.c (.bool)], []⟩
theorem ok46 : F46.S.Ok Tryz.prog 46 := F46.ok Tryz.func46 (by kernel_rfl) trivial
noncomputable def g46 (x0 x1 : LL) : Option (Bool) := F46.S.g [.l x0, .l x1]
noncomputable def g46L0 (k : Nat) (x0 x1 : LL) (x2 : Int) : Option (Bool) := F46.lp [1, 0] 0 r0 k [.l x0, .l x1, .i x2]
theorem g46L0_eq (k : Nat) (x0 x1 : LL) (x2 : Int) : g46L0 (k + 1) x0 x1 x2 =
 (if (cop .lss x2 (List.length x0 : Int)) = true then
 elemK x0 x2 [.int .i64, .int .i64, .int .i64] fun (r3 : Int × Int × Int) =>
 elemK x1 x2 [.int .i64, .int .i64, .int .i64] fun (r6 : Int × Int × Int) =>
 if (!((cop .eql r3.1 r6.1) && ((cop .eql r3.2.1 r6.2.1) && ((cop .eql r3.2.2 r6.2.2) && true)))) = true then
 some (false)
 else
 g46L0 k x0 x1 (iop .add .i64 x2 1)
 else
 some (true)) := by kernel_rfl
theorem g46_eq (x0 x1 : LL) : g46 x0 x1 =
 (if (cop .neq (List.length x0 : Int) (List.length x1 : Int)) = true then
 some (false)
 else
 g46L0 FUEL x0 x1 0) := by kernel_rfl
noncomputable def F19 : Fn := ⟨24, [4], [], [], 0, [], [], Tryz.f19, [.agg hs8, .agg hs8], [.c (.bool)], [(46, F46.S)]⟩
theorem ok19 : F19.S.Ok Tryz.prog 19 := F19.ok Tryz.func19 (by kernel_rfl) ⟨ok46, trivial⟩
noncomputable def g19 (x0 x1 x2 : Int) (x3 : LL) (x4 x5 x6 x7 x8 x9 : Int) (x10 : Bool) (x11 x12 x13 : Int) (x14 : LL) (x15 x16 x17 x18 x19 x20 : Int) (x21 : Bool) : Option (Bool) := F19.S.g [.i x0, .i x1, .i x2, .l x3, .i x4, .i x5, .i x6, .i x7, .i x8, .i x9, .b x10, .i x11, .i x12, .i x13, .l x14, .i x15, .i x16, .i x17, .i x18, .i x19, .i x20, .b x21]
theorem g19_eq (x0 x1 x2 : Int) (x3 : LL) (x4 x5 x6 x7 x8 x9 : Int) (x10 : Bool) (x11 x12 x13 : Int) (x14 : LL) (x15 x16 x17 x18 x19 x20 : Int) (x21 : Bool) : g19 x0 x1 x2 x3 x4 x5 x6 x7 x8 x9 x10 x11 x12 x13 x14 x15 x16 x17 x18 x19 x20 x21 =
 (if ((cop .eql x0 x11) && ((cop .eql x1 x12) && ((cop .eql x2 x13) && true))) = true then
 if ((cop .eql x4 x15) && ((cop .eql x5 x16) && ((cop .eql x6 x17) && ((cop .eql x7 x18) && ((cop .eql x8 x19) && ((cop .eql x9 x20) && ((x10 == x21) && true))))))) = true then
 (g46 x3 x14).bind fun (r22 : Bool) =>
 some (r22)
 else
 some (false)
 else
 some (false)) := by kernel_rfl
noncomputable def F143 : Fn := ⟨12, [2], [], [], 0, [], [], Tryz.f143, [.c (.int .i64)], [.c (.int .i64)], []⟩
theorem ok143 : F143.S.Ok Tryz.prog 143 := F143.ok Tryz.func143 (by kernel_rfl) trivial
noncomputable def g143 (x0 : Int) : Option (Int) := F143.S.g [.i x0]
theorem g143_eq (x0 : Int) : g143 x0 =
 (if (cop .eql x0 3) = true then
 some (12)
 else
 if (cop .eql x0 4) = true then
 some (6)
 else
 if (cop .eql x0 5) = true then
 some (10)
 else
 if (cop .eql x0 6) = true then
 some (16)
 else
 some (0)) := by kernel_rfl
noncomputable def F85 : Fn := ⟨35, [4], [], [], 0, [], [], Tryz.f85, [.c (.int .i64), .c (.int .i64)], [.c (.bool)], [(143, F143.S)]⟩
theorem ok85 : F85.S.Ok Tryz.prog 85 := F85.ok Tryz.func85 (by kernel_rfl) ⟨ok143, trivial⟩
noncomputable def g85 (x0 x1 : Int) : Option (Bool) := F85.S.g [.i x0, .i x1]
theorem g85_eq (x0 x1 : Int) : g85 x0 x1 =
 (if (cop .eql x0 1) = true then
 if (cop .geq x1 6) = true then
 some ((cop .leq x1 40))
 else
 some (false)
 else
 if (cop .eql x0 2) = true then
 if (cop .geq x1 12) = true then
 some ((cop .leq x1 40))
 else
 some (false)
 else
 if (cop .geq x0 3) = true then
 if (cop .leq x0 6) = true then
 (g143 x0).bind fun (r2 : Int) =>
 some ((cop .eql x1 r2))
 else
 some (false)
 else
 some (false)) := by kernel_rfl
noncomputable def F81 : Fn := ⟨8, [2], [], [], 0, [], [], Tryz.f81, [.agg hs13], [.agg [.int .i64, .int .i64]], []⟩
theorem ok81 : F81.S.Ok Tryz.prog 81 := F81.ok Tryz.func81 (by kernel_rfl) trivial
noncomputable def g81 (x0 x1 x2 x3 x4 x5 : Int) (x6 : Bool) : Option (Int × Int) := F81.S.g [.i x0, .i x1, .i x2, .i x3, .i x4, .i x5, .b x6]
theorem g81_eq (x0 x1 x2 x3 x4 x5 : Int) (x6 : Bool) : g81 x0 x1 x2 x3 x4 x5 x6 =
 (some (x1, x2)) := by kernel_rfl
noncomputable def F139 : Fn := ⟨38, [2], [], [], 0, [], [], Tryz.f139, [.agg [.int .i64, .int .i64]], [.c (.bool)], []⟩
theorem ok139 : F139.S.Ok Tryz.prog 139 := F139.ok Tryz.func139 (by kernel_rfl) trivial
noncomputable def g139 (x0 x1 : Int) : Option (Bool) := F139.S.g [.i x0, .i x1]
theorem g139_eq (x0 x1 : Int) : g139 x0 x1 =
 (if (cop .lss x1 6) = true then
 some (false)
 else
 if (cop .gtr x1 40) = true then
 some (false)
 else
 if (cop .lss x0 0) = true then
 some (false)
 else
 if (cop .geq x0 1099511627776) = true then
 some (false)
 else
 reqK ((0 : Int) ≤ (IntKind.wrap .u64 x1)) <|
 reqK (((iop .shl .i64 1 (IntKind.wrap .u64 x1)) : Int) ≠ 0) <|
 if (cop .eql (iop .rem .i64 x0 (iop .shl .i64 1 (IntKind.wrap .u64 x1))) 0) = true then
 some ((cop .leq (iop .add .i64 x0 (iop .shl .i64 1 (IntKind.wrap .u64 x1))) 1099511627776))
 else
 some (false)) := by kernel_rfl
noncomputable def F86 : Fn := ⟨23, [4], [], [], 0, [], [], Tryz.f86, [.c (.int .i64), .c (.int .i64)], [.c (.bool)], []⟩
theorem ok86 : F86.S.Ok Tryz.prog 86 := F86.ok Tryz.func86 (by kernel_rfl) trivial
noncomputable def g86 (x0 x1 : Int) : Option (Bool) := F86.S.g [.i x0, .i x1]
theorem g86_eq (x0 x1 : Int) : g86 x0 x1 =
 (if (cop .geq x1 0) = true then
 if (cop .eql x0 32) = true then
 if (cop .leq x1 1) = true then
 some (true)
 else
 if (cop .eql x0 39) = true then
 some ((cop .leq x1 2))
 else
 some (false)
 else
 if (cop .eql x0 39) = true then
 some ((cop .leq x1 2))
 else
 some (false)
 else
 some (false)) := by kernel_rfl
noncomputable def F84 : Fn := ⟨64, [2], [], [], 0, [], [], Tryz.f84, [.agg hs13], [.c (.bool)], [(85, F85.S), (81, F81.S), (139, F139.S), (86, F86.S)]⟩
theorem ok84 : F84.S.Ok Tryz.prog 84 := F84.ok Tryz.func84 (by kernel_rfl) ⟨ok85, ⟨ok81, ⟨ok139, ⟨ok86, trivial⟩⟩⟩⟩
noncomputable def g84 (x0 x1 x2 x3 x4 x5 : Int) (x6 : Bool) : Option (Bool) := F84.S.g [.i x0, .i x1, .i x2, .i x3, .i x4, .i x5, .b x6]
theorem g84_eq (x0 x1 x2 x3 x4 x5 : Int) (x6 : Bool) : g84 x0 x1 x2 x3 x4 x5 x6 =
 ((g85 x0 x2).bind fun (r7 : Bool) =>
 if (!r7) = true then
 some (false)
 else
 (g81 x0 x1 x2 x3 x4 x5 x6).bind fun (r8 : Int × Int) =>
 (g139 r8.1 r8.2).bind fun (r10 : Bool) =>
 if (!r10) = true then
 some (false)
 else
 if (cop .lss x3 0) = true then
 some (false)
 else
 if (cop .gtr x3 7) = true then
 some (false)
 else
 if (cop .eql x0 3) = true then
 (g86 x4 x5).bind fun (r11 : Bool) =>
 if (!r11) = true then
 some (false)
 else
 if (cop .neq x0 3) = true then
 if (cop .neq x4 0) = true then
 some (false)
 else
 if (cop .neq x5 0) = true then
 some (false)
 else
 if (!x6) = true then
 some (true)
 else
 if (cop .eql x0 1) = true then
 some (true)
 else
 some ((cop .eql x0 2))
 else
 if (!x6) = true then
 some (true)
 else
 if (cop .eql x0 1) = true then
 some (true)
 else
 some ((cop .eql x0 2))
 else
 if (cop .neq x0 3) = true then
 if (cop .neq x4 0) = true then
 some (false)
 else
 if (cop .neq x5 0) = true then
 some (false)
 else
 if (!x6) = true then
 some (true)
 else
 if (cop .eql x0 1) = true then
 some (true)
 else
 some ((cop .eql x0 2))
 else
 if (!x6) = true then
 some (true)
 else
 if (cop .eql x0 1) = true then
 some (true)
 else
 some ((cop .eql x0 2))) := by kernel_rfl
noncomputable def F18 : Fn := ⟨18, [4], [(2, [(0, .c (.slice 3)), (3, .box [.int .i64, .int .i64, .int .i64]), (5, .c (.int .i64))])], [], 0, [], [], Tryz.f18, [.c (.slice 3), .agg [.int .i64, .int .i64, .int .i64]], [.c (.bool)], []⟩
theorem ok18 : F18.S.Ok Tryz.prog 18 := F18.ok Tryz.func18 (by kernel_rfl) trivial
noncomputable def g18 (x0 : LL) (x1 x2 x3 : Int) : Option (Bool) := F18.S.g [.l x0, .i x1, .i x2, .i x3]
noncomputable def g18L0 (k : Nat) (x0 : LL) (x1 x2 x3 x4 : Int) : Option (Bool) := F18.lp [0] 0 r0 k [.l x0, .i x1, .i x2, .i x3, .i x4]
theorem g18L0_eq (k : Nat) (x0 : LL) (x1 x2 x3 x4 : Int) : g18L0 (k + 1) x0 x1 x2 x3 x4 =
 (if (cop .lss x4 (List.length x0 : Int)) = true then
 elemK x0 x4 [.int .i64, .int .i64, .int .i64] fun (r5 : Int × Int × Int) =>
 if ((cop .eql r5.1 x1) && ((cop .eql r5.2.1 x2) && ((cop .eql r5.2.2 x3) && true))) = true then
 some (true)
 else
 g18L0 k x0 x1 x2 x3 (iop .add .i64 x4 1)
 else
 some (false)) := by kernel_rfl
theorem g18_eq (x0 : LL) (x1 x2 x3 : Int) : g18 x0 x1 x2 x3 =
 (g18L0 FUEL x0 x1 x2 x3 0) := by kernel_rfl
noncomputable def F87 : Fn := ⟨53, [2], [(4, [(1, .box hs8), (3, .c (.int .i64))])], [], 0, [], [], Tryz.f87, [.agg hs8], [.c (.bool)], [(88, F88.S), (84, F84.S), (18, F18.S)]⟩
theorem ok87 : F87.S.Ok Tryz.prog 87 := F87.ok Tryz.func87 (by kernel_rfl) ⟨ok88, ⟨ok84, ⟨ok18, trivial⟩⟩⟩
noncomputable def g87 (x0 x1 x2 : Int) (x3 : LL) (x4 x5 x6 x7 x8 x9 : Int) (x10 : Bool) : Option (Bool) := F87.S.g [.i x0, .i x1, .i x2, .l x3, .i x4, .i x5, .i x6, .i x7, .i x8, .i x9, .b x10]
noncomputable def g87L0 (k : Nat) (x0 x1 x2 : Int) (x3 : LL) (x4 x5 x6 x7 x8 x9 : Int) (x10 : Bool) (x11 : Int) : Option (Bool) := F87.lp [0, 1, 0, 1, 1, 0, 1, 0] 0 r0 k [.i x0, .i x1, .i x2, .l x3, .i x4, .i x5, .i x6, .i x7, .i x8, .i x9, .b x10, .i x11]
theorem g87L0_eq (k : Nat) (x0 x1 x2 : Int) (x3 : LL) (x4 x5 x6 x7 x8 x9 : Int) (x10 : Bool) (x11 : Int) : g87L0 (k + 1) x0 x1 x2 x3 x4 x5 x6 x7 x8 x9 x10 x11 =
 (if (cop .lss x11 (List.length x3 : Int)) = true then
 elemK x3 x11 [.int .i64, .int .i64, .int .i64] fun (r12 : Int × Int × Int) =>
 (g88 r12.1 r12.2.1 r12.2.2).bind fun (r15 : Bool) =>
 if (!r15) = true then
 some (false)
 else
 reqK ((0 : Int) ≤ x11) <|
 reqK ((x11 : Int) ≤ (List.length x3 : Int)) <|
 elemK x3 x11 [.int .i64, .int .i64, .int .i64] fun (r16 : Int × Int × Int) =>
 (g18 (List.take (Int.toNat x11) x3) r16.1 r16.2.1 r16.2.2).bind fun (r19 : Bool) =>
 if r19 = true then
 some (false)
 else
 g87L0 k x0 x1 x2 x3 x4 x5 x6 x7 x8 x9 x10 (iop .add .i64 x11 1)
 else
 some (true)) := by kernel_rfl
theorem g87_eq (x0 x1 x2 : Int) (x3 : LL) (x4 x5 x6 x7 x8 x9 : Int) (x10 : Bool) : g87 x0 x1 x2 x3 x4 x5 x6 x7 x8 x9 x10 =
 ((g88 x0 x1 x2).bind fun (r11 : Bool) =>
 if (!r11) = true then
 some (false)
 else
 (g84 x4 x5 x6 x7 x8 x9 x10).bind fun (r12 : Bool) =>
 if (!r12) = true then
 some (false)
 else
 if (cop .gtr (List.length x3 : Int) 8) = true then
 some (false)
 else
 (g18 x3 x0 x1 x2).bind fun (r13 : Bool) =>
 if r13 = true then
 some (false)
 else
 g87L0 FUEL x0 x1 x2 x3 x4 x5 x6 x7 x8 x9 x10 0) := by kernel_rfl
noncomputable def F91 : Fn := ⟨46, [2], [], [], 0, [], [], Tryz.f91, [.agg hs3], [.c (.bool)], [(92, F92.S), (100, F100.S), (19, F19.S), (87, F87.S)]⟩
noncomputable def F93 : Fn := ⟨9, [2], [], [], 0, [], [], Tryz.f93, [.c (.int .i64)], [.c (.bool)], []⟩
noncomputable def F94 : Fn := ⟨29, [4], [(2, [(0, .c (.slice 3)), (1, .c (.bool)), (5, .c (.int .i64))])], [], 0, [], [], Tryz.f94, [.c (.slice 3), .c (.bool)], [.c (.bool)], [(88, F88.S)]⟩
noncomputable def F95 : Fn := ⟨32, [2], [(2, [(0, .c (.slice 1)), (3, .c (.int .i64))])], [], 0, [], [], Tryz.f95, [.c (.slice 1)], [.c (.bool)], [(90, F90.S)]⟩
noncomputable def F55 : Fn := ⟨18, [4], [(2, [(0, .c (.slice 1)), (1, .c (.int .i64)), (5, .c (.int .i64))])], [], 0, [], [], Tryz.f55, [.c (.slice 1), .c (.int .i64)], [.c (.bool)], []⟩
noncomputable def F97 : Fn := ⟨61, [2], [(4, [(1, .box [.int .i64, .slice 1, .slice 1]), (3, .c (.int .i64))]), (9, [(1, .box [.int .i64, .slice 1, .slice 1]), (4, .c (.int .i64))])], [], 0, [], [], Tryz.f97, [.agg [.int .i64, .slice 1, .slice 1]], [.c (.bool)], [(89, F89.S), (90, F90.S), (55, F55.S)]⟩
noncomputable def F21 : Fn := ⟨8, [2], [], [], 0, [], [], Tryz.f21, [.agg hs6], [.c (.bool)], []⟩
theorem ok21 : F21.S.Ok Tryz.prog 21 := F21.ok Tryz.func21 (by kernel_rfl) trivial
noncomputable def g21 (x0 x1 x2 : Int) (x3 : LL) (x4 x5 x6 x7 x8 x9 : Int) (x10 : Bool) (x11 x12 x13 x14 : Int) : Option (Bool) := F21.S.g [.i x0, .i x1, .i x2, .l x3, .i x4, .i x5, .i x6, .i x7, .i x8, .i x9, .b x10, .i x11, .i x12, .i x13, .i x14]
theorem g21_eq (x0 x1 x2 : Int) (x3 : LL) (x4 x5 x6 x7 x8 x9 : Int) (x10 : Bool) (x11 x12 x13 x14 : Int) : g21 x0 x1 x2 x3 x4 x5 x6 x7 x8 x9 x10 x11 x12 x13 x14 =
 (some (((cop .eql x0 0) && ((cop .eql x1 0) && ((cop .eql x2 0) && true))))) := by kernel_rfl
noncomputable def F23 : Fn := ⟨29, [4], [(2, [(0, .c (.slice 15)), (3, .box [.int .i64, .int .i64, .int .i64]), (5, .c (.int .i64))])], [], 0, [], [], Tryz.f23, [.c (.slice 15), .agg [.int .i64, .int .i64, .int .i64]], [.c (.int .i64)], [(21, F21.S)]⟩
noncomputable def F144 : Fn := ⟨70, [2], [(4, [(0, .c (.slice 15)), (3, .c (.int .i64))])], [], 0, [], [], Tryz.f144, [.c (.slice 15)], [.c (.bool)], [(88, F88.S), (21, F21.S), (19, F19.S), (87, F87.S), (23, F23.S)]⟩
noncomputable def F29 : Fn := ⟨30, [4], [], [], 0, [], [], Tryz.f29, [.agg [.int .i64, .int .i64, .int .i64], .agg [.int .i64, .int .i64, .int .i64]], [.c (.bool)], []⟩
theorem ok29 : F29.S.Ok Tryz.prog 29 := F29.ok Tryz.func29 (by kernel_rfl) trivial
noncomputable def g29 (x0 x1 x2 x3 x4 x5 : Int) : Option (Bool) := F29.S.g [.i x0, .i x1, .i x2, .i x3, .i x4, .i x5]
theorem g29_eq (x0 x1 x2 x3 x4 x5 : Int) : g29 x0 x1 x2 x3 x4 x5 =
 (if (cop .neq x0 x3) = true then
 some ((cop .lss x0 x3))
 else
 if (cop .neq x1 x4) = true then
 some ((cop .lss x1 x4))
 else
 some ((cop .lss x2 x5))) := by kernel_rfl
noncomputable def F98 : Fn := ⟨186, [2], [(4, [(1, .box hs16), (3, .c (.int .i64))]), (9, [(1, .box hs16), (4, .c (.int .i64))]), (15, [(1, .box hs16), (6, .c (.int .i64))]), (21, [(1, .box hs16), (8, .c (.int .i64))])], [], 0, [], [], Tryz.f98, [.agg hs16], [.c (.bool)], [(144, F144.S), (94, F94.S), (91, F91.S), (29, F29.S), (100, F100.S), (92, F92.S), (93, F93.S), (90, F90.S), (87, F87.S)]⟩
noncomputable def F96 : Fn := ⟨26, [2], [], [], 0, [], [], Tryz.f96, [.agg hs4], [.c (.bool)], [(90, F90.S), (97, F97.S), (98, F98.S)]⟩
noncomputable def F99 : Fn := ⟨29, [2], [(2, [(0, .c (.slice 2)), (3, .c (.int .i64))])], [], 0, [], [], Tryz.f99, [.c (.slice 2)], [.c (.bool)], [(100, F100.S), (90, F90.S)]⟩
noncomputable def F102 : Fn := ⟨38, [4], [], [], 0, [], [], Tryz.f102, [.agg hs3, .agg hs3], [.c (.bool)], [(19, F19.S)]⟩
noncomputable def F103 : Fn := ⟨27, [4], [(4, [(0, .c (.slice 11)), (1, .c (.slice 11)), (5, .c (.int .i64))])], [], 0, [], [], Tryz.f103, [.c (.slice 11), .c (.slice 11)], [.c (.bool)], [(19, F19.S)]⟩
noncomputable def F104 : Fn := ⟨26, [4], [(4, [(0, .c (.slice 1)), (1, .c (.slice 1)), (5, .c (.int .i64))])], [], 0, [], [], Tryz.f104, [.c (.slice 1), .c (.slice 1)], [.c (.bool)], []⟩
noncomputable def F105 : Fn := ⟨26, [4], [(4, [(0, .c (.slice 2)), (1, .c (.slice 2)), (5, .c (.int .i64))])], [], 0, [], [], Tryz.f105, [.c (.slice 2), .c (.slice 2)], [.c (.bool)], []⟩
noncomputable def F106 : Fn := ⟨24, [4], [], [], 0, [], [], Tryz.f106, [.agg [.int .i64, .slice 1, .slice 1], .agg [.int .i64, .slice 1, .slice 1]], [.c (.bool)], [(104, F104.S)]⟩
noncomputable def F22 : Fn := ⟨55, [4], [(4, [(0, .c (.slice 15)), (1, .c (.slice 15)), (5, .c (.int .i64))])], [], 0, [], [], Tryz.f22, [.c (.slice 15), .c (.slice 15)], [.c (.bool)], [(19, F19.S)]⟩
noncomputable def F145 : Fn := ⟨27, [4], [(4, [(0, .c (.slice 28)), (1, .c (.slice 28)), (5, .c (.int .i64))])], [], 0, [], [], Tryz.f145, [.c (.slice 28), .c (.slice 28)], [.c (.bool)], [(102, F102.S)]⟩
noncomputable def F36 : Fn := ⟨26, [4], [(4, [(0, .c (.slice 4)), (1, .c (.slice 4)), (5, .c (.int .i64))])], [], 0, [], [], Tryz.f36, [.c (.slice 4), .c (.slice 4)], [.c (.bool)], []⟩
noncomputable def F146 : Fn := ⟨26, [4], [(4, [(0, .c (.slice 2)), (1, .c (.slice 2)), (5, .c (.int .i64))])], [], 0, [], [], Tryz.f146, [.c (.slice 2), .c (.slice 2)], [.c (.bool)], []⟩
noncomputable def F147 : Fn := ⟨55, [4], [(4, [(0, .c (.slice 13)), (1, .c (.slice 13)), (5, .c (.int .i64))])], [], 0, [], [], Tryz.f147, [.c (.slice 13), .c (.slice 13)], [.c (.bool)], [(19, F19.S)]⟩
noncomputable def F107 : Fn := ⟨45, [4], [], [], 0, [], [], Tryz.f107, [.agg hs16, .agg hs16], [.c (.bool)], [(22, F22.S), (145, F145.S), (36, F36.S), (146, F146.S), (147, F147.S), (46, F46.S)]⟩
noncomputable def F108 : Fn := ⟨45, [4], [], [], 0, [], [], Tryz.f108, [.agg hs4, .agg hs4], [.c (.bool)], [(106, F106.S), (107, F107.S)]⟩
noncomputable def F62 : Fn := ⟨134, [4], [], [], 0, [], [], Tryz.f62, [.agg hs0, .agg hs0], [.c (.bool)], [(102, F102.S), (46, F46.S), (103, F103.S), (104, F104.S), (105, F105.S), (106, F106.S), (107, F107.S), (108, F108.S)]⟩
noncomputable def F56 : Fn := ⟨295, [2], [(60, [(1, .box hs0), (3, .box hs0), (4, .c (.bool)), (5, .c (.int .i64))])], [], 0, [], [], Tryz.f56, [.agg hs0], [.c (.bool)], [(89, F89.S), (90, F90.S), (91, F91.S), (87, F87.S), (100, F100.S), (62, F62.S), (92, F92.S), (93, F93.S), (94, F94.S), (95, F95.S), (96, F96.S), (97, F97.S), (98, F98.S), (99, F99.S)]⟩
noncomputable def F20 : Fn := ⟨12, [2], [], [], 0, [], [], Tryz.f20, [.agg hs6], [.c (.bool)], []⟩
theorem ok20 : F20.S.Ok Tryz.prog 20 := F20.ok Tryz.func20 (by kernel_rfl) trivial
noncomputable def g20 (x0 x1 x2 : Int) (x3 : LL) (x4 x5 x6 x7 x8 x9 : Int) (x10 : Bool) (x11 x12 x13 x14 : Int) : Option (Bool) := F20.S.g [.i x0, .i x1, .i x2, .l x3, .i x4, .i x5, .i x6, .i x7, .i x8, .i x9, .b x10, .i x11, .i x12, .i x13, .i x14]
theorem g20_eq (x0 x1 x2 : Int) (x3 : LL) (x4 x5 x6 x7 x8 x9 : Int) (x10 : Bool) (x11 x12 x13 x14 : Int) : g20 x0 x1 x2 x3 x4 x5 x6 x7 x8 x9 x10 x11 x12 x13 x14 =
 (if (cop .neq x11 0) = true then
 some (true)
 else
 some ((!((cop .eql x12 0) && ((cop .eql x13 0) && ((cop .eql x14 0) && true)))))) := by kernel_rfl
noncomputable def F53 : Fn := ⟨5, [2], [], [], 0, [], [], Tryz.f53, [.c (.slice 3)], [.c (.own false 37)], []⟩
theorem ok53 : F53.S.Ok Tryz.prog 53 := F53.ok Tryz.func53 (by kernel_rfl) trivial
noncomputable def g53 (x0 : LL) : Option (LL) := F53.S.g [.l x0]
theorem g53_eq (x0 : LL) : g53 x0 =
 (reqK (roomP ([] : LL) x0 24) <|
 some (x0)) := by kernel_rfl
noncomputable def F30 : Fn := ⟨8, [2], [], [], 0, [], [], Tryz.f30, [.agg hs8], [.agg hs8], [(53, F53.S)]⟩
theorem ok30 : F30.S.Ok Tryz.prog 30 := F30.ok Tryz.func30 (by kernel_rfl) ⟨ok53, trivial⟩
noncomputable def g30 (x0 x1 x2 : Int) (x3 : LL) (x4 x5 x6 x7 x8 x9 : Int) (x10 : Bool) : Option (Qt17) := F30.S.g [.i x0, .i x1, .i x2, .l x3, .i x4, .i x5, .i x6, .i x7, .i x8, .i x9, .b x10]
theorem g30_eq (x0 x1 x2 : Int) (x3 : LL) (x4 x5 x6 x7 x8 x9 : Int) (x10 : Bool) : g30 x0 x1 x2 x3 x4 x5 x6 x7 x8 x9 x10 =
 ((g53 x3).bind fun (r11 : LL) =>
 some (x0, x1, x2, r11, x4, x5, x6, x7, x8, x9, x10)) := by kernel_rfl
noncomputable def F16 : Fn := ⟨32, [2], [(3, [(0, .c (.slice 15)), (3, .c (.own true 60)), (4, .c (.int .i64))])], [], 0, [2, 3, 30], [], Tryz.f16, [.c (.slice 15)], [.c (.own true 60)], [(30, F30.S)]⟩
theorem ok16 : F16.S.Ok Tryz.prog 16 := F16.ok Tryz.func16 (by kernel_rfl) ⟨ok30, trivial⟩
noncomputable def g16 (x0 : LL) : Option (LL) := F16.S.g [.l x0]
noncomputable def g16L0 (k : Nat) (x0 x1 : LL) (x2 : Int) : Option (LL) := F16.lp [0] 0 r0 k [.l x0, .l x1, .i x2]
theorem g16L0_eq (k : Nat) (x0 x1 : LL) (x2 : Int) : g16L0 (k + 1) x0 x1 x2 =
 (if (cop .lss x2 (List.length x0 : Int)) = true then
 elemK x0 x2 hs6 fun (r3 : Qt11) =>
 (g30 r3.1 r3.2.1 r3.2.2.1 r3.2.2.2.1 r3.2.2.2.2.1 r3.2.2.2.2.2.1 r3.2.2.2.2.2.2.1 r3.2.2.2.2.2.2.2.1 r3.2.2.2.2.2.2.2.2.1 r3.2.2.2.2.2.2.2.2.2.1 r3.2.2.2.2.2.2.2.2.2.2.1).bind fun (r18 : Qt17) =>
 elemK x0 x2 hs6 fun (r29 : Qt11) =>
 elemK x0 x2 hs6 fun (r44 : Qt11) =>
 reqK (roomP x1 (([] : LL) ++ [[AV.val (.int .i64 r18.1), AV.val (.int .i64 r18.2.1), AV.val (.int .i64 r18.2.2.1), AV.slice false 3 r18.2.2.2.1, AV.val (.int .i64 r18.2.2.2.2.1), AV.val (.int .i64 r18.2.2.2.2.2.1), AV.val (.int .i64 r18.2.2.2.2.2.2.1), AV.val (.int .i64 r18.2.2.2.2.2.2.2.1), AV.val (.int .i64 r18.2.2.2.2.2.2.2.2.1), AV.val (.int .i64 r18.2.2.2.2.2.2.2.2.2.1), AV.val (.bool r18.2.2.2.2.2.2.2.2.2.2), AV.val (.int .i64 r29.2.2.2.2.2.2.2.2.2.2.2.1), AV.val (.int .i64 (d4 (d8 r44)).1), AV.val (.int .i64 (d4 (d8 r44)).2.1), AV.val (.int .i64 (d2 (d4 (d8 r44))))]]) 136) <|
 g16L0 k x0 (x1 ++ (([] : LL) ++ [[AV.val (.int .i64 r18.1), AV.val (.int .i64 r18.2.1), AV.val (.int .i64 r18.2.2.1), AV.slice false 3 r18.2.2.2.1, AV.val (.int .i64 r18.2.2.2.2.1), AV.val (.int .i64 r18.2.2.2.2.2.1), AV.val (.int .i64 r18.2.2.2.2.2.2.1), AV.val (.int .i64 r18.2.2.2.2.2.2.2.1), AV.val (.int .i64 r18.2.2.2.2.2.2.2.2.1), AV.val (.int .i64 r18.2.2.2.2.2.2.2.2.2.1), AV.val (.bool r18.2.2.2.2.2.2.2.2.2.2), AV.val (.int .i64 r29.2.2.2.2.2.2.2.2.2.2.2.1), AV.val (.int .i64 (d4 (d8 r44)).1), AV.val (.int .i64 (d4 (d8 r44)).2.1), AV.val (.int .i64 (d2 (d4 (d8 r44))))]])) (iop .add .i64 x2 1)
 else
 some (x1)) := by kernel_rfl
theorem g16_eq (x0 : LL) : g16 x0 =
 (g16L0 FUEL x0 ([] : LL) 0) := by kernel_rfl
noncomputable def F101 : Fn := ⟨44, [6, 7], [], [], 0, [], [(7, [(8, 0)])], Tryz.f101, [.c (.slice 15), .c (.int .i64), .agg hs8], [.c (.slice 15), .c (.int .i64)], [(87, F87.S), (23, F23.S), (21, F21.S), (16, F16.S), (30, F30.S)]⟩
noncomputable def F57 : Fn := ⟨37, [4, 5], [], [], 0, [], [], Tryz.f57, [.c (.slice 15), .agg hs0], [.c (.slice 15), .c (.int .i64)], [(20, F20.S), (21, F21.S), (101, F101.S)]⟩
noncomputable def F58 : Fn := ⟨39, [6], [(3, [(1, .c (.slice 3)), (5, .box [.int .i64, .int .i64, .int .i64]), (7, .c (.own true 60)), (8, .c (.int .i64))])], [], 0, [], [(7, [(7, 0)])], Tryz.f58, [.c (.slice 15), .c (.slice 3), .agg [.int .i64, .int .i64, .int .i64]], [.c (.own false 60)], [(16, F16.S), (21, F21.S), (18, F18.S)]⟩
noncomputable def F59 : Fn := ⟨28, [4], [(3, [(0, .c (.slice 4)), (1, .c (.int .i64)), (5, .c (.own false 62)), (6, .c (.int .i64))])], [], 0, [], [], Tryz.f59, [.c (.slice 4), .c (.int .i64)], [.c (.own false 62)], []⟩
noncomputable def F60 : Fn := ⟨37, [4], [(3, [(0, .c (.slice 4)), (3, .box [.int .i64, .int .i64, .int .i64, .int .i64]), (5, .c (.int .i64))])], [], 0, [], [], Tryz.f60, [.c (.slice 4), .agg [.int .i64, .int .i64, .int .i64, .int .i64]], [.c (.own false 62)], [(59, F59.S)]⟩
noncomputable def F61 : Fn := ⟨58, [4, 5], [(4, [(3, .box [.int .i64, .int .i64, .int .i64]), (6, .c (.own true 60)), (7, .c (.own false 37)), (8, .c (.int .i64))])], [], 0, [], [(10, [(6, 0)])], Tryz.f61, [.c (.slice 15), .agg [.int .i64, .int .i64, .int .i64]], [.c (.own false 60), .c (.own false 37)], [(16, F16.S), (21, F21.S)]⟩
noncomputable def F35 : Fn := ⟨105, [8, 9, 10, 11], [], [], 0, [], [], Tryz.f35, [.c (.int .i64), .c (.slice 15), .c (.slice 4), .agg hs0], [.c (.slice 15), .c (.slice 4), .c (.slice 74), .c (.slice 4)], [(56, F56.S), (57, F57.S), (58, F58.S), (59, F59.S), (60, F60.S), (61, F61.S)]⟩
noncomputable def F63 : Fn := ⟨8, [2], [], [], 0, [2, 5, 7], [], Tryz.f63, [.c (.slice 15)], [.c (.own true 60)], []⟩
theorem ok63 : F63.S.Ok Tryz.prog 63 := F63.ok Tryz.func63 (by kernel_rfl) trivial
noncomputable def g63 (x0 : LL) : Option (LL) := F63.S.g [.l x0]
theorem g63_eq (x0 : LL) : g63 x0 =
 (nilK x0 fun r1 =>
 if r1 = true then
 some (([] : LL))
 else
 reqK (roomP ([] : LL) x0 136) <|
 some ((([] : LL) ++ x0))) := by kernel_rfl
noncomputable def F109 : Fn := ⟨8, [2], [], [], 0, [2, 5, 7], [], Tryz.f109, [.c (.slice 3)], [.c (.own true 37)], []⟩
theorem ok109 : F109.S.Ok Tryz.prog 109 := F109.ok Tryz.func109 (by kernel_rfl) trivial
noncomputable def g109 (x0 : LL) : Option (LL) := F109.S.g [.l x0]
theorem g109_eq (x0 : LL) : g109 x0 =
 (nilK x0 fun r1 =>
 if r1 = true then
 some (([] : LL))
 else
 reqK (roomP ([] : LL) x0 24) <|
 some ((([] : LL) ++ x0))) := by kernel_rfl
noncomputable def F64 : Fn := ⟨8, [2], [], [], 0, [], [(2, [(1, 4)])], Tryz.f64, [.agg hs8], [.agg hs8], [(109, F109.S)]⟩
theorem ok64 : F64.S.Ok Tryz.prog 64 := F64.ok Tryz.func64 (by kernel_rfl) ⟨ok109, trivial⟩
noncomputable def g64 (x0 x1 x2 : Int) (x3 : LL) (x4 x5 x6 x7 x8 x9 : Int) (x10 : Bool) : Option (Qt17) := F64.S.g [.i x0, .i x1, .i x2, .l x3, .i x4, .i x5, .i x6, .i x7, .i x8, .i x9, .b x10]
theorem g64_eq (x0 x1 x2 : Int) (x3 : LL) (x4 x5 x6 x7 x8 x9 : Int) (x10 : Bool) : g64 x0 x1 x2 x3 x4 x5 x6 x7 x8 x9 x10 =
 ((g109 x3).bind fun (r11 : LL) =>
 some (x0, x1, x2, r11, x4, x5, x6, x7, x8, x9, x10)) := by kernel_rfl
noncomputable def F38 : Fn := ⟨24, [2], [(3, [(3, .c (.own true 60)), (8, .c (.int .i64)), (9, .c (.int .i64))])], [], 0, [2], [], Tryz.f38, [.c (.slice 15)], [.c (.own true 60)], [(63, F63.S), (64, F64.S)]⟩
theorem ok38 : F38.S.Ok Tryz.prog 38 := F38.ok Tryz.func38 (by kernel_rfl) ⟨ok63, ⟨ok64, trivial⟩⟩
noncomputable def g38 (x0 : LL) : Option (LL) := F38.S.g [.l x0]
noncomputable def g38L0 (k : Nat) (x0 : LL) (x1 x2 : Int) : Option (LL) := F38.lp [2] 0 r0 k [.l x0, .i x1, .i x2]
theorem g38L0_eq (k : Nat) (x0 : LL) (x1 x2 : Int) : g38L0 (k + 1) x0 x1 x2 =
 (if (cop .lss x2 x1) = true then
 reqK ((0 : Int) ≤ x2) <|
 reqK ((x2 : Int) < (List.length x0 : Int)) <|
 elemK x0 x2 hs6 fun (r3 : Qt11) =>
 (g64 r3.1 r3.2.1 r3.2.2.1 r3.2.2.2.1 r3.2.2.2.2.1 r3.2.2.2.2.2.1 r3.2.2.2.2.2.2.1 r3.2.2.2.2.2.2.2.1 r3.2.2.2.2.2.2.2.2.1 r3.2.2.2.2.2.2.2.2.2.1 r3.2.2.2.2.2.2.2.2.2.2.1).bind fun (r18 : Qt17) =>
 reqK ((0 : Int) ≤ x2) <|
 reqK ((x2 : Int) < (List.length x0 : Int)) <|
 reqK ((0 : Int) ≤ x2) <|
 reqK ((x2 : Int) < (List.length x0 : Int)) <|
 g38L0 k (setElem x0 (Int.toNat x2) 0 [AV.val (.int .i64 r18.1), AV.val (.int .i64 r18.2.1), AV.val (.int .i64 r18.2.2.1), AV.slice false 3 r18.2.2.2.1, AV.val (.int .i64 r18.2.2.2.2.1), AV.val (.int .i64 r18.2.2.2.2.2.1), AV.val (.int .i64 r18.2.2.2.2.2.2.1), AV.val (.int .i64 r18.2.2.2.2.2.2.2.1), AV.val (.int .i64 r18.2.2.2.2.2.2.2.2.1), AV.val (.int .i64 r18.2.2.2.2.2.2.2.2.2.1), AV.val (.bool r18.2.2.2.2.2.2.2.2.2.2)]) x1 (iop .add .i64 x2 1)
 else
 some (x0)) := by kernel_rfl
theorem g38_eq (x0 : LL) : g38 x0 =
 ((g63 x0).bind fun (r1 : LL) =>
 g38L0 FUEL r1 (List.length r1 : Int) 0) := by kernel_rfl
noncomputable def F39 : Fn := ⟨8, [2], [], [], 0, [2, 5, 7], [], Tryz.f39, [.c (.slice 4)], [.c (.own true 62)], []⟩
theorem ok39 : F39.S.Ok Tryz.prog 39 := F39.ok Tryz.func39 (by kernel_rfl) trivial
noncomputable def g39 (x0 : LL) : Option (LL) := F39.S.g [.l x0]
theorem g39_eq (x0 : LL) : g39 x0 =
 (nilK x0 fun r1 =>
 if r1 = true then
 some (([] : LL))
 else
 reqK (roomP ([] : LL) x0 32) <|
 some ((([] : LL) ++ x0))) := by kernel_rfl
noncomputable def F71 : Fn := ⟨12, [2], [], [], 0, [], [], Tryz.f71, [.agg hs6], [.c (.bool)], []⟩
theorem ok71 : F71.S.Ok Tryz.prog 71 := F71.ok Tryz.func71 (by kernel_rfl) trivial
noncomputable def g71 (x0 x1 x2 : Int) (x3 : LL) (x4 x5 x6 x7 x8 x9 : Int) (x10 : Bool) (x11 x12 x13 x14 : Int) : Option (Bool) := F71.S.g [.i x0, .i x1, .i x2, .l x3, .i x4, .i x5, .i x6, .i x7, .i x8, .i x9, .b x10, .i x11, .i x12, .i x13, .i x14]
theorem g71_eq (x0 x1 x2 : Int) (x3 : LL) (x4 x5 x6 x7 x8 x9 : Int) (x10 : Bool) (x11 x12 x13 x14 : Int) : g71 x0 x1 x2 x3 x4 x5 x6 x7 x8 x9 x10 x11 x12 x13 x14 =
 (if (cop .neq x11 0) = true then
 some (true)
 else
 some ((!((cop .eql x12 0) && ((cop .eql x13 0) && ((cop .eql x14 0) && true)))))) := by kernel_rfl
noncomputable def F73 : Fn := ⟨49, [6, 7], [], [], 0, [6], [], Tryz.f73, [.c (.slice 15), .c (.int .i64), .agg hs8], [.c (.own true 60), .c (.int .i64)], [(134, F134.S), (116, F116.S), (72, F72.S), (38, F38.S), (64, F64.S)]⟩
theorem ok73 : F73.S.Ok Tryz.prog 73 := F73.ok Tryz.func73 (by kernel_rfl) ⟨ok134, ⟨ok116, ⟨ok72, ⟨ok38, ⟨ok64, trivial⟩⟩⟩⟩⟩
noncomputable def g73 (x0 : LL) (x1 x2 x3 x4 : Int) (x5 : LL) (x6 x7 x8 x9 x10 x11 : Int) (x12 : Bool) : Option (LL × Int) := F73.S.g [.l x0, .i x1, .i x2, .i x3, .i x4, .l x5, .i x6, .i x7, .i x8, .i x9, .i x10, .i x11, .b x12]
theorem g73_eq (x0 : LL) (x1 x2 x3 x4 : Int) (x5 : LL) (x6 x7 x8 x9 x10 x11 : Int) (x12 : Bool) : g73 x0 x1 x2 x3 x4 x5 x6 x7 x8 x9 x10 x11 x12 =
 ((g134 x0 x2 x3 x4).bind fun (r13 : Int × Bool) =>
 if (cop .lss x1 0) = true then
 some (([] : LL), 1)
 else
 if (cop .geq x1 (List.length x0 : Int)) = true then
 some (([] : LL), 1)
 else
 (g116 x2 x3 x4 x5 x6 x7 x8 x9 x10 x11 x12).bind fun (r15 : Bool) =>
 if (!r15) = true then
 some (([] : LL), 1)
 else
 if r13.2 = true then
 some (([] : LL), 1)
 else
 elemK x0 x1 hs6 fun (r16 : Qt11) =>
 (g72 r16.1 r16.2.1 r16.2.2.1 r16.2.2.2.1 r16.2.2.2.2.1 r16.2.2.2.2.2.1 r16.2.2.2.2.2.2.1 r16.2.2.2.2.2.2.2.1 r16.2.2.2.2.2.2.2.2.1 r16.2.2.2.2.2.2.2.2.2.1 r16.2.2.2.2.2.2.2.2.2.2.1 r16.2.2.2.2.2.2.2.2.2.2.2.1 (d4 (d8 r16)).1 (d4 (d8 r16)).2.1 (d2 (d4 (d8 r16)))).bind fun (r31 : Bool) =>
 if (!r31) = true then
 some (([] : LL), 3)
 else
 (g38 x0).bind fun (r32 : LL) =>
 (g64 x2 x3 x4 x5 x6 x7 x8 x9 x10 x11 x12).bind fun (r33 : Qt17) =>
 reqK ((0 : Int) ≤ x1) <|
 reqK ((x1 : Int) < (List.length r32 : Int)) <|
 reqK ((0 : Int) ≤ x1) <|
 reqK ((x1 : Int) < (List.length r32 : Int)) <|
 some ((setElem r32 (Int.toNat x1) 0 [AV.val (.int .i64 r33.1), AV.val (.int .i64 r33.2.1), AV.val (.int .i64 r33.2.2.1), AV.slice false 3 r33.2.2.2.1, AV.val (.int .i64 r33.2.2.2.2.1), AV.val (.int .i64 r33.2.2.2.2.2.1), AV.val (.int .i64 r33.2.2.2.2.2.2.1), AV.val (.int .i64 r33.2.2.2.2.2.2.2.1), AV.val (.int .i64 r33.2.2.2.2.2.2.2.2.1), AV.val (.int .i64 r33.2.2.2.2.2.2.2.2.2.1), AV.val (.bool r33.2.2.2.2.2.2.2.2.2.2)]), 0)) := by kernel_rfl
noncomputable def F41 : Fn := ⟨46, [4, 5], [], [], 0, [], [(11, [(7, 0)])], Tryz.f41, [.c (.slice 15), .agg hs0], [.c (.slice 15), .c (.int .i64)], [(71, F71.S), (72, F72.S), (73, F73.S)]⟩
theorem ok41 : F41.S.Ok Tryz.prog 41 := F41.ok Tryz.func41 (by kernel_rfl) ⟨ok71, ⟨ok72, ⟨ok73, trivial⟩⟩⟩
noncomputable def g41 (x0 : LL) (x1 x2 x3 x4 x5 x6 x7 x8 x9 x10 x11 : Int) (x12 : Bool) (x13 x14 x15 x16 x17 x18 x19 x20 x21 x22 x23 x24 x25 x26 x27 x28 x29 x30 x31 x32 : Int) (x33 : LL) (x34 x35 x36 x37 x38 x39 : Int) (x40 : Bool) (x41 x42 x43 x44 : LL) (x45 x46 : Int) (x47 x48 x49 x50 x51 x52 x53 x54 : LL) (x55 x56 : Int) (x57 x58 x59 x60 x61 x62 x63 x64 : LL) (x65 : Bool) (x66 : Int) (x67 x68 x69 x70 x71 x72 x73 x74 : LL) : Option (LL × Int) := F41.S.g [.l x0, .i x1, .i x2, .i x3, .i x4, .i x5, .i x6, .i x7, .i x8, .i x9, .i x10, .i x11, .b x12, .i x13, .i x14, .i x15, .i x16, .i x17, .i x18, .i x19, .i x20, .i x21, .i x22, .i x23, .i x24, .i x25, .i x26, .i x27, .i x28, .i x29, .i x30, .i x31, .i x32, .l x33, .i x34, .i x35, .i x36, .i x37, .i x38, .i x39, .b x40, .l x41, .l x42, .l x43, .l x44, .i x45, .i x46, .l x47, .l x48, .l x49, .l x50, .l x51, .l x52, .l x53, .l x54, .i x55, .i x56, .l x57, .l x58, .l x59, .l x60, .l x61, .l x62, .l x63, .l x64, .b x65, .i x66, .l x67, .l x68, .l x69, .l x70, .l x71, .l x72, .l x73, .l x74]
theorem g41_eq (x0 : LL) (x1 x2 x3 x4 x5 x6 x7 x8 x9 x10 x11 : Int) (x12 : Bool) (x13 x14 x15 x16 x17 x18 x19 x20 x21 x22 x23 x24 x25 x26 x27 x28 x29 x30 x31 x32 : Int) (x33 : LL) (x34 x35 x36 x37 x38 x39 : Int) (x40 : Bool) (x41 x42 x43 x44 : LL) (x45 x46 : Int) (x47 x48 x49 x50 x51 x52 x53 x54 : LL) (x55 x56 : Int) (x57 x58 x59 x60 x61 x62 x63 x64 : LL) (x65 : Bool) (x66 : Int) (x67 x68 x69 x70 x71 x72 x73 x74 : LL) : g41 x0 x1 x2 x3 x4 x5 x6 x7 x8 x9 x10 x11 x12 x13 x14 x15 x16 x17 x18 x19 x20 x21 x22 x23 x24 x25 x26 x27 x28 x29 x30 x31 x32 x33 x34 x35 x36 x37 x38 x39 x40 x41 x42 x43 x44 x45 x46 x47 x48 x49 x50 x51 x52 x53 x54 x55 x56 x57 x58 x59 x60 x61 x62 x63 x64 x65 x66 x67 x68 x69 x70 x71 x72 x73 x74 =
 (elemK x42 0 hs8 fun (r75 : Qt17) =>
 if (cop .geq x7 (List.length x0 : Int)) = true then
 some (x0, 1)
 else
 elemK x0 x7 hs6 fun (r86 : Qt11) =>
 (g71 r86.1 r86.2.1 r86.2.2.1 r86.2.2.2.1 r86.2.2.2.2.1 r86.2.2.2.2.2.1 r86.2.2.2.2.2.2.1 r86.2.2.2.2.2.2.2.1 r86.2.2.2.2.2.2.2.2.1 r86.2.2.2.2.2.2.2.2.2.1 r86.2.2.2.2.2.2.2.2.2.2.1 r86.2.2.2.2.2.2.2.2.2.2.2.1 (d4 (d8 r86)).1 (d4 (d8 r86)).2.1 (d2 (d4 (d8 r86)))).bind fun (r101 : Bool) =>
 if r101 = true then
 some (x0, 4)
 else
 elemK x0 x7 hs6 fun (r102 : Qt11) =>
 (g72 r102.1 r102.2.1 r102.2.2.1 r102.2.2.2.1 r102.2.2.2.2.1 r102.2.2.2.2.2.1 r102.2.2.2.2.2.2.1 r102.2.2.2.2.2.2.2.1 r102.2.2.2.2.2.2.2.2.1 r102.2.2.2.2.2.2.2.2.2.1 r102.2.2.2.2.2.2.2.2.2.2.1 r102.2.2.2.2.2.2.2.2.2.2.2.1 (d4 (d8 r102)).1 (d4 (d8 r102)).2.1 (d2 (d4 (d8 r102)))).bind fun (r117 : Bool) =>
 if (!r117) = true then
 some (x0, 3)
 else
 (g73 x0 x7 r75.1 r75.2.1 r75.2.2.1 r75.2.2.2.1 r75.2.2.2.2.1 r75.2.2.2.2.2.1 r75.2.2.2.2.2.2.1 r75.2.2.2.2.2.2.2.1 r75.2.2.2.2.2.2.2.2.1 r75.2.2.2.2.2.2.2.2.2.1 r75.2.2.2.2.2.2.2.2.2.2).bind fun (r118 : LL × Int) =>
 if (cop .neq r118.2 0) = true then
 some (x0, 1)
 else
 some (r118.1, 0)) := by kernel_rfl
noncomputable def F75 : Fn := ⟨8, [3], [], [1], 0, [], [], Tryz.f75, [.agg [.int .i64, .int .i64, .int .i64, .int .i64], .box [.int .i64]], [.c (.bool)], []⟩
theorem ok75 : F75.S.Ok Tryz.prog 75 := F75.ok Tryz.func75 (by kernel_rfl) trivial
noncomputable def g75 (x0 x1 x2 x3 x4 : Int) : Option (Bool × Int) := F75.S.g [.i x0, .i x1, .i x2, .i x3, .i x4]
theorem g75_eq (x0 x1 x2 x3 x4 : Int) : g75 x0 x1 x2 x3 x4 =
 (some ((cop .eql x0 x4), x4)) := by kernel_rfl
noncomputable def F135c75 : Fn := ⟨19, [4], [(2, [(0, .c (.slice 4)), (1, .clo 75 [19]), (7, .c (.int .i64)), (8, .c (.int .i64)), (19, .gbox [.int .i64])])], [], 1, [], [], Tryz.f135, [.c (.slice 4), .clo 75 [19], .dead, .dead, .dead, .dead, .dead, .dead, .dead, .dead, .dead, .dead, .dead, .dead, .dead, .dead, .dead, .dead, .dead, .gbox [.int .i64]], [.c (.int .i64)], [(75, F75.S)]⟩
theorem ok135c75 : F135c75.S.Ok Tryz.prog 135 := F135c75.ok Tryz.func135 (by kernel_rfl) ⟨ok75, trivial⟩
noncomputable def g135c75 (x0 : LL) (x1 : Int) : Option (Int × Int) := F135c75.S.g [.l x0, .i x1]
noncomputable def g135c75L0 (k : Nat) (x0 : LL) (x1 x2 x3 : Int) : Option (Int × Int) := F135c75.lp [0] 0 r0 k [.l x0, .i x1, .i x2, .i x3]
theorem g135c75L0_eq (k : Nat) (x0 : LL) (x1 x2 x3 : Int) : g135c75L0 (k + 1) x0 x1 x2 x3 =
 (if (cop .lss x2 x1) = true then
 elemK x0 x2 [.int .i64, .int .i64, .int .i64, .int .i64] fun (r4 : Int × Int × Int × Int) =>
 (g75 r4.1 r4.2.1 r4.2.2.1 r4.2.2.2 x3).bind fun (r8 : Bool × Int) =>
 if r8.1 = true then
 some (x2, r8.2)
 else
 g135c75L0 k x0 x1 (iop .add .i64 x2 1) r8.2
 else
 some ((-1), x3)) := by kernel_rfl
theorem g135c75_eq (x0 : LL) (x1 : Int) : g135c75 x0 x1 =
 (g135c75L0 FUEL x0 (List.length x0 : Int) 0 x1) := by kernel_rfl
noncomputable def F74c75 : Fn := ⟨42, [4], [(5, [(0, .c (.own true 62)), (1, .clo 75 [42]), (5, .c (.int .i64)), (6, .c (.int .i64)), (42, .gbox [.int .i64])])], [], 1, [4], [], Tryz.f74, [.c (.own true 62), .clo 75 [42], .dead, .dead, .dead, .dead, .dead, .dead, .dead, .dead, .dead, .dead, .dead, .dead, .dead, .dead, .dead, .dead, .dead, .dead, .dead, .dead, .dead, .dead, .dead, .dead, .dead, .dead, .dead, .dead, .dead, .dead, .dead, .dead, .dead, .dead, .dead, .dead, .dead, .dead, .dead, .dead, .gbox [.int .i64]], [.c (.own true 62)], [(135, F135c75.S), (75, F75.S)]⟩
theorem ok74c75 : F74c75.S.Ok Tryz.prog 74 := F74c75.ok Tryz.func74 (by kernel_rfl) ⟨ok135c75, ⟨ok75, trivial⟩⟩
noncomputable def g74c75 (x0 : LL) (x1 : Int) : Option (LL × Int) := F74c75.S.g [.l x0, .i x1]
noncomputable def g74c75L0 (k : Nat) (x0 : LL) (x1 x2 x3 : Int) : Option (LL × Int) := F74c75.lp [0, 1, 0] 0 r0 k [.l x0, .i x1, .i x2, .i x3]
theorem g74c75L0_eq (k : Nat) (x0 : LL) (x1 x2 x3 : Int) : g74c75L0 (k + 1) x0 x1 x2 x3 =
 (if (cop .lss x2 (List.length x0 : Int)) = true then
 reqK ((0 : Int) ≤ x2) <|
 reqK ((x2 : Int) < (List.length x0 : Int)) <|
 elemK x0 x2 [.int .i64, .int .i64, .int .i64, .int .i64] fun (r4 : Int × Int × Int × Int) =>
 (g75 r4.1 r4.2.1 r4.2.2.1 r4.2.2.2 x3).bind fun (r8 : Bool × Int) =>
 if (!r8.1) = true then
 reqK ((0 : Int) ≤ x1) <|
 reqK ((x1 : Int) < (List.length x0 : Int)) <|
 reqK ((0 : Int) ≤ x1) <|
 reqK ((x1 : Int) < (List.length x0 : Int)) <|
 g74c75L0 k (setElem x0 (Int.toNat x1) 0 [AV.val (.int .i64 r4.1), AV.val (.int .i64 r4.2.1), AV.val (.int .i64 r4.2.2.1), AV.val (.int .i64 r4.2.2.2)]) (iop .add .i64 x1 1) (iop .add .i64 x2 1) r8.2
 else
 g74c75L0 k x0 x1 (iop .add .i64 x2 1) r8.2
 else
 reqK ((0 : Int) ≤ x1) <|
 reqK ((x1 : Int) ≤ (List.length x0 : Int)) <|
 reqK ((0 : Int) ≤ x1) <|
 reqK ((x1 : Int) ≤ (List.length ((List.take (Int.toNat x1) x0) ++ (List.replicate (Int.toNat (iop .sub .i64 (List.length x0 : Int) x1)) [AV.val (.int .i64 0), AV.val (.int .i64 0), AV.val (.int .i64 0), AV.val (.int .i64 0)])) : Int)) <|
 some ((List.take (Int.toNat x1) ((List.take (Int.toNat x1) x0) ++ (List.replicate (Int.toNat (iop .sub .i64 (List.length x0 : Int) x1)) [AV.val (.int .i64 0), AV.val (.int .i64 0), AV.val (.int .i64 0), AV.val (.int .i64 0)]))), x3)) := by kernel_rfl
theorem g74c75_eq (x0 : LL) (x1 : Int) : g74c75 x0 x1 =
 ((g135c75 x0 x1).bind fun (r2 : Int × Int) =>
 if (cop .eql r2.1 (-1)) = true then
 some (x0, r2.2)
 else
 g74c75L0 FUEL x0 r2.1 (iop .add .i64 r2.1 1) r2.2) := by kernel_rfl
noncomputable def F42 : Fn := ⟨8, [4], [], [], 0, [4], [], Tryz.f42, [.c (.own true 62), .c (.int .i64)], [.c (.own true 62)], [(74, F74c75.S)]⟩
theorem ok42 : F42.S.Ok Tryz.prog 42 := F42.ok Tryz.func42 (by kernel_rfl) ⟨ok74c75, trivial⟩
noncomputable def g42 (x0 : LL) (x1 : Int) : Option (LL) := F42.S.g [.l x0, .i x1]
theorem g42_eq (x0 : LL) (x1 : Int) : g42 x0 x1 =
 ((g74c75 x0 x1).bind fun (r2 : LL × Int) =>
 some (r2.1)) := by kernel_rfl
noncomputable def F43 : Fn := ⟨39, [6], [(3, [(1, .c (.slice 3)), (5, .box [.int .i64, .int .i64, .int .i64]), (7, .c (.own true 60)), (12, .c (.int .i64)), (13, .c (.int .i64))])], [], 0, [6], [], Tryz.f43, [.c (.slice 15), .c (.slice 3), .agg [.int .i64, .int .i64, .int .i64]], [.c (.own true 60)], [(38, F38.S), (72, F72.S), (76, F76.S)]⟩
theorem ok43 : F43.S.Ok Tryz.prog 43 := F43.ok Tryz.func43 (by kernel_rfl) ⟨ok38, ⟨ok72, ⟨ok76, trivial⟩⟩⟩
noncomputable def g43 (x0 x1 : LL) (x2 x3 x4 : Int) : Option (LL) := F43.S.g [.l x0, .l x1, .i x2, .i x3, .i x4]
noncomputable def g43L0 (k : Nat) (x0 : LL) (x1 x2 x3 : Int) (x4 : LL) (x5 x6 : Int) : Option (LL) := F43.lp [2] 0 r0 k [.l x0, .i x1, .i x2, .i x3, .l x4, .i x5, .i x6]
theorem g43L0_eq (k : Nat) (x0 : LL) (x1 x2 x3 : Int) (x4 : LL) (x5 x6 : Int) : g43L0 (k + 1) x0 x1 x2 x3 x4 x5 x6 =
 (if (cop .lss x6 x5) = true then
 reqK ((0 : Int) ≤ x6) <|
 reqK ((x6 : Int) < (List.length x4 : Int)) <|
 elemK x4 x6 hs6 fun (r7 : Qt11) =>
 (g72 r7.1 r7.2.1 r7.2.2.1 r7.2.2.2.1 r7.2.2.2.2.1 r7.2.2.2.2.2.1 r7.2.2.2.2.2.2.1 r7.2.2.2.2.2.2.2.1 r7.2.2.2.2.2.2.2.2.1 r7.2.2.2.2.2.2.2.2.2.1 r7.2.2.2.2.2.2.2.2.2.2.1 r7.2.2.2.2.2.2.2.2.2.2.2.1 (d4 (d8 r7)).1 (d4 (d8 r7)).2.1 (d2 (d4 (d8 r7)))).bind fun (r22 : Bool) =>
 if (!r22) = true then
 reqK ((0 : Int) ≤ x6) <|
 reqK ((x6 : Int) < (List.length x4 : Int)) <|
 elemK x4 x6 hs6 fun (r23 : Qt11) =>
 (g76 x0 r23.1 r23.2.1 r23.2.2.1).bind fun (r38 : Bool) =>
 if r38 = true then
 reqK ((0 : Int) ≤ x6) <|
 reqK ((x6 : Int) < (List.length x4 : Int)) <|
 reqK ((0 : Int) ≤ x6) <|
 reqK ((x6 : Int) < (List.length x4 : Int)) <|
 g43L0 k x0 x1 x2 x3 (setElem x4 (Int.toNat x6) 12 [AV.val (.int .i64 x1), AV.val (.int .i64 x2), AV.val (.int .i64 x3)]) x5 (iop .add .i64 x6 1)
 else
 g43L0 k x0 x1 x2 x3 x4 x5 (iop .add .i64 x6 1)
 else
 g43L0 k x0 x1 x2 x3 x4 x5 (iop .add .i64 x6 1)
 else
 some (x4)) := by kernel_rfl
theorem g43_eq (x0 x1 : LL) (x2 x3 x4 : Int) : g43 x0 x1 x2 x3 x4 =
 ((g38 x0).bind fun (r5 : LL) =>
 g43L0 FUEL x1 x2 x3 x4 r5 (List.length r5 : Int) 0) := by kernel_rfl
noncomputable def F77.S : Fun := insF false 62 32
theorem ok77 : F77.S.Ok Tryz.prog 77 := insF_ok (T := 30) (B := 4) (I := 3) (e := 62) (fO := 137) (fR := 138) mixed (by kernel_rfl) Tryz.func77 (by kernel_rfl) ⟨by kernel_rfl, by kernel_rfl, by kernel_rfl⟩ Tryz.func137 (by kernel_rfl) (by kernel_rfl) (by kernel_rfl) (by kernel_rfl)
noncomputable def g77 (x0 : LL) (x1 : Int) (x2 : LL) : Option LL := F77.S.g [.l x0, .i x1, .l x2]
theorem g77_eq (x0 : LL) (x1 : Int) (x2 : LL) : g77 x0 x1 x2 = gIns 32 x0 x1 x2 := rfl
noncomputable def F44 : Fn := ⟨31, [4], [(3, [(0, .c (.own true 62)), (3, .box [.int .i64, .int .i64, .int .i64, .int .i64]), (5, .c (.int .i64))])], [], 0, [], [], Tryz.f44, [.c (.own true 62), .agg [.int .i64, .int .i64, .int .i64, .int .i64]], [.c (.own false 62)], [(42, F42.S), (77, F77.S)]⟩
theorem ok44 : F44.S.Ok Tryz.prog 44 := F44.ok Tryz.func44 (by kernel_rfl) ⟨ok42, ⟨ok77, trivial⟩⟩
noncomputable def g44 (x0 : LL) (x1 x2 x3 x4 : Int) : Option (LL) := F44.S.g [.l x0, .i x1, .i x2, .i x3, .i x4]
noncomputable def g44L0 (k : Nat) (x0 : LL) (x1 x2 x3 x4 x5 : Int) : Option (LL) := F44.lp [2] 0 r0 k [.l x0, .i x1, .i x2, .i x3, .i x4, .i x5]
theorem g44L0_eq (k : Nat) (x0 : LL) (x1 x2 x3 x4 x5 : Int) : g44L0 (k + 1) x0 x1 x2 x3 x4 x5 =
 (if (cop .lss x5 (List.length x0 : Int)) = true then
 reqK ((0 : Int) ≤ x5) <|
 reqK ((x5 : Int) < (List.length x0 : Int)) <|
 elemK x0 x5 [.int .i64, .int .i64, .int .i64, .int .i64] fun (r6 : Int × Int × Int × Int) =>
 if (cop .lss r6.1 x1) = true then
 g44L0 k x0 x1 x2 x3 x4 (iop .add .i64 x5 1)
 else
 (g77 x0 x5 (([] : LL) ++ [[AV.val (.int .i64 x1), AV.val (.int .i64 x2), AV.val (.int .i64 x3), AV.val (.int .i64 x4)]])).bind fun (r10 : LL) =>
 some (r10)
 else
 (g77 x0 x5 (([] : LL) ++ [[AV.val (.int .i64 x1), AV.val (.int .i64 x2), AV.val (.int .i64 x3), AV.val (.int .i64 x4)]])).bind fun (r6 : LL) =>
 some (r6)) := by kernel_rfl
theorem g44_eq (x0 : LL) (x1 x2 x3 x4 : Int) : g44 x0 x1 x2 x3 x4 =
 ((g42 x0 x1).bind fun (r5 : LL) =>
 g44L0 FUEL r5 x1 x2 x3 x4 0) := by kernel_rfl
noncomputable def F45 : Fn := ⟨57, [4, 5], [(6, [(3, .box [.int .i64, .int .i64, .int .i64]), (6, .c (.own true 60)), (7, .c (.own true 37)), (16, .c (.int .i64)), (17, .c (.int .i64))])], [], 0, [4, 5, 7, 43], [], Tryz.f45, [.c (.slice 15), .agg [.int .i64, .int .i64, .int .i64]], [.c (.own true 60), .c (.own true 37)], [(38, F38.S), (72, F72.S)]⟩
theorem ok45 : F45.S.Ok Tryz.prog 45 := F45.ok Tryz.func45 (by kernel_rfl) ⟨ok38, ⟨ok72, trivial⟩⟩
noncomputable def g45 (x0 : LL) (x1 x2 x3 : Int) : Option (LL × LL) := F45.S.g [.l x0, .i x1, .i x2, .i x3]
noncomputable def g45L0 (k : Nat) (x0 x1 x2 : Int) (x3 x4 : LL) (x5 x6 : Int) : Option (LL × LL) := F45.lp [0, 1, 0] 0 r0 k [.i x0, .i x1, .i x2, .l x3, .l x4, .i x5, .i x6]
theorem g45L0_eq (k : Nat) (x0 x1 x2 : Int) (x3 x4 : LL) (x5 x6 : Int) : g45L0 (k + 1) x0 x1 x2 x3 x4 x5 x6 =
 (if (cop .lss x6 x5) = true then
 reqK ((0 : Int) ≤ x6) <|
 reqK ((x6 : Int) < (List.length x3 : Int)) <|
 elemK x3 x6 hs6 fun (r7 : Qt11) =>
 (g72 r7.1 r7.2.1 r7.2.2.1 r7.2.2.2.1 r7.2.2.2.2.1 r7.2.2.2.2.2.1 r7.2.2.2.2.2.2.1 r7.2.2.2.2.2.2.2.1 r7.2.2.2.2.2.2.2.2.1 r7.2.2.2.2.2.2.2.2.2.1 r7.2.2.2.2.2.2.2.2.2.2.1 r7.2.2.2.2.2.2.2.2.2.2.2.1 (d4 (d8 r7)).1 (d4 (d8 r7)).2.1 (d2 (d4 (d8 r7)))).bind fun (r22 : Bool) =>
 if (!r22) = true then
 reqK ((0 : Int) ≤ x6) <|
 reqK ((x6 : Int) < (List.length x3 : Int)) <|
 elemK x3 x6 hs6 fun (r23 : Qt11) =>
 if ((cop .eql (d4 (d8 r23)).1 x0) && ((cop .eql (d4 (d8 r23)).2.1 x1) && ((cop .eql (d2 (d4 (d8 r23))) x2) && true))) = true then
 reqK ((0 : Int) ≤ x6) <|
 reqK ((x6 : Int) < (List.length x3 : Int)) <|
 elemK x3 x6 hs6 fun (r38 : Qt11) =>
 reqK (roomP x4 (([] : LL) ++ [[AV.val (.int .i64 r38.1), AV.val (.int .i64 r38.2.1), AV.val (.int .i64 r38.2.2.1)]]) 24) <|
 reqK ((0 : Int) ≤ x6) <|
 reqK ((x6 : Int) < (List.length x3 : Int)) <|
 reqK ((0 : Int) ≤ x6) <|
 reqK ((x6 : Int) < (List.length x3 : Int)) <|
 reqK ((0 : Int) ≤ x6) <|
 reqK ((x6 : Int) < (List.length (setElem x3 (Int.toNat x6) 0 [AV.val (.int .i64 0), AV.val (.int .i64 0), AV.val (.int .i64 0), AV.slice false 3 ([] : LL), AV.val (.int .i64 0), AV.val (.int .i64 0), AV.val (.int .i64 0), AV.val (.int .i64 0), AV.val (.int .i64 0), AV.val (.int .i64 0), AV.val (.bool false)]) : Int)) <|
 reqK ((0 : Int) ≤ x6) <|
 reqK ((x6 : Int) < (List.length (setElem x3 (Int.toNat x6) 0 [AV.val (.int .i64 0), AV.val (.int .i64 0), AV.val (.int .i64 0), AV.slice false 3 ([] : LL), AV.val (.int .i64 0), AV.val (.int .i64 0), AV.val (.int .i64 0), AV.val (.int .i64 0), AV.val (.int .i64 0), AV.val (.int .i64 0), AV.val (.bool false)]) : Int)) <|
 g45L0 k x0 x1 x2 (setElem (setElem x3 (Int.toNat x6) 0 [AV.val (.int .i64 0), AV.val (.int .i64 0), AV.val (.int .i64 0), AV.slice false 3 ([] : LL), AV.val (.int .i64 0), AV.val (.int .i64 0), AV.val (.int .i64 0), AV.val (.int .i64 0), AV.val (.int .i64 0), AV.val (.int .i64 0), AV.val (.bool false)]) (Int.toNat x6) 12 [AV.val (.int .i64 0), AV.val (.int .i64 0), AV.val (.int .i64 0)]) (x4 ++ (([] : LL) ++ [[AV.val (.int .i64 r38.1), AV.val (.int .i64 r38.2.1), AV.val (.int .i64 r38.2.2.1)]])) x5 (iop .add .i64 x6 1)
 else
 g45L0 k x0 x1 x2 x3 x4 x5 (iop .add .i64 x6 1)
 else
 g45L0 k x0 x1 x2 x3 x4 x5 (iop .add .i64 x6 1)
 else
 some (x3, x4)) := by kernel_rfl
theorem g45_eq (x0 : LL) (x1 x2 x3 : Int) : g45 x0 x1 x2 x3 =
 ((g38 x0).bind fun (r4 : LL) =>
 if ((cop .eql x1 0) && ((cop .eql x2 0) && ((cop .eql x3 0) && true))) = true then
 some (r4, ([] : LL))
 else
 g45L0 FUEL x1 x2 x3 r4 ([] : LL) (List.length r4 : Int) 0) := by kernel_rfl
noncomputable def F15 : Fn := ⟨105, [8, 9, 10, 11], [], [], 0, [], [(10, [(12, 0)]), (16, [(12, 0)]), (22, [(12, 0)]), (3, [(13, 0), (12, 0)]), (7, [(13, 0), (12, 0)]), (23, [(13, 0), (12, 0)])], Tryz.f15, [.c (.int .i64), .c (.slice 15), .c (.slice 4), .agg hs0], [.c (.slice 15), .c (.slice 4), .c (.slice 74), .c (.slice 4)], [(38, F38.S), (39, F39.S), (40, F40.S), (41, F41.S), (42, F42.S), (43, F43.S), (44, F44.S), (45, F45.S)]⟩
theorem ok15 : F15.S.Ok Tryz.prog 15 := F15.ok Tryz.func15 (by kernel_rfl) ⟨ok38, ⟨ok39, ⟨ok40, ⟨ok41, ⟨ok42, ⟨ok43, ⟨ok44, ⟨ok45, trivial⟩⟩⟩⟩⟩⟩⟩⟩
noncomputable def g15 (x0 : Int) (x1 x2 : LL) (x3 x4 x5 x6 x7 x8 x9 x10 x11 x12 x13 : Int) (x14 : Bool) (x15 x16 x17 x18 x19 x20 x21 x22 x23 x24 x25 x26 x27 x28 x29 x30 x31 x32 x33 x34 : Int) (x35 : LL) (x36 x37 x38 x39 x40 x41 : Int) (x42 : Bool) (x43 x44 x45 x46 : LL) (x47 x48 : Int) (x49 x50 x51 x52 x53 x54 x55 x56 : LL) (x57 x58 : Int) (x59 x60 x61 x62 x63 x64 x65 x66 : LL) (x67 : Bool) (x68 : Int) (x69 x70 x71 x72 x73 x74 x75 x76 : LL) : Option (LL × LL × LL × LL) := F15.S.g [.i x0, .l x1, .l x2, .i x3, .i x4, .i x5, .i x6, .i x7, .i x8, .i x9, .i x10, .i x11, .i x12, .i x13, .b x14, .i x15, .i x16, .i x17, .i x18, .i x19, .i x20, .i x21, .i x22, .i x23, .i x24, .i x25, .i x26, .i x27, .i x28, .i x29, .i x30, .i x31, .i x32, .i x33, .i x34, .l x35, .i x36, .i x37, .i x38, .i x39, .i x40, .i x41, .b x42, .l x43, .l x44, .l x45, .l x46, .i x47, .i x48, .l x49, .l x50, .l x51, .l x52, .l x53, .l x54, .l x55, .l x56, .i x57, .i x58, .l x59, .l x60, .l x61, .l x62, .l x63, .l x64, .l x65, .l x66, .b x67, .i x68, .l x69, .l x70, .l x71, .l x72, .l x73, .l x74, .l x75, .l x76]
theorem g15_eq (x0 : Int) (x1 x2 : LL) (x3 x4 x5 x6 x7 x8 x9 x10 x11 x12 x13 : Int) (x14 : Bool) (x15 x16 x17 x18 x19 x20 x21 x22 x23 x24 x25 x26 x27 x28 x29 x30 x31 x32 x33 x34 : Int) (x35 : LL) (x36 x37 x38 x39 x40 x41 : Int) (x42 : Bool) (x43 x44 x45 x46 : LL) (x47 x48 : Int) (x49 x50 x51 x52 x53 x54 x55 x56 : LL) (x57 x58 : Int) (x59 x60 x61 x62 x63 x64 x65 x66 : LL) (x67 : Bool) (x68 : Int) (x69 x70 x71 x72 x73 x74 x75 x76 : LL) : g15 x0 x1 x2 x3 x4 x5 x6 x7 x8 x9 x10 x11 x12 x13 x14 x15 x16 x17 x18 x19 x20 x21 x22 x23 x24 x25 x26 x27 x28 x29 x30 x31 x32 x33 x34 x35 x36 x37 x38 x39 x40 x41 x42 x43 x44 x45 x46 x47 x48 x49 x50 x51 x52 x53 x54 x55 x56 x57 x58 x59 x60 x61 x62 x63 x64 x65 x66 x67 x68 x69 x70 x71 x72 x73 x74 x75 x76 =
 ((g38 x1).bind fun (r77 : LL) =>
 (g39 x2).bind fun (r78 : LL) =>
 (g40 x3 x4 x5 x6 x7 x8 x9 x10 x11 x12 x13 x14 x15 x16 x17 x18 x19 x20 x21 x22 x23 x24 x25 x26 x27 x28 x29 x30 x31 x32 x33 x34 x35 x36 x37 x38 x39 x40 x41 x42 x43 x44 x45 x46 x47 x48 x49 x50 x51 x52 x53 x54 x55 x56 x57 x58 x59 x60 x61 x62 x63 x64 x65 x66 x67 x68 x69 x70 x71 x72 x73 x74 x75 x76).bind fun (r79 : Bool) =>
 if (!r79) = true then
 some (r77, r78, ([] : LL), ([] : LL))
 else
 if (cop .neq x6 x0) = true then
 some (r77, r78, ([] : LL), ([] : LL))
 else
 if (cop .eql x3 4) = true then
 (g41 r77 x3 x4 x5 x6 x7 x8 x9 x10 x11 x12 x13 x14 x15 x16 x17 x18 x19 x20 x21 x22 x23 x24 x25 x26 x27 x28 x29 x30 x31 x32 x33 x34 x35 x36 x37 x38 x39 x40 x41 x42 x43 x44 x45 x46 x47 x48 x49 x50 x51 x52 x53 x54 x55 x56 x57 x58 x59 x60 x61 x62 x63 x64 x65 x66 x67 x68 x69 x70 x71 x72 x73 x74 x75 x76).bind fun (r80 : LL × Int) =>
 if (cop .eql r80.2 0) = true then
 some (r80.1, r78, (([] : LL) ++ [[I 5, I 0, I 0, I x5, I 0, I x8, I 0, I x10, I x11, I x12, I r80.2, AV.val (.bool false), I 0, I 0, I 0, I 0, I 0, I 0, I 0, I 0, I 0, I 0, I 0, I 0, I 0, I 0, I 0, I 0, I 0, I 0, I 0, I 0, AV.slice false 3 ([] : LL), I 0, I 0, I 0, I 0, I 0, I 0, AV.val (.bool false), AV.slice false 3 ([] : LL), AV.slice false 11 ([] : LL), AV.slice false 1 ([] : LL), AV.slice false 2 ([] : LL), I 0, I 0, AV.slice false 1 ([] : LL), AV.slice false 1 ([] : LL), AV.slice false 15 ([] : LL), AV.slice false 28 ([] : LL), AV.slice false 4 ([] : LL), AV.slice false 2 ([] : LL), AV.slice false 13 ([] : LL), AV.slice false 3 ([] : LL), I 0, I 0, AV.slice false 1 ([] : LL), AV.slice false 1 ([] : LL), AV.slice false 15 ([] : LL), AV.slice false 28 ([] : LL), AV.slice false 4 ([] : LL), AV.slice false 2 ([] : LL), AV.slice false 13 ([] : LL), AV.slice false 3 ([] : LL), AV.val (.bool false), I 0, AV.slice false 1 ([] : LL), AV.slice false 1 ([] : LL), AV.slice false 15 ([] : LL), AV.slice false 28 ([] : LL), AV.slice false 4 ([] : LL), AV.slice false 2 ([] : LL), AV.slice false 13 ([] : LL), AV.slice false 3 ([] : LL)]]), (([] : LL) ++ [[AV.val (.int .i64 x10), AV.val (.int .i64 x11), AV.val (.int .i64 x12), AV.val (.bool (cop .eql r80.2 0))]]))
 else
 if (cop .eql r80.2 3) = true then
 some (r80.1, r78, (([] : LL) ++ [[I 5, I 0, I 0, I x5, I 0, I x8, I 0, I x10, I x11, I x12, I r80.2, AV.val (.bool false), I 0, I 0, I 0, I 0, I 0, I 0, I 0, I 0, I 0, I 0, I 0, I 0, I 0, I 0, I 0, I 0, I 0, I 0, I 0, I 0, AV.slice false 3 ([] : LL), I 0, I 0, I 0, I 0, I 0, I 0, AV.val (.bool false), AV.slice false 3 ([] : LL), AV.slice false 11 ([] : LL), AV.slice false 1 ([] : LL), AV.slice false 2 ([] : LL), I 0, I 0, AV.slice false 1 ([] : LL), AV.slice false 1 ([] : LL), AV.slice false 15 ([] : LL), AV.slice false 28 ([] : LL), AV.slice false 4 ([] : LL), AV.slice false 2 ([] : LL), AV.slice false 13 ([] : LL), AV.slice false 3 ([] : LL), I 0, I 0, AV.slice false 1 ([] : LL), AV.slice false 1 ([] : LL), AV.slice false 15 ([] : LL), AV.slice false 28 ([] : LL), AV.slice false 4 ([] : LL), AV.slice false 2 ([] : LL), AV.slice false 13 ([] : LL), AV.slice false 3 ([] : LL), AV.val (.bool false), I 0, AV.slice false 1 ([] : LL), AV.slice false 1 ([] : LL), AV.slice false 15 ([] : LL), AV.slice false 28 ([] : LL), AV.slice false 4 ([] : LL), AV.slice false 2 ([] : LL), AV.slice false 13 ([] : LL), AV.slice false 3 ([] : LL)]]), (([] : LL) ++ [[AV.val (.int .i64 x10), AV.val (.int .i64 x11), AV.val (.int .i64 x12), AV.val (.bool (cop .eql r80.2 0))]]))
 else
 some (r80.1, r78, (([] : LL) ++ [[I 5, I 0, I 0, I x5, I 0, I x8, I 0, I x10, I x11, I x12, I r80.2, AV.val (.bool false), I 0, I 0, I 0, I 0, I 0, I 0, I 0, I 0, I 0, I 0, I 0, I 0, I 0, I 0, I 0, I 0, I 0, I 0, I 0, I 0, AV.slice false 3 ([] : LL), I 0, I 0, I 0, I 0, I 0, I 0, AV.val (.bool false), AV.slice false 3 ([] : LL), AV.slice false 11 ([] : LL), AV.slice false 1 ([] : LL), AV.slice false 2 ([] : LL), I 0, I 0, AV.slice false 1 ([] : LL), AV.slice false 1 ([] : LL), AV.slice false 15 ([] : LL), AV.slice false 28 ([] : LL), AV.slice false 4 ([] : LL), AV.slice false 2 ([] : LL), AV.slice false 13 ([] : LL), AV.slice false 3 ([] : LL), I 0, I 0, AV.slice false 1 ([] : LL), AV.slice false 1 ([] : LL), AV.slice false 15 ([] : LL), AV.slice false 28 ([] : LL), AV.slice false 4 ([] : LL), AV.slice false 2 ([] : LL), AV.slice false 13 ([] : LL), AV.slice false 3 ([] : LL), AV.val (.bool false), I 0, AV.slice false 1 ([] : LL), AV.slice false 1 ([] : LL), AV.slice false 15 ([] : LL), AV.slice false 28 ([] : LL), AV.slice false 4 ([] : LL), AV.slice false 2 ([] : LL), AV.slice false 13 ([] : LL), AV.slice false 3 ([] : LL)]]), ([] : LL))
 else
 if (cop .eql x3 6) = true then
 (g42 r78 x8).bind fun (r80 : LL) =>
 (g43 r77 x43 x10 x11 x12).bind fun (r81 : LL) =>
 some (r81, r80, (([] : LL) ++ [[I 7, I 0, I 0, I x5, I 0, I x8, I 0, I x10, I x11, I x12, I 0, AV.val (.bool false), I 0, I 0, I 0, I 0, I 0, I 0, I 0, I 0, I 0, I 0, I 0, I 0, I 0, I 0, I 0, I 0, I 0, I 0, I 0, I 0, AV.slice false 3 ([] : LL), I 0, I 0, I 0, I 0, I 0, I 0, AV.val (.bool false), AV.slice false 3 ([] : LL), AV.slice false 11 ([] : LL), AV.slice false 1 ([] : LL), AV.slice false 2 ([] : LL), I 0, I 0, AV.slice false 1 ([] : LL), AV.slice false 1 ([] : LL), AV.slice false 15 ([] : LL), AV.slice false 28 ([] : LL), AV.slice false 4 ([] : LL), AV.slice false 2 ([] : LL), AV.slice false 13 ([] : LL), AV.slice false 3 ([] : LL), I 0, I 0, AV.slice false 1 ([] : LL), AV.slice false 1 ([] : LL), AV.slice false 15 ([] : LL), AV.slice false 28 ([] : LL), AV.slice false 4 ([] : LL), AV.slice false 2 ([] : LL), AV.slice false 13 ([] : LL), AV.slice false 3 ([] : LL), AV.val (.bool false), I 0, AV.slice false 1 ([] : LL), AV.slice false 1 ([] : LL), AV.slice false 15 ([] : LL), AV.slice false 28 ([] : LL), AV.slice false 4 ([] : LL), AV.slice false 2 ([] : LL), AV.slice false 13 ([] : LL), AV.slice false 3 ([] : LL)]]), ([] : LL))
 else
 if (cop .eql x3 8) = true then
 (g44 r78 x8 x10 x11 x12).bind fun (r80 : LL) =>
 some (r77, r80, (([] : LL) ++ [[I 9, I 0, I 0, I x5, I 0, I x8, I 0, I x10, I x11, I x12, I 0, AV.val (.bool false), I 0, I 0, I 0, I 0, I 0, I 0, I 0, I 0, I 0, I 0, I 0, I 0, I 0, I 0, I 0, I 0, I 0, I 0, I 0, I 0, AV.slice false 3 ([] : LL), I 0, I 0, I 0, I 0, I 0, I 0, AV.val (.bool false), AV.slice false 3 ([] : LL), AV.slice false 11 ([] : LL), AV.slice false 1 ([] : LL), AV.slice false 2 ([] : LL), I 0, I 0, AV.slice false 1 ([] : LL), AV.slice false 1 ([] : LL), AV.slice false 15 ([] : LL), AV.slice false 28 ([] : LL), AV.slice false 4 ([] : LL), AV.slice false 2 ([] : LL), AV.slice false 13 ([] : LL), AV.slice false 3 ([] : LL), I 0, I 0, AV.slice false 1 ([] : LL), AV.slice false 1 ([] : LL), AV.slice false 15 ([] : LL), AV.slice false 28 ([] : LL), AV.slice false 4 ([] : LL), AV.slice false 2 ([] : LL), AV.slice false 13 ([] : LL), AV.slice false 3 ([] : LL), AV.val (.bool false), I 0, AV.slice false 1 ([] : LL), AV.slice false 1 ([] : LL), AV.slice false 15 ([] : LL), AV.slice false 28 ([] : LL), AV.slice false 4 ([] : LL), AV.slice false 2 ([] : LL), AV.slice false 13 ([] : LL), AV.slice false 3 ([] : LL)]]), ([] : LL))
 else
 if (cop .eql x3 10) = true then
 (g45 r77 x10 x11 x12).bind fun (r80 : LL × LL) =>
 some (r80.1, r78, (([] : LL) ++ [[I 11, I 0, I 0, I x5, I 0, I x8, I 0, I x10, I x11, I x12, I 0, AV.val (.bool false), I 0, I 0, I 0, I 0, I 0, I 0, I 0, I 0, I 0, I 0, I 0, I 0, I 0, I 0, I 0, I 0, I 0, I 0, I 0, I 0, AV.slice false 3 ([] : LL), I 0, I 0, I 0, I 0, I 0, I 0, AV.val (.bool false), AV.slice false 3 ([] : LL), AV.slice false 11 ([] : LL), AV.slice false 1 ([] : LL), AV.slice false 2 ([] : LL), I 0, I 0, AV.slice false 1 ([] : LL), AV.slice false 1 ([] : LL), AV.slice false 15 ([] : LL), AV.slice false 28 ([] : LL), AV.slice false 4 ([] : LL), AV.slice false 2 ([] : LL), AV.slice false 13 ([] : LL), AV.slice false 3 ([] : LL), I 0, I 0, AV.slice false 1 ([] : LL), AV.slice false 1 ([] : LL), AV.slice false 15 ([] : LL), AV.slice false 28 ([] : LL), AV.slice false 4 ([] : LL), AV.slice false 2 ([] : LL), AV.slice false 13 ([] : LL), AV.slice false 3 ([] : LL), AV.val (.bool false), I 0, AV.slice false 1 ([] : LL), AV.slice false 1 ([] : LL), AV.slice false 15 ([] : LL), AV.slice false 28 ([] : LL), AV.slice false 4 ([] : LL), AV.slice false 2 ([] : LL), AV.slice false 13 ([] : LL), AV.slice false 3 ([] : LL)]]), ([] : LL))
 else
 some (r77, r78, ([] : LL), ([] : LL))) := by kernel_rfl
noncomputable def F37 : Fn := ⟨27, [4], [(4, [(0, .c (.slice 74)), (1, .c (.slice 74)), (5, .c (.int .i64))])], [], 0, [], [], Tryz.f37, [.c (.slice 74), .c (.slice 74)], [.c (.bool)], [(62, F62.S)]⟩
end Go.Proofs.YtljejgmcgddppaaGreat
