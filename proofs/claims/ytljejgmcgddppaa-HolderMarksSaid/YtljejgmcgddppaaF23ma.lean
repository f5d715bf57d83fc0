/- Functions of the program, as what they compute. -/
import Derived.Test.YtljejgmcgddppaaG23m
namespace Go.Proofs.Ytljejgmcgddppaa
open Go Go.AM
set_option linter.unusedVariables false
set_option maxRecDepth 100000
noncomputable def F18 : Fn := ⟨44, [2, 3], [], [], 0, [], [], Try.f18, [.c (.int .i64)], [.c (.own false 80), .c (.bool)], []⟩
theorem ok18 : F18.S.Ok Try.prog 18 := F18.ok Try.func18 (by kernel_rfl) trivial
noncomputable def g18 (x0 : Int) : Option (LL × Bool) := F18.S.g [.i x0]
theorem g18_eq (x0 : Int) : g18 x0 =
 (if (cop .eql x0 1) = true then
 some (((([] : LL) ++ [[AV.val (.int .i64 0)]]) ++ [[AV.val (.int .i64 1)]]), true)
 else
 if (cop .eql x0 2) = true then
 some ((((((([] : LL) ++ [[AV.val (.int .i64 0)]]) ++ [[AV.val (.int .i64 2)]]) ++ [[AV.val (.int .i64 3)]]) ++ [[AV.val (.int .i64 4)]]) ++ [[AV.val (.int .i64 5)]]), true)
 else
 if (cop .eql x0 3) = true then
 some (((([] : LL) ++ [[AV.val (.int .i64 0)]]) ++ [[AV.val (.int .i64 2)]]), true)
 else
 if (cop .eql x0 7) = true then
 some (((([] : LL) ++ [[AV.val (.int .i64 0)]]) ++ [[AV.val (.int .i64 2)]]), true)
 else
 if (cop .eql x0 8) = true then
 some (((([] : LL) ++ [[AV.val (.int .i64 0)]]) ++ [[AV.val (.int .i64 2)]]), true)
 else
 if (cop .eql x0 9) = true then
 some (((([] : LL) ++ [[AV.val (.int .i64 0)]]) ++ [[AV.val (.int .i64 2)]]), true)
 else
 if (cop .eql x0 10) = true then
 some (((([] : LL) ++ [[AV.val (.int .i64 0)]]) ++ [[AV.val (.int .i64 2)]]), true)
 else
 if (cop .eql x0 11) = true then
 some (((([] : LL) ++ [[AV.val (.int .i64 0)]]) ++ [[AV.val (.int .i64 2)]]), true)
 else
 if (cop .eql x0 4) = true then
 some (((((([] : LL) ++ [[AV.val (.int .i64 0)]]) ++ [[AV.val (.int .i64 2)]]) ++ [[AV.val (.int .i64 6)]]) ++ [[AV.val (.int .i64 5)]]), true)
 else
 if (cop .eql x0 5) = true then
 some ((((([] : LL) ++ [[AV.val (.int .i64 0)]]) ++ [[AV.val (.int .i64 2)]]) ++ [[AV.val (.int .i64 3)]]), true)
 else
 if (cop .eql x0 6) = true then
 some ((((([] : LL) ++ [[AV.val (.int .i64 0)]]) ++ [[AV.val (.int .i64 2)]]) ++ [[AV.val (.int .i64 7)]]), true)
 else
 if (cop .eql x0 12) = true then
 some (((([] : LL) ++ [[AV.val (.int .i64 8)]]) ++ [[AV.val (.int .i64 9)]]), true)
 else
 if (cop .eql x0 13) = true then
 some (((([] : LL) ++ [[AV.val (.int .i64 8)]]) ++ [[AV.val (.int .i64 10)]]), true)
 else
 if (cop .eql x0 14) = true then
 some ((((((([] : LL) ++ [[AV.val (.int .i64 8)]]) ++ [[AV.val (.int .i64 11)]]) ++ [[AV.val (.int .i64 9)]]) ++ [[AV.val (.int .i64 12)]]) ++ [[AV.val (.int .i64 13)]]), true)
 else
 if (cop .eql x0 15) = true then
 some ((([] : LL) ++ [[AV.val (.int .i64 8)]]), true)
 else
 if (cop .eql x0 16) = true then
 some ((([] : LL) ++ [[AV.val (.int .i64 8)]]), true)
 else
 if (cop .eql x0 17) = true then
 some (((([] : LL) ++ [[AV.val (.int .i64 9)]]) ++ [[AV.val (.int .i64 14)]]), true)
 else
 some (([] : LL), false)) := by kernel_rfl
noncomputable def F19 : Fn := ⟨9, [2], [], [], 0, [], [], Try.f19, [.c (.int .i64)], [.c (.bool)], []⟩
theorem ok19 : F19.S.Ok Try.prog 19 := F19.ok Try.func19 (by kernel_rfl) trivial
noncomputable def g19 (x0 : Int) : Option (Bool) := F19.S.g [.i x0]
theorem g19_eq (x0 : Int) : g19 x0 =
 (if (cop .geq x0 0) = true then
 some ((cop .leq x0 1073741824))
 else
 some (false)) := by kernel_rfl
noncomputable def F20 : Fn := ⟨9, [2], [], [], 0, [], [], Try.f20, [.c (.int .i64)], [.c (.bool)], []⟩
theorem ok20 : F20.S.Ok Try.prog 20 := F20.ok Try.func20 (by kernel_rfl) trivial
noncomputable def g20 (x0 : Int) : Option (Bool) := F20.S.g [.i x0]
theorem g20_eq (x0 : Int) : g20 x0 =
 (if (cop .geq x0 0) = true then
 some ((cop .lss x0 32))
 else
 some (false)) := by kernel_rfl
noncomputable def F32 : Fn := ⟨9, [2], [], [], 0, [], [], Try.f32, [.c (.int .i64)], [.c (.bool)], []⟩
theorem ok32 : F32.S.Ok Try.prog 32 := F32.ok Try.func32 (by kernel_rfl) trivial
noncomputable def g32 (x0 : Int) : Option (Bool) := F32.S.g [.i x0]
theorem g32_eq (x0 : Int) : g32 x0 =
 (if (cop .geq x0 0) = true then
 some ((cop .lss x0 16))
 else
 some (false)) := by kernel_rfl
noncomputable def F42 : Fn := ⟨31, [2], [], [], 0, [], [], Try.f42, [.agg [.int .i64, .int .i64, .int .i64]], [.c (.bool)], []⟩
theorem ok42 : F42.S.Ok Try.prog 42 := F42.ok Try.func42 (by kernel_rfl) trivial
noncomputable def g42 (x0 x1 x2 : Int) : Option (Bool) := F42.S.g [.i x0, .i x1, .i x2]
theorem g42_eq (x0 x1 x2 : Int) : g42 x0 x1 x2 =
 (if (cop .geq x0 0) = true then
 if (cop .lss x0 32) = true then
 if (cop .geq x1 1) = true then
 if (cop .leq x1 1073741824) = true then
 if (cop .geq x2 0) = true then
 some ((cop .lss x2 8))
 else
 some (false)
 else
 some (false)
 else
 some (false)
 else
 some (false)
 else
 some (false)) := by kernel_rfl
noncomputable def F34 : Fn := ⟨10, [2], [], [], 0, [], [], Try.f34, [.agg [.int .i64, .int .i64, .int .i64]], [.c (.bool)], [(42, F42.S)]⟩
theorem ok34 : F34.S.Ok Try.prog 34 := F34.ok Try.func34 (by kernel_rfl) ⟨ok42, trivial⟩
noncomputable def g34 (x0 x1 x2 : Int) : Option (Bool) := F34.S.g [.i x0, .i x1, .i x2]
theorem g34_eq (x0 x1 x2 : Int) : g34 x0 x1 x2 =
 ((g42 x0 x1 x2).bind fun (r3 : Bool) =>
 if r3 = true then
 some ((cop .eql x2 0))
 else
 some (false)) := by kernel_rfl
noncomputable def F76 : Fn := ⟨26, [4], [(4, [(0, .c (.slice 3)), (1, .c (.slice 3)), (12, .c (.int .i64)), (13, .c (.int .i64))])], [], 0, [], [], Try.f76, [.c (.slice 3), .c (.slice 3)], [.c (.bool)], []⟩
theorem ok76 : F76.S.Ok Try.prog 76 := F76.ok Try.func76 (by kernel_rfl) trivial
noncomputable def g76 (x0 x1 : LL) : Option (Bool) := F76.S.g [.l x0, .l x1]
noncomputable def g76L0 (k : Nat) (x0 x1 : LL) (x2 x3 : Int) : Option (Bool) := F76.lp [1, 0] 0 r0 k [.l x0, .l x1, .i x2, .i x3]
theorem g76L0_eq (k : Nat) (x0 x1 : LL) (x2 x3 : Int) : g76L0 (k + 1) x0 x1 x2 x3 =
 (if (cop .lss x3 x2) = true then
 elemK x0 x3 [.int .i64, .int .i64, .int .i64] fun (r4 : Int × Int × Int) =>
 elemK x1 x3 [.int .i64, .int .i64, .int .i64] fun (r7 : Int × Int × Int) =>
 if (!((cop .eql r4.1 r7.1) && ((cop .eql r4.2.1 r7.2.1) && ((cop .eql r4.2.2 r7.2.2) && true)))) = true then
 some (false)
 else
 g76L0 k x0 x1 x2 (iop .add .i64 x3 1)
 else
 some (true)) := by kernel_rfl
theorem g76_eq (x0 x1 : LL) : g76 x0 x1 =
 (if (cop .neq (List.length x0 : Int) (List.length x1 : Int)) = true then
 some (false)
 else
 g76L0 FUEL x0 x1 (List.length x0 : Int) 0) := by kernel_rfl
noncomputable def F61 : Fn := ⟨24, [4], [], [], 0, [], [], Try.f61, [.agg hs8, .agg hs8], [.c (.bool)], [(76, F76.S)]⟩
theorem ok61 : F61.S.Ok Try.prog 61 := F61.ok Try.func61 (by kernel_rfl) ⟨ok76, trivial⟩
noncomputable def g61 (x0 x1 x2 : Int) (x3 : LL) (x4 x5 x6 x7 x8 x9 : Int) (x10 : Bool) (x11 x12 x13 : Int) (x14 : LL) (x15 x16 x17 x18 x19 x20 : Int) (x21 : Bool) : Option (Bool) := F61.S.g [.i x0, .i x1, .i x2, .l x3, .i x4, .i x5, .i x6, .i x7, .i x8, .i x9, .b x10, .i x11, .i x12, .i x13, .l x14, .i x15, .i x16, .i x17, .i x18, .i x19, .i x20, .b x21]
theorem g61_eq (x0 x1 x2 : Int) (x3 : LL) (x4 x5 x6 x7 x8 x9 : Int) (x10 : Bool) (x11 x12 x13 : Int) (x14 : LL) (x15 x16 x17 x18 x19 x20 : Int) (x21 : Bool) : g61 x0 x1 x2 x3 x4 x5 x6 x7 x8 x9 x10 x11 x12 x13 x14 x15 x16 x17 x18 x19 x20 x21 =
 (if ((cop .eql x0 x11) && ((cop .eql x1 x12) && ((cop .eql x2 x13) && true))) = true then
 if ((cop .eql x4 x15) && ((cop .eql x5 x16) && ((cop .eql x6 x17) && ((cop .eql x7 x18) && ((cop .eql x8 x19) && ((cop .eql x9 x20) && ((x10 == x21) && true))))))) = true then
 (g76 x3 x14).bind fun (r22 : Bool) =>
 some (r22)
 else
 some (false)
 else
 some (false)) := by kernel_rfl
noncomputable def F77 : Fn := ⟨38, [4], [], [], 0, [], [], Try.f77, [.c (.int .i64), .c (.int .i64)], [.c (.bool)], []⟩
theorem ok77 : F77.S.Ok Try.prog 77 := F77.ok Try.func77 (by kernel_rfl) trivial
noncomputable def g77 (x0 x1 : Int) : Option (Bool) := F77.S.g [.i x0, .i x1]
theorem g77_eq (x0 x1 : Int) : g77 x0 x1 =
 (if (cop .eql x0 1) = true then
 if (cop .geq x1 6) = true then
 some ((cop .leq x1 40))
 else
 some (false)
 else
 if (cop .eql x0 2) = true then
 if (cop .geq x1 12) = true then
 some ((cop .leq x1 40))
 else
 some (false)
 else
 if (cop .eql x0 3) = true then
 some ((cop .eql x1 12))
 else
 if (cop .eql x0 4) = true then
 some ((cop .eql x1 6))
 else
 if (cop .eql x0 5) = true then
 some ((cop .eql x1 10))
 else
 if (cop .eql x0 6) = true then
 some ((cop .eql x1 16))
 else
 some (false)) := by kernel_rfl
noncomputable def F79 : Fn := ⟨8, [2], [], [], 0, [], [], Try.f79, [.agg hs11], [.agg [.int .i64, .int .i64]], []⟩
theorem ok79 : F79.S.Ok Try.prog 79 := F79.ok Try.func79 (by kernel_rfl) trivial
noncomputable def g79 (x0 x1 x2 x3 x4 x5 : Int) (x6 : Bool) : Option (Int × Int) := F79.S.g [.i x0, .i x1, .i x2, .i x3, .i x4, .i x5, .b x6]
theorem g79_eq (x0 x1 x2 x3 x4 x5 : Int) (x6 : Bool) : g79 x0 x1 x2 x3 x4 x5 x6 =
 (some (x1, x2)) := by kernel_rfl
noncomputable def F78 : Fn := ⟨32, [2], [], [], 0, [], [], Try.f78, [.agg [.int .i64, .int .i64]], [.c (.bool)], []⟩
theorem ok78 : F78.S.Ok Try.prog 78 := F78.ok Try.func78 (by kernel_rfl) trivial
noncomputable def g78 (x0 x1 : Int) : Option (Bool) := F78.S.g [.i x0, .i x1]
theorem g78_eq (x0 x1 : Int) : g78 x0 x1 =
 (if (cop .lss x1 6) = true then
 some (false)
 else
 if (cop .gtr x1 40) = true then
 some (false)
 else
 if (cop .lss x0 0) = true then
 some (false)
 else
 reqK ((0 : Int) ≤ x1) <|
 reqK (((iop .shl .i64 1 x1) : Int) ≠ 0) <|
 if (cop .eql (iop .rem .i64 x0 (iop .shl .i64 1 x1)) 0) = true then
 some ((cop .leq x0 (iop .sub .i64 1099511627776 (iop .shl .i64 1 x1))))
 else
 some (false)) := by kernel_rfl
noncomputable def F80 : Fn := ⟨22, [4], [], [], 0, [], [], Try.f80, [.c (.int .i64), .c (.int .i64)], [.c (.bool)], []⟩
theorem ok80 : F80.S.Ok Try.prog 80 := F80.ok Try.func80 (by kernel_rfl) trivial
noncomputable def g80 (x0 x1 : Int) : Option (Bool) := F80.S.g [.i x0, .i x1]
theorem g80_eq (x0 x1 : Int) : g80 x0 x1 =
 (if (cop .eql x0 32) = true then
 if (cop .geq x1 0) = true then
 some ((cop .leq x1 1))
 else
 some (false)
 else
 if (cop .eql x0 39) = true then
 if (cop .geq x1 0) = true then
 some ((cop .leq x1 2))
 else
 some (false)
 else
 some (false)) := by kernel_rfl
noncomputable def F63 : Fn := ⟨55, [2], [], [], 0, [], [], Try.f63, [.agg hs11], [.c (.bool)], [(77, F77.S), (79, F79.S), (78, F78.S), (80, F80.S)]⟩
theorem ok63 : F63.S.Ok Try.prog 63 := F63.ok Try.func63 (by kernel_rfl) ⟨ok77, ⟨ok79, ⟨ok78, ⟨ok80, trivial⟩⟩⟩⟩
noncomputable def g63 (x0 x1 x2 x3 x4 x5 : Int) (x6 : Bool) : Option (Bool) := F63.S.g [.i x0, .i x1, .i x2, .i x3, .i x4, .i x5, .b x6]
theorem g63_eq (x0 x1 x2 x3 x4 x5 : Int) (x6 : Bool) : g63 x0 x1 x2 x3 x4 x5 x6 =
 ((g77 x0 x2).bind fun (r7 : Bool) =>
 if (!r7) = true then
 some (false)
 else
 (g79 x0 x1 x2 x3 x4 x5 x6).bind fun (r8 : Int × Int) =>
 (g78 r8.1 r8.2).bind fun (r10 : Bool) =>
 if (!r10) = true then
 some (false)
 else
 if (cop .lss x3 0) = true then
 some (false)
 else
 if (cop .gtr x3 7) = true then
 some (false)
 else
 if (cop .eql x0 3) = true then
 (g80 x4 x5).bind fun (r11 : Bool) =>
 if (!r11) = true then
 some (false)
 else
 if (!x6) = true then
 some (true)
 else
 if (cop .eql x0 1) = true then
 some (true)
 else
 some ((cop .eql x0 2))
 else
 if (cop .neq x4 0) = true then
 some (false)
 else
 if (cop .neq x5 0) = true then
 some (false)
 else
 if (!x6) = true then
 some (true)
 else
 if (cop .eql x0 1) = true then
 some (true)
 else
 some ((cop .eql x0 2))) := by kernel_rfl
noncomputable def F58 : Fn := ⟨19, [4], [(2, [(0, .c (.slice 3)), (3, .box [.int .i64, .int .i64, .int .i64]), (7, .c (.int .i64)), (8, .c (.int .i64))])], [], 0, [], [], Try.f58, [.c (.slice 3), .agg [.int .i64, .int .i64, .int .i64]], [.c (.int .i64)], []⟩
theorem ok58 : F58.S.Ok Try.prog 58 := F58.ok Try.func58 (by kernel_rfl) trivial
noncomputable def g58 (x0 : LL) (x1 x2 x3 : Int) : Option (Int) := F58.S.g [.l x0, .i x1, .i x2, .i x3]
noncomputable def g58L0 (k : Nat) (x0 : LL) (x1 x2 x3 x4 x5 : Int) : Option (Int) := F58.lp [0] 0 r0 k [.l x0, .i x1, .i x2, .i x3, .i x4, .i x5]
theorem g58L0_eq (k : Nat) (x0 : LL) (x1 x2 x3 x4 x5 : Int) : g58L0 (k + 1) x0 x1 x2 x3 x4 x5 =
 (if (cop .lss x5 x4) = true then
 elemK x0 x5 [.int .i64, .int .i64, .int .i64] fun (r6 : Int × Int × Int) =>
 if ((cop .eql x1 r6.1) && ((cop .eql x2 r6.2.1) && ((cop .eql x3 r6.2.2) && true))) = true then
 some (x5)
 else
 g58L0 k x0 x1 x2 x3 x4 (iop .add .i64 x5 1)
 else
 some ((-1))) := by kernel_rfl
theorem g58_eq (x0 : LL) (x1 x2 x3 : Int) : g58 x0 x1 x2 x3 =
 (g58L0 FUEL x0 x1 x2 x3 (List.length x0 : Int) 0) := by kernel_rfl
noncomputable def F29 : Fn := ⟨9, [4], [], [], 0, [], [], Try.f29, [.c (.slice 3), .agg [.int .i64, .int .i64, .int .i64]], [.c (.bool)], [(58, F58.S)]⟩
theorem ok29 : F29.S.Ok Try.prog 29 := F29.ok Try.func29 (by kernel_rfl) ⟨ok58, trivial⟩
noncomputable def g29 (x0 : LL) (x1 x2 x3 : Int) : Option (Bool) := F29.S.g [.l x0, .i x1, .i x2, .i x3]
theorem g29_eq (x0 : LL) (x1 x2 x3 : Int) : g29 x0 x1 x2 x3 =
 ((g58 x0 x1 x2 x3).bind fun (r4 : Int) =>
 some ((cop .geq r4 0))) := by kernel_rfl
noncomputable def F38 : Fn := ⟨47, [2], [(4, [(1, .box hs8), (22, .c (.slice 3)), (23, .c (.int .i64)), (24, .c (.int .i64))])], [], 0, [], [], Try.f38, [.agg hs8], [.c (.bool)], [(42, F42.S), (63, F63.S), (29, F29.S)]⟩
theorem ok38 : F38.S.Ok Try.prog 38 := F38.ok Try.func38 (by kernel_rfl) ⟨ok42, ⟨ok63, ⟨ok29, trivial⟩⟩⟩
noncomputable def g38 (x0 x1 x2 : Int) (x3 : LL) (x4 x5 x6 x7 x8 x9 : Int) (x10 : Bool) : Option (Bool) := F38.S.g [.i x0, .i x1, .i x2, .l x3, .i x4, .i x5, .i x6, .i x7, .i x8, .i x9, .b x10]
noncomputable def g38L0 (k : Nat) (x0 x1 x2 : Int) (x3 : LL) (x4 x5 x6 x7 x8 x9 : Int) (x10 : Bool) (x11 : LL) (x12 x13 : Int) : Option (Bool) := F38.lp [0, 1, 0, 1, 1, 0] 0 r0 k [.i x0, .i x1, .i x2, .l x3, .i x4, .i x5, .i x6, .i x7, .i x8, .i x9, .b x10, .l x11, .i x12, .i x13]
theorem g38L0_eq (k : Nat) (x0 x1 x2 : Int) (x3 : LL) (x4 x5 x6 x7 x8 x9 : Int) (x10 : Bool) (x11 : LL) (x12 x13 : Int) : g38L0 (k + 1) x0 x1 x2 x3 x4 x5 x6 x7 x8 x9 x10 x11 x12 x13 =
 (if (cop .lss x13 x12) = true then
 elemK x11 x13 [.int .i64, .int .i64, .int .i64] fun (r14 : Int × Int × Int) =>
 (g42 r14.1 r14.2.1 r14.2.2).bind fun (r17 : Bool) =>
 if (!r17) = true then
 some (false)
 else
 if ((cop .eql r14.1 x0) && ((cop .eql r14.2.1 x1) && ((cop .eql r14.2.2 x2) && true))) = true then
 some (false)
 else
 reqK ((0 : Int) ≤ x13) <|
 reqK ((x13 : Int) ≤ (List.length x3 : Int)) <|
 (g29 (List.take (Int.toNat x13) x3) r14.1 r14.2.1 r14.2.2).bind fun (r18 : Bool) =>
 if r18 = true then
 some (false)
 else
 g38L0 k x0 x1 x2 x3 x4 x5 x6 x7 x8 x9 x10 x11 x12 (iop .add .i64 x13 1)
 else
 some (true)) := by kernel_rfl
theorem g38_eq (x0 x1 x2 : Int) (x3 : LL) (x4 x5 x6 x7 x8 x9 : Int) (x10 : Bool) : g38 x0 x1 x2 x3 x4 x5 x6 x7 x8 x9 x10 =
 ((g42 x0 x1 x2).bind fun (r11 : Bool) =>
 if (!r11) = true then
 some (false)
 else
 (g63 x4 x5 x6 x7 x8 x9 x10).bind fun (r12 : Bool) =>
 if (!r12) = true then
 some (false)
 else
 if (cop .gtr (List.length x3 : Int) 8) = true then
 some (false)
 else
 g38L0 FUEL x0 x1 x2 x3 x4 x5 x6 x7 x8 x9 x10 x3 (List.length x3 : Int) 0) := by kernel_rfl
noncomputable def F33 : Fn := ⟨46, [2], [], [], 0, [], [], Try.f33, [.agg hs3], [.c (.bool)], [(34, F34.S), (32, F32.S), (61, F61.S), (38, F38.S)]⟩
theorem ok33 : F33.S.Ok Try.prog 33 := F33.ok Try.func33 (by kernel_rfl) ⟨ok34, ⟨ok32, ⟨ok61, ⟨ok38, trivial⟩⟩⟩⟩
noncomputable def g33 (x0 x1 x2 x3 x4 x5 x6 x7 x8 x9 x10 x11 x12 x13 x14 x15 x16 x17 x18 x19 : Int) (x20 : LL) (x21 x22 x23 x24 x25 x26 : Int) (x27 : Bool) : Option (Bool) := F33.S.g [.i x0, .i x1, .i x2, .i x3, .i x4, .i x5, .i x6, .i x7, .i x8, .i x9, .i x10, .i x11, .i x12, .i x13, .i x14, .i x15, .i x16, .i x17, .i x18, .i x19, .l x20, .i x21, .i x22, .i x23, .i x24, .i x25, .i x26, .b x27]
theorem g33_eq (x0 x1 x2 x3 x4 x5 x6 x7 x8 x9 x10 x11 x12 x13 x14 x15 x16 x17 x18 x19 : Int) (x20 : LL) (x21 x22 x23 x24 x25 x26 : Int) (x27 : Bool) : g33 x0 x1 x2 x3 x4 x5 x6 x7 x8 x9 x10 x11 x12 x13 x14 x15 x16 x17 x18 x19 x20 x21 x22 x23 x24 x25 x26 x27 =
 ((g34 x0 x1 x2).bind fun (r28 : Bool) =>
 if (!r28) = true then
 some (false)
 else
 if (cop .lss x3 1) = true then
 some (false)
 else
 if (cop .gtr x3 6) = true then
 some (false)
 else
 (g32 x15).bind fun (r29 : Bool) =>
 if (!r29) = true then
 some (false)
 else
 if (cop .neq x16 32) = true then
 if (cop .neq x16 39) = true then
 some (false)
 else
 if (cop .eql x3 1) = true then
 (g61 x17 x18 x19 x20 x21 x22 x23 x24 x25 x26 x27 0 0 0 ([] : LL) 0 0 0 0 0 0 false).bind fun (r30 : Bool) =>
 some (r30)
 else
 (g38 x17 x18 x19 x20 x21 x22 x23 x24 x25 x26 x27).bind fun (r30 : Bool) =>
 some (r30)
 else
 if (cop .eql x3 1) = true then
 (g61 x17 x18 x19 x20 x21 x22 x23 x24 x25 x26 x27 0 0 0 ([] : LL) 0 0 0 0 0 0 false).bind fun (r30 : Bool) =>
 some (r30)
 else
 (g38 x17 x18 x19 x20 x21 x22 x23 x24 x25 x26 x27).bind fun (r30 : Bool) =>
 some (r30)) := by kernel_rfl
noncomputable def F35 : Fn := ⟨9, [2], [], [], 0, [], [], Try.f35, [.c (.int .i64)], [.c (.bool)], []⟩
theorem ok35 : F35.S.Ok Try.prog 35 := F35.ok Try.func35 (by kernel_rfl) trivial
noncomputable def g35 (x0 : Int) : Option (Bool) := F35.S.g [.i x0]
theorem g35_eq (x0 : Int) : g35 x0 =
 (if (cop .geq x0 0) = true then
 some ((cop .leq x0 99))
 else
 some (false)) := by kernel_rfl
noncomputable def F39 : Fn := ⟨9, [2], [], [], 0, [], [], Try.f39, [.c (.int .i64)], [.c (.bool)], []⟩
theorem ok39 : F39.S.Ok Try.prog 39 := F39.ok Try.func39 (by kernel_rfl) trivial
noncomputable def g39 (x0 : Int) : Option (Bool) := F39.S.g [.i x0]
theorem g39_eq (x0 : Int) : g39 x0 =
 (if (cop .geq x0 0) = true then
 some ((cop .lss x0 64))
 else
 some (false)) := by kernel_rfl
noncomputable def F81 : Fn := ⟨19, [4], [(2, [(0, .c (.slice 1)), (1, .c (.int .i64)), (7, .c (.int .i64)), (8, .c (.int .i64))])], [], 0, [], [], Try.f81, [.c (.slice 1), .c (.int .i64)], [.c (.int .i64)], []⟩
theorem ok81 : F81.S.Ok Try.prog 81 := F81.ok Try.func81 (by kernel_rfl) trivial
noncomputable def g81 (x0 : LL) (x1 : Int) : Option (Int) := F81.S.g [.l x0, .i x1]
noncomputable def g81L0 (k : Nat) (x0 : LL) (x1 x2 x3 : Int) : Option (Int) := F81.lp [0] 0 r0 k [.l x0, .i x1, .i x2, .i x3]
theorem g81L0_eq (k : Nat) (x0 : LL) (x1 x2 x3 : Int) : g81L0 (k + 1) x0 x1 x2 x3 =
 (if (cop .lss x3 x2) = true then
 elemK x0 x3 [.int .i64] fun (r4 : Int) =>
 if (cop .eql x1 r4) = true then
 some (x3)
 else
 g81L0 k x0 x1 x2 (iop .add .i64 x3 1)
 else
 some ((-1))) := by kernel_rfl
theorem g81_eq (x0 : LL) (x1 : Int) : g81 x0 x1 =
 (g81L0 FUEL x0 x1 (List.length x0 : Int) 0) := by kernel_rfl
noncomputable def F66 : Fn := ⟨9, [4], [], [], 0, [], [], Try.f66, [.c (.slice 1), .c (.int .i64)], [.c (.bool)], [(81, F81.S)]⟩
theorem ok66 : F66.S.Ok Try.prog 66 := F66.ok Try.func66 (by kernel_rfl) ⟨ok81, trivial⟩
noncomputable def g66 (x0 : LL) (x1 : Int) : Option (Bool) := F66.S.g [.l x0, .i x1]
theorem g66_eq (x0 : LL) (x1 : Int) : g66 x0 x1 =
 ((g81 x0 x1).bind fun (r2 : Int) =>
 some ((cop .geq r2 0))) := by kernel_rfl
noncomputable def F67 : Fn := ⟨6, [2], [], [], 0, [], [], Try.f67, [.c (.int .i64)], [.c (.bool)], [(20, F20.S)]⟩
theorem ok67 : F67.S.Ok Try.prog 67 := F67.ok Try.func67 (by kernel_rfl) ⟨ok20, trivial⟩
noncomputable def g67 (x0 : Int) : Option (Bool) := F67.S.g [.i x0]
theorem g67_eq (x0 : Int) : g67 x0 =
 ((g20 x0).bind fun (r1 : Bool) =>
 some ((!r1))) := by kernel_rfl
noncomputable def F65c67 : Fn := ⟨19, [4], [(2, [(0, .c (.slice 1)), (1, .clo 67 []), (7, .c (.int .i64)), (8, .c (.int .i64))])], [], 0, [], [], Try.f65, [.c (.slice 1), .clo 67 []], [.c (.int .i64)], [(67, F67.S)]⟩
theorem ok65c67 : F65c67.S.Ok Try.prog 65 := F65c67.ok Try.func65 (by kernel_rfl) ⟨ok67, trivial⟩
noncomputable def g65c67 (x0 : LL) : Option (Int) := F65c67.S.g [.l x0]
noncomputable def g65c67L0 (k : Nat) (x0 : LL) (x1 x2 : Int) : Option (Int) := F65c67.lp [0] 0 r0 k [.l x0, .i x1, .i x2]
theorem g65c67L0_eq (k : Nat) (x0 : LL) (x1 x2 : Int) : g65c67L0 (k + 1) x0 x1 x2 =
 (if (cop .lss x2 x1) = true then
 elemK x0 x2 [.int .i64] fun (r3 : Int) =>
 (g67 r3).bind fun (r4 : Bool) =>
 if r4 = true then
 some (x2)
 else
 g65c67L0 k x0 x1 (iop .add .i64 x2 1)
 else
 some ((-1))) := by kernel_rfl
theorem g65c67_eq (x0 : LL) : g65c67 x0 =
 (g65c67L0 FUEL x0 (List.length x0 : Int) 0) := by kernel_rfl
noncomputable def F43c67 : Fn := ⟨9, [4], [], [], 0, [], [], Try.f43, [.c (.slice 1), .clo 67 []], [.c (.bool)], [(65, F65c67.S)]⟩
theorem ok43c67 : F43c67.S.Ok Try.prog 43 := F43c67.ok Try.func43 (by kernel_rfl) ⟨ok65c67, trivial⟩
noncomputable def g43c67 (x0 : LL) : Option (Bool) := F43c67.S.g [.l x0]
theorem g43c67_eq (x0 : LL) : g43c67 x0 =
 ((g65c67 x0).bind fun (r1 : Int) =>
 some ((cop .geq r1 0))) := by kernel_rfl
noncomputable def F48 : Fn := ⟨45, [2], [(4, [(1, .box [.int .i64, .slice 1, .slice 1]), (22, .c (.slice 1)), (23, .c (.int .i64)), (24, .c (.int .i64))])], [], 0, [], [], Try.f48, [.agg [.int .i64, .slice 1, .slice 1]], [.c (.bool)], [(19, F19.S), (20, F20.S), (66, F66.S), (43, F43c67.S)]⟩
theorem ok48 : F48.S.Ok Try.prog 48 := F48.ok Try.func48 (by kernel_rfl) ⟨ok19, ⟨ok20, ⟨ok66, ⟨ok43c67, trivial⟩⟩⟩⟩
noncomputable def g48 (x0 : Int) (x1 x2 : LL) : Option (Bool) := F48.S.g [.i x0, .l x1, .l x2]
noncomputable def g48L0 (k : Nat) (x0 : Int) (x1 x2 x3 : LL) (x4 x5 : Int) : Option (Bool) := F48.lp [0, 1, 1, 1, 0] 0 r0 k [.i x0, .l x1, .l x2, .l x3, .i x4, .i x5]
theorem g48L0_eq (k : Nat) (x0 : Int) (x1 x2 x3 : LL) (x4 x5 : Int) : g48L0 (k + 1) x0 x1 x2 x3 x4 x5 =
 (if (cop .lss x5 x4) = true then
 elemK x3 x5 [.int .i64] fun (r6 : Int) =>
 (g20 r6).bind fun (r7 : Bool) =>
 if (!r7) = true then
 some (false)
 else
 reqK ((0 : Int) ≤ x5) <|
 reqK ((x5 : Int) ≤ (List.length x1 : Int)) <|
 (g66 (List.take (Int.toNat x5) x1) r6).bind fun (r8 : Bool) =>
 if r8 = true then
 some (false)
 else
 g48L0 k x0 x1 x2 x3 x4 (iop .add .i64 x5 1)
 else
 (g43c67 x2).bind fun (r6 : Bool) =>
 some ((!r6))) := by kernel_rfl
theorem g48_eq (x0 : Int) (x1 x2 : LL) : g48 x0 x1 x2 =
 ((g19 x0).bind fun (r3 : Bool) =>
 if (!r3) = true then
 some (false)
 else
 if (cop .gtr (List.length x1 : Int) 32) = true then
 some (false)
 else
 if (cop .gtr (List.length x2 : Int) 16) = true then
 some (false)
 else
 g48L0 FUEL x0 x1 x2 x1 (List.length x1 : Int) 0) := by kernel_rfl
noncomputable def F25 : Fn := ⟨8, [2], [], [], 0, [], [], Try.f25, [.agg hs6], [.c (.bool)], []⟩
theorem ok25 : F25.S.Ok Try.prog 25 := F25.ok Try.func25 (by kernel_rfl) trivial
noncomputable def g25 (x0 x1 x2 : Int) (x3 : LL) (x4 x5 x6 x7 x8 x9 : Int) (x10 : Bool) (x11 x12 x13 x14 : Int) : Option (Bool) := F25.S.g [.i x0, .i x1, .i x2, .l x3, .i x4, .i x5, .i x6, .i x7, .i x8, .i x9, .b x10, .i x11, .i x12, .i x13, .i x14]
theorem g25_eq (x0 x1 x2 : Int) (x3 : LL) (x4 x5 x6 x7 x8 x9 : Int) (x10 : Bool) (x11 x12 x13 x14 : Int) : g25 x0 x1 x2 x3 x4 x5 x6 x7 x8 x9 x10 x11 x12 x13 x14 =
 (some (((cop .eql x0 0) && ((cop .eql x1 0) && ((cop .eql x2 0) && true))))) := by kernel_rfl
noncomputable def F82 : Fn := ⟨43, [2], [], [], 0, [], [], Try.f82, [.agg hs6], [.c (.bool)], [(25, F25.S), (61, F61.S), (38, F38.S), (42, F42.S)]⟩
theorem ok82 : F82.S.Ok Try.prog 82 := F82.ok Try.func82 (by kernel_rfl) ⟨ok25, ⟨ok61, ⟨ok38, ⟨ok42, trivial⟩⟩⟩⟩
noncomputable def g82 (x0 x1 x2 : Int) (x3 : LL) (x4 x5 x6 x7 x8 x9 : Int) (x10 : Bool) (x11 x12 x13 x14 : Int) : Option (Bool) := F82.S.g [.i x0, .i x1, .i x2, .l x3, .i x4, .i x5, .i x6, .i x7, .i x8, .i x9, .b x10, .i x11, .i x12, .i x13, .i x14]
theorem g82_eq (x0 x1 x2 : Int) (x3 : LL) (x4 x5 x6 x7 x8 x9 : Int) (x10 : Bool) (x11 x12 x13 x14 : Int) : g82 x0 x1 x2 x3 x4 x5 x6 x7 x8 x9 x10 x11 x12 x13 x14 =
 (if (cop .lss x11 0) = true then
 some (false)
 else
 if (cop .gtr x11 1073741824) = true then
 some (false)
 else
 (g25 x0 x1 x2 x3 x4 x5 x6 x7 x8 x9 x10 x11 x12 x13 x14).bind fun (r15 : Bool) =>
 if r15 = true then
 (g61 x0 x1 x2 x3 x4 x5 x6 x7 x8 x9 x10 0 0 0 ([] : LL) 0 0 0 0 0 0 false).bind fun (r16 : Bool) =>
 if r16 = true then
 some (((cop .eql x12 0) && ((cop .eql x13 0) && ((cop .eql x14 0) && true))))
 else
 some (false)
 else
 (g38 x0 x1 x2 x3 x4 x5 x6 x7 x8 x9 x10).bind fun (r16 : Bool) =>
 if r16 = true then
 if ((cop .eql x12 0) && ((cop .eql x13 0) && ((cop .eql x14 0) && true))) = true then
 some (true)
 else
 (g42 x12 x13 x14).bind fun (r17 : Bool) =>
 if r17 = true then
 some ((cop .eql x14 0))
 else
 some (false)
 else
 some (false)) := by kernel_rfl
noncomputable def F56 : Fn := ⟨27, [4, 5], [(2, [(3, .box [.int .i64, .int .i64, .int .i64]), (8, .c (.slice 15)), (9, .c (.int .i64)), (10, .c (.int .i64))])], [], 0, [], [], Try.f56, [.c (.slice 15), .agg [.int .i64, .int .i64, .int .i64]], [.c (.int .i64), .c (.bool)], [(25, F25.S)]⟩
theorem ok56 : F56.S.Ok Try.prog 56 := F56.ok Try.func56 (by kernel_rfl) ⟨ok25, trivial⟩
noncomputable def g56 (x0 : LL) (x1 x2 x3 : Int) : Option (Int × Bool) := F56.S.g [.l x0, .i x1, .i x2, .i x3]
noncomputable def g56L0 (k : Nat) (x0 x1 x2 : Int) (x3 : LL) (x4 x5 : Int) : Option (Int × Bool) := F56.lp [0] 0 r0 k [.i x0, .i x1, .i x2, .l x3, .i x4, .i x5]
theorem g56L0_eq (k : Nat) (x0 x1 x2 : Int) (x3 : LL) (x4 x5 : Int) : g56L0 (k + 1) x0 x1 x2 x3 x4 x5 =
 (if (cop .lss x5 x4) = true then
 elemK x3 x5 hs6 fun (r6 : Qt9) =>
 (g25 r6.1 r6.2.1 r6.2.2.1 r6.2.2.2.1 r6.2.2.2.2.1 r6.2.2.2.2.2.1 r6.2.2.2.2.2.2.1 r6.2.2.2.2.2.2.2.1 r6.2.2.2.2.2.2.2.2.1 r6.2.2.2.2.2.2.2.2.2.1 r6.2.2.2.2.2.2.2.2.2.2.1 r6.2.2.2.2.2.2.2.2.2.2.2.1 (d4 (d8 r6)).1 (d4 (d8 r6)).2.1 (d2 (d4 (d8 r6)))).bind fun (r21 : Bool) =>
 if (!r21) = true then
 if ((cop .eql r6.1 x0) && ((cop .eql r6.2.1 x1) && ((cop .eql r6.2.2.1 x2) && true))) = true then
 some (x5, true)
 else
 g56L0 k x0 x1 x2 x3 x4 (iop .add .i64 x5 1)
 else
 g56L0 k x0 x1 x2 x3 x4 (iop .add .i64 x5 1)
 else
 some (0, false)) := by kernel_rfl
theorem g56_eq (x0 : LL) (x1 x2 x3 : Int) : g56 x0 x1 x2 x3 =
 (g56L0 FUEL x1 x2 x3 x0 (List.length x0 : Int) 0) := by kernel_rfl
noncomputable def F68 : Fn := ⟨32, [2], [(4, [(0, .c (.slice 15)), (10, .c (.slice 15)), (11, .c (.int .i64)), (12, .c (.int .i64))])], [], 0, [], [], Try.f68, [.c (.slice 15)], [.c (.bool)], [(82, F82.S), (56, F56.S)]⟩
theorem ok68 : F68.S.Ok Try.prog 68 := F68.ok Try.func68 (by kernel_rfl) ⟨ok82, ⟨ok56, trivial⟩⟩
noncomputable def g68 (x0 : LL) : Option (Bool) := F68.S.g [.l x0]
noncomputable def g68L0 (k : Nat) (x0 x1 : LL) (x2 x3 : Int) : Option (Bool) := F68.lp [1, 0] 0 r0 k [.l x0, .l x1, .i x2, .i x3]
theorem g68L0_eq (k : Nat) (x0 x1 : LL) (x2 x3 : Int) : g68L0 (k + 1) x0 x1 x2 x3 =
 (if (cop .lss x3 x2) = true then
 elemK x1 x3 hs6 fun (r4 : Qt9) =>
 (g82 r4.1 r4.2.1 r4.2.2.1 r4.2.2.2.1 r4.2.2.2.2.1 r4.2.2.2.2.2.1 r4.2.2.2.2.2.2.1 r4.2.2.2.2.2.2.2.1 r4.2.2.2.2.2.2.2.2.1 r4.2.2.2.2.2.2.2.2.2.1 r4.2.2.2.2.2.2.2.2.2.2.1 r4.2.2.2.2.2.2.2.2.2.2.2.1 (d4 (d8 r4)).1 (d4 (d8 r4)).2.1 (d2 (d4 (d8 r4)))).bind fun (r19 : Bool) =>
 if (!r19) = true then
 some (false)
 else
 reqK ((0 : Int) ≤ x3) <|
 reqK ((x3 : Int) ≤ (List.length x0 : Int)) <|
 (g56 (List.take (Int.toNat x3) x0) r4.1 r4.2.1 r4.2.2.1).bind fun (r20 : Int × Bool) =>
 if r20.2 = true then
 some (false)
 else
 g68L0 k x0 x1 x2 (iop .add .i64 x3 1)
 else
 some (true)) := by kernel_rfl
theorem g68_eq (x0 : LL) : g68 x0 =
 (if (cop .gtr (List.length x0 : Int) 64) = true then
 some (false)
 else
 g68L0 FUEL x0 x0 (List.length x0 : Int) 0) := by kernel_rfl
noncomputable def F84 : Fn := ⟨6, [2], [], [], 0, [], [], Try.f84, [.agg hs3], [.c (.bool)], [(33, F33.S)]⟩
theorem ok84 : F84.S.Ok Try.prog 84 := F84.ok Try.func84 (by kernel_rfl) ⟨ok33, trivial⟩
noncomputable def g84 (x0 x1 x2 x3 x4 x5 x6 x7 x8 x9 x10 x11 x12 x13 x14 x15 x16 x17 x18 x19 : Int) (x20 : LL) (x21 x22 x23 x24 x25 x26 : Int) (x27 : Bool) : Option (Bool) := F84.S.g [.i x0, .i x1, .i x2, .i x3, .i x4, .i x5, .i x6, .i x7, .i x8, .i x9, .i x10, .i x11, .i x12, .i x13, .i x14, .i x15, .i x16, .i x17, .i x18, .i x19, .l x20, .i x21, .i x22, .i x23, .i x24, .i x25, .i x26, .b x27]
theorem g84_eq (x0 x1 x2 x3 x4 x5 x6 x7 x8 x9 x10 x11 x12 x13 x14 x15 x16 x17 x18 x19 : Int) (x20 : LL) (x21 x22 x23 x24 x25 x26 : Int) (x27 : Bool) : g84 x0 x1 x2 x3 x4 x5 x6 x7 x8 x9 x10 x11 x12 x13 x14 x15 x16 x17 x18 x19 x20 x21 x22 x23 x24 x25 x26 x27 =
 ((g33 x0 x1 x2 x3 x4 x5 x6 x7 x8 x9 x10 x11 x12 x13 x14 x15 x16 x17 x18 x19 x20 x21 x22 x23 x24 x25 x26 x27).bind fun (r28 : Bool) =>
 some ((!r28))) := by kernel_rfl
noncomputable def F97c84 : Fn := ⟨19, [4], [(2, [(0, .c (.slice 28)), (1, .clo 84 []), (7, .c (.int .i64)), (8, .c (.int .i64))])], [], 0, [], [], Try.f97, [.c (.slice 28), .clo 84 []], [.c (.int .i64)], [(84, F84.S)]⟩
theorem ok97c84 : F97c84.S.Ok Try.prog 97 := F97c84.ok Try.func97 (by kernel_rfl) ⟨ok84, trivial⟩
noncomputable def g97c84 (x0 : LL) : Option (Int) := F97c84.S.g [.l x0]
noncomputable def g97c84L0 (k : Nat) (x0 : LL) (x1 x2 : Int) : Option (Int) := F97c84.lp [0] 0 r0 k [.l x0, .i x1, .i x2]
theorem g97c84L0_eq (k : Nat) (x0 : LL) (x1 x2 : Int) : g97c84L0 (k + 1) x0 x1 x2 =
 (if (cop .lss x2 x1) = true then
 elemK x0 x2 hs3 fun (r3 : Qt5) =>
 (g84 r3.1 r3.2.1 r3.2.2.1 r3.2.2.2.1 r3.2.2.2.2.1 r3.2.2.2.2.2.1 r3.2.2.2.2.2.2.1 r3.2.2.2.2.2.2.2.1 r3.2.2.2.2.2.2.2.2.1 r3.2.2.2.2.2.2.2.2.2.1 r3.2.2.2.2.2.2.2.2.2.2.1 r3.2.2.2.2.2.2.2.2.2.2.2.1 (d4 (d8 r3)).1 (d4 (d8 r3)).2.1 (d2 (d4 (d8 r3))).1 (d2 (d4 (d8 r3))).2.1 (d16 r3).1 (d16 r3).2.1 (d2 (d16 r3)).1 (d2 (d16 r3)).2.1 (d4 (d16 r3)).1 (d4 (d16 r3)).2.1 (d2 (d4 (d16 r3))).1 (d2 (d4 (d16 r3))).2.1 (d8 (d16 r3)).1 (d8 (d16 r3)).2.1 (d2 (d8 (d16 r3))).1 (d2 (d8 (d16 r3))).2).bind fun (r31 : Bool) =>
 if r31 = true then
 some (x2)
 else
 g97c84L0 k x0 x1 (iop .add .i64 x2 1)
 else
 some ((-1))) := by kernel_rfl
theorem g97c84_eq (x0 : LL) : g97c84 x0 =
 (g97c84L0 FUEL x0 (List.length x0 : Int) 0) := by kernel_rfl
noncomputable def F83c84 : Fn := ⟨9, [4], [], [], 0, [], [], Try.f83, [.c (.slice 28), .clo 84 []], [.c (.bool)], [(97, F97c84.S)]⟩
theorem ok83c84 : F83c84.S.Ok Try.prog 83 := F83c84.ok Try.func83 (by kernel_rfl) ⟨ok97c84, trivial⟩
noncomputable def g83c84 (x0 : LL) : Option (Bool) := F83c84.S.g [.l x0]
theorem g83c84_eq (x0 : LL) : g83c84 x0 =
 ((g97c84 x0).bind fun (r1 : Int) =>
 some ((cop .geq r1 0))) := by kernel_rfl
noncomputable def F103 : Fn := ⟨6, [2], [], [], 0, [], [], Try.f103, [.c (.int .i64)], [.c (.bool)], []⟩
theorem ok103 : F103.S.Ok Try.prog 103 := F103.ok Try.func103 (by kernel_rfl) trivial
noncomputable def g103 (x0 : Int) : Option (Bool) := F103.S.g [.i x0]
theorem g103_eq (x0 : Int) : g103 x0 =
 (some ((cop .neq x0 x0))) := by kernel_rfl
noncomputable def F102 : Fn := ⟨20, [4], [], [], 0, [], [], Try.f102, [.c (.int .i64), .c (.int .i64)], [.c (.int .i64)], [(103, F103.S)]⟩
theorem ok102 : F102.S.Ok Try.prog 102 := F102.ok Try.func102 (by kernel_rfl) ⟨ok103, trivial⟩
noncomputable def g102 (x0 x1 : Int) : Option (Int) := F102.S.g [.i x0, .i x1]
theorem g102_eq (x0 x1 : Int) : g102 x0 x1 =
 ((g103 x0).bind fun (r2 : Bool) =>
 (g103 x1).bind fun (r3 : Bool) =>
 if r2 = true then
 if r3 = true then
 some (0)
 else
 some ((-1))
 else
 if r3 = true then
 some (1)
 else
 if (cop .lss x0 x1) = true then
 some ((-1))
 else
 if (cop .gtr x0 x1) = true then
 some (1)
 else
 some (0)) := by kernel_rfl
noncomputable def F101 : Fn := ⟨18, [2], [(3, [(3, .c (.int .i64)), (6, .c (.slice 1)), (7, .c (.int .i64)), (8, .c (.int .i64))])], [], 0, [], [], Try.f101, [.c (.slice 1)], [.c (.int .i64)], []⟩
theorem ok101 : F101.S.Ok Try.prog 101 := F101.ok Try.func101 (by kernel_rfl) trivial
noncomputable def g101 (x0 : LL) : Option (Int) := F101.S.g [.l x0]
noncomputable def g101L0 (k : Nat) (x0 : Int) (x1 : LL) (x2 x3 : Int) : Option (Int) := F101.lp [0] 0 r0 k [.i x0, .l x1, .i x2, .i x3]
theorem g101L0_eq (k : Nat) (x0 : Int) (x1 : LL) (x2 x3 : Int) : g101L0 (k + 1) x0 x1 x2 x3 =
 (if (cop .lss x3 x2) = true then
 elemK x1 x3 [.int .i64] fun (r4 : Int) =>
 if (cop .neq r4 x0) = true then
 some (r4)
 else
 g101L0 k x0 x1 x2 (iop .add .i64 x3 1)
 else
 some (x0)) := by kernel_rfl
theorem g101_eq (x0 : LL) : g101 x0 =
 (g101L0 FUEL 0 x0 (List.length x0 : Int) 0) := by kernel_rfl
noncomputable def F98 : Fn := ⟨22, [4], [], [], 0, [], [], Try.f98, [.agg [.int .i64, .int .i64, .int .i64], .agg [.int .i64, .int .i64, .int .i64]], [.c (.int .i64)], [(102, F102.S), (101, F101.S)]⟩
theorem ok98 : F98.S.Ok Try.prog 98 := F98.ok Try.func98 (by kernel_rfl) ⟨ok102, ⟨ok101, trivial⟩⟩
noncomputable def g98 (x0 x1 x2 x3 x4 x5 : Int) : Option (Int) := F98.S.g [.i x0, .i x1, .i x2, .i x3, .i x4, .i x5]
theorem g98_eq (x0 x1 x2 x3 x4 x5 : Int) : g98 x0 x1 x2 x3 x4 x5 =
 ((g102 x0 x3).bind fun (r6 : Int) =>
 (g102 x1 x4).bind fun (r7 : Int) =>
 (g102 x2 x5).bind fun (r8 : Int) =>
 (g101 (((([] : LL) ++ [[AV.val (.int .i64 r6)]]) ++ [[AV.val (.int .i64 r7)]]) ++ [[AV.val (.int .i64 r8)]])).bind fun (r9 : Int) =>
 some (r9)) := by kernel_rfl
noncomputable def F86 : Fn := ⟨9, [4], [], [], 0, [], [], Try.f86, [.agg [.int .i64, .int .i64, .int .i64], .agg [.int .i64, .int .i64, .int .i64]], [.c (.bool)], [(98, F98.S)]⟩
theorem ok86 : F86.S.Ok Try.prog 86 := F86.ok Try.func86 (by kernel_rfl) ⟨ok98, trivial⟩
noncomputable def g86 (x0 x1 x2 x3 x4 x5 : Int) : Option (Bool) := F86.S.g [.i x0, .i x1, .i x2, .i x3, .i x4, .i x5]
theorem g86_eq (x0 x1 x2 x3 x4 x5 : Int) : g86 x0 x1 x2 x3 x4 x5 =
 ((g98 x0 x1 x2 x3 x4 x5).bind fun (r6 : Int) =>
 some ((cop .lss r6 0))) := by kernel_rfl
noncomputable def F85 : Fn := ⟨17, [5], [], [2], 0, [], [], Try.f85, [.c (.int .i64), .c (.int .i64), .box [.slice 28]], [.c (.bool)], [(86, F86.S)]⟩
theorem ok85 : F85.S.Ok Try.prog 85 := F85.ok Try.func85 (by kernel_rfl) ⟨ok86, trivial⟩
noncomputable def g85 (x0 x1 : Int) (x2 : LL) : Option (Bool × LL) := F85.S.g [.i x0, .i x1, .l x2]
theorem g85_eq (x0 x1 : Int) (x2 : LL) : g85 x0 x1 x2 =
 (elemK x2 x0 hs3 fun (r3 : Qt5) =>
 elemK x2 x1 hs3 fun (r31 : Qt5) =>
 (g86 r3.1 r3.2.1 r3.2.2.1 r31.1 r31.2.1 r31.2.2.1).bind fun (r59 : Bool) =>
 some (r59, x2)) := by kernel_rfl
noncomputable def F45c85 : Fn := ⟨17, [4], [(2, [(0, .c (.int .i64)), (1, .clo 85 [17]), (5, .c (.int .i64)), (17, .gbox [.slice 28])])], [], 1, [], [], Try.f45, [.c (.int .i64), .clo 85 [17], .dead, .dead, .dead, .dead, .dead, .dead, .dead, .dead, .dead, .dead, .dead, .dead, .dead, .dead, .dead, .gbox [.slice 28]], [.c (.bool)], [(85, F85.S)]⟩
theorem ok45c85 : F45c85.S.Ok Try.prog 45 := F45c85.ok Try.func45 (by kernel_rfl) ⟨ok85, trivial⟩
noncomputable def g45c85 (x0 : Int) (x1 : LL) : Option (Bool × LL) := F45c85.S.g [.i x0, .l x1]
noncomputable def g45c85L0 (k : Nat) (x0 x1 : Int) (x2 : LL) : Option (Bool × LL) := F45c85.lp [0] 0 r0 k [.i x0, .i x1, .l x2]
theorem g45c85L0_eq (k : Nat) (x0 x1 : Int) (x2 : LL) : g45c85L0 (k + 1) x0 x1 x2 =
 (if (cop .lss x1 x0) = true then
 (g85 (iop .sub .i64 x1 1) x1 x2).bind fun (r3 : Bool × LL) =>
 if (!r3.1) = true then
 some (false, r3.2)
 else
 g45c85L0 k x0 (iop .add .i64 x1 1) r3.2
 else
 some (true, x2)) := by kernel_rfl
theorem g45c85_eq (x0 : Int) (x1 : LL) : g45c85 x0 x1 =
 (g45c85L0 FUEL x0 1 x1) := by kernel_rfl
noncomputable def F69 : Fn := ⟨12, [2], [], [], 0, [], [], Try.f69, [.c (.slice 28)], [.c (.bool)], [(83, F83c84.S), (45, F45c85.S)]⟩
theorem ok69 : F69.S.Ok Try.prog 69 := F69.ok Try.func69 (by kernel_rfl) ⟨ok83c84, ⟨ok45c85, trivial⟩⟩
noncomputable def g69 (x0 : LL) : Option (Bool) := F69.S.g [.l x0]
theorem g69_eq (x0 : LL) : g69 x0 =
 ((g83c84 x0).bind fun (r1 : Bool) =>
 if (!r1) = true then
 (g45c85 (List.length x0 : Int) x0).bind fun (r2 : Bool × LL) =>
 some (r2.1)
 else
 some (false)) := by kernel_rfl
noncomputable def F88 : Fn := ⟨13, [2], [], [], 0, [], [], Try.f88, [.agg [.int .i64, .int .i64, .int .i64, .int .i64]], [.c (.bool)], [(32, F32.S), (34, F34.S)]⟩
theorem ok88 : F88.S.Ok Try.prog 88 := F88.ok Try.func88 (by kernel_rfl) ⟨ok32, ⟨ok34, trivial⟩⟩
noncomputable def g88 (x0 x1 x2 x3 : Int) : Option (Bool) := F88.S.g [.i x0, .i x1, .i x2, .i x3]
theorem g88_eq (x0 x1 x2 x3 : Int) : g88 x0 x1 x2 x3 =
 ((g32 x0).bind fun (r4 : Bool) =>
 if (!r4) = true then
 some (true)
 else
 (g34 x1 x2 x3).bind fun (r5 : Bool) =>
 some ((!r5))) := by kernel_rfl
noncomputable def F57c88 : Fn := ⟨19, [4], [(2, [(0, .c (.slice 4)), (1, .clo 88 []), (7, .c (.int .i64)), (8, .c (.int .i64))])], [], 0, [], [], Try.f57, [.c (.slice 4), .clo 88 []], [.c (.int .i64)], [(88, F88.S)]⟩
theorem ok57c88 : F57c88.S.Ok Try.prog 57 := F57c88.ok Try.func57 (by kernel_rfl) ⟨ok88, trivial⟩
noncomputable def g57c88 (x0 : LL) : Option (Int) := F57c88.S.g [.l x0]
noncomputable def g57c88L0 (k : Nat) (x0 : LL) (x1 x2 : Int) : Option (Int) := F57c88.lp [0] 0 r0 k [.l x0, .i x1, .i x2]
theorem g57c88L0_eq (k : Nat) (x0 : LL) (x1 x2 : Int) : g57c88L0 (k + 1) x0 x1 x2 =
 (if (cop .lss x2 x1) = true then
 elemK x0 x2 [.int .i64, .int .i64, .int .i64, .int .i64] fun (r3 : Int × Int × Int × Int) =>
 (g88 r3.1 r3.2.1 r3.2.2.1 r3.2.2.2).bind fun (r7 : Bool) =>
 if r7 = true then
 some (x2)
 else
 g57c88L0 k x0 x1 (iop .add .i64 x2 1)
 else
 some ((-1))) := by kernel_rfl
theorem g57c88_eq (x0 : LL) : g57c88 x0 =
 (g57c88L0 FUEL x0 (List.length x0 : Int) 0) := by kernel_rfl
noncomputable def F87c88 : Fn := ⟨9, [4], [], [], 0, [], [], Try.f87, [.c (.slice 4), .clo 88 []], [.c (.bool)], [(57, F57c88.S)]⟩
theorem ok87c88 : F87c88.S.Ok Try.prog 87 := F87c88.ok Try.func87 (by kernel_rfl) ⟨ok57c88, trivial⟩
noncomputable def g87c88 (x0 : LL) : Option (Bool) := F87c88.S.g [.l x0]
theorem g87c88_eq (x0 : LL) : g87c88 x0 =
 ((g57c88 x0).bind fun (r1 : Int) =>
 some ((cop .geq r1 0))) := by kernel_rfl
noncomputable def F89 : Fn := ⟨17, [5], [], [2], 0, [], [], Try.f89, [.c (.int .i64), .c (.int .i64), .box [.slice 4]], [.c (.bool)], []⟩
theorem ok89 : F89.S.Ok Try.prog 89 := F89.ok Try.func89 (by kernel_rfl) trivial
noncomputable def g89 (x0 x1 : Int) (x2 : LL) : Option (Bool × LL) := F89.S.g [.i x0, .i x1, .l x2]
theorem g89_eq (x0 x1 : Int) (x2 : LL) : g89 x0 x1 x2 =
 (elemK x2 x0 [.int .i64, .int .i64, .int .i64, .int .i64] fun (r3 : Int × Int × Int × Int) =>
 elemK x2 x1 [.int .i64, .int .i64, .int .i64, .int .i64] fun (r7 : Int × Int × Int × Int) =>
 some ((cop .lss r3.1 r7.1), x2)) := by kernel_rfl
noncomputable def F45c89 : Fn := ⟨17, [4], [(2, [(0, .c (.int .i64)), (1, .clo 89 [17]), (5, .c (.int .i64)), (17, .gbox [.slice 4])])], [], 1, [], [], Try.f45, [.c (.int .i64), .clo 89 [17], .dead, .dead, .dead, .dead, .dead, .dead, .dead, .dead, .dead, .dead, .dead, .dead, .dead, .dead, .dead, .gbox [.slice 4]], [.c (.bool)], [(89, F89.S)]⟩
theorem ok45c89 : F45c89.S.Ok Try.prog 45 := F45c89.ok Try.func45 (by kernel_rfl) ⟨ok89, trivial⟩
noncomputable def g45c89 (x0 : Int) (x1 : LL) : Option (Bool × LL) := F45c89.S.g [.i x0, .l x1]
noncomputable def g45c89L0 (k : Nat) (x0 x1 : Int) (x2 : LL) : Option (Bool × LL) := F45c89.lp [0] 0 r0 k [.i x0, .i x1, .l x2]
theorem g45c89L0_eq (k : Nat) (x0 x1 : Int) (x2 : LL) : g45c89L0 (k + 1) x0 x1 x2 =
 (if (cop .lss x1 x0) = true then
 (g89 (iop .sub .i64 x1 1) x1 x2).bind fun (r3 : Bool × LL) =>
 if (!r3.1) = true then
 some (false, r3.2)
 else
 g45c89L0 k x0 (iop .add .i64 x1 1) r3.2
 else
 some (true, x2)) := by kernel_rfl
theorem g45c89_eq (x0 : Int) (x1 : LL) : g45c89 x0 x1 =
 (g45c89L0 FUEL x0 1 x1) := by kernel_rfl
noncomputable def F70 : Fn := ⟨12, [2], [], [], 0, [], [], Try.f70, [.c (.slice 4)], [.c (.bool)], [(87, F87c88.S), (45, F45c89.S)]⟩
theorem ok70 : F70.S.Ok Try.prog 70 := F70.ok Try.func70 (by kernel_rfl) ⟨ok87c88, ⟨ok45c89, trivial⟩⟩
noncomputable def g70 (x0 : LL) : Option (Bool) := F70.S.g [.l x0]
theorem g70_eq (x0 : LL) : g70 x0 =
 ((g87c88 x0).bind fun (r1 : Bool) =>
 if (!r1) = true then
 (g45c89 (List.length x0 : Int) x0).bind fun (r2 : Bool × LL) =>
 some (r2.1)
 else
 some (false)) := by kernel_rfl
noncomputable def F91 : Fn := ⟨17, [2], [], [], 0, [], [], Try.f91, [.agg [.int .i64, .int .i64]], [.c (.bool)], [(35, F35.S)]⟩
theorem ok91 : F91.S.Ok Try.prog 91 := F91.ok Try.func91 (by kernel_rfl) ⟨ok35, trivial⟩
noncomputable def g91 (x0 x1 : Int) : Option (Bool) := F91.S.g [.i x0, .i x1]
theorem g91_eq (x0 x1 : Int) : g91 x0 x1 =
 (if (cop .lss x0 1) = true then
 some (true)
 else
 if (cop .gtr x0 1073741824) = true then
 some (true)
 else
 (g35 x1).bind fun (r2 : Bool) =>
 some ((!r2))) := by kernel_rfl
noncomputable def F99c91 : Fn := ⟨19, [4], [(2, [(0, .c (.slice 2)), (1, .clo 91 []), (7, .c (.int .i64)), (8, .c (.int .i64))])], [], 0, [], [], Try.f99, [.c (.slice 2), .clo 91 []], [.c (.int .i64)], [(91, F91.S)]⟩
theorem ok99c91 : F99c91.S.Ok Try.prog 99 := F99c91.ok Try.func99 (by kernel_rfl) ⟨ok91, trivial⟩
noncomputable def g99c91 (x0 : LL) : Option (Int) := F99c91.S.g [.l x0]
noncomputable def g99c91L0 (k : Nat) (x0 : LL) (x1 x2 : Int) : Option (Int) := F99c91.lp [0] 0 r0 k [.l x0, .i x1, .i x2]
theorem g99c91L0_eq (k : Nat) (x0 : LL) (x1 x2 : Int) : g99c91L0 (k + 1) x0 x1 x2 =
 (if (cop .lss x2 x1) = true then
 elemK x0 x2 [.int .i64, .int .i64] fun (r3 : Int × Int) =>
 (g91 r3.1 r3.2).bind fun (r5 : Bool) =>
 if r5 = true then
 some (x2)
 else
 g99c91L0 k x0 x1 (iop .add .i64 x2 1)
 else
 some ((-1))) := by kernel_rfl
theorem g99c91_eq (x0 : LL) : g99c91 x0 =
 (g99c91L0 FUEL x0 (List.length x0 : Int) 0) := by kernel_rfl
noncomputable def F90c91 : Fn := ⟨9, [4], [], [], 0, [], [], Try.f90, [.c (.slice 2), .clo 91 []], [.c (.bool)], [(99, F99c91.S)]⟩
theorem ok90c91 : F90c91.S.Ok Try.prog 90 := F90c91.ok Try.func90 (by kernel_rfl) ⟨ok99c91, trivial⟩
noncomputable def g90c91 (x0 : LL) : Option (Bool) := F90c91.S.g [.l x0]
theorem g90c91_eq (x0 : LL) : g90c91 x0 =
 ((g99c91 x0).bind fun (r1 : Int) =>
 some ((cop .geq r1 0))) := by kernel_rfl
noncomputable def F92 : Fn := ⟨17, [5], [], [2], 0, [], [], Try.f92, [.c (.int .i64), .c (.int .i64), .box [.slice 2]], [.c (.bool)], []⟩
theorem ok92 : F92.S.Ok Try.prog 92 := F92.ok Try.func92 (by kernel_rfl) trivial
noncomputable def g92 (x0 x1 : Int) (x2 : LL) : Option (Bool × LL) := F92.S.g [.i x0, .i x1, .l x2]
theorem g92_eq (x0 x1 : Int) (x2 : LL) : g92 x0 x1 x2 =
 (elemK x2 x0 [.int .i64, .int .i64] fun (r3 : Int × Int) =>
 elemK x2 x1 [.int .i64, .int .i64] fun (r5 : Int × Int) =>
 some ((cop .lss r3.1 r5.1), x2)) := by kernel_rfl
noncomputable def F45c92 : Fn := ⟨17, [4], [(2, [(0, .c (.int .i64)), (1, .clo 92 [17]), (5, .c (.int .i64)), (17, .gbox [.slice 2])])], [], 1, [], [], Try.f45, [.c (.int .i64), .clo 92 [17], .dead, .dead, .dead, .dead, .dead, .dead, .dead, .dead, .dead, .dead, .dead, .dead, .dead, .dead, .dead, .gbox [.slice 2]], [.c (.bool)], [(92, F92.S)]⟩
theorem ok45c92 : F45c92.S.Ok Try.prog 45 := F45c92.ok Try.func45 (by kernel_rfl) ⟨ok92, trivial⟩
noncomputable def g45c92 (x0 : Int) (x1 : LL) : Option (Bool × LL) := F45c92.S.g [.i x0, .l x1]
noncomputable def g45c92L0 (k : Nat) (x0 x1 : Int) (x2 : LL) : Option (Bool × LL) := F45c92.lp [0] 0 r0 k [.i x0, .i x1, .l x2]
theorem g45c92L0_eq (k : Nat) (x0 x1 : Int) (x2 : LL) : g45c92L0 (k + 1) x0 x1 x2 =
 (if (cop .lss x1 x0) = true then
 (g92 (iop .sub .i64 x1 1) x1 x2).bind fun (r3 : Bool × LL) =>
 if (!r3.1) = true then
 some (false, r3.2)
 else
 g45c92L0 k x0 (iop .add .i64 x1 1) r3.2
 else
 some (true, x2)) := by kernel_rfl
theorem g45c92_eq (x0 : Int) (x1 : LL) : g45c92 x0 x1 =
 (g45c92L0 FUEL x0 1 x1) := by kernel_rfl
noncomputable def F71 : Fn := ⟨12, [2], [], [], 0, [], [], Try.f71, [.c (.slice 2)], [.c (.bool)], [(90, F90c91.S), (45, F45c92.S)]⟩
theorem ok71 : F71.S.Ok Try.prog 71 := F71.ok Try.func71 (by kernel_rfl) ⟨ok90c91, ⟨ok45c92, trivial⟩⟩
noncomputable def g71 (x0 : LL) : Option (Bool) := F71.S.g [.l x0]
theorem g71_eq (x0 : LL) : g71 x0 =
 ((g90c91 x0).bind fun (r1 : Bool) =>
 if (!r1) = true then
 (g45c92 (List.length x0 : Int) x0).bind fun (r2 : Bool × LL) =>
 some (r2.1)
 else
 some (false)) := by kernel_rfl
noncomputable def F94 : Fn := ⟨19, [2], [], [], 0, [], [], Try.f94, [.agg hs7], [.c (.bool)], [(20, F20.S), (39, F39.S), (38, F38.S)]⟩
theorem ok94 : F94.S.Ok Try.prog 94 := F94.ok Try.func94 (by kernel_rfl) ⟨ok20, ⟨ok39, ⟨ok38, trivial⟩⟩⟩
noncomputable def g94 (x0 x1 x2 x3 x4 : Int) (x5 : LL) (x6 x7 x8 x9 x10 x11 : Int) (x12 : Bool) : Option (Bool) := F94.S.g [.i x0, .i x1, .i x2, .i x3, .i x4, .l x5, .i x6, .i x7, .i x8, .i x9, .i x10, .i x11, .b x12]
theorem g94_eq (x0 x1 x2 x3 x4 : Int) (x5 : LL) (x6 x7 x8 x9 x10 x11 : Int) (x12 : Bool) : g94 x0 x1 x2 x3 x4 x5 x6 x7 x8 x9 x10 x11 x12 =
 ((g20 x0).bind fun (r13 : Bool) =>
 if (!r13) = true then
 some (true)
 else
 (g39 x1).bind fun (r14 : Bool) =>
 if (!r14) = true then
 some (true)
 else
 (g38 x2 x3 x4 x5 x6 x7 x8 x9 x10 x11 x12).bind fun (r15 : Bool) =>
 some ((!r15))) := by kernel_rfl
noncomputable def F100c94 : Fn := ⟨19, [4], [(2, [(0, .c (.slice 13)), (1, .clo 94 []), (7, .c (.int .i64)), (8, .c (.int .i64))])], [], 0, [], [], Try.f100, [.c (.slice 13), .clo 94 []], [.c (.int .i64)], [(94, F94.S)]⟩
theorem ok100c94 : F100c94.S.Ok Try.prog 100 := F100c94.ok Try.func100 (by kernel_rfl) ⟨ok94, trivial⟩
noncomputable def g100c94 (x0 : LL) : Option (Int) := F100c94.S.g [.l x0]
noncomputable def g100c94L0 (k : Nat) (x0 : LL) (x1 x2 : Int) : Option (Int) := F100c94.lp [0] 0 r0 k [.l x0, .i x1, .i x2]
theorem g100c94L0_eq (k : Nat) (x0 : LL) (x1 x2 : Int) : g100c94L0 (k + 1) x0 x1 x2 =
 (if (cop .lss x2 x1) = true then
 elemK x0 x2 hs7 fun (r3 : Qt10) =>
 (g94 r3.1 r3.2.1 r3.2.2.1 r3.2.2.2.1 r3.2.2.2.2.1 r3.2.2.2.2.2.1 r3.2.2.2.2.2.2.1 r3.2.2.2.2.2.2.2.1 r3.2.2.2.2.2.2.2.2.1 r3.2.2.2.2.2.2.2.2.2.1 r3.2.2.2.2.2.2.2.2.2.2.1 r3.2.2.2.2.2.2.2.2.2.2.2.1 (d4 (d8 r3))).bind fun (r16 : Bool) =>
 if r16 = true then
 some (x2)
 else
 g100c94L0 k x0 x1 (iop .add .i64 x2 1)
 else
 some ((-1))) := by kernel_rfl
theorem g100c94_eq (x0 : LL) : g100c94 x0 =
 (g100c94L0 FUEL x0 (List.length x0 : Int) 0) := by kernel_rfl
noncomputable def F93c94 : Fn := ⟨9, [4], [], [], 0, [], [], Try.f93, [.c (.slice 13), .clo 94 []], [.c (.bool)], [(100, F100c94.S)]⟩
theorem ok93c94 : F93c94.S.Ok Try.prog 93 := F93c94.ok Try.func93 (by kernel_rfl) ⟨ok100c94, trivial⟩
noncomputable def g93c94 (x0 : LL) : Option (Bool) := F93c94.S.g [.l x0]
theorem g93c94_eq (x0 : LL) : g93c94 x0 =
 ((g100c94 x0).bind fun (r1 : Int) =>
 some ((cop .geq r1 0))) := by kernel_rfl
noncomputable def F95 : Fn := ⟨19, [5], [], [2], 0, [], [], Try.f95, [.c (.int .i64), .c (.int .i64), .box [.slice 13]], [.c (.bool)], [(86, F86.S)]⟩
theorem ok95 : F95.S.Ok Try.prog 95 := F95.ok Try.func95 (by kernel_rfl) ⟨ok86, trivial⟩
noncomputable def g95 (x0 x1 : Int) (x2 : LL) : Option (Bool × LL) := F95.S.g [.i x0, .i x1, .l x2]
theorem g95_eq (x0 x1 : Int) (x2 : LL) : g95 x0 x1 x2 =
 (elemK x2 x0 hs7 fun (r3 : Qt10) =>
 elemK x2 x1 hs7 fun (r16 : Qt10) =>
 (g86 r3.2.2.1 r3.2.2.2.1 r3.2.2.2.2.1 r16.2.2.1 r16.2.2.2.1 r16.2.2.2.2.1).bind fun (r29 : Bool) =>
 some (r29, x2)) := by kernel_rfl
noncomputable def F45c95 : Fn := ⟨17, [4], [(2, [(0, .c (.int .i64)), (1, .clo 95 [17]), (5, .c (.int .i64)), (17, .gbox [.slice 13])])], [], 1, [], [], Try.f45, [.c (.int .i64), .clo 95 [17], .dead, .dead, .dead, .dead, .dead, .dead, .dead, .dead, .dead, .dead, .dead, .dead, .dead, .dead, .dead, .gbox [.slice 13]], [.c (.bool)], [(95, F95.S)]⟩
theorem ok45c95 : F45c95.S.Ok Try.prog 45 := F45c95.ok Try.func45 (by kernel_rfl) ⟨ok95, trivial⟩
noncomputable def g45c95 (x0 : Int) (x1 : LL) : Option (Bool × LL) := F45c95.S.g [.i x0, .l x1]
noncomputable def g45c95L0 (k : Nat) (x0 x1 : Int) (x2 : LL) : Option (Bool × LL) := F45c95.lp [0] 0 r0 k [.i x0, .i x1, .l x2]
theorem g45c95L0_eq (k : Nat) (x0 x1 : Int) (x2 : LL) : g45c95L0 (k + 1) x0 x1 x2 =
 (if (cop .lss x1 x0) = true then
 (g95 (iop .sub .i64 x1 1) x1 x2).bind fun (r3 : Bool × LL) =>
 if (!r3.1) = true then
 some (false, r3.2)
 else
 g45c95L0 k x0 (iop .add .i64 x1 1) r3.2
 else
 some (true, x2)) := by kernel_rfl
theorem g45c95_eq (x0 : Int) (x1 : LL) : g45c95 x0 x1 =
 (g45c95L0 FUEL x0 1 x1) := by kernel_rfl
noncomputable def F72 : Fn := ⟨12, [2], [], [], 0, [], [], Try.f72, [.c (.slice 13)], [.c (.bool)], [(93, F93c94.S), (45, F45c95.S)]⟩
theorem ok72 : F72.S.Ok Try.prog 72 := F72.ok Try.func72 (by kernel_rfl) ⟨ok93c94, ⟨ok45c95, trivial⟩⟩
noncomputable def g72 (x0 : LL) : Option (Bool) := F72.S.g [.l x0]
theorem g72_eq (x0 : LL) : g72 x0 =
 ((g93c94 x0).bind fun (r1 : Bool) =>
 if (!r1) = true then
 (g45c95 (List.length x0 : Int) x0).bind fun (r2 : Bool × LL) =>
 some (r2.1)
 else
 some (false)) := by kernel_rfl
noncomputable def F73 : Fn := ⟨6, [2], [], [], 0, [], [], Try.f73, [.agg [.int .i64, .int .i64, .int .i64]], [.c (.bool)], [(34, F34.S)]⟩
theorem ok73 : F73.S.Ok Try.prog 73 := F73.ok Try.func73 (by kernel_rfl) ⟨ok34, trivial⟩
noncomputable def g73 (x0 x1 x2 : Int) : Option (Bool) := F73.S.g [.i x0, .i x1, .i x2]
theorem g73_eq (x0 x1 x2 : Int) : g73 x0 x1 x2 =
 ((g34 x0 x1 x2).bind fun (r3 : Bool) =>
 some ((!r3))) := by kernel_rfl
noncomputable def F64c73 : Fn := ⟨19, [4], [(2, [(0, .c (.slice 3)), (1, .clo 73 []), (7, .c (.int .i64)), (8, .c (.int .i64))])], [], 0, [], [], Try.f64, [.c (.slice 3), .clo 73 []], [.c (.int .i64)], [(73, F73.S)]⟩
theorem ok64c73 : F64c73.S.Ok Try.prog 64 := F64c73.ok Try.func64 (by kernel_rfl) ⟨ok73, trivial⟩
noncomputable def g64c73 (x0 : LL) : Option (Int) := F64c73.S.g [.l x0]
noncomputable def g64c73L0 (k : Nat) (x0 : LL) (x1 x2 : Int) : Option (Int) := F64c73.lp [0] 0 r0 k [.l x0, .i x1, .i x2]
theorem g64c73L0_eq (k : Nat) (x0 : LL) (x1 x2 : Int) : g64c73L0 (k + 1) x0 x1 x2 =
 (if (cop .lss x2 x1) = true then
 elemK x0 x2 [.int .i64, .int .i64, .int .i64] fun (r3 : Int × Int × Int) =>
 (g73 r3.1 r3.2.1 r3.2.2).bind fun (r6 : Bool) =>
 if r6 = true then
 some (x2)
 else
 g64c73L0 k x0 x1 (iop .add .i64 x2 1)
 else
 some ((-1))) := by kernel_rfl
theorem g64c73_eq (x0 : LL) : g64c73 x0 =
 (g64c73L0 FUEL x0 (List.length x0 : Int) 0) := by kernel_rfl
noncomputable def F40c73 : Fn := ⟨9, [4], [], [], 0, [], [], Try.f40, [.c (.slice 3), .clo 73 []], [.c (.bool)], [(64, F64c73.S)]⟩
theorem ok40c73 : F40c73.S.Ok Try.prog 40 := F40c73.ok Try.func40 (by kernel_rfl) ⟨ok64c73, trivial⟩
noncomputable def g40c73 (x0 : LL) : Option (Bool) := F40c73.S.g [.l x0]
theorem g40c73_eq (x0 : LL) : g40c73 x0 =
 ((g64c73 x0).bind fun (r1 : Int) =>
 some ((cop .geq r1 0))) := by kernel_rfl
noncomputable def F49 : Fn := ⟨32, [2], [], [], 0, [], [], Try.f49, [.agg hs12], [.c (.bool)], [(68, F68.S), (69, F69.S), (70, F70.S), (71, F71.S), (72, F72.S), (40, F40c73.S)]⟩
theorem ok49 : F49.S.Ok Try.prog 49 := F49.ok Try.func49 (by kernel_rfl) ⟨ok68, ⟨ok69, ⟨ok70, ⟨ok71, ⟨ok72, ⟨ok40c73, trivial⟩⟩⟩⟩⟩⟩
noncomputable def g49 (x0 x1 x2 x3 x4 x5 : LL) : Option (Bool) := F49.S.g [.l x0, .l x1, .l x2, .l x3, .l x4, .l x5]
theorem g49_eq (x0 x1 x2 x3 x4 x5 : LL) : g49 x0 x1 x2 x3 x4 x5 =
 ((g68 x0).bind fun (r6 : Bool) =>
 if r6 = true then
 (g69 x1).bind fun (r7 : Bool) =>
 if r7 = true then
 (g70 x2).bind fun (r8 : Bool) =>
 if r8 = true then
 (g71 x3).bind fun (r9 : Bool) =>
 if r9 = true then
 (g72 x4).bind fun (r10 : Bool) =>
 if r10 = true then
 (g40c73 x5).bind fun (r11 : Bool) =>
 some ((!r11))
 else
 some (false)
 else
 some (false)
 else
 some (false)
 else
 some (false)
 else
 some (false)) := by kernel_rfl
noncomputable def F47 : Fn := ⟨26, [2], [], [], 0, [], [], Try.f47, [.agg hs4], [.c (.bool)], [(20, F20.S), (48, F48.S), (49, F49.S)]⟩
theorem ok47 : F47.S.Ok Try.prog 47 := F47.ok Try.func47 (by kernel_rfl) ⟨ok20, ⟨ok48, ⟨ok49, trivial⟩⟩⟩
noncomputable def g47 (x0 x1 : Int) (x2 x3 x4 x5 x6 x7 x8 x9 : LL) (x10 : Bool) (x11 : Int) (x12 x13 x14 x15 x16 x17 x18 x19 : LL) : Option (Bool) := F47.S.g [.i x0, .i x1, .l x2, .l x3, .l x4, .l x5, .l x6, .l x7, .l x8, .l x9, .b x10, .i x11, .l x12, .l x13, .l x14, .l x15, .l x16, .l x17, .l x18, .l x19]
theorem g47_eq (x0 x1 : Int) (x2 x3 x4 x5 x6 x7 x8 x9 : LL) (x10 : Bool) (x11 : Int) (x12 x13 x14 x15 x16 x17 x18 x19 : LL) : g47 x0 x1 x2 x3 x4 x5 x6 x7 x8 x9 x10 x11 x12 x13 x14 x15 x16 x17 x18 x19 =
 ((g20 x0).bind fun (r20 : Bool) =>
 if r20 = true then
 (g48 x1 x2 x3).bind fun (r21 : Bool) =>
 if r21 = true then
 (g49 x4 x5 x6 x7 x8 x9).bind fun (r22 : Bool) =>
 if r22 = true then
 (g48 x11 x12 x13).bind fun (r23 : Bool) =>
 if r23 = true then
 (g49 x14 x15 x16 x17 x18 x19).bind fun (r24 : Bool) =>
 some (r24)
 else
 some (false)
 else
 some (false)
 else
 some (false)
 else
 some (false)) := by kernel_rfl
noncomputable def F37 : Fn := ⟨6, [2], [], [], 0, [], [], Try.f37, [.agg hs8], [.c (.bool)], [(38, F38.S)]⟩
theorem ok37 : F37.S.Ok Try.prog 37 := F37.ok Try.func37 (by kernel_rfl) ⟨ok38, trivial⟩
noncomputable def g37 (x0 x1 x2 : Int) (x3 : LL) (x4 x5 x6 x7 x8 x9 : Int) (x10 : Bool) : Option (Bool) := F37.S.g [.i x0, .i x1, .i x2, .l x3, .i x4, .i x5, .i x6, .i x7, .i x8, .i x9, .b x10]
theorem g37_eq (x0 x1 x2 : Int) (x3 : LL) (x4 x5 x6 x7 x8 x9 : Int) (x10 : Bool) : g37 x0 x1 x2 x3 x4 x5 x6 x7 x8 x9 x10 =
 ((g38 x0 x1 x2 x3 x4 x5 x6 x7 x8 x9 x10).bind fun (r11 : Bool) =>
 some ((!r11))) := by kernel_rfl
noncomputable def F62c37 : Fn := ⟨19, [4], [(2, [(0, .c (.slice 11)), (1, .clo 37 []), (7, .c (.int .i64)), (8, .c (.int .i64))])], [], 0, [], [], Try.f62, [.c (.slice 11), .clo 37 []], [.c (.int .i64)], [(37, F37.S)]⟩
theorem ok62c37 : F62c37.S.Ok Try.prog 62 := F62c37.ok Try.func62 (by kernel_rfl) ⟨ok37, trivial⟩
noncomputable def g62c37 (x0 : LL) : Option (Int) := F62c37.S.g [.l x0]
noncomputable def g62c37L0 (k : Nat) (x0 : LL) (x1 x2 : Int) : Option (Int) := F62c37.lp [0] 0 r0 k [.l x0, .i x1, .i x2]
theorem g62c37L0_eq (k : Nat) (x0 : LL) (x1 x2 : Int) : g62c37L0 (k + 1) x0 x1 x2 =
 (if (cop .lss x2 x1) = true then
 elemK x0 x2 hs8 fun (r3 : Qt13) =>
 (g37 r3.1 r3.2.1 r3.2.2.1 r3.2.2.2.1 r3.2.2.2.2.1 r3.2.2.2.2.2.1 r3.2.2.2.2.2.2.1 r3.2.2.2.2.2.2.2.1 r3.2.2.2.2.2.2.2.2.1 r3.2.2.2.2.2.2.2.2.2.1 r3.2.2.2.2.2.2.2.2.2.2).bind fun (r14 : Bool) =>
 if r14 = true then
 some (x2)
 else
 g62c37L0 k x0 x1 (iop .add .i64 x2 1)
 else
 some ((-1))) := by kernel_rfl
theorem g62c37_eq (x0 : LL) : g62c37 x0 =
 (g62c37L0 FUEL x0 (List.length x0 : Int) 0) := by kernel_rfl
noncomputable def F36c37 : Fn := ⟨9, [4], [], [], 0, [], [], Try.f36, [.c (.slice 11), .clo 37 []], [.c (.bool)], [(62, F62c37.S)]⟩
theorem ok36c37 : F36c37.S.Ok Try.prog 36 := F36c37.ok Try.func36 (by kernel_rfl) ⟨ok62c37, trivial⟩
noncomputable def g36c37 (x0 : LL) : Option (Bool) := F36c37.S.g [.l x0]
theorem g36c37_eq (x0 : LL) : g36c37 x0 =
 ((g62c37 x0).bind fun (r1 : Int) =>
 some ((cop .geq r1 0))) := by kernel_rfl
noncomputable def F41 : Fn := ⟨6, [2], [], [], 0, [], [], Try.f41, [.agg [.int .i64, .int .i64, .int .i64]], [.c (.bool)], [(42, F42.S)]⟩
theorem ok41 : F41.S.Ok Try.prog 41 := F41.ok Try.func41 (by kernel_rfl) ⟨ok42, trivial⟩
noncomputable def g41 (x0 x1 x2 : Int) : Option (Bool) := F41.S.g [.i x0, .i x1, .i x2]
theorem g41_eq (x0 x1 x2 : Int) : g41 x0 x1 x2 =
 ((g42 x0 x1 x2).bind fun (r3 : Bool) =>
 some ((!r3))) := by kernel_rfl
noncomputable def F64c41 : Fn := ⟨19, [4], [(2, [(0, .c (.slice 3)), (1, .clo 41 []), (7, .c (.int .i64)), (8, .c (.int .i64))])], [], 0, [], [], Try.f64, [.c (.slice 3), .clo 41 []], [.c (.int .i64)], [(41, F41.S)]⟩
theorem ok64c41 : F64c41.S.Ok Try.prog 64 := F64c41.ok Try.func64 (by kernel_rfl) ⟨ok41, trivial⟩
noncomputable def g64c41 (x0 : LL) : Option (Int) := F64c41.S.g [.l x0]
noncomputable def g64c41L0 (k : Nat) (x0 : LL) (x1 x2 : Int) : Option (Int) := F64c41.lp [0] 0 r0 k [.l x0, .i x1, .i x2]
theorem g64c41L0_eq (k : Nat) (x0 : LL) (x1 x2 : Int) : g64c41L0 (k + 1) x0 x1 x2 =
 (if (cop .lss x2 x1) = true then
 elemK x0 x2 [.int .i64, .int .i64, .int .i64] fun (r3 : Int × Int × Int) =>
 (g41 r3.1 r3.2.1 r3.2.2).bind fun (r6 : Bool) =>
 if r6 = true then
 some (x2)
 else
 g64c41L0 k x0 x1 (iop .add .i64 x2 1)
 else
 some ((-1))) := by kernel_rfl
theorem g64c41_eq (x0 : LL) : g64c41 x0 =
 (g64c41L0 FUEL x0 (List.length x0 : Int) 0) := by kernel_rfl
noncomputable def F40c41 : Fn := ⟨9, [4], [], [], 0, [], [], Try.f40, [.c (.slice 3), .clo 41 []], [.c (.bool)], [(64, F64c41.S)]⟩
theorem ok40c41 : F40c41.S.Ok Try.prog 40 := F40c41.ok Try.func40 (by kernel_rfl) ⟨ok64c41, trivial⟩
noncomputable def g40c41 (x0 : LL) : Option (Bool) := F40c41.S.g [.l x0]
theorem g40c41_eq (x0 : LL) : g40c41 x0 =
 ((g64c41 x0).bind fun (r1 : Int) =>
 some ((cop .geq r1 0))) := by kernel_rfl
noncomputable def F44 : Fn := ⟨6, [2], [], [], 0, [], [], Try.f44, [.c (.int .i64)], [.c (.bool)], [(20, F20.S)]⟩
theorem ok44 : F44.S.Ok Try.prog 44 := F44.ok Try.func44 (by kernel_rfl) ⟨ok20, trivial⟩
noncomputable def g44 (x0 : Int) : Option (Bool) := F44.S.g [.i x0]
theorem g44_eq (x0 : Int) : g44 x0 =
 ((g20 x0).bind fun (r1 : Bool) =>
 some ((!r1))) := by kernel_rfl
noncomputable def F65c44 : Fn := ⟨19, [4], [(2, [(0, .c (.slice 1)), (1, .clo 44 []), (7, .c (.int .i64)), (8, .c (.int .i64))])], [], 0, [], [], Try.f65, [.c (.slice 1), .clo 44 []], [.c (.int .i64)], [(44, F44.S)]⟩
theorem ok65c44 : F65c44.S.Ok Try.prog 65 := F65c44.ok Try.func65 (by kernel_rfl) ⟨ok44, trivial⟩
noncomputable def g65c44 (x0 : LL) : Option (Int) := F65c44.S.g [.l x0]
noncomputable def g65c44L0 (k : Nat) (x0 : LL) (x1 x2 : Int) : Option (Int) := F65c44.lp [0] 0 r0 k [.l x0, .i x1, .i x2]
theorem g65c44L0_eq (k : Nat) (x0 : LL) (x1 x2 : Int) : g65c44L0 (k + 1) x0 x1 x2 =
 (if (cop .lss x2 x1) = true then
 elemK x0 x2 [.int .i64] fun (r3 : Int) =>
 (g44 r3).bind fun (r4 : Bool) =>
 if r4 = true then
 some (x2)
 else
 g65c44L0 k x0 x1 (iop .add .i64 x2 1)
 else
 some ((-1))) := by kernel_rfl
theorem g65c44_eq (x0 : LL) : g65c44 x0 =
 (g65c44L0 FUEL x0 (List.length x0 : Int) 0) := by kernel_rfl
noncomputable def F43c44 : Fn := ⟨9, [4], [], [], 0, [], [], Try.f43, [.c (.slice 1), .clo 44 []], [.c (.bool)], [(65, F65c44.S)]⟩
theorem ok43c44 : F43c44.S.Ok Try.prog 43 := F43c44.ok Try.func43 (by kernel_rfl) ⟨ok65c44, trivial⟩
noncomputable def g43c44 (x0 : LL) : Option (Bool) := F43c44.S.g [.l x0]
theorem g43c44_eq (x0 : LL) : g43c44 x0 =
 ((g65c44 x0).bind fun (r1 : Int) =>
 some ((cop .geq r1 0))) := by kernel_rfl
noncomputable def F46 : Fn := ⟨17, [5], [], [2], 0, [], [], Try.f46, [.c (.int .i64), .c (.int .i64), .box hs0], [.c (.bool)], []⟩
theorem ok46 : F46.S.Ok Try.prog 46 := F46.ok Try.func46 (by kernel_rfl) trivial
noncomputable def g46 (x0 x1 x2 x3 x4 x5 x6 x7 x8 x9 x10 x11 x12 : Int) (x13 : Bool) (x14 x15 x16 x17 x18 x19 x20 x21 x22 x23 x24 x25 x26 x27 x28 x29 x30 x31 x32 x33 : Int) (x34 : LL) (x35 x36 x37 x38 x39 x40 : Int) (x41 : Bool) (x42 x43 x44 x45 : LL) (x46 x47 : Int) (x48 x49 x50 x51 x52 x53 x54 x55 : LL) (x56 x57 : Int) (x58 x59 x60 x61 x62 x63 x64 x65 : LL) (x66 : Bool) (x67 : Int) (x68 x69 x70 x71 x72 x73 x74 x75 : LL) : Option (Qt1) := F46.S.g [.i x0, .i x1, .i x2, .i x3, .i x4, .i x5, .i x6, .i x7, .i x8, .i x9, .i x10, .i x11, .i x12, .b x13, .i x14, .i x15, .i x16, .i x17, .i x18, .i x19, .i x20, .i x21, .i x22, .i x23, .i x24, .i x25, .i x26, .i x27, .i x28, .i x29, .i x30, .i x31, .i x32, .i x33, .l x34, .i x35, .i x36, .i x37, .i x38, .i x39, .i x40, .b x41, .l x42, .l x43, .l x44, .l x45, .i x46, .i x47, .l x48, .l x49, .l x50, .l x51, .l x52, .l x53, .l x54, .l x55, .i x56, .i x57, .l x58, .l x59, .l x60, .l x61, .l x62, .l x63, .l x64, .l x65, .b x66, .i x67, .l x68, .l x69, .l x70, .l x71, .l x72, .l x73, .l x74, .l x75]
theorem g46_eq (x0 x1 x2 x3 x4 x5 x6 x7 x8 x9 x10 x11 x12 : Int) (x13 : Bool) (x14 x15 x16 x17 x18 x19 x20 x21 x22 x23 x24 x25 x26 x27 x28 x29 x30 x31 x32 x33 : Int) (x34 : LL) (x35 x36 x37 x38 x39 x40 : Int) (x41 : Bool) (x42 x43 x44 x45 : LL) (x46 x47 : Int) (x48 x49 x50 x51 x52 x53 x54 x55 : LL) (x56 x57 : Int) (x58 x59 x60 x61 x62 x63 x64 x65 : LL) (x66 : Bool) (x67 : Int) (x68 x69 x70 x71 x72 x73 x74 x75 : LL) : g46 x0 x1 x2 x3 x4 x5 x6 x7 x8 x9 x10 x11 x12 x13 x14 x15 x16 x17 x18 x19 x20 x21 x22 x23 x24 x25 x26 x27 x28 x29 x30 x31 x32 x33 x34 x35 x36 x37 x38 x39 x40 x41 x42 x43 x44 x45 x46 x47 x48 x49 x50 x51 x52 x53 x54 x55 x56 x57 x58 x59 x60 x61 x62 x63 x64 x65 x66 x67 x68 x69 x70 x71 x72 x73 x74 x75 =
 (elemK x44 x0 [.int .i64] fun (r76 : Int) =>
 elemK x44 x1 [.int .i64] fun (r77 : Int) =>
 some ((cop .lss r76 r77), x2, x3, x4, x5, x6, x7, x8, x9, x10, x11, x12, x13, x14, x15, x16, x17, x18, x19, x20, x21, x22, x23, x24, x25, x26, x27, x28, x29, x30, x31, x32, x33, x34, x35, x36, x37, x38, x39, x40, x41, x42, x43, x44, x45, x46, x47, x48, x49, x50, x51, x52, x53, x54, x55, x56, x57, x58, x59, x60, x61, x62, x63, x64, x65, x66, x67, x68, x69, x70, x71, x72, x73, x74, x75)) := by kernel_rfl
noncomputable def F45c46 : Fn := ⟨17, [4], [(2, [(0, .c (.int .i64)), (1, .clo 46 [17]), (5, .c (.int .i64)), (17, .gbox hs0)])], [], 1, [], [], Try.f45, [.c (.int .i64), .clo 46 [17], .dead, .dead, .dead, .dead, .dead, .dead, .dead, .dead, .dead, .dead, .dead, .dead, .dead, .dead, .dead, .gbox hs0], [.c (.bool)], [(46, F46.S)]⟩
theorem ok45c46 : F45c46.S.Ok Try.prog 45 := F45c46.ok Try.func45 (by kernel_rfl) ⟨ok46, trivial⟩
noncomputable def g45c46 (x0 x1 x2 x3 x4 x5 x6 x7 x8 x9 x10 x11 : Int) (x12 : Bool) (x13 x14 x15 x16 x17 x18 x19 x20 x21 x22 x23 x24 x25 x26 x27 x28 x29 x30 x31 x32 : Int) (x33 : LL) (x34 x35 x36 x37 x38 x39 : Int) (x40 : Bool) (x41 x42 x43 x44 : LL) (x45 x46 : Int) (x47 x48 x49 x50 x51 x52 x53 x54 : LL) (x55 x56 : Int) (x57 x58 x59 x60 x61 x62 x63 x64 : LL) (x65 : Bool) (x66 : Int) (x67 x68 x69 x70 x71 x72 x73 x74 : LL) : Option (Qt1) := F45c46.S.g [.i x0, .i x1, .i x2, .i x3, .i x4, .i x5, .i x6, .i x7, .i x8, .i x9, .i x10, .i x11, .b x12, .i x13, .i x14, .i x15, .i x16, .i x17, .i x18, .i x19, .i x20, .i x21, .i x22, .i x23, .i x24, .i x25, .i x26, .i x27, .i x28, .i x29, .i x30, .i x31, .i x32, .l x33, .i x34, .i x35, .i x36, .i x37, .i x38, .i x39, .b x40, .l x41, .l x42, .l x43, .l x44, .i x45, .i x46, .l x47, .l x48, .l x49, .l x50, .l x51, .l x52, .l x53, .l x54, .i x55, .i x56, .l x57, .l x58, .l x59, .l x60, .l x61, .l x62, .l x63, .l x64, .b x65, .i x66, .l x67, .l x68, .l x69, .l x70, .l x71, .l x72, .l x73, .l x74]
noncomputable def g45c46L0 (k : Nat) (x0 x1 x2 x3 x4 x5 x6 x7 x8 x9 x10 x11 x12 : Int) (x13 : Bool) (x14 x15 x16 x17 x18 x19 x20 x21 x22 x23 x24 x25 x26 x27 x28 x29 x30 x31 x32 x33 : Int) (x34 : LL) (x35 x36 x37 x38 x39 x40 : Int) (x41 : Bool) (x42 x43 x44 x45 : LL) (x46 x47 : Int) (x48 x49 x50 x51 x52 x53 x54 x55 : LL) (x56 x57 : Int) (x58 x59 x60 x61 x62 x63 x64 x65 : LL) (x66 : Bool) (x67 : Int) (x68 x69 x70 x71 x72 x73 x74 x75 : LL) : Option (Qt1) := F45c46.lp [0] 0 r0 k [.i x0, .i x1, .i x2, .i x3, .i x4, .i x5, .i x6, .i x7, .i x8, .i x9, .i x10, .i x11, .i x12, .b x13, .i x14, .i x15, .i x16, .i x17, .i x18, .i x19, .i x20, .i x21, .i x22, .i x23, .i x24, .i x25, .i x26, .i x27, .i x28, .i x29, .i x30, .i x31, .i x32, .i x33, .l x34, .i x35, .i x36, .i x37, .i x38, .i x39, .i x40, .b x41, .l x42, .l x43, .l x44, .l x45, .i x46, .i x47, .l x48, .l x49, .l x50, .l x51, .l x52, .l x53, .l x54, .l x55, .i x56, .i x57, .l x58, .l x59, .l x60, .l x61, .l x62, .l x63, .l x64, .l x65, .b x66, .i x67, .l x68, .l x69, .l x70, .l x71, .l x72, .l x73, .l x74, .l x75]
theorem g45c46L0_eq (k : Nat) (x0 x1 x2 x3 x4 x5 x6 x7 x8 x9 x10 x11 x12 : Int) (x13 : Bool) (x14 x15 x16 x17 x18 x19 x20 x21 x22 x23 x24 x25 x26 x27 x28 x29 x30 x31 x32 x33 : Int) (x34 : LL) (x35 x36 x37 x38 x39 x40 : Int) (x41 : Bool) (x42 x43 x44 x45 : LL) (x46 x47 : Int) (x48 x49 x50 x51 x52 x53 x54 x55 : LL) (x56 x57 : Int) (x58 x59 x60 x61 x62 x63 x64 x65 : LL) (x66 : Bool) (x67 : Int) (x68 x69 x70 x71 x72 x73 x74 x75 : LL) : g45c46L0 (k + 1) x0 x1 x2 x3 x4 x5 x6 x7 x8 x9 x10 x11 x12 x13 x14 x15 x16 x17 x18 x19 x20 x21 x22 x23 x24 x25 x26 x27 x28 x29 x30 x31 x32 x33 x34 x35 x36 x37 x38 x39 x40 x41 x42 x43 x44 x45 x46 x47 x48 x49 x50 x51 x52 x53 x54 x55 x56 x57 x58 x59 x60 x61 x62 x63 x64 x65 x66 x67 x68 x69 x70 x71 x72 x73 x74 x75 =
 (if (cop .lss x1 x0) = true then
 (g46 (iop .sub .i64 x1 1) x1 x2 x3 x4 x5 x6 x7 x8 x9 x10 x11 x12 x13 x14 x15 x16 x17 x18 x19 x20 x21 x22 x23 x24 x25 x26 x27 x28 x29 x30 x31 x32 x33 x34 x35 x36 x37 x38 x39 x40 x41 x42 x43 x44 x45 x46 x47 x48 x49 x50 x51 x52 x53 x54 x55 x56 x57 x58 x59 x60 x61 x62 x63 x64 x65 x66 x67 x68 x69 x70 x71 x72 x73 x74 x75).bind fun (r76 : Qt1) =>
 if (!r76.1) = true then
 some (false, r76.2.1, r76.2.2.1, r76.2.2.2.1, r76.2.2.2.2.1, r76.2.2.2.2.2.1, r76.2.2.2.2.2.2.1, r76.2.2.2.2.2.2.2.1, r76.2.2.2.2.2.2.2.2.1, r76.2.2.2.2.2.2.2.2.2.1, r76.2.2.2.2.2.2.2.2.2.2.1, r76.2.2.2.2.2.2.2.2.2.2.2.1, (d4 (d8 r76)).1, (d4 (d8 r76)).2.1, (d2 (d4 (d8 r76))).1, (d2 (d4 (d8 r76))).2.1, (d16 r76).1, (d16 r76).2.1, (d2 (d16 r76)).1, (d2 (d16 r76)).2.1, (d4 (d16 r76)).1, (d4 (d16 r76)).2.1, (d2 (d4 (d16 r76))).1, (d2 (d4 (d16 r76))).2.1, (d8 (d16 r76)).1, (d8 (d16 r76)).2.1, (d2 (d8 (d16 r76))).1, (d2 (d8 (d16 r76))).2.1, (d4 (d8 (d16 r76))).1, (d4 (d8 (d16 r76))).2.1, (d2 (d4 (d8 (d16 r76)))).1, (d2 (d4 (d8 (d16 r76)))).2.1, (d16 (d16 r76)).1, (d16 (d16 r76)).2.1, (d2 (d16 (d16 r76))).1, (d2 (d16 (d16 r76))).2.1, (d4 (d16 (d16 r76))).1, (d4 (d16 (d16 r76))).2.1, (d2 (d4 (d16 (d16 r76)))).1, (d2 (d4 (d16 (d16 r76)))).2.1, (d8 (d16 (d16 r76))).1, (d8 (d16 (d16 r76))).2.1, (d2 (d8 (d16 (d16 r76)))).1, (d2 (d8 (d16 (d16 r76)))).2.1, (d4 (d8 (d16 (d16 r76)))).1, (d4 (d8 (d16 (d16 r76)))).2.1, (d2 (d4 (d8 (d16 (d16 r76))))).1, (d2 (d4 (d8 (d16 (d16 r76))))).2.1, (d16 (d16 (d16 r76))).1, (d16 (d16 (d16 r76))).2.1, (d2 (d16 (d16 (d16 r76)))).1, (d2 (d16 (d16 (d16 r76)))).2.1, (d4 (d16 (d16 (d16 r76)))).1, (d4 (d16 (d16 (d16 r76)))).2.1, (d2 (d4 (d16 (d16 (d16 r76))))).1, (d2 (d4 (d16 (d16 (d16 r76))))).2.1, (d8 (d16 (d16 (d16 r76)))).1, (d8 (d16 (d16 (d16 r76)))).2.1, (d2 (d8 (d16 (d16 (d16 r76))))).1, (d2 (d8 (d16 (d16 (d16 r76))))).2.1, (d4 (d8 (d16 (d16 (d16 r76))))).1, (d4 (d8 (d16 (d16 (d16 r76))))).2.1, (d2 (d4 (d8 (d16 (d16 (d16 r76)))))).1, (d2 (d4 (d8 (d16 (d16 (d16 r76)))))).2.1, (d16 (d16 (d16 (d16 r76)))).1, (d16 (d16 (d16 (d16 r76)))).2.1, (d2 (d16 (d16 (d16 (d16 r76))))).1, (d2 (d16 (d16 (d16 (d16 r76))))).2.1, (d4 (d16 (d16 (d16 (d16 r76))))).1, (d4 (d16 (d16 (d16 (d16 r76))))).2.1, (d2 (d4 (d16 (d16 (d16 (d16 r76)))))).1, (d2 (d4 (d16 (d16 (d16 (d16 r76)))))).2.1, (d8 (d16 (d16 (d16 (d16 r76))))).1, (d8 (d16 (d16 (d16 (d16 r76))))).2.1, (d2 (d8 (d16 (d16 (d16 (d16 r76)))))))
 else
 g45c46L0 k x0 (iop .add .i64 x1 1) r76.2.1 r76.2.2.1 r76.2.2.2.1 r76.2.2.2.2.1 r76.2.2.2.2.2.1 r76.2.2.2.2.2.2.1 r76.2.2.2.2.2.2.2.1 r76.2.2.2.2.2.2.2.2.1 r76.2.2.2.2.2.2.2.2.2.1 r76.2.2.2.2.2.2.2.2.2.2.1 r76.2.2.2.2.2.2.2.2.2.2.2.1 (d4 (d8 r76)).1 (d4 (d8 r76)).2.1 (d2 (d4 (d8 r76))).1 (d2 (d4 (d8 r76))).2.1 (d16 r76).1 (d16 r76).2.1 (d2 (d16 r76)).1 (d2 (d16 r76)).2.1 (d4 (d16 r76)).1 (d4 (d16 r76)).2.1 (d2 (d4 (d16 r76))).1 (d2 (d4 (d16 r76))).2.1 (d8 (d16 r76)).1 (d8 (d16 r76)).2.1 (d2 (d8 (d16 r76))).1 (d2 (d8 (d16 r76))).2.1 (d4 (d8 (d16 r76))).1 (d4 (d8 (d16 r76))).2.1 (d2 (d4 (d8 (d16 r76)))).1 (d2 (d4 (d8 (d16 r76)))).2.1 (d16 (d16 r76)).1 (d16 (d16 r76)).2.1 (d2 (d16 (d16 r76))).1 (d2 (d16 (d16 r76))).2.1 (d4 (d16 (d16 r76))).1 (d4 (d16 (d16 r76))).2.1 (d2 (d4 (d16 (d16 r76)))).1 (d2 (d4 (d16 (d16 r76)))).2.1 (d8 (d16 (d16 r76))).1 (d8 (d16 (d16 r76))).2.1 (d2 (d8 (d16 (d16 r76)))).1 (d2 (d8 (d16 (d16 r76)))).2.1 (d4 (d8 (d16 (d16 r76)))).1 (d4 (d8 (d16 (d16 r76)))).2.1 (d2 (d4 (d8 (d16 (d16 r76))))).1 (d2 (d4 (d8 (d16 (d16 r76))))).2.1 (d16 (d16 (d16 r76))).1 (d16 (d16 (d16 r76))).2.1 (d2 (d16 (d16 (d16 r76)))).1 (d2 (d16 (d16 (d16 r76)))).2.1 (d4 (d16 (d16 (d16 r76)))).1 (d4 (d16 (d16 (d16 r76)))).2.1 (d2 (d4 (d16 (d16 (d16 r76))))).1 (d2 (d4 (d16 (d16 (d16 r76))))).2.1 (d8 (d16 (d16 (d16 r76)))).1 (d8 (d16 (d16 (d16 r76)))).2.1 (d2 (d8 (d16 (d16 (d16 r76))))).1 (d2 (d8 (d16 (d16 (d16 r76))))).2.1 (d4 (d8 (d16 (d16 (d16 r76))))).1 (d4 (d8 (d16 (d16 (d16 r76))))).2.1 (d2 (d4 (d8 (d16 (d16 (d16 r76)))))).1 (d2 (d4 (d8 (d16 (d16 (d16 r76)))))).2.1 (d16 (d16 (d16 (d16 r76)))).1 (d16 (d16 (d16 (d16 r76)))).2.1 (d2 (d16 (d16 (d16 (d16 r76))))).1 (d2 (d16 (d16 (d16 (d16 r76))))).2.1 (d4 (d16 (d16 (d16 (d16 r76))))).1 (d4 (d16 (d16 (d16 (d16 r76))))).2.1 (d2 (d4 (d16 (d16 (d16 (d16 r76)))))).1 (d2 (d4 (d16 (d16 (d16 (d16 r76)))))).2.1 (d8 (d16 (d16 (d16 (d16 r76))))).1 (d8 (d16 (d16 (d16 (d16 r76))))).2.1 (d2 (d8 (d16 (d16 (d16 (d16 r76))))))
 else
 some (true, x2, x3, x4, x5, x6, x7, x8, x9, x10, x11, x12, x13, x14, x15, x16, x17, x18, x19, x20, x21, x22, x23, x24, x25, x26, x27, x28, x29, x30, x31, x32, x33, x34, x35, x36, x37, x38, x39, x40, x41, x42, x43, x44, x45, x46, x47, x48, x49, x50, x51, x52, x53, x54, x55, x56, x57, x58, x59, x60, x61, x62, x63, x64, x65, x66, x67, x68, x69, x70, x71, x72, x73, x74, x75)) := by kernel_rfl
theorem g45c46_eq (x0 x1 x2 x3 x4 x5 x6 x7 x8 x9 x10 x11 : Int) (x12 : Bool) (x13 x14 x15 x16 x17 x18 x19 x20 x21 x22 x23 x24 x25 x26 x27 x28 x29 x30 x31 x32 : Int) (x33 : LL) (x34 x35 x36 x37 x38 x39 : Int) (x40 : Bool) (x41 x42 x43 x44 : LL) (x45 x46 : Int) (x47 x48 x49 x50 x51 x52 x53 x54 : LL) (x55 x56 : Int) (x57 x58 x59 x60 x61 x62 x63 x64 : LL) (x65 : Bool) (x66 : Int) (x67 x68 x69 x70 x71 x72 x73 x74 : LL) : g45c46 x0 x1 x2 x3 x4 x5 x6 x7 x8 x9 x10 x11 x12 x13 x14 x15 x16 x17 x18 x19 x20 x21 x22 x23 x24 x25 x26 x27 x28 x29 x30 x31 x32 x33 x34 x35 x36 x37 x38 x39 x40 x41 x42 x43 x44 x45 x46 x47 x48 x49 x50 x51 x52 x53 x54 x55 x56 x57 x58 x59 x60 x61 x62 x63 x64 x65 x66 x67 x68 x69 x70 x71 x72 x73 x74 =
 (g45c46L0 FUEL x0 1 x1 x2 x3 x4 x5 x6 x7 x8 x9 x10 x11 x12 x13 x14 x15 x16 x17 x18 x19 x20 x21 x22 x23 x24 x25 x26 x27 x28 x29 x30 x31 x32 x33 x34 x35 x36 x37 x38 x39 x40 x41 x42 x43 x44 x45 x46 x47 x48 x49 x50 x51 x52 x53 x54 x55 x56 x57 x58 x59 x60 x61 x62 x63 x64 x65 x66 x67 x68 x69 x70 x71 x72 x73 x74) := by kernel_rfl
noncomputable def F51 : Fn := ⟨13, [2], [], [], 0, [], [], Try.f51, [.agg [.int .i64, .int .i64]], [.c (.bool)], [(32, F32.S), (20, F20.S)]⟩
theorem ok51 : F51.S.Ok Try.prog 51 := F51.ok Try.func51 (by kernel_rfl) ⟨ok32, ⟨ok20, trivial⟩⟩
noncomputable def g51 (x0 x1 : Int) : Option (Bool) := F51.S.g [.i x0, .i x1]
theorem g51_eq (x0 x1 : Int) : g51 x0 x1 =
 ((g32 x0).bind fun (r2 : Bool) =>
 if (!r2) = true then
 some (true)
 else
 (g20 x1).bind fun (r3 : Bool) =>
 some ((!r3))) := by kernel_rfl
noncomputable def F74c51 : Fn := ⟨19, [4], [(2, [(0, .c (.slice 2)), (1, .clo 51 []), (7, .c (.int .i64)), (8, .c (.int .i64))])], [], 0, [], [], Try.f74, [.c (.slice 2), .clo 51 []], [.c (.int .i64)], [(51, F51.S)]⟩
theorem ok74c51 : F74c51.S.Ok Try.prog 74 := F74c51.ok Try.func74 (by kernel_rfl) ⟨ok51, trivial⟩
noncomputable def g74c51 (x0 : LL) : Option (Int) := F74c51.S.g [.l x0]
noncomputable def g74c51L0 (k : Nat) (x0 : LL) (x1 x2 : Int) : Option (Int) := F74c51.lp [0] 0 r0 k [.l x0, .i x1, .i x2]
theorem g74c51L0_eq (k : Nat) (x0 : LL) (x1 x2 : Int) : g74c51L0 (k + 1) x0 x1 x2 =
 (if (cop .lss x2 x1) = true then
 elemK x0 x2 [.int .i64, .int .i64] fun (r3 : Int × Int) =>
 (g51 r3.1 r3.2).bind fun (r5 : Bool) =>
 if r5 = true then
 some (x2)
 else
 g74c51L0 k x0 x1 (iop .add .i64 x2 1)
 else
 some ((-1))) := by kernel_rfl
theorem g74c51_eq (x0 : LL) : g74c51 x0 =
 (g74c51L0 FUEL x0 (List.length x0 : Int) 0) := by kernel_rfl
noncomputable def F50c51 : Fn := ⟨9, [4], [], [], 0, [], [], Try.f50, [.c (.slice 2), .clo 51 []], [.c (.bool)], [(74, F74c51.S)]⟩
theorem ok50c51 : F50c51.S.Ok Try.prog 50 := F50c51.ok Try.func50 (by kernel_rfl) ⟨ok74c51, trivial⟩
noncomputable def g50c51 (x0 : LL) : Option (Bool) := F50c51.S.g [.l x0]
theorem g50c51_eq (x0 : LL) : g50c51 x0 =
 ((g74c51 x0).bind fun (r1 : Int) =>
 some ((cop .geq r1 0))) := by kernel_rfl
noncomputable def F21 : Fn := ⟨114, [4], [], [], 0, [], [], Try.f21, [.agg hs0, .c (.int .i64)], [.c (.bool)], [(32, F32.S), (33, F33.S), (34, F34.S), (35, F35.S), (36, F36c37.S), (39, F39.S), (40, F40c41.S), (19, F19.S), (43, F43c44.S), (45, F45c46.S), (47, F47.S), (48, F48.S), (49, F49.S), (50, F50c51.S)]⟩
theorem ok21 : F21.S.Ok Try.prog 21 := F21.ok Try.func21 (by kernel_rfl) ⟨ok32, ⟨ok33, ⟨ok34, ⟨ok35, ⟨ok36c37, ⟨ok39, ⟨ok40c41, ⟨ok19, ⟨ok43c44, ⟨ok45c46, ⟨ok47, ⟨ok48, ⟨ok49, ⟨ok50c51, trivial⟩⟩⟩⟩⟩⟩⟩⟩⟩⟩⟩⟩⟩⟩
noncomputable def g21 (x0 x1 x2 x3 x4 x5 x6 x7 x8 x9 x10 : Int) (x11 : Bool) (x12 x13 x14 x15 x16 x17 x18 x19 x20 x21 x22 x23 x24 x25 x26 x27 x28 x29 x30 x31 : Int) (x32 : LL) (x33 x34 x35 x36 x37 x38 : Int) (x39 : Bool) (x40 x41 x42 x43 : LL) (x44 x45 : Int) (x46 x47 x48 x49 x50 x51 x52 x53 : LL) (x54 x55 : Int) (x56 x57 x58 x59 x60 x61 x62 x63 : LL) (x64 : Bool) (x65 : Int) (x66 x67 x68 x69 x70 x71 x72 x73 : LL) (x74 : Int) : Option (Bool) := F21.S.g [.i x0, .i x1, .i x2, .i x3, .i x4, .i x5, .i x6, .i x7, .i x8, .i x9, .i x10, .b x11, .i x12, .i x13, .i x14, .i x15, .i x16, .i x17, .i x18, .i x19, .i x20, .i x21, .i x22, .i x23, .i x24, .i x25, .i x26, .i x27, .i x28, .i x29, .i x30, .i x31, .l x32, .i x33, .i x34, .i x35, .i x36, .i x37, .i x38, .b x39, .l x40, .l x41, .l x42, .l x43, .i x44, .i x45, .l x46, .l x47, .l x48, .l x49, .l x50, .l x51, .l x52, .l x53, .i x54, .i x55, .l x56, .l x57, .l x58, .l x59, .l x60, .l x61, .l x62, .l x63, .b x64, .i x65, .l x66, .l x67, .l x68, .l x69, .l x70, .l x71, .l x72, .l x73, .i x74]
theorem g21_eq (x0 x1 x2 x3 x4 x5 x6 x7 x8 x9 x10 : Int) (x11 : Bool) (x12 x13 x14 x15 x16 x17 x18 x19 x20 x21 x22 x23 x24 x25 x26 x27 x28 x29 x30 x31 : Int) (x32 : LL) (x33 x34 x35 x36 x37 x38 : Int) (x39 : Bool) (x40 x41 x42 x43 : LL) (x44 x45 : Int) (x46 x47 x48 x49 x50 x51 x52 x53 : LL) (x54 x55 : Int) (x56 x57 x58 x59 x60 x61 x62 x63 : LL) (x64 : Bool) (x65 : Int) (x66 x67 x68 x69 x70 x71 x72 x73 : LL) (x74 : Int) : g21 x0 x1 x2 x3 x4 x5 x6 x7 x8 x9 x10 x11 x12 x13 x14 x15 x16 x17 x18 x19 x20 x21 x22 x23 x24 x25 x26 x27 x28 x29 x30 x31 x32 x33 x34 x35 x36 x37 x38 x39 x40 x41 x42 x43 x44 x45 x46 x47 x48 x49 x50 x51 x52 x53 x54 x55 x56 x57 x58 x59 x60 x61 x62 x63 x64 x65 x66 x67 x68 x69 x70 x71 x72 x73 x74 =
 (if (cop .eql x74 0) = true then
 (g32 x5).bind fun (r75 : Bool) =>
 some (r75)
 else
 if (cop .eql x74 1) = true then
 (g33 x12 x13 x14 x15 x16 x17 x18 x19 x20 x21 x22 x23 x24 x25 x26 x27 x28 x29 x30 x31 x32 x33 x34 x35 x36 x37 x38 x39).bind fun (r75 : Bool) =>
 some (r75)
 else
 if (cop .eql x74 2) = true then
 (g34 x7 x8 x9).bind fun (r75 : Bool) =>
 some (r75)
 else
 if (cop .eql x74 3) = true then
 (g35 x10).bind fun (r75 : Bool) =>
 some (r75)
 else
 if (cop .eql x74 5) = true then
 if (cop .gtr (List.length x41 : Int) 8) = true then
 some (false)
 else
 if (cop .eql x0 4) = true then
 if (cop .neq (List.length x41 : Int) 1) = true then
 some (false)
 else
 (g36c37 x41).bind fun (r75 : Bool) =>
 some ((!r75))
 else
 (g36c37 x41).bind fun (r75 : Bool) =>
 some ((!r75))
 else
 if (cop .eql x74 6) = true then
 (g39 x6).bind fun (r75 : Bool) =>
 some (r75)
 else
 if (cop .eql x74 7) = true then
 if (cop .leq (List.length x40 : Int) 64) = true then
 (g40c41 x40).bind fun (r75 : Bool) =>
 some ((!r75))
 else
 some (false)
 else
 if (cop .eql x74 8) = true then
 (g19 x4).bind fun (r75 : Bool) =>
 some (r75)
 else
 if (cop .eql x74 9) = true then
 (g43c44 x42).bind fun (r75 : Bool) =>
 if (!r75) = true then
 (g45c46 (List.length x42 : Int) x0 x1 x2 x3 x4 x5 x6 x7 x8 x9 x10 x11 x12 x13 x14 x15 x16 x17 x18 x19 x20 x21 x22 x23 x24 x25 x26 x27 x28 x29 x30 x31 x32 x33 x34 x35 x36 x37 x38 x39 x40 x41 x42 x43 x44 x45 x46 x47 x48 x49 x50 x51 x52 x53 x54 x55 x56 x57 x58 x59 x60 x61 x62 x63 x64 x65 x66 x67 x68 x69 x70 x71 x72 x73).bind fun (r76 : Qt1) =>
 some (r76.1)
 else
 some (false)
 else
 if (cop .eql x74 10) = true then
 (g47 x54 x55 x56 x57 x58 x59 x60 x61 x62 x63 x64 x65 x66 x67 x68 x69 x70 x71 x72 x73).bind fun (r75 : Bool) =>
 some (r75)
 else
 if (cop .eql x74 11) = true then
 (g19 x44).bind fun (r75 : Bool) =>
 some (r75)
 else
 if (cop .eql x74 12) = true then
 (g48 x45 x46 x47).bind fun (r75 : Bool) =>
 some (r75)
 else
 if (cop .eql x74 13) = true then
 (g49 x48 x49 x50 x51 x52 x53).bind fun (r75 : Bool) =>
 some (r75)
 else
 if (cop .eql x74 14) = true then
 if (cop .leq (List.length x43 : Int) 16) = true then
 (g50c51 x43).bind fun (r75 : Bool) =>
 some ((!r75))
 else
 some (false)
 else
 some (true)) := by kernel_rfl
noncomputable def F22 : Fn := ⟨85, [], [], [0], 0, [], [], Try.f22, [.box hs0, .c (.int .i64)], [], []⟩
theorem ok22 : F22.S.Ok Try.prog 22 := F22.ok Try.func22 (by kernel_rfl) trivial
noncomputable def g22 (x0 x1 x2 x3 x4 x5 x6 x7 x8 x9 x10 : Int) (x11 : Bool) (x12 x13 x14 x15 x16 x17 x18 x19 x20 x21 x22 x23 x24 x25 x26 x27 x28 x29 x30 x31 : Int) (x32 : LL) (x33 x34 x35 x36 x37 x38 : Int) (x39 : Bool) (x40 x41 x42 x43 : LL) (x44 x45 : Int) (x46 x47 x48 x49 x50 x51 x52 x53 : LL) (x54 x55 : Int) (x56 x57 x58 x59 x60 x61 x62 x63 : LL) (x64 : Bool) (x65 : Int) (x66 x67 x68 x69 x70 x71 x72 x73 : LL) (x74 : Int) : Option (Qt2) := F22.S.g [.i x0, .i x1, .i x2, .i x3, .i x4, .i x5, .i x6, .i x7, .i x8, .i x9, .i x10, .b x11, .i x12, .i x13, .i x14, .i x15, .i x16, .i x17, .i x18, .i x19, .i x20, .i x21, .i x22, .i x23, .i x24, .i x25, .i x26, .i x27, .i x28, .i x29, .i x30, .i x31, .l x32, .i x33, .i x34, .i x35, .i x36, .i x37, .i x38, .b x39, .l x40, .l x41, .l x42, .l x43, .i x44, .i x45, .l x46, .l x47, .l x48, .l x49, .l x50, .l x51, .l x52, .l x53, .i x54, .i x55, .l x56, .l x57, .l x58, .l x59, .l x60, .l x61, .l x62, .l x63, .b x64, .i x65, .l x66, .l x67, .l x68, .l x69, .l x70, .l x71, .l x72, .l x73, .i x74]
theorem g22_eq (x0 x1 x2 x3 x4 x5 x6 x7 x8 x9 x10 : Int) (x11 : Bool) (x12 x13 x14 x15 x16 x17 x18 x19 x20 x21 x22 x23 x24 x25 x26 x27 x28 x29 x30 x31 : Int) (x32 : LL) (x33 x34 x35 x36 x37 x38 : Int) (x39 : Bool) (x40 x41 x42 x43 : LL) (x44 x45 : Int) (x46 x47 x48 x49 x50 x51 x52 x53 : LL) (x54 x55 : Int) (x56 x57 x58 x59 x60 x61 x62 x63 : LL) (x64 : Bool) (x65 : Int) (x66 x67 x68 x69 x70 x71 x72 x73 : LL) (x74 : Int) : g22 x0 x1 x2 x3 x4 x5 x6 x7 x8 x9 x10 x11 x12 x13 x14 x15 x16 x17 x18 x19 x20 x21 x22 x23 x24 x25 x26 x27 x28 x29 x30 x31 x32 x33 x34 x35 x36 x37 x38 x39 x40 x41 x42 x43 x44 x45 x46 x47 x48 x49 x50 x51 x52 x53 x54 x55 x56 x57 x58 x59 x60 x61 x62 x63 x64 x65 x66 x67 x68 x69 x70 x71 x72 x73 x74 =
 (if (cop .eql x74 0) = true then
 some (x0, x1, x2, x3, x4, 0, x6, x7, x8, x9, x10, x11, x12, x13, x14, x15, x16, x17, x18, x19, x20, x21, x22, x23, x24, x25, x26, x27, x28, x29, x30, x31, x32, x33, x34, x35, x36, x37, x38, x39, x40, x41, x42, x43, x44, x45, x46, x47, x48, x49, x50, x51, x52, x53, x54, x55, x56, x57, x58, x59, x60, x61, x62, x63, x64, x65, x66, x67, x68, x69, x70, x71, x72, x73)
 else
 if (cop .eql x74 1) = true then
 some (x0, x1, x2, x3, x4, x5, x6, x7, x8, x9, x10, x11, 0, 0, 0, 0, 0, 0, 0, 0, 0, 0, 0, 0, 0, 0, 0, 0, 0, 0, 0, 0, ([] : LL), 0, 0, 0, 0, 0, 0, false, x40, x41, x42, x43, x44, x45, x46, x47, x48, x49, x50, x51, x52, x53, x54, x55, x56, x57, x58, x59, x60, x61, x62, x63, x64, x65, x66, x67, x68, x69, x70, x71, x72, x73)
 else
 if (cop .eql x74 2) = true then
 some (x0, x1, x2, x3, x4, x5, x6, 0, 0, 0, x10, x11, x12, x13, x14, x15, x16, x17, x18, x19, x20, x21, x22, x23, x24, x25, x26, x27, x28, x29, x30, x31, x32, x33, x34, x35, x36, x37, x38, x39, x40, x41, x42, x43, x44, x45, x46, x47, x48, x49, x50, x51, x52, x53, x54, x55, x56, x57, x58, x59, x60, x61, x62, x63, x64, x65, x66, x67, x68, x69, x70, x71, x72, x73)
 else
 if (cop .eql x74 3) = true then
 some (x0, x1, x2, x3, x4, x5, x6, x7, x8, x9, 0, x11, x12, x13, x14, x15, x16, x17, x18, x19, x20, x21, x22, x23, x24, x25, x26, x27, x28, x29, x30, x31, x32, x33, x34, x35, x36, x37, x38, x39, x40, x41, x42, x43, x44, x45, x46, x47, x48, x49, x50, x51, x52, x53, x54, x55, x56, x57, x58, x59, x60, x61, x62, x63, x64, x65, x66, x67, x68, x69, x70, x71, x72, x73)
 else
 if (cop .eql x74 4) = true then
 some (x0, x1, x2, x3, x4, x5, x6, x7, x8, x9, x10, false, x12, x13, x14, x15, x16, x17, x18, x19, x20, x21, x22, x23, x24, x25, x26, x27, x28, x29, x30, x31, x32, x33, x34, x35, x36, x37, x38, x39, x40, x41, x42, x43, x44, x45, x46, x47, x48, x49, x50, x51, x52, x53, x54, x55, x56, x57, x58, x59, x60, x61, x62, x63, x64, x65, x66, x67, x68, x69, x70, x71, x72, x73)
 else
 if (cop .eql x74 5) = true then
 some (x0, x1, x2, x3, x4, x5, x6, x7, x8, x9, x10, x11, x12, x13, x14, x15, x16, x17, x18, x19, x20, x21, x22, x23, x24, x25, x26, x27, x28, x29, x30, x31, x32, x33, x34, x35, x36, x37, x38, x39, x40, ([] : LL), x42, x43, x44, x45, x46, x47, x48, x49, x50, x51, x52, x53, x54, x55, x56, x57, x58, x59, x60, x61, x62, x63, x64, x65, x66, x67, x68, x69, x70, x71, x72, x73)
 else
 if (cop .eql x74 6) = true then
 some (x0, x1, x2, x3, x4, x5, 0, x7, x8, x9, x10, x11, x12, x13, x14, x15, x16, x17, x18, x19, x20, x21, x22, x23, x24, x25, x26, x27, x28, x29, x30, x31, x32, x33, x34, x35, x36, x37, x38, x39, x40, x41, x42, x43, x44, x45, x46, x47, x48, x49, x50, x51, x52, x53, x54, x55, x56, x57, x58, x59, x60, x61, x62, x63, x64, x65, x66, x67, x68, x69, x70, x71, x72, x73)
 else
 if (cop .eql x74 7) = true then
 some (x0, x1, x2, x3, x4, x5, x6, x7, x8, x9, x10, x11, x12, x13, x14, x15, x16, x17, x18, x19, x20, x21, x22, x23, x24, x25, x26, x27, x28, x29, x30, x31, x32, x33, x34, x35, x36, x37, x38, x39, ([] : LL), x41, x42, x43, x44, x45, x46, x47, x48, x49, x50, x51, x52, x53, x54, x55, x56, x57, x58, x59, x60, x61, x62, x63, x64, x65, x66, x67, x68, x69, x70, x71, x72, x73)
 else
 if (cop .eql x74 8) = true then
 some (x0, x1, x2, x3, 0, x5, x6, x7, x8, x9, x10, x11, x12, x13, x14, x15, x16, x17, x18, x19, x20, x21, x22, x23, x24, x25, x26, x27, x28, x29, x30, x31, x32, x33, x34, x35, x36, x37, x38, x39, x40, x41, x42, x43, x44, x45, x46, x47, x48, x49, x50, x51, x52, x53, x54, x55, x56, x57, x58, x59, x60, x61, x62, x63, x64, x65, x66, x67, x68, x69, x70, x71, x72, x73)
 else
 if (cop .eql x74 9) = true then
 some (x0, x1, x2, x3, x4, x5, x6, x7, x8, x9, x10, x11, x12, x13, x14, x15, x16, x17, x18, x19, x20, x21, x22, x23, x24, x25, x26, x27, x28, x29, x30, x31, x32, x33, x34, x35, x36, x37, x38, x39, x40, x41, ([] : LL), x43, x44, x45, x46, x47, x48, x49, x50, x51, x52, x53, x54, x55, x56, x57, x58, x59, x60, x61, x62, x63, x64, x65, x66, x67, x68, x69, x70, x71, x72, x73)
 else
 if (cop .eql x74 10) = true then
 some (x0, x1, x2, x3, x4, x5, x6, x7, x8, x9, x10, x11, x12, x13, x14, x15, x16, x17, x18, x19, x20, x21, x22, x23, x24, x25, x26, x27, x28, x29, x30, x31, x32, x33, x34, x35, x36, x37, x38, x39, x40, x41, x42, x43, x44, x45, x46, x47, x48, x49, x50, x51, x52, x53, 0, 0, ([] : LL), ([] : LL), ([] : LL), ([] : LL), ([] : LL), ([] : LL), ([] : LL), ([] : LL), false, 0, ([] : LL), ([] : LL), ([] : LL), ([] : LL), ([] : LL), ([] : LL), ([] : LL), ([] : LL))
 else
 if (cop .eql x74 11) = true then
 some (x0, x1, x2, x3, x4, x5, x6, x7, x8, x9, x10, x11, x12, x13, x14, x15, x16, x17, x18, x19, x20, x21, x22, x23, x24, x25, x26, x27, x28, x29, x30, x31, x32, x33, x34, x35, x36, x37, x38, x39, x40, x41, x42, x43, 0, x45, x46, x47, x48, x49, x50, x51, x52, x53, x54, x55, x56, x57, x58, x59, x60, x61, x62, x63, x64, x65, x66, x67, x68, x69, x70, x71, x72, x73)
 else
 if (cop .eql x74 12) = true then
 some (x0, x1, x2, x3, x4, x5, x6, x7, x8, x9, x10, x11, x12, x13, x14, x15, x16, x17, x18, x19, x20, x21, x22, x23, x24, x25, x26, x27, x28, x29, x30, x31, x32, x33, x34, x35, x36, x37, x38, x39, x40, x41, x42, x43, x44, 0, ([] : LL), ([] : LL), x48, x49, x50, x51, x52, x53, x54, x55, x56, x57, x58, x59, x60, x61, x62, x63, x64, x65, x66, x67, x68, x69, x70, x71, x72, x73)
 else
 if (cop .eql x74 13) = true then
 some (x0, x1, x2, x3, x4, x5, x6, x7, x8, x9, x10, x11, x12, x13, x14, x15, x16, x17, x18, x19, x20, x21, x22, x23, x24, x25, x26, x27, x28, x29, x30, x31, x32, x33, x34, x35, x36, x37, x38, x39, x40, x41, x42, x43, x44, x45, x46, x47, ([] : LL), ([] : LL), ([] : LL), ([] : LL), ([] : LL), ([] : LL), x54, x55, x56, x57, x58, x59, x60, x61, x62, x63, x64, x65, x66, x67, x68, x69, x70, x71, x72, x73)
 else
 if (cop .eql x74 14) = true then
 some (x0, x1, x2, x3, x4, x5, x6, x7, x8, x9, x10, x11, x12, x13, x14, x15, x16, x17, x18, x19, x20, x21, x22, x23, x24, x25, x26, x27, x28, x29, x30, x31, x32, x33, x34, x35, x36, x37, x38, x39, x40, x41, x42, ([] : LL), x44, x45, x46, x47, x48, x49, x50, x51, x52, x53, x54, x55, x56, x57, x58, x59, x60, x61, x62, x63, x64, x65, x66, x67, x68, x69, x70, x71, x72, x73)
 else
 some (x0, x1, x2, x3, x4, x5, x6, x7, x8, x9, x10, x11, x12, x13, x14, x15, x16, x17, x18, x19, x20, x21, x22, x23, x24, x25, x26, x27, x28, x29, x30, x31, x32, x33, x34, x35, x36, x37, x38, x39, x40, x41, x42, x43, x44, x45, x46, x47, x48, x49, x50, x51, x52, x53, x54, x55, x56, x57, x58, x59, x60, x61, x62, x63, x64, x65, x66, x67, x68, x69, x70, x71, x72, x73)) := by kernel_rfl
noncomputable def F52 : Fn := ⟨29, [2], [], [], 0, [], [], Try.f52, [.agg hs3], [.c (.bool)], [(61, F61.S)]⟩
theorem ok52 : F52.S.Ok Try.prog 52 := F52.ok Try.func52 (by kernel_rfl) ⟨ok61, trivial⟩
noncomputable def g52 (x0 x1 x2 x3 x4 x5 x6 x7 x8 x9 x10 x11 x12 x13 x14 x15 x16 x17 x18 x19 : Int) (x20 : LL) (x21 x22 x23 x24 x25 x26 : Int) (x27 : Bool) : Option (Bool) := F52.S.g [.i x0, .i x1, .i x2, .i x3, .i x4, .i x5, .i x6, .i x7, .i x8, .i x9, .i x10, .i x11, .i x12, .i x13, .i x14, .i x15, .i x16, .i x17, .i x18, .i x19, .l x20, .i x21, .i x22, .i x23, .i x24, .i x25, .i x26, .b x27]
theorem g52_eq (x0 x1 x2 x3 x4 x5 x6 x7 x8 x9 x10 x11 x12 x13 x14 x15 x16 x17 x18 x19 : Int) (x20 : LL) (x21 x22 x23 x24 x25 x26 : Int) (x27 : Bool) : g52 x0 x1 x2 x3 x4 x5 x6 x7 x8 x9 x10 x11 x12 x13 x14 x15 x16 x17 x18 x19 x20 x21 x22 x23 x24 x25 x26 x27 =
 (if ((cop .eql x0 0) && ((cop .eql x1 0) && ((cop .eql x2 0) && true))) = true then
 if ((cop .eql x3 0) && ((cop .eql x4 0) && ((cop .eql x5 0) && ((cop .eql x6 0) && ((cop .eql x7 0) && ((cop .eql x8 0) && ((cop .eql x9 0) && ((cop .eql x10 0) && ((cop .eql x11 0) && ((cop .eql x12 0) && ((cop .eql x13 0) && ((cop .eql x14 0) && true)))))))))))) = true then
 if (cop .eql x15 0) = true then
 if (cop .eql x16 0) = true then
 (g61 x17 x18 x19 x20 x21 x22 x23 x24 x25 x26 x27 0 0 0 ([] : LL) 0 0 0 0 0 0 false).bind fun (r28 : Bool) =>
 some (r28)
 else
 some (false)
 else
 some (false)
 else
 some (false)
 else
 some (false)) := by kernel_rfl
noncomputable def F53 : Fn := ⟨18, [2], [], [], 0, [], [], Try.f53, [.agg [.int .i64, .slice 1, .slice 1]], [.c (.bool)], []⟩
theorem ok53 : F53.S.Ok Try.prog 53 := F53.ok Try.func53 (by kernel_rfl) trivial
noncomputable def g53 (x0 : Int) (x1 x2 : LL) : Option (Bool) := F53.S.g [.i x0, .l x1, .l x2]
theorem g53_eq (x0 : Int) (x1 x2 : LL) : g53 x0 x1 x2 =
 (if (cop .eql x0 0) = true then
 if (cop .eql (List.length x1 : Int) 0) = true then
 some ((cop .eql (List.length x2 : Int) 0))
 else
 some (false)
 else
 some (false)) := by kernel_rfl
noncomputable def F54 : Fn := ⟨37, [2], [], [], 0, [], [], Try.f54, [.agg hs12], [.c (.bool)], []⟩
theorem ok54 : F54.S.Ok Try.prog 54 := F54.ok Try.func54 (by kernel_rfl) trivial
noncomputable def g54 (x0 x1 x2 x3 x4 x5 : LL) : Option (Bool) := F54.S.g [.l x0, .l x1, .l x2, .l x3, .l x4, .l x5]
theorem g54_eq (x0 x1 x2 x3 x4 x5 : LL) : g54 x0 x1 x2 x3 x4 x5 =
 (if (cop .eql (List.length x0 : Int) 0) = true then
 if (cop .eql (List.length x1 : Int) 0) = true then
 if (cop .eql (List.length x2 : Int) 0) = true then
 if (cop .eql (List.length x3 : Int) 0) = true then
 if (cop .eql (List.length x4 : Int) 0) = true then
 some ((cop .eql (List.length x5 : Int) 0))
 else
 some (false)
 else
 some (false)
 else
 some (false)
 else
 some (false)
 else
 some (false)) := by kernel_rfl
noncomputable def F55 : Fn := ⟨31, [2], [], [], 0, [], [], Try.f55, [.agg hs4], [.c (.bool)], [(53, F53.S), (54, F54.S)]⟩
theorem ok55 : F55.S.Ok Try.prog 55 := F55.ok Try.func55 (by kernel_rfl) ⟨ok53, ⟨ok54, trivial⟩⟩
noncomputable def g55 (x0 x1 : Int) (x2 x3 x4 x5 x6 x7 x8 x9 : LL) (x10 : Bool) (x11 : Int) (x12 x13 x14 x15 x16 x17 x18 x19 : LL) : Option (Bool) := F55.S.g [.i x0, .i x1, .l x2, .l x3, .l x4, .l x5, .l x6, .l x7, .l x8, .l x9, .b x10, .i x11, .l x12, .l x13, .l x14, .l x15, .l x16, .l x17, .l x18, .l x19]
theorem g55_eq (x0 x1 : Int) (x2 x3 x4 x5 x6 x7 x8 x9 : LL) (x10 : Bool) (x11 : Int) (x12 x13 x14 x15 x16 x17 x18 x19 : LL) : g55 x0 x1 x2 x3 x4 x5 x6 x7 x8 x9 x10 x11 x12 x13 x14 x15 x16 x17 x18 x19 =
 (if (cop .eql x0 0) = true then
 (g53 x1 x2 x3).bind fun (r20 : Bool) =>
 if r20 = true then
 (g54 x4 x5 x6 x7 x8 x9).bind fun (r21 : Bool) =>
 if r21 = true then
 if (!x10) = true then
 (g53 x11 x12 x13).bind fun (r22 : Bool) =>
 if r22 = true then
 (g54 x14 x15 x16 x17 x18 x19).bind fun (r23 : Bool) =>
 some (r23)
 else
 some (false)
 else
 some (false)
 else
 some (false)
 else
 some (false)
 else
 some (false)) := by kernel_rfl
noncomputable def F23 : Fn := ⟨81, [2], [], [], 0, [], [], Try.f23, [.agg hs0], [.c (.bool)], [(52, F52.S), (53, F53.S), (54, F54.S), (55, F55.S)]⟩
theorem ok23 : F23.S.Ok Try.prog 23 := F23.ok Try.func23 (by kernel_rfl) ⟨ok52, ⟨ok53, ⟨ok54, ⟨ok55, trivial⟩⟩⟩⟩
noncomputable def g23 (x0 x1 x2 x3 x4 x5 x6 x7 x8 x9 x10 : Int) (x11 : Bool) (x12 x13 x14 x15 x16 x17 x18 x19 x20 x21 x22 x23 x24 x25 x26 x27 x28 x29 x30 x31 : Int) (x32 : LL) (x33 x34 x35 x36 x37 x38 : Int) (x39 : Bool) (x40 x41 x42 x43 : LL) (x44 x45 : Int) (x46 x47 x48 x49 x50 x51 x52 x53 : LL) (x54 x55 : Int) (x56 x57 x58 x59 x60 x61 x62 x63 : LL) (x64 : Bool) (x65 : Int) (x66 x67 x68 x69 x70 x71 x72 x73 : LL) : Option (Bool) := F23.S.g [.i x0, .i x1, .i x2, .i x3, .i x4, .i x5, .i x6, .i x7, .i x8, .i x9, .i x10, .b x11, .i x12, .i x13, .i x14, .i x15, .i x16, .i x17, .i x18, .i x19, .i x20, .i x21, .i x22, .i x23, .i x24, .i x25, .i x26, .i x27, .i x28, .i x29, .i x30, .i x31, .l x32, .i x33, .i x34, .i x35, .i x36, .i x37, .i x38, .b x39, .l x40, .l x41, .l x42, .l x43, .i x44, .i x45, .l x46, .l x47, .l x48, .l x49, .l x50, .l x51, .l x52, .l x53, .i x54, .i x55, .l x56, .l x57, .l x58, .l x59, .l x60, .l x61, .l x62, .l x63, .b x64, .i x65, .l x66, .l x67, .l x68, .l x69, .l x70, .l x71, .l x72, .l x73]
theorem g23_eq (x0 x1 x2 x3 x4 x5 x6 x7 x8 x9 x10 : Int) (x11 : Bool) (x12 x13 x14 x15 x16 x17 x18 x19 x20 x21 x22 x23 x24 x25 x26 x27 x28 x29 x30 x31 : Int) (x32 : LL) (x33 x34 x35 x36 x37 x38 : Int) (x39 : Bool) (x40 x41 x42 x43 : LL) (x44 x45 : Int) (x46 x47 x48 x49 x50 x51 x52 x53 : LL) (x54 x55 : Int) (x56 x57 x58 x59 x60 x61 x62 x63 : LL) (x64 : Bool) (x65 : Int) (x66 x67 x68 x69 x70 x71 x72 x73 : LL) : g23 x0 x1 x2 x3 x4 x5 x6 x7 x8 x9 x10 x11 x12 x13 x14 x15 x16 x17 x18 x19 x20 x21 x22 x23 x24 x25 x26 x27 x28 x29 x30 x31 x32 x33 x34 x35 x36 x37 x38 x39 x40 x41 x42 x43 x44 x45 x46 x47 x48 x49 x50 x51 x52 x53 x54 x55 x56 x57 x58 x59 x60 x61 x62 x63 x64 x65 x66 x67 x68 x69 x70 x71 x72 x73 =
 (if (cop .eql x4 0) = true then
 if (cop .eql x5 0) = true then
 if (cop .eql x6 0) = true then
 if ((cop .eql x7 0) && ((cop .eql x8 0) && ((cop .eql x9 0) && true))) = true then
 if (cop .eql x10 0) = true then
 if (!x11) = true then
 (g52 x12 x13 x14 x15 x16 x17 x18 x19 x20 x21 x22 x23 x24 x25 x26 x27 x28 x29 x30 x31 x32 x33 x34 x35 x36 x37 x38 x39).bind fun (r74 : Bool) =>
 if r74 = true then
 if (cop .eql (List.length x40 : Int) 0) = true then
 if (cop .eql (List.length x41 : Int) 0) = true then
 if (cop .eql (List.length x42 : Int) 0) = true then
 if (cop .eql (List.length x43 : Int) 0) = true then
 if (cop .eql x44 0) = true then
 (g53 x45 x46 x47).bind fun (r75 : Bool) =>
 if r75 = true then
 (g54 x48 x49 x50 x51 x52 x53).bind fun (r76 : Bool) =>
 if r76 = true then
 (g55 x54 x55 x56 x57 x58 x59 x60 x61 x62 x63 x64 x65 x66 x67 x68 x69 x70 x71 x72 x73).bind fun (r77 : Bool) =>
 some (r77)
 else
 some (false)
 else
 some (false)
 else
 some (false)
 else
 some (false)
 else
 some (false)
 else
 some (false)
 else
 some (false)
 else
 some (false)
 else
 some (false)
 else
 some (false)
 else
 some (false)
 else
 some (false)
 else
 some (false)
 else
 some (false)) := by kernel_rfl
noncomputable def F10 : Fn := ⟨50, [2], [(6, [(1, .box hs0), (5, .box hs0), (35, .c (.slice 1)), (36, .c (.int .i64)), (37, .c (.int .i64))])], [], 0, [], [], Try.f10, [.agg hs0], [.c (.bool)], [(18, F18.S), (19, F19.S), (20, F20.S), (21, F21.S), (22, F22.S), (23, F23.S)]⟩
theorem ok10 : F10.S.Ok Try.prog 10 := F10.ok Try.func10 (by kernel_rfl) ⟨ok18, ⟨ok19, ⟨ok20, ⟨ok21, ⟨ok22, ⟨ok23, trivial⟩⟩⟩⟩⟩⟩
noncomputable def g10 (x0 x1 x2 x3 x4 x5 x6 x7 x8 x9 x10 : Int) (x11 : Bool) (x12 x13 x14 x15 x16 x17 x18 x19 x20 x21 x22 x23 x24 x25 x26 x27 x28 x29 x30 x31 : Int) (x32 : LL) (x33 x34 x35 x36 x37 x38 : Int) (x39 : Bool) (x40 x41 x42 x43 : LL) (x44 x45 : Int) (x46 x47 x48 x49 x50 x51 x52 x53 : LL) (x54 x55 : Int) (x56 x57 x58 x59 x60 x61 x62 x63 : LL) (x64 : Bool) (x65 : Int) (x66 x67 x68 x69 x70 x71 x72 x73 : LL) : Option (Bool) := F10.S.g [.i x0, .i x1, .i x2, .i x3, .i x4, .i x5, .i x6, .i x7, .i x8, .i x9, .i x10, .b x11, .i x12, .i x13, .i x14, .i x15, .i x16, .i x17, .i x18, .i x19, .i x20, .i x21, .i x22, .i x23, .i x24, .i x25, .i x26, .i x27, .i x28, .i x29, .i x30, .i x31, .l x32, .i x33, .i x34, .i x35, .i x36, .i x37, .i x38, .b x39, .l x40, .l x41, .l x42, .l x43, .i x44, .i x45, .l x46, .l x47, .l x48, .l x49, .l x50, .l x51, .l x52, .l x53, .i x54, .i x55, .l x56, .l x57, .l x58, .l x59, .l x60, .l x61, .l x62, .l x63, .b x64, .i x65, .l x66, .l x67, .l x68, .l x69, .l x70, .l x71, .l x72, .l x73]
noncomputable def g10L0 (k : Nat) (x0 x1 x2 x3 x4 x5 x6 x7 x8 x9 x10 : Int) (x11 : Bool) (x12 x13 x14 x15 x16 x17 x18 x19 x20 x21 x22 x23 x24 x25 x26 x27 x28 x29 x30 x31 : Int) (x32 : LL) (x33 x34 x35 x36 x37 x38 : Int) (x39 : Bool) (x40 x41 x42 x43 : LL) (x44 x45 : Int) (x46 x47 x48 x49 x50 x51 x52 x53 : LL) (x54 x55 : Int) (x56 x57 x58 x59 x60 x61 x62 x63 : LL) (x64 : Bool) (x65 : Int) (x66 x67 x68 x69 x70 x71 x72 x73 : LL) (x74 x75 x76 x77 x78 x79 x80 x81 x82 x83 x84 : Int) (x85 : Bool) (x86 x87 x88 x89 x90 x91 x92 x93 x94 x95 x96 x97 x98 x99 x100 x101 x102 x103 x104 x105 : Int) (x106 : LL) (x107 x108 x109 x110 x111 x112 : Int) (x113 : Bool) (x114 x115 x116 x117 : LL) (x118 x119 : Int) (x120 x121 x122 x123 x124 x125 x126 x127 : LL) (x128 x129 : Int) (x130 x131 x132 x133 x134 x135 x136 x137 : LL) (x138 : Bool) (x139 : Int) (x140 x141 x142 x143 x144 x145 x146 x147 x148 : LL) (x149 x150 : Int) : Option (Bool) := F10.lp [0, 1, 0, 1, 0, 1, 0, 1, 0] 0 r0 k [.i x0, .i x1, .i x2, .i x3, .i x4, .i x5, .i x6, .i x7, .i x8, .i x9, .i x10, .b x11, .i x12, .i x13, .i x14, .i x15, .i x16, .i x17, .i x18, .i x19, .i x20, .i x21, .i x22, .i x23, .i x24, .i x25, .i x26, .i x27, .i x28, .i x29, .i x30, .i x31, .l x32, .i x33, .i x34, .i x35, .i x36, .i x37, .i x38, .b x39, .l x40, .l x41, .l x42, .l x43, .i x44, .i x45, .l x46, .l x47, .l x48, .l x49, .l x50, .l x51, .l x52, .l x53, .i x54, .i x55, .l x56, .l x57, .l x58, .l x59, .l x60, .l x61, .l x62, .l x63, .b x64, .i x65, .l x66, .l x67, .l x68, .l x69, .l x70, .l x71, .l x72, .l x73, .i x74, .i x75, .i x76, .i x77, .i x78, .i x79, .i x80, .i x81, .i x82, .i x83, .i x84, .b x85, .i x86, .i x87, .i x88, .i x89, .i x90, .i x91, .i x92, .i x93, .i x94, .i x95, .i x96, .i x97, .i x98, .i x99, .i x100, .i x101, .i x102, .i x103, .i x104, .i x105, .l x106, .i x107, .i x108, .i x109, .i x110, .i x111, .i x112, .b x113, .l x114, .l x115, .l x116, .l x117, .i x118, .i x119, .l x120, .l x121, .l x122, .l x123, .l x124, .l x125, .l x126, .l x127, .i x128, .i x129, .l x130, .l x131, .l x132, .l x133, .l x134, .l x135, .l x136, .l x137, .b x138, .i x139, .l x140, .l x141, .l x142, .l x143, .l x144, .l x145, .l x146, .l x147, .l x148, .i x149, .i x150]
theorem g10L0_eq (k : Nat) (x0 x1 x2 x3 x4 x5 x6 x7 x8 x9 x10 : Int) (x11 : Bool) (x12 x13 x14 x15 x16 x17 x18 x19 x20 x21 x22 x23 x24 x25 x26 x27 x28 x29 x30 x31 : Int) (x32 : LL) (x33 x34 x35 x36 x37 x38 : Int) (x39 : Bool) (x40 x41 x42 x43 : LL) (x44 x45 : Int) (x46 x47 x48 x49 x50 x51 x52 x53 : LL) (x54 x55 : Int) (x56 x57 x58 x59 x60 x61 x62 x63 : LL) (x64 : Bool) (x65 : Int) (x66 x67 x68 x69 x70 x71 x72 x73 : LL) (x74 x75 x76 x77 x78 x79 x80 x81 x82 x83 x84 : Int) (x85 : Bool) (x86 x87 x88 x89 x90 x91 x92 x93 x94 x95 x96 x97 x98 x99 x100 x101 x102 x103 x104 x105 : Int) (x106 : LL) (x107 x108 x109 x110 x111 x112 : Int) (x113 : Bool) (x114 x115 x116 x117 : LL) (x118 x119 : Int) (x120 x121 x122 x123 x124 x125 x126 x127 : LL) (x128 x129 : Int) (x130 x131 x132 x133 x134 x135 x136 x137 : LL) (x138 : Bool) (x139 : Int) (x140 x141 x142 x143 x144 x145 x146 x147 x148 : LL) (x149 x150 : Int) : g10L0 (k + 1) x0 x1 x2 x3 x4 x5 x6 x7 x8 x9 x10 x11 x12 x13 x14 x15 x16 x17 x18 x19 x20 x21 x22 x23 x24 x25 x26 x27 x28 x29 x30 x31 x32 x33 x34 x35 x36 x37 x38 x39 x40 x41 x42 x43 x44 x45 x46 x47 x48 x49 x50 x51 x52 x53 x54 x55 x56 x57 x58 x59 x60 x61 x62 x63 x64 x65 x66 x67 x68 x69 x70 x71 x72 x73 x74 x75 x76 x77 x78 x79 x80 x81 x82 x83 x84 x85 x86 x87 x88 x89 x90 x91 x92 x93 x94 x95 x96 x97 x98 x99 x100 x101 x102 x103 x104 x105 x106 x107 x108 x109 x110 x111 x112 x113 x114 x115 x116 x117 x118 x119 x120 x121 x122 x123 x124 x125 x126 x127 x128 x129 x130 x131 x132 x133 x134 x135 x136 x137 x138 x139 x140 x141 x142 x143 x144 x145 x146 x147 x148 x149 x150 =
 (if (cop .lss x150 x149) = true then
 elemK x148 x150 [.int .i64] fun (r151 : Int) =>
 (g21 x0 x1 x2 x3 x4 x5 x6 x7 x8 x9 x10 x11 x12 x13 x14 x15 x16 x17 x18 x19 x20 x21 x22 x23 x24 x25 x26 x27 x28 x29 x30 x31 x32 x33 x34 x35 x36 x37 x38 x39 x40 x41 x42 x43 x44 x45 x46 x47 x48 x49 x50 x51 x52 x53 x54 x55 x56 x57 x58 x59 x60 x61 x62 x63 x64 x65 x66 x67 x68 x69 x70 x71 x72 x73 r151).bind fun (r152 : Bool) =>
 if (!r152) = true then
 some (false)
 else
 (g22 x74 x75 x76 x77 x78 x79 x80 x81 x82 x83 x84 x85 x86 x87 x88 x89 x90 x91 x92 x93 x94 x95 x96 x97 x98 x99 x100 x101 x102 x103 x104 x105 x106 x107 x108 x109 x110 x111 x112 x113 x114 x115 x116 x117 x118 x119 x120 x121 x122 x123 x124 x125 x126 x127 x128 x129 x130 x131 x132 x133 x134 x135 x136 x137 x138 x139 x140 x141 x142 x143 x144 x145 x146 x147 r151).bind fun (r153 : Qt2) =>
 g10L0 k x0 x1 x2 x3 x4 x5 x6 x7 x8 x9 x10 x11 x12 x13 x14 x15 x16 x17 x18 x19 x20 x21 x22 x23 x24 x25 x26 x27 x28 x29 x30 x31 x32 x33 x34 x35 x36 x37 x38 x39 x40 x41 x42 x43 x44 x45 x46 x47 x48 x49 x50 x51 x52 x53 x54 x55 x56 x57 x58 x59 x60 x61 x62 x63 x64 x65 x66 x67 x68 x69 x70 x71 x72 x73 r153.1 r153.2.1 r153.2.2.1 r153.2.2.2.1 r153.2.2.2.2.1 r153.2.2.2.2.2.1 r153.2.2.2.2.2.2.1 r153.2.2.2.2.2.2.2.1 r153.2.2.2.2.2.2.2.2.1 r153.2.2.2.2.2.2.2.2.2.1 r153.2.2.2.2.2.2.2.2.2.2.1 r153.2.2.2.2.2.2.2.2.2.2.2.1 (d4 (d8 r153)).1 (d4 (d8 r153)).2.1 (d2 (d4 (d8 r153))).1 (d2 (d4 (d8 r153))).2.1 (d16 r153).1 (d16 r153).2.1 (d2 (d16 r153)).1 (d2 (d16 r153)).2.1 (d4 (d16 r153)).1 (d4 (d16 r153)).2.1 (d2 (d4 (d16 r153))).1 (d2 (d4 (d16 r153))).2.1 (d8 (d16 r153)).1 (d8 (d16 r153)).2.1 (d2 (d8 (d16 r153))).1 (d2 (d8 (d16 r153))).2.1 (d4 (d8 (d16 r153))).1 (d4 (d8 (d16 r153))).2.1 (d2 (d4 (d8 (d16 r153)))).1 (d2 (d4 (d8 (d16 r153)))).2.1 (d16 (d16 r153)).1 (d16 (d16 r153)).2.1 (d2 (d16 (d16 r153))).1 (d2 (d16 (d16 r153))).2.1 (d4 (d16 (d16 r153))).1 (d4 (d16 (d16 r153))).2.1 (d2 (d4 (d16 (d16 r153)))).1 (d2 (d4 (d16 (d16 r153)))).2.1 (d8 (d16 (d16 r153))).1 (d8 (d16 (d16 r153))).2.1 (d2 (d8 (d16 (d16 r153)))).1 (d2 (d8 (d16 (d16 r153)))).2.1 (d4 (d8 (d16 (d16 r153)))).1 (d4 (d8 (d16 (d16 r153)))).2.1 (d2 (d4 (d8 (d16 (d16 r153))))).1 (d2 (d4 (d8 (d16 (d16 r153))))).2.1 (d16 (d16 (d16 r153))).1 (d16 (d16 (d16 r153))).2.1 (d2 (d16 (d16 (d16 r153)))).1 (d2 (d16 (d16 (d16 r153)))).2.1 (d4 (d16 (d16 (d16 r153)))).1 (d4 (d16 (d16 (d16 r153)))).2.1 (d2 (d4 (d16 (d16 (d16 r153))))).1 (d2 (d4 (d16 (d16 (d16 r153))))).2.1 (d8 (d16 (d16 (d16 r153)))).1 (d8 (d16 (d16 (d16 r153)))).2.1 (d2 (d8 (d16 (d16 (d16 r153))))).1 (d2 (d8 (d16 (d16 (d16 r153))))).2.1 (d4 (d8 (d16 (d16 (d16 r153))))).1 (d4 (d8 (d16 (d16 (d16 r153))))).2.1 (d2 (d4 (d8 (d16 (d16 (d16 r153)))))).1 (d2 (d4 (d8 (d16 (d16 (d16 r153)))))).2.1 (d16 (d16 (d16 (d16 r153)))).1 (d16 (d16 (d16 (d16 r153)))).2.1 (d2 (d16 (d16 (d16 (d16 r153))))).1 (d2 (d16 (d16 (d16 (d16 r153))))).2.1 (d4 (d16 (d16 (d16 (d16 r153))))).1 (d4 (d16 (d16 (d16 (d16 r153))))).2.1 (d2 (d4 (d16 (d16 (d16 (d16 r153)))))).1 (d2 (d4 (d16 (d16 (d16 (d16 r153)))))).2.1 (d8 (d16 (d16 (d16 (d16 r153))))).1 (d8 (d16 (d16 (d16 (d16 r153))))).2 x148 x149 (iop .add .i64 x150 1)
 else
 (g23 x74 x75 x76 x77 x78 x79 x80 x81 x82 x83 x84 x85 x86 x87 x88 x89 x90 x91 x92 x93 x94 x95 x96 x97 x98 x99 x100 x101 x102 x103 x104 x105 x106 x107 x108 x109 x110 x111 x112 x113 x114 x115 x116 x117 x118 x119 x120 x121 x122 x123 x124 x125 x126 x127 x128 x129 x130 x131 x132 x133 x134 x135 x136 x137 x138 x139 x140 x141 x142 x143 x144 x145 x146 x147).bind fun (r151 : Bool) =>
 some (r151)) := by kernel_rfl
theorem g10_eq (x0 x1 x2 x3 x4 x5 x6 x7 x8 x9 x10 : Int) (x11 : Bool) (x12 x13 x14 x15 x16 x17 x18 x19 x20 x21 x22 x23 x24 x25 x26 x27 x28 x29 x30 x31 : Int) (x32 : LL) (x33 x34 x35 x36 x37 x38 : Int) (x39 : Bool) (x40 x41 x42 x43 : LL) (x44 x45 : Int) (x46 x47 x48 x49 x50 x51 x52 x53 : LL) (x54 x55 : Int) (x56 x57 x58 x59 x60 x61 x62 x63 : LL) (x64 : Bool) (x65 : Int) (x66 x67 x68 x69 x70 x71 x72 x73 : LL) : g10 x0 x1 x2 x3 x4 x5 x6 x7 x8 x9 x10 x11 x12 x13 x14 x15 x16 x17 x18 x19 x20 x21 x22 x23 x24 x25 x26 x27 x28 x29 x30 x31 x32 x33 x34 x35 x36 x37 x38 x39 x40 x41 x42 x43 x44 x45 x46 x47 x48 x49 x50 x51 x52 x53 x54 x55 x56 x57 x58 x59 x60 x61 x62 x63 x64 x65 x66 x67 x68 x69 x70 x71 x72 x73 =
 ((g18 x0).bind fun (r74 : LL × Bool) =>
 if (!r74.2) = true then
 some (false)
 else
 (g19 x1).bind fun (r76 : Bool) =>
 if (!r76) = true then
 some (false)
 else
 (g20 x2).bind fun (r77 : Bool) =>
 if (!r77) = true then
 some (false)
 else
 (g20 x3).bind fun (r78 : Bool) =>
 if (!r78) = true then
 some (false)
 else
 g10L0 FUEL x0 x1 x2 x3 x4 x5 x6 x7 x8 x9 x10 x11 x12 x13 x14 x15 x16 x17 x18 x19 x20 x21 x22 x23 x24 x25 x26 x27 x28 x29 x30 x31 x32 x33 x34 x35 x36 x37 x38 x39 x40 x41 x42 x43 x44 x45 x46 x47 x48 x49 x50 x51 x52 x53 x54 x55 x56 x57 x58 x59 x60 x61 x62 x63 x64 x65 x66 x67 x68 x69 x70 x71 x72 x73 x0 x1 x2 x3 x4 x5 x6 x7 x8 x9 x10 x11 x12 x13 x14 x15 x16 x17 x18 x19 x20 x21 x22 x23 x24 x25 x26 x27 x28 x29 x30 x31 x32 x33 x34 x35 x36 x37 x38 x39 x40 x41 x42 x43 x44 x45 x46 x47 x48 x49 x50 x51 x52 x53 x54 x55 x56 x57 x58 x59 x60 x61 x62 x63 x64 x65 x66 x67 x68 x69 x70 x71 x72 x73 r74.1 (List.length r74.1 : Int) 0) := by kernel_rfl
end Go.Proofs.Ytljejgmcgddppaa
