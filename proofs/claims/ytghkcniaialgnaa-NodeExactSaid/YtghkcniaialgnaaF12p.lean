/- Functions of the program, as what they compute. -/
import Derived.Test.YtghkcniaialgnaaM5
namespace Go.Proofs.Ytghkcniaialgnaa
open Go Go.AM
set_option linter.unusedVariables false
set_option maxRecDepth 100000

/- multikernel/multikernellaw12.page -/
noncomputable def F7 : Fn := ⟨2, [0], [], [], 0, [], [], Try.f7, [], [.agg [.int .i64, .int .i64, .int .i64, .int .i64, .int .i64, .int .i64, .bool]], []⟩
theorem ok7 : F7.S.Ok Try.prog 7 := F7.ok Try.func7 (by kernel_rfl) trivial
noncomputable def g7 : Option (Int × Int × Int × Int × Int × Int × Bool) := F7.S.g []
theorem g7_eq : g7 =
 (some (2, 4096, 12, 3, 0, 0, false)) := by kernel_rfl

/- multikernel/node.ValidId -/
noncomputable def F14 : Fn := ⟨31, [2], [], [], 0, [], [], Try.f14, [.agg [.int .i64, .int .i64, .int .i64]], [.c (.bool)], []⟩
theorem ok14 : F14.S.Ok Try.prog 14 := F14.ok Try.func14 (by kernel_rfl) trivial
noncomputable def g14 (x0 : Int) (x1 : Int) (x2 : Int) : Option (Bool) := F14.S.g [.i x0, .i x1, .i x2]
theorem g14_eq (x0 : Int) (x1 : Int) (x2 : Int) : g14 x0 x1 x2 =
 (if (cop .geq x0 0) = true then
 if (cop .lss x0 32) = true then
 if (cop .geq x1 1) = true then
 if (cop .leq x1 1073741824) = true then
 if (cop .geq x2 0) = true then
 some ((cop .lss x2 8))
 else
 some (false)
 else
 some (false)
 else
 some (false)
 else
 some (false)
 else
 some (false)) := by kernel_rfl

/- multikernel/captype.sizeAllowed -/
noncomputable def F40 : Fn := ⟨38, [4], [], [], 0, [], [], Try.f40, [.c (.int .i64), .c (.int .i64)], [.c (.bool)], []⟩
theorem ok40 : F40.S.Ok Try.prog 40 := F40.ok Try.func40 (by kernel_rfl) trivial
noncomputable def g40 (x0 : Int) (x1 : Int) : Option (Bool) := F40.S.g [.i x0, .i x1]
theorem g40_eq (x0 : Int) (x1 : Int) : g40 x0 x1 =
 (if (cop .eql x0 1) = true then
 if (cop .geq x1 6) = true then
 some ((cop .leq x1 40))
 else
 some (false)
 else
 if (cop .eql x0 2) = true then
 if (cop .geq x1 12) = true then
 some ((cop .leq x1 40))
 else
 some (false)
 else
 if (cop .eql x0 3) = true then
 some ((cop .eql x1 12))
 else
 if (cop .eql x0 4) = true then
 some ((cop .eql x1 6))
 else
 if (cop .eql x0 5) = true then
 some ((cop .eql x1 10))
 else
 if (cop .eql x0 6) = true then
 some ((cop .eql x1 16))
 else
 some (false)) := by kernel_rfl

/- multikernel/captype.Range -/
noncomputable def F42 : Fn := ⟨8, [2], [], [], 0, [], [], Try.f42, [.agg [.int .i64, .int .i64, .int .i64, .int .i64, .int .i64, .int .i64, .bool]], [.agg [.int .i64, .int .i64]], []⟩
theorem ok42 : F42.S.Ok Try.prog 42 := F42.ok Try.func42 (by kernel_rfl) trivial
noncomputable def g42 (x0 : Int) (x1 : Int) (x2 : Int) (x3 : Int) (x4 : Int) (x5 : Int) (x6 : Bool) : Option (Int × Int) := F42.S.g [.i x0, .i x1, .i x2, .i x3, .i x4, .i x5, .b x6]
theorem g42_eq (x0 : Int) (x1 : Int) (x2 : Int) (x3 : Int) (x4 : Int) (x5 : Int) (x6 : Bool) : g42 x0 x1 x2 x3 x4 x5 x6 =
 (some (x1, x2)) := by kernel_rfl

/- multikernel/memrange.Valid -/
noncomputable def F41 : Fn := ⟨32, [2], [], [], 0, [], [], Try.f41, [.agg [.int .i64, .int .i64]], [.c (.bool)], []⟩
theorem ok41 : F41.S.Ok Try.prog 41 := F41.ok Try.func41 (by kernel_rfl) trivial
noncomputable def g41 (x0 : Int) (x1 : Int) : Option (Bool) := F41.S.g [.i x0, .i x1]
theorem g41_eq (x0 : Int) (x1 : Int) : g41 x0 x1 =
 (if (cop .lss x1 6) = true then
 some (false)
 else
 if (cop .gtr x1 40) = true then
 some (false)
 else
 if (cop .lss x0 0) = true then
 some (false)
 else
 reqK ((0 : Int) ≤ x1) <|
 reqK (((iop .shl .i64 1 x1) : Int) ≠ 0) <|
 if (cop .eql (iop .rem .i64 x0 (iop .shl .i64 1 x1)) 0) = true then
 some ((cop .leq x0 (iop .sub .i64 1099511627776 (iop .shl .i64 1 x1))))
 else
 some (false)) := by kernel_rfl

/- multikernel/captype.formatAllowed -/
noncomputable def F43 : Fn := ⟨22, [4], [], [], 0, [], [], Try.f43, [.c (.int .i64), .c (.int .i64)], [.c (.bool)], []⟩
theorem ok43 : F43.S.Ok Try.prog 43 := F43.ok Try.func43 (by kernel_rfl) trivial
noncomputable def g43 (x0 : Int) (x1 : Int) : Option (Bool) := F43.S.g [.i x0, .i x1]
theorem g43_eq (x0 : Int) (x1 : Int) : g43 x0 x1 =
 (if (cop .eql x0 32) = true then
 if (cop .geq x1 0) = true then
 some ((cop .leq x1 1))
 else
 some (false)
 else
 if (cop .eql x0 39) = true then
 if (cop .geq x1 0) = true then
 some ((cop .leq x1 2))
 else
 some (false)
 else
 some (false)) := by kernel_rfl

/- multikernel/captype.Valid -/
noncomputable def F28 : Fn := ⟨55, [2], [], [], 0, [], [], Try.f28, [.agg [.int .i64, .int .i64, .int .i64, .int .i64, .int .i64, .int .i64, .bool]], [.c (.bool)], [(40, F40.S), (42, F42.S), (41, F41.S), (43, F43.S)]⟩
theorem ok28 : F28.S.Ok Try.prog 28 := F28.ok Try.func28 (by kernel_rfl) ⟨ok40, ⟨ok42, ⟨ok41, ⟨ok43, trivial⟩⟩⟩⟩
noncomputable def g28 (x0 : Int) (x1 : Int) (x2 : Int) (x3 : Int) (x4 : Int) (x5 : Int) (x6 : Bool) : Option (Bool) := F28.S.g [.i x0, .i x1, .i x2, .i x3, .i x4, .i x5, .b x6]
theorem g28_eq (x0 : Int) (x1 : Int) (x2 : Int) (x3 : Int) (x4 : Int) (x5 : Int) (x6 : Bool) : g28 x0 x1 x2 x3 x4 x5 x6 =
 ((g40 x0 x2).bind fun (r7 : Bool) =>
 if (!r7) = true then
 some (false)
 else
 (g42 x0 x1 x2 x3 x4 x5 x6).bind fun (r8 : Int × Int) =>
 (g41 r8.1 r8.2).bind fun (r10 : Bool) =>
 if (!r10) = true then
 some (false)
 else
 if (cop .lss x3 0) = true then
 some (false)
 else
 if (cop .gtr x3 7) = true then
 some (false)
 else
 if (cop .eql x0 3) = true then
 (g43 x4 x5).bind fun (r11 : Bool) =>
 if (!r11) = true then
 some (false)
 else
 if (!x6) = true then
 some (true)
 else
 if (cop .eql x0 1) = true then
 some (true)
 else
 some ((cop .eql x0 2))
 else
 if (cop .neq x4 0) = true then
 some (false)
 else
 if (cop .neq x5 0) = true then
 some (false)
 else
 if (!x6) = true then
 some (true)
 else
 if (cop .eql x0 1) = true then
 some (true)
 else
 some ((cop .eql x0 2))) := by kernel_rfl

/- multikernel/node.Valid -/
noncomputable def F16 : Fn := ⟨47, [2], [(4, [(1, .box [.int .i64, .int .i64, .int .i64, .slice 3, .int .i64, .int .i64, .int .i64, .int .i64, .int .i64, .int .i64, .bool]), (22, .c (.slice 3)), (23, .c (.int .i64)), (24, .c (.int .i64))])], [], 0, [], [], Try.f16, [.agg [.int .i64, .int .i64, .int .i64, .slice 3, .int .i64, .int .i64, .int .i64, .int .i64, .int .i64, .int .i64, .bool]], [.c (.bool)], [(14, F14.S), (28, F28.S), (27, F27.S)]⟩
theorem ok16 : F16.S.Ok Try.prog 16 := F16.ok Try.func16 (by kernel_rfl) ⟨ok14, ⟨ok28, ⟨ok27, trivial⟩⟩⟩
noncomputable def g16 (x0 : Int) (x1 : Int) (x2 : Int) (x3 : LL) (x4 : Int) (x5 : Int) (x6 : Int) (x7 : Int) (x8 : Int) (x9 : Int) (x10 : Bool) : Option (Bool) := F16.S.g [.i x0, .i x1, .i x2, .l x3, .i x4, .i x5, .i x6, .i x7, .i x8, .i x9, .b x10]
noncomputable def g16L0 (k : Nat) (x0 : Int) (x1 : Int) (x2 : Int) (x3 : LL) (x4 : Int) (x5 : Int) (x6 : Int) (x7 : Int) (x8 : Int) (x9 : Int) (x10 : Bool) (x11 : LL) (x12 : Int) (x13 : Int) : Option (Bool) := F16.lp [0, 1, 0, 1, 1, 0] 0 r0 k [.i x0, .i x1, .i x2, .l x3, .i x4, .i x5, .i x6, .i x7, .i x8, .i x9, .b x10, .l x11, .i x12, .i x13]
theorem g16L0_eq (k : Nat) (x0 : Int) (x1 : Int) (x2 : Int) (x3 : LL) (x4 : Int) (x5 : Int) (x6 : Int) (x7 : Int) (x8 : Int) (x9 : Int) (x10 : Bool) (x11 : LL) (x12 : Int) (x13 : Int) : g16L0 (k + 1) x0 x1 x2 x3 x4 x5 x6 x7 x8 x9 x10 x11 x12 x13 =
 (if (cop .lss x13 x12) = true then
 elemK x11 x13 [.int .i64, .int .i64, .int .i64] fun (r14 : Int × Int × Int) =>
 (g14 r14.1 r14.2.1 r14.2.2).bind fun (r17 : Bool) =>
 if (!r17) = true then
 some (false)
 else
 if ((cop .eql r14.1 x0) && ((cop .eql r14.2.1 x1) && ((cop .eql r14.2.2 x2) && true))) = true then
 some (false)
 else
 reqK ((0 : Int) ≤ x13) <|
 reqK ((x13 : Int) ≤ (List.length x3 : Int)) <|
 (g27 (List.take (Int.toNat x13) x3) r14.1 r14.2.1 r14.2.2).bind fun (r18 : Bool) =>
 if r18 = true then
 some (false)
 else
 g16L0 k x0 x1 x2 x3 x4 x5 x6 x7 x8 x9 x10 x11 x12 (iop .add .i64 x13 1)
 else
 some (true)) := by kernel_rfl
theorem g16_eq (x0 : Int) (x1 : Int) (x2 : Int) (x3 : LL) (x4 : Int) (x5 : Int) (x6 : Int) (x7 : Int) (x8 : Int) (x9 : Int) (x10 : Bool) : g16 x0 x1 x2 x3 x4 x5 x6 x7 x8 x9 x10 =
 ((g14 x0 x1 x2).bind fun (r11 : Bool) =>
 if (!r11) = true then
 some (false)
 else
 (g28 x4 x5 x6 x7 x8 x9 x10).bind fun (r12 : Bool) =>
 if (!r12) = true then
 some (false)
 else
 if (cop .gtr (List.length x3 : Int) 8) = true then
 some (false)
 else
 g16L0 FUEL x0 x1 x2 x3 x4 x5 x6 x7 x8 x9 x10 x3 (List.length x3 : Int) 0) := by kernel_rfl

/- multikernel/node.Below -/
noncomputable def F22 : Fn := ⟨9, [4], [], [], 0, [], [], Try.f22, [.agg [.int .i64, .int .i64, .int .i64, .slice 3, .int .i64, .int .i64, .int .i64, .int .i64, .int .i64, .int .i64, .bool], .agg [.int .i64, .int .i64, .int .i64]], [.c (.bool)], [(27, F27.S)]⟩
theorem ok22 : F22.S.Ok Try.prog 22 := F22.ok Try.func22 (by kernel_rfl) ⟨ok27, trivial⟩
noncomputable def g22 (x0 : Int) (x1 : Int) (x2 : Int) (x3 : LL) (x4 : Int) (x5 : Int) (x6 : Int) (x7 : Int) (x8 : Int) (x9 : Int) (x10 : Bool) (x11 : Int) (x12 : Int) (x13 : Int) : Option (Bool) := F22.S.g [.i x0, .i x1, .i x2, .l x3, .i x4, .i x5, .i x6, .i x7, .i x8, .i x9, .b x10, .i x11, .i x12, .i x13]
theorem g22_eq (x0 : Int) (x1 : Int) (x2 : Int) (x3 : LL) (x4 : Int) (x5 : Int) (x6 : Int) (x7 : Int) (x8 : Int) (x9 : Int) (x10 : Bool) (x11 : Int) (x12 : Int) (x13 : Int) : g22 x0 x1 x2 x3 x4 x5 x6 x7 x8 x9 x10 x11 x12 x13 =
 ((g27 x3 x11 x12 x13).bind fun (r14 : Bool) =>
 some (r14)) := by kernel_rfl

/- slices.Clone[[]multikernel/api.Id,multikernel/api.Id] -/
noncomputable def F33 : Fn := ⟨8, [2], [], [], 0, [], [], Try.f33, [.c (.slice 3)], [.c (.own false 25)], []⟩
theorem ok33 : F33.S.Ok Try.prog 33 := F33.ok Try.func33 (by kernel_rfl) trivial
noncomputable def g33 (x0 : LL) : Option (LL) := F33.S.g [.l x0]
theorem g33_eq (x0 : LL) : g33 x0 =
 (nilK x0 fun r1 =>
 if r1 = true then
 some (([] : LL))
 else
 reqK (roomP ([] : LL) x0 24) <|
 some ((([] : LL) ++ x0))) := by kernel_rfl

/- multikernel/node.Child -/
noncomputable def F23 : Fn := ⟨48, [6, 7], [], [], 0, [], [], Try.f23, [.agg [.int .i64, .int .i64, .int .i64, .slice 3, .int .i64, .int .i64, .int .i64, .int .i64, .int .i64, .int .i64, .bool], .agg [.int .i64, .int .i64, .int .i64], .agg [.int .i64, .int .i64, .int .i64, .int .i64, .int .i64, .int .i64, .bool]], [.agg [.int .i64, .int .i64, .int .i64, .slice 3, .int .i64, .int .i64, .int .i64, .int .i64, .int .i64, .int .i64, .bool], .c (.int .i64)], [(16, F16.S), (14, F14.S), (28, F28.S), (22, F22.S), (33, F33.S)]⟩
theorem ok23 : F23.S.Ok Try.prog 23 := F23.ok Try.func23 (by kernel_rfl) ⟨ok16, ⟨ok14, ⟨ok28, ⟨ok22, ⟨ok33, trivial⟩⟩⟩⟩⟩
noncomputable def g23 (x0 : Int) (x1 : Int) (x2 : Int) (x3 : LL) (x4 : Int) (x5 : Int) (x6 : Int) (x7 : Int) (x8 : Int) (x9 : Int) (x10 : Bool) (x11 : Int) (x12 : Int) (x13 : Int) (x14 : Int) (x15 : Int) (x16 : Int) (x17 : Int) (x18 : Int) (x19 : Int) (x20 : Bool) : Option (Int × Int × Int × LL × Int × Int × Int × Int × Int × Int × Bool × Int) := F23.S.g [.i x0, .i x1, .i x2, .l x3, .i x4, .i x5, .i x6, .i x7, .i x8, .i x9, .b x10, .i x11, .i x12, .i x13, .i x14, .i x15, .i x16, .i x17, .i x18, .i x19, .b x20]
theorem g23_eq (x0 : Int) (x1 : Int) (x2 : Int) (x3 : LL) (x4 : Int) (x5 : Int) (x6 : Int) (x7 : Int) (x8 : Int) (x9 : Int) (x10 : Bool) (x11 : Int) (x12 : Int) (x13 : Int) (x14 : Int) (x15 : Int) (x16 : Int) (x17 : Int) (x18 : Int) (x19 : Int) (x20 : Bool) : g23 x0 x1 x2 x3 x4 x5 x6 x7 x8 x9 x10 x11 x12 x13 x14 x15 x16 x17 x18 x19 x20 =
 ((g16 x0 x1 x2 x3 x4 x5 x6 x7 x8 x9 x10).bind fun (r21 : Bool) =>
 if (!r21) = true then
 some (0, 0, 0, ([] : LL), 0, 0, 0, 0, 0, 0, false, 1)
 else
 (g14 x11 x12 x13).bind fun (r22 : Bool) =>
 if (!r22) = true then
 some (0, 0, 0, ([] : LL), 0, 0, 0, 0, 0, 0, false, 1)
 else
 (g28 x14 x15 x16 x17 x18 x19 x20).bind fun (r23 : Bool) =>
 if (!r23) = true then
 some (0, 0, 0, ([] : LL), 0, 0, 0, 0, 0, 0, false, 1)
 else
 if ((cop .eql x11 x0) && ((cop .eql x12 x1) && ((cop .eql x13 x2) && true))) = true then
 some (0, 0, 0, ([] : LL), 0, 0, 0, 0, 0, 0, false, 1)
 else
 (g22 x0 x1 x2 x3 x4 x5 x6 x7 x8 x9 x10 x11 x12 x13).bind fun (r24 : Bool) =>
 if r24 = true then
 some (0, 0, 0, ([] : LL), 0, 0, 0, 0, 0, 0, false, 1)
 else
 if (cop .geq (List.length x3 : Int) 8) = true then
 some (0, 0, 0, ([] : LL), 0, 0, 0, 0, 0, 0, false, 9)
 else
 (g33 x3).bind fun (r25 : LL) =>
 reqK (roomP r25 (([] : LL) ++ [[AV.val (.int .i64 x0), AV.val (.int .i64 x1), AV.val (.int .i64 x2)]]) 24) <|
 some (x11, x12, x13, (r25 ++ (([] : LL) ++ [[AV.val (.int .i64 x0), AV.val (.int .i64 x1), AV.val (.int .i64 x2)]])), x14, x15, x16, x17, x18, x19, x20, 0)) := by kernel_rfl

/- multikernel/binenc.AppendUvarint -/
noncomputable def F34 : Fn := ⟨50, [4], [(3, [(0, .c (.slice 1)), (1, .c (.int .u64)), (5, .c (.int .i64)), (6, .c (.int .u64))]), (9, [(0, .c (.slice 1)), (1, .c (.int .u64)), (5, .c (.int .i64)), (7, .c (.own true 5)), (8, .c (.int .i64))])], [], 0, [], [(16, [(7, 0)])], Try.f34, [.c (.slice 1), .c (.int .u64)], [.c (.own false 5)], []⟩
theorem ok34 : F34.S.Ok Try.prog 34 := F34.ok Try.func34 (by kernel_rfl) trivial
noncomputable def g34 (x0 : LL) (x1 : Int) : Option (LL) := F34.S.g [.l x0, .i x1]
noncomputable def g34L0 (k : Nat) (x0 : LL) (x1 : Int) (x2 : Int) (x3 : LL) (x4 : Int) : Option (LL) := F34.lp [2, 1, 4] 0 r0 k [.l x0, .i x1, .i x2, .l x3, .i x4]
theorem g34L0_eq (k : Nat) (x0 : LL) (x1 : Int) (x2 : Int) (x3 : LL) (x4 : Int) : g34L0 (k + 1) x0 x1 x2 x3 x4 =
 (if (cop .lss x4 x2) = true then
 if (cop .lss x4 (iop .sub .i64 x2 1)) = true then
 reqK ((0 : Int) ≤ (iop .add .i64 (List.length x0 : Int) x4)) <|
 reqK (((iop .add .i64 (List.length x0 : Int) x4) : Int) < (List.length x3 : Int)) <|
 reqK ((0 : Int) ≤ (iop .add .i64 (List.length x0 : Int) x4)) <|
 reqK (((iop .add .i64 (List.length x0 : Int) x4) : Int) < (List.length x3 : Int)) <|
 reqK ((0 : Int) ≤ 7) <|
 g34L0 k x0 (iop .shr .u64 x1 7) x2 (setElem x3 (Int.toNat (iop .add .i64 (List.length x0 : Int) x4)) 0 [AV.val (.int .u8 (iop .or .u8 (IntKind.wrap .u8 (iop .and .u64 x1 127)) 128))]) (iop .add .i64 x4 1)
 else
 reqK ((0 : Int) ≤ (iop .add .i64 (List.length x0 : Int) x4)) <|
 reqK (((iop .add .i64 (List.length x0 : Int) x4) : Int) < (List.length x3 : Int)) <|
 reqK ((0 : Int) ≤ (iop .add .i64 (List.length x0 : Int) x4)) <|
 reqK (((iop .add .i64 (List.length x0 : Int) x4) : Int) < (List.length x3 : Int)) <|
 reqK ((0 : Int) ≤ 7) <|
 g34L0 k x0 (iop .shr .u64 x1 7) x2 (setElem x3 (Int.toNat (iop .add .i64 (List.length x0 : Int) x4)) 0 [AV.val (.int .u8 (IntKind.wrap .u8 (iop .and .u64 x1 127)))]) (iop .add .i64 x4 1)
 else
 some (x3)) := by kernel_rfl
noncomputable def g34L1 (k : Nat) (x0 : LL) (x1 : Int) (x2 : Int) (x3 : Int) : Option (LL) := F34.lp [2] 0 r0 k [.l x0, .i x1, .i x2, .i x3]
theorem g34L1_eq (k : Nat) (x0 : LL) (x1 : Int) (x2 : Int) (x3 : Int) : g34L1 (k + 1) x0 x1 x2 x3 =
 (if (cop .gtr x3 0) = true then
 reqK ((0 : Int) ≤ 7) <|
 g34L1 k x0 x1 (iop .add .i64 x2 1) (iop .shr .u64 x3 7)
 else
 reqK (makeP (iop .add .i64 (List.length x0 : Int) x2) 1) <|
 reqK (((iop .add .i64 (List.length x0 : Int) x2) : Int) ≤ (iop .add .i64 (List.length x0 : Int) x2)) <|
 reqK (((iop .add .i64 (List.length x0 : Int) x2) : Int) ≤ (iop .add .i64 (List.length x0 : Int) x2)) <|
 g34L0 FUEL x0 x1 x2 (splL (List.replicate (Int.toNat (iop .add .i64 (List.length x0 : Int) x2)) [AV.val (.int .u8 0)]) x0) 0) := by kernel_rfl
theorem g34_eq (x0 : LL) (x1 : Int) : g34 x0 x1 =
 (reqK ((0 : Int) ≤ 7) <|
 g34L1 FUEL x0 x1 1 (iop .shr .u64 x1 7)) := by kernel_rfl

/- multikernel/node.AppendId -/
noncomputable def F35 : Fn := ⟨25, [4], [(2, [(0, .c (.own false 5)), (13, .c (.slice 1)), (14, .c (.int .i64)), (15, .c (.int .i64))])], [], 0, [], [], Try.f35, [.c (.own false 5), .agg [.int .i64, .int .i64, .int .i64]], [.c (.own false 5)], [(34, F34.S)]⟩
theorem ok35 : F35.S.Ok Try.prog 35 := F35.ok Try.func35 (by kernel_rfl) ⟨ok34, trivial⟩
noncomputable def g35 (x0 : LL) (x1 : Int) (x2 : Int) (x3 : Int) : Option (LL) := F35.S.g [.l x0, .i x1, .i x2, .i x3]
noncomputable def g35L0 (k : Nat) (x0 : LL) (x1 : LL) (x2 : Int) (x3 : Int) : Option (LL) := F35.lp [0] 0 r0 k [.l x0, .l x1, .i x2, .i x3]
theorem g35L0_eq (k : Nat) (x0 : LL) (x1 : LL) (x2 : Int) (x3 : Int) : g35L0 (k + 1) x0 x1 x2 x3 =
 (if (cop .lss x3 x2) = true then
 elemK x1 x3 [.int .i64] fun (r4 : Int) =>
 (g34 x0 (IntKind.wrap .u64 r4)).bind fun (r5 : LL) =>
 g35L0 k r5 x1 x2 (iop .add .i64 x3 1)
 else
 some (x0)) := by kernel_rfl
theorem g35_eq (x0 : LL) (x1 : Int) (x2 : Int) (x3 : Int) : g35 x0 x1 x2 x3 =
 (g35L0 FUEL x0 (((([] : LL) ++ [[AV.val (.int .i64 x1)]]) ++ [[AV.val (.int .i64 x2)]]) ++ [[AV.val (.int .i64 x3)]]) (List.length (((([] : LL) ++ [[AV.val (.int .i64 x1)]]) ++ [[AV.val (.int .i64 x2)]]) ++ [[AV.val (.int .i64 x3)]]) : Int) 0) := by kernel_rfl

/- multikernel/captype.Encode -/
noncomputable def F36 : Fn := ⟨45, [2, 3], [(8, [(1, .box [.int .i64, .int .i64, .int .i64, .int .i64, .int .i64, .int .i64, .bool]), (5, .c (.own false 5)), (31, .c (.int .i64))])], [], 0, [], [], Try.f36, [.agg [.int .i64, .int .i64, .int .i64, .int .i64, .int .i64, .int .i64, .bool]], [.c (.own false 5), .c (.int .i64)], [(28, F28.S)]⟩
theorem ok36 : F36.S.Ok Try.prog 36 := F36.ok Try.func36 (by kernel_rfl) ⟨ok28, trivial⟩
noncomputable def g36 (x0 : Int) (x1 : Int) (x2 : Int) (x3 : Int) (x4 : Int) (x5 : Int) (x6 : Bool) : Option (LL × Int) := F36.S.g [.i x0, .i x1, .i x2, .i x3, .i x4, .i x5, .b x6]
noncomputable def g36L0 (k : Nat) (x0 : Int) (x1 : Int) (x2 : Int) (x3 : Int) (x4 : Int) (x5 : Int) (x6 : Bool) (x7 : LL) (x8 : Int) : Option (LL × Int) := F36.lp [0, 1, 0, 0] 0 r0 k [.i x0, .i x1, .i x2, .i x3, .i x4, .i x5, .b x6, .l x7, .i x8]
theorem g36L0_eq (k : Nat) (x0 : Int) (x1 : Int) (x2 : Int) (x3 : Int) (x4 : Int) (x5 : Int) (x6 : Bool) (x7 : LL) (x8 : Int) : g36L0 (k + 1) x0 x1 x2 x3 x4 x5 x6 x7 x8 =
 (if (cop .lss x8 5) = true then
 reqK ((0 : Int) ≤ (iop .mul .i64 8 x8)) <|
 reqK (roomP x7 (([] : LL) ++ [[AV.val (.int .u8 (IntKind.wrap .u8 (iop .shr .i64 x1 (iop .mul .i64 8 x8))))]]) 1) <|
 g36L0 k x0 x1 x2 x3 x4 x5 x6 (x7 ++ (([] : LL) ++ [[AV.val (.int .u8 (IntKind.wrap .u8 (iop .shr .i64 x1 (iop .mul .i64 8 x8))))]])) (iop .add .i64 x8 1)
 else
 some (x7, 0)) := by kernel_rfl
theorem g36_eq (x0 : Int) (x1 : Int) (x2 : Int) (x3 : Int) (x4 : Int) (x5 : Int) (x6 : Bool) : g36 x0 x1 x2 x3 x4 x5 x6 =
 ((g28 x0 x1 x2 x3 x4 x5 x6).bind fun (r7 : Bool) =>
 if (!r7) = true then
 some (([] : LL), 1)
 else
 if x6 = true then
 g36L0 FUEL x0 x1 x2 x3 x4 x5 x6 (((((([] : LL) ++ [[AV.val (.int .u8 (IntKind.wrap .u8 x0))]]) ++ [[AV.val (.int .u8 (IntKind.wrap .u8 x2))]]) ++ [[AV.val (.int .u8 (IntKind.wrap .u8 (iop .add .i64 x3 8)))]]) ++ [[AV.val (.int .u8 (IntKind.wrap .u8 x4))]]) ++ [[AV.val (.int .u8 (IntKind.wrap .u8 x5))]]) 0
 else
 g36L0 FUEL x0 x1 x2 x3 x4 x5 x6 (((((([] : LL) ++ [[AV.val (.int .u8 (IntKind.wrap .u8 x0))]]) ++ [[AV.val (.int .u8 (IntKind.wrap .u8 x2))]]) ++ [[AV.val (.int .u8 (IntKind.wrap .u8 x3))]]) ++ [[AV.val (.int .u8 (IntKind.wrap .u8 x4))]]) ++ [[AV.val (.int .u8 (IntKind.wrap .u8 x5))]]) 0) := by kernel_rfl

/- multikernel/node.Encode -/
noncomputable def F24 : Fn := ⟨40, [2, 3], [(5, [(1, .box [.int .i64, .int .i64, .int .i64, .slice 3, .int .i64, .int .i64, .int .i64, .int .i64, .int .i64, .int .i64, .bool]), (4, .c (.own false 5)), (21, .c (.slice 3)), (22, .c (.int .i64)), (23, .c (.int .i64))])], [], 0, [], [], Try.f24, [.agg [.int .i64, .int .i64, .int .i64, .slice 3, .int .i64, .int .i64, .int .i64, .int .i64, .int .i64, .int .i64, .bool]], [.c (.own false 5), .c (.int .i64)], [(16, F16.S), (35, F35.S), (34, F34.S), (36, F36.S)]⟩
theorem ok24 : F24.S.Ok Try.prog 24 := F24.ok Try.func24 (by kernel_rfl) ⟨ok16, ⟨ok35, ⟨ok34, ⟨ok36, trivial⟩⟩⟩⟩
noncomputable def g24 (x0 : Int) (x1 : Int) (x2 : Int) (x3 : LL) (x4 : Int) (x5 : Int) (x6 : Int) (x7 : Int) (x8 : Int) (x9 : Int) (x10 : Bool) : Option (LL × Int) := F24.S.g [.i x0, .i x1, .i x2, .l x3, .i x4, .i x5, .i x6, .i x7, .i x8, .i x9, .b x10]
noncomputable def g24L0 (k : Nat) (x0 : Int) (x1 : Int) (x2 : Int) (x3 : LL) (x4 : Int) (x5 : Int) (x6 : Int) (x7 : Int) (x8 : Int) (x9 : Int) (x10 : Bool) (x11 : LL) (x12 : LL) (x13 : Int) (x14 : Int) : Option (LL × Int) := F24.lp [0, 1, 3] 0 r0 k [.i x0, .i x1, .i x2, .l x3, .i x4, .i x5, .i x6, .i x7, .i x8, .i x9, .b x10, .l x11, .l x12, .i x13, .i x14]
theorem g24L0_eq (k : Nat) (x0 : Int) (x1 : Int) (x2 : Int) (x3 : LL) (x4 : Int) (x5 : Int) (x6 : Int) (x7 : Int) (x8 : Int) (x9 : Int) (x10 : Bool) (x11 : LL) (x12 : LL) (x13 : Int) (x14 : Int) : g24L0 (k + 1) x0 x1 x2 x3 x4 x5 x6 x7 x8 x9 x10 x11 x12 x13 x14 =
 (if (cop .lss x14 x13) = true then
 elemK x12 x14 [.int .i64, .int .i64, .int .i64] fun (r15 : Int × Int × Int) =>
 (g35 x11 r15.1 r15.2.1 r15.2.2).bind fun (r18 : LL) =>
 g24L0 k x0 x1 x2 x3 x4 x5 x6 x7 x8 x9 x10 r18 x12 x13 (iop .add .i64 x14 1)
 else
 (g36 x4 x5 x6 x7 x8 x9 x10).bind fun (r15 : LL × Int) =>
 reqK (roomP x11 r15.1 1) <|
 some ((x11 ++ r15.1), 0)) := by kernel_rfl
theorem g24_eq (x0 : Int) (x1 : Int) (x2 : Int) (x3 : LL) (x4 : Int) (x5 : Int) (x6 : Int) (x7 : Int) (x8 : Int) (x9 : Int) (x10 : Bool) : g24 x0 x1 x2 x3 x4 x5 x6 x7 x8 x9 x10 =
 ((g16 x0 x1 x2 x3 x4 x5 x6 x7 x8 x9 x10).bind fun (r11 : Bool) =>
 if (!r11) = true then
 some (([] : LL), 1)
 else
 (g35 ([] : LL) x0 x1 x2).bind fun (r12 : LL) =>
 (g34 r12 (IntKind.wrap .u64 (List.length x3 : Int))).bind fun (r13 : LL) =>
 g24L0 FUEL x0 x1 x2 x3 x4 x5 x6 x7 x8 x9 x10 r13 x3 (List.length x3 : Int) 0) := by kernel_rfl

/- multikernel/multikernellaw12.awake -/
noncomputable def F5 : Fn := ⟨39, [0], [], [], 0, [], [], Try.f5, [], [.c (.bool)], [(7, F7.S), (23, F23.S), (24, F24.S), (16, F16.S), (22, F22.S)]⟩
theorem ok5 : F5.S.Ok Try.prog 5 := F5.ok Try.func5 (by kernel_rfl) ⟨ok7, ⟨ok23, ⟨ok24, ⟨ok16, ⟨ok22, trivial⟩⟩⟩⟩⟩
noncomputable def g5 : Option (Bool) := F5.S.g []
theorem g5_eq : g5 =
 ((g7).bind fun (r0 : Int × Int × Int × Int × Int × Int × Bool) =>
 (g7).bind fun (r7 : Int × Int × Int × Int × Int × Int × Bool) =>
 (g23 0 1 0 ([] : LL) r0.1 r0.2.1 r0.2.2.1 r0.2.2.2.1 r0.2.2.2.2.1 r0.2.2.2.2.2.1 r0.2.2.2.2.2.2 0 2 0 r7.1 r7.2.1 r7.2.2.1 r7.2.2.2.1 r7.2.2.2.2.1 r7.2.2.2.2.2.1 r7.2.2.2.2.2.2).bind fun (r14 : Int × Int × Int × LL × Int × Int × Int × Int × Int × Int × Bool × Int) =>
 (g24 r14.1 r14.2.1 r14.2.2.1 r14.2.2.2.1 r14.2.2.2.2.1 r14.2.2.2.2.2.1 r14.2.2.2.2.2.2.1 r14.2.2.2.2.2.2.2.1 r14.2.2.2.2.2.2.2.2.1 r14.2.2.2.2.2.2.2.2.2.1 r14.2.2.2.2.2.2.2.2.2.2.1).bind fun (r26 : LL × Int) =>
 if (cop .eql r14.2.2.2.2.2.2.2.2.2.2.2 0) = true then
 if (cop .eql r26.2 0) = true then
 if (cop .eql (List.length r26.1 : Int) 17) = true then
 (g16 r14.1 r14.2.1 r14.2.2.1 r14.2.2.2.1 r14.2.2.2.2.1 r14.2.2.2.2.2.1 r14.2.2.2.2.2.2.1 r14.2.2.2.2.2.2.2.1 r14.2.2.2.2.2.2.2.2.1 r14.2.2.2.2.2.2.2.2.2.1 r14.2.2.2.2.2.2.2.2.2.2.1).bind fun (r28 : Bool) =>
 if r28 = true then
 (g22 r14.1 r14.2.1 r14.2.2.1 r14.2.2.2.1 r14.2.2.2.2.1 r14.2.2.2.2.2.1 r14.2.2.2.2.2.2.1 r14.2.2.2.2.2.2.2.1 r14.2.2.2.2.2.2.2.2.1 r14.2.2.2.2.2.2.2.2.2.1 r14.2.2.2.2.2.2.2.2.2.2.1 0 1 0).bind fun (r29 : Bool) =>
 some (r29)
 else
 some (false)
 else
 some (false)
 else
 some (false)
 else
 some (false)) := by kernel_rfl

/- multikernel/multikernelmake.Place -/
noncomputable def F37 : Fn := ⟨16, [4], [], [], 0, [], [], Try.f37, [.c (.int .i64), .c (.int .i64)], [.c (.int .i64)], []⟩
theorem ok37 : F37.S.Ok Try.prog 37 := F37.ok Try.func37 (by kernel_rfl) trivial
noncomputable def g37 (x0 : Int) (x1 : Int) : Option (Int) := F37.S.g [.i x0, .i x1]
theorem g37_eq (x0 : Int) (x1 : Int) : g37 x0 x1 =
 (if (cop .lss x1 1) = true then
 some (0)
 else
 reqK ((x1 : Int) ≠ 0) <|
 if (cop .lss (iop .rem .i64 x0 x1) 0) = true then
 some ((iop .add .i64 (iop .rem .i64 x0 x1) x1))
 else
 some ((iop .rem .i64 x0 x1))) := by kernel_rfl

/- multikernel/multikernelmake.Id -/
noncomputable def F25 : Fn := ⟨15, [6], [], [], 0, [], [], Try.f25, [.c (.int .i64), .c (.int .i64), .c (.int .i64)], [.agg [.int .i64, .int .i64, .int .i64]], [(37, F37.S)]⟩
theorem ok25 : F25.S.Ok Try.prog 25 := F25.ok Try.func25 (by kernel_rfl) ⟨ok37, trivial⟩
noncomputable def g25 (x0 : Int) (x1 : Int) (x2 : Int) : Option (Int × Int × Int) := F25.S.g [.i x0, .i x1, .i x2]
theorem g25_eq (x0 : Int) (x1 : Int) (x2 : Int) : g25 x0 x1 x2 =
 ((g37 x0 4).bind fun (r3 : Int) =>
 (g37 x1 12).bind fun (r4 : Int) =>
 (g37 x2 3).bind fun (r5 : Int) =>
 some (r3, (iop .add .i64 1 r4), r5)) := by kernel_rfl

/- multikernel/multikernelref10.HasId -/
noncomputable def F10 : Fn := ⟨18, [4], [(2, [(0, .c (.slice 3)), (3, .box [.int .i64, .int .i64, .int .i64]), (5, .c (.int .i64))])], [], 0, [], [], Try.f10, [.c (.slice 3), .agg [.int .i64, .int .i64, .int .i64]], [.c (.bool)], []⟩
theorem ok10 : F10.S.Ok Try.prog 10 := F10.ok Try.func10 (by kernel_rfl) trivial
noncomputable def g10 (x0 : LL) (x1 : Int) (x2 : Int) (x3 : Int) : Option (Bool) := F10.S.g [.l x0, .i x1, .i x2, .i x3]
noncomputable def g10L0 (k : Nat) (x0 : LL) (x1 : Int) (x2 : Int) (x3 : Int) (x4 : Int) : Option (Bool) := F10.lp [0] 0 r0 k [.l x0, .i x1, .i x2, .i x3, .i x4]
theorem g10L0_eq (k : Nat) (x0 : LL) (x1 : Int) (x2 : Int) (x3 : Int) (x4 : Int) : g10L0 (k + 1) x0 x1 x2 x3 x4 =
 (if (cop .lss x4 (List.length x0 : Int)) = true then
 elemK x0 x4 [.int .i64, .int .i64, .int .i64] fun (r5 : Int × Int × Int) =>
 if ((cop .eql r5.1 x1) && ((cop .eql r5.2.1 x2) && ((cop .eql r5.2.2 x3) && true))) = true then
 some (true)
 else
 g10L0 k x0 x1 x2 x3 (iop .add .i64 x4 1)
 else
 some (false)) := by kernel_rfl
theorem g10_eq (x0 : LL) (x1 : Int) (x2 : Int) (x3 : Int) : g10 x0 x1 x2 x3 =
 (g10L0 FUEL x0 x1 x2 x3 0) := by kernel_rfl

/- multikernel/multikernelmake.Ids -/
noncomputable def F8 : Fn := ⟨41, [2], [(3, [(0, .c (.slice 1)), (3, .c (.own false 25)), (4, .c (.int .i64))])], [], 0, [], [], Try.f8, [.c (.slice 1)], [.c (.own false 25)], [(25, F25.S), (10, F10.S)]⟩
theorem ok8 : F8.S.Ok Try.prog 8 := F8.ok Try.func8 (by kernel_rfl) ⟨ok25, ⟨ok10, trivial⟩⟩
noncomputable def g8 (x0 : LL) : Option (LL) := F8.S.g [.l x0]
noncomputable def g8L0 (k : Nat) (x0 : LL) (x1 : LL) (x2 : Int) : Option (LL) := F8.lp [0] 0 r0 k [.l x0, .l x1, .i x2]
theorem g8L0_eq (k : Nat) (x0 : LL) (x1 : LL) (x2 : Int) : g8L0 (k + 1) x0 x1 x2 =
 (if (cop .lss x2 (List.length x0 : Int)) = true then
 if (cop .lss (List.length x1 : Int) 8) = true then
 elemK x0 x2 [.int .i64] fun (r3 : Int) =>
 elemK x0 x2 [.int .i64] fun (r4 : Int) =>
 reqK ((4 : Int) ≠ 0) <|
 elemK x0 x2 [.int .i64] fun (r5 : Int) =>
 reqK ((48 : Int) ≠ 0) <|
 (g25 r3 (iop .quo .i64 r4 4) (iop .quo .i64 r5 48)).bind fun (r6 : Int × Int × Int) =>
 (g10 x1 r6.1 r6.2.1 r6.2.2).bind fun (r9 : Bool) =>
 if (!r9) = true then
 reqK (roomP x1 (([] : LL) ++ [[AV.val (.int .i64 r6.1), AV.val (.int .i64 r6.2.1), AV.val (.int .i64 r6.2.2)]]) 24) <|
 g8L0 k x0 (x1 ++ (([] : LL) ++ [[AV.val (.int .i64 r6.1), AV.val (.int .i64 r6.2.1), AV.val (.int .i64 r6.2.2)]])) (iop .add .i64 x2 1)
 else
 g8L0 k x0 x1 (iop .add .i64 x2 1)
 else
 some (x1)
 else
 some (x1)) := by kernel_rfl
theorem g8_eq (x0 : LL) : g8 x0 =
 (g8L0 FUEL x0 ([] : LL) 0) := by kernel_rfl

/- multikernel/multikernelref10.CopyIds -/
noncomputable def F12 : Fn := ⟨5, [2], [], [], 0, [], [], Try.f12, [.c (.slice 3)], [.c (.own false 25)], []⟩
theorem ok12 : F12.S.Ok Try.prog 12 := F12.ok Try.func12 (by kernel_rfl) trivial
noncomputable def g12 (x0 : LL) : Option (LL) := F12.S.g [.l x0]
theorem g12_eq (x0 : LL) : g12 x0 =
 (reqK (roomP ([] : LL) x0 24) <|
 some (x0)) := by kernel_rfl

/- multikernel/multikernelmake.Node -/
noncomputable def F6 : Fn := ⟨48, [10], [(4, [(10, .box [.int .i64, .int .i64, .int .i64, .slice 3, .int .i64, .int .i64, .int .i64, .int .i64, .int .i64, .int .i64, .bool]), (11, .box [.int .i64, .int .i64, .int .i64, .slice 3, .int .i64, .int .i64, .int .i64, .int .i64, .int .i64, .int .i64, .bool]), (12, .c (.slice 3)), (13, .c (.int .i64))])], [], 0, [], [], Try.f6, [.c (.int .i64), .c (.int .i64), .c (.int .i64), .c (.slice 1), .agg [.int .i64, .int .i64, .int .i64, .int .i64, .int .i64, .int .i64, .bool]], [.agg [.int .i64, .int .i64, .int .i64, .slice 3, .int .i64, .int .i64, .int .i64, .int .i64, .int .i64, .int .i64, .bool]], [(25, F25.S), (8, F8.S), (12, F12.S)]⟩
theorem ok6 : F6.S.Ok Try.prog 6 := F6.ok Try.func6 (by kernel_rfl) ⟨ok25, ⟨ok8, ⟨ok12, trivial⟩⟩⟩
noncomputable def g6 (x0 : Int) (x1 : Int) (x2 : Int) (x3 : LL) (x4 : Int) (x5 : Int) (x6 : Int) (x7 : Int) (x8 : Int) (x9 : Int) (x10 : Bool) : Option (Int × Int × Int × LL × Int × Int × Int × Int × Int × Int × Bool) := F6.S.g [.i x0, .i x1, .i x2, .l x3, .i x4, .i x5, .i x6, .i x7, .i x8, .i x9, .b x10]
noncomputable def g6L0 (k : Nat) (x0 : Int) (x1 : Int) (x2 : Int) (x3 : LL) (x4 : Int) (x5 : Int) (x6 : Int) (x7 : Int) (x8 : Int) (x9 : Int) (x10 : Bool) (x11 : Int) (x12 : Int) (x13 : Int) (x14 : LL) (x15 : Int) (x16 : Int) (x17 : Int) (x18 : Int) (x19 : Int) (x20 : Int) (x21 : Bool) (x22 : LL) (x23 : Int) : Option (Int × Int × Int × LL × Int × Int × Int × Int × Int × Int × Bool) := F6.lp [3] 0 r0 k [.i x0, .i x1, .i x2, .l x3, .i x4, .i x5, .i x6, .i x7, .i x8, .i x9, .b x10, .i x11, .i x12, .i x13, .l x14, .i x15, .i x16, .i x17, .i x18, .i x19, .i x20, .b x21, .l x22, .i x23]
theorem g6L0_eq (k : Nat) (x0 : Int) (x1 : Int) (x2 : Int) (x3 : LL) (x4 : Int) (x5 : Int) (x6 : Int) (x7 : Int) (x8 : Int) (x9 : Int) (x10 : Bool) (x11 : Int) (x12 : Int) (x13 : Int) (x14 : LL) (x15 : Int) (x16 : Int) (x17 : Int) (x18 : Int) (x19 : Int) (x20 : Int) (x21 : Bool) (x22 : LL) (x23 : Int) : g6L0 (k + 1) x0 x1 x2 x3 x4 x5 x6 x7 x8 x9 x10 x11 x12 x13 x14 x15 x16 x17 x18 x19 x20 x21 x22 x23 =
 (if (cop .lss x23 (List.length x22 : Int)) = true then
 elemK x22 x23 [.int .i64, .int .i64, .int .i64] fun (r24 : Int × Int × Int) =>
 if (!((cop .eql r24.1 x11) && ((cop .eql r24.2.1 x12) && ((cop .eql r24.2.2 x13) && true)))) = true then
 (g12 x14).bind fun (r27 : LL) =>
 elemK x22 x23 [.int .i64, .int .i64, .int .i64] fun (r28 : Int × Int × Int) =>
 reqK (roomP r27 (([] : LL) ++ [[AV.val (.int .i64 r28.1), AV.val (.int .i64 r28.2.1), AV.val (.int .i64 r28.2.2)]]) 24) <|
 g6L0 k x0 x1 x2 x3 x4 x5 x6 x7 x8 x9 x10 x11 x12 x13 (r27 ++ (([] : LL) ++ [[AV.val (.int .i64 r28.1), AV.val (.int .i64 r28.2.1), AV.val (.int .i64 r28.2.2)]])) x15 x16 x17 x18 x19 x20 x21 x22 (iop .add .i64 x23 1)
 else
 g6L0 k x0 x1 x2 x3 x4 x5 x6 x7 x8 x9 x10 x11 x12 x13 x14 x15 x16 x17 x18 x19 x20 x21 x22 (iop .add .i64 x23 1)
 else
 some (x11, x12, x13, x14, x15, x16, x17, x18, x19, x20, x21)) := by kernel_rfl
theorem g6_eq (x0 : Int) (x1 : Int) (x2 : Int) (x3 : LL) (x4 : Int) (x5 : Int) (x6 : Int) (x7 : Int) (x8 : Int) (x9 : Int) (x10 : Bool) : g6 x0 x1 x2 x3 x4 x5 x6 x7 x8 x9 x10 =
 ((g25 x0 x1 x2).bind fun (r11 : Int × Int × Int) =>
 (g8 x3).bind fun (r14 : LL) =>
 g6L0 FUEL 0 0 0 ([] : LL) 0 0 0 0 0 0 false r11.1 r11.2.1 r11.2.2 ([] : LL) x4 x5 x6 x7 x8 x9 x10 r14 0) := by kernel_rfl

/- multikernel/node.Parent: told by hand -/

/- multikernel/multikernellaw12.NodeParent -/
noncomputable def F3 : Fn := ⟨80, [10], [(8, [(11, .box [.int .i64, .int .i64, .int .i64, .slice 3, .int .i64, .int .i64, .int .i64, .int .i64, .int .i64, .int .i64, .bool]), (12, .c (.slice 3)), (13, .box [.int .i64, .int .i64, .int .i64]), (14, .c (.bool)), (15, .c (.int .i64)), (16, .c (.int .i64))])], [], 0, [], [], Try.f3, [.c (.int .i64), .c (.int .i64), .c (.int .i64), .c (.slice 1), .c (.slice 1)], [.c (.bool)], [(5, F5.S), (7, F7.S), (6, F6.S), (8, F8.S), (9, F9.S), (10, F10.S)]⟩
theorem ok3 : F3.S.Ok Try.prog 3 := F3.ok Try.func3 (by kernel_rfl) ⟨ok5, ⟨ok7, ⟨ok6, ⟨ok8, ⟨ok9, ⟨ok10, trivial⟩⟩⟩⟩⟩⟩
noncomputable def g3 (x0 : Int) (x1 : Int) (x2 : Int) (x3 : LL) (x4 : LL) : Option (Bool) := F3.S.g [.i x0, .i x1, .i x2, .l x3, .l x4]
noncomputable def g3L0 (k : Nat) (x0 : Int) (x1 : Int) (x2 : Int) (x3 : LL) (x4 : Int) (x5 : Int) (x6 : Int) (x7 : Int) (x8 : Int) (x9 : Int) (x10 : Bool) (x11 : LL) (x12 : Int) (x13 : Int) (x14 : Int) (x15 : Bool) (x16 : Int) (x17 : Int) : Option (Bool) := F3.lp [1, 1, 5] 0 r0 k [.i x0, .i x1, .i x2, .l x3, .i x4, .i x5, .i x6, .i x7, .i x8, .i x9, .b x10, .l x11, .i x12, .i x13, .i x14, .b x15, .i x16, .i x17]
theorem g3L0_eq (k : Nat) (x0 : Int) (x1 : Int) (x2 : Int) (x3 : LL) (x4 : Int) (x5 : Int) (x6 : Int) (x7 : Int) (x8 : Int) (x9 : Int) (x10 : Bool) (x11 : LL) (x12 : Int) (x13 : Int) (x14 : Int) (x15 : Bool) (x16 : Int) (x17 : Int) : g3L0 (k + 1) x0 x1 x2 x3 x4 x5 x6 x7 x8 x9 x10 x11 x12 x13 x14 x15 x16 x17 =
 (if (cop .lss x17 (List.length x3 : Int)) = true then
 elemK x3 x17 [.int .i64, .int .i64, .int .i64] fun (r18 : Int × Int × Int) =>
 (g10 x11 r18.1 r18.2.1 r18.2.2).bind fun (r21 : Bool) =>
 if r21 = true then
 g3L0 k x0 x1 x2 x3 x4 x5 x6 x7 x8 x9 x10 x11 x12 x13 x14 x15 x17 (iop .add .i64 x17 1)
 else
 g3L0 k x0 x1 x2 x3 x4 x5 x6 x7 x8 x9 x10 x11 x12 x13 x14 x15 x16 (iop .add .i64 x17 1)
 else
 if (cop .lss x16 0) = true then
 if (!x15) = true then
 if ((cop .eql x12 0) && ((cop .eql x13 0) && ((cop .eql x14 0) && true))) = true then
 (g5).bind fun (r18 : Bool) =>
 some (r18)
 else
 some (false)
 else
 some (false)
 else
 if x15 = true then
 elemK x3 x16 [.int .i64, .int .i64, .int .i64] fun (r18 : Int × Int × Int) =>
 if ((cop .eql x12 r18.1) && ((cop .eql x13 r18.2.1) && ((cop .eql x14 r18.2.2) && true))) = true then
 (g5).bind fun (r21 : Bool) =>
 some (r21)
 else
 some (false)
 else
 some (false)) := by kernel_rfl
theorem g3_eq (x0 : Int) (x1 : Int) (x2 : Int) (x3 : LL) (x4 : LL) : g3 x0 x1 x2 x3 x4 =
 (if (cop .gtr (List.length x3 : Int) 40) = true then
 (g5).bind fun (r5 : Bool) =>
 some (r5)
 else
 if (cop .gtr (List.length x4 : Int) 40) = true then
 (g5).bind fun (r5 : Bool) =>
 some (r5)
 else
 (g7).bind fun (r5 : Int × Int × Int × Int × Int × Int × Bool) =>
 (g6 x0 x1 x2 x3 r5.1 r5.2.1 r5.2.2.1 r5.2.2.2.1 r5.2.2.2.2.1 r5.2.2.2.2.2.1 r5.2.2.2.2.2.2).bind fun (r12 : Int × Int × Int × LL × Int × Int × Int × Int × Int × Int × Bool) =>
 (g8 x4).bind fun (r23 : LL) =>
 (g9 r12.1 r12.2.1 r12.2.2.1 r12.2.2.2.1 r12.2.2.2.2.1 r12.2.2.2.2.2.1 r12.2.2.2.2.2.2.1 r12.2.2.2.2.2.2.2.1 r12.2.2.2.2.2.2.2.2.1 r12.2.2.2.2.2.2.2.2.2.1 r12.2.2.2.2.2.2.2.2.2.2 r23).bind fun (r24 : Int × Int × Int × Bool) =>
 g3L0 FUEL r12.1 r12.2.1 r12.2.2.1 r12.2.2.2.1 r12.2.2.2.2.1 r12.2.2.2.2.2.1 r12.2.2.2.2.2.2.1 r12.2.2.2.2.2.2.2.1 r12.2.2.2.2.2.2.2.2.1 r12.2.2.2.2.2.2.2.2.2.1 r12.2.2.2.2.2.2.2.2.2.2 r23 r24.1 r24.2.1 r24.2.2.1 r24.2.2.2 (-1) 0) := by kernel_rfl

/- multikernel/multikernelref10.CopyNode -/
noncomputable def F11 : Fn := ⟨8, [2], [], [], 0, [], [], Try.f11, [.agg [.int .i64, .int .i64, .int .i64, .slice 3, .int .i64, .int .i64, .int .i64, .int .i64, .int .i64, .int .i64, .bool]], [.agg [.int .i64, .int .i64, .int .i64, .slice 3, .int .i64, .int .i64, .int .i64, .int .i64, .int .i64, .int .i64, .bool]], [(12, F12.S)]⟩
theorem ok11 : F11.S.Ok Try.prog 11 := F11.ok Try.func11 (by kernel_rfl) ⟨ok12, trivial⟩
noncomputable def g11 (x0 : Int) (x1 : Int) (x2 : Int) (x3 : LL) (x4 : Int) (x5 : Int) (x6 : Int) (x7 : Int) (x8 : Int) (x9 : Int) (x10 : Bool) : Option (Int × Int × Int × LL × Int × Int × Int × Int × Int × Int × Bool) := F11.S.g [.i x0, .i x1, .i x2, .l x3, .i x4, .i x5, .i x6, .i x7, .i x8, .i x9, .b x10]
theorem g11_eq (x0 : Int) (x1 : Int) (x2 : Int) (x3 : LL) (x4 : Int) (x5 : Int) (x6 : Int) (x7 : Int) (x8 : Int) (x9 : Int) (x10 : Bool) : g11 x0 x1 x2 x3 x4 x5 x6 x7 x8 x9 x10 =
 ((g12 x3).bind fun (r11 : LL) =>
 some (x0, x1, x2, r11, x4, x5, x6, x7, x8, x9, x10)) := by kernel_rfl

/- multikernel/multikernelref10.ParentOf -/
noncomputable def F13 : Fn := ⟨28, [4, 5], [(2, [(1, .c (.slice 3)), (2, .box [.int .i64, .int .i64, .int .i64, .slice 3, .int .i64, .int .i64, .int .i64, .int .i64, .int .i64, .int .i64, .bool]), (4, .box [.int .i64, .int .i64, .int .i64]), (6, .c (.int .i64))])], [], 0, [], [], Try.f13, [.agg [.int .i64, .int .i64, .int .i64, .slice 3, .int .i64, .int .i64, .int .i64, .int .i64, .int .i64, .int .i64, .bool], .c (.slice 3)], [.agg [.int .i64, .int .i64, .int .i64], .c (.bool)], [(10, F10.S)]⟩
theorem ok13 : F13.S.Ok Try.prog 13 := F13.ok Try.func13 (by kernel_rfl) ⟨ok10, trivial⟩
noncomputable def g13 (x0 : Int) (x1 : Int) (x2 : Int) (x3 : LL) (x4 : Int) (x5 : Int) (x6 : Int) (x7 : Int) (x8 : Int) (x9 : Int) (x10 : Bool) (x11 : LL) : Option (Int × Int × Int × Bool) := F13.S.g [.i x0, .i x1, .i x2, .l x3, .i x4, .i x5, .i x6, .i x7, .i x8, .i x9, .b x10, .l x11]
noncomputable def g13L0 (k : Nat) (x0 : LL) (x1 : Int) (x2 : Int) (x3 : Int) (x4 : LL) (x5 : Int) (x6 : Int) (x7 : Int) (x8 : Int) (x9 : Int) (x10 : Int) (x11 : Bool) (x12 : Int) (x13 : Int) (x14 : Int) (x15 : Int) : Option (Int × Int × Int × Bool) := F13.lp [0] 0 r0 k [.l x0, .i x1, .i x2, .i x3, .l x4, .i x5, .i x6, .i x7, .i x8, .i x9, .i x10, .b x11, .i x12, .i x13, .i x14, .i x15]
theorem g13L0_eq (k : Nat) (x0 : LL) (x1 : Int) (x2 : Int) (x3 : Int) (x4 : LL) (x5 : Int) (x6 : Int) (x7 : Int) (x8 : Int) (x9 : Int) (x10 : Int) (x11 : Bool) (x12 : Int) (x13 : Int) (x14 : Int) (x15 : Int) : g13L0 (k + 1) x0 x1 x2 x3 x4 x5 x6 x7 x8 x9 x10 x11 x12 x13 x14 x15 =
 (if (cop .geq x15 0) = true then
 elemK x4 x15 [.int .i64, .int .i64, .int .i64] fun (r16 : Int × Int × Int) =>
 (g10 x0 r16.1 r16.2.1 r16.2.2).bind fun (r19 : Bool) =>
 if r19 = true then
 elemK x4 x15 [.int .i64, .int .i64, .int .i64] fun (r20 : Int × Int × Int) =>
 some (r20.1, r20.2.1, r20.2.2, true)
 else
 g13L0 k x0 x1 x2 x3 x4 x5 x6 x7 x8 x9 x10 x11 x12 x13 x14 (iop .sub .i64 x15 1)
 else
 some (0, 0, 0, false)) := by kernel_rfl
theorem g13_eq (x0 : Int) (x1 : Int) (x2 : Int) (x3 : LL) (x4 : Int) (x5 : Int) (x6 : Int) (x7 : Int) (x8 : Int) (x9 : Int) (x10 : Bool) (x11 : LL) : g13 x0 x1 x2 x3 x4 x5 x6 x7 x8 x9 x10 x11 =
 (g13L0 FUEL x11 x0 x1 x2 x3 x4 x5 x6 x7 x8 x9 x10 0 0 0 (iop .sub .i64 (List.length x3 : Int) 1)) := by kernel_rfl

/- multikernel/multikernelref10.ValidId -/
noncomputable def F15 : Fn := ⟨31, [2], [], [], 0, [], [], Try.f15, [.agg [.int .i64, .int .i64, .int .i64]], [.c (.bool)], []⟩
theorem ok15 : F15.S.Ok Try.prog 15 := F15.ok Try.func15 (by kernel_rfl) trivial
noncomputable def g15 (x0 : Int) (x1 : Int) (x2 : Int) : Option (Bool) := F15.S.g [.i x0, .i x1, .i x2]
theorem g15_eq (x0 : Int) (x1 : Int) (x2 : Int) : g15 x0 x1 x2 =
 (if (cop .geq x0 0) = true then
 if (cop .lss x0 32) = true then
 if (cop .geq x1 1) = true then
 if (cop .leq x1 1073741824) = true then
 if (cop .geq x2 0) = true then
 some ((cop .lss x2 8))
 else
 some (false)
 else
 some (false)
 else
 some (false)
 else
 some (false)
 else
 some (false)) := by kernel_rfl

/- multikernel/multikernelref10.fixed -/
noncomputable def F50 : Fn := ⟨12, [2], [], [], 0, [], [], Try.f50, [.c (.int .i64)], [.c (.int .i64)], []⟩
theorem ok50 : F50.S.Ok Try.prog 50 := F50.ok Try.func50 (by kernel_rfl) trivial
noncomputable def g50 (x0 : Int) : Option (Int) := F50.S.g [.i x0]
theorem g50_eq (x0 : Int) : g50 x0 =
 (if (cop .eql x0 3) = true then
 some (12)
 else
 if (cop .eql x0 4) = true then
 some (6)
 else
 if (cop .eql x0 5) = true then
 some (10)
 else
 if (cop .eql x0 6) = true then
 some (16)
 else
 some (0)) := by kernel_rfl

/- multikernel/multikernelref10.sized -/
noncomputable def F44 : Fn := ⟨35, [4], [], [], 0, [], [], Try.f44, [.c (.int .i64), .c (.int .i64)], [.c (.bool)], [(50, F50.S)]⟩
theorem ok44 : F44.S.Ok Try.prog 44 := F44.ok Try.func44 (by kernel_rfl) ⟨ok50, trivial⟩
noncomputable def g44 (x0 : Int) (x1 : Int) : Option (Bool) := F44.S.g [.i x0, .i x1]
theorem g44_eq (x0 : Int) (x1 : Int) : g44 x0 x1 =
 (if (cop .eql x0 1) = true then
 if (cop .geq x1 6) = true then
 some ((cop .leq x1 40))
 else
 some (false)
 else
 if (cop .eql x0 2) = true then
 if (cop .geq x1 12) = true then
 some ((cop .leq x1 40))
 else
 some (false)
 else
 if (cop .geq x0 3) = true then
 if (cop .leq x0 6) = true then
 (g50 x0).bind fun (r2 : Int) =>
 some ((cop .eql x1 r2))
 else
 some (false)
 else
 some (false)) := by kernel_rfl

/- multikernel/multikernelref10.Range -/
noncomputable def F46 : Fn := ⟨8, [2], [], [], 0, [], [], Try.f46, [.agg [.int .i64, .int .i64, .int .i64, .int .i64, .int .i64, .int .i64, .bool]], [.agg [.int .i64, .int .i64]], []⟩
theorem ok46 : F46.S.Ok Try.prog 46 := F46.ok Try.func46 (by kernel_rfl) trivial
noncomputable def g46 (x0 : Int) (x1 : Int) (x2 : Int) (x3 : Int) (x4 : Int) (x5 : Int) (x6 : Bool) : Option (Int × Int) := F46.S.g [.i x0, .i x1, .i x2, .i x3, .i x4, .i x5, .b x6]
theorem g46_eq (x0 : Int) (x1 : Int) (x2 : Int) (x3 : Int) (x4 : Int) (x5 : Int) (x6 : Bool) : g46 x0 x1 x2 x3 x4 x5 x6 =
 (some (x1, x2)) := by kernel_rfl

/- multikernel/multikernelref10.ValidRange -/
noncomputable def F45 : Fn := ⟨38, [2], [], [], 0, [], [], Try.f45, [.agg [.int .i64, .int .i64]], [.c (.bool)], []⟩
theorem ok45 : F45.S.Ok Try.prog 45 := F45.ok Try.func45 (by kernel_rfl) trivial
noncomputable def g45 (x0 : Int) (x1 : Int) : Option (Bool) := F45.S.g [.i x0, .i x1]
theorem g45_eq (x0 : Int) (x1 : Int) : g45 x0 x1 =
 (if (cop .lss x1 6) = true then
 some (false)
 else
 if (cop .gtr x1 40) = true then
 some (false)
 else
 if (cop .lss x0 0) = true then
 some (false)
 else
 if (cop .geq x0 1099511627776) = true then
 some (false)
 else
 reqK ((0 : Int) ≤ (IntKind.wrap .u64 x1)) <|
 reqK (((iop .shl .i64 1 (IntKind.wrap .u64 x1)) : Int) ≠ 0) <|
 if (cop .eql (iop .rem .i64 x0 (iop .shl .i64 1 (IntKind.wrap .u64 x1))) 0) = true then
 some ((cop .leq (iop .add .i64 x0 (iop .shl .i64 1 (IntKind.wrap .u64 x1))) 1099511627776))
 else
 some (false)) := by kernel_rfl

/- multikernel/multikernelref10.leveled -/
noncomputable def F47 : Fn := ⟨23, [4], [], [], 0, [], [], Try.f47, [.c (.int .i64), .c (.int .i64)], [.c (.bool)], []⟩
theorem ok47 : F47.S.Ok Try.prog 47 := F47.ok Try.func47 (by kernel_rfl) trivial
noncomputable def g47 (x0 : Int) (x1 : Int) : Option (Bool) := F47.S.g [.i x0, .i x1]
theorem g47_eq (x0 : Int) (x1 : Int) : g47 x0 x1 =
 (if (cop .geq x1 0) = true then
 if (cop .eql x0 32) = true then
 if (cop .leq x1 1) = true then
 some (true)
 else
 if (cop .eql x0 39) = true then
 some ((cop .leq x1 2))
 else
 some (false)
 else
 if (cop .eql x0 39) = true then
 some ((cop .leq x1 2))
 else
 some (false)
 else
 some (false)) := by kernel_rfl

/- multikernel/multikernelref10.ValidCap -/
noncomputable def F29 : Fn := ⟨64, [2], [], [], 0, [], [], Try.f29, [.agg [.int .i64, .int .i64, .int .i64, .int .i64, .int .i64, .int .i64, .bool]], [.c (.bool)], [(44, F44.S), (46, F46.S), (45, F45.S), (47, F47.S)]⟩
theorem ok29 : F29.S.Ok Try.prog 29 := F29.ok Try.func29 (by kernel_rfl) ⟨ok44, ⟨ok46, ⟨ok45, ⟨ok47, trivial⟩⟩⟩⟩
noncomputable def g29 (x0 : Int) (x1 : Int) (x2 : Int) (x3 : Int) (x4 : Int) (x5 : Int) (x6 : Bool) : Option (Bool) := F29.S.g [.i x0, .i x1, .i x2, .i x3, .i x4, .i x5, .b x6]
theorem g29_eq (x0 : Int) (x1 : Int) (x2 : Int) (x3 : Int) (x4 : Int) (x5 : Int) (x6 : Bool) : g29 x0 x1 x2 x3 x4 x5 x6 =
 ((g44 x0 x2).bind fun (r7 : Bool) =>
 if (!r7) = true then
 some (false)
 else
 (g46 x0 x1 x2 x3 x4 x5 x6).bind fun (r8 : Int × Int) =>
 (g45 r8.1 r8.2).bind fun (r10 : Bool) =>
 if (!r10) = true then
 some (false)
 else
 if (cop .lss x3 0) = true then
 some (false)
 else
 if (cop .gtr x3 7) = true then
 some (false)
 else
 if (cop .eql x0 3) = true then
 (g47 x4 x5).bind fun (r11 : Bool) =>
 if (!r11) = true then
 some (false)
 else
 if (cop .neq x0 3) = true then
 if (cop .neq x4 0) = true then
 some (false)
 else
 if (cop .neq x5 0) = true then
 some (false)
 else
 if (!x6) = true then
 some (true)
 else
 if (cop .eql x0 1) = true then
 some (true)
 else
 some ((cop .eql x0 2))
 else
 if (!x6) = true then
 some (true)
 else
 if (cop .eql x0 1) = true then
 some (true)
 else
 some ((cop .eql x0 2))
 else
 if (cop .neq x0 3) = true then
 if (cop .neq x4 0) = true then
 some (false)
 else
 if (cop .neq x5 0) = true then
 some (false)
 else
 if (!x6) = true then
 some (true)
 else
 if (cop .eql x0 1) = true then
 some (true)
 else
 some ((cop .eql x0 2))
 else
 if (!x6) = true then
 some (true)
 else
 if (cop .eql x0 1) = true then
 some (true)
 else
 some ((cop .eql x0 2))) := by kernel_rfl

/- multikernel/multikernelref10.ValidNode -/
noncomputable def F17 : Fn := ⟨53, [2], [(4, [(1, .box [.int .i64, .int .i64, .int .i64, .slice 3, .int .i64, .int .i64, .int .i64, .int .i64, .int .i64, .int .i64, .bool]), (3, .c (.int .i64))])], [], 0, [], [], Try.f17, [.agg [.int .i64, .int .i64, .int .i64, .slice 3, .int .i64, .int .i64, .int .i64, .int .i64, .int .i64, .int .i64, .bool]], [.c (.bool)], [(15, F15.S), (29, F29.S), (10, F10.S)]⟩
theorem ok17 : F17.S.Ok Try.prog 17 := F17.ok Try.func17 (by kernel_rfl) ⟨ok15, ⟨ok29, ⟨ok10, trivial⟩⟩⟩
noncomputable def g17 (x0 : Int) (x1 : Int) (x2 : Int) (x3 : LL) (x4 : Int) (x5 : Int) (x6 : Int) (x7 : Int) (x8 : Int) (x9 : Int) (x10 : Bool) : Option (Bool) := F17.S.g [.i x0, .i x1, .i x2, .l x3, .i x4, .i x5, .i x6, .i x7, .i x8, .i x9, .b x10]
noncomputable def g17L0 (k : Nat) (x0 : Int) (x1 : Int) (x2 : Int) (x3 : LL) (x4 : Int) (x5 : Int) (x6 : Int) (x7 : Int) (x8 : Int) (x9 : Int) (x10 : Bool) (x11 : Int) : Option (Bool) := F17.lp [0, 1, 0, 1, 1, 0, 1, 0] 0 r0 k [.i x0, .i x1, .i x2, .l x3, .i x4, .i x5, .i x6, .i x7, .i x8, .i x9, .b x10, .i x11]
theorem g17L0_eq (k : Nat) (x0 : Int) (x1 : Int) (x2 : Int) (x3 : LL) (x4 : Int) (x5 : Int) (x6 : Int) (x7 : Int) (x8 : Int) (x9 : Int) (x10 : Bool) (x11 : Int) : g17L0 (k + 1) x0 x1 x2 x3 x4 x5 x6 x7 x8 x9 x10 x11 =
 (if (cop .lss x11 (List.length x3 : Int)) = true then
 elemK x3 x11 [.int .i64, .int .i64, .int .i64] fun (r12 : Int × Int × Int) =>
 (g15 r12.1 r12.2.1 r12.2.2).bind fun (r15 : Bool) =>
 if (!r15) = true then
 some (false)
 else
 reqK ((0 : Int) ≤ x11) <|
 reqK ((x11 : Int) ≤ (List.length x3 : Int)) <|
 elemK x3 x11 [.int .i64, .int .i64, .int .i64] fun (r16 : Int × Int × Int) =>
 (g10 (List.take (Int.toNat x11) x3) r16.1 r16.2.1 r16.2.2).bind fun (r19 : Bool) =>
 if r19 = true then
 some (false)
 else
 g17L0 k x0 x1 x2 x3 x4 x5 x6 x7 x8 x9 x10 (iop .add .i64 x11 1)
 else
 some (true)) := by kernel_rfl
theorem g17_eq (x0 : Int) (x1 : Int) (x2 : Int) (x3 : LL) (x4 : Int) (x5 : Int) (x6 : Int) (x7 : Int) (x8 : Int) (x9 : Int) (x10 : Bool) : g17 x0 x1 x2 x3 x4 x5 x6 x7 x8 x9 x10 =
 ((g15 x0 x1 x2).bind fun (r11 : Bool) =>
 if (!r11) = true then
 some (false)
 else
 (g29 x4 x5 x6 x7 x8 x9 x10).bind fun (r12 : Bool) =>
 if (!r12) = true then
 some (false)
 else
 if (cop .gtr (List.length x3 : Int) 8) = true then
 some (false)
 else
 (g10 x3 x0 x1 x2).bind fun (r13 : Bool) =>
 if r13 = true then
 some (false)
 else
 g17L0 FUEL x0 x1 x2 x3 x4 x5 x6 x7 x8 x9 x10 0) := by kernel_rfl

/- cmp.isNaN[int] -/
noncomputable def F51 : Fn := ⟨6, [2], [], [], 0, [], [], Try.f51, [.c (.int .i64)], [.c (.bool)], []⟩
theorem ok51 : F51.S.Ok Try.prog 51 := F51.ok Try.func51 (by kernel_rfl) trivial
noncomputable def g51 (x0 : Int) : Option (Bool) := F51.S.g [.i x0]
theorem g51_eq (x0 : Int) : g51 x0 =
 (some ((cop .neq x0 x0))) := by kernel_rfl

/- cmp.Compare[int] -/
noncomputable def F49 : Fn := ⟨20, [4], [], [], 0, [], [], Try.f49, [.c (.int .i64), .c (.int .i64)], [.c (.int .i64)], [(51, F51.S)]⟩
theorem ok49 : F49.S.Ok Try.prog 49 := F49.ok Try.func49 (by kernel_rfl) ⟨ok51, trivial⟩
noncomputable def g49 (x0 : Int) (x1 : Int) : Option (Int) := F49.S.g [.i x0, .i x1]
theorem g49_eq (x0 : Int) (x1 : Int) : g49 x0 x1 =
 ((g51 x0).bind fun (r2 : Bool) =>
 (g51 x1).bind fun (r3 : Bool) =>
 if r2 = true then
 if r3 = true then
 some (0)
 else
 some ((-1))
 else
 if r3 = true then
 some (1)
 else
 if (cop .lss x0 x1) = true then
 some ((-1))
 else
 if (cop .gtr x0 x1) = true then
 some (1)
 else
 some (0)) := by kernel_rfl

/- cmp.Or[int] -/
noncomputable def F48 : Fn := ⟨18, [2], [(3, [(3, .c (.int .i64)), (6, .c (.slice 1)), (7, .c (.int .i64)), (8, .c (.int .i64))])], [], 0, [], [], Try.f48, [.c (.slice 1)], [.c (.int .i64)], []⟩
theorem ok48 : F48.S.Ok Try.prog 48 := F48.ok Try.func48 (by kernel_rfl) trivial
noncomputable def g48 (x0 : LL) : Option (Int) := F48.S.g [.l x0]
noncomputable def g48L0 (k : Nat) (x0 : Int) (x1 : LL) (x2 : Int) (x3 : Int) : Option (Int) := F48.lp [0] 0 r0 k [.i x0, .l x1, .i x2, .i x3]
theorem g48L0_eq (k : Nat) (x0 : Int) (x1 : LL) (x2 : Int) (x3 : Int) : g48L0 (k + 1) x0 x1 x2 x3 =
 (if (cop .lss x3 x2) = true then
 elemK x1 x3 [.int .i64] fun (r4 : Int) =>
 if (cop .neq r4 x0) = true then
 some (r4)
 else
 g48L0 k x0 x1 x2 (iop .add .i64 x3 1)
 else
 some (x0)) := by kernel_rfl
theorem g48_eq (x0 : LL) : g48 x0 =
 (g48L0 FUEL 0 x0 (List.length x0 : Int) 0) := by kernel_rfl

/- multikernel/node.Compare -/
noncomputable def F30 : Fn := ⟨22, [4], [], [], 0, [], [], Try.f30, [.agg [.int .i64, .int .i64, .int .i64], .agg [.int .i64, .int .i64, .int .i64]], [.c (.int .i64)], [(49, F49.S), (48, F48.S)]⟩
theorem ok30 : F30.S.Ok Try.prog 30 := F30.ok Try.func30 (by kernel_rfl) ⟨ok49, ⟨ok48, trivial⟩⟩
noncomputable def g30 (x0 : Int) (x1 : Int) (x2 : Int) (x3 : Int) (x4 : Int) (x5 : Int) : Option (Int) := F30.S.g [.i x0, .i x1, .i x2, .i x3, .i x4, .i x5]
theorem g30_eq (x0 : Int) (x1 : Int) (x2 : Int) (x3 : Int) (x4 : Int) (x5 : Int) : g30 x0 x1 x2 x3 x4 x5 =
 ((g49 x0 x3).bind fun (r6 : Int) =>
 (g49 x1 x4).bind fun (r7 : Int) =>
 (g49 x2 x5).bind fun (r8 : Int) =>
 (g48 (((([] : LL) ++ [[AV.val (.int .i64 r6)]]) ++ [[AV.val (.int .i64 r7)]]) ++ [[AV.val (.int .i64 r8)]])).bind fun (r9 : Int) =>
 some (r9)) := by kernel_rfl

/- multikernel/node.Less -/
noncomputable def F18 : Fn := ⟨9, [4], [], [], 0, [], [], Try.f18, [.agg [.int .i64, .int .i64, .int .i64], .agg [.int .i64, .int .i64, .int .i64]], [.c (.bool)], [(30, F30.S)]⟩
theorem ok18 : F18.S.Ok Try.prog 18 := F18.ok Try.func18 (by kernel_rfl) ⟨ok30, trivial⟩
noncomputable def g18 (x0 : Int) (x1 : Int) (x2 : Int) (x3 : Int) (x4 : Int) (x5 : Int) : Option (Bool) := F18.S.g [.i x0, .i x1, .i x2, .i x3, .i x4, .i x5]
theorem g18_eq (x0 : Int) (x1 : Int) (x2 : Int) (x3 : Int) (x4 : Int) (x5 : Int) : g18 x0 x1 x2 x3 x4 x5 =
 ((g30 x0 x1 x2 x3 x4 x5).bind fun (r6 : Int) =>
 some ((cop .lss r6 0))) := by kernel_rfl

/- multikernel/multikernelref10.Less -/
noncomputable def F19 : Fn := ⟨30, [4], [], [], 0, [], [], Try.f19, [.agg [.int .i64, .int .i64, .int .i64], .agg [.int .i64, .int .i64, .int .i64]], [.c (.bool)], []⟩
theorem ok19 : F19.S.Ok Try.prog 19 := F19.ok Try.func19 (by kernel_rfl) trivial
noncomputable def g19 (x0 : Int) (x1 : Int) (x2 : Int) (x3 : Int) (x4 : Int) (x5 : Int) : Option (Bool) := F19.S.g [.i x0, .i x1, .i x2, .i x3, .i x4, .i x5]
theorem g19_eq (x0 : Int) (x1 : Int) (x2 : Int) (x3 : Int) (x4 : Int) (x5 : Int) : g19 x0 x1 x2 x3 x4 x5 =
 (if (cop .neq x0 x3) = true then
 some ((cop .lss x0 x3))
 else
 if (cop .neq x1 x4) = true then
 some ((cop .lss x1 x4))
 else
 some ((cop .lss x2 x5))) := by kernel_rfl

/- slices.Equal[[]multikernel/api.Id,multikernel/api.Id] -/
noncomputable def F31 : Fn := ⟨26, [4], [(4, [(0, .c (.slice 3)), (1, .c (.slice 3)), (12, .c (.int .i64)), (13, .c (.int .i64))])], [], 0, [], [], Try.f31, [.c (.slice 3), .c (.slice 3)], [.c (.bool)], []⟩
theorem ok31 : F31.S.Ok Try.prog 31 := F31.ok Try.func31 (by kernel_rfl) trivial
noncomputable def g31 (x0 : LL) (x1 : LL) : Option (Bool) := F31.S.g [.l x0, .l x1]
noncomputable def g31L0 (k : Nat) (x0 : LL) (x1 : LL) (x2 : Int) (x3 : Int) : Option (Bool) := F31.lp [1, 0] 0 r0 k [.l x0, .l x1, .i x2, .i x3]
theorem g31L0_eq (k : Nat) (x0 : LL) (x1 : LL) (x2 : Int) (x3 : Int) : g31L0 (k + 1) x0 x1 x2 x3 =
 (if (cop .lss x3 x2) = true then
 elemK x0 x3 [.int .i64, .int .i64, .int .i64] fun (r4 : Int × Int × Int) =>
 elemK x1 x3 [.int .i64, .int .i64, .int .i64] fun (r7 : Int × Int × Int) =>
 if (!((cop .eql r4.1 r7.1) && ((cop .eql r4.2.1 r7.2.1) && ((cop .eql r4.2.2 r7.2.2) && true)))) = true then
 some (false)
 else
 g31L0 k x0 x1 x2 (iop .add .i64 x3 1)
 else
 some (true)) := by kernel_rfl
theorem g31_eq (x0 : LL) (x1 : LL) : g31 x0 x1 =
 (if (cop .neq (List.length x0 : Int) (List.length x1 : Int)) = true then
 some (false)
 else
 g31L0 FUEL x0 x1 (List.length x0 : Int) 0) := by kernel_rfl

/- multikernel/node.Equal -/
noncomputable def F20 : Fn := ⟨24, [4], [], [], 0, [], [], Try.f20, [.agg [.int .i64, .int .i64, .int .i64, .slice 3, .int .i64, .int .i64, .int .i64, .int .i64, .int .i64, .int .i64, .bool], .agg [.int .i64, .int .i64, .int .i64, .slice 3, .int .i64, .int .i64, .int .i64, .int .i64, .int .i64, .int .i64, .bool]], [.c (.bool)], [(31, F31.S)]⟩
theorem ok20 : F20.S.Ok Try.prog 20 := F20.ok Try.func20 (by kernel_rfl) ⟨ok31, trivial⟩
noncomputable def g20 (x0 : Int) (x1 : Int) (x2 : Int) (x3 : LL) (x4 : Int) (x5 : Int) (x6 : Int) (x7 : Int) (x8 : Int) (x9 : Int) (x10 : Bool) (x11 : Int) (x12 : Int) (x13 : Int) (x14 : LL) (x15 : Int) (x16 : Int) (x17 : Int) (x18 : Int) (x19 : Int) (x20 : Int) (x21 : Bool) : Option (Bool) := F20.S.g [.i x0, .i x1, .i x2, .l x3, .i x4, .i x5, .i x6, .i x7, .i x8, .i x9, .b x10, .i x11, .i x12, .i x13, .l x14, .i x15, .i x16, .i x17, .i x18, .i x19, .i x20, .b x21]
theorem g20_eq (x0 : Int) (x1 : Int) (x2 : Int) (x3 : LL) (x4 : Int) (x5 : Int) (x6 : Int) (x7 : Int) (x8 : Int) (x9 : Int) (x10 : Bool) (x11 : Int) (x12 : Int) (x13 : Int) (x14 : LL) (x15 : Int) (x16 : Int) (x17 : Int) (x18 : Int) (x19 : Int) (x20 : Int) (x21 : Bool) : g20 x0 x1 x2 x3 x4 x5 x6 x7 x8 x9 x10 x11 x12 x13 x14 x15 x16 x17 x18 x19 x20 x21 =
 (if ((cop .eql x0 x11) && ((cop .eql x1 x12) && ((cop .eql x2 x13) && true))) = true then
 if ((cop .eql x4 x15) && ((cop .eql x5 x16) && ((cop .eql x6 x17) && ((cop .eql x7 x18) && ((cop .eql x8 x19) && ((cop .eql x9 x20) && ((x10 == x21) && true))))))) = true then
 (g31 x3 x14).bind fun (r22 : Bool) =>
 some (r22)
 else
 some (false)
 else
 some (false)) := by kernel_rfl

/- multikernel/multikernelref10.SameIds -/
noncomputable def F32 : Fn := ⟨26, [4], [(4, [(0, .c (.slice 3)), (1, .c (.slice 3)), (5, .c (.int .i64))])], [], 0, [], [], Try.f32, [.c (.slice 3), .c (.slice 3)], [.c (.bool)], []⟩
theorem ok32 : F32.S.Ok Try.prog 32 := F32.ok Try.func32 (by kernel_rfl) trivial
noncomputable def g32 (x0 : LL) (x1 : LL) : Option (Bool) := F32.S.g [.l x0, .l x1]
noncomputable def g32L0 (k : Nat) (x0 : LL) (x1 : LL) (x2 : Int) : Option (Bool) := F32.lp [1, 0] 0 r0 k [.l x0, .l x1, .i x2]
theorem g32L0_eq (k : Nat) (x0 : LL) (x1 : LL) (x2 : Int) : g32L0 (k + 1) x0 x1 x2 =
 (if (cop .lss x2 (List.length x0 : Int)) = true then
 elemK x0 x2 [.int .i64, .int .i64, .int .i64] fun (r3 : Int × Int × Int) =>
 elemK x1 x2 [.int .i64, .int .i64, .int .i64] fun (r6 : Int × Int × Int) =>
 if (!((cop .eql r3.1 r6.1) && ((cop .eql r3.2.1 r6.2.1) && ((cop .eql r3.2.2 r6.2.2) && true)))) = true then
 some (false)
 else
 g32L0 k x0 x1 (iop .add .i64 x2 1)
 else
 some (true)) := by kernel_rfl
theorem g32_eq (x0 : LL) (x1 : LL) : g32 x0 x1 =
 (if (cop .neq (List.length x0 : Int) (List.length x1 : Int)) = true then
 some (false)
 else
 g32L0 FUEL x0 x1 0) := by kernel_rfl

/- multikernel/multikernelref10.SameNode -/
noncomputable def F21 : Fn := ⟨24, [4], [], [], 0, [], [], Try.f21, [.agg [.int .i64, .int .i64, .int .i64, .slice 3, .int .i64, .int .i64, .int .i64, .int .i64, .int .i64, .int .i64, .bool], .agg [.int .i64, .int .i64, .int .i64, .slice 3, .int .i64, .int .i64, .int .i64, .int .i64, .int .i64, .int .i64, .bool]], [.c (.bool)], [(32, F32.S)]⟩
theorem ok21 : F21.S.Ok Try.prog 21 := F21.ok Try.func21 (by kernel_rfl) ⟨ok32, trivial⟩
noncomputable def g21 (x0 : Int) (x1 : Int) (x2 : Int) (x3 : LL) (x4 : Int) (x5 : Int) (x6 : Int) (x7 : Int) (x8 : Int) (x9 : Int) (x10 : Bool) (x11 : Int) (x12 : Int) (x13 : Int) (x14 : LL) (x15 : Int) (x16 : Int) (x17 : Int) (x18 : Int) (x19 : Int) (x20 : Int) (x21 : Bool) : Option (Bool) := F21.S.g [.i x0, .i x1, .i x2, .l x3, .i x4, .i x5, .i x6, .i x7, .i x8, .i x9, .b x10, .i x11, .i x12, .i x13, .l x14, .i x15, .i x16, .i x17, .i x18, .i x19, .i x20, .b x21]
theorem g21_eq (x0 : Int) (x1 : Int) (x2 : Int) (x3 : LL) (x4 : Int) (x5 : Int) (x6 : Int) (x7 : Int) (x8 : Int) (x9 : Int) (x10 : Bool) (x11 : Int) (x12 : Int) (x13 : Int) (x14 : LL) (x15 : Int) (x16 : Int) (x17 : Int) (x18 : Int) (x19 : Int) (x20 : Int) (x21 : Bool) : g21 x0 x1 x2 x3 x4 x5 x6 x7 x8 x9 x10 x11 x12 x13 x14 x15 x16 x17 x18 x19 x20 x21 =
 (if ((cop .eql x0 x11) && ((cop .eql x1 x12) && ((cop .eql x2 x13) && true))) = true then
 if ((cop .eql x4 x15) && ((cop .eql x5 x16) && ((cop .eql x6 x17) && ((cop .eql x7 x18) && ((cop .eql x8 x19) && ((cop .eql x9 x20) && ((x10 == x21) && true))))))) = true then
 (g32 x3 x14).bind fun (r22 : Bool) =>
 some (r22)
 else
 some (false)
 else
 some (false)) := by kernel_rfl

/- multikernel/multikernellaw12.NodeExact -/
noncomputable def F4 : Fn := ⟨102, [10], [], [], 0, [], [], Try.f4, [.agg [.int .i64, .int .i64, .int .i64, .slice 3, .int .i64, .int .i64, .int .i64, .int .i64, .int .i64, .int .i64, .bool], .agg [.int .i64, .int .i64, .int .i64, .slice 3, .int .i64, .int .i64, .int .i64, .int .i64, .int .i64, .int .i64, .bool], .agg [.int .i64, .int .i64, .int .i64], .agg [.int .i64, .int .i64, .int .i64], .c (.slice 3)], [.c (.bool)], [(5, F5.S), (11, F11.S), (12, F12.S), (9, F9.S), (13, F13.S), (14, F14.S), (15, F15.S), (16, F16.S), (17, F17.S), (18, F18.S), (19, F19.S), (20, F20.S), (21, F21.S), (22, F22.S), (10, F10.S)]⟩
theorem ok4 : F4.S.Ok Try.prog 4 := F4.ok Try.func4 (by kernel_rfl) ⟨ok5, ⟨ok11, ⟨ok12, ⟨ok9, ⟨ok13, ⟨ok14, ⟨ok15, ⟨ok16, ⟨ok17, ⟨ok18, ⟨ok19, ⟨ok20, ⟨ok21, ⟨ok22, ⟨ok10, trivial⟩⟩⟩⟩⟩⟩⟩⟩⟩⟩⟩⟩⟩⟩⟩
noncomputable def g4 (x0 : Int) (x1 : Int) (x2 : Int) (x3 : LL) (x4 : Int) (x5 : Int) (x6 : Int) (x7 : Int) (x8 : Int) (x9 : Int) (x10 : Bool) (x11 : Int) (x12 : Int) (x13 : Int) (x14 : LL) (x15 : Int) (x16 : Int) (x17 : Int) (x18 : Int) (x19 : Int) (x20 : Int) (x21 : Bool) (x22 : Int) (x23 : Int) (x24 : Int) (x25 : Int) (x26 : Int) (x27 : Int) (x28 : LL) : Option (Bool) := F4.S.g [.i x0, .i x1, .i x2, .l x3, .i x4, .i x5, .i x6, .i x7, .i x8, .i x9, .b x10, .i x11, .i x12, .i x13, .l x14, .i x15, .i x16, .i x17, .i x18, .i x19, .i x20, .b x21, .i x22, .i x23, .i x24, .i x25, .i x26, .i x27, .l x28]
theorem g4_eq (x0 : Int) (x1 : Int) (x2 : Int) (x3 : LL) (x4 : Int) (x5 : Int) (x6 : Int) (x7 : Int) (x8 : Int) (x9 : Int) (x10 : Bool) (x11 : Int) (x12 : Int) (x13 : Int) (x14 : LL) (x15 : Int) (x16 : Int) (x17 : Int) (x18 : Int) (x19 : Int) (x20 : Int) (x21 : Bool) (x22 : Int) (x23 : Int) (x24 : Int) (x25 : Int) (x26 : Int) (x27 : Int) (x28 : LL) : g4 x0 x1 x2 x3 x4 x5 x6 x7 x8 x9 x10 x11 x12 x13 x14 x15 x16 x17 x18 x19 x20 x21 x22 x23 x24 x25 x26 x27 x28 =
 (if (cop .gtr (List.length x3 : Int) 40) = true then
 (g5).bind fun (r29 : Bool) =>
 some (r29)
 else
 if (cop .gtr (List.length x14 : Int) 40) = true then
 (g5).bind fun (r29 : Bool) =>
 some (r29)
 else
 if (cop .gtr (List.length x28 : Int) 40) = true then
 (g5).bind fun (r29 : Bool) =>
 some (r29)
 else
 (g11 x0 x1 x2 x3 x4 x5 x6 x7 x8 x9 x10).bind fun (r29 : Int × Int × Int × LL × Int × Int × Int × Int × Int × Int × Bool) =>
 (g12 x28).bind fun (r40 : LL) =>
 (g9 r29.1 r29.2.1 r29.2.2.1 r29.2.2.2.1 r29.2.2.2.2.1 r29.2.2.2.2.2.1 r29.2.2.2.2.2.2.1 r29.2.2.2.2.2.2.2.1 r29.2.2.2.2.2.2.2.2.1 r29.2.2.2.2.2.2.2.2.2.1 r29.2.2.2.2.2.2.2.2.2.2 r40).bind fun (r41 : Int × Int × Int × Bool) =>
 (g13 x0 x1 x2 x3 x4 x5 x6 x7 x8 x9 x10 x28).bind fun (r45 : Int × Int × Int × Bool) =>
 (g14 x22 x23 x24).bind fun (r49 : Bool) =>
 (g15 x22 x23 x24).bind fun (r50 : Bool) =>
 if (r49 == r50) = true then
 (g11 x0 x1 x2 x3 x4 x5 x6 x7 x8 x9 x10).bind fun (r51 : Int × Int × Int × LL × Int × Int × Int × Int × Int × Int × Bool) =>
 (g16 r51.1 r51.2.1 r51.2.2.1 r51.2.2.2.1 r51.2.2.2.2.1 r51.2.2.2.2.2.1 r51.2.2.2.2.2.2.1 r51.2.2.2.2.2.2.2.1 r51.2.2.2.2.2.2.2.2.1 r51.2.2.2.2.2.2.2.2.2.1 r51.2.2.2.2.2.2.2.2.2.2).bind fun (r62 : Bool) =>
 (g17 x0 x1 x2 x3 x4 x5 x6 x7 x8 x9 x10).bind fun (r63 : Bool) =>
 if (r62 == r63) = true then
 (g18 x22 x23 x24 x25 x26 x27).bind fun (r64 : Bool) =>
 (g19 x22 x23 x24 x25 x26 x27).bind fun (r65 : Bool) =>
 if (r64 == r65) = true then
 (g11 x0 x1 x2 x3 x4 x5 x6 x7 x8 x9 x10).bind fun (r66 : Int × Int × Int × LL × Int × Int × Int × Int × Int × Int × Bool) =>
 (g11 x11 x12 x13 x14 x15 x16 x17 x18 x19 x20 x21).bind fun (r77 : Int × Int × Int × LL × Int × Int × Int × Int × Int × Int × Bool) =>
 (g20 r66.1 r66.2.1 r66.2.2.1 r66.2.2.2.1 r66.2.2.2.2.1 r66.2.2.2.2.2.1 r66.2.2.2.2.2.2.1 r66.2.2.2.2.2.2.2.1 r66.2.2.2.2.2.2.2.2.1 r66.2.2.2.2.2.2.2.2.2.1 r66.2.2.2.2.2.2.2.2.2.2 r77.1 r77.2.1 r77.2.2.1 r77.2.2.2.1 r77.2.2.2.2.1 r77.2.2.2.2.2.1 r77.2.2.2.2.2.2.1 r77.2.2.2.2.2.2.2.1 r77.2.2.2.2.2.2.2.2.1 r77.2.2.2.2.2.2.2.2.2.1 r77.2.2.2.2.2.2.2.2.2.2).bind fun (r88 : Bool) =>
 (g21 x0 x1 x2 x3 x4 x5 x6 x7 x8 x9 x10 x11 x12 x13 x14 x15 x16 x17 x18 x19 x20 x21).bind fun (r89 : Bool) =>
 if (r88 == r89) = true then
 (g11 x0 x1 x2 x3 x4 x5 x6 x7 x8 x9 x10).bind fun (r90 : Int × Int × Int × LL × Int × Int × Int × Int × Int × Int × Bool) =>
 (g22 r90.1 r90.2.1 r90.2.2.1 r90.2.2.2.1 r90.2.2.2.2.1 r90.2.2.2.2.2.1 r90.2.2.2.2.2.2.1 r90.2.2.2.2.2.2.2.1 r90.2.2.2.2.2.2.2.2.1 r90.2.2.2.2.2.2.2.2.2.1 r90.2.2.2.2.2.2.2.2.2.2 x22 x23 x24).bind fun (r101 : Bool) =>
 (g10 x3 x22 x23 x24).bind fun (r102 : Bool) =>
 if (r101 == r102) = true then
 if ((cop .eql r41.1 r45.1) && ((cop .eql r41.2.1 r45.2.1) && ((cop .eql r41.2.2.1 r45.2.2.1) && true))) = true then
 if (r41.2.2.2 == r45.2.2.2) = true then
 (g5).bind fun (r103 : Bool) =>
 some (r103)
 else
 some (false)
 else
 some (false)
 else
 some (false)
 else
 some (false)
 else
 some (false)
 else
 some (false)
 else
 some (false)) := by kernel_rfl

end Go.Proofs.Ytghkcniaialgnaa
