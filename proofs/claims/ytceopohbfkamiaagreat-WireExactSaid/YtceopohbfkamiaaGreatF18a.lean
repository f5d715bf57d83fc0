/- Functions of the program, as what they compute. -/
import Derived.Test.YtceopohbfkamiaaGreatG
namespace Go.Proofs.YtceopohbfkamiaaGreat
open Go Go.AM
set_option linter.unusedVariables false
set_option maxRecDepth 100000

/- multikernel/node.ValidId -/
noncomputable def F91 : Fn := ⟨31, [2], [], [], 0, Tryz.f91, [.agg [.int .i64, .int .i64, .int .i64]], [.c (.bool)], []⟩
theorem ok91 : F91.S.Ok Tryz.prog 91 := F91.ok Tryz.func91 (by kernel_rfl) trivial
noncomputable def g91 (x0 x1 x2 : Int) : Option (Bool) := F91.S.g [.i x0, .i x1, .i x2]
theorem g91_eq (x0 x1 x2 : Int) : g91 x0 x1 x2 =
 (if (cop .geq x0 0) = true then
 if (cop .lss x0 32) = true then
 if (cop .geq x1 1) = true then
 if (cop .leq x1 1073741824) = true then
 if (cop .geq x2 0) = true then
 some ((cop .lss x2 8))
 else
 some (false)
 else
 some (false)
 else
 some (false)
 else
 some (false)
 else
 some (false)) := by kernel_rfl

/- multikernel/wire.isOperation -/
noncomputable def F47 : Fn := ⟨10, [2], [], [], 0, Tryz.f47, [.agg [.int .i64, .int .i64, .int .i64]], [.c (.bool)], [(91, F91.S)]⟩
theorem ok47 : F47.S.Ok Tryz.prog 47 := F47.ok Tryz.func47 (by kernel_rfl) ⟨ok91, trivial⟩
noncomputable def g47 (x0 x1 x2 : Int) : Option (Bool) := F47.S.g [.i x0, .i x1, .i x2]
theorem g47_eq (x0 x1 x2 : Int) : g47 x0 x1 x2 =
 ((g91 x0 x1 x2).bind fun (r3 : Bool) =>
 if r3 = true then
 some ((cop .eql x2 0))
 else
 some (false)) := by kernel_rfl

/- multikernel/wire.isRegion -/
noncomputable def F48 : Fn := ⟨9, [2], [], [], 0, Tryz.f48, [.c (.int .i64)], [.c (.bool)], []⟩
theorem ok48 : F48.S.Ok Tryz.prog 48 := F48.ok Tryz.func48 (by kernel_rfl) trivial
noncomputable def g48 (x0 : Int) : Option (Bool) := F48.S.g [.i x0]
theorem g48_eq (x0 : Int) : g48 x0 =
 (if (cop .geq x0 0) = true then
 some ((cop .lss x0 16))
 else
 some (false)) := by kernel_rfl

/- slices.Equal[[]multikernel/api.Id,multikernel/api.Id] -/
noncomputable def F108 : Fn := ⟨26, [4], [(4, [(0, .c (.slice 3)), (1, .c (.slice 3)), (12, .c (.int .i64)), (13, .c (.int .i64))])], [], 0, Tryz.f108, [.c (.slice 3), .c (.slice 3)], [.c (.bool)], []⟩
theorem ok108 : F108.S.Ok Tryz.prog 108 := F108.ok Tryz.func108 (by kernel_rfl) trivial
noncomputable def g108 (x0 x1 : LL) : Option (Bool) := F108.S.g [.l x0, .l x1]
noncomputable def g108L0 (k : Nat) (x0 x1 : LL) (x2 x3 : Int) : Option (Bool) := F108.lp [1, 0] 0 r0 k [.l x0, .l x1, .i x2, .i x3]
theorem g108L0_eq (k : Nat) (x0 x1 : LL) (x2 x3 : Int) : g108L0 (k + 1) x0 x1 x2 x3 =
 (if (cop .lss x3 x2) = true then
 elemK x0 x3 [.int .i64, .int .i64, .int .i64] fun (r4 : Int × Int × Int) =>
 elemK x1 x3 [.int .i64, .int .i64, .int .i64] fun (r7 : Int × Int × Int) =>
 if (!((cop .eql r4.1 r7.1) && ((cop .eql r4.2.1 r7.2.1) && ((cop .eql r4.2.2 r7.2.2) && true)))) = true then
 some (false)
 else
 g108L0 k x0 x1 x2 (iop .add .i64 x3 1)
 else
 some (true)) := by kernel_rfl
theorem g108_eq (x0 x1 : LL) : g108 x0 x1 =
 (if (cop .neq (List.length x0 : Int) (List.length x1 : Int)) = true then
 some (false)
 else
 g108L0 FUEL x0 x1 (List.length x0 : Int) 0) := by kernel_rfl

/- multikernel/node.Equal -/
noncomputable def F49 : Fn := ⟨24, [4], [], [], 0, Tryz.f49, [.agg hs10, .agg hs10], [.c (.bool)], [(108, F108.S)]⟩
theorem ok49 : F49.S.Ok Tryz.prog 49 := F49.ok Tryz.func49 (by kernel_rfl) ⟨ok108, trivial⟩
noncomputable def g49 (x0 x1 x2 : Int) (x3 : LL) (x4 x5 x6 x7 x8 x9 : Int) (x10 : Bool) (x11 x12 x13 : Int) (x14 : LL) (x15 x16 x17 x18 x19 x20 : Int) (x21 : Bool) : Option (Bool) := F49.S.g [.i x0, .i x1, .i x2, .l x3, .i x4, .i x5, .i x6, .i x7, .i x8, .i x9, .b x10, .i x11, .i x12, .i x13, .l x14, .i x15, .i x16, .i x17, .i x18, .i x19, .i x20, .b x21]
theorem g49_eq (x0 x1 x2 : Int) (x3 : LL) (x4 x5 x6 x7 x8 x9 : Int) (x10 : Bool) (x11 x12 x13 : Int) (x14 : LL) (x15 x16 x17 x18 x19 x20 : Int) (x21 : Bool) : g49 x0 x1 x2 x3 x4 x5 x6 x7 x8 x9 x10 x11 x12 x13 x14 x15 x16 x17 x18 x19 x20 x21 =
 (if ((cop .eql x0 x11) && ((cop .eql x1 x12) && ((cop .eql x2 x13) && true))) = true then
 if ((cop .eql x4 x15) && ((cop .eql x5 x16) && ((cop .eql x6 x17) && ((cop .eql x7 x18) && ((cop .eql x8 x19) && ((cop .eql x9 x20) && ((x10 == x21) && true))))))) = true then
 (g108 x3 x14).bind fun (r22 : Bool) =>
 some (r22)
 else
 some (false)
 else
 some (false)) := by kernel_rfl

/- multikernel/captype.sizeAllowed -/
noncomputable def F159 : Fn := ⟨38, [4], [], [], 0, Tryz.f159, [.c (.int .i64), .c (.int .i64)], [.c (.bool)], []⟩
theorem ok159 : F159.S.Ok Tryz.prog 159 := F159.ok Tryz.func159 (by kernel_rfl) trivial
noncomputable def g159 (x0 x1 : Int) : Option (Bool) := F159.S.g [.i x0, .i x1]
theorem g159_eq (x0 x1 : Int) : g159 x0 x1 =
 (if (cop .eql x0 1) = true then
 if (cop .geq x1 6) = true then
 some ((cop .leq x1 40))
 else
 some (false)
 else
 if (cop .eql x0 2) = true then
 if (cop .geq x1 12) = true then
 some ((cop .leq x1 40))
 else
 some (false)
 else
 if (cop .eql x0 3) = true then
 some ((cop .eql x1 12))
 else
 if (cop .eql x0 4) = true then
 some ((cop .eql x1 6))
 else
 if (cop .eql x0 5) = true then
 some ((cop .eql x1 10))
 else
 if (cop .eql x0 6) = true then
 some ((cop .eql x1 16))
 else
 some (false)) := by kernel_rfl

/- multikernel/captype.Range -/
noncomputable def F161 : Fn := ⟨8, [2], [], [], 0, Tryz.f161, [.agg hs13], [.agg [.int .i64, .int .i64]], []⟩
theorem ok161 : F161.S.Ok Tryz.prog 161 := F161.ok Tryz.func161 (by kernel_rfl) trivial
noncomputable def g161 (x0 x1 x2 x3 x4 x5 : Int) (x6 : Bool) : Option (Int × Int) := F161.S.g [.i x0, .i x1, .i x2, .i x3, .i x4, .i x5, .b x6]
theorem g161_eq (x0 x1 x2 x3 x4 x5 : Int) (x6 : Bool) : g161 x0 x1 x2 x3 x4 x5 x6 =
 (some (x1, x2)) := by kernel_rfl

/- multikernel/memrange.Valid -/
noncomputable def F160 : Fn := ⟨32, [2], [], [], 0, Tryz.f160, [.agg [.int .i64, .int .i64]], [.c (.bool)], []⟩
theorem ok160 : F160.S.Ok Tryz.prog 160 := F160.ok Tryz.func160 (by kernel_rfl) trivial
noncomputable def g160 (x0 x1 : Int) : Option (Bool) := F160.S.g [.i x0, .i x1]
theorem g160_eq (x0 x1 : Int) : g160 x0 x1 =
 (if (cop .lss x1 6) = true then
 some (false)
 else
 if (cop .gtr x1 40) = true then
 some (false)
 else
 if (cop .lss x0 0) = true then
 some (false)
 else
 reqK ((0 : Int) ≤ x1) <|
 reqK (((iop .shl .i64 1 x1) : Int) ≠ 0) <|
 if (cop .eql (iop .rem .i64 x0 (iop .shl .i64 1 x1)) 0) = true then
 some ((cop .leq x0 (iop .sub .i64 1099511627776 (iop .shl .i64 1 x1))))
 else
 some (false)) := by kernel_rfl

/- multikernel/captype.formatAllowed -/
noncomputable def F162 : Fn := ⟨22, [4], [], [], 0, Tryz.f162, [.c (.int .i64), .c (.int .i64)], [.c (.bool)], []⟩
theorem ok162 : F162.S.Ok Tryz.prog 162 := F162.ok Tryz.func162 (by kernel_rfl) trivial
noncomputable def g162 (x0 x1 : Int) : Option (Bool) := F162.S.g [.i x0, .i x1]
theorem g162_eq (x0 x1 : Int) : g162 x0 x1 =
 (if (cop .eql x0 32) = true then
 if (cop .geq x1 0) = true then
 some ((cop .leq x1 1))
 else
 some (false)
 else
 if (cop .eql x0 39) = true then
 if (cop .geq x1 0) = true then
 some ((cop .leq x1 2))
 else
 some (false)
 else
 some (false)) := by kernel_rfl

/- multikernel/captype.Valid -/
noncomputable def F109 : Fn := ⟨55, [2], [], [], 0, Tryz.f109, [.agg hs13], [.c (.bool)], [(159, F159.S), (161, F161.S), (160, F160.S), (162, F162.S)]⟩
theorem ok109 : F109.S.Ok Tryz.prog 109 := F109.ok Tryz.func109 (by kernel_rfl) ⟨ok159, ⟨ok161, ⟨ok160, ⟨ok162, trivial⟩⟩⟩⟩
noncomputable def g109 (x0 x1 x2 x3 x4 x5 : Int) (x6 : Bool) : Option (Bool) := F109.S.g [.i x0, .i x1, .i x2, .i x3, .i x4, .i x5, .b x6]
theorem g109_eq (x0 x1 x2 x3 x4 x5 : Int) (x6 : Bool) : g109 x0 x1 x2 x3 x4 x5 x6 =
 ((g159 x0 x2).bind fun (r7 : Bool) =>
 if (!r7) = true then
 some (false)
 else
 (g161 x0 x1 x2 x3 x4 x5 x6).bind fun (r8 : Int × Int) =>
 (g160 r8.1 r8.2).bind fun (r10 : Bool) =>
 if (!r10) = true then
 some (false)
 else
 if (cop .lss x3 0) = true then
 some (false)
 else
 if (cop .gtr x3 7) = true then
 some (false)
 else
 if (cop .eql x0 3) = true then
 (g162 x4 x5).bind fun (r11 : Bool) =>
 if (!r11) = true then
 some (false)
 else
 if (!x6) = true then
 some (true)
 else
 if (cop .eql x0 1) = true then
 some (true)
 else
 some ((cop .eql x0 2))
 else
 if (cop .neq x4 0) = true then
 some (false)
 else
 if (cop .neq x5 0) = true then
 some (false)
 else
 if (!x6) = true then
 some (true)
 else
 if (cop .eql x0 1) = true then
 some (true)
 else
 some ((cop .eql x0 2))) := by kernel_rfl

/- slices.Index[[]multikernel/api.Id,multikernel/api.Id] -/
noncomputable def F163 : Fn := ⟨19, [4], [(2, [(0, .c (.slice 3)), (3, .box [.int .i64, .int .i64, .int .i64]), (7, .c (.int .i64)), (8, .c (.int .i64))])], [], 0, Tryz.f163, [.c (.slice 3), .agg [.int .i64, .int .i64, .int .i64]], [.c (.int .i64)], []⟩
theorem ok163 : F163.S.Ok Tryz.prog 163 := F163.ok Tryz.func163 (by kernel_rfl) trivial
noncomputable def g163 (x0 : LL) (x1 x2 x3 : Int) : Option (Int) := F163.S.g [.l x0, .i x1, .i x2, .i x3]
noncomputable def g163L0 (k : Nat) (x0 : LL) (x1 x2 x3 x4 x5 : Int) : Option (Int) := F163.lp [0] 0 r0 k [.l x0, .i x1, .i x2, .i x3, .i x4, .i x5]
theorem g163L0_eq (k : Nat) (x0 : LL) (x1 x2 x3 x4 x5 : Int) : g163L0 (k + 1) x0 x1 x2 x3 x4 x5 =
 (if (cop .lss x5 x4) = true then
 elemK x0 x5 [.int .i64, .int .i64, .int .i64] fun (r6 : Int × Int × Int) =>
 if ((cop .eql x1 r6.1) && ((cop .eql x2 r6.2.1) && ((cop .eql x3 r6.2.2) && true))) = true then
 some (x5)
 else
 g163L0 k x0 x1 x2 x3 x4 (iop .add .i64 x5 1)
 else
 some ((-1))) := by kernel_rfl
theorem g163_eq (x0 : LL) (x1 x2 x3 : Int) : g163 x0 x1 x2 x3 =
 (g163L0 FUEL x0 x1 x2 x3 (List.length x0 : Int) 0) := by kernel_rfl

/- slices.Contains[[]multikernel/api.Id,multikernel/api.Id] -/
noncomputable def F110 : Fn := ⟨9, [4], [], [], 0, Tryz.f110, [.c (.slice 3), .agg [.int .i64, .int .i64, .int .i64]], [.c (.bool)], [(163, F163.S)]⟩
theorem ok110 : F110.S.Ok Tryz.prog 110 := F110.ok Tryz.func110 (by kernel_rfl) ⟨ok163, trivial⟩
noncomputable def g110 (x0 : LL) (x1 x2 x3 : Int) : Option (Bool) := F110.S.g [.l x0, .i x1, .i x2, .i x3]
theorem g110_eq (x0 : LL) (x1 x2 x3 : Int) : g110 x0 x1 x2 x3 =
 ((g163 x0 x1 x2 x3).bind fun (r4 : Int) =>
 some ((cop .geq r4 0))) := by kernel_rfl

/- multikernel/node.Valid -/
noncomputable def F50 : Fn := ⟨47, [2], [(4, [(1, .box hs10), (22, .c (.slice 3)), (23, .c (.int .i64)), (24, .c (.int .i64))])], [], 0, Tryz.f50, [.agg hs10], [.c (.bool)], [(91, F91.S), (109, F109.S), (110, F110.S)]⟩
theorem ok50 : F50.S.Ok Tryz.prog 50 := F50.ok Tryz.func50 (by kernel_rfl) ⟨ok91, ⟨ok109, ⟨ok110, trivial⟩⟩⟩
noncomputable def g50 (x0 x1 x2 : Int) (x3 : LL) (x4 x5 x6 x7 x8 x9 : Int) (x10 : Bool) : Option (Bool) := F50.S.g [.i x0, .i x1, .i x2, .l x3, .i x4, .i x5, .i x6, .i x7, .i x8, .i x9, .b x10]
noncomputable def g50L0 (k : Nat) (x0 x1 x2 : Int) (x3 : LL) (x4 x5 x6 x7 x8 x9 : Int) (x10 : Bool) (x11 : LL) (x12 x13 : Int) : Option (Bool) := F50.lp [0, 1, 0, 1, 1, 0] 0 r0 k [.i x0, .i x1, .i x2, .l x3, .i x4, .i x5, .i x6, .i x7, .i x8, .i x9, .b x10, .l x11, .i x12, .i x13]
theorem g50L0_eq (k : Nat) (x0 x1 x2 : Int) (x3 : LL) (x4 x5 x6 x7 x8 x9 : Int) (x10 : Bool) (x11 : LL) (x12 x13 : Int) : g50L0 (k + 1) x0 x1 x2 x3 x4 x5 x6 x7 x8 x9 x10 x11 x12 x13 =
 (if (cop .lss x13 x12) = true then
 elemK x11 x13 [.int .i64, .int .i64, .int .i64] fun (r14 : Int × Int × Int) =>
 (g91 r14.1 r14.2.1 r14.2.2).bind fun (r17 : Bool) =>
 if (!r17) = true then
 some (false)
 else
 if ((cop .eql r14.1 x0) && ((cop .eql r14.2.1 x1) && ((cop .eql r14.2.2 x2) && true))) = true then
 some (false)
 else
 reqK ((0 : Int) ≤ x13) <|
 reqK ((x13 : Int) ≤ (List.length x3 : Int)) <|
 (g110 (List.take (Int.toNat x13) x3) r14.1 r14.2.1 r14.2.2).bind fun (r18 : Bool) =>
 if r18 = true then
 some (false)
 else
 g50L0 k x0 x1 x2 x3 x4 x5 x6 x7 x8 x9 x10 x11 x12 (iop .add .i64 x13 1)
 else
 some (true)) := by kernel_rfl
theorem g50_eq (x0 x1 x2 : Int) (x3 : LL) (x4 x5 x6 x7 x8 x9 : Int) (x10 : Bool) : g50 x0 x1 x2 x3 x4 x5 x6 x7 x8 x9 x10 =
 ((g91 x0 x1 x2).bind fun (r11 : Bool) =>
 if (!r11) = true then
 some (false)
 else
 (g109 x4 x5 x6 x7 x8 x9 x10).bind fun (r12 : Bool) =>
 if (!r12) = true then
 some (false)
 else
 if (cop .gtr (List.length x3 : Int) 8) = true then
 some (false)
 else
 g50L0 FUEL x0 x1 x2 x3 x4 x5 x6 x7 x8 x9 x10 x3 (List.length x3 : Int) 0) := by kernel_rfl

/- multikernel/wire.ValidRequest -/
noncomputable def F12 : Fn := ⟨46, [2], [], [], 0, Tryz.f12, [.agg hs4], [.c (.bool)], [(47, F47.S), (48, F48.S), (49, F49.S), (50, F50.S)]⟩
theorem ok12 : F12.S.Ok Tryz.prog 12 := F12.ok Tryz.func12 (by kernel_rfl) ⟨ok47, ⟨ok48, ⟨ok49, ⟨ok50, trivial⟩⟩⟩⟩
noncomputable def g12 (x0 x1 x2 x3 x4 x5 x6 x7 x8 x9 x10 x11 x12 x13 x14 x15 x16 x17 x18 x19 : Int) (x20 : LL) (x21 x22 x23 x24 x25 x26 : Int) (x27 : Bool) : Option (Bool) := F12.S.g [.i x0, .i x1, .i x2, .i x3, .i x4, .i x5, .i x6, .i x7, .i x8, .i x9, .i x10, .i x11, .i x12, .i x13, .i x14, .i x15, .i x16, .i x17, .i x18, .i x19, .l x20, .i x21, .i x22, .i x23, .i x24, .i x25, .i x26, .b x27]
theorem g12_eq (x0 x1 x2 x3 x4 x5 x6 x7 x8 x9 x10 x11 x12 x13 x14 x15 x16 x17 x18 x19 : Int) (x20 : LL) (x21 x22 x23 x24 x25 x26 : Int) (x27 : Bool) : g12 x0 x1 x2 x3 x4 x5 x6 x7 x8 x9 x10 x11 x12 x13 x14 x15 x16 x17 x18 x19 x20 x21 x22 x23 x24 x25 x26 x27 =
 ((g47 x0 x1 x2).bind fun (r28 : Bool) =>
 if (!r28) = true then
 some (false)
 else
 if (cop .lss x3 1) = true then
 some (false)
 else
 if (cop .gtr x3 6) = true then
 some (false)
 else
 (g48 x15).bind fun (r29 : Bool) =>
 if (!r29) = true then
 some (false)
 else
 if (cop .neq x16 32) = true then
 if (cop .neq x16 39) = true then
 some (false)
 else
 if (cop .eql x3 1) = true then
 (g49 x17 x18 x19 x20 x21 x22 x23 x24 x25 x26 x27 0 0 0 ([] : LL) 0 0 0 0 0 0 false).bind fun (r30 : Bool) =>
 some (r30)
 else
 (g50 x17 x18 x19 x20 x21 x22 x23 x24 x25 x26 x27).bind fun (r30 : Bool) =>
 some (r30)
 else
 if (cop .eql x3 1) = true then
 (g49 x17 x18 x19 x20 x21 x22 x23 x24 x25 x26 x27 0 0 0 ([] : LL) 0 0 0 0 0 0 false).bind fun (r30 : Bool) =>
 some (r30)
 else
 (g50 x17 x18 x19 x20 x21 x22 x23 x24 x25 x26 x27).bind fun (r30 : Bool) =>
 some (r30)) := by kernel_rfl

/- multikernel/multikernelref10.ValidId -/
noncomputable def F104 : Fn := ⟨31, [2], [], [], 0, Tryz.f104, [.agg [.int .i64, .int .i64, .int .i64]], [.c (.bool)], []⟩
theorem ok104 : F104.S.Ok Tryz.prog 104 := F104.ok Tryz.func104 (by kernel_rfl) trivial
noncomputable def g104 (x0 x1 x2 : Int) : Option (Bool) := F104.S.g [.i x0, .i x1, .i x2]
theorem g104_eq (x0 x1 x2 : Int) : g104 x0 x1 x2 =
 (if (cop .geq x0 0) = true then
 if (cop .lss x0 32) = true then
 if (cop .geq x1 1) = true then
 if (cop .leq x1 1073741824) = true then
 if (cop .geq x2 0) = true then
 some ((cop .lss x2 8))
 else
 some (false)
 else
 some (false)
 else
 some (false)
 else
 some (false)
 else
 some (false)) := by kernel_rfl

/- multikernel/multikernelref18.operation -/
noncomputable def F38 : Fn := ⟨10, [2], [], [], 0, Tryz.f38, [.agg [.int .i64, .int .i64, .int .i64]], [.c (.bool)], [(104, F104.S)]⟩
theorem ok38 : F38.S.Ok Tryz.prog 38 := F38.ok Tryz.func38 (by kernel_rfl) ⟨ok104, trivial⟩
noncomputable def g38 (x0 x1 x2 : Int) : Option (Bool) := F38.S.g [.i x0, .i x1, .i x2]
theorem g38_eq (x0 x1 x2 : Int) : g38 x0 x1 x2 =
 ((g104 x0 x1 x2).bind fun (r3 : Bool) =>
 if r3 = true then
 some ((cop .eql x2 0))
 else
 some (false)) := by kernel_rfl

/- multikernel/multikernelref18.region -/
noncomputable def F46 : Fn := ⟨9, [2], [], [], 0, Tryz.f46, [.c (.int .i64)], [.c (.bool)], []⟩
theorem ok46 : F46.S.Ok Tryz.prog 46 := F46.ok Tryz.func46 (by kernel_rfl) trivial
noncomputable def g46 (x0 : Int) : Option (Bool) := F46.S.g [.i x0]
theorem g46_eq (x0 : Int) : g46 x0 =
 (if (cop .geq x0 0) = true then
 some ((cop .lss x0 16))
 else
 some (false)) := by kernel_rfl

/- multikernel/multikernelref10.SameIds -/
noncomputable def F65 : Fn := ⟨26, [4], [(4, [(0, .c (.slice 3)), (1, .c (.slice 3)), (5, .c (.int .i64))])], [], 0, Tryz.f65, [.c (.slice 3), .c (.slice 3)], [.c (.bool)], []⟩
theorem ok65 : F65.S.Ok Tryz.prog 65 := F65.ok Tryz.func65 (by kernel_rfl) trivial
noncomputable def g65 (x0 x1 : LL) : Option (Bool) := F65.S.g [.l x0, .l x1]
noncomputable def g65L0 (k : Nat) (x0 x1 : LL) (x2 : Int) : Option (Bool) := F65.lp [1, 0] 0 r0 k [.l x0, .l x1, .i x2]
theorem g65L0_eq (k : Nat) (x0 x1 : LL) (x2 : Int) : g65L0 (k + 1) x0 x1 x2 =
 (if (cop .lss x2 (List.length x0 : Int)) = true then
 elemK x0 x2 [.int .i64, .int .i64, .int .i64] fun (r3 : Int × Int × Int) =>
 elemK x1 x2 [.int .i64, .int .i64, .int .i64] fun (r6 : Int × Int × Int) =>
 if (!((cop .eql r3.1 r6.1) && ((cop .eql r3.2.1 r6.2.1) && ((cop .eql r3.2.2 r6.2.2) && true)))) = true then
 some (false)
 else
 g65L0 k x0 x1 (iop .add .i64 x2 1)
 else
 some (true)) := by kernel_rfl
theorem g65_eq (x0 x1 : LL) : g65 x0 x1 =
 (if (cop .neq (List.length x0 : Int) (List.length x1 : Int)) = true then
 some (false)
 else
 g65L0 FUEL x0 x1 0) := by kernel_rfl

/- multikernel/multikernelref10.SameNode -/
noncomputable def F51 : Fn := ⟨24, [4], [], [], 0, Tryz.f51, [.agg hs10, .agg hs10], [.c (.bool)], [(65, F65.S)]⟩
theorem ok51 : F51.S.Ok Tryz.prog 51 := F51.ok Tryz.func51 (by kernel_rfl) ⟨ok65, trivial⟩
noncomputable def g51 (x0 x1 x2 : Int) (x3 : LL) (x4 x5 x6 x7 x8 x9 : Int) (x10 : Bool) (x11 x12 x13 : Int) (x14 : LL) (x15 x16 x17 x18 x19 x20 : Int) (x21 : Bool) : Option (Bool) := F51.S.g [.i x0, .i x1, .i x2, .l x3, .i x4, .i x5, .i x6, .i x7, .i x8, .i x9, .b x10, .i x11, .i x12, .i x13, .l x14, .i x15, .i x16, .i x17, .i x18, .i x19, .i x20, .b x21]
theorem g51_eq (x0 x1 x2 : Int) (x3 : LL) (x4 x5 x6 x7 x8 x9 : Int) (x10 : Bool) (x11 x12 x13 : Int) (x14 : LL) (x15 x16 x17 x18 x19 x20 : Int) (x21 : Bool) : g51 x0 x1 x2 x3 x4 x5 x6 x7 x8 x9 x10 x11 x12 x13 x14 x15 x16 x17 x18 x19 x20 x21 =
 (if ((cop .eql x0 x11) && ((cop .eql x1 x12) && ((cop .eql x2 x13) && true))) = true then
 if ((cop .eql x4 x15) && ((cop .eql x5 x16) && ((cop .eql x6 x17) && ((cop .eql x7 x18) && ((cop .eql x8 x19) && ((cop .eql x9 x20) && ((x10 == x21) && true))))))) = true then
 (g65 x3 x14).bind fun (r22 : Bool) =>
 some (r22)
 else
 some (false)
 else
 some (false)) := by kernel_rfl

/- multikernel/multikernelref10.fixed -/
noncomputable def F176 : Fn := ⟨12, [2], [], [], 0, Tryz.f176, [.c (.int .i64)], [.c (.int .i64)], []⟩
theorem ok176 : F176.S.Ok Tryz.prog 176 := F176.ok Tryz.func176 (by kernel_rfl) trivial
noncomputable def g176 (x0 : Int) : Option (Int) := F176.S.g [.i x0]
theorem g176_eq (x0 : Int) : g176 x0 =
 (if (cop .eql x0 3) = true then
 some (12)
 else
 if (cop .eql x0 4) = true then
 some (6)
 else
 if (cop .eql x0 5) = true then
 some (10)
 else
 if (cop .eql x0 6) = true then
 some (16)
 else
 some (0)) := by kernel_rfl

/- multikernel/multikernelref10.sized -/
noncomputable def F155 : Fn := ⟨35, [4], [], [], 0, Tryz.f155, [.c (.int .i64), .c (.int .i64)], [.c (.bool)], [(176, F176.S)]⟩
theorem ok155 : F155.S.Ok Tryz.prog 155 := F155.ok Tryz.func155 (by kernel_rfl) ⟨ok176, trivial⟩
noncomputable def g155 (x0 x1 : Int) : Option (Bool) := F155.S.g [.i x0, .i x1]
theorem g155_eq (x0 x1 : Int) : g155 x0 x1 =
 (if (cop .eql x0 1) = true then
 if (cop .geq x1 6) = true then
 some ((cop .leq x1 40))
 else
 some (false)
 else
 if (cop .eql x0 2) = true then
 if (cop .geq x1 12) = true then
 some ((cop .leq x1 40))
 else
 some (false)
 else
 if (cop .geq x0 3) = true then
 if (cop .leq x0 6) = true then
 (g176 x0).bind fun (r2 : Int) =>
 some ((cop .eql x1 r2))
 else
 some (false)
 else
 some (false)) := by kernel_rfl

/- multikernel/multikernelref10.Range -/
noncomputable def F157 : Fn := ⟨8, [2], [], [], 0, Tryz.f157, [.agg hs13], [.agg [.int .i64, .int .i64]], []⟩
theorem ok157 : F157.S.Ok Tryz.prog 157 := F157.ok Tryz.func157 (by kernel_rfl) trivial
noncomputable def g157 (x0 x1 x2 x3 x4 x5 : Int) (x6 : Bool) : Option (Int × Int) := F157.S.g [.i x0, .i x1, .i x2, .i x3, .i x4, .i x5, .b x6]
theorem g157_eq (x0 x1 x2 x3 x4 x5 : Int) (x6 : Bool) : g157 x0 x1 x2 x3 x4 x5 x6 =
 (some (x1, x2)) := by kernel_rfl

/- multikernel/multikernelref10.ValidRange -/
noncomputable def F156 : Fn := ⟨38, [2], [], [], 0, Tryz.f156, [.agg [.int .i64, .int .i64]], [.c (.bool)], []⟩
theorem ok156 : F156.S.Ok Tryz.prog 156 := F156.ok Tryz.func156 (by kernel_rfl) trivial
noncomputable def g156 (x0 x1 : Int) : Option (Bool) := F156.S.g [.i x0, .i x1]
theorem g156_eq (x0 x1 : Int) : g156 x0 x1 =
 (if (cop .lss x1 6) = true then
 some (false)
 else
 if (cop .gtr x1 40) = true then
 some (false)
 else
 if (cop .lss x0 0) = true then
 some (false)
 else
 if (cop .geq x0 1099511627776) = true then
 some (false)
 else
 reqK ((0 : Int) ≤ (IntKind.wrap .u64 x1)) <|
 reqK (((iop .shl .i64 1 (IntKind.wrap .u64 x1)) : Int) ≠ 0) <|
 if (cop .eql (iop .rem .i64 x0 (iop .shl .i64 1 (IntKind.wrap .u64 x1))) 0) = true then
 some ((cop .leq (iop .add .i64 x0 (iop .shl .i64 1 (IntKind.wrap .u64 x1))) 1099511627776))
 else
 some (false)) := by kernel_rfl

/- multikernel/multikernelref10.leveled -/
noncomputable def F158 : Fn := ⟨23, [4], [], [], 0, Tryz.f158, [.c (.int .i64), .c (.int .i64)], [.c (.bool)], []⟩
theorem ok158 : F158.S.Ok Tryz.prog 158 := F158.ok Tryz.func158 (by kernel_rfl) trivial
noncomputable def g158 (x0 x1 : Int) : Option (Bool) := F158.S.g [.i x0, .i x1]
theorem g158_eq (x0 x1 : Int) : g158 x0 x1 =
 (if (cop .geq x1 0) = true then
 if (cop .eql x0 32) = true then
 if (cop .leq x1 1) = true then
 some (true)
 else
 if (cop .eql x0 39) = true then
 some ((cop .leq x1 2))
 else
 some (false)
 else
 if (cop .eql x0 39) = true then
 some ((cop .leq x1 2))
 else
 some (false)
 else
 some (false)) := by kernel_rfl

/- multikernel/multikernelref10.ValidCap -/
noncomputable def F106 : Fn := ⟨64, [2], [], [], 0, Tryz.f106, [.agg hs13], [.c (.bool)], [(155, F155.S), (157, F157.S), (156, F156.S), (158, F158.S)]⟩
theorem ok106 : F106.S.Ok Tryz.prog 106 := F106.ok Tryz.func106 (by kernel_rfl) ⟨ok155, ⟨ok157, ⟨ok156, ⟨ok158, trivial⟩⟩⟩⟩
noncomputable def g106 (x0 x1 x2 x3 x4 x5 : Int) (x6 : Bool) : Option (Bool) := F106.S.g [.i x0, .i x1, .i x2, .i x3, .i x4, .i x5, .b x6]
theorem g106_eq (x0 x1 x2 x3 x4 x5 : Int) (x6 : Bool) : g106 x0 x1 x2 x3 x4 x5 x6 =
 ((g155 x0 x2).bind fun (r7 : Bool) =>
 if (!r7) = true then
 some (false)
 else
 (g157 x0 x1 x2 x3 x4 x5 x6).bind fun (r8 : Int × Int) =>
 (g156 r8.1 r8.2).bind fun (r10 : Bool) =>
 if (!r10) = true then
 some (false)
 else
 if (cop .lss x3 0) = true then
 some (false)
 else
 if (cop .gtr x3 7) = true then
 some (false)
 else
 if (cop .eql x0 3) = true then
 (g158 x4 x5).bind fun (r11 : Bool) =>
 if (!r11) = true then
 some (false)
 else
 if (cop .neq x0 3) = true then
 if (cop .neq x4 0) = true then
 some (false)
 else
 if (cop .neq x5 0) = true then
 some (false)
 else
 if (!x6) = true then
 some (true)
 else
 if (cop .eql x0 1) = true then
 some (true)
 else
 some ((cop .eql x0 2))
 else
 if (!x6) = true then
 some (true)
 else
 if (cop .eql x0 1) = true then
 some (true)
 else
 some ((cop .eql x0 2))
 else
 if (cop .neq x0 3) = true then
 if (cop .neq x4 0) = true then
 some (false)
 else
 if (cop .neq x5 0) = true then
 some (false)
 else
 if (!x6) = true then
 some (true)
 else
 if (cop .eql x0 1) = true then
 some (true)
 else
 some ((cop .eql x0 2))
 else
 if (!x6) = true then
 some (true)
 else
 if (cop .eql x0 1) = true then
 some (true)
 else
 some ((cop .eql x0 2))) := by kernel_rfl

/- multikernel/multikernelref10.HasId -/
noncomputable def F107 : Fn := ⟨18, [4], [(2, [(0, .c (.slice 3)), (3, .box [.int .i64, .int .i64, .int .i64]), (5, .c (.int .i64))])], [], 0, Tryz.f107, [.c (.slice 3), .agg [.int .i64, .int .i64, .int .i64]], [.c (.bool)], []⟩
theorem ok107 : F107.S.Ok Tryz.prog 107 := F107.ok Tryz.func107 (by kernel_rfl) trivial
noncomputable def g107 (x0 : LL) (x1 x2 x3 : Int) : Option (Bool) := F107.S.g [.l x0, .i x1, .i x2, .i x3]
noncomputable def g107L0 (k : Nat) (x0 : LL) (x1 x2 x3 x4 : Int) : Option (Bool) := F107.lp [0] 0 r0 k [.l x0, .i x1, .i x2, .i x3, .i x4]
theorem g107L0_eq (k : Nat) (x0 : LL) (x1 x2 x3 x4 : Int) : g107L0 (k + 1) x0 x1 x2 x3 x4 =
 (if (cop .lss x4 (List.length x0 : Int)) = true then
 elemK x0 x4 [.int .i64, .int .i64, .int .i64] fun (r5 : Int × Int × Int) =>
 if ((cop .eql r5.1 x1) && ((cop .eql r5.2.1 x2) && ((cop .eql r5.2.2 x3) && true))) = true then
 some (true)
 else
 g107L0 k x0 x1 x2 x3 (iop .add .i64 x4 1)
 else
 some (false)) := by kernel_rfl
theorem g107_eq (x0 : LL) (x1 x2 x3 : Int) : g107 x0 x1 x2 x3 =
 (g107L0 FUEL x0 x1 x2 x3 0) := by kernel_rfl

/- multikernel/multikernelref10.ValidNode -/
noncomputable def F45 : Fn := ⟨53, [2], [(4, [(1, .box hs10), (3, .c (.int .i64))])], [], 0, Tryz.f45, [.agg hs10], [.c (.bool)], [(104, F104.S), (106, F106.S), (107, F107.S)]⟩
theorem ok45 : F45.S.Ok Tryz.prog 45 := F45.ok Tryz.func45 (by kernel_rfl) ⟨ok104, ⟨ok106, ⟨ok107, trivial⟩⟩⟩
noncomputable def g45 (x0 x1 x2 : Int) (x3 : LL) (x4 x5 x6 x7 x8 x9 : Int) (x10 : Bool) : Option (Bool) := F45.S.g [.i x0, .i x1, .i x2, .l x3, .i x4, .i x5, .i x6, .i x7, .i x8, .i x9, .b x10]
noncomputable def g45L0 (k : Nat) (x0 x1 x2 : Int) (x3 : LL) (x4 x5 x6 x7 x8 x9 : Int) (x10 : Bool) (x11 : Int) : Option (Bool) := F45.lp [0, 1, 0, 1, 1, 0, 1, 0] 0 r0 k [.i x0, .i x1, .i x2, .l x3, .i x4, .i x5, .i x6, .i x7, .i x8, .i x9, .b x10, .i x11]
theorem g45L0_eq (k : Nat) (x0 x1 x2 : Int) (x3 : LL) (x4 x5 x6 x7 x8 x9 : Int) (x10 : Bool) (x11 : Int) : g45L0 (k + 1) x0 x1 x2 x3 x4 x5 x6 x7 x8 x9 x10 x11 =
 (if (cop .lss x11 (List.length x3 : Int)) = true then
 elemK x3 x11 [.int .i64, .int .i64, .int .i64] fun (r12 : Int × Int × Int) =>
 (g104 r12.1 r12.2.1 r12.2.2).bind fun (r15 : Bool) =>
 if (!r15) = true then
 some (false)
 else
 reqK ((0 : Int) ≤ x11) <|
 reqK ((x11 : Int) ≤ (List.length x3 : Int)) <|
 elemK x3 x11 [.int .i64, .int .i64, .int .i64] fun (r16 : Int × Int × Int) =>
 (g107 (List.take (Int.toNat x11) x3) r16.1 r16.2.1 r16.2.2).bind fun (r19 : Bool) =>
 if r19 = true then
 some (false)
 else
 g45L0 k x0 x1 x2 x3 x4 x5 x6 x7 x8 x9 x10 (iop .add .i64 x11 1)
 else
 some (true)) := by kernel_rfl
theorem g45_eq (x0 x1 x2 : Int) (x3 : LL) (x4 x5 x6 x7 x8 x9 : Int) (x10 : Bool) : g45 x0 x1 x2 x3 x4 x5 x6 x7 x8 x9 x10 =
 ((g104 x0 x1 x2).bind fun (r11 : Bool) =>
 if (!r11) = true then
 some (false)
 else
 (g106 x4 x5 x6 x7 x8 x9 x10).bind fun (r12 : Bool) =>
 if (!r12) = true then
 some (false)
 else
 if (cop .gtr (List.length x3 : Int) 8) = true then
 some (false)
 else
 (g107 x3 x0 x1 x2).bind fun (r13 : Bool) =>
 if r13 = true then
 some (false)
 else
 g45L0 FUEL x0 x1 x2 x3 x4 x5 x6 x7 x8 x9 x10 0) := by kernel_rfl

/- multikernel/multikernelref18.ValidRequest -/
noncomputable def F13 : Fn := ⟨46, [2], [], [], 0, Tryz.f13, [.agg hs4], [.c (.bool)], [(38, F38.S), (46, F46.S), (51, F51.S), (45, F45.S)]⟩
theorem ok13 : F13.S.Ok Tryz.prog 13 := F13.ok Tryz.func13 (by kernel_rfl) ⟨ok38, ⟨ok46, ⟨ok51, ⟨ok45, trivial⟩⟩⟩⟩
noncomputable def g13 (x0 x1 x2 x3 x4 x5 x6 x7 x8 x9 x10 x11 x12 x13 x14 x15 x16 x17 x18 x19 : Int) (x20 : LL) (x21 x22 x23 x24 x25 x26 : Int) (x27 : Bool) : Option (Bool) := F13.S.g [.i x0, .i x1, .i x2, .i x3, .i x4, .i x5, .i x6, .i x7, .i x8, .i x9, .i x10, .i x11, .i x12, .i x13, .i x14, .i x15, .i x16, .i x17, .i x18, .i x19, .l x20, .i x21, .i x22, .i x23, .i x24, .i x25, .i x26, .b x27]
theorem g13_eq (x0 x1 x2 x3 x4 x5 x6 x7 x8 x9 x10 x11 x12 x13 x14 x15 x16 x17 x18 x19 : Int) (x20 : LL) (x21 x22 x23 x24 x25 x26 : Int) (x27 : Bool) : g13 x0 x1 x2 x3 x4 x5 x6 x7 x8 x9 x10 x11 x12 x13 x14 x15 x16 x17 x18 x19 x20 x21 x22 x23 x24 x25 x26 x27 =
 ((g38 x0 x1 x2).bind fun (r28 : Bool) =>
 if (!r28) = true then
 some (false)
 else
 if (cop .lss x3 1) = true then
 some (false)
 else
 if (cop .gtr x3 6) = true then
 some (false)
 else
 (g46 x15).bind fun (r29 : Bool) =>
 if (!r29) = true then
 some (false)
 else
 if (cop .neq x16 32) = true then
 if (cop .neq x16 39) = true then
 some (false)
 else
 if (cop .eql x3 1) = true then
 (g51 x17 x18 x19 x20 x21 x22 x23 x24 x25 x26 x27 0 0 0 ([] : LL) 0 0 0 0 0 0 false).bind fun (r30 : Bool) =>
 some (r30)
 else
 (g45 x17 x18 x19 x20 x21 x22 x23 x24 x25 x26 x27).bind fun (r30 : Bool) =>
 some (r30)
 else
 if (cop .eql x3 1) = true then
 (g51 x17 x18 x19 x20 x21 x22 x23 x24 x25 x26 x27 0 0 0 ([] : LL) 0 0 0 0 0 0 false).bind fun (r30 : Bool) =>
 some (r30)
 else
 (g45 x17 x18 x19 x20 x21 x22 x23 x24 x25 x26 x27).bind fun (r30 : Bool) =>
 some (r30)) := by kernel_rfl

/- multikernel/cspace.Empty -/
noncomputable def F164 : Fn := ⟨8, [2], [], [], 0, Tryz.f164, [.agg hs7], [.c (.bool)], []⟩
theorem ok164 : F164.S.Ok Tryz.prog 164 := F164.ok Tryz.func164 (by kernel_rfl) trivial
noncomputable def g164 (x0 x1 x2 : Int) (x3 : LL) (x4 x5 x6 x7 x8 x9 : Int) (x10 : Bool) (x11 x12 x13 x14 : Int) : Option (Bool) := F164.S.g [.i x0, .i x1, .i x2, .l x3, .i x4, .i x5, .i x6, .i x7, .i x8, .i x9, .b x10, .i x11, .i x12, .i x13, .i x14]
theorem g164_eq (x0 x1 x2 : Int) (x3 : LL) (x4 x5 x6 x7 x8 x9 : Int) (x10 : Bool) (x11 x12 x13 x14 : Int) : g164 x0 x1 x2 x3 x4 x5 x6 x7 x8 x9 x10 x11 x12 x13 x14 =
 (some (((cop .eql x0 0) && ((cop .eql x1 0) && ((cop .eql x2 0) && true))))) := by kernel_rfl

/- multikernel/cspace.validSlot -/
noncomputable def F111 : Fn := ⟨43, [2], [], [], 0, Tryz.f111, [.agg hs7], [.c (.bool)], [(164, F164.S), (49, F49.S), (50, F50.S), (91, F91.S)]⟩
theorem ok111 : F111.S.Ok Tryz.prog 111 := F111.ok Tryz.func111 (by kernel_rfl) ⟨ok164, ⟨ok49, ⟨ok50, ⟨ok91, trivial⟩⟩⟩⟩
noncomputable def g111 (x0 x1 x2 : Int) (x3 : LL) (x4 x5 x6 x7 x8 x9 : Int) (x10 : Bool) (x11 x12 x13 x14 : Int) : Option (Bool) := F111.S.g [.i x0, .i x1, .i x2, .l x3, .i x4, .i x5, .i x6, .i x7, .i x8, .i x9, .b x10, .i x11, .i x12, .i x13, .i x14]
theorem g111_eq (x0 x1 x2 : Int) (x3 : LL) (x4 x5 x6 x7 x8 x9 : Int) (x10 : Bool) (x11 x12 x13 x14 : Int) : g111 x0 x1 x2 x3 x4 x5 x6 x7 x8 x9 x10 x11 x12 x13 x14 =
 (if (cop .lss x11 0) = true then
 some (false)
 else
 if (cop .gtr x11 1073741824) = true then
 some (false)
 else
 (g164 x0 x1 x2 x3 x4 x5 x6 x7 x8 x9 x10 x11 x12 x13 x14).bind fun (r15 : Bool) =>
 if r15 = true then
 (g49 x0 x1 x2 x3 x4 x5 x6 x7 x8 x9 x10 0 0 0 ([] : LL) 0 0 0 0 0 0 false).bind fun (r16 : Bool) =>
 if r16 = true then
 some (((cop .eql x12 0) && ((cop .eql x13 0) && ((cop .eql x14 0) && true))))
 else
 some (false)
 else
 (g50 x0 x1 x2 x3 x4 x5 x6 x7 x8 x9 x10).bind fun (r16 : Bool) =>
 if r16 = true then
 if ((cop .eql x12 0) && ((cop .eql x13 0) && ((cop .eql x14 0) && true))) = true then
 some (true)
 else
 (g91 x12 x13 x14).bind fun (r17 : Bool) =>
 if r17 = true then
 some ((cop .eql x14 0))
 else
 some (false)
 else
 some (false)) := by kernel_rfl

/- multikernel/cspace.Find -/
noncomputable def F112 : Fn := ⟨27, [4, 5], [(2, [(3, .box [.int .i64, .int .i64, .int .i64]), (8, .c (.slice 15)), (9, .c (.int .i64)), (10, .c (.int .i64))])], [], 0, Tryz.f112, [.c (.slice 15), .agg [.int .i64, .int .i64, .int .i64]], [.c (.int .i64), .c (.bool)], [(164, F164.S)]⟩
theorem ok112 : F112.S.Ok Tryz.prog 112 := F112.ok Tryz.func112 (by kernel_rfl) ⟨ok164, trivial⟩
noncomputable def g112 (x0 : LL) (x1 x2 x3 : Int) : Option (Int × Bool) := F112.S.g [.l x0, .i x1, .i x2, .i x3]
noncomputable def g112L0 (k : Nat) (x0 x1 x2 : Int) (x3 : LL) (x4 x5 : Int) : Option (Int × Bool) := F112.lp [0] 0 r0 k [.i x0, .i x1, .i x2, .l x3, .i x4, .i x5]
theorem g112L0_eq (k : Nat) (x0 x1 x2 : Int) (x3 : LL) (x4 x5 : Int) : g112L0 (k + 1) x0 x1 x2 x3 x4 x5 =
 (if (cop .lss x5 x4) = true then
 elemK x3 x5 hs7 fun (r6 : Qt11) =>
 (g164 r6.1 r6.2.1 r6.2.2.1 r6.2.2.2.1 r6.2.2.2.2.1 r6.2.2.2.2.2.1 r6.2.2.2.2.2.2.1 r6.2.2.2.2.2.2.2.1 r6.2.2.2.2.2.2.2.2.1 r6.2.2.2.2.2.2.2.2.2.1 r6.2.2.2.2.2.2.2.2.2.2.1 r6.2.2.2.2.2.2.2.2.2.2.2.1 (d4 (d8 r6)).1 (d4 (d8 r6)).2.1 (d2 (d4 (d8 r6)))).bind fun (r21 : Bool) =>
 if (!r21) = true then
 if ((cop .eql r6.1 x0) && ((cop .eql r6.2.1 x1) && ((cop .eql r6.2.2.1 x2) && true))) = true then
 some (x5, true)
 else
 g112L0 k x0 x1 x2 x3 x4 (iop .add .i64 x5 1)
 else
 g112L0 k x0 x1 x2 x3 x4 (iop .add .i64 x5 1)
 else
 some (0, false)) := by kernel_rfl
theorem g112_eq (x0 : LL) (x1 x2 x3 : Int) : g112 x0 x1 x2 x3 =
 (g112L0 FUEL x1 x2 x3 x0 (List.length x0 : Int) 0) := by kernel_rfl

/- multikernel/cspace.Valid -/
noncomputable def F52 : Fn := ⟨32, [2], [(4, [(0, .c (.slice 15)), (10, .c (.slice 15)), (11, .c (.int .i64)), (12, .c (.int .i64))])], [], 0, Tryz.f52, [.c (.slice 15)], [.c (.bool)], [(111, F111.S), (112, F112.S)]⟩
theorem ok52 : F52.S.Ok Tryz.prog 52 := F52.ok Tryz.func52 (by kernel_rfl) ⟨ok111, ⟨ok112, trivial⟩⟩
noncomputable def g52 (x0 : LL) : Option (Bool) := F52.S.g [.l x0]
noncomputable def g52L0 (k : Nat) (x0 x1 : LL) (x2 x3 : Int) : Option (Bool) := F52.lp [1, 0] 0 r0 k [.l x0, .l x1, .i x2, .i x3]
theorem g52L0_eq (k : Nat) (x0 x1 : LL) (x2 x3 : Int) : g52L0 (k + 1) x0 x1 x2 x3 =
 (if (cop .lss x3 x2) = true then
 elemK x1 x3 hs7 fun (r4 : Qt11) =>
 (g111 r4.1 r4.2.1 r4.2.2.1 r4.2.2.2.1 r4.2.2.2.2.1 r4.2.2.2.2.2.1 r4.2.2.2.2.2.2.1 r4.2.2.2.2.2.2.2.1 r4.2.2.2.2.2.2.2.2.1 r4.2.2.2.2.2.2.2.2.2.1 r4.2.2.2.2.2.2.2.2.2.2.1 r4.2.2.2.2.2.2.2.2.2.2.2.1 (d4 (d8 r4)).1 (d4 (d8 r4)).2.1 (d2 (d4 (d8 r4)))).bind fun (r19 : Bool) =>
 if (!r19) = true then
 some (false)
 else
 reqK ((0 : Int) ≤ x3) <|
 reqK ((x3 : Int) ≤ (List.length x0 : Int)) <|
 (g112 (List.take (Int.toNat x3) x0) r4.1 r4.2.1 r4.2.2.1).bind fun (r20 : Int × Bool) =>
 if r20.2 = true then
 some (false)
 else
 g52L0 k x0 x1 x2 (iop .add .i64 x3 1)
 else
 some (true)) := by kernel_rfl
theorem g52_eq (x0 : LL) : g52 x0 =
 (if (cop .gtr (List.length x0 : Int) 64) = true then
 some (false)
 else
 g52L0 FUEL x0 x0 (List.length x0 : Int) 0) := by kernel_rfl

/- multikernel/wire.validPending$1 -/
noncomputable def F114 : Fn := ⟨6, [2], [], [], 0, Tryz.f114, [.agg hs4], [.c (.bool)], [(12, F12.S)]⟩
theorem ok114 : F114.S.Ok Tryz.prog 114 := F114.ok Tryz.func114 (by kernel_rfl) ⟨ok12, trivial⟩
noncomputable def g114 (x0 x1 x2 x3 x4 x5 x6 x7 x8 x9 x10 x11 x12 x13 x14 x15 x16 x17 x18 x19 : Int) (x20 : LL) (x21 x22 x23 x24 x25 x26 : Int) (x27 : Bool) : Option (Bool) := F114.S.g [.i x0, .i x1, .i x2, .i x3, .i x4, .i x5, .i x6, .i x7, .i x8, .i x9, .i x10, .i x11, .i x12, .i x13, .i x14, .i x15, .i x16, .i x17, .i x18, .i x19, .l x20, .i x21, .i x22, .i x23, .i x24, .i x25, .i x26, .b x27]
theorem g114_eq (x0 x1 x2 x3 x4 x5 x6 x7 x8 x9 x10 x11 x12 x13 x14 x15 x16 x17 x18 x19 : Int) (x20 : LL) (x21 x22 x23 x24 x25 x26 : Int) (x27 : Bool) : g114 x0 x1 x2 x3 x4 x5 x6 x7 x8 x9 x10 x11 x12 x13 x14 x15 x16 x17 x18 x19 x20 x21 x22 x23 x24 x25 x26 x27 =
 ((g12 x0 x1 x2 x3 x4 x5 x6 x7 x8 x9 x10 x11 x12 x13 x14 x15 x16 x17 x18 x19 x20 x21 x22 x23 x24 x25 x26 x27).bind fun (r28 : Bool) =>
 some ((!r28))) := by kernel_rfl

/- slices.IndexFunc[[]multikernel/api.Request,multikernel/api.Request] -/
noncomputable def F165c114 : Fn := ⟨19, [4], [(2, [(0, .c (.slice 28)), (1, .clo 114 []), (7, .c (.int .i64)), (8, .c (.int .i64))])], [], 0, Tryz.f165, [.c (.slice 28), .clo 114 []], [.c (.int .i64)], [(114, F114.S)]⟩
theorem ok165c114 : F165c114.S.Ok Tryz.prog 165 := F165c114.ok Tryz.func165 (by kernel_rfl) ⟨ok114, trivial⟩
noncomputable def g165c114 (x0 : LL) : Option (Int) := F165c114.S.g [.l x0]
noncomputable def g165c114L0 (k : Nat) (x0 : LL) (x1 x2 : Int) : Option (Int) := F165c114.lp [0] 0 r0 k [.l x0, .i x1, .i x2]
theorem g165c114L0_eq (k : Nat) (x0 : LL) (x1 x2 : Int) : g165c114L0 (k + 1) x0 x1 x2 =
 (if (cop .lss x2 x1) = true then
 elemK x0 x2 hs4 fun (r3 : Qt6) =>
 (g114 r3.1 r3.2.1 r3.2.2.1 r3.2.2.2.1 r3.2.2.2.2.1 r3.2.2.2.2.2.1 r3.2.2.2.2.2.2.1 r3.2.2.2.2.2.2.2.1 r3.2.2.2.2.2.2.2.2.1 r3.2.2.2.2.2.2.2.2.2.1 r3.2.2.2.2.2.2.2.2.2.2.1 r3.2.2.2.2.2.2.2.2.2.2.2.1 (d4 (d8 r3)).1 (d4 (d8 r3)).2.1 (d2 (d4 (d8 r3))).1 (d2 (d4 (d8 r3))).2.1 (d16 r3).1 (d16 r3).2.1 (d2 (d16 r3)).1 (d2 (d16 r3)).2.1 (d4 (d16 r3)).1 (d4 (d16 r3)).2.1 (d2 (d4 (d16 r3))).1 (d2 (d4 (d16 r3))).2.1 (d8 (d16 r3)).1 (d8 (d16 r3)).2.1 (d2 (d8 (d16 r3))).1 (d2 (d8 (d16 r3))).2).bind fun (r31 : Bool) =>
 if r31 = true then
 some (x2)
 else
 g165c114L0 k x0 x1 (iop .add .i64 x2 1)
 else
 some ((-1))) := by kernel_rfl
theorem g165c114_eq (x0 : LL) : g165c114 x0 =
 (g165c114L0 FUEL x0 (List.length x0 : Int) 0) := by kernel_rfl

/- slices.ContainsFunc[[]multikernel/api.Request,multikernel/api.Request] -/
noncomputable def F113c114 : Fn := ⟨9, [4], [], [], 0, Tryz.f113, [.c (.slice 28), .clo 114 []], [.c (.bool)], [(165, F165c114.S)]⟩
theorem ok113c114 : F113c114.S.Ok Tryz.prog 113 := F113c114.ok Tryz.func113 (by kernel_rfl) ⟨ok165c114, trivial⟩
noncomputable def g113c114 (x0 : LL) : Option (Bool) := F113c114.S.g [.l x0]
theorem g113c114_eq (x0 : LL) : g113c114 x0 =
 ((g165c114 x0).bind fun (r1 : Int) =>
 some ((cop .geq r1 0))) := by kernel_rfl

/- cmp.isNaN[int] -/
noncomputable def F182 : Fn := ⟨6, [2], [], [], 0, Tryz.f182, [.c (.int .i64)], [.c (.bool)], []⟩
theorem ok182 : F182.S.Ok Tryz.prog 182 := F182.ok Tryz.func182 (by kernel_rfl) trivial
noncomputable def g182 (x0 : Int) : Option (Bool) := F182.S.g [.i x0]
theorem g182_eq (x0 : Int) : g182 x0 =
 (some ((cop .neq x0 x0))) := by kernel_rfl

/- cmp.Compare[int] -/
noncomputable def F178 : Fn := ⟨20, [4], [], [], 0, Tryz.f178, [.c (.int .i64), .c (.int .i64)], [.c (.int .i64)], [(182, F182.S)]⟩
theorem ok178 : F178.S.Ok Tryz.prog 178 := F178.ok Tryz.func178 (by kernel_rfl) ⟨ok182, trivial⟩
noncomputable def g178 (x0 x1 : Int) : Option (Int) := F178.S.g [.i x0, .i x1]
theorem g178_eq (x0 x1 : Int) : g178 x0 x1 =
 ((g182 x0).bind fun (r2 : Bool) =>
 (g182 x1).bind fun (r3 : Bool) =>
 if r2 = true then
 if r3 = true then
 some (0)
 else
 some ((-1))
 else
 if r3 = true then
 some (1)
 else
 if (cop .lss x0 x1) = true then
 some ((-1))
 else
 if (cop .gtr x0 x1) = true then
 some (1)
 else
 some (0)) := by kernel_rfl

/- cmp.Or[int] -/
noncomputable def F177 : Fn := ⟨18, [2], [(3, [(3, .c (.int .i64)), (6, .c (.slice 1)), (7, .c (.int .i64)), (8, .c (.int .i64))])], [], 0, Tryz.f177, [.c (.slice 1)], [.c (.int .i64)], []⟩
theorem ok177 : F177.S.Ok Tryz.prog 177 := F177.ok Tryz.func177 (by kernel_rfl) trivial
noncomputable def g177 (x0 : LL) : Option (Int) := F177.S.g [.l x0]
noncomputable def g177L0 (k : Nat) (x0 : Int) (x1 : LL) (x2 x3 : Int) : Option (Int) := F177.lp [0] 0 r0 k [.i x0, .l x1, .i x2, .i x3]
theorem g177L0_eq (k : Nat) (x0 : Int) (x1 : LL) (x2 x3 : Int) : g177L0 (k + 1) x0 x1 x2 x3 =
 (if (cop .lss x3 x2) = true then
 elemK x1 x3 [.int .i64] fun (r4 : Int) =>
 if (cop .neq r4 x0) = true then
 some (r4)
 else
 g177L0 k x0 x1 x2 (iop .add .i64 x3 1)
 else
 some (x0)) := by kernel_rfl
theorem g177_eq (x0 : LL) : g177 x0 =
 (g177L0 FUEL 0 x0 (List.length x0 : Int) 0) := by kernel_rfl

/- multikernel/node.Compare -/
noncomputable def F166 : Fn := ⟨22, [4], [], [], 0, Tryz.f166, [.agg [.int .i64, .int .i64, .int .i64], .agg [.int .i64, .int .i64, .int .i64]], [.c (.int .i64)], [(178, F178.S), (177, F177.S)]⟩
theorem ok166 : F166.S.Ok Tryz.prog 166 := F166.ok Tryz.func166 (by kernel_rfl) ⟨ok178, ⟨ok177, trivial⟩⟩
noncomputable def g166 (x0 x1 x2 x3 x4 x5 : Int) : Option (Int) := F166.S.g [.i x0, .i x1, .i x2, .i x3, .i x4, .i x5]
theorem g166_eq (x0 x1 x2 x3 x4 x5 : Int) : g166 x0 x1 x2 x3 x4 x5 =
 ((g178 x0 x3).bind fun (r6 : Int) =>
 (g178 x1 x4).bind fun (r7 : Int) =>
 (g178 x2 x5).bind fun (r8 : Int) =>
 (g177 (((([] : LL) ++ [[AV.val (.int .i64 r6)]]) ++ [[AV.val (.int .i64 r7)]]) ++ [[AV.val (.int .i64 r8)]])).bind fun (r9 : Int) =>
 some (r9)) := by kernel_rfl

/- multikernel/node.Less -/
noncomputable def F116 : Fn := ⟨9, [4], [], [], 0, Tryz.f116, [.agg [.int .i64, .int .i64, .int .i64], .agg [.int .i64, .int .i64, .int .i64]], [.c (.bool)], [(166, F166.S)]⟩
theorem ok116 : F116.S.Ok Tryz.prog 116 := F116.ok Tryz.func116 (by kernel_rfl) ⟨ok166, trivial⟩
noncomputable def g116 (x0 x1 x2 x3 x4 x5 : Int) : Option (Bool) := F116.S.g [.i x0, .i x1, .i x2, .i x3, .i x4, .i x5]
theorem g116_eq (x0 x1 x2 x3 x4 x5 : Int) : g116 x0 x1 x2 x3 x4 x5 =
 ((g166 x0 x1 x2 x3 x4 x5).bind fun (r6 : Int) =>
 some ((cop .lss r6 0))) := by kernel_rfl

/- multikernel/wire.validPending$2 -/
noncomputable def F115 : Fn := ⟨17, [5], [], [2], 0, Tryz.f115, [.c (.int .i64), .c (.int .i64), .box [.slice 28]], [.c (.bool)], [(116, F116.S)]⟩
theorem ok115 : F115.S.Ok Tryz.prog 115 := F115.ok Tryz.func115 (by kernel_rfl) ⟨ok116, trivial⟩
noncomputable def g115 (x0 x1 : Int) (x2 : LL) : Option (Bool × LL) := F115.S.g [.i x0, .i x1, .l x2]
theorem g115_eq (x0 x1 : Int) (x2 : LL) : g115 x0 x1 x2 =
 (elemK x2 x0 hs4 fun (r3 : Qt6) =>
 elemK x2 x1 hs4 fun (r31 : Qt6) =>
 (g116 r3.1 r3.2.1 r3.2.2.1 r31.1 r31.2.1 r31.2.2.1).bind fun (r59 : Bool) =>
 some (r59, x2)) := by kernel_rfl

/- multikernel/wire.ascending -/
noncomputable def F94c115 : Fn := ⟨17, [4], [(2, [(0, .c (.int .i64)), (1, .clo 115 [17]), (5, .c (.int .i64)), (17, .gbox [.slice 28])])], [], 1, Tryz.f94, [.c (.int .i64), .clo 115 [17], .dead, .dead, .dead, .dead, .dead, .dead, .dead, .dead, .dead, .dead, .dead, .dead, .dead, .dead, .dead, .gbox [.slice 28]], [.c (.bool)], [(115, F115.S)]⟩
theorem ok94c115 : F94c115.S.Ok Tryz.prog 94 := F94c115.ok Tryz.func94 (by kernel_rfl) ⟨ok115, trivial⟩
noncomputable def g94c115 (x0 : Int) (x1 : LL) : Option (Bool × LL) := F94c115.S.g [.i x0, .l x1]
noncomputable def g94c115L0 (k : Nat) (x0 x1 : Int) (x2 : LL) : Option (Bool × LL) := F94c115.lp [0] 0 r0 k [.i x0, .i x1, .l x2]
theorem g94c115L0_eq (k : Nat) (x0 x1 : Int) (x2 : LL) : g94c115L0 (k + 1) x0 x1 x2 =
 (if (cop .lss x1 x0) = true then
 (g115 (iop .sub .i64 x1 1) x1 x2).bind fun (r3 : Bool × LL) =>
 if (!r3.1) = true then
 some (false, r3.2)
 else
 g94c115L0 k x0 (iop .add .i64 x1 1) r3.2
 else
 some (true, x2)) := by kernel_rfl
theorem g94c115_eq (x0 : Int) (x1 : LL) : g94c115 x0 x1 =
 (g94c115L0 FUEL x0 1 x1) := by kernel_rfl

/- multikernel/wire.validPending -/
noncomputable def F53 : Fn := ⟨12, [2], [], [], 0, Tryz.f53, [.c (.slice 28)], [.c (.bool)], [(113, F113c114.S), (94, F94c115.S)]⟩
theorem ok53 : F53.S.Ok Tryz.prog 53 := F53.ok Tryz.func53 (by kernel_rfl) ⟨ok113c114, ⟨ok94c115, trivial⟩⟩
noncomputable def g53 (x0 : LL) : Option (Bool) := F53.S.g [.l x0]
theorem g53_eq (x0 : LL) : g53 x0 =
 ((g113c114 x0).bind fun (r1 : Bool) =>
 if (!r1) = true then
 (g94c115 (List.length x0 : Int) x0).bind fun (r2 : Bool × LL) =>
 some (r2.1)
 else
 some (false)) := by kernel_rfl

/- multikernel/wire.validMarks$1 -/
noncomputable def F118 : Fn := ⟨13, [2], [], [], 0, Tryz.f118, [.agg [.int .i64, .int .i64, .int .i64, .int .i64]], [.c (.bool)], [(48, F48.S), (47, F47.S)]⟩
theorem ok118 : F118.S.Ok Tryz.prog 118 := F118.ok Tryz.func118 (by kernel_rfl) ⟨ok48, ⟨ok47, trivial⟩⟩
noncomputable def g118 (x0 x1 x2 x3 : Int) : Option (Bool) := F118.S.g [.i x0, .i x1, .i x2, .i x3]
theorem g118_eq (x0 x1 x2 x3 : Int) : g118 x0 x1 x2 x3 =
 ((g48 x0).bind fun (r4 : Bool) =>
 if (!r4) = true then
 some (true)
 else
 (g47 x1 x2 x3).bind fun (r5 : Bool) =>
 some ((!r5))) := by kernel_rfl

/- slices.IndexFunc[[]multikernel/api.Mark,multikernel/api.Mark] -/
noncomputable def F167c118 : Fn := ⟨19, [4], [(2, [(0, .c (.slice 4)), (1, .clo 118 []), (7, .c (.int .i64)), (8, .c (.int .i64))])], [], 0, Tryz.f167, [.c (.slice 4), .clo 118 []], [.c (.int .i64)], [(118, F118.S)]⟩
theorem ok167c118 : F167c118.S.Ok Tryz.prog 167 := F167c118.ok Tryz.func167 (by kernel_rfl) ⟨ok118, trivial⟩
noncomputable def g167c118 (x0 : LL) : Option (Int) := F167c118.S.g [.l x0]
noncomputable def g167c118L0 (k : Nat) (x0 : LL) (x1 x2 : Int) : Option (Int) := F167c118.lp [0] 0 r0 k [.l x0, .i x1, .i x2]
theorem g167c118L0_eq (k : Nat) (x0 : LL) (x1 x2 : Int) : g167c118L0 (k + 1) x0 x1 x2 =
 (if (cop .lss x2 x1) = true then
 elemK x0 x2 [.int .i64, .int .i64, .int .i64, .int .i64] fun (r3 : Int × Int × Int × Int) =>
 (g118 r3.1 r3.2.1 r3.2.2.1 r3.2.2.2).bind fun (r7 : Bool) =>
 if r7 = true then
 some (x2)
 else
 g167c118L0 k x0 x1 (iop .add .i64 x2 1)
 else
 some ((-1))) := by kernel_rfl
theorem g167c118_eq (x0 : LL) : g167c118 x0 =
 (g167c118L0 FUEL x0 (List.length x0 : Int) 0) := by kernel_rfl

/- slices.ContainsFunc[[]multikernel/api.Mark,multikernel/api.Mark] -/
noncomputable def F117c118 : Fn := ⟨9, [4], [], [], 0, Tryz.f117, [.c (.slice 4), .clo 118 []], [.c (.bool)], [(167, F167c118.S)]⟩
theorem ok117c118 : F117c118.S.Ok Tryz.prog 117 := F117c118.ok Tryz.func117 (by kernel_rfl) ⟨ok167c118, trivial⟩
noncomputable def g117c118 (x0 : LL) : Option (Bool) := F117c118.S.g [.l x0]
theorem g117c118_eq (x0 : LL) : g117c118 x0 =
 ((g167c118 x0).bind fun (r1 : Int) =>
 some ((cop .geq r1 0))) := by kernel_rfl

/- multikernel/wire.validMarks$2 -/
noncomputable def F119 : Fn := ⟨17, [5], [], [2], 0, Tryz.f119, [.c (.int .i64), .c (.int .i64), .box [.slice 4]], [.c (.bool)], []⟩
theorem ok119 : F119.S.Ok Tryz.prog 119 := F119.ok Tryz.func119 (by kernel_rfl) trivial
noncomputable def g119 (x0 x1 : Int) (x2 : LL) : Option (Bool × LL) := F119.S.g [.i x0, .i x1, .l x2]
theorem g119_eq (x0 x1 : Int) (x2 : LL) : g119 x0 x1 x2 =
 (elemK x2 x0 [.int .i64, .int .i64, .int .i64, .int .i64] fun (r3 : Int × Int × Int × Int) =>
 elemK x2 x1 [.int .i64, .int .i64, .int .i64, .int .i64] fun (r7 : Int × Int × Int × Int) =>
 some ((cop .lss r3.1 r7.1), x2)) := by kernel_rfl

/- multikernel/wire.ascending -/
noncomputable def F94c119 : Fn := ⟨17, [4], [(2, [(0, .c (.int .i64)), (1, .clo 119 [17]), (5, .c (.int .i64)), (17, .gbox [.slice 4])])], [], 1, Tryz.f94, [.c (.int .i64), .clo 119 [17], .dead, .dead, .dead, .dead, .dead, .dead, .dead, .dead, .dead, .dead, .dead, .dead, .dead, .dead, .dead, .gbox [.slice 4]], [.c (.bool)], [(119, F119.S)]⟩
theorem ok94c119 : F94c119.S.Ok Tryz.prog 94 := F94c119.ok Tryz.func94 (by kernel_rfl) ⟨ok119, trivial⟩
noncomputable def g94c119 (x0 : Int) (x1 : LL) : Option (Bool × LL) := F94c119.S.g [.i x0, .l x1]
noncomputable def g94c119L0 (k : Nat) (x0 x1 : Int) (x2 : LL) : Option (Bool × LL) := F94c119.lp [0] 0 r0 k [.i x0, .i x1, .l x2]
theorem g94c119L0_eq (k : Nat) (x0 x1 : Int) (x2 : LL) : g94c119L0 (k + 1) x0 x1 x2 =
 (if (cop .lss x1 x0) = true then
 (g119 (iop .sub .i64 x1 1) x1 x2).bind fun (r3 : Bool × LL) =>
 if (!r3.1) = true then
 some (false, r3.2)
 else
 g94c119L0 k x0 (iop .add .i64 x1 1) r3.2
 else
 some (true, x2)) := by kernel_rfl
theorem g94c119_eq (x0 : Int) (x1 : LL) : g94c119 x0 x1 =
 (g94c119L0 FUEL x0 1 x1) := by kernel_rfl

/- multikernel/wire.validMarks -/
noncomputable def F54 : Fn := ⟨12, [2], [], [], 0, Tryz.f54, [.c (.slice 4)], [.c (.bool)], [(117, F117c118.S), (94, F94c119.S)]⟩
theorem ok54 : F54.S.Ok Tryz.prog 54 := F54.ok Tryz.func54 (by kernel_rfl) ⟨ok117c118, ⟨ok94c119, trivial⟩⟩
noncomputable def g54 (x0 : LL) : Option (Bool) := F54.S.g [.l x0]
theorem g54_eq (x0 : LL) : g54 x0 =
 ((g117c118 x0).bind fun (r1 : Bool) =>
 if (!r1) = true then
 (g94c119 (List.length x0 : Int) x0).bind fun (r2 : Bool × LL) =>
 some (r2.1)
 else
 some (false)) := by kernel_rfl

/- multikernel/wire.isErr -/
noncomputable def F86 : Fn := ⟨9, [2], [], [], 0, Tryz.f86, [.c (.int .i64)], [.c (.bool)], []⟩
theorem ok86 : F86.S.Ok Tryz.prog 86 := F86.ok Tryz.func86 (by kernel_rfl) trivial
noncomputable def g86 (x0 : Int) : Option (Bool) := F86.S.g [.i x0]
theorem g86_eq (x0 : Int) : g86 x0 =
 (if (cop .geq x0 0) = true then
 some ((cop .leq x0 99))
 else
 some (false)) := by kernel_rfl

/- multikernel/wire.validAnswers$1 -/
noncomputable def F121 : Fn := ⟨17, [2], [], [], 0, Tryz.f121, [.agg [.int .i64, .int .i64]], [.c (.bool)], [(86, F86.S)]⟩
theorem ok121 : F121.S.Ok Tryz.prog 121 := F121.ok Tryz.func121 (by kernel_rfl) ⟨ok86, trivial⟩
noncomputable def g121 (x0 x1 : Int) : Option (Bool) := F121.S.g [.i x0, .i x1]
theorem g121_eq (x0 x1 : Int) : g121 x0 x1 =
 (if (cop .lss x0 1) = true then
 some (true)
 else
 if (cop .gtr x0 1073741824) = true then
 some (true)
 else
 (g86 x1).bind fun (r2 : Bool) =>
 some ((!r2))) := by kernel_rfl

/- slices.IndexFunc[[]multikernel/api.Answer,multikernel/api.Answer] -/
noncomputable def F168c121 : Fn := ⟨19, [4], [(2, [(0, .c (.slice 2)), (1, .clo 121 []), (7, .c (.int .i64)), (8, .c (.int .i64))])], [], 0, Tryz.f168, [.c (.slice 2), .clo 121 []], [.c (.int .i64)], [(121, F121.S)]⟩
theorem ok168c121 : F168c121.S.Ok Tryz.prog 168 := F168c121.ok Tryz.func168 (by kernel_rfl) ⟨ok121, trivial⟩
noncomputable def g168c121 (x0 : LL) : Option (Int) := F168c121.S.g [.l x0]
noncomputable def g168c121L0 (k : Nat) (x0 : LL) (x1 x2 : Int) : Option (Int) := F168c121.lp [0] 0 r0 k [.l x0, .i x1, .i x2]
theorem g168c121L0_eq (k : Nat) (x0 : LL) (x1 x2 : Int) : g168c121L0 (k + 1) x0 x1 x2 =
 (if (cop .lss x2 x1) = true then
 elemK x0 x2 [.int .i64, .int .i64] fun (r3 : Int × Int) =>
 (g121 r3.1 r3.2).bind fun (r5 : Bool) =>
 if r5 = true then
 some (x2)
 else
 g168c121L0 k x0 x1 (iop .add .i64 x2 1)
 else
 some ((-1))) := by kernel_rfl
theorem g168c121_eq (x0 : LL) : g168c121 x0 =
 (g168c121L0 FUEL x0 (List.length x0 : Int) 0) := by kernel_rfl

/- slices.ContainsFunc[[]multikernel/api.Answer,multikernel/api.Answer] -/
noncomputable def F120c121 : Fn := ⟨9, [4], [], [], 0, Tryz.f120, [.c (.slice 2), .clo 121 []], [.c (.bool)], [(168, F168c121.S)]⟩
theorem ok120c121 : F120c121.S.Ok Tryz.prog 120 := F120c121.ok Tryz.func120 (by kernel_rfl) ⟨ok168c121, trivial⟩
noncomputable def g120c121 (x0 : LL) : Option (Bool) := F120c121.S.g [.l x0]
theorem g120c121_eq (x0 : LL) : g120c121 x0 =
 ((g168c121 x0).bind fun (r1 : Int) =>
 some ((cop .geq r1 0))) := by kernel_rfl

/- multikernel/wire.validAnswers$2 -/
noncomputable def F122 : Fn := ⟨17, [5], [], [2], 0, Tryz.f122, [.c (.int .i64), .c (.int .i64), .box [.slice 2]], [.c (.bool)], []⟩
theorem ok122 : F122.S.Ok Tryz.prog 122 := F122.ok Tryz.func122 (by kernel_rfl) trivial
noncomputable def g122 (x0 x1 : Int) (x2 : LL) : Option (Bool × LL) := F122.S.g [.i x0, .i x1, .l x2]
theorem g122_eq (x0 x1 : Int) (x2 : LL) : g122 x0 x1 x2 =
 (elemK x2 x0 [.int .i64, .int .i64] fun (r3 : Int × Int) =>
 elemK x2 x1 [.int .i64, .int .i64] fun (r5 : Int × Int) =>
 some ((cop .lss r3.1 r5.1), x2)) := by kernel_rfl

/- multikernel/wire.ascending -/
noncomputable def F94c122 : Fn := ⟨17, [4], [(2, [(0, .c (.int .i64)), (1, .clo 122 [17]), (5, .c (.int .i64)), (17, .gbox [.slice 2])])], [], 1, Tryz.f94, [.c (.int .i64), .clo 122 [17], .dead, .dead, .dead, .dead, .dead, .dead, .dead, .dead, .dead, .dead, .dead, .dead, .dead, .dead, .dead, .gbox [.slice 2]], [.c (.bool)], [(122, F122.S)]⟩
theorem ok94c122 : F94c122.S.Ok Tryz.prog 94 := F94c122.ok Tryz.func94 (by kernel_rfl) ⟨ok122, trivial⟩
noncomputable def g94c122 (x0 : Int) (x1 : LL) : Option (Bool × LL) := F94c122.S.g [.i x0, .l x1]
noncomputable def g94c122L0 (k : Nat) (x0 x1 : Int) (x2 : LL) : Option (Bool × LL) := F94c122.lp [0] 0 r0 k [.i x0, .i x1, .l x2]
theorem g94c122L0_eq (k : Nat) (x0 x1 : Int) (x2 : LL) : g94c122L0 (k + 1) x0 x1 x2 =
 (if (cop .lss x1 x0) = true then
 (g122 (iop .sub .i64 x1 1) x1 x2).bind fun (r3 : Bool × LL) =>
 if (!r3.1) = true then
 some (false, r3.2)
 else
 g94c122L0 k x0 (iop .add .i64 x1 1) r3.2
 else
 some (true, x2)) := by kernel_rfl
theorem g94c122_eq (x0 : Int) (x1 : LL) : g94c122 x0 x1 =
 (g94c122L0 FUEL x0 1 x1) := by kernel_rfl

/- multikernel/wire.validAnswers -/
noncomputable def F55 : Fn := ⟨12, [2], [], [], 0, Tryz.f55, [.c (.slice 2)], [.c (.bool)], [(120, F120c121.S), (94, F94c122.S)]⟩
theorem ok55 : F55.S.Ok Tryz.prog 55 := F55.ok Tryz.func55 (by kernel_rfl) ⟨ok120c121, ⟨ok94c122, trivial⟩⟩
noncomputable def g55 (x0 : LL) : Option (Bool) := F55.S.g [.l x0]
theorem g55_eq (x0 : LL) : g55 x0 =
 ((g120c121 x0).bind fun (r1 : Bool) =>
 if (!r1) = true then
 (g94c122 (List.length x0 : Int) x0).bind fun (r2 : Bool × LL) =>
 some (r2.1)
 else
 some (false)) := by kernel_rfl

/- multikernel/wire.isCore -/
noncomputable def F32 : Fn := ⟨9, [2], [], [], 0, Tryz.f32, [.c (.int .i64)], [.c (.bool)], []⟩
theorem ok32 : F32.S.Ok Tryz.prog 32 := F32.ok Tryz.func32 (by kernel_rfl) trivial
noncomputable def g32 (x0 : Int) : Option (Bool) := F32.S.g [.i x0]
theorem g32_eq (x0 : Int) : g32 x0 =
 (if (cop .geq x0 0) = true then
 some ((cop .lss x0 32))
 else
 some (false)) := by kernel_rfl

/- multikernel/wire.isSlot -/
noncomputable def F89 : Fn := ⟨9, [2], [], [], 0, Tryz.f89, [.c (.int .i64)], [.c (.bool)], []⟩
theorem ok89 : F89.S.Ok Tryz.prog 89 := F89.ok Tryz.func89 (by kernel_rfl) trivial
noncomputable def g89 (x0 : Int) : Option (Bool) := F89.S.g [.i x0]
theorem g89_eq (x0 : Int) : g89 x0 =
 (if (cop .geq x0 0) = true then
 some ((cop .lss x0 64))
 else
 some (false)) := by kernel_rfl

/- multikernel/wire.validEntries$1 -/
noncomputable def F124 : Fn := ⟨19, [2], [], [], 0, Tryz.f124, [.agg hs8], [.c (.bool)], [(32, F32.S), (89, F89.S), (50, F50.S)]⟩
theorem ok124 : F124.S.Ok Tryz.prog 124 := F124.ok Tryz.func124 (by kernel_rfl) ⟨ok32, ⟨ok89, ⟨ok50, trivial⟩⟩⟩
noncomputable def g124 (x0 x1 x2 x3 x4 : Int) (x5 : LL) (x6 x7 x8 x9 x10 x11 : Int) (x12 : Bool) : Option (Bool) := F124.S.g [.i x0, .i x1, .i x2, .i x3, .i x4, .l x5, .i x6, .i x7, .i x8, .i x9, .i x10, .i x11, .b x12]
theorem g124_eq (x0 x1 x2 x3 x4 : Int) (x5 : LL) (x6 x7 x8 x9 x10 x11 : Int) (x12 : Bool) : g124 x0 x1 x2 x3 x4 x5 x6 x7 x8 x9 x10 x11 x12 =
 ((g32 x0).bind fun (r13 : Bool) =>
 if (!r13) = true then
 some (true)
 else
 (g89 x1).bind fun (r14 : Bool) =>
 if (!r14) = true then
 some (true)
 else
 (g50 x2 x3 x4 x5 x6 x7 x8 x9 x10 x11 x12).bind fun (r15 : Bool) =>
 some ((!r15))) := by kernel_rfl

/- slices.IndexFunc[[]multikernel/api.Entry,multikernel/api.Entry] -/
noncomputable def F169c124 : Fn := ⟨19, [4], [(2, [(0, .c (.slice 13)), (1, .clo 124 []), (7, .c (.int .i64)), (8, .c (.int .i64))])], [], 0, Tryz.f169, [.c (.slice 13), .clo 124 []], [.c (.int .i64)], [(124, F124.S)]⟩
theorem ok169c124 : F169c124.S.Ok Tryz.prog 169 := F169c124.ok Tryz.func169 (by kernel_rfl) ⟨ok124, trivial⟩
noncomputable def g169c124 (x0 : LL) : Option (Int) := F169c124.S.g [.l x0]
noncomputable def g169c124L0 (k : Nat) (x0 : LL) (x1 x2 : Int) : Option (Int) := F169c124.lp [0] 0 r0 k [.l x0, .i x1, .i x2]
theorem g169c124L0_eq (k : Nat) (x0 : LL) (x1 x2 : Int) : g169c124L0 (k + 1) x0 x1 x2 =
 (if (cop .lss x2 x1) = true then
 elemK x0 x2 hs8 fun (r3 : Qt12) =>
 (g124 r3.1 r3.2.1 r3.2.2.1 r3.2.2.2.1 r3.2.2.2.2.1 r3.2.2.2.2.2.1 r3.2.2.2.2.2.2.1 r3.2.2.2.2.2.2.2.1 r3.2.2.2.2.2.2.2.2.1 r3.2.2.2.2.2.2.2.2.2.1 r3.2.2.2.2.2.2.2.2.2.2.1 r3.2.2.2.2.2.2.2.2.2.2.2.1 (d4 (d8 r3))).bind fun (r16 : Bool) =>
 if r16 = true then
 some (x2)
 else
 g169c124L0 k x0 x1 (iop .add .i64 x2 1)
 else
 some ((-1))) := by kernel_rfl
theorem g169c124_eq (x0 : LL) : g169c124 x0 =
 (g169c124L0 FUEL x0 (List.length x0 : Int) 0) := by kernel_rfl

/- slices.ContainsFunc[[]multikernel/api.Entry,multikernel/api.Entry] -/
noncomputable def F123c124 : Fn := ⟨9, [4], [], [], 0, Tryz.f123, [.c (.slice 13), .clo 124 []], [.c (.bool)], [(169, F169c124.S)]⟩
theorem ok123c124 : F123c124.S.Ok Tryz.prog 123 := F123c124.ok Tryz.func123 (by kernel_rfl) ⟨ok169c124, trivial⟩
noncomputable def g123c124 (x0 : LL) : Option (Bool) := F123c124.S.g [.l x0]
theorem g123c124_eq (x0 : LL) : g123c124 x0 =
 ((g169c124 x0).bind fun (r1 : Int) =>
 some ((cop .geq r1 0))) := by kernel_rfl

/- multikernel/wire.validEntries$2 -/
noncomputable def F125 : Fn := ⟨19, [5], [], [2], 0, Tryz.f125, [.c (.int .i64), .c (.int .i64), .box [.slice 13]], [.c (.bool)], [(116, F116.S)]⟩
theorem ok125 : F125.S.Ok Tryz.prog 125 := F125.ok Tryz.func125 (by kernel_rfl) ⟨ok116, trivial⟩
noncomputable def g125 (x0 x1 : Int) (x2 : LL) : Option (Bool × LL) := F125.S.g [.i x0, .i x1, .l x2]
theorem g125_eq (x0 x1 : Int) (x2 : LL) : g125 x0 x1 x2 =
 (elemK x2 x0 hs8 fun (r3 : Qt12) =>
 elemK x2 x1 hs8 fun (r16 : Qt12) =>
 (g116 r3.2.2.1 r3.2.2.2.1 r3.2.2.2.2.1 r16.2.2.1 r16.2.2.2.1 r16.2.2.2.2.1).bind fun (r29 : Bool) =>
 some (r29, x2)) := by kernel_rfl

/- multikernel/wire.ascending -/
noncomputable def F94c125 : Fn := ⟨17, [4], [(2, [(0, .c (.int .i64)), (1, .clo 125 [17]), (5, .c (.int .i64)), (17, .gbox [.slice 13])])], [], 1, Tryz.f94, [.c (.int .i64), .clo 125 [17], .dead, .dead, .dead, .dead, .dead, .dead, .dead, .dead, .dead, .dead, .dead, .dead, .dead, .dead, .dead, .gbox [.slice 13]], [.c (.bool)], [(125, F125.S)]⟩
theorem ok94c125 : F94c125.S.Ok Tryz.prog 94 := F94c125.ok Tryz.func94 (by kernel_rfl) ⟨ok125, trivial⟩
noncomputable def g94c125 (x0 : Int) (x1 : LL) : Option (Bool × LL) := F94c125.S.g [.i x0, .l x1]
noncomputable def g94c125L0 (k : Nat) (x0 x1 : Int) (x2 : LL) : Option (Bool × LL) := F94c125.lp [0] 0 r0 k [.i x0, .i x1, .l x2]
theorem g94c125L0_eq (k : Nat) (x0 x1 : Int) (x2 : LL) : g94c125L0 (k + 1) x0 x1 x2 =
 (if (cop .lss x1 x0) = true then
 (g125 (iop .sub .i64 x1 1) x1 x2).bind fun (r3 : Bool × LL) =>
 if (!r3.1) = true then
 some (false, r3.2)
 else
 g94c125L0 k x0 (iop .add .i64 x1 1) r3.2
 else
 some (true, x2)) := by kernel_rfl
theorem g94c125_eq (x0 : Int) (x1 : LL) : g94c125 x0 x1 =
 (g94c125L0 FUEL x0 1 x1) := by kernel_rfl

/- multikernel/wire.validEntries -/
noncomputable def F56 : Fn := ⟨12, [2], [], [], 0, Tryz.f56, [.c (.slice 13)], [.c (.bool)], [(123, F123c124.S), (94, F94c125.S)]⟩
theorem ok56 : F56.S.Ok Tryz.prog 56 := F56.ok Tryz.func56 (by kernel_rfl) ⟨ok123c124, ⟨ok94c125, trivial⟩⟩
noncomputable def g56 (x0 : LL) : Option (Bool) := F56.S.g [.l x0]
theorem g56_eq (x0 : LL) : g56 x0 =
 ((g123c124 x0).bind fun (r1 : Bool) =>
 if (!r1) = true then
 (g94c125 (List.length x0 : Int) x0).bind fun (r2 : Bool × LL) =>
 some (r2.1)
 else
 some (false)) := by kernel_rfl

/- multikernel/wire.ValidState$1 -/
noncomputable def F58 : Fn := ⟨6, [2], [], [], 0, Tryz.f58, [.agg [.int .i64, .int .i64, .int .i64]], [.c (.bool)], [(47, F47.S)]⟩
theorem ok58 : F58.S.Ok Tryz.prog 58 := F58.ok Tryz.func58 (by kernel_rfl) ⟨ok47, trivial⟩
noncomputable def g58 (x0 x1 x2 : Int) : Option (Bool) := F58.S.g [.i x0, .i x1, .i x2]
theorem g58_eq (x0 x1 x2 : Int) : g58 x0 x1 x2 =
 ((g47 x0 x1 x2).bind fun (r3 : Bool) =>
 some ((!r3))) := by kernel_rfl

/- slices.IndexFunc[[]multikernel/api.Id,multikernel/api.Id] -/
noncomputable def F126c58 : Fn := ⟨19, [4], [(2, [(0, .c (.slice 3)), (1, .clo 58 []), (7, .c (.int .i64)), (8, .c (.int .i64))])], [], 0, Tryz.f126, [.c (.slice 3), .clo 58 []], [.c (.int .i64)], [(58, F58.S)]⟩
theorem ok126c58 : F126c58.S.Ok Tryz.prog 126 := F126c58.ok Tryz.func126 (by kernel_rfl) ⟨ok58, trivial⟩
noncomputable def g126c58 (x0 : LL) : Option (Int) := F126c58.S.g [.l x0]
noncomputable def g126c58L0 (k : Nat) (x0 : LL) (x1 x2 : Int) : Option (Int) := F126c58.lp [0] 0 r0 k [.l x0, .i x1, .i x2]
theorem g126c58L0_eq (k : Nat) (x0 : LL) (x1 x2 : Int) : g126c58L0 (k + 1) x0 x1 x2 =
 (if (cop .lss x2 x1) = true then
 elemK x0 x2 [.int .i64, .int .i64, .int .i64] fun (r3 : Int × Int × Int) =>
 (g58 r3.1 r3.2.1 r3.2.2).bind fun (r6 : Bool) =>
 if r6 = true then
 some (x2)
 else
 g126c58L0 k x0 x1 (iop .add .i64 x2 1)
 else
 some ((-1))) := by kernel_rfl
theorem g126c58_eq (x0 : LL) : g126c58 x0 =
 (g126c58L0 FUEL x0 (List.length x0 : Int) 0) := by kernel_rfl

/- slices.ContainsFunc[[]multikernel/api.Id,multikernel/api.Id] -/
noncomputable def F57c58 : Fn := ⟨9, [4], [], [], 0, Tryz.f57, [.c (.slice 3), .clo 58 []], [.c (.bool)], [(126, F126c58.S)]⟩
theorem ok57c58 : F57c58.S.Ok Tryz.prog 57 := F57c58.ok Tryz.func57 (by kernel_rfl) ⟨ok126c58, trivial⟩
noncomputable def g57c58 (x0 : LL) : Option (Bool) := F57c58.S.g [.l x0]
theorem g57c58_eq (x0 : LL) : g57c58 x0 =
 ((g126c58 x0).bind fun (r1 : Int) =>
 some ((cop .geq r1 0))) := by kernel_rfl

/- multikernel/wire.ValidState -/
noncomputable def F14 : Fn := ⟨32, [2], [], [], 0, Tryz.f14, [.agg hs14], [.c (.bool)], [(52, F52.S), (53, F53.S), (54, F54.S), (55, F55.S), (56, F56.S), (57, F57c58.S)]⟩
theorem ok14 : F14.S.Ok Tryz.prog 14 := F14.ok Tryz.func14 (by kernel_rfl) ⟨ok52, ⟨ok53, ⟨ok54, ⟨ok55, ⟨ok56, ⟨ok57c58, trivial⟩⟩⟩⟩⟩⟩
noncomputable def g14 (x0 x1 x2 x3 x4 x5 : LL) : Option (Bool) := F14.S.g [.l x0, .l x1, .l x2, .l x3, .l x4, .l x5]
theorem g14_eq (x0 x1 x2 x3 x4 x5 : LL) : g14 x0 x1 x2 x3 x4 x5 =
 ((g52 x0).bind fun (r6 : Bool) =>
 if r6 = true then
 (g53 x1).bind fun (r7 : Bool) =>
 if r7 = true then
 (g54 x2).bind fun (r8 : Bool) =>
 if r8 = true then
 (g55 x3).bind fun (r9 : Bool) =>
 if r9 = true then
 (g56 x4).bind fun (r10 : Bool) =>
 if r10 = true then
 (g57c58 x5).bind fun (r11 : Bool) =>
 some ((!r11))
 else
 some (false)
 else
 some (false)
 else
 some (false)
 else
 some (false)
 else
 some (false)) := by kernel_rfl

/- multikernel/multikernelref10.Empty -/
noncomputable def F127 : Fn := ⟨8, [2], [], [], 0, Tryz.f127, [.agg hs7], [.c (.bool)], []⟩
theorem ok127 : F127.S.Ok Tryz.prog 127 := F127.ok Tryz.func127 (by kernel_rfl) trivial
noncomputable def g127 (x0 x1 x2 : Int) (x3 : LL) (x4 x5 x6 x7 x8 x9 : Int) (x10 : Bool) (x11 x12 x13 x14 : Int) : Option (Bool) := F127.S.g [.i x0, .i x1, .i x2, .l x3, .i x4, .i x5, .i x6, .i x7, .i x8, .i x9, .b x10, .i x11, .i x12, .i x13, .i x14]
theorem g127_eq (x0 x1 x2 : Int) (x3 : LL) (x4 x5 x6 x7 x8 x9 : Int) (x10 : Bool) (x11 x12 x13 x14 : Int) : g127 x0 x1 x2 x3 x4 x5 x6 x7 x8 x9 x10 x11 x12 x13 x14 =
 (some (((cop .eql x0 0) && ((cop .eql x1 0) && ((cop .eql x2 0) && true))))) := by kernel_rfl

/- multikernel/multikernelref10.FindSlot -/
noncomputable def F128 : Fn := ⟨29, [4], [(2, [(0, .c (.slice 15)), (3, .box [.int .i64, .int .i64, .int .i64]), (5, .c (.int .i64))])], [], 0, Tryz.f128, [.c (.slice 15), .agg [.int .i64, .int .i64, .int .i64]], [.c (.int .i64)], [(127, F127.S)]⟩
theorem ok128 : F128.S.Ok Tryz.prog 128 := F128.ok Tryz.func128 (by kernel_rfl) ⟨ok127, trivial⟩
noncomputable def g128 (x0 : LL) (x1 x2 x3 : Int) : Option (Int) := F128.S.g [.l x0, .i x1, .i x2, .i x3]
noncomputable def g128L0 (k : Nat) (x0 : LL) (x1 x2 x3 x4 : Int) : Option (Int) := F128.lp [0] 0 r0 k [.l x0, .i x1, .i x2, .i x3, .i x4]
theorem g128L0_eq (k : Nat) (x0 : LL) (x1 x2 x3 x4 : Int) : g128L0 (k + 1) x0 x1 x2 x3 x4 =
 (if (cop .lss x4 (List.length x0 : Int)) = true then
 elemK x0 x4 hs7 fun (r5 : Qt11) =>
 (g127 r5.1 r5.2.1 r5.2.2.1 r5.2.2.2.1 r5.2.2.2.2.1 r5.2.2.2.2.2.1 r5.2.2.2.2.2.2.1 r5.2.2.2.2.2.2.2.1 r5.2.2.2.2.2.2.2.2.1 r5.2.2.2.2.2.2.2.2.2.1 r5.2.2.2.2.2.2.2.2.2.2.1 r5.2.2.2.2.2.2.2.2.2.2.2.1 (d4 (d8 r5)).1 (d4 (d8 r5)).2.1 (d2 (d4 (d8 r5)))).bind fun (r20 : Bool) =>
 if (!r20) = true then
 elemK x0 x4 hs7 fun (r21 : Qt11) =>
 if ((cop .eql r21.1 x1) && ((cop .eql r21.2.1 x2) && ((cop .eql r21.2.2.1 x3) && true))) = true then
 some (x4)
 else
 g128L0 k x0 x1 x2 x3 (iop .add .i64 x4 1)
 else
 g128L0 k x0 x1 x2 x3 (iop .add .i64 x4 1)
 else
 some ((-1))) := by kernel_rfl
theorem g128_eq (x0 : LL) (x1 x2 x3 : Int) : g128 x0 x1 x2 x3 =
 (g128L0 FUEL x0 x1 x2 x3 0) := by kernel_rfl

/- multikernel/multikernelref10.ValidSlots -/
noncomputable def F59 : Fn := ⟨70, [2], [(4, [(0, .c (.slice 15)), (3, .c (.int .i64))])], [], 0, Tryz.f59, [.c (.slice 15)], [.c (.bool)], [(104, F104.S), (127, F127.S), (51, F51.S), (45, F45.S), (128, F128.S)]⟩
theorem ok59 : F59.S.Ok Tryz.prog 59 := F59.ok Tryz.func59 (by kernel_rfl) ⟨ok104, ⟨ok127, ⟨ok51, ⟨ok45, ⟨ok128, trivial⟩⟩⟩⟩⟩
noncomputable def g59 (x0 : LL) : Option (Bool) := F59.S.g [.l x0]
noncomputable def g59L0 (k : Nat) (x0 : LL) (x1 : Int) : Option (Bool) := F59.lp [1, 0] 0 r0 k [.l x0, .i x1]
theorem g59L0_eq (k : Nat) (x0 : LL) (x1 : Int) : g59L0 (k + 1) x0 x1 =
 (if (cop .lss x1 (List.length x0 : Int)) = true then
 elemK x0 x1 hs7 fun (r2 : Qt11) =>
 if (cop .lss r2.2.2.2.2.2.2.2.2.2.2.2.1 0) = true then
 some (false)
 else
 if (cop .gtr r2.2.2.2.2.2.2.2.2.2.2.2.1 1073741824) = true then
 some (false)
 else
 if (!((cop .eql (d4 (d8 r2)).1 0) && ((cop .eql (d4 (d8 r2)).2.1 0) && ((cop .eql (d2 (d4 (d8 r2))) 0) && true)))) = true then
 (g104 (d4 (d8 r2)).1 (d4 (d8 r2)).2.1 (d2 (d4 (d8 r2)))).bind fun (r17 : Bool) =>
 if (!r17) = true then
 some (false)
 else
 if (cop .neq (d2 (d4 (d8 r2))) 0) = true then
 some (false)
 else
 (g127 r2.1 r2.2.1 r2.2.2.1 r2.2.2.2.1 r2.2.2.2.2.1 r2.2.2.2.2.2.1 r2.2.2.2.2.2.2.1 r2.2.2.2.2.2.2.2.1 r2.2.2.2.2.2.2.2.2.1 r2.2.2.2.2.2.2.2.2.2.1 r2.2.2.2.2.2.2.2.2.2.2.1 r2.2.2.2.2.2.2.2.2.2.2.2.1 (d4 (d8 r2)).1 (d4 (d8 r2)).2.1 (d2 (d4 (d8 r2)))).bind fun (r18 : Bool) =>
 if r18 = true then
 (g51 r2.1 r2.2.1 r2.2.2.1 r2.2.2.2.1 r2.2.2.2.2.1 r2.2.2.2.2.2.1 r2.2.2.2.2.2.2.1 r2.2.2.2.2.2.2.2.1 r2.2.2.2.2.2.2.2.2.1 r2.2.2.2.2.2.2.2.2.2.1 r2.2.2.2.2.2.2.2.2.2.2.1 0 0 0 ([] : LL) 0 0 0 0 0 0 false).bind fun (r19 : Bool) =>
 if (!r19) = true then
 some (false)
 else
 if (!((cop .eql (d4 (d8 r2)).1 0) && ((cop .eql (d4 (d8 r2)).2.1 0) && ((cop .eql (d2 (d4 (d8 r2))) 0) && true)))) = true then
 some (false)
 else
 g59L0 k x0 (iop .add .i64 x1 1)
 else
 (g45 r2.1 r2.2.1 r2.2.2.1 r2.2.2.2.1 r2.2.2.2.2.1 r2.2.2.2.2.2.1 r2.2.2.2.2.2.2.1 r2.2.2.2.2.2.2.2.1 r2.2.2.2.2.2.2.2.2.1 r2.2.2.2.2.2.2.2.2.2.1 r2.2.2.2.2.2.2.2.2.2.2.1).bind fun (r19 : Bool) =>
 if (!r19) = true then
 some (false)
 else
 (g128 x0 r2.1 r2.2.1 r2.2.2.1).bind fun (r20 : Int) =>
 if (cop .neq r20 x1) = true then
 some (false)
 else
 g59L0 k x0 (iop .add .i64 x1 1)
 else
 (g127 r2.1 r2.2.1 r2.2.2.1 r2.2.2.2.1 r2.2.2.2.2.1 r2.2.2.2.2.2.1 r2.2.2.2.2.2.2.1 r2.2.2.2.2.2.2.2.1 r2.2.2.2.2.2.2.2.2.1 r2.2.2.2.2.2.2.2.2.2.1 r2.2.2.2.2.2.2.2.2.2.2.1 r2.2.2.2.2.2.2.2.2.2.2.2.1 (d4 (d8 r2)).1 (d4 (d8 r2)).2.1 (d2 (d4 (d8 r2)))).bind fun (r17 : Bool) =>
 if r17 = true then
 (g51 r2.1 r2.2.1 r2.2.2.1 r2.2.2.2.1 r2.2.2.2.2.1 r2.2.2.2.2.2.1 r2.2.2.2.2.2.2.1 r2.2.2.2.2.2.2.2.1 r2.2.2.2.2.2.2.2.2.1 r2.2.2.2.2.2.2.2.2.2.1 r2.2.2.2.2.2.2.2.2.2.2.1 0 0 0 ([] : LL) 0 0 0 0 0 0 false).bind fun (r18 : Bool) =>
 if (!r18) = true then
 some (false)
 else
 if (!((cop .eql (d4 (d8 r2)).1 0) && ((cop .eql (d4 (d8 r2)).2.1 0) && ((cop .eql (d2 (d4 (d8 r2))) 0) && true)))) = true then
 some (false)
 else
 g59L0 k x0 (iop .add .i64 x1 1)
 else
 (g45 r2.1 r2.2.1 r2.2.2.1 r2.2.2.2.1 r2.2.2.2.2.1 r2.2.2.2.2.2.1 r2.2.2.2.2.2.2.1 r2.2.2.2.2.2.2.2.1 r2.2.2.2.2.2.2.2.2.1 r2.2.2.2.2.2.2.2.2.2.1 r2.2.2.2.2.2.2.2.2.2.2.1).bind fun (r18 : Bool) =>
 if (!r18) = true then
 some (false)
 else
 (g128 x0 r2.1 r2.2.1 r2.2.2.1).bind fun (r19 : Int) =>
 if (cop .neq r19 x1) = true then
 some (false)
 else
 g59L0 k x0 (iop .add .i64 x1 1)
 else
 some (true)) := by kernel_rfl
theorem g59_eq (x0 : LL) : g59 x0 =
 (if (cop .gtr (List.length x0 : Int) 64) = true then
 some (false)
 else
 g59L0 FUEL x0 0) := by kernel_rfl

/- multikernel/multikernelref18.ids -/
noncomputable def F40 : Fn := ⟨29, [4], [(2, [(0, .c (.slice 3)), (1, .c (.bool)), (5, .c (.int .i64))])], [], 0, Tryz.f40, [.c (.slice 3), .c (.bool)], [.c (.bool)], [(104, F104.S)]⟩
theorem ok40 : F40.S.Ok Tryz.prog 40 := F40.ok Tryz.func40 (by kernel_rfl) ⟨ok104, trivial⟩
noncomputable def g40 (x0 : LL) (x1 : Bool) : Option (Bool) := F40.S.g [.l x0, .b x1]
noncomputable def g40L0 (k : Nat) (x0 : LL) (x1 : Bool) (x2 : Int) : Option (Bool) := F40.lp [0] 0 r0 k [.l x0, .b x1, .i x2]
theorem g40L0_eq (k : Nat) (x0 : LL) (x1 : Bool) (x2 : Int) : g40L0 (k + 1) x0 x1 x2 =
 (if (cop .lss x2 (List.length x0 : Int)) = true then
 elemK x0 x2 [.int .i64, .int .i64, .int .i64] fun (r3 : Int × Int × Int) =>
 (g104 r3.1 r3.2.1 r3.2.2).bind fun (r6 : Bool) =>
 if (!r6) = true then
 some (false)
 else
 if x1 = true then
 elemK x0 x2 [.int .i64, .int .i64, .int .i64] fun (r7 : Int × Int × Int) =>
 if (cop .neq r7.2.2 0) = true then
 some (false)
 else
 g40L0 k x0 x1 (iop .add .i64 x2 1)
 else
 g40L0 k x0 x1 (iop .add .i64 x2 1)
 else
 some (true)) := by kernel_rfl
theorem g40_eq (x0 : LL) (x1 : Bool) : g40 x0 x1 =
 (g40L0 FUEL x0 x1 0) := by kernel_rfl

/- multikernel/multikernelref10.Less -/
noncomputable def F60 : Fn := ⟨30, [4], [], [], 0, Tryz.f60, [.agg [.int .i64, .int .i64, .int .i64], .agg [.int .i64, .int .i64, .int .i64]], [.c (.bool)], []⟩
theorem ok60 : F60.S.Ok Tryz.prog 60 := F60.ok Tryz.func60 (by kernel_rfl) trivial
noncomputable def g60 (x0 x1 x2 x3 x4 x5 : Int) : Option (Bool) := F60.S.g [.i x0, .i x1, .i x2, .i x3, .i x4, .i x5]
theorem g60_eq (x0 x1 x2 x3 x4 x5 : Int) : g60 x0 x1 x2 x3 x4 x5 =
 (if (cop .neq x0 x3) = true then
 some ((cop .lss x0 x3))
 else
 if (cop .neq x1 x4) = true then
 some ((cop .lss x1 x4))
 else
 some ((cop .lss x2 x5))) := by kernel_rfl

/- multikernel/multikernelref18.failure -/
noncomputable def F39 : Fn := ⟨9, [2], [], [], 0, Tryz.f39, [.c (.int .i64)], [.c (.bool)], []⟩
theorem ok39 : F39.S.Ok Tryz.prog 39 := F39.ok Tryz.func39 (by kernel_rfl) trivial
noncomputable def g39 (x0 : Int) : Option (Bool) := F39.S.g [.i x0]
theorem g39_eq (x0 : Int) : g39 x0 =
 (if (cop .geq x0 0) = true then
 some ((cop .leq x0 99))
 else
 some (false)) := by kernel_rfl

/- multikernel/multikernelref18.core -/
noncomputable def F37 : Fn := ⟨9, [2], [], [], 0, Tryz.f37, [.c (.int .i64)], [.c (.bool)], []⟩
theorem ok37 : F37.S.Ok Tryz.prog 37 := F37.ok Tryz.func37 (by kernel_rfl) trivial
noncomputable def g37 (x0 : Int) : Option (Bool) := F37.S.g [.i x0]
theorem g37_eq (x0 : Int) : g37 x0 =
 (if (cop .geq x0 0) = true then
 some ((cop .lss x0 32))
 else
 some (false)) := by kernel_rfl

/- multikernel/multikernelref18.ValidState -/
noncomputable def F15 : Fn := ⟨186, [2], [(4, [(1, .box hs14), (3, .c (.int .i64))]), (9, [(1, .box hs14), (4, .c (.int .i64))]), (15, [(1, .box hs14), (6, .c (.int .i64))]), (21, [(1, .box hs14), (8, .c (.int .i64))])], [], 0, Tryz.f15, [.agg hs14], [.c (.bool)], [(59, F59.S), (40, F40.S), (13, F13.S), (60, F60.S), (46, F46.S), (38, F38.S), (39, F39.S), (37, F37.S), (45, F45.S)]⟩
theorem ok15 : F15.S.Ok Tryz.prog 15 := F15.ok Tryz.func15 (by kernel_rfl) ⟨ok59, ⟨ok40, ⟨ok13, ⟨ok60, ⟨ok46, ⟨ok38, ⟨ok39, ⟨ok37, ⟨ok45, trivial⟩⟩⟩⟩⟩⟩⟩⟩⟩
noncomputable def g15 (x0 x1 x2 x3 x4 x5 : LL) : Option (Bool) := F15.S.g [.l x0, .l x1, .l x2, .l x3, .l x4, .l x5]
noncomputable def g15L0 (k : Nat) (x0 x1 x2 x3 x4 x5 : LL) (x6 : Int) : Option (Bool) := F15.lp [0, 1, 0, 1, 0, 1, 0, 1, 0, 1, 0] 0 r0 k [.l x0, .l x1, .l x2, .l x3, .l x4, .l x5, .i x6]
theorem g15L0_eq (k : Nat) (x0 x1 x2 x3 x4 x5 : LL) (x6 : Int) : g15L0 (k + 1) x0 x1 x2 x3 x4 x5 x6 =
 (if (cop .lss x6 (List.length x4 : Int)) = true then
 elemK x4 x6 hs8 fun (r7 : Qt12) =>
 (g37 r7.1).bind fun (r20 : Bool) =>
 if (!r20) = true then
 some (false)
 else
 if (cop .lss r7.2.1 0) = true then
 some (false)
 else
 if (cop .geq r7.2.1 64) = true then
 some (false)
 else
 (g45 r7.2.2.1 r7.2.2.2.1 r7.2.2.2.2.1 r7.2.2.2.2.2.1 r7.2.2.2.2.2.2.1 r7.2.2.2.2.2.2.2.1 r7.2.2.2.2.2.2.2.2.1 r7.2.2.2.2.2.2.2.2.2.1 r7.2.2.2.2.2.2.2.2.2.2.1 r7.2.2.2.2.2.2.2.2.2.2.2.1 (d4 (d8 r7))).bind fun (r21 : Bool) =>
 if (!r21) = true then
 some (false)
 else
 if (cop .gtr x6 0) = true then
 elemK x4 (iop .sub .i64 x6 1) hs8 fun (r22 : Qt12) =>
 (g60 r22.2.2.1 r22.2.2.2.1 r22.2.2.2.2.1 r7.2.2.1 r7.2.2.2.1 r7.2.2.2.2.1).bind fun (r35 : Bool) =>
 if (!r35) = true then
 some (false)
 else
 g15L0 k x0 x1 x2 x3 x4 x5 (iop .add .i64 x6 1)
 else
 g15L0 k x0 x1 x2 x3 x4 x5 (iop .add .i64 x6 1)
 else
 some (true)) := by kernel_rfl
noncomputable def g15L1 (k : Nat) (x0 x1 x2 x3 x4 x5 : LL) (x6 : Int) : Option (Bool) := F15.lp [0, 1, 0, 1, 0, 1, 0, 1, 0] 0 r0 k [.l x0, .l x1, .l x2, .l x3, .l x4, .l x5, .i x6]
theorem g15L1_eq (k : Nat) (x0 x1 x2 x3 x4 x5 : LL) (x6 : Int) : g15L1 (k + 1) x0 x1 x2 x3 x4 x5 x6 =
 (if (cop .lss x6 (List.length x3 : Int)) = true then
 elemK x3 x6 [.int .i64, .int .i64] fun (r7 : Int × Int) =>
 if (cop .lss r7.1 1) = true then
 some (false)
 else
 if (cop .gtr r7.1 1073741824) = true then
 some (false)
 else
 (g39 r7.2).bind fun (r9 : Bool) =>
 if (!r9) = true then
 some (false)
 else
 if (cop .gtr x6 0) = true then
 elemK x3 (iop .sub .i64 x6 1) [.int .i64, .int .i64] fun (r10 : Int × Int) =>
 if (cop .leq r7.1 r10.1) = true then
 some (false)
 else
 g15L1 k x0 x1 x2 x3 x4 x5 (iop .add .i64 x6 1)
 else
 g15L1 k x0 x1 x2 x3 x4 x5 (iop .add .i64 x6 1)
 else
 g15L0 FUEL x0 x1 x2 x3 x4 x5 0) := by kernel_rfl
noncomputable def g15L2 (k : Nat) (x0 x1 x2 x3 x4 x5 : LL) (x6 : Int) : Option (Bool) := F15.lp [0, 1, 0, 1, 0, 1, 0] 0 r0 k [.l x0, .l x1, .l x2, .l x3, .l x4, .l x5, .i x6]
theorem g15L2_eq (k : Nat) (x0 x1 x2 x3 x4 x5 : LL) (x6 : Int) : g15L2 (k + 1) x0 x1 x2 x3 x4 x5 x6 =
 (if (cop .lss x6 (List.length x2 : Int)) = true then
 elemK x2 x6 [.int .i64, .int .i64, .int .i64, .int .i64] fun (r7 : Int × Int × Int × Int) =>
 (g46 r7.1).bind fun (r11 : Bool) =>
 if (!r11) = true then
 some (false)
 else
 (g38 r7.2.1 r7.2.2.1 r7.2.2.2).bind fun (r12 : Bool) =>
 if (!r12) = true then
 some (false)
 else
 if (cop .gtr x6 0) = true then
 elemK x2 (iop .sub .i64 x6 1) [.int .i64, .int .i64, .int .i64, .int .i64] fun (r13 : Int × Int × Int × Int) =>
 if (cop .leq r7.1 r13.1) = true then
 some (false)
 else
 g15L2 k x0 x1 x2 x3 x4 x5 (iop .add .i64 x6 1)
 else
 g15L2 k x0 x1 x2 x3 x4 x5 (iop .add .i64 x6 1)
 else
 g15L1 FUEL x0 x1 x2 x3 x4 x5 0) := by kernel_rfl
noncomputable def g15L3 (k : Nat) (x0 x1 x2 x3 x4 x5 : LL) (x6 : Int) : Option (Bool) := F15.lp [0, 1, 0, 1, 0] 0 r0 k [.l x0, .l x1, .l x2, .l x3, .l x4, .l x5, .i x6]
theorem g15L3_eq (k : Nat) (x0 x1 x2 x3 x4 x5 : LL) (x6 : Int) : g15L3 (k + 1) x0 x1 x2 x3 x4 x5 x6 =
 (if (cop .lss x6 (List.length x1 : Int)) = true then
 elemK x1 x6 hs4 fun (r7 : Qt6) =>
 (g13 r7.1 r7.2.1 r7.2.2.1 r7.2.2.2.1 r7.2.2.2.2.1 r7.2.2.2.2.2.1 r7.2.2.2.2.2.2.1 r7.2.2.2.2.2.2.2.1 r7.2.2.2.2.2.2.2.2.1 r7.2.2.2.2.2.2.2.2.2.1 r7.2.2.2.2.2.2.2.2.2.2.1 r7.2.2.2.2.2.2.2.2.2.2.2.1 (d4 (d8 r7)).1 (d4 (d8 r7)).2.1 (d2 (d4 (d8 r7))).1 (d2 (d4 (d8 r7))).2.1 (d16 r7).1 (d16 r7).2.1 (d2 (d16 r7)).1 (d2 (d16 r7)).2.1 (d4 (d16 r7)).1 (d4 (d16 r7)).2.1 (d2 (d4 (d16 r7))).1 (d2 (d4 (d16 r7))).2.1 (d8 (d16 r7)).1 (d8 (d16 r7)).2.1 (d2 (d8 (d16 r7))).1 (d2 (d8 (d16 r7))).2).bind fun (r35 : Bool) =>
 if (!r35) = true then
 some (false)
 else
 if (cop .gtr x6 0) = true then
 elemK x1 (iop .sub .i64 x6 1) hs4 fun (r36 : Qt6) =>
 elemK x1 x6 hs4 fun (r64 : Qt6) =>
 (g60 r36.1 r36.2.1 r36.2.2.1 r64.1 r64.2.1 r64.2.2.1).bind fun (r92 : Bool) =>
 if (!r92) = true then
 some (false)
 else
 g15L3 k x0 x1 x2 x3 x4 x5 (iop .add .i64 x6 1)
 else
 g15L3 k x0 x1 x2 x3 x4 x5 (iop .add .i64 x6 1)
 else
 g15L2 FUEL x0 x1 x2 x3 x4 x5 0) := by kernel_rfl
theorem g15_eq (x0 x1 x2 x3 x4 x5 : LL) : g15 x0 x1 x2 x3 x4 x5 =
 ((g59 x0).bind fun (r6 : Bool) =>
 if (!r6) = true then
 some (false)
 else
 (g40 x5 true).bind fun (r7 : Bool) =>
 if (!r7) = true then
 some (false)
 else
 g15L3 FUEL x0 x1 x2 x3 x4 x5 0) := by kernel_rfl

/- multikernel/multikernellaw18.smallState -/
noncomputable def F11 : Fn := ⟨85, [2], [(5, [(1, .box hs14), (3, .c (.int .i64)), (4, .c (.int .i64))]), (9, [(1, .box hs14), (3, .c (.int .i64)), (5, .c (.int .i64))]), (13, [(1, .box hs14), (3, .c (.int .i64)), (6, .c (.int .i64))])], [], 0, Tryz.f11, [.agg hs14], [.c (.bool)], []⟩
theorem ok11 : F11.S.Ok Tryz.prog 11 := F11.ok Tryz.func11 (by kernel_rfl) trivial
noncomputable def g11 (x0 x1 x2 x3 x4 x5 : LL) : Option (Bool) := F11.S.g [.l x0, .l x1, .l x2, .l x3, .l x4, .l x5]
noncomputable def g11L0 (k : Nat) (x0 x1 x2 x3 x4 x5 : LL) (x6 x7 : Int) : Option (Bool) := F11.lp [1, 0, 1, 0, 1, 0] 0 r0 k [.l x0, .l x1, .l x2, .l x3, .l x4, .l x5, .i x6, .i x7]
theorem g11L0_eq (k : Nat) (x0 x1 x2 x3 x4 x5 : LL) (x6 x7 : Int) : g11L0 (k + 1) x0 x1 x2 x3 x4 x5 x6 x7 =
 (if (cop .lss x7 (List.length x4 : Int)) = true then
 elemK x4 x7 hs8 fun (r8 : Qt12) =>
 g11L0 k x0 x1 x2 x3 x4 x5 (iop .add .i64 x6 (List.length r8.2.2.2.2.2.1 : Int)) (iop .add .i64 x7 1)
 else
 some ((cop .leq x6 800))) := by kernel_rfl
noncomputable def g11L1 (k : Nat) (x0 x1 x2 x3 x4 x5 : LL) (x6 x7 : Int) : Option (Bool) := F11.lp [1, 0, 1, 0] 0 r0 k [.l x0, .l x1, .l x2, .l x3, .l x4, .l x5, .i x6, .i x7]
theorem g11L1_eq (k : Nat) (x0 x1 x2 x3 x4 x5 : LL) (x6 x7 : Int) : g11L1 (k + 1) x0 x1 x2 x3 x4 x5 x6 x7 =
 (if (cop .lss x7 (List.length x1 : Int)) = true then
 elemK x1 x7 hs4 fun (r8 : Qt6) =>
 g11L1 k x0 x1 x2 x3 x4 x5 (iop .add .i64 x6 (List.length (d4 (d16 r8)).1 : Int)) (iop .add .i64 x7 1)
 else
 g11L0 FUEL x0 x1 x2 x3 x4 x5 x6 0) := by kernel_rfl
noncomputable def g11L2 (k : Nat) (x0 x1 x2 x3 x4 x5 : LL) (x6 x7 : Int) : Option (Bool) := F11.lp [1, 0] 0 r0 k [.l x0, .l x1, .l x2, .l x3, .l x4, .l x5, .i x6, .i x7]
theorem g11L2_eq (k : Nat) (x0 x1 x2 x3 x4 x5 : LL) (x6 x7 : Int) : g11L2 (k + 1) x0 x1 x2 x3 x4 x5 x6 x7 =
 (if (cop .lss x7 (List.length x0 : Int)) = true then
 elemK x0 x7 hs7 fun (r8 : Qt11) =>
 g11L2 k x0 x1 x2 x3 x4 x5 (iop .add .i64 x6 (List.length r8.2.2.2.1 : Int)) (iop .add .i64 x7 1)
 else
 g11L1 FUEL x0 x1 x2 x3 x4 x5 x6 0) := by kernel_rfl
theorem g11_eq (x0 x1 x2 x3 x4 x5 : LL) : g11 x0 x1 x2 x3 x4 x5 =
 (if (cop .gtr (iop .add .i64 (iop .add .i64 (iop .add .i64 (iop .add .i64 (iop .add .i64 (List.length x0 : Int) (List.length x1 : Int)) (List.length x2 : Int)) (List.length x3 : Int)) (List.length x4 : Int)) (List.length x5 : Int)) 80) = true then
 some (false)
 else
 g11L2 FUEL x0 x1 x2 x3 x4 x5 (iop .add .i64 (iop .add .i64 (iop .add .i64 (iop .add .i64 (iop .add .i64 (List.length x0 : Int) (List.length x1 : Int)) (List.length x2 : Int)) (List.length x3 : Int)) (List.length x4 : Int)) (List.length x5 : Int)) 0) := by kernel_rfl

end Go.Proofs.YtceopohbfkamiaaGreat
