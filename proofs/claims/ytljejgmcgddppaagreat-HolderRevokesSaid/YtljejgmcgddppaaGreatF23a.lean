/- Functions of the program, as what they compute. -/
import Derived.Test.YtljejgmcgddppaaGreatG23
namespace Go.Proofs.YtljejgmcgddppaaGreat
open Go Go.AM
set_option linter.unusedVariables false
set_option maxRecDepth 100000
noncomputable def F65 : Fn := ⟨44, [2, 3], [], [], 0, [], [], Tryz.f65, [.c (.int .i64)], [.c (.own false 129), .c (.bool)], []⟩
theorem ok65 : F65.S.Ok Tryz.prog 65 := F65.ok Tryz.func65 (by kernel_rfl) trivial
noncomputable def g65 (x0 : Int) : Option (LL × Bool) := F65.S.g [.i x0]
theorem g65_eq (x0 : Int) : g65 x0 =
 (if (cop .eql x0 1) = true then
 some (((([] : LL) ++ [[AV.val (.int .i64 0)]]) ++ [[AV.val (.int .i64 1)]]), true)
 else
 if (cop .eql x0 2) = true then
 some ((((((([] : LL) ++ [[AV.val (.int .i64 0)]]) ++ [[AV.val (.int .i64 2)]]) ++ [[AV.val (.int .i64 3)]]) ++ [[AV.val (.int .i64 4)]]) ++ [[AV.val (.int .i64 5)]]), true)
 else
 if (cop .eql x0 3) = true then
 some (((([] : LL) ++ [[AV.val (.int .i64 0)]]) ++ [[AV.val (.int .i64 2)]]), true)
 else
 if (cop .eql x0 7) = true then
 some (((([] : LL) ++ [[AV.val (.int .i64 0)]]) ++ [[AV.val (.int .i64 2)]]), true)
 else
 if (cop .eql x0 8) = true then
 some (((([] : LL) ++ [[AV.val (.int .i64 0)]]) ++ [[AV.val (.int .i64 2)]]), true)
 else
 if (cop .eql x0 9) = true then
 some (((([] : LL) ++ [[AV.val (.int .i64 0)]]) ++ [[AV.val (.int .i64 2)]]), true)
 else
 if (cop .eql x0 10) = true then
 some (((([] : LL) ++ [[AV.val (.int .i64 0)]]) ++ [[AV.val (.int .i64 2)]]), true)
 else
 if (cop .eql x0 11) = true then
 some (((([] : LL) ++ [[AV.val (.int .i64 0)]]) ++ [[AV.val (.int .i64 2)]]), true)
 else
 if (cop .eql x0 4) = true then
 some (((((([] : LL) ++ [[AV.val (.int .i64 0)]]) ++ [[AV.val (.int .i64 2)]]) ++ [[AV.val (.int .i64 6)]]) ++ [[AV.val (.int .i64 5)]]), true)
 else
 if (cop .eql x0 5) = true then
 some ((((([] : LL) ++ [[AV.val (.int .i64 0)]]) ++ [[AV.val (.int .i64 2)]]) ++ [[AV.val (.int .i64 3)]]), true)
 else
 if (cop .eql x0 6) = true then
 some ((((([] : LL) ++ [[AV.val (.int .i64 0)]]) ++ [[AV.val (.int .i64 2)]]) ++ [[AV.val (.int .i64 7)]]), true)
 else
 if (cop .eql x0 12) = true then
 some (((([] : LL) ++ [[AV.val (.int .i64 8)]]) ++ [[AV.val (.int .i64 9)]]), true)
 else
 if (cop .eql x0 13) = true then
 some (((([] : LL) ++ [[AV.val (.int .i64 8)]]) ++ [[AV.val (.int .i64 10)]]), true)
 else
 if (cop .eql x0 14) = true then
 some ((((((([] : LL) ++ [[AV.val (.int .i64 8)]]) ++ [[AV.val (.int .i64 11)]]) ++ [[AV.val (.int .i64 9)]]) ++ [[AV.val (.int .i64 12)]]) ++ [[AV.val (.int .i64 13)]]), true)
 else
 if (cop .eql x0 15) = true then
 some ((([] : LL) ++ [[AV.val (.int .i64 8)]]), true)
 else
 if (cop .eql x0 16) = true then
 some ((([] : LL) ++ [[AV.val (.int .i64 8)]]), true)
 else
 if (cop .eql x0 17) = true then
 some (((([] : LL) ++ [[AV.val (.int .i64 9)]]) ++ [[AV.val (.int .i64 14)]]), true)
 else
 some (([] : LL), false)) := by kernel_rfl
noncomputable def F66 : Fn := ⟨9, [2], [], [], 0, [], [], Tryz.f66, [.c (.int .i64)], [.c (.bool)], []⟩
theorem ok66 : F66.S.Ok Tryz.prog 66 := F66.ok Tryz.func66 (by kernel_rfl) trivial
noncomputable def g66 (x0 : Int) : Option (Bool) := F66.S.g [.i x0]
theorem g66_eq (x0 : Int) : g66 x0 =
 (if (cop .geq x0 0) = true then
 some ((cop .leq x0 1073741824))
 else
 some (false)) := by kernel_rfl
noncomputable def F67 : Fn := ⟨9, [2], [], [], 0, [], [], Tryz.f67, [.c (.int .i64)], [.c (.bool)], []⟩
theorem ok67 : F67.S.Ok Tryz.prog 67 := F67.ok Tryz.func67 (by kernel_rfl) trivial
noncomputable def g67 (x0 : Int) : Option (Bool) := F67.S.g [.i x0]
theorem g67_eq (x0 : Int) : g67 x0 =
 (if (cop .geq x0 0) = true then
 some ((cop .lss x0 32))
 else
 some (false)) := by kernel_rfl
noncomputable def F110 : Fn := ⟨9, [2], [], [], 0, [], [], Tryz.f110, [.c (.int .i64)], [.c (.bool)], []⟩
theorem ok110 : F110.S.Ok Tryz.prog 110 := F110.ok Tryz.func110 (by kernel_rfl) trivial
noncomputable def g110 (x0 : Int) : Option (Bool) := F110.S.g [.i x0]
theorem g110_eq (x0 : Int) : g110 x0 =
 (if (cop .geq x0 0) = true then
 some ((cop .lss x0 16))
 else
 some (false)) := by kernel_rfl
noncomputable def F120 : Fn := ⟨31, [2], [], [], 0, [], [], Tryz.f120, [.agg [.int .i64, .int .i64, .int .i64]], [.c (.bool)], []⟩
theorem ok120 : F120.S.Ok Tryz.prog 120 := F120.ok Tryz.func120 (by kernel_rfl) trivial
noncomputable def g120 (x0 x1 x2 : Int) : Option (Bool) := F120.S.g [.i x0, .i x1, .i x2]
theorem g120_eq (x0 x1 x2 : Int) : g120 x0 x1 x2 =
 (if (cop .geq x0 0) = true then
 if (cop .lss x0 32) = true then
 if (cop .geq x1 1) = true then
 if (cop .leq x1 1073741824) = true then
 if (cop .geq x2 0) = true then
 some ((cop .lss x2 8))
 else
 some (false)
 else
 some (false)
 else
 some (false)
 else
 some (false)
 else
 some (false)) := by kernel_rfl
noncomputable def F112 : Fn := ⟨10, [2], [], [], 0, [], [], Tryz.f112, [.agg [.int .i64, .int .i64, .int .i64]], [.c (.bool)], [(120, F120.S)]⟩
theorem ok112 : F112.S.Ok Tryz.prog 112 := F112.ok Tryz.func112 (by kernel_rfl) ⟨ok120, trivial⟩
noncomputable def g112 (x0 x1 x2 : Int) : Option (Bool) := F112.S.g [.i x0, .i x1, .i x2]
theorem g112_eq (x0 x1 x2 : Int) : g112 x0 x1 x2 =
 ((g120 x0 x1 x2).bind fun (r3 : Bool) =>
 if r3 = true then
 some ((cop .eql x2 0))
 else
 some (false)) := by kernel_rfl
noncomputable def F163 : Fn := ⟨26, [4], [(4, [(0, .c (.slice 3)), (1, .c (.slice 3)), (12, .c (.int .i64)), (13, .c (.int .i64))])], [], 0, [], [], Tryz.f163, [.c (.slice 3), .c (.slice 3)], [.c (.bool)], []⟩
theorem ok163 : F163.S.Ok Tryz.prog 163 := F163.ok Tryz.func163 (by kernel_rfl) trivial
noncomputable def g163 (x0 x1 : LL) : Option (Bool) := F163.S.g [.l x0, .l x1]
noncomputable def g163L0 (k : Nat) (x0 x1 : LL) (x2 x3 : Int) : Option (Bool) := F163.lp [1, 0] 0 r0 k [.l x0, .l x1, .i x2, .i x3]
theorem g163L0_eq (k : Nat) (x0 x1 : LL) (x2 x3 : Int) : g163L0 (k + 1) x0 x1 x2 x3 =
 (if (cop .lss x3 x2) = true then
 elemK x0 x3 [.int .i64, .int .i64, .int .i64] fun (r4 : Int × Int × Int) =>
 elemK x1 x3 [.int .i64, .int .i64, .int .i64] fun (r7 : Int × Int × Int) =>
 if (!((cop .eql r4.1 r7.1) && ((cop .eql r4.2.1 r7.2.1) && ((cop .eql r4.2.2 r7.2.2) && true)))) = true then
 some (false)
 else
 g163L0 k x0 x1 x2 (iop .add .i64 x3 1)
 else
 some (true)) := by kernel_rfl
theorem g163_eq (x0 x1 : LL) : g163 x0 x1 =
 (if (cop .neq (List.length x0 : Int) (List.length x1 : Int)) = true then
 some (false)
 else
 g163L0 FUEL x0 x1 (List.length x0 : Int) 0) := by kernel_rfl
noncomputable def F148 : Fn := ⟨24, [4], [], [], 0, [], [], Tryz.f148, [.agg hs8, .agg hs8], [.c (.bool)], [(163, F163.S)]⟩
theorem ok148 : F148.S.Ok Tryz.prog 148 := F148.ok Tryz.func148 (by kernel_rfl) ⟨ok163, trivial⟩
noncomputable def g148 (x0 x1 x2 : Int) (x3 : LL) (x4 x5 x6 x7 x8 x9 : Int) (x10 : Bool) (x11 x12 x13 : Int) (x14 : LL) (x15 x16 x17 x18 x19 x20 : Int) (x21 : Bool) : Option (Bool) := F148.S.g [.i x0, .i x1, .i x2, .l x3, .i x4, .i x5, .i x6, .i x7, .i x8, .i x9, .b x10, .i x11, .i x12, .i x13, .l x14, .i x15, .i x16, .i x17, .i x18, .i x19, .i x20, .b x21]
theorem g148_eq (x0 x1 x2 : Int) (x3 : LL) (x4 x5 x6 x7 x8 x9 : Int) (x10 : Bool) (x11 x12 x13 : Int) (x14 : LL) (x15 x16 x17 x18 x19 x20 : Int) (x21 : Bool) : g148 x0 x1 x2 x3 x4 x5 x6 x7 x8 x9 x10 x11 x12 x13 x14 x15 x16 x17 x18 x19 x20 x21 =
 (if ((cop .eql x0 x11) && ((cop .eql x1 x12) && ((cop .eql x2 x13) && true))) = true then
 if ((cop .eql x4 x15) && ((cop .eql x5 x16) && ((cop .eql x6 x17) && ((cop .eql x7 x18) && ((cop .eql x8 x19) && ((cop .eql x9 x20) && ((x10 == x21) && true))))))) = true then
 (g163 x3 x14).bind fun (r22 : Bool) =>
 some (r22)
 else
 some (false)
 else
 some (false)) := by kernel_rfl
noncomputable def F164 : Fn := ⟨38, [4], [], [], 0, [], [], Tryz.f164, [.c (.int .i64), .c (.int .i64)], [.c (.bool)], []⟩
theorem ok164 : F164.S.Ok Tryz.prog 164 := F164.ok Tryz.func164 (by kernel_rfl) trivial
noncomputable def g164 (x0 x1 : Int) : Option (Bool) := F164.S.g [.i x0, .i x1]
theorem g164_eq (x0 x1 : Int) : g164 x0 x1 =
 (if (cop .eql x0 1) = true then
 if (cop .geq x1 6) = true then
 some ((cop .leq x1 40))
 else
 some (false)
 else
 if (cop .eql x0 2) = true then
 if (cop .geq x1 12) = true then
 some ((cop .leq x1 40))
 else
 some (false)
 else
 if (cop .eql x0 3) = true then
 some ((cop .eql x1 12))
 else
 if (cop .eql x0 4) = true then
 some ((cop .eql x1 6))
 else
 if (cop .eql x0 5) = true then
 some ((cop .eql x1 10))
 else
 if (cop .eql x0 6) = true then
 some ((cop .eql x1 16))
 else
 some (false)) := by kernel_rfl
noncomputable def F166 : Fn := ⟨8, [2], [], [], 0, [], [], Tryz.f166, [.agg hs13], [.agg [.int .i64, .int .i64]], []⟩
theorem ok166 : F166.S.Ok Tryz.prog 166 := F166.ok Tryz.func166 (by kernel_rfl) trivial
noncomputable def g166 (x0 x1 x2 x3 x4 x5 : Int) (x6 : Bool) : Option (Int × Int) := F166.S.g [.i x0, .i x1, .i x2, .i x3, .i x4, .i x5, .b x6]
theorem g166_eq (x0 x1 x2 x3 x4 x5 : Int) (x6 : Bool) : g166 x0 x1 x2 x3 x4 x5 x6 =
 (some (x1, x2)) := by kernel_rfl
noncomputable def F165 : Fn := ⟨32, [2], [], [], 0, [], [], Tryz.f165, [.agg [.int .i64, .int .i64]], [.c (.bool)], []⟩
theorem ok165 : F165.S.Ok Tryz.prog 165 := F165.ok Tryz.func165 (by kernel_rfl) trivial
noncomputable def g165 (x0 x1 : Int) : Option (Bool) := F165.S.g [.i x0, .i x1]
theorem g165_eq (x0 x1 : Int) : g165 x0 x1 =
 (if (cop .lss x1 6) = true then
 some (false)
 else
 if (cop .gtr x1 40) = true then
 some (false)
 else
 if (cop .lss x0 0) = true then
 some (false)
 else
 reqK ((0 : Int) ≤ x1) <|
 reqK (((iop .shl .i64 1 x1) : Int) ≠ 0) <|
 if (cop .eql (iop .rem .i64 x0 (iop .shl .i64 1 x1)) 0) = true then
 some ((cop .leq x0 (iop .sub .i64 1099511627776 (iop .shl .i64 1 x1))))
 else
 some (false)) := by kernel_rfl
noncomputable def F167 : Fn := ⟨22, [4], [], [], 0, [], [], Tryz.f167, [.c (.int .i64), .c (.int .i64)], [.c (.bool)], []⟩
theorem ok167 : F167.S.Ok Tryz.prog 167 := F167.ok Tryz.func167 (by kernel_rfl) trivial
noncomputable def g167 (x0 x1 : Int) : Option (Bool) := F167.S.g [.i x0, .i x1]
theorem g167_eq (x0 x1 : Int) : g167 x0 x1 =
 (if (cop .eql x0 32) = true then
 if (cop .geq x1 0) = true then
 some ((cop .leq x1 1))
 else
 some (false)
 else
 if (cop .eql x0 39) = true then
 if (cop .geq x1 0) = true then
 some ((cop .leq x1 2))
 else
 some (false)
 else
 some (false)) := by kernel_rfl
noncomputable def F150 : Fn := ⟨55, [2], [], [], 0, [], [], Tryz.f150, [.agg hs13], [.c (.bool)], [(164, F164.S), (166, F166.S), (165, F165.S), (167, F167.S)]⟩
theorem ok150 : F150.S.Ok Tryz.prog 150 := F150.ok Tryz.func150 (by kernel_rfl) ⟨ok164, ⟨ok166, ⟨ok165, ⟨ok167, trivial⟩⟩⟩⟩
noncomputable def g150 (x0 x1 x2 x3 x4 x5 : Int) (x6 : Bool) : Option (Bool) := F150.S.g [.i x0, .i x1, .i x2, .i x3, .i x4, .i x5, .b x6]
theorem g150_eq (x0 x1 x2 x3 x4 x5 : Int) (x6 : Bool) : g150 x0 x1 x2 x3 x4 x5 x6 =
 ((g164 x0 x2).bind fun (r7 : Bool) =>
 if (!r7) = true then
 some (false)
 else
 (g166 x0 x1 x2 x3 x4 x5 x6).bind fun (r8 : Int × Int) =>
 (g165 r8.1 r8.2).bind fun (r10 : Bool) =>
 if (!r10) = true then
 some (false)
 else
 if (cop .lss x3 0) = true then
 some (false)
 else
 if (cop .gtr x3 7) = true then
 some (false)
 else
 if (cop .eql x0 3) = true then
 (g167 x4 x5).bind fun (r11 : Bool) =>
 if (!r11) = true then
 some (false)
 else
 if (!x6) = true then
 some (true)
 else
 if (cop .eql x0 1) = true then
 some (true)
 else
 some ((cop .eql x0 2))
 else
 if (cop .neq x4 0) = true then
 some (false)
 else
 if (cop .neq x5 0) = true then
 some (false)
 else
 if (!x6) = true then
 some (true)
 else
 if (cop .eql x0 1) = true then
 some (true)
 else
 some ((cop .eql x0 2))) := by kernel_rfl
noncomputable def F136 : Fn := ⟨19, [4], [(2, [(0, .c (.slice 3)), (3, .box [.int .i64, .int .i64, .int .i64]), (7, .c (.int .i64)), (8, .c (.int .i64))])], [], 0, [], [], Tryz.f136, [.c (.slice 3), .agg [.int .i64, .int .i64, .int .i64]], [.c (.int .i64)], []⟩
theorem ok136 : F136.S.Ok Tryz.prog 136 := F136.ok Tryz.func136 (by kernel_rfl) trivial
noncomputable def g136 (x0 : LL) (x1 x2 x3 : Int) : Option (Int) := F136.S.g [.l x0, .i x1, .i x2, .i x3]
noncomputable def g136L0 (k : Nat) (x0 : LL) (x1 x2 x3 x4 x5 : Int) : Option (Int) := F136.lp [0] 0 r0 k [.l x0, .i x1, .i x2, .i x3, .i x4, .i x5]
theorem g136L0_eq (k : Nat) (x0 : LL) (x1 x2 x3 x4 x5 : Int) : g136L0 (k + 1) x0 x1 x2 x3 x4 x5 =
 (if (cop .lss x5 x4) = true then
 elemK x0 x5 [.int .i64, .int .i64, .int .i64] fun (r6 : Int × Int × Int) =>
 if ((cop .eql x1 r6.1) && ((cop .eql x2 r6.2.1) && ((cop .eql x3 r6.2.2) && true))) = true then
 some (x5)
 else
 g136L0 k x0 x1 x2 x3 x4 (iop .add .i64 x5 1)
 else
 some ((-1))) := by kernel_rfl
theorem g136_eq (x0 : LL) (x1 x2 x3 : Int) : g136 x0 x1 x2 x3 =
 (g136L0 FUEL x0 x1 x2 x3 (List.length x0 : Int) 0) := by kernel_rfl
noncomputable def F76 : Fn := ⟨9, [4], [], [], 0, [], [], Tryz.f76, [.c (.slice 3), .agg [.int .i64, .int .i64, .int .i64]], [.c (.bool)], [(136, F136.S)]⟩
theorem ok76 : F76.S.Ok Tryz.prog 76 := F76.ok Tryz.func76 (by kernel_rfl) ⟨ok136, trivial⟩
noncomputable def g76 (x0 : LL) (x1 x2 x3 : Int) : Option (Bool) := F76.S.g [.l x0, .i x1, .i x2, .i x3]
theorem g76_eq (x0 : LL) (x1 x2 x3 : Int) : g76 x0 x1 x2 x3 =
 ((g136 x0 x1 x2 x3).bind fun (r4 : Int) =>
 some ((cop .geq r4 0))) := by kernel_rfl
noncomputable def F116 : Fn := ⟨47, [2], [(4, [(1, .box hs8), (22, .c (.slice 3)), (23, .c (.int .i64)), (24, .c (.int .i64))])], [], 0, [], [], Tryz.f116, [.agg hs8], [.c (.bool)], [(120, F120.S), (150, F150.S), (76, F76.S)]⟩
theorem ok116 : F116.S.Ok Tryz.prog 116 := F116.ok Tryz.func116 (by kernel_rfl) ⟨ok120, ⟨ok150, ⟨ok76, trivial⟩⟩⟩
noncomputable def g116 (x0 x1 x2 : Int) (x3 : LL) (x4 x5 x6 x7 x8 x9 : Int) (x10 : Bool) : Option (Bool) := F116.S.g [.i x0, .i x1, .i x2, .l x3, .i x4, .i x5, .i x6, .i x7, .i x8, .i x9, .b x10]
noncomputable def g116L0 (k : Nat) (x0 x1 x2 : Int) (x3 : LL) (x4 x5 x6 x7 x8 x9 : Int) (x10 : Bool) (x11 : LL) (x12 x13 : Int) : Option (Bool) := F116.lp [0, 1, 0, 1, 1, 0] 0 r0 k [.i x0, .i x1, .i x2, .l x3, .i x4, .i x5, .i x6, .i x7, .i x8, .i x9, .b x10, .l x11, .i x12, .i x13]
theorem g116L0_eq (k : Nat) (x0 x1 x2 : Int) (x3 : LL) (x4 x5 x6 x7 x8 x9 : Int) (x10 : Bool) (x11 : LL) (x12 x13 : Int) : g116L0 (k + 1) x0 x1 x2 x3 x4 x5 x6 x7 x8 x9 x10 x11 x12 x13 =
 (if (cop .lss x13 x12) = true then
 elemK x11 x13 [.int .i64, .int .i64, .int .i64] fun (r14 : Int × Int × Int) =>
 (g120 r14.1 r14.2.1 r14.2.2).bind fun (r17 : Bool) =>
 if (!r17) = true then
 some (false)
 else
 if ((cop .eql r14.1 x0) && ((cop .eql r14.2.1 x1) && ((cop .eql r14.2.2 x2) && true))) = true then
 some (false)
 else
 reqK ((0 : Int) ≤ x13) <|
 reqK ((x13 : Int) ≤ (List.length x3 : Int)) <|
 (g76 (List.take (Int.toNat x13) x3) r14.1 r14.2.1 r14.2.2).bind fun (r18 : Bool) =>
 if r18 = true then
 some (false)
 else
 g116L0 k x0 x1 x2 x3 x4 x5 x6 x7 x8 x9 x10 x11 x12 (iop .add .i64 x13 1)
 else
 some (true)) := by kernel_rfl
theorem g116_eq (x0 x1 x2 : Int) (x3 : LL) (x4 x5 x6 x7 x8 x9 : Int) (x10 : Bool) : g116 x0 x1 x2 x3 x4 x5 x6 x7 x8 x9 x10 =
 ((g120 x0 x1 x2).bind fun (r11 : Bool) =>
 if (!r11) = true then
 some (false)
 else
 (g150 x4 x5 x6 x7 x8 x9 x10).bind fun (r12 : Bool) =>
 if (!r12) = true then
 some (false)
 else
 if (cop .gtr (List.length x3 : Int) 8) = true then
 some (false)
 else
 g116L0 FUEL x0 x1 x2 x3 x4 x5 x6 x7 x8 x9 x10 x3 (List.length x3 : Int) 0) := by kernel_rfl
noncomputable def F111 : Fn := ⟨46, [2], [], [], 0, [], [], Tryz.f111, [.agg hs3], [.c (.bool)], [(112, F112.S), (110, F110.S), (148, F148.S), (116, F116.S)]⟩
theorem ok111 : F111.S.Ok Tryz.prog 111 := F111.ok Tryz.func111 (by kernel_rfl) ⟨ok112, ⟨ok110, ⟨ok148, ⟨ok116, trivial⟩⟩⟩⟩
noncomputable def g111 (x0 x1 x2 x3 x4 x5 x6 x7 x8 x9 x10 x11 x12 x13 x14 x15 x16 x17 x18 x19 : Int) (x20 : LL) (x21 x22 x23 x24 x25 x26 : Int) (x27 : Bool) : Option (Bool) := F111.S.g [.i x0, .i x1, .i x2, .i x3, .i x4, .i x5, .i x6, .i x7, .i x8, .i x9, .i x10, .i x11, .i x12, .i x13, .i x14, .i x15, .i x16, .i x17, .i x18, .i x19, .l x20, .i x21, .i x22, .i x23, .i x24, .i x25, .i x26, .b x27]
theorem g111_eq (x0 x1 x2 x3 x4 x5 x6 x7 x8 x9 x10 x11 x12 x13 x14 x15 x16 x17 x18 x19 : Int) (x20 : LL) (x21 x22 x23 x24 x25 x26 : Int) (x27 : Bool) : g111 x0 x1 x2 x3 x4 x5 x6 x7 x8 x9 x10 x11 x12 x13 x14 x15 x16 x17 x18 x19 x20 x21 x22 x23 x24 x25 x26 x27 =
 ((g112 x0 x1 x2).bind fun (r28 : Bool) =>
 if (!r28) = true then
 some (false)
 else
 if (cop .lss x3 1) = true then
 some (false)
 else
 if (cop .gtr x3 6) = true then
 some (false)
 else
 (g110 x15).bind fun (r29 : Bool) =>
 if (!r29) = true then
 some (false)
 else
 if (cop .neq x16 32) = true then
 if (cop .neq x16 39) = true then
 some (false)
 else
 if (cop .eql x3 1) = true then
 (g148 x17 x18 x19 x20 x21 x22 x23 x24 x25 x26 x27 0 0 0 ([] : LL) 0 0 0 0 0 0 false).bind fun (r30 : Bool) =>
 some (r30)
 else
 (g116 x17 x18 x19 x20 x21 x22 x23 x24 x25 x26 x27).bind fun (r30 : Bool) =>
 some (r30)
 else
 if (cop .eql x3 1) = true then
 (g148 x17 x18 x19 x20 x21 x22 x23 x24 x25 x26 x27 0 0 0 ([] : LL) 0 0 0 0 0 0 false).bind fun (r30 : Bool) =>
 some (r30)
 else
 (g116 x17 x18 x19 x20 x21 x22 x23 x24 x25 x26 x27).bind fun (r30 : Bool) =>
 some (r30)) := by kernel_rfl
noncomputable def F113 : Fn := ⟨9, [2], [], [], 0, [], [], Tryz.f113, [.c (.int .i64)], [.c (.bool)], []⟩
theorem ok113 : F113.S.Ok Tryz.prog 113 := F113.ok Tryz.func113 (by kernel_rfl) trivial
noncomputable def g113 (x0 : Int) : Option (Bool) := F113.S.g [.i x0]
theorem g113_eq (x0 : Int) : g113 x0 =
 (if (cop .geq x0 0) = true then
 some ((cop .leq x0 99))
 else
 some (false)) := by kernel_rfl
noncomputable def F117 : Fn := ⟨9, [2], [], [], 0, [], [], Tryz.f117, [.c (.int .i64)], [.c (.bool)], []⟩
theorem ok117 : F117.S.Ok Tryz.prog 117 := F117.ok Tryz.func117 (by kernel_rfl) trivial
noncomputable def g117 (x0 : Int) : Option (Bool) := F117.S.g [.i x0]
theorem g117_eq (x0 : Int) : g117 x0 =
 (if (cop .geq x0 0) = true then
 some ((cop .lss x0 64))
 else
 some (false)) := by kernel_rfl
noncomputable def F168 : Fn := ⟨19, [4], [(2, [(0, .c (.slice 1)), (1, .c (.int .i64)), (7, .c (.int .i64)), (8, .c (.int .i64))])], [], 0, [], [], Tryz.f168, [.c (.slice 1), .c (.int .i64)], [.c (.int .i64)], []⟩
theorem ok168 : F168.S.Ok Tryz.prog 168 := F168.ok Tryz.func168 (by kernel_rfl) trivial
noncomputable def g168 (x0 : LL) (x1 : Int) : Option (Int) := F168.S.g [.l x0, .i x1]
noncomputable def g168L0 (k : Nat) (x0 : LL) (x1 x2 x3 : Int) : Option (Int) := F168.lp [0] 0 r0 k [.l x0, .i x1, .i x2, .i x3]
theorem g168L0_eq (k : Nat) (x0 : LL) (x1 x2 x3 : Int) : g168L0 (k + 1) x0 x1 x2 x3 =
 (if (cop .lss x3 x2) = true then
 elemK x0 x3 [.int .i64] fun (r4 : Int) =>
 if (cop .eql x1 r4) = true then
 some (x3)
 else
 g168L0 k x0 x1 x2 (iop .add .i64 x3 1)
 else
 some ((-1))) := by kernel_rfl
theorem g168_eq (x0 : LL) (x1 : Int) : g168 x0 x1 =
 (g168L0 FUEL x0 x1 (List.length x0 : Int) 0) := by kernel_rfl
noncomputable def F153 : Fn := ⟨9, [4], [], [], 0, [], [], Tryz.f153, [.c (.slice 1), .c (.int .i64)], [.c (.bool)], [(168, F168.S)]⟩
theorem ok153 : F153.S.Ok Tryz.prog 153 := F153.ok Tryz.func153 (by kernel_rfl) ⟨ok168, trivial⟩
noncomputable def g153 (x0 : LL) (x1 : Int) : Option (Bool) := F153.S.g [.l x0, .i x1]
theorem g153_eq (x0 : LL) (x1 : Int) : g153 x0 x1 =
 ((g168 x0 x1).bind fun (r2 : Int) =>
 some ((cop .geq r2 0))) := by kernel_rfl
noncomputable def F154 : Fn := ⟨6, [2], [], [], 0, [], [], Tryz.f154, [.c (.int .i64)], [.c (.bool)], [(67, F67.S)]⟩
theorem ok154 : F154.S.Ok Tryz.prog 154 := F154.ok Tryz.func154 (by kernel_rfl) ⟨ok67, trivial⟩
noncomputable def g154 (x0 : Int) : Option (Bool) := F154.S.g [.i x0]
theorem g154_eq (x0 : Int) : g154 x0 =
 ((g67 x0).bind fun (r1 : Bool) =>
 some ((!r1))) := by kernel_rfl
noncomputable def F152c154 : Fn := ⟨19, [4], [(2, [(0, .c (.slice 1)), (1, .clo 154 []), (7, .c (.int .i64)), (8, .c (.int .i64))])], [], 0, [], [], Tryz.f152, [.c (.slice 1), .clo 154 []], [.c (.int .i64)], [(154, F154.S)]⟩
theorem ok152c154 : F152c154.S.Ok Tryz.prog 152 := F152c154.ok Tryz.func152 (by kernel_rfl) ⟨ok154, trivial⟩
noncomputable def g152c154 (x0 : LL) : Option (Int) := F152c154.S.g [.l x0]
noncomputable def g152c154L0 (k : Nat) (x0 : LL) (x1 x2 : Int) : Option (Int) := F152c154.lp [0] 0 r0 k [.l x0, .i x1, .i x2]
theorem g152c154L0_eq (k : Nat) (x0 : LL) (x1 x2 : Int) : g152c154L0 (k + 1) x0 x1 x2 =
 (if (cop .lss x2 x1) = true then
 elemK x0 x2 [.int .i64] fun (r3 : Int) =>
 (g154 r3).bind fun (r4 : Bool) =>
 if r4 = true then
 some (x2)
 else
 g152c154L0 k x0 x1 (iop .add .i64 x2 1)
 else
 some ((-1))) := by kernel_rfl
theorem g152c154_eq (x0 : LL) : g152c154 x0 =
 (g152c154L0 FUEL x0 (List.length x0 : Int) 0) := by kernel_rfl
noncomputable def F121c154 : Fn := ⟨9, [4], [], [], 0, [], [], Tryz.f121, [.c (.slice 1), .clo 154 []], [.c (.bool)], [(152, F152c154.S)]⟩
theorem ok121c154 : F121c154.S.Ok Tryz.prog 121 := F121c154.ok Tryz.func121 (by kernel_rfl) ⟨ok152c154, trivial⟩
noncomputable def g121c154 (x0 : LL) : Option (Bool) := F121c154.S.g [.l x0]
theorem g121c154_eq (x0 : LL) : g121c154 x0 =
 ((g152c154 x0).bind fun (r1 : Int) =>
 some ((cop .geq r1 0))) := by kernel_rfl
noncomputable def F126 : Fn := ⟨45, [2], [(4, [(1, .box [.int .i64, .slice 1, .slice 1]), (22, .c (.slice 1)), (23, .c (.int .i64)), (24, .c (.int .i64))])], [], 0, [], [], Tryz.f126, [.agg [.int .i64, .slice 1, .slice 1]], [.c (.bool)], [(66, F66.S), (67, F67.S), (153, F153.S), (121, F121c154.S)]⟩
theorem ok126 : F126.S.Ok Tryz.prog 126 := F126.ok Tryz.func126 (by kernel_rfl) ⟨ok66, ⟨ok67, ⟨ok153, ⟨ok121c154, trivial⟩⟩⟩⟩
noncomputable def g126 (x0 : Int) (x1 x2 : LL) : Option (Bool) := F126.S.g [.i x0, .l x1, .l x2]
noncomputable def g126L0 (k : Nat) (x0 : Int) (x1 x2 x3 : LL) (x4 x5 : Int) : Option (Bool) := F126.lp [0, 1, 1, 1, 0] 0 r0 k [.i x0, .l x1, .l x2, .l x3, .i x4, .i x5]
theorem g126L0_eq (k : Nat) (x0 : Int) (x1 x2 x3 : LL) (x4 x5 : Int) : g126L0 (k + 1) x0 x1 x2 x3 x4 x5 =
 (if (cop .lss x5 x4) = true then
 elemK x3 x5 [.int .i64] fun (r6 : Int) =>
 (g67 r6).bind fun (r7 : Bool) =>
 if (!r7) = true then
 some (false)
 else
 reqK ((0 : Int) ≤ x5) <|
 reqK ((x5 : Int) ≤ (List.length x1 : Int)) <|
 (g153 (List.take (Int.toNat x5) x1) r6).bind fun (r8 : Bool) =>
 if r8 = true then
 some (false)
 else
 g126L0 k x0 x1 x2 x3 x4 (iop .add .i64 x5 1)
 else
 (g121c154 x2).bind fun (r6 : Bool) =>
 some ((!r6))) := by kernel_rfl
theorem g126_eq (x0 : Int) (x1 x2 : LL) : g126 x0 x1 x2 =
 ((g66 x0).bind fun (r3 : Bool) =>
 if (!r3) = true then
 some (false)
 else
 if (cop .gtr (List.length x1 : Int) 32) = true then
 some (false)
 else
 if (cop .gtr (List.length x2 : Int) 16) = true then
 some (false)
 else
 g126L0 FUEL x0 x1 x2 x1 (List.length x1 : Int) 0) := by kernel_rfl
noncomputable def F72 : Fn := ⟨8, [2], [], [], 0, [], [], Tryz.f72, [.agg hs6], [.c (.bool)], []⟩
theorem ok72 : F72.S.Ok Tryz.prog 72 := F72.ok Tryz.func72 (by kernel_rfl) trivial
noncomputable def g72 (x0 x1 x2 : Int) (x3 : LL) (x4 x5 x6 x7 x8 x9 : Int) (x10 : Bool) (x11 x12 x13 x14 : Int) : Option (Bool) := F72.S.g [.i x0, .i x1, .i x2, .l x3, .i x4, .i x5, .i x6, .i x7, .i x8, .i x9, .b x10, .i x11, .i x12, .i x13, .i x14]
theorem g72_eq (x0 x1 x2 : Int) (x3 : LL) (x4 x5 x6 x7 x8 x9 : Int) (x10 : Bool) (x11 x12 x13 x14 : Int) : g72 x0 x1 x2 x3 x4 x5 x6 x7 x8 x9 x10 x11 x12 x13 x14 =
 (some (((cop .eql x0 0) && ((cop .eql x1 0) && ((cop .eql x2 0) && true))))) := by kernel_rfl
noncomputable def F169 : Fn := ⟨43, [2], [], [], 0, [], [], Tryz.f169, [.agg hs6], [.c (.bool)], [(72, F72.S), (148, F148.S), (116, F116.S), (120, F120.S)]⟩
theorem ok169 : F169.S.Ok Tryz.prog 169 := F169.ok Tryz.func169 (by kernel_rfl) ⟨ok72, ⟨ok148, ⟨ok116, ⟨ok120, trivial⟩⟩⟩⟩
noncomputable def g169 (x0 x1 x2 : Int) (x3 : LL) (x4 x5 x6 x7 x8 x9 : Int) (x10 : Bool) (x11 x12 x13 x14 : Int) : Option (Bool) := F169.S.g [.i x0, .i x1, .i x2, .l x3, .i x4, .i x5, .i x6, .i x7, .i x8, .i x9, .b x10, .i x11, .i x12, .i x13, .i x14]
theorem g169_eq (x0 x1 x2 : Int) (x3 : LL) (x4 x5 x6 x7 x8 x9 : Int) (x10 : Bool) (x11 x12 x13 x14 : Int) : g169 x0 x1 x2 x3 x4 x5 x6 x7 x8 x9 x10 x11 x12 x13 x14 =
 (if (cop .lss x11 0) = true then
 some (false)
 else
 if (cop .gtr x11 1073741824) = true then
 some (false)
 else
 (g72 x0 x1 x2 x3 x4 x5 x6 x7 x8 x9 x10 x11 x12 x13 x14).bind fun (r15 : Bool) =>
 if r15 = true then
 (g148 x0 x1 x2 x3 x4 x5 x6 x7 x8 x9 x10 0 0 0 ([] : LL) 0 0 0 0 0 0 false).bind fun (r16 : Bool) =>
 if r16 = true then
 some (((cop .eql x12 0) && ((cop .eql x13 0) && ((cop .eql x14 0) && true))))
 else
 some (false)
 else
 (g116 x0 x1 x2 x3 x4 x5 x6 x7 x8 x9 x10).bind fun (r16 : Bool) =>
 if r16 = true then
 if ((cop .eql x12 0) && ((cop .eql x13 0) && ((cop .eql x14 0) && true))) = true then
 some (true)
 else
 (g120 x12 x13 x14).bind fun (r17 : Bool) =>
 if r17 = true then
 some ((cop .eql x14 0))
 else
 some (false)
 else
 some (false)) := by kernel_rfl
noncomputable def F134 : Fn := ⟨27, [4, 5], [(2, [(3, .box [.int .i64, .int .i64, .int .i64]), (8, .c (.slice 15)), (9, .c (.int .i64)), (10, .c (.int .i64))])], [], 0, [], [], Tryz.f134, [.c (.slice 15), .agg [.int .i64, .int .i64, .int .i64]], [.c (.int .i64), .c (.bool)], [(72, F72.S)]⟩
theorem ok134 : F134.S.Ok Tryz.prog 134 := F134.ok Tryz.func134 (by kernel_rfl) ⟨ok72, trivial⟩
noncomputable def g134 (x0 : LL) (x1 x2 x3 : Int) : Option (Int × Bool) := F134.S.g [.l x0, .i x1, .i x2, .i x3]
noncomputable def g134L0 (k : Nat) (x0 x1 x2 : Int) (x3 : LL) (x4 x5 : Int) : Option (Int × Bool) := F134.lp [0] 0 r0 k [.i x0, .i x1, .i x2, .l x3, .i x4, .i x5]
theorem g134L0_eq (k : Nat) (x0 x1 x2 : Int) (x3 : LL) (x4 x5 : Int) : g134L0 (k + 1) x0 x1 x2 x3 x4 x5 =
 (if (cop .lss x5 x4) = true then
 elemK x3 x5 hs6 fun (r6 : Qt11) =>
 (g72 r6.1 r6.2.1 r6.2.2.1 r6.2.2.2.1 r6.2.2.2.2.1 r6.2.2.2.2.2.1 r6.2.2.2.2.2.2.1 r6.2.2.2.2.2.2.2.1 r6.2.2.2.2.2.2.2.2.1 r6.2.2.2.2.2.2.2.2.2.1 r6.2.2.2.2.2.2.2.2.2.2.1 r6.2.2.2.2.2.2.2.2.2.2.2.1 (d4 (d8 r6)).1 (d4 (d8 r6)).2.1 (d2 (d4 (d8 r6)))).bind fun (r21 : Bool) =>
 if (!r21) = true then
 if ((cop .eql r6.1 x0) && ((cop .eql r6.2.1 x1) && ((cop .eql r6.2.2.1 x2) && true))) = true then
 some (x5, true)
 else
 g134L0 k x0 x1 x2 x3 x4 (iop .add .i64 x5 1)
 else
 g134L0 k x0 x1 x2 x3 x4 (iop .add .i64 x5 1)
 else
 some (0, false)) := by kernel_rfl
theorem g134_eq (x0 : LL) (x1 x2 x3 : Int) : g134 x0 x1 x2 x3 =
 (g134L0 FUEL x1 x2 x3 x0 (List.length x0 : Int) 0) := by kernel_rfl
noncomputable def F155 : Fn := ⟨32, [2], [(4, [(0, .c (.slice 15)), (10, .c (.slice 15)), (11, .c (.int .i64)), (12, .c (.int .i64))])], [], 0, [], [], Tryz.f155, [.c (.slice 15)], [.c (.bool)], [(169, F169.S), (134, F134.S)]⟩
theorem ok155 : F155.S.Ok Tryz.prog 155 := F155.ok Tryz.func155 (by kernel_rfl) ⟨ok169, ⟨ok134, trivial⟩⟩
noncomputable def g155 (x0 : LL) : Option (Bool) := F155.S.g [.l x0]
noncomputable def g155L0 (k : Nat) (x0 x1 : LL) (x2 x3 : Int) : Option (Bool) := F155.lp [1, 0] 0 r0 k [.l x0, .l x1, .i x2, .i x3]
theorem g155L0_eq (k : Nat) (x0 x1 : LL) (x2 x3 : Int) : g155L0 (k + 1) x0 x1 x2 x3 =
 (if (cop .lss x3 x2) = true then
 elemK x1 x3 hs6 fun (r4 : Qt11) =>
 (g169 r4.1 r4.2.1 r4.2.2.1 r4.2.2.2.1 r4.2.2.2.2.1 r4.2.2.2.2.2.1 r4.2.2.2.2.2.2.1 r4.2.2.2.2.2.2.2.1 r4.2.2.2.2.2.2.2.2.1 r4.2.2.2.2.2.2.2.2.2.1 r4.2.2.2.2.2.2.2.2.2.2.1 r4.2.2.2.2.2.2.2.2.2.2.2.1 (d4 (d8 r4)).1 (d4 (d8 r4)).2.1 (d2 (d4 (d8 r4)))).bind fun (r19 : Bool) =>
 if (!r19) = true then
 some (false)
 else
 reqK ((0 : Int) ≤ x3) <|
 reqK ((x3 : Int) ≤ (List.length x0 : Int)) <|
 (g134 (List.take (Int.toNat x3) x0) r4.1 r4.2.1 r4.2.2.1).bind fun (r20 : Int × Bool) =>
 if r20.2 = true then
 some (false)
 else
 g155L0 k x0 x1 x2 (iop .add .i64 x3 1)
 else
 some (true)) := by kernel_rfl
theorem g155_eq (x0 : LL) : g155 x0 =
 (if (cop .gtr (List.length x0 : Int) 64) = true then
 some (false)
 else
 g155L0 FUEL x0 x0 (List.length x0 : Int) 0) := by kernel_rfl
noncomputable def F171 : Fn := ⟨6, [2], [], [], 0, [], [], Tryz.f171, [.agg hs3], [.c (.bool)], [(111, F111.S)]⟩
theorem ok171 : F171.S.Ok Tryz.prog 171 := F171.ok Tryz.func171 (by kernel_rfl) ⟨ok111, trivial⟩
noncomputable def g171 (x0 x1 x2 x3 x4 x5 x6 x7 x8 x9 x10 x11 x12 x13 x14 x15 x16 x17 x18 x19 : Int) (x20 : LL) (x21 x22 x23 x24 x25 x26 : Int) (x27 : Bool) : Option (Bool) := F171.S.g [.i x0, .i x1, .i x2, .i x3, .i x4, .i x5, .i x6, .i x7, .i x8, .i x9, .i x10, .i x11, .i x12, .i x13, .i x14, .i x15, .i x16, .i x17, .i x18, .i x19, .l x20, .i x21, .i x22, .i x23, .i x24, .i x25, .i x26, .b x27]
theorem g171_eq (x0 x1 x2 x3 x4 x5 x6 x7 x8 x9 x10 x11 x12 x13 x14 x15 x16 x17 x18 x19 : Int) (x20 : LL) (x21 x22 x23 x24 x25 x26 : Int) (x27 : Bool) : g171 x0 x1 x2 x3 x4 x5 x6 x7 x8 x9 x10 x11 x12 x13 x14 x15 x16 x17 x18 x19 x20 x21 x22 x23 x24 x25 x26 x27 =
 ((g111 x0 x1 x2 x3 x4 x5 x6 x7 x8 x9 x10 x11 x12 x13 x14 x15 x16 x17 x18 x19 x20 x21 x22 x23 x24 x25 x26 x27).bind fun (r28 : Bool) =>
 some ((!r28))) := by kernel_rfl
noncomputable def F184c171 : Fn := ⟨19, [4], [(2, [(0, .c (.slice 28)), (1, .clo 171 []), (7, .c (.int .i64)), (8, .c (.int .i64))])], [], 0, [], [], Tryz.f184, [.c (.slice 28), .clo 171 []], [.c (.int .i64)], [(171, F171.S)]⟩
theorem ok184c171 : F184c171.S.Ok Tryz.prog 184 := F184c171.ok Tryz.func184 (by kernel_rfl) ⟨ok171, trivial⟩
noncomputable def g184c171 (x0 : LL) : Option (Int) := F184c171.S.g [.l x0]
noncomputable def g184c171L0 (k : Nat) (x0 : LL) (x1 x2 : Int) : Option (Int) := F184c171.lp [0] 0 r0 k [.l x0, .i x1, .i x2]
theorem g184c171L0_eq (k : Nat) (x0 : LL) (x1 x2 : Int) : g184c171L0 (k + 1) x0 x1 x2 =
 (if (cop .lss x2 x1) = true then
 elemK x0 x2 hs3 fun (r3 : Qt5) =>
 (g171 r3.1 r3.2.1 r3.2.2.1 r3.2.2.2.1 r3.2.2.2.2.1 r3.2.2.2.2.2.1 r3.2.2.2.2.2.2.1 r3.2.2.2.2.2.2.2.1 r3.2.2.2.2.2.2.2.2.1 r3.2.2.2.2.2.2.2.2.2.1 r3.2.2.2.2.2.2.2.2.2.2.1 r3.2.2.2.2.2.2.2.2.2.2.2.1 (d4 (d8 r3)).1 (d4 (d8 r3)).2.1 (d2 (d4 (d8 r3))).1 (d2 (d4 (d8 r3))).2.1 (d16 r3).1 (d16 r3).2.1 (d2 (d16 r3)).1 (d2 (d16 r3)).2.1 (d4 (d16 r3)).1 (d4 (d16 r3)).2.1 (d2 (d4 (d16 r3))).1 (d2 (d4 (d16 r3))).2.1 (d8 (d16 r3)).1 (d8 (d16 r3)).2.1 (d2 (d8 (d16 r3))).1 (d2 (d8 (d16 r3))).2).bind fun (r31 : Bool) =>
 if r31 = true then
 some (x2)
 else
 g184c171L0 k x0 x1 (iop .add .i64 x2 1)
 else
 some ((-1))) := by kernel_rfl
theorem g184c171_eq (x0 : LL) : g184c171 x0 =
 (g184c171L0 FUEL x0 (List.length x0 : Int) 0) := by kernel_rfl
noncomputable def F170c171 : Fn := ⟨9, [4], [], [], 0, [], [], Tryz.f170, [.c (.slice 28), .clo 171 []], [.c (.bool)], [(184, F184c171.S)]⟩
theorem ok170c171 : F170c171.S.Ok Tryz.prog 170 := F170c171.ok Tryz.func170 (by kernel_rfl) ⟨ok184c171, trivial⟩
noncomputable def g170c171 (x0 : LL) : Option (Bool) := F170c171.S.g [.l x0]
theorem g170c171_eq (x0 : LL) : g170c171 x0 =
 ((g184c171 x0).bind fun (r1 : Int) =>
 some ((cop .geq r1 0))) := by kernel_rfl
noncomputable def F190 : Fn := ⟨6, [2], [], [], 0, [], [], Tryz.f190, [.c (.int .i64)], [.c (.bool)], []⟩
theorem ok190 : F190.S.Ok Tryz.prog 190 := F190.ok Tryz.func190 (by kernel_rfl) trivial
noncomputable def g190 (x0 : Int) : Option (Bool) := F190.S.g [.i x0]
theorem g190_eq (x0 : Int) : g190 x0 =
 (some ((cop .neq x0 x0))) := by kernel_rfl
noncomputable def F189 : Fn := ⟨20, [4], [], [], 0, [], [], Tryz.f189, [.c (.int .i64), .c (.int .i64)], [.c (.int .i64)], [(190, F190.S)]⟩
theorem ok189 : F189.S.Ok Tryz.prog 189 := F189.ok Tryz.func189 (by kernel_rfl) ⟨ok190, trivial⟩
noncomputable def g189 (x0 x1 : Int) : Option (Int) := F189.S.g [.i x0, .i x1]
theorem g189_eq (x0 x1 : Int) : g189 x0 x1 =
 ((g190 x0).bind fun (r2 : Bool) =>
 (g190 x1).bind fun (r3 : Bool) =>
 if r2 = true then
 if r3 = true then
 some (0)
 else
 some ((-1))
 else
 if r3 = true then
 some (1)
 else
 if (cop .lss x0 x1) = true then
 some ((-1))
 else
 if (cop .gtr x0 x1) = true then
 some (1)
 else
 some (0)) := by kernel_rfl
noncomputable def F188 : Fn := ⟨18, [2], [(3, [(3, .c (.int .i64)), (6, .c (.slice 1)), (7, .c (.int .i64)), (8, .c (.int .i64))])], [], 0, [], [], Tryz.f188, [.c (.slice 1)], [.c (.int .i64)], []⟩
theorem ok188 : F188.S.Ok Tryz.prog 188 := F188.ok Tryz.func188 (by kernel_rfl) trivial
noncomputable def g188 (x0 : LL) : Option (Int) := F188.S.g [.l x0]
noncomputable def g188L0 (k : Nat) (x0 : Int) (x1 : LL) (x2 x3 : Int) : Option (Int) := F188.lp [0] 0 r0 k [.i x0, .l x1, .i x2, .i x3]
theorem g188L0_eq (k : Nat) (x0 : Int) (x1 : LL) (x2 x3 : Int) : g188L0 (k + 1) x0 x1 x2 x3 =
 (if (cop .lss x3 x2) = true then
 elemK x1 x3 [.int .i64] fun (r4 : Int) =>
 if (cop .neq r4 x0) = true then
 some (r4)
 else
 g188L0 k x0 x1 x2 (iop .add .i64 x3 1)
 else
 some (x0)) := by kernel_rfl
theorem g188_eq (x0 : LL) : g188 x0 =
 (g188L0 FUEL 0 x0 (List.length x0 : Int) 0) := by kernel_rfl
noncomputable def F185 : Fn := ⟨22, [4], [], [], 0, [], [], Tryz.f185, [.agg [.int .i64, .int .i64, .int .i64], .agg [.int .i64, .int .i64, .int .i64]], [.c (.int .i64)], [(189, F189.S), (188, F188.S)]⟩
theorem ok185 : F185.S.Ok Tryz.prog 185 := F185.ok Tryz.func185 (by kernel_rfl) ⟨ok189, ⟨ok188, trivial⟩⟩
noncomputable def g185 (x0 x1 x2 x3 x4 x5 : Int) : Option (Int) := F185.S.g [.i x0, .i x1, .i x2, .i x3, .i x4, .i x5]
theorem g185_eq (x0 x1 x2 x3 x4 x5 : Int) : g185 x0 x1 x2 x3 x4 x5 =
 ((g189 x0 x3).bind fun (r6 : Int) =>
 (g189 x1 x4).bind fun (r7 : Int) =>
 (g189 x2 x5).bind fun (r8 : Int) =>
 (g188 (((([] : LL) ++ [[AV.val (.int .i64 r6)]]) ++ [[AV.val (.int .i64 r7)]]) ++ [[AV.val (.int .i64 r8)]])).bind fun (r9 : Int) =>
 some (r9)) := by kernel_rfl
noncomputable def F173 : Fn := ⟨9, [4], [], [], 0, [], [], Tryz.f173, [.agg [.int .i64, .int .i64, .int .i64], .agg [.int .i64, .int .i64, .int .i64]], [.c (.bool)], [(185, F185.S)]⟩
theorem ok173 : F173.S.Ok Tryz.prog 173 := F173.ok Tryz.func173 (by kernel_rfl) ⟨ok185, trivial⟩
noncomputable def g173 (x0 x1 x2 x3 x4 x5 : Int) : Option (Bool) := F173.S.g [.i x0, .i x1, .i x2, .i x3, .i x4, .i x5]
theorem g173_eq (x0 x1 x2 x3 x4 x5 : Int) : g173 x0 x1 x2 x3 x4 x5 =
 ((g185 x0 x1 x2 x3 x4 x5).bind fun (r6 : Int) =>
 some ((cop .lss r6 0))) := by kernel_rfl
noncomputable def F172 : Fn := ⟨17, [5], [], [2], 0, [], [], Tryz.f172, [.c (.int .i64), .c (.int .i64), .box [.slice 28]], [.c (.bool)], [(173, F173.S)]⟩
theorem ok172 : F172.S.Ok Tryz.prog 172 := F172.ok Tryz.func172 (by kernel_rfl) ⟨ok173, trivial⟩
noncomputable def g172 (x0 x1 : Int) (x2 : LL) : Option (Bool × LL) := F172.S.g [.i x0, .i x1, .l x2]
theorem g172_eq (x0 x1 : Int) (x2 : LL) : g172 x0 x1 x2 =
 (elemK x2 x0 hs3 fun (r3 : Qt5) =>
 elemK x2 x1 hs3 fun (r31 : Qt5) =>
 (g173 r3.1 r3.2.1 r3.2.2.1 r31.1 r31.2.1 r31.2.2.1).bind fun (r59 : Bool) =>
 some (r59, x2)) := by kernel_rfl
noncomputable def F123c172 : Fn := ⟨17, [4], [(2, [(0, .c (.int .i64)), (1, .clo 172 [17]), (5, .c (.int .i64)), (17, .gbox [.slice 28])])], [], 1, [], [], Tryz.f123, [.c (.int .i64), .clo 172 [17], .dead, .dead, .dead, .dead, .dead, .dead, .dead, .dead, .dead, .dead, .dead, .dead, .dead, .dead, .dead, .gbox [.slice 28]], [.c (.bool)], [(172, F172.S)]⟩
theorem ok123c172 : F123c172.S.Ok Tryz.prog 123 := F123c172.ok Tryz.func123 (by kernel_rfl) ⟨ok172, trivial⟩
noncomputable def g123c172 (x0 : Int) (x1 : LL) : Option (Bool × LL) := F123c172.S.g [.i x0, .l x1]
noncomputable def g123c172L0 (k : Nat) (x0 x1 : Int) (x2 : LL) : Option (Bool × LL) := F123c172.lp [0] 0 r0 k [.i x0, .i x1, .l x2]
theorem g123c172L0_eq (k : Nat) (x0 x1 : Int) (x2 : LL) : g123c172L0 (k + 1) x0 x1 x2 =
 (if (cop .lss x1 x0) = true then
 (g172 (iop .sub .i64 x1 1) x1 x2).bind fun (r3 : Bool × LL) =>
 if (!r3.1) = true then
 some (false, r3.2)
 else
 g123c172L0 k x0 (iop .add .i64 x1 1) r3.2
 else
 some (true, x2)) := by kernel_rfl
theorem g123c172_eq (x0 : Int) (x1 : LL) : g123c172 x0 x1 =
 (g123c172L0 FUEL x0 1 x1) := by kernel_rfl
noncomputable def F156 : Fn := ⟨12, [2], [], [], 0, [], [], Tryz.f156, [.c (.slice 28)], [.c (.bool)], [(170, F170c171.S), (123, F123c172.S)]⟩
theorem ok156 : F156.S.Ok Tryz.prog 156 := F156.ok Tryz.func156 (by kernel_rfl) ⟨ok170c171, ⟨ok123c172, trivial⟩⟩
noncomputable def g156 (x0 : LL) : Option (Bool) := F156.S.g [.l x0]
theorem g156_eq (x0 : LL) : g156 x0 =
 ((g170c171 x0).bind fun (r1 : Bool) =>
 if (!r1) = true then
 (g123c172 (List.length x0 : Int) x0).bind fun (r2 : Bool × LL) =>
 some (r2.1)
 else
 some (false)) := by kernel_rfl
noncomputable def F175 : Fn := ⟨13, [2], [], [], 0, [], [], Tryz.f175, [.agg [.int .i64, .int .i64, .int .i64, .int .i64]], [.c (.bool)], [(110, F110.S), (112, F112.S)]⟩
theorem ok175 : F175.S.Ok Tryz.prog 175 := F175.ok Tryz.func175 (by kernel_rfl) ⟨ok110, ⟨ok112, trivial⟩⟩
noncomputable def g175 (x0 x1 x2 x3 : Int) : Option (Bool) := F175.S.g [.i x0, .i x1, .i x2, .i x3]
theorem g175_eq (x0 x1 x2 x3 : Int) : g175 x0 x1 x2 x3 =
 ((g110 x0).bind fun (r4 : Bool) =>
 if (!r4) = true then
 some (true)
 else
 (g112 x1 x2 x3).bind fun (r5 : Bool) =>
 some ((!r5))) := by kernel_rfl
noncomputable def F135c175 : Fn := ⟨19, [4], [(2, [(0, .c (.slice 4)), (1, .clo 175 []), (7, .c (.int .i64)), (8, .c (.int .i64))])], [], 0, [], [], Tryz.f135, [.c (.slice 4), .clo 175 []], [.c (.int .i64)], [(175, F175.S)]⟩
theorem ok135c175 : F135c175.S.Ok Tryz.prog 135 := F135c175.ok Tryz.func135 (by kernel_rfl) ⟨ok175, trivial⟩
noncomputable def g135c175 (x0 : LL) : Option (Int) := F135c175.S.g [.l x0]
noncomputable def g135c175L0 (k : Nat) (x0 : LL) (x1 x2 : Int) : Option (Int) := F135c175.lp [0] 0 r0 k [.l x0, .i x1, .i x2]
theorem g135c175L0_eq (k : Nat) (x0 : LL) (x1 x2 : Int) : g135c175L0 (k + 1) x0 x1 x2 =
 (if (cop .lss x2 x1) = true then
 elemK x0 x2 [.int .i64, .int .i64, .int .i64, .int .i64] fun (r3 : Int × Int × Int × Int) =>
 (g175 r3.1 r3.2.1 r3.2.2.1 r3.2.2.2).bind fun (r7 : Bool) =>
 if r7 = true then
 some (x2)
 else
 g135c175L0 k x0 x1 (iop .add .i64 x2 1)
 else
 some ((-1))) := by kernel_rfl
theorem g135c175_eq (x0 : LL) : g135c175 x0 =
 (g135c175L0 FUEL x0 (List.length x0 : Int) 0) := by kernel_rfl
noncomputable def F174c175 : Fn := ⟨9, [4], [], [], 0, [], [], Tryz.f174, [.c (.slice 4), .clo 175 []], [.c (.bool)], [(135, F135c175.S)]⟩
theorem ok174c175 : F174c175.S.Ok Tryz.prog 174 := F174c175.ok Tryz.func174 (by kernel_rfl) ⟨ok135c175, trivial⟩
noncomputable def g174c175 (x0 : LL) : Option (Bool) := F174c175.S.g [.l x0]
theorem g174c175_eq (x0 : LL) : g174c175 x0 =
 ((g135c175 x0).bind fun (r1 : Int) =>
 some ((cop .geq r1 0))) := by kernel_rfl
noncomputable def F176 : Fn := ⟨17, [5], [], [2], 0, [], [], Tryz.f176, [.c (.int .i64), .c (.int .i64), .box [.slice 4]], [.c (.bool)], []⟩
theorem ok176 : F176.S.Ok Tryz.prog 176 := F176.ok Tryz.func176 (by kernel_rfl) trivial
noncomputable def g176 (x0 x1 : Int) (x2 : LL) : Option (Bool × LL) := F176.S.g [.i x0, .i x1, .l x2]
theorem g176_eq (x0 x1 : Int) (x2 : LL) : g176 x0 x1 x2 =
 (elemK x2 x0 [.int .i64, .int .i64, .int .i64, .int .i64] fun (r3 : Int × Int × Int × Int) =>
 elemK x2 x1 [.int .i64, .int .i64, .int .i64, .int .i64] fun (r7 : Int × Int × Int × Int) =>
 some ((cop .lss r3.1 r7.1), x2)) := by kernel_rfl
noncomputable def F123c176 : Fn := ⟨17, [4], [(2, [(0, .c (.int .i64)), (1, .clo 176 [17]), (5, .c (.int .i64)), (17, .gbox [.slice 4])])], [], 1, [], [], Tryz.f123, [.c (.int .i64), .clo 176 [17], .dead, .dead, .dead, .dead, .dead, .dead, .dead, .dead, .dead, .dead, .dead, .dead, .dead, .dead, .dead, .gbox [.slice 4]], [.c (.bool)], [(176, F176.S)]⟩
theorem ok123c176 : F123c176.S.Ok Tryz.prog 123 := F123c176.ok Tryz.func123 (by kernel_rfl) ⟨ok176, trivial⟩
noncomputable def g123c176 (x0 : Int) (x1 : LL) : Option (Bool × LL) := F123c176.S.g [.i x0, .l x1]
noncomputable def g123c176L0 (k : Nat) (x0 x1 : Int) (x2 : LL) : Option (Bool × LL) := F123c176.lp [0] 0 r0 k [.i x0, .i x1, .l x2]
theorem g123c176L0_eq (k : Nat) (x0 x1 : Int) (x2 : LL) : g123c176L0 (k + 1) x0 x1 x2 =
 (if (cop .lss x1 x0) = true then
 (g176 (iop .sub .i64 x1 1) x1 x2).bind fun (r3 : Bool × LL) =>
 if (!r3.1) = true then
 some (false, r3.2)
 else
 g123c176L0 k x0 (iop .add .i64 x1 1) r3.2
 else
 some (true, x2)) := by kernel_rfl
theorem g123c176_eq (x0 : Int) (x1 : LL) : g123c176 x0 x1 =
 (g123c176L0 FUEL x0 1 x1) := by kernel_rfl
noncomputable def F157 : Fn := ⟨12, [2], [], [], 0, [], [], Tryz.f157, [.c (.slice 4)], [.c (.bool)], [(174, F174c175.S), (123, F123c176.S)]⟩
theorem ok157 : F157.S.Ok Tryz.prog 157 := F157.ok Tryz.func157 (by kernel_rfl) ⟨ok174c175, ⟨ok123c176, trivial⟩⟩
noncomputable def g157 (x0 : LL) : Option (Bool) := F157.S.g [.l x0]
theorem g157_eq (x0 : LL) : g157 x0 =
 ((g174c175 x0).bind fun (r1 : Bool) =>
 if (!r1) = true then
 (g123c176 (List.length x0 : Int) x0).bind fun (r2 : Bool × LL) =>
 some (r2.1)
 else
 some (false)) := by kernel_rfl
noncomputable def F178 : Fn := ⟨17, [2], [], [], 0, [], [], Tryz.f178, [.agg [.int .i64, .int .i64]], [.c (.bool)], [(113, F113.S)]⟩
theorem ok178 : F178.S.Ok Tryz.prog 178 := F178.ok Tryz.func178 (by kernel_rfl) ⟨ok113, trivial⟩
noncomputable def g178 (x0 x1 : Int) : Option (Bool) := F178.S.g [.i x0, .i x1]
theorem g178_eq (x0 x1 : Int) : g178 x0 x1 =
 (if (cop .lss x0 1) = true then
 some (true)
 else
 if (cop .gtr x0 1073741824) = true then
 some (true)
 else
 (g113 x1).bind fun (r2 : Bool) =>
 some ((!r2))) := by kernel_rfl
noncomputable def F186c178 : Fn := ⟨19, [4], [(2, [(0, .c (.slice 2)), (1, .clo 178 []), (7, .c (.int .i64)), (8, .c (.int .i64))])], [], 0, [], [], Tryz.f186, [.c (.slice 2), .clo 178 []], [.c (.int .i64)], [(178, F178.S)]⟩
theorem ok186c178 : F186c178.S.Ok Tryz.prog 186 := F186c178.ok Tryz.func186 (by kernel_rfl) ⟨ok178, trivial⟩
noncomputable def g186c178 (x0 : LL) : Option (Int) := F186c178.S.g [.l x0]
noncomputable def g186c178L0 (k : Nat) (x0 : LL) (x1 x2 : Int) : Option (Int) := F186c178.lp [0] 0 r0 k [.l x0, .i x1, .i x2]
theorem g186c178L0_eq (k : Nat) (x0 : LL) (x1 x2 : Int) : g186c178L0 (k + 1) x0 x1 x2 =
 (if (cop .lss x2 x1) = true then
 elemK x0 x2 [.int .i64, .int .i64] fun (r3 : Int × Int) =>
 (g178 r3.1 r3.2).bind fun (r5 : Bool) =>
 if r5 = true then
 some (x2)
 else
 g186c178L0 k x0 x1 (iop .add .i64 x2 1)
 else
 some ((-1))) := by kernel_rfl
theorem g186c178_eq (x0 : LL) : g186c178 x0 =
 (g186c178L0 FUEL x0 (List.length x0 : Int) 0) := by kernel_rfl
noncomputable def F177c178 : Fn := ⟨9, [4], [], [], 0, [], [], Tryz.f177, [.c (.slice 2), .clo 178 []], [.c (.bool)], [(186, F186c178.S)]⟩
theorem ok177c178 : F177c178.S.Ok Tryz.prog 177 := F177c178.ok Tryz.func177 (by kernel_rfl) ⟨ok186c178, trivial⟩
noncomputable def g177c178 (x0 : LL) : Option (Bool) := F177c178.S.g [.l x0]
theorem g177c178_eq (x0 : LL) : g177c178 x0 =
 ((g186c178 x0).bind fun (r1 : Int) =>
 some ((cop .geq r1 0))) := by kernel_rfl
noncomputable def F179 : Fn := ⟨17, [5], [], [2], 0, [], [], Tryz.f179, [.c (.int .i64), .c (.int .i64), .box [.slice 2]], [.c (.bool)], []⟩
theorem ok179 : F179.S.Ok Tryz.prog 179 := F179.ok Tryz.func179 (by kernel_rfl) trivial
noncomputable def g179 (x0 x1 : Int) (x2 : LL) : Option (Bool × LL) := F179.S.g [.i x0, .i x1, .l x2]
theorem g179_eq (x0 x1 : Int) (x2 : LL) : g179 x0 x1 x2 =
 (elemK x2 x0 [.int .i64, .int .i64] fun (r3 : Int × Int) =>
 elemK x2 x1 [.int .i64, .int .i64] fun (r5 : Int × Int) =>
 some ((cop .lss r3.1 r5.1), x2)) := by kernel_rfl
noncomputable def F123c179 : Fn := ⟨17, [4], [(2, [(0, .c (.int .i64)), (1, .clo 179 [17]), (5, .c (.int .i64)), (17, .gbox [.slice 2])])], [], 1, [], [], Tryz.f123, [.c (.int .i64), .clo 179 [17], .dead, .dead, .dead, .dead, .dead, .dead, .dead, .dead, .dead, .dead, .dead, .dead, .dead, .dead, .dead, .gbox [.slice 2]], [.c (.bool)], [(179, F179.S)]⟩
theorem ok123c179 : F123c179.S.Ok Tryz.prog 123 := F123c179.ok Tryz.func123 (by kernel_rfl) ⟨ok179, trivial⟩
noncomputable def g123c179 (x0 : Int) (x1 : LL) : Option (Bool × LL) := F123c179.S.g [.i x0, .l x1]
noncomputable def g123c179L0 (k : Nat) (x0 x1 : Int) (x2 : LL) : Option (Bool × LL) := F123c179.lp [0] 0 r0 k [.i x0, .i x1, .l x2]
theorem g123c179L0_eq (k : Nat) (x0 x1 : Int) (x2 : LL) : g123c179L0 (k + 1) x0 x1 x2 =
 (if (cop .lss x1 x0) = true then
 (g179 (iop .sub .i64 x1 1) x1 x2).bind fun (r3 : Bool × LL) =>
 if (!r3.1) = true then
 some (false, r3.2)
 else
 g123c179L0 k x0 (iop .add .i64 x1 1) r3.2
 else
 some (true, x2)) := by kernel_rfl
theorem g123c179_eq (x0 : Int) (x1 : LL) : g123c179 x0 x1 =
 (g123c179L0 FUEL x0 1 x1) := by kernel_rfl
noncomputable def F158 : Fn := ⟨12, [2], [], [], 0, [], [], Tryz.f158, [.c (.slice 2)], [.c (.bool)], [(177, F177c178.S), (123, F123c179.S)]⟩
theorem ok158 : F158.S.Ok Tryz.prog 158 := F158.ok Tryz.func158 (by kernel_rfl) ⟨ok177c178, ⟨ok123c179, trivial⟩⟩
noncomputable def g158 (x0 : LL) : Option (Bool) := F158.S.g [.l x0]
theorem g158_eq (x0 : LL) : g158 x0 =
 ((g177c178 x0).bind fun (r1 : Bool) =>
 if (!r1) = true then
 (g123c179 (List.length x0 : Int) x0).bind fun (r2 : Bool × LL) =>
 some (r2.1)
 else
 some (false)) := by kernel_rfl
noncomputable def F181 : Fn := ⟨19, [2], [], [], 0, [], [], Tryz.f181, [.agg hs7], [.c (.bool)], [(67, F67.S), (117, F117.S), (116, F116.S)]⟩
theorem ok181 : F181.S.Ok Tryz.prog 181 := F181.ok Tryz.func181 (by kernel_rfl) ⟨ok67, ⟨ok117, ⟨ok116, trivial⟩⟩⟩
noncomputable def g181 (x0 x1 x2 x3 x4 : Int) (x5 : LL) (x6 x7 x8 x9 x10 x11 : Int) (x12 : Bool) : Option (Bool) := F181.S.g [.i x0, .i x1, .i x2, .i x3, .i x4, .l x5, .i x6, .i x7, .i x8, .i x9, .i x10, .i x11, .b x12]
theorem g181_eq (x0 x1 x2 x3 x4 : Int) (x5 : LL) (x6 x7 x8 x9 x10 x11 : Int) (x12 : Bool) : g181 x0 x1 x2 x3 x4 x5 x6 x7 x8 x9 x10 x11 x12 =
 ((g67 x0).bind fun (r13 : Bool) =>
 if (!r13) = true then
 some (true)
 else
 (g117 x1).bind fun (r14 : Bool) =>
 if (!r14) = true then
 some (true)
 else
 (g116 x2 x3 x4 x5 x6 x7 x8 x9 x10 x11 x12).bind fun (r15 : Bool) =>
 some ((!r15))) := by kernel_rfl
noncomputable def F187c181 : Fn := ⟨19, [4], [(2, [(0, .c (.slice 13)), (1, .clo 181 []), (7, .c (.int .i64)), (8, .c (.int .i64))])], [], 0, [], [], Tryz.f187, [.c (.slice 13), .clo 181 []], [.c (.int .i64)], [(181, F181.S)]⟩
theorem ok187c181 : F187c181.S.Ok Tryz.prog 187 := F187c181.ok Tryz.func187 (by kernel_rfl) ⟨ok181, trivial⟩
noncomputable def g187c181 (x0 : LL) : Option (Int) := F187c181.S.g [.l x0]
noncomputable def g187c181L0 (k : Nat) (x0 : LL) (x1 x2 : Int) : Option (Int) := F187c181.lp [0] 0 r0 k [.l x0, .i x1, .i x2]
theorem g187c181L0_eq (k : Nat) (x0 : LL) (x1 x2 : Int) : g187c181L0 (k + 1) x0 x1 x2 =
 (if (cop .lss x2 x1) = true then
 elemK x0 x2 hs7 fun (r3 : Qt12) =>
 (g181 r3.1 r3.2.1 r3.2.2.1 r3.2.2.2.1 r3.2.2.2.2.1 r3.2.2.2.2.2.1 r3.2.2.2.2.2.2.1 r3.2.2.2.2.2.2.2.1 r3.2.2.2.2.2.2.2.2.1 r3.2.2.2.2.2.2.2.2.2.1 r3.2.2.2.2.2.2.2.2.2.2.1 r3.2.2.2.2.2.2.2.2.2.2.2.1 (d4 (d8 r3))).bind fun (r16 : Bool) =>
 if r16 = true then
 some (x2)
 else
 g187c181L0 k x0 x1 (iop .add .i64 x2 1)
 else
 some ((-1))) := by kernel_rfl
theorem g187c181_eq (x0 : LL) : g187c181 x0 =
 (g187c181L0 FUEL x0 (List.length x0 : Int) 0) := by kernel_rfl
noncomputable def F180c181 : Fn := ⟨9, [4], [], [], 0, [], [], Tryz.f180, [.c (.slice 13), .clo 181 []], [.c (.bool)], [(187, F187c181.S)]⟩
theorem ok180c181 : F180c181.S.Ok Tryz.prog 180 := F180c181.ok Tryz.func180 (by kernel_rfl) ⟨ok187c181, trivial⟩
noncomputable def g180c181 (x0 : LL) : Option (Bool) := F180c181.S.g [.l x0]
theorem g180c181_eq (x0 : LL) : g180c181 x0 =
 ((g187c181 x0).bind fun (r1 : Int) =>
 some ((cop .geq r1 0))) := by kernel_rfl
noncomputable def F182 : Fn := ⟨19, [5], [], [2], 0, [], [], Tryz.f182, [.c (.int .i64), .c (.int .i64), .box [.slice 13]], [.c (.bool)], [(173, F173.S)]⟩
theorem ok182 : F182.S.Ok Tryz.prog 182 := F182.ok Tryz.func182 (by kernel_rfl) ⟨ok173, trivial⟩
noncomputable def g182 (x0 x1 : Int) (x2 : LL) : Option (Bool × LL) := F182.S.g [.i x0, .i x1, .l x2]
theorem g182_eq (x0 x1 : Int) (x2 : LL) : g182 x0 x1 x2 =
 (elemK x2 x0 hs7 fun (r3 : Qt12) =>
 elemK x2 x1 hs7 fun (r16 : Qt12) =>
 (g173 r3.2.2.1 r3.2.2.2.1 r3.2.2.2.2.1 r16.2.2.1 r16.2.2.2.1 r16.2.2.2.2.1).bind fun (r29 : Bool) =>
 some (r29, x2)) := by kernel_rfl
noncomputable def F123c182 : Fn := ⟨17, [4], [(2, [(0, .c (.int .i64)), (1, .clo 182 [17]), (5, .c (.int .i64)), (17, .gbox [.slice 13])])], [], 1, [], [], Tryz.f123, [.c (.int .i64), .clo 182 [17], .dead, .dead, .dead, .dead, .dead, .dead, .dead, .dead, .dead, .dead, .dead, .dead, .dead, .dead, .dead, .gbox [.slice 13]], [.c (.bool)], [(182, F182.S)]⟩
theorem ok123c182 : F123c182.S.Ok Tryz.prog 123 := F123c182.ok Tryz.func123 (by kernel_rfl) ⟨ok182, trivial⟩
noncomputable def g123c182 (x0 : Int) (x1 : LL) : Option (Bool × LL) := F123c182.S.g [.i x0, .l x1]
noncomputable def g123c182L0 (k : Nat) (x0 x1 : Int) (x2 : LL) : Option (Bool × LL) := F123c182.lp [0] 0 r0 k [.i x0, .i x1, .l x2]
theorem g123c182L0_eq (k : Nat) (x0 x1 : Int) (x2 : LL) : g123c182L0 (k + 1) x0 x1 x2 =
 (if (cop .lss x1 x0) = true then
 (g182 (iop .sub .i64 x1 1) x1 x2).bind fun (r3 : Bool × LL) =>
 if (!r3.1) = true then
 some (false, r3.2)
 else
 g123c182L0 k x0 (iop .add .i64 x1 1) r3.2
 else
 some (true, x2)) := by kernel_rfl
theorem g123c182_eq (x0 : Int) (x1 : LL) : g123c182 x0 x1 =
 (g123c182L0 FUEL x0 1 x1) := by kernel_rfl
noncomputable def F159 : Fn := ⟨12, [2], [], [], 0, [], [], Tryz.f159, [.c (.slice 13)], [.c (.bool)], [(180, F180c181.S), (123, F123c182.S)]⟩
theorem ok159 : F159.S.Ok Tryz.prog 159 := F159.ok Tryz.func159 (by kernel_rfl) ⟨ok180c181, ⟨ok123c182, trivial⟩⟩
noncomputable def g159 (x0 : LL) : Option (Bool) := F159.S.g [.l x0]
theorem g159_eq (x0 : LL) : g159 x0 =
 ((g180c181 x0).bind fun (r1 : Bool) =>
 if (!r1) = true then
 (g123c182 (List.length x0 : Int) x0).bind fun (r2 : Bool × LL) =>
 some (r2.1)
 else
 some (false)) := by kernel_rfl
noncomputable def F160 : Fn := ⟨6, [2], [], [], 0, [], [], Tryz.f160, [.agg [.int .i64, .int .i64, .int .i64]], [.c (.bool)], [(112, F112.S)]⟩
theorem ok160 : F160.S.Ok Tryz.prog 160 := F160.ok Tryz.func160 (by kernel_rfl) ⟨ok112, trivial⟩
noncomputable def g160 (x0 x1 x2 : Int) : Option (Bool) := F160.S.g [.i x0, .i x1, .i x2]
theorem g160_eq (x0 x1 x2 : Int) : g160 x0 x1 x2 =
 ((g112 x0 x1 x2).bind fun (r3 : Bool) =>
 some ((!r3))) := by kernel_rfl
noncomputable def F151c160 : Fn := ⟨19, [4], [(2, [(0, .c (.slice 3)), (1, .clo 160 []), (7, .c (.int .i64)), (8, .c (.int .i64))])], [], 0, [], [], Tryz.f151, [.c (.slice 3), .clo 160 []], [.c (.int .i64)], [(160, F160.S)]⟩
theorem ok151c160 : F151c160.S.Ok Tryz.prog 151 := F151c160.ok Tryz.func151 (by kernel_rfl) ⟨ok160, trivial⟩
noncomputable def g151c160 (x0 : LL) : Option (Int) := F151c160.S.g [.l x0]
noncomputable def g151c160L0 (k : Nat) (x0 : LL) (x1 x2 : Int) : Option (Int) := F151c160.lp [0] 0 r0 k [.l x0, .i x1, .i x2]
theorem g151c160L0_eq (k : Nat) (x0 : LL) (x1 x2 : Int) : g151c160L0 (k + 1) x0 x1 x2 =
 (if (cop .lss x2 x1) = true then
 elemK x0 x2 [.int .i64, .int .i64, .int .i64] fun (r3 : Int × Int × Int) =>
 (g160 r3.1 r3.2.1 r3.2.2).bind fun (r6 : Bool) =>
 if r6 = true then
 some (x2)
 else
 g151c160L0 k x0 x1 (iop .add .i64 x2 1)
 else
 some ((-1))) := by kernel_rfl
theorem g151c160_eq (x0 : LL) : g151c160 x0 =
 (g151c160L0 FUEL x0 (List.length x0 : Int) 0) := by kernel_rfl
noncomputable def F118c160 : Fn := ⟨9, [4], [], [], 0, [], [], Tryz.f118, [.c (.slice 3), .clo 160 []], [.c (.bool)], [(151, F151c160.S)]⟩
theorem ok118c160 : F118c160.S.Ok Tryz.prog 118 := F118c160.ok Tryz.func118 (by kernel_rfl) ⟨ok151c160, trivial⟩
noncomputable def g118c160 (x0 : LL) : Option (Bool) := F118c160.S.g [.l x0]
theorem g118c160_eq (x0 : LL) : g118c160 x0 =
 ((g151c160 x0).bind fun (r1 : Int) =>
 some ((cop .geq r1 0))) := by kernel_rfl
noncomputable def F127 : Fn := ⟨32, [2], [], [], 0, [], [], Tryz.f127, [.agg hs16], [.c (.bool)], [(155, F155.S), (156, F156.S), (157, F157.S), (158, F158.S), (159, F159.S), (118, F118c160.S)]⟩
theorem ok127 : F127.S.Ok Tryz.prog 127 := F127.ok Tryz.func127 (by kernel_rfl) ⟨ok155, ⟨ok156, ⟨ok157, ⟨ok158, ⟨ok159, ⟨ok118c160, trivial⟩⟩⟩⟩⟩⟩
noncomputable def g127 (x0 x1 x2 x3 x4 x5 : LL) : Option (Bool) := F127.S.g [.l x0, .l x1, .l x2, .l x3, .l x4, .l x5]
theorem g127_eq (x0 x1 x2 x3 x4 x5 : LL) : g127 x0 x1 x2 x3 x4 x5 =
 ((g155 x0).bind fun (r6 : Bool) =>
 if r6 = true then
 (g156 x1).bind fun (r7 : Bool) =>
 if r7 = true then
 (g157 x2).bind fun (r8 : Bool) =>
 if r8 = true then
 (g158 x3).bind fun (r9 : Bool) =>
 if r9 = true then
 (g159 x4).bind fun (r10 : Bool) =>
 if r10 = true then
 (g118c160 x5).bind fun (r11 : Bool) =>
 some ((!r11))
 else
 some (false)
 else
 some (false)
 else
 some (false)
 else
 some (false)
 else
 some (false)) := by kernel_rfl
noncomputable def F125 : Fn := ⟨26, [2], [], [], 0, [], [], Tryz.f125, [.agg hs4], [.c (.bool)], [(67, F67.S), (126, F126.S), (127, F127.S)]⟩
theorem ok125 : F125.S.Ok Tryz.prog 125 := F125.ok Tryz.func125 (by kernel_rfl) ⟨ok67, ⟨ok126, ⟨ok127, trivial⟩⟩⟩
noncomputable def g125 (x0 x1 : Int) (x2 x3 x4 x5 x6 x7 x8 x9 : LL) (x10 : Bool) (x11 : Int) (x12 x13 x14 x15 x16 x17 x18 x19 : LL) : Option (Bool) := F125.S.g [.i x0, .i x1, .l x2, .l x3, .l x4, .l x5, .l x6, .l x7, .l x8, .l x9, .b x10, .i x11, .l x12, .l x13, .l x14, .l x15, .l x16, .l x17, .l x18, .l x19]
theorem g125_eq (x0 x1 : Int) (x2 x3 x4 x5 x6 x7 x8 x9 : LL) (x10 : Bool) (x11 : Int) (x12 x13 x14 x15 x16 x17 x18 x19 : LL) : g125 x0 x1 x2 x3 x4 x5 x6 x7 x8 x9 x10 x11 x12 x13 x14 x15 x16 x17 x18 x19 =
 ((g67 x0).bind fun (r20 : Bool) =>
 if r20 = true then
 (g126 x1 x2 x3).bind fun (r21 : Bool) =>
 if r21 = true then
 (g127 x4 x5 x6 x7 x8 x9).bind fun (r22 : Bool) =>
 if r22 = true then
 (g126 x11 x12 x13).bind fun (r23 : Bool) =>
 if r23 = true then
 (g127 x14 x15 x16 x17 x18 x19).bind fun (r24 : Bool) =>
 some (r24)
 else
 some (false)
 else
 some (false)
 else
 some (false)
 else
 some (false)) := by kernel_rfl
noncomputable def F115 : Fn := ⟨6, [2], [], [], 0, [], [], Tryz.f115, [.agg hs8], [.c (.bool)], [(116, F116.S)]⟩
theorem ok115 : F115.S.Ok Tryz.prog 115 := F115.ok Tryz.func115 (by kernel_rfl) ⟨ok116, trivial⟩
noncomputable def g115 (x0 x1 x2 : Int) (x3 : LL) (x4 x5 x6 x7 x8 x9 : Int) (x10 : Bool) : Option (Bool) := F115.S.g [.i x0, .i x1, .i x2, .l x3, .i x4, .i x5, .i x6, .i x7, .i x8, .i x9, .b x10]
theorem g115_eq (x0 x1 x2 : Int) (x3 : LL) (x4 x5 x6 x7 x8 x9 : Int) (x10 : Bool) : g115 x0 x1 x2 x3 x4 x5 x6 x7 x8 x9 x10 =
 ((g116 x0 x1 x2 x3 x4 x5 x6 x7 x8 x9 x10).bind fun (r11 : Bool) =>
 some ((!r11))) := by kernel_rfl
noncomputable def F149c115 : Fn := ⟨19, [4], [(2, [(0, .c (.slice 11)), (1, .clo 115 []), (7, .c (.int .i64)), (8, .c (.int .i64))])], [], 0, [], [], Tryz.f149, [.c (.slice 11), .clo 115 []], [.c (.int .i64)], [(115, F115.S)]⟩
theorem ok149c115 : F149c115.S.Ok Tryz.prog 149 := F149c115.ok Tryz.func149 (by kernel_rfl) ⟨ok115, trivial⟩
noncomputable def g149c115 (x0 : LL) : Option (Int) := F149c115.S.g [.l x0]
noncomputable def g149c115L0 (k : Nat) (x0 : LL) (x1 x2 : Int) : Option (Int) := F149c115.lp [0] 0 r0 k [.l x0, .i x1, .i x2]
theorem g149c115L0_eq (k : Nat) (x0 : LL) (x1 x2 : Int) : g149c115L0 (k + 1) x0 x1 x2 =
 (if (cop .lss x2 x1) = true then
 elemK x0 x2 hs8 fun (r3 : Qt17) =>
 (g115 r3.1 r3.2.1 r3.2.2.1 r3.2.2.2.1 r3.2.2.2.2.1 r3.2.2.2.2.2.1 r3.2.2.2.2.2.2.1 r3.2.2.2.2.2.2.2.1 r3.2.2.2.2.2.2.2.2.1 r3.2.2.2.2.2.2.2.2.2.1 r3.2.2.2.2.2.2.2.2.2.2).bind fun (r14 : Bool) =>
 if r14 = true then
 some (x2)
 else
 g149c115L0 k x0 x1 (iop .add .i64 x2 1)
 else
 some ((-1))) := by kernel_rfl
theorem g149c115_eq (x0 : LL) : g149c115 x0 =
 (g149c115L0 FUEL x0 (List.length x0 : Int) 0) := by kernel_rfl
noncomputable def F114c115 : Fn := ⟨9, [4], [], [], 0, [], [], Tryz.f114, [.c (.slice 11), .clo 115 []], [.c (.bool)], [(149, F149c115.S)]⟩
theorem ok114c115 : F114c115.S.Ok Tryz.prog 114 := F114c115.ok Tryz.func114 (by kernel_rfl) ⟨ok149c115, trivial⟩
noncomputable def g114c115 (x0 : LL) : Option (Bool) := F114c115.S.g [.l x0]
theorem g114c115_eq (x0 : LL) : g114c115 x0 =
 ((g149c115 x0).bind fun (r1 : Int) =>
 some ((cop .geq r1 0))) := by kernel_rfl
noncomputable def F119 : Fn := ⟨6, [2], [], [], 0, [], [], Tryz.f119, [.agg [.int .i64, .int .i64, .int .i64]], [.c (.bool)], [(120, F120.S)]⟩
theorem ok119 : F119.S.Ok Tryz.prog 119 := F119.ok Tryz.func119 (by kernel_rfl) ⟨ok120, trivial⟩
noncomputable def g119 (x0 x1 x2 : Int) : Option (Bool) := F119.S.g [.i x0, .i x1, .i x2]
theorem g119_eq (x0 x1 x2 : Int) : g119 x0 x1 x2 =
 ((g120 x0 x1 x2).bind fun (r3 : Bool) =>
 some ((!r3))) := by kernel_rfl
noncomputable def F151c119 : Fn := ⟨19, [4], [(2, [(0, .c (.slice 3)), (1, .clo 119 []), (7, .c (.int .i64)), (8, .c (.int .i64))])], [], 0, [], [], Tryz.f151, [.c (.slice 3), .clo 119 []], [.c (.int .i64)], [(119, F119.S)]⟩
theorem ok151c119 : F151c119.S.Ok Tryz.prog 151 := F151c119.ok Tryz.func151 (by kernel_rfl) ⟨ok119, trivial⟩
noncomputable def g151c119 (x0 : LL) : Option (Int) := F151c119.S.g [.l x0]
noncomputable def g151c119L0 (k : Nat) (x0 : LL) (x1 x2 : Int) : Option (Int) := F151c119.lp [0] 0 r0 k [.l x0, .i x1, .i x2]
theorem g151c119L0_eq (k : Nat) (x0 : LL) (x1 x2 : Int) : g151c119L0 (k + 1) x0 x1 x2 =
 (if (cop .lss x2 x1) = true then
 elemK x0 x2 [.int .i64, .int .i64, .int .i64] fun (r3 : Int × Int × Int) =>
 (g119 r3.1 r3.2.1 r3.2.2).bind fun (r6 : Bool) =>
 if r6 = true then
 some (x2)
 else
 g151c119L0 k x0 x1 (iop .add .i64 x2 1)
 else
 some ((-1))) := by kernel_rfl
theorem g151c119_eq (x0 : LL) : g151c119 x0 =
 (g151c119L0 FUEL x0 (List.length x0 : Int) 0) := by kernel_rfl
noncomputable def F118c119 : Fn := ⟨9, [4], [], [], 0, [], [], Tryz.f118, [.c (.slice 3), .clo 119 []], [.c (.bool)], [(151, F151c119.S)]⟩
theorem ok118c119 : F118c119.S.Ok Tryz.prog 118 := F118c119.ok Tryz.func118 (by kernel_rfl) ⟨ok151c119, trivial⟩
noncomputable def g118c119 (x0 : LL) : Option (Bool) := F118c119.S.g [.l x0]
theorem g118c119_eq (x0 : LL) : g118c119 x0 =
 ((g151c119 x0).bind fun (r1 : Int) =>
 some ((cop .geq r1 0))) := by kernel_rfl
noncomputable def F122 : Fn := ⟨6, [2], [], [], 0, [], [], Tryz.f122, [.c (.int .i64)], [.c (.bool)], [(67, F67.S)]⟩
theorem ok122 : F122.S.Ok Tryz.prog 122 := F122.ok Tryz.func122 (by kernel_rfl) ⟨ok67, trivial⟩
noncomputable def g122 (x0 : Int) : Option (Bool) := F122.S.g [.i x0]
theorem g122_eq (x0 : Int) : g122 x0 =
 ((g67 x0).bind fun (r1 : Bool) =>
 some ((!r1))) := by kernel_rfl
noncomputable def F152c122 : Fn := ⟨19, [4], [(2, [(0, .c (.slice 1)), (1, .clo 122 []), (7, .c (.int .i64)), (8, .c (.int .i64))])], [], 0, [], [], Tryz.f152, [.c (.slice 1), .clo 122 []], [.c (.int .i64)], [(122, F122.S)]⟩
theorem ok152c122 : F152c122.S.Ok Tryz.prog 152 := F152c122.ok Tryz.func152 (by kernel_rfl) ⟨ok122, trivial⟩
noncomputable def g152c122 (x0 : LL) : Option (Int) := F152c122.S.g [.l x0]
noncomputable def g152c122L0 (k : Nat) (x0 : LL) (x1 x2 : Int) : Option (Int) := F152c122.lp [0] 0 r0 k [.l x0, .i x1, .i x2]
theorem g152c122L0_eq (k : Nat) (x0 : LL) (x1 x2 : Int) : g152c122L0 (k + 1) x0 x1 x2 =
 (if (cop .lss x2 x1) = true then
 elemK x0 x2 [.int .i64] fun (r3 : Int) =>
 (g122 r3).bind fun (r4 : Bool) =>
 if r4 = true then
 some (x2)
 else
 g152c122L0 k x0 x1 (iop .add .i64 x2 1)
 else
 some ((-1))) := by kernel_rfl
theorem g152c122_eq (x0 : LL) : g152c122 x0 =
 (g152c122L0 FUEL x0 (List.length x0 : Int) 0) := by kernel_rfl
noncomputable def F121c122 : Fn := ⟨9, [4], [], [], 0, [], [], Tryz.f121, [.c (.slice 1), .clo 122 []], [.c (.bool)], [(152, F152c122.S)]⟩
theorem ok121c122 : F121c122.S.Ok Tryz.prog 121 := F121c122.ok Tryz.func121 (by kernel_rfl) ⟨ok152c122, trivial⟩
noncomputable def g121c122 (x0 : LL) : Option (Bool) := F121c122.S.g [.l x0]
theorem g121c122_eq (x0 : LL) : g121c122 x0 =
 ((g152c122 x0).bind fun (r1 : Int) =>
 some ((cop .geq r1 0))) := by kernel_rfl
noncomputable def F124 : Fn := ⟨17, [5], [], [2], 0, [], [], Tryz.f124, [.c (.int .i64), .c (.int .i64), .box hs0], [.c (.bool)], []⟩
theorem ok124 : F124.S.Ok Tryz.prog 124 := F124.ok Tryz.func124 (by kernel_rfl) trivial
noncomputable def g124 (x0 x1 x2 x3 x4 x5 x6 x7 x8 x9 x10 x11 x12 : Int) (x13 : Bool) (x14 x15 x16 x17 x18 x19 x20 x21 x22 x23 x24 x25 x26 x27 x28 x29 x30 x31 x32 x33 : Int) (x34 : LL) (x35 x36 x37 x38 x39 x40 : Int) (x41 : Bool) (x42 x43 x44 x45 : LL) (x46 x47 : Int) (x48 x49 x50 x51 x52 x53 x54 x55 : LL) (x56 x57 : Int) (x58 x59 x60 x61 x62 x63 x64 x65 : LL) (x66 : Bool) (x67 : Int) (x68 x69 x70 x71 x72 x73 x74 x75 : LL) : Option (Qt1) := F124.S.g [.i x0, .i x1, .i x2, .i x3, .i x4, .i x5, .i x6, .i x7, .i x8, .i x9, .i x10, .i x11, .i x12, .b x13, .i x14, .i x15, .i x16, .i x17, .i x18, .i x19, .i x20, .i x21, .i x22, .i x23, .i x24, .i x25, .i x26, .i x27, .i x28, .i x29, .i x30, .i x31, .i x32, .i x33, .l x34, .i x35, .i x36, .i x37, .i x38, .i x39, .i x40, .b x41, .l x42, .l x43, .l x44, .l x45, .i x46, .i x47, .l x48, .l x49, .l x50, .l x51, .l x52, .l x53, .l x54, .l x55, .i x56, .i x57, .l x58, .l x59, .l x60, .l x61, .l x62, .l x63, .l x64, .l x65, .b x66, .i x67, .l x68, .l x69, .l x70, .l x71, .l x72, .l x73, .l x74, .l x75]
theorem g124_eq (x0 x1 x2 x3 x4 x5 x6 x7 x8 x9 x10 x11 x12 : Int) (x13 : Bool) (x14 x15 x16 x17 x18 x19 x20 x21 x22 x23 x24 x25 x26 x27 x28 x29 x30 x31 x32 x33 : Int) (x34 : LL) (x35 x36 x37 x38 x39 x40 : Int) (x41 : Bool) (x42 x43 x44 x45 : LL) (x46 x47 : Int) (x48 x49 x50 x51 x52 x53 x54 x55 : LL) (x56 x57 : Int) (x58 x59 x60 x61 x62 x63 x64 x65 : LL) (x66 : Bool) (x67 : Int) (x68 x69 x70 x71 x72 x73 x74 x75 : LL) : g124 x0 x1 x2 x3 x4 x5 x6 x7 x8 x9 x10 x11 x12 x13 x14 x15 x16 x17 x18 x19 x20 x21 x22 x23 x24 x25 x26 x27 x28 x29 x30 x31 x32 x33 x34 x35 x36 x37 x38 x39 x40 x41 x42 x43 x44 x45 x46 x47 x48 x49 x50 x51 x52 x53 x54 x55 x56 x57 x58 x59 x60 x61 x62 x63 x64 x65 x66 x67 x68 x69 x70 x71 x72 x73 x74 x75 =
 (elemK x44 x0 [.int .i64] fun (r76 : Int) =>
 elemK x44 x1 [.int .i64] fun (r77 : Int) =>
 some ((cop .lss r76 r77), x2, x3, x4, x5, x6, x7, x8, x9, x10, x11, x12, x13, x14, x15, x16, x17, x18, x19, x20, x21, x22, x23, x24, x25, x26, x27, x28, x29, x30, x31, x32, x33, x34, x35, x36, x37, x38, x39, x40, x41, x42, x43, x44, x45, x46, x47, x48, x49, x50, x51, x52, x53, x54, x55, x56, x57, x58, x59, x60, x61, x62, x63, x64, x65, x66, x67, x68, x69, x70, x71, x72, x73, x74, x75)) := by kernel_rfl
noncomputable def F123c124 : Fn := ⟨17, [4], [(2, [(0, .c (.int .i64)), (1, .clo 124 [17]), (5, .c (.int .i64)), (17, .gbox hs0)])], [], 1, [], [], Tryz.f123, [.c (.int .i64), .clo 124 [17], .dead, .dead, .dead, .dead, .dead, .dead, .dead, .dead, .dead, .dead, .dead, .dead, .dead, .dead, .dead, .gbox hs0], [.c (.bool)], [(124, F124.S)]⟩
theorem ok123c124 : F123c124.S.Ok Tryz.prog 123 := F123c124.ok Tryz.func123 (by kernel_rfl) ⟨ok124, trivial⟩
noncomputable def g123c124 (x0 x1 x2 x3 x4 x5 x6 x7 x8 x9 x10 x11 : Int) (x12 : Bool) (x13 x14 x15 x16 x17 x18 x19 x20 x21 x22 x23 x24 x25 x26 x27 x28 x29 x30 x31 x32 : Int) (x33 : LL) (x34 x35 x36 x37 x38 x39 : Int) (x40 : Bool) (x41 x42 x43 x44 : LL) (x45 x46 : Int) (x47 x48 x49 x50 x51 x52 x53 x54 : LL) (x55 x56 : Int) (x57 x58 x59 x60 x61 x62 x63 x64 : LL) (x65 : Bool) (x66 : Int) (x67 x68 x69 x70 x71 x72 x73 x74 : LL) : Option (Qt1) := F123c124.S.g [.i x0, .i x1, .i x2, .i x3, .i x4, .i x5, .i x6, .i x7, .i x8, .i x9, .i x10, .i x11, .b x12, .i x13, .i x14, .i x15, .i x16, .i x17, .i x18, .i x19, .i x20, .i x21, .i x22, .i x23, .i x24, .i x25, .i x26, .i x27, .i x28, .i x29, .i x30, .i x31, .i x32, .l x33, .i x34, .i x35, .i x36, .i x37, .i x38, .i x39, .b x40, .l x41, .l x42, .l x43, .l x44, .i x45, .i x46, .l x47, .l x48, .l x49, .l x50, .l x51, .l x52, .l x53, .l x54, .i x55, .i x56, .l x57, .l x58, .l x59, .l x60, .l x61, .l x62, .l x63, .l x64, .b x65, .i x66, .l x67, .l x68, .l x69, .l x70, .l x71, .l x72, .l x73, .l x74]
noncomputable def g123c124L0 (k : Nat) (x0 x1 x2 x3 x4 x5 x6 x7 x8 x9 x10 x11 x12 : Int) (x13 : Bool) (x14 x15 x16 x17 x18 x19 x20 x21 x22 x23 x24 x25 x26 x27 x28 x29 x30 x31 x32 x33 : Int) (x34 : LL) (x35 x36 x37 x38 x39 x40 : Int) (x41 : Bool) (x42 x43 x44 x45 : LL) (x46 x47 : Int) (x48 x49 x50 x51 x52 x53 x54 x55 : LL) (x56 x57 : Int) (x58 x59 x60 x61 x62 x63 x64 x65 : LL) (x66 : Bool) (x67 : Int) (x68 x69 x70 x71 x72 x73 x74 x75 : LL) : Option (Qt1) := F123c124.lp [0] 0 r0 k [.i x0, .i x1, .i x2, .i x3, .i x4, .i x5, .i x6, .i x7, .i x8, .i x9, .i x10, .i x11, .i x12, .b x13, .i x14, .i x15, .i x16, .i x17, .i x18, .i x19, .i x20, .i x21, .i x22, .i x23, .i x24, .i x25, .i x26, .i x27, .i x28, .i x29, .i x30, .i x31, .i x32, .i x33, .l x34, .i x35, .i x36, .i x37, .i x38, .i x39, .i x40, .b x41, .l x42, .l x43, .l x44, .l x45, .i x46, .i x47, .l x48, .l x49, .l x50, .l x51, .l x52, .l x53, .l x54, .l x55, .i x56, .i x57, .l x58, .l x59, .l x60, .l x61, .l x62, .l x63, .l x64, .l x65, .b x66, .i x67, .l x68, .l x69, .l x70, .l x71, .l x72, .l x73, .l x74, .l x75]
theorem g123c124L0_eq (k : Nat) (x0 x1 x2 x3 x4 x5 x6 x7 x8 x9 x10 x11 x12 : Int) (x13 : Bool) (x14 x15 x16 x17 x18 x19 x20 x21 x22 x23 x24 x25 x26 x27 x28 x29 x30 x31 x32 x33 : Int) (x34 : LL) (x35 x36 x37 x38 x39 x40 : Int) (x41 : Bool) (x42 x43 x44 x45 : LL) (x46 x47 : Int) (x48 x49 x50 x51 x52 x53 x54 x55 : LL) (x56 x57 : Int) (x58 x59 x60 x61 x62 x63 x64 x65 : LL) (x66 : Bool) (x67 : Int) (x68 x69 x70 x71 x72 x73 x74 x75 : LL) : g123c124L0 (k + 1) x0 x1 x2 x3 x4 x5 x6 x7 x8 x9 x10 x11 x12 x13 x14 x15 x16 x17 x18 x19 x20 x21 x22 x23 x24 x25 x26 x27 x28 x29 x30 x31 x32 x33 x34 x35 x36 x37 x38 x39 x40 x41 x42 x43 x44 x45 x46 x47 x48 x49 x50 x51 x52 x53 x54 x55 x56 x57 x58 x59 x60 x61 x62 x63 x64 x65 x66 x67 x68 x69 x70 x71 x72 x73 x74 x75 =
 (if (cop .lss x1 x0) = true then
 (g124 (iop .sub .i64 x1 1) x1 x2 x3 x4 x5 x6 x7 x8 x9 x10 x11 x12 x13 x14 x15 x16 x17 x18 x19 x20 x21 x22 x23 x24 x25 x26 x27 x28 x29 x30 x31 x32 x33 x34 x35 x36 x37 x38 x39 x40 x41 x42 x43 x44 x45 x46 x47 x48 x49 x50 x51 x52 x53 x54 x55 x56 x57 x58 x59 x60 x61 x62 x63 x64 x65 x66 x67 x68 x69 x70 x71 x72 x73 x74 x75).bind fun (r76 : Qt1) =>
 if (!r76.1) = true then
 some (false, r76.2.1, r76.2.2.1, r76.2.2.2.1, r76.2.2.2.2.1, r76.2.2.2.2.2.1, r76.2.2.2.2.2.2.1, r76.2.2.2.2.2.2.2.1, r76.2.2.2.2.2.2.2.2.1, r76.2.2.2.2.2.2.2.2.2.1, r76.2.2.2.2.2.2.2.2.2.2.1, r76.2.2.2.2.2.2.2.2.2.2.2.1, (d4 (d8 r76)).1, (d4 (d8 r76)).2.1, (d2 (d4 (d8 r76))).1, (d2 (d4 (d8 r76))).2.1, (d16 r76).1, (d16 r76).2.1, (d2 (d16 r76)).1, (d2 (d16 r76)).2.1, (d4 (d16 r76)).1, (d4 (d16 r76)).2.1, (d2 (d4 (d16 r76))).1, (d2 (d4 (d16 r76))).2.1, (d8 (d16 r76)).1, (d8 (d16 r76)).2.1, (d2 (d8 (d16 r76))).1, (d2 (d8 (d16 r76))).2.1, (d4 (d8 (d16 r76))).1, (d4 (d8 (d16 r76))).2.1, (d2 (d4 (d8 (d16 r76)))).1, (d2 (d4 (d8 (d16 r76)))).2.1, (d16 (d16 r76)).1, (d16 (d16 r76)).2.1, (d2 (d16 (d16 r76))).1, (d2 (d16 (d16 r76))).2.1, (d4 (d16 (d16 r76))).1, (d4 (d16 (d16 r76))).2.1, (d2 (d4 (d16 (d16 r76)))).1, (d2 (d4 (d16 (d16 r76)))).2.1, (d8 (d16 (d16 r76))).1, (d8 (d16 (d16 r76))).2.1, (d2 (d8 (d16 (d16 r76)))).1, (d2 (d8 (d16 (d16 r76)))).2.1, (d4 (d8 (d16 (d16 r76)))).1, (d4 (d8 (d16 (d16 r76)))).2.1, (d2 (d4 (d8 (d16 (d16 r76))))).1, (d2 (d4 (d8 (d16 (d16 r76))))).2.1, (d16 (d16 (d16 r76))).1, (d16 (d16 (d16 r76))).2.1, (d2 (d16 (d16 (d16 r76)))).1, (d2 (d16 (d16 (d16 r76)))).2.1, (d4 (d16 (d16 (d16 r76)))).1, (d4 (d16 (d16 (d16 r76)))).2.1, (d2 (d4 (d16 (d16 (d16 r76))))).1, (d2 (d4 (d16 (d16 (d16 r76))))).2.1, (d8 (d16 (d16 (d16 r76)))).1, (d8 (d16 (d16 (d16 r76)))).2.1, (d2 (d8 (d16 (d16 (d16 r76))))).1, (d2 (d8 (d16 (d16 (d16 r76))))).2.1, (d4 (d8 (d16 (d16 (d16 r76))))).1, (d4 (d8 (d16 (d16 (d16 r76))))).2.1, (d2 (d4 (d8 (d16 (d16 (d16 r76)))))).1, (d2 (d4 (d8 (d16 (d16 (d16 r76)))))).2.1, (d16 (d16 (d16 (d16 r76)))).1, (d16 (d16 (d16 (d16 r76)))).2.1, (d2 (d16 (d16 (d16 (d16 r76))))).1, (d2 (d16 (d16 (d16 (d16 r76))))).2.1, (d4 (d16 (d16 (d16 (d16 r76))))).1, (d4 (d16 (d16 (d16 (d16 r76))))).2.1, (d2 (d4 (d16 (d16 (d16 (d16 r76)))))).1, (d2 (d4 (d16 (d16 (d16 (d16 r76)))))).2.1, (d8 (d16 (d16 (d16 (d16 r76))))).1, (d8 (d16 (d16 (d16 (d16 r76))))).2.1, (d2 (d8 (d16 (d16 (d16 (d16 r76)))))))
 else
 g123c124L0 k x0 (iop .add .i64 x1 1) r76.2.1 r76.2.2.1 r76.2.2.2.1 r76.2.2.2.2.1 r76.2.2.2.2.2.1 r76.2.2.2.2.2.2.1 r76.2.2.2.2.2.2.2.1 r76.2.2.2.2.2.2.2.2.1 r76.2.2.2.2.2.2.2.2.2.1 r76.2.2.2.2.2.2.2.2.2.2.1 r76.2.2.2.2.2.2.2.2.2.2.2.1 (d4 (d8 r76)).1 (d4 (d8 r76)).2.1 (d2 (d4 (d8 r76))).1 (d2 (d4 (d8 r76))).2.1 (d16 r76).1 (d16 r76).2.1 (d2 (d16 r76)).1 (d2 (d16 r76)).2.1 (d4 (d16 r76)).1 (d4 (d16 r76)).2.1 (d2 (d4 (d16 r76))).1 (d2 (d4 (d16 r76))).2.1 (d8 (d16 r76)).1 (d8 (d16 r76)).2.1 (d2 (d8 (d16 r76))).1 (d2 (d8 (d16 r76))).2.1 (d4 (d8 (d16 r76))).1 (d4 (d8 (d16 r76))).2.1 (d2 (d4 (d8 (d16 r76)))).1 (d2 (d4 (d8 (d16 r76)))).2.1 (d16 (d16 r76)).1 (d16 (d16 r76)).2.1 (d2 (d16 (d16 r76))).1 (d2 (d16 (d16 r76))).2.1 (d4 (d16 (d16 r76))).1 (d4 (d16 (d16 r76))).2.1 (d2 (d4 (d16 (d16 r76)))).1 (d2 (d4 (d16 (d16 r76)))).2.1 (d8 (d16 (d16 r76))).1 (d8 (d16 (d16 r76))).2.1 (d2 (d8 (d16 (d16 r76)))).1 (d2 (d8 (d16 (d16 r76)))).2.1 (d4 (d8 (d16 (d16 r76)))).1 (d4 (d8 (d16 (d16 r76)))).2.1 (d2 (d4 (d8 (d16 (d16 r76))))).1 (d2 (d4 (d8 (d16 (d16 r76))))).2.1 (d16 (d16 (d16 r76))).1 (d16 (d16 (d16 r76))).2.1 (d2 (d16 (d16 (d16 r76)))).1 (d2 (d16 (d16 (d16 r76)))).2.1 (d4 (d16 (d16 (d16 r76)))).1 (d4 (d16 (d16 (d16 r76)))).2.1 (d2 (d4 (d16 (d16 (d16 r76))))).1 (d2 (d4 (d16 (d16 (d16 r76))))).2.1 (d8 (d16 (d16 (d16 r76)))).1 (d8 (d16 (d16 (d16 r76)))).2.1 (d2 (d8 (d16 (d16 (d16 r76))))).1 (d2 (d8 (d16 (d16 (d16 r76))))).2.1 (d4 (d8 (d16 (d16 (d16 r76))))).1 (d4 (d8 (d16 (d16 (d16 r76))))).2.1 (d2 (d4 (d8 (d16 (d16 (d16 r76)))))).1 (d2 (d4 (d8 (d16 (d16 (d16 r76)))))).2.1 (d16 (d16 (d16 (d16 r76)))).1 (d16 (d16 (d16 (d16 r76)))).2.1 (d2 (d16 (d16 (d16 (d16 r76))))).1 (d2 (d16 (d16 (d16 (d16 r76))))).2.1 (d4 (d16 (d16 (d16 (d16 r76))))).1 (d4 (d16 (d16 (d16 (d16 r76))))).2.1 (d2 (d4 (d16 (d16 (d16 (d16 r76)))))).1 (d2 (d4 (d16 (d16 (d16 (d16 r76)))))).2.1 (d8 (d16 (d16 (d16 (d16 r76))))).1 (d8 (d16 (d16 (d16 (d16 r76))))).2.1 (d2 (d8 (d16 (d16 (d16 (d16 r76))))))
 else
 some (true, x2, x3, x4, x5, x6, x7, x8, x9, x10, x11, x12, x13, x14, x15, x16, x17, x18, x19, x20, x21, x22, x23, x24, x25, x26, x27, x28, x29, x30, x31, x32, x33, x34, x35, x36, x37, x38, x39, x40, x41, x42, x43, x44, x45, x46, x47, x48, x49, x50, x51, x52, x53, x54, x55, x56, x57, x58, x59, x60, x61, x62, x63, x64, x65, x66, x67, x68, x69, x70, x71, x72, x73, x74, x75)) := by kernel_rfl
theorem g123c124_eq (x0 x1 x2 x3 x4 x5 x6 x7 x8 x9 x10 x11 : Int) (x12 : Bool) (x13 x14 x15 x16 x17 x18 x19 x20 x21 x22 x23 x24 x25 x26 x27 x28 x29 x30 x31 x32 : Int) (x33 : LL) (x34 x35 x36 x37 x38 x39 : Int) (x40 : Bool) (x41 x42 x43 x44 : LL) (x45 x46 : Int) (x47 x48 x49 x50 x51 x52 x53 x54 : LL) (x55 x56 : Int) (x57 x58 x59 x60 x61 x62 x63 x64 : LL) (x65 : Bool) (x66 : Int) (x67 x68 x69 x70 x71 x72 x73 x74 : LL) : g123c124 x0 x1 x2 x3 x4 x5 x6 x7 x8 x9 x10 x11 x12 x13 x14 x15 x16 x17 x18 x19 x20 x21 x22 x23 x24 x25 x26 x27 x28 x29 x30 x31 x32 x33 x34 x35 x36 x37 x38 x39 x40 x41 x42 x43 x44 x45 x46 x47 x48 x49 x50 x51 x52 x53 x54 x55 x56 x57 x58 x59 x60 x61 x62 x63 x64 x65 x66 x67 x68 x69 x70 x71 x72 x73 x74 =
 (g123c124L0 FUEL x0 1 x1 x2 x3 x4 x5 x6 x7 x8 x9 x10 x11 x12 x13 x14 x15 x16 x17 x18 x19 x20 x21 x22 x23 x24 x25 x26 x27 x28 x29 x30 x31 x32 x33 x34 x35 x36 x37 x38 x39 x40 x41 x42 x43 x44 x45 x46 x47 x48 x49 x50 x51 x52 x53 x54 x55 x56 x57 x58 x59 x60 x61 x62 x63 x64 x65 x66 x67 x68 x69 x70 x71 x72 x73 x74) := by kernel_rfl
noncomputable def F129 : Fn := ⟨13, [2], [], [], 0, [], [], Tryz.f129, [.agg [.int .i64, .int .i64]], [.c (.bool)], [(110, F110.S), (67, F67.S)]⟩
theorem ok129 : F129.S.Ok Tryz.prog 129 := F129.ok Tryz.func129 (by kernel_rfl) ⟨ok110, ⟨ok67, trivial⟩⟩
noncomputable def g129 (x0 x1 : Int) : Option (Bool) := F129.S.g [.i x0, .i x1]
theorem g129_eq (x0 x1 : Int) : g129 x0 x1 =
 ((g110 x0).bind fun (r2 : Bool) =>
 if (!r2) = true then
 some (true)
 else
 (g67 x1).bind fun (r3 : Bool) =>
 some ((!r3))) := by kernel_rfl
noncomputable def F161c129 : Fn := ⟨19, [4], [(2, [(0, .c (.slice 2)), (1, .clo 129 []), (7, .c (.int .i64)), (8, .c (.int .i64))])], [], 0, [], [], Tryz.f161, [.c (.slice 2), .clo 129 []], [.c (.int .i64)], [(129, F129.S)]⟩
theorem ok161c129 : F161c129.S.Ok Tryz.prog 161 := F161c129.ok Tryz.func161 (by kernel_rfl) ⟨ok129, trivial⟩
noncomputable def g161c129 (x0 : LL) : Option (Int) := F161c129.S.g [.l x0]
noncomputable def g161c129L0 (k : Nat) (x0 : LL) (x1 x2 : Int) : Option (Int) := F161c129.lp [0] 0 r0 k [.l x0, .i x1, .i x2]
theorem g161c129L0_eq (k : Nat) (x0 : LL) (x1 x2 : Int) : g161c129L0 (k + 1) x0 x1 x2 =
 (if (cop .lss x2 x1) = true then
 elemK x0 x2 [.int .i64, .int .i64] fun (r3 : Int × Int) =>
 (g129 r3.1 r3.2).bind fun (r5 : Bool) =>
 if r5 = true then
 some (x2)
 else
 g161c129L0 k x0 x1 (iop .add .i64 x2 1)
 else
 some ((-1))) := by kernel_rfl
theorem g161c129_eq (x0 : LL) : g161c129 x0 =
 (g161c129L0 FUEL x0 (List.length x0 : Int) 0) := by kernel_rfl
noncomputable def F128c129 : Fn := ⟨9, [4], [], [], 0, [], [], Tryz.f128, [.c (.slice 2), .clo 129 []], [.c (.bool)], [(161, F161c129.S)]⟩
theorem ok128c129 : F128c129.S.Ok Tryz.prog 128 := F128c129.ok Tryz.func128 (by kernel_rfl) ⟨ok161c129, trivial⟩
noncomputable def g128c129 (x0 : LL) : Option (Bool) := F128c129.S.g [.l x0]
theorem g128c129_eq (x0 : LL) : g128c129 x0 =
 ((g161c129 x0).bind fun (r1 : Int) =>
 some ((cop .geq r1 0))) := by kernel_rfl
noncomputable def F68 : Fn := ⟨114, [4], [], [], 0, [], [], Tryz.f68, [.agg hs0, .c (.int .i64)], [.c (.bool)], [(110, F110.S), (111, F111.S), (112, F112.S), (113, F113.S), (114, F114c115.S), (117, F117.S), (118, F118c119.S), (66, F66.S), (121, F121c122.S), (123, F123c124.S), (125, F125.S), (126, F126.S), (127, F127.S), (128, F128c129.S)]⟩
theorem ok68 : F68.S.Ok Tryz.prog 68 := F68.ok Tryz.func68 (by kernel_rfl) ⟨ok110, ⟨ok111, ⟨ok112, ⟨ok113, ⟨ok114c115, ⟨ok117, ⟨ok118c119, ⟨ok66, ⟨ok121c122, ⟨ok123c124, ⟨ok125, ⟨ok126, ⟨ok127, ⟨ok128c129, trivial⟩⟩⟩⟩⟩⟩⟩⟩⟩⟩⟩⟩⟩⟩
noncomputable def g68 (x0 x1 x2 x3 x4 x5 x6 x7 x8 x9 x10 : Int) (x11 : Bool) (x12 x13 x14 x15 x16 x17 x18 x19 x20 x21 x22 x23 x24 x25 x26 x27 x28 x29 x30 x31 : Int) (x32 : LL) (x33 x34 x35 x36 x37 x38 : Int) (x39 : Bool) (x40 x41 x42 x43 : LL) (x44 x45 : Int) (x46 x47 x48 x49 x50 x51 x52 x53 : LL) (x54 x55 : Int) (x56 x57 x58 x59 x60 x61 x62 x63 : LL) (x64 : Bool) (x65 : Int) (x66 x67 x68 x69 x70 x71 x72 x73 : LL) (x74 : Int) : Option (Bool) := F68.S.g [.i x0, .i x1, .i x2, .i x3, .i x4, .i x5, .i x6, .i x7, .i x8, .i x9, .i x10, .b x11, .i x12, .i x13, .i x14, .i x15, .i x16, .i x17, .i x18, .i x19, .i x20, .i x21, .i x22, .i x23, .i x24, .i x25, .i x26, .i x27, .i x28, .i x29, .i x30, .i x31, .l x32, .i x33, .i x34, .i x35, .i x36, .i x37, .i x38, .b x39, .l x40, .l x41, .l x42, .l x43, .i x44, .i x45, .l x46, .l x47, .l x48, .l x49, .l x50, .l x51, .l x52, .l x53, .i x54, .i x55, .l x56, .l x57, .l x58, .l x59, .l x60, .l x61, .l x62, .l x63, .b x64, .i x65, .l x66, .l x67, .l x68, .l x69, .l x70, .l x71, .l x72, .l x73, .i x74]
theorem g68_eq (x0 x1 x2 x3 x4 x5 x6 x7 x8 x9 x10 : Int) (x11 : Bool) (x12 x13 x14 x15 x16 x17 x18 x19 x20 x21 x22 x23 x24 x25 x26 x27 x28 x29 x30 x31 : Int) (x32 : LL) (x33 x34 x35 x36 x37 x38 : Int) (x39 : Bool) (x40 x41 x42 x43 : LL) (x44 x45 : Int) (x46 x47 x48 x49 x50 x51 x52 x53 : LL) (x54 x55 : Int) (x56 x57 x58 x59 x60 x61 x62 x63 : LL) (x64 : Bool) (x65 : Int) (x66 x67 x68 x69 x70 x71 x72 x73 : LL) (x74 : Int) : g68 x0 x1 x2 x3 x4 x5 x6 x7 x8 x9 x10 x11 x12 x13 x14 x15 x16 x17 x18 x19 x20 x21 x22 x23 x24 x25 x26 x27 x28 x29 x30 x31 x32 x33 x34 x35 x36 x37 x38 x39 x40 x41 x42 x43 x44 x45 x46 x47 x48 x49 x50 x51 x52 x53 x54 x55 x56 x57 x58 x59 x60 x61 x62 x63 x64 x65 x66 x67 x68 x69 x70 x71 x72 x73 x74 =
 (if (cop .eql x74 0) = true then
 (g110 x5).bind fun (r75 : Bool) =>
 some (r75)
 else
 if (cop .eql x74 1) = true then
 (g111 x12 x13 x14 x15 x16 x17 x18 x19 x20 x21 x22 x23 x24 x25 x26 x27 x28 x29 x30 x31 x32 x33 x34 x35 x36 x37 x38 x39).bind fun (r75 : Bool) =>
 some (r75)
 else
 if (cop .eql x74 2) = true then
 (g112 x7 x8 x9).bind fun (r75 : Bool) =>
 some (r75)
 else
 if (cop .eql x74 3) = true then
 (g113 x10).bind fun (r75 : Bool) =>
 some (r75)
 else
 if (cop .eql x74 5) = true then
 if (cop .gtr (List.length x41 : Int) 8) = true then
 some (false)
 else
 if (cop .eql x0 4) = true then
 if (cop .neq (List.length x41 : Int) 1) = true then
 some (false)
 else
 (g114c115 x41).bind fun (r75 : Bool) =>
 some ((!r75))
 else
 (g114c115 x41).bind fun (r75 : Bool) =>
 some ((!r75))
 else
 if (cop .eql x74 6) = true then
 (g117 x6).bind fun (r75 : Bool) =>
 some (r75)
 else
 if (cop .eql x74 7) = true then
 if (cop .leq (List.length x40 : Int) 64) = true then
 (g118c119 x40).bind fun (r75 : Bool) =>
 some ((!r75))
 else
 some (false)
 else
 if (cop .eql x74 8) = true then
 (g66 x4).bind fun (r75 : Bool) =>
 some (r75)
 else
 if (cop .eql x74 9) = true then
 (g121c122 x42).bind fun (r75 : Bool) =>
 if (!r75) = true then
 (g123c124 (List.length x42 : Int) x0 x1 x2 x3 x4 x5 x6 x7 x8 x9 x10 x11 x12 x13 x14 x15 x16 x17 x18 x19 x20 x21 x22 x23 x24 x25 x26 x27 x28 x29 x30 x31 x32 x33 x34 x35 x36 x37 x38 x39 x40 x41 x42 x43 x44 x45 x46 x47 x48 x49 x50 x51 x52 x53 x54 x55 x56 x57 x58 x59 x60 x61 x62 x63 x64 x65 x66 x67 x68 x69 x70 x71 x72 x73).bind fun (r76 : Qt1) =>
 some (r76.1)
 else
 some (false)
 else
 if (cop .eql x74 10) = true then
 (g125 x54 x55 x56 x57 x58 x59 x60 x61 x62 x63 x64 x65 x66 x67 x68 x69 x70 x71 x72 x73).bind fun (r75 : Bool) =>
 some (r75)
 else
 if (cop .eql x74 11) = true then
 (g66 x44).bind fun (r75 : Bool) =>
 some (r75)
 else
 if (cop .eql x74 12) = true then
 (g126 x45 x46 x47).bind fun (r75 : Bool) =>
 some (r75)
 else
 if (cop .eql x74 13) = true then
 (g127 x48 x49 x50 x51 x52 x53).bind fun (r75 : Bool) =>
 some (r75)
 else
 if (cop .eql x74 14) = true then
 if (cop .leq (List.length x43 : Int) 16) = true then
 (g128c129 x43).bind fun (r75 : Bool) =>
 some ((!r75))
 else
 some (false)
 else
 some (true)) := by kernel_rfl
noncomputable def F69 : Fn := ⟨85, [], [], [0], 0, [], [], Tryz.f69, [.box hs0, .c (.int .i64)], [], []⟩
theorem ok69 : F69.S.Ok Tryz.prog 69 := F69.ok Tryz.func69 (by kernel_rfl) trivial
noncomputable def g69 (x0 x1 x2 x3 x4 x5 x6 x7 x8 x9 x10 : Int) (x11 : Bool) (x12 x13 x14 x15 x16 x17 x18 x19 x20 x21 x22 x23 x24 x25 x26 x27 x28 x29 x30 x31 : Int) (x32 : LL) (x33 x34 x35 x36 x37 x38 : Int) (x39 : Bool) (x40 x41 x42 x43 : LL) (x44 x45 : Int) (x46 x47 x48 x49 x50 x51 x52 x53 : LL) (x54 x55 : Int) (x56 x57 x58 x59 x60 x61 x62 x63 : LL) (x64 : Bool) (x65 : Int) (x66 x67 x68 x69 x70 x71 x72 x73 : LL) (x74 : Int) : Option (Qt2) := F69.S.g [.i x0, .i x1, .i x2, .i x3, .i x4, .i x5, .i x6, .i x7, .i x8, .i x9, .i x10, .b x11, .i x12, .i x13, .i x14, .i x15, .i x16, .i x17, .i x18, .i x19, .i x20, .i x21, .i x22, .i x23, .i x24, .i x25, .i x26, .i x27, .i x28, .i x29, .i x30, .i x31, .l x32, .i x33, .i x34, .i x35, .i x36, .i x37, .i x38, .b x39, .l x40, .l x41, .l x42, .l x43, .i x44, .i x45, .l x46, .l x47, .l x48, .l x49, .l x50, .l x51, .l x52, .l x53, .i x54, .i x55, .l x56, .l x57, .l x58, .l x59, .l x60, .l x61, .l x62, .l x63, .b x64, .i x65, .l x66, .l x67, .l x68, .l x69, .l x70, .l x71, .l x72, .l x73, .i x74]
theorem g69_eq (x0 x1 x2 x3 x4 x5 x6 x7 x8 x9 x10 : Int) (x11 : Bool) (x12 x13 x14 x15 x16 x17 x18 x19 x20 x21 x22 x23 x24 x25 x26 x27 x28 x29 x30 x31 : Int) (x32 : LL) (x33 x34 x35 x36 x37 x38 : Int) (x39 : Bool) (x40 x41 x42 x43 : LL) (x44 x45 : Int) (x46 x47 x48 x49 x50 x51 x52 x53 : LL) (x54 x55 : Int) (x56 x57 x58 x59 x60 x61 x62 x63 : LL) (x64 : Bool) (x65 : Int) (x66 x67 x68 x69 x70 x71 x72 x73 : LL) (x74 : Int) : g69 x0 x1 x2 x3 x4 x5 x6 x7 x8 x9 x10 x11 x12 x13 x14 x15 x16 x17 x18 x19 x20 x21 x22 x23 x24 x25 x26 x27 x28 x29 x30 x31 x32 x33 x34 x35 x36 x37 x38 x39 x40 x41 x42 x43 x44 x45 x46 x47 x48 x49 x50 x51 x52 x53 x54 x55 x56 x57 x58 x59 x60 x61 x62 x63 x64 x65 x66 x67 x68 x69 x70 x71 x72 x73 x74 =
 (if (cop .eql x74 0) = true then
 some (x0, x1, x2, x3, x4, 0, x6, x7, x8, x9, x10, x11, x12, x13, x14, x15, x16, x17, x18, x19, x20, x21, x22, x23, x24, x25, x26, x27, x28, x29, x30, x31, x32, x33, x34, x35, x36, x37, x38, x39, x40, x41, x42, x43, x44, x45, x46, x47, x48, x49, x50, x51, x52, x53, x54, x55, x56, x57, x58, x59, x60, x61, x62, x63, x64, x65, x66, x67, x68, x69, x70, x71, x72, x73)
 else
 if (cop .eql x74 1) = true then
 some (x0, x1, x2, x3, x4, x5, x6, x7, x8, x9, x10, x11, 0, 0, 0, 0, 0, 0, 0, 0, 0, 0, 0, 0, 0, 0, 0, 0, 0, 0, 0, 0, ([] : LL), 0, 0, 0, 0, 0, 0, false, x40, x41, x42, x43, x44, x45, x46, x47, x48, x49, x50, x51, x52, x53, x54, x55, x56, x57, x58, x59, x60, x61, x62, x63, x64, x65, x66, x67, x68, x69, x70, x71, x72, x73)
 else
 if (cop .eql x74 2) = true then
 some (x0, x1, x2, x3, x4, x5, x6, 0, 0, 0, x10, x11, x12, x13, x14, x15, x16, x17, x18, x19, x20, x21, x22, x23, x24, x25, x26, x27, x28, x29, x30, x31, x32, x33, x34, x35, x36, x37, x38, x39, x40, x41, x42, x43, x44, x45, x46, x47, x48, x49, x50, x51, x52, x53, x54, x55, x56, x57, x58, x59, x60, x61, x62, x63, x64, x65, x66, x67, x68, x69, x70, x71, x72, x73)
 else
 if (cop .eql x74 3) = true then
 some (x0, x1, x2, x3, x4, x5, x6, x7, x8, x9, 0, x11, x12, x13, x14, x15, x16, x17, x18, x19, x20, x21, x22, x23, x24, x25, x26, x27, x28, x29, x30, x31, x32, x33, x34, x35, x36, x37, x38, x39, x40, x41, x42, x43, x44, x45, x46, x47, x48, x49, x50, x51, x52, x53, x54, x55, x56, x57, x58, x59, x60, x61, x62, x63, x64, x65, x66, x67, x68, x69, x70, x71, x72, x73)
 else
 if (cop .eql x74 4) = true then
 some (x0, x1, x2, x3, x4, x5, x6, x7, x8, x9, x10, false, x12, x13, x14, x15, x16, x17, x18, x19, x20, x21, x22, x23, x24, x25, x26, x27, x28, x29, x30, x31, x32, x33, x34, x35, x36, x37, x38, x39, x40, x41, x42, x43, x44, x45, x46, x47, x48, x49, x50, x51, x52, x53, x54, x55, x56, x57, x58, x59, x60, x61, x62, x63, x64, x65, x66, x67, x68, x69, x70, x71, x72, x73)
 else
 if (cop .eql x74 5) = true then
 some (x0, x1, x2, x3, x4, x5, x6, x7, x8, x9, x10, x11, x12, x13, x14, x15, x16, x17, x18, x19, x20, x21, x22, x23, x24, x25, x26, x27, x28, x29, x30, x31, x32, x33, x34, x35, x36, x37, x38, x39, x40, ([] : LL), x42, x43, x44, x45, x46, x47, x48, x49, x50, x51, x52, x53, x54, x55, x56, x57, x58, x59, x60, x61, x62, x63, x64, x65, x66, x67, x68, x69, x70, x71, x72, x73)
 else
 if (cop .eql x74 6) = true then
 some (x0, x1, x2, x3, x4, x5, 0, x7, x8, x9, x10, x11, x12, x13, x14, x15, x16, x17, x18, x19, x20, x21, x22, x23, x24, x25, x26, x27, x28, x29, x30, x31, x32, x33, x34, x35, x36, x37, x38, x39, x40, x41, x42, x43, x44, x45, x46, x47, x48, x49, x50, x51, x52, x53, x54, x55, x56, x57, x58, x59, x60, x61, x62, x63, x64, x65, x66, x67, x68, x69, x70, x71, x72, x73)
 else
 if (cop .eql x74 7) = true then
 some (x0, x1, x2, x3, x4, x5, x6, x7, x8, x9, x10, x11, x12, x13, x14, x15, x16, x17, x18, x19, x20, x21, x22, x23, x24, x25, x26, x27, x28, x29, x30, x31, x32, x33, x34, x35, x36, x37, x38, x39, ([] : LL), x41, x42, x43, x44, x45, x46, x47, x48, x49, x50, x51, x52, x53, x54, x55, x56, x57, x58, x59, x60, x61, x62, x63, x64, x65, x66, x67, x68, x69, x70, x71, x72, x73)
 else
 if (cop .eql x74 8) = true then
 some (x0, x1, x2, x3, 0, x5, x6, x7, x8, x9, x10, x11, x12, x13, x14, x15, x16, x17, x18, x19, x20, x21, x22, x23, x24, x25, x26, x27, x28, x29, x30, x31, x32, x33, x34, x35, x36, x37, x38, x39, x40, x41, x42, x43, x44, x45, x46, x47, x48, x49, x50, x51, x52, x53, x54, x55, x56, x57, x58, x59, x60, x61, x62, x63, x64, x65, x66, x67, x68, x69, x70, x71, x72, x73)
 else
 if (cop .eql x74 9) = true then
 some (x0, x1, x2, x3, x4, x5, x6, x7, x8, x9, x10, x11, x12, x13, x14, x15, x16, x17, x18, x19, x20, x21, x22, x23, x24, x25, x26, x27, x28, x29, x30, x31, x32, x33, x34, x35, x36, x37, x38, x39, x40, x41, ([] : LL), x43, x44, x45, x46, x47, x48, x49, x50, x51, x52, x53, x54, x55, x56, x57, x58, x59, x60, x61, x62, x63, x64, x65, x66, x67, x68, x69, x70, x71, x72, x73)
 else
 if (cop .eql x74 10) = true then
 some (x0, x1, x2, x3, x4, x5, x6, x7, x8, x9, x10, x11, x12, x13, x14, x15, x16, x17, x18, x19, x20, x21, x22, x23, x24, x25, x26, x27, x28, x29, x30, x31, x32, x33, x34, x35, x36, x37, x38, x39, x40, x41, x42, x43, x44, x45, x46, x47, x48, x49, x50, x51, x52, x53, 0, 0, ([] : LL), ([] : LL), ([] : LL), ([] : LL), ([] : LL), ([] : LL), ([] : LL), ([] : LL), false, 0, ([] : LL), ([] : LL), ([] : LL), ([] : LL), ([] : LL), ([] : LL), ([] : LL), ([] : LL))
 else
 if (cop .eql x74 11) = true then
 some (x0, x1, x2, x3, x4, x5, x6, x7, x8, x9, x10, x11, x12, x13, x14, x15, x16, x17, x18, x19, x20, x21, x22, x23, x24, x25, x26, x27, x28, x29, x30, x31, x32, x33, x34, x35, x36, x37, x38, x39, x40, x41, x42, x43, 0, x45, x46, x47, x48, x49, x50, x51, x52, x53, x54, x55, x56, x57, x58, x59, x60, x61, x62, x63, x64, x65, x66, x67, x68, x69, x70, x71, x72, x73)
 else
 if (cop .eql x74 12) = true then
 some (x0, x1, x2, x3, x4, x5, x6, x7, x8, x9, x10, x11, x12, x13, x14, x15, x16, x17, x18, x19, x20, x21, x22, x23, x24, x25, x26, x27, x28, x29, x30, x31, x32, x33, x34, x35, x36, x37, x38, x39, x40, x41, x42, x43, x44, 0, ([] : LL), ([] : LL), x48, x49, x50, x51, x52, x53, x54, x55, x56, x57, x58, x59, x60, x61, x62, x63, x64, x65, x66, x67, x68, x69, x70, x71, x72, x73)
 else
 if (cop .eql x74 13) = true then
 some (x0, x1, x2, x3, x4, x5, x6, x7, x8, x9, x10, x11, x12, x13, x14, x15, x16, x17, x18, x19, x20, x21, x22, x23, x24, x25, x26, x27, x28, x29, x30, x31, x32, x33, x34, x35, x36, x37, x38, x39, x40, x41, x42, x43, x44, x45, x46, x47, ([] : LL), ([] : LL), ([] : LL), ([] : LL), ([] : LL), ([] : LL), x54, x55, x56, x57, x58, x59, x60, x61, x62, x63, x64, x65, x66, x67, x68, x69, x70, x71, x72, x73)
 else
 if (cop .eql x74 14) = true then
 some (x0, x1, x2, x3, x4, x5, x6, x7, x8, x9, x10, x11, x12, x13, x14, x15, x16, x17, x18, x19, x20, x21, x22, x23, x24, x25, x26, x27, x28, x29, x30, x31, x32, x33, x34, x35, x36, x37, x38, x39, x40, x41, x42, ([] : LL), x44, x45, x46, x47, x48, x49, x50, x51, x52, x53, x54, x55, x56, x57, x58, x59, x60, x61, x62, x63, x64, x65, x66, x67, x68, x69, x70, x71, x72, x73)
 else
 some (x0, x1, x2, x3, x4, x5, x6, x7, x8, x9, x10, x11, x12, x13, x14, x15, x16, x17, x18, x19, x20, x21, x22, x23, x24, x25, x26, x27, x28, x29, x30, x31, x32, x33, x34, x35, x36, x37, x38, x39, x40, x41, x42, x43, x44, x45, x46, x47, x48, x49, x50, x51, x52, x53, x54, x55, x56, x57, x58, x59, x60, x61, x62, x63, x64, x65, x66, x67, x68, x69, x70, x71, x72, x73)) := by kernel_rfl
noncomputable def F130 : Fn := ⟨29, [2], [], [], 0, [], [], Tryz.f130, [.agg hs3], [.c (.bool)], [(148, F148.S)]⟩
theorem ok130 : F130.S.Ok Tryz.prog 130 := F130.ok Tryz.func130 (by kernel_rfl) ⟨ok148, trivial⟩
noncomputable def g130 (x0 x1 x2 x3 x4 x5 x6 x7 x8 x9 x10 x11 x12 x13 x14 x15 x16 x17 x18 x19 : Int) (x20 : LL) (x21 x22 x23 x24 x25 x26 : Int) (x27 : Bool) : Option (Bool) := F130.S.g [.i x0, .i x1, .i x2, .i x3, .i x4, .i x5, .i x6, .i x7, .i x8, .i x9, .i x10, .i x11, .i x12, .i x13, .i x14, .i x15, .i x16, .i x17, .i x18, .i x19, .l x20, .i x21, .i x22, .i x23, .i x24, .i x25, .i x26, .b x27]
theorem g130_eq (x0 x1 x2 x3 x4 x5 x6 x7 x8 x9 x10 x11 x12 x13 x14 x15 x16 x17 x18 x19 : Int) (x20 : LL) (x21 x22 x23 x24 x25 x26 : Int) (x27 : Bool) : g130 x0 x1 x2 x3 x4 x5 x6 x7 x8 x9 x10 x11 x12 x13 x14 x15 x16 x17 x18 x19 x20 x21 x22 x23 x24 x25 x26 x27 =
 (if ((cop .eql x0 0) && ((cop .eql x1 0) && ((cop .eql x2 0) && true))) = true then
 if ((cop .eql x3 0) && ((cop .eql x4 0) && ((cop .eql x5 0) && ((cop .eql x6 0) && ((cop .eql x7 0) && ((cop .eql x8 0) && ((cop .eql x9 0) && ((cop .eql x10 0) && ((cop .eql x11 0) && ((cop .eql x12 0) && ((cop .eql x13 0) && ((cop .eql x14 0) && true)))))))))))) = true then
 if (cop .eql x15 0) = true then
 if (cop .eql x16 0) = true then
 (g148 x17 x18 x19 x20 x21 x22 x23 x24 x25 x26 x27 0 0 0 ([] : LL) 0 0 0 0 0 0 false).bind fun (r28 : Bool) =>
 some (r28)
 else
 some (false)
 else
 some (false)
 else
 some (false)
 else
 some (false)) := by kernel_rfl
noncomputable def F131 : Fn := ⟨18, [2], [], [], 0, [], [], Tryz.f131, [.agg [.int .i64, .slice 1, .slice 1]], [.c (.bool)], []⟩
theorem ok131 : F131.S.Ok Tryz.prog 131 := F131.ok Tryz.func131 (by kernel_rfl) trivial
noncomputable def g131 (x0 : Int) (x1 x2 : LL) : Option (Bool) := F131.S.g [.i x0, .l x1, .l x2]
theorem g131_eq (x0 : Int) (x1 x2 : LL) : g131 x0 x1 x2 =
 (if (cop .eql x0 0) = true then
 if (cop .eql (List.length x1 : Int) 0) = true then
 some ((cop .eql (List.length x2 : Int) 0))
 else
 some (false)
 else
 some (false)) := by kernel_rfl
noncomputable def F132 : Fn := ⟨37, [2], [], [], 0, [], [], Tryz.f132, [.agg hs16], [.c (.bool)], []⟩
theorem ok132 : F132.S.Ok Tryz.prog 132 := F132.ok Tryz.func132 (by kernel_rfl) trivial
noncomputable def g132 (x0 x1 x2 x3 x4 x5 : LL) : Option (Bool) := F132.S.g [.l x0, .l x1, .l x2, .l x3, .l x4, .l x5]
theorem g132_eq (x0 x1 x2 x3 x4 x5 : LL) : g132 x0 x1 x2 x3 x4 x5 =
 (if (cop .eql (List.length x0 : Int) 0) = true then
 if (cop .eql (List.length x1 : Int) 0) = true then
 if (cop .eql (List.length x2 : Int) 0) = true then
 if (cop .eql (List.length x3 : Int) 0) = true then
 if (cop .eql (List.length x4 : Int) 0) = true then
 some ((cop .eql (List.length x5 : Int) 0))
 else
 some (false)
 else
 some (false)
 else
 some (false)
 else
 some (false)
 else
 some (false)) := by kernel_rfl
noncomputable def F133 : Fn := ⟨31, [2], [], [], 0, [], [], Tryz.f133, [.agg hs4], [.c (.bool)], [(131, F131.S), (132, F132.S)]⟩
theorem ok133 : F133.S.Ok Tryz.prog 133 := F133.ok Tryz.func133 (by kernel_rfl) ⟨ok131, ⟨ok132, trivial⟩⟩
noncomputable def g133 (x0 x1 : Int) (x2 x3 x4 x5 x6 x7 x8 x9 : LL) (x10 : Bool) (x11 : Int) (x12 x13 x14 x15 x16 x17 x18 x19 : LL) : Option (Bool) := F133.S.g [.i x0, .i x1, .l x2, .l x3, .l x4, .l x5, .l x6, .l x7, .l x8, .l x9, .b x10, .i x11, .l x12, .l x13, .l x14, .l x15, .l x16, .l x17, .l x18, .l x19]
theorem g133_eq (x0 x1 : Int) (x2 x3 x4 x5 x6 x7 x8 x9 : LL) (x10 : Bool) (x11 : Int) (x12 x13 x14 x15 x16 x17 x18 x19 : LL) : g133 x0 x1 x2 x3 x4 x5 x6 x7 x8 x9 x10 x11 x12 x13 x14 x15 x16 x17 x18 x19 =
 (if (cop .eql x0 0) = true then
 (g131 x1 x2 x3).bind fun (r20 : Bool) =>
 if r20 = true then
 (g132 x4 x5 x6 x7 x8 x9).bind fun (r21 : Bool) =>
 if r21 = true then
 if (!x10) = true then
 (g131 x11 x12 x13).bind fun (r22 : Bool) =>
 if r22 = true then
 (g132 x14 x15 x16 x17 x18 x19).bind fun (r23 : Bool) =>
 some (r23)
 else
 some (false)
 else
 some (false)
 else
 some (false)
 else
 some (false)
 else
 some (false)) := by kernel_rfl
noncomputable def F70 : Fn := ⟨81, [2], [], [], 0, [], [], Tryz.f70, [.agg hs0], [.c (.bool)], [(130, F130.S), (131, F131.S), (132, F132.S), (133, F133.S)]⟩
theorem ok70 : F70.S.Ok Tryz.prog 70 := F70.ok Tryz.func70 (by kernel_rfl) ⟨ok130, ⟨ok131, ⟨ok132, ⟨ok133, trivial⟩⟩⟩⟩
noncomputable def g70 (x0 x1 x2 x3 x4 x5 x6 x7 x8 x9 x10 : Int) (x11 : Bool) (x12 x13 x14 x15 x16 x17 x18 x19 x20 x21 x22 x23 x24 x25 x26 x27 x28 x29 x30 x31 : Int) (x32 : LL) (x33 x34 x35 x36 x37 x38 : Int) (x39 : Bool) (x40 x41 x42 x43 : LL) (x44 x45 : Int) (x46 x47 x48 x49 x50 x51 x52 x53 : LL) (x54 x55 : Int) (x56 x57 x58 x59 x60 x61 x62 x63 : LL) (x64 : Bool) (x65 : Int) (x66 x67 x68 x69 x70 x71 x72 x73 : LL) : Option (Bool) := F70.S.g [.i x0, .i x1, .i x2, .i x3, .i x4, .i x5, .i x6, .i x7, .i x8, .i x9, .i x10, .b x11, .i x12, .i x13, .i x14, .i x15, .i x16, .i x17, .i x18, .i x19, .i x20, .i x21, .i x22, .i x23, .i x24, .i x25, .i x26, .i x27, .i x28, .i x29, .i x30, .i x31, .l x32, .i x33, .i x34, .i x35, .i x36, .i x37, .i x38, .b x39, .l x40, .l x41, .l x42, .l x43, .i x44, .i x45, .l x46, .l x47, .l x48, .l x49, .l x50, .l x51, .l x52, .l x53, .i x54, .i x55, .l x56, .l x57, .l x58, .l x59, .l x60, .l x61, .l x62, .l x63, .b x64, .i x65, .l x66, .l x67, .l x68, .l x69, .l x70, .l x71, .l x72, .l x73]
theorem g70_eq (x0 x1 x2 x3 x4 x5 x6 x7 x8 x9 x10 : Int) (x11 : Bool) (x12 x13 x14 x15 x16 x17 x18 x19 x20 x21 x22 x23 x24 x25 x26 x27 x28 x29 x30 x31 : Int) (x32 : LL) (x33 x34 x35 x36 x37 x38 : Int) (x39 : Bool) (x40 x41 x42 x43 : LL) (x44 x45 : Int) (x46 x47 x48 x49 x50 x51 x52 x53 : LL) (x54 x55 : Int) (x56 x57 x58 x59 x60 x61 x62 x63 : LL) (x64 : Bool) (x65 : Int) (x66 x67 x68 x69 x70 x71 x72 x73 : LL) : g70 x0 x1 x2 x3 x4 x5 x6 x7 x8 x9 x10 x11 x12 x13 x14 x15 x16 x17 x18 x19 x20 x21 x22 x23 x24 x25 x26 x27 x28 x29 x30 x31 x32 x33 x34 x35 x36 x37 x38 x39 x40 x41 x42 x43 x44 x45 x46 x47 x48 x49 x50 x51 x52 x53 x54 x55 x56 x57 x58 x59 x60 x61 x62 x63 x64 x65 x66 x67 x68 x69 x70 x71 x72 x73 =
 (if (cop .eql x4 0) = true then
 if (cop .eql x5 0) = true then
 if (cop .eql x6 0) = true then
 if ((cop .eql x7 0) && ((cop .eql x8 0) && ((cop .eql x9 0) && true))) = true then
 if (cop .eql x10 0) = true then
 if (!x11) = true then
 (g130 x12 x13 x14 x15 x16 x17 x18 x19 x20 x21 x22 x23 x24 x25 x26 x27 x28 x29 x30 x31 x32 x33 x34 x35 x36 x37 x38 x39).bind fun (r74 : Bool) =>
 if r74 = true then
 if (cop .eql (List.length x40 : Int) 0) = true then
 if (cop .eql (List.length x41 : Int) 0) = true then
 if (cop .eql (List.length x42 : Int) 0) = true then
 if (cop .eql (List.length x43 : Int) 0) = true then
 if (cop .eql x44 0) = true then
 (g131 x45 x46 x47).bind fun (r75 : Bool) =>
 if r75 = true then
 (g132 x48 x49 x50 x51 x52 x53).bind fun (r76 : Bool) =>
 if r76 = true then
 (g133 x54 x55 x56 x57 x58 x59 x60 x61 x62 x63 x64 x65 x66 x67 x68 x69 x70 x71 x72 x73).bind fun (r77 : Bool) =>
 some (r77)
 else
 some (false)
 else
 some (false)
 else
 some (false)
 else
 some (false)
 else
 some (false)
 else
 some (false)
 else
 some (false)
 else
 some (false)
 else
 some (false)
 else
 some (false)
 else
 some (false)
 else
 some (false)
 else
 some (false)
 else
 some (false)) := by kernel_rfl
noncomputable def F40 : Fn := ⟨50, [2], [(6, [(1, .box hs0), (5, .box hs0), (35, .c (.slice 1)), (36, .c (.int .i64)), (37, .c (.int .i64))])], [], 0, [], [], Tryz.f40, [.agg hs0], [.c (.bool)], [(65, F65.S), (66, F66.S), (67, F67.S), (68, F68.S), (69, F69.S), (70, F70.S)]⟩
theorem ok40 : F40.S.Ok Tryz.prog 40 := F40.ok Tryz.func40 (by kernel_rfl) ⟨ok65, ⟨ok66, ⟨ok67, ⟨ok68, ⟨ok69, ⟨ok70, trivial⟩⟩⟩⟩⟩⟩
noncomputable def g40 (x0 x1 x2 x3 x4 x5 x6 x7 x8 x9 x10 : Int) (x11 : Bool) (x12 x13 x14 x15 x16 x17 x18 x19 x20 x21 x22 x23 x24 x25 x26 x27 x28 x29 x30 x31 : Int) (x32 : LL) (x33 x34 x35 x36 x37 x38 : Int) (x39 : Bool) (x40 x41 x42 x43 : LL) (x44 x45 : Int) (x46 x47 x48 x49 x50 x51 x52 x53 : LL) (x54 x55 : Int) (x56 x57 x58 x59 x60 x61 x62 x63 : LL) (x64 : Bool) (x65 : Int) (x66 x67 x68 x69 x70 x71 x72 x73 : LL) : Option (Bool) := F40.S.g [.i x0, .i x1, .i x2, .i x3, .i x4, .i x5, .i x6, .i x7, .i x8, .i x9, .i x10, .b x11, .i x12, .i x13, .i x14, .i x15, .i x16, .i x17, .i x18, .i x19, .i x20, .i x21, .i x22, .i x23, .i x24, .i x25, .i x26, .i x27, .i x28, .i x29, .i x30, .i x31, .l x32, .i x33, .i x34, .i x35, .i x36, .i x37, .i x38, .b x39, .l x40, .l x41, .l x42, .l x43, .i x44, .i x45, .l x46, .l x47, .l x48, .l x49, .l x50, .l x51, .l x52, .l x53, .i x54, .i x55, .l x56, .l x57, .l x58, .l x59, .l x60, .l x61, .l x62, .l x63, .b x64, .i x65, .l x66, .l x67, .l x68, .l x69, .l x70, .l x71, .l x72, .l x73]
noncomputable def g40L0 (k : Nat) (x0 x1 x2 x3 x4 x5 x6 x7 x8 x9 x10 : Int) (x11 : Bool) (x12 x13 x14 x15 x16 x17 x18 x19 x20 x21 x22 x23 x24 x25 x26 x27 x28 x29 x30 x31 : Int) (x32 : LL) (x33 x34 x35 x36 x37 x38 : Int) (x39 : Bool) (x40 x41 x42 x43 : LL) (x44 x45 : Int) (x46 x47 x48 x49 x50 x51 x52 x53 : LL) (x54 x55 : Int) (x56 x57 x58 x59 x60 x61 x62 x63 : LL) (x64 : Bool) (x65 : Int) (x66 x67 x68 x69 x70 x71 x72 x73 : LL) (x74 x75 x76 x77 x78 x79 x80 x81 x82 x83 x84 : Int) (x85 : Bool) (x86 x87 x88 x89 x90 x91 x92 x93 x94 x95 x96 x97 x98 x99 x100 x101 x102 x103 x104 x105 : Int) (x106 : LL) (x107 x108 x109 x110 x111 x112 : Int) (x113 : Bool) (x114 x115 x116 x117 : LL) (x118 x119 : Int) (x120 x121 x122 x123 x124 x125 x126 x127 : LL) (x128 x129 : Int) (x130 x131 x132 x133 x134 x135 x136 x137 : LL) (x138 : Bool) (x139 : Int) (x140 x141 x142 x143 x144 x145 x146 x147 x148 : LL) (x149 x150 : Int) : Option (Bool) := F40.lp [0, 1, 0, 1, 0, 1, 0, 1, 0] 0 r0 k [.i x0, .i x1, .i x2, .i x3, .i x4, .i x5, .i x6, .i x7, .i x8, .i x9, .i x10, .b x11, .i x12, .i x13, .i x14, .i x15, .i x16, .i x17, .i x18, .i x19, .i x20, .i x21, .i x22, .i x23, .i x24, .i x25, .i x26, .i x27, .i x28, .i x29, .i x30, .i x31, .l x32, .i x33, .i x34, .i x35, .i x36, .i x37, .i x38, .b x39, .l x40, .l x41, .l x42, .l x43, .i x44, .i x45, .l x46, .l x47, .l x48, .l x49, .l x50, .l x51, .l x52, .l x53, .i x54, .i x55, .l x56, .l x57, .l x58, .l x59, .l x60, .l x61, .l x62, .l x63, .b x64, .i x65, .l x66, .l x67, .l x68, .l x69, .l x70, .l x71, .l x72, .l x73, .i x74, .i x75, .i x76, .i x77, .i x78, .i x79, .i x80, .i x81, .i x82, .i x83, .i x84, .b x85, .i x86, .i x87, .i x88, .i x89, .i x90, .i x91, .i x92, .i x93, .i x94, .i x95, .i x96, .i x97, .i x98, .i x99, .i x100, .i x101, .i x102, .i x103, .i x104, .i x105, .l x106, .i x107, .i x108, .i x109, .i x110, .i x111, .i x112, .b x113, .l x114, .l x115, .l x116, .l x117, .i x118, .i x119, .l x120, .l x121, .l x122, .l x123, .l x124, .l x125, .l x126, .l x127, .i x128, .i x129, .l x130, .l x131, .l x132, .l x133, .l x134, .l x135, .l x136, .l x137, .b x138, .i x139, .l x140, .l x141, .l x142, .l x143, .l x144, .l x145, .l x146, .l x147, .l x148, .i x149, .i x150]
theorem g40L0_eq (k : Nat) (x0 x1 x2 x3 x4 x5 x6 x7 x8 x9 x10 : Int) (x11 : Bool) (x12 x13 x14 x15 x16 x17 x18 x19 x20 x21 x22 x23 x24 x25 x26 x27 x28 x29 x30 x31 : Int) (x32 : LL) (x33 x34 x35 x36 x37 x38 : Int) (x39 : Bool) (x40 x41 x42 x43 : LL) (x44 x45 : Int) (x46 x47 x48 x49 x50 x51 x52 x53 : LL) (x54 x55 : Int) (x56 x57 x58 x59 x60 x61 x62 x63 : LL) (x64 : Bool) (x65 : Int) (x66 x67 x68 x69 x70 x71 x72 x73 : LL) (x74 x75 x76 x77 x78 x79 x80 x81 x82 x83 x84 : Int) (x85 : Bool) (x86 x87 x88 x89 x90 x91 x92 x93 x94 x95 x96 x97 x98 x99 x100 x101 x102 x103 x104 x105 : Int) (x106 : LL) (x107 x108 x109 x110 x111 x112 : Int) (x113 : Bool) (x114 x115 x116 x117 : LL) (x118 x119 : Int) (x120 x121 x122 x123 x124 x125 x126 x127 : LL) (x128 x129 : Int) (x130 x131 x132 x133 x134 x135 x136 x137 : LL) (x138 : Bool) (x139 : Int) (x140 x141 x142 x143 x144 x145 x146 x147 x148 : LL) (x149 x150 : Int) : g40L0 (k + 1) x0 x1 x2 x3 x4 x5 x6 x7 x8 x9 x10 x11 x12 x13 x14 x15 x16 x17 x18 x19 x20 x21 x22 x23 x24 x25 x26 x27 x28 x29 x30 x31 x32 x33 x34 x35 x36 x37 x38 x39 x40 x41 x42 x43 x44 x45 x46 x47 x48 x49 x50 x51 x52 x53 x54 x55 x56 x57 x58 x59 x60 x61 x62 x63 x64 x65 x66 x67 x68 x69 x70 x71 x72 x73 x74 x75 x76 x77 x78 x79 x80 x81 x82 x83 x84 x85 x86 x87 x88 x89 x90 x91 x92 x93 x94 x95 x96 x97 x98 x99 x100 x101 x102 x103 x104 x105 x106 x107 x108 x109 x110 x111 x112 x113 x114 x115 x116 x117 x118 x119 x120 x121 x122 x123 x124 x125 x126 x127 x128 x129 x130 x131 x132 x133 x134 x135 x136 x137 x138 x139 x140 x141 x142 x143 x144 x145 x146 x147 x148 x149 x150 =
 (if (cop .lss x150 x149) = true then
 elemK x148 x150 [.int .i64] fun (r151 : Int) =>
 (g68 x0 x1 x2 x3 x4 x5 x6 x7 x8 x9 x10 x11 x12 x13 x14 x15 x16 x17 x18 x19 x20 x21 x22 x23 x24 x25 x26 x27 x28 x29 x30 x31 x32 x33 x34 x35 x36 x37 x38 x39 x40 x41 x42 x43 x44 x45 x46 x47 x48 x49 x50 x51 x52 x53 x54 x55 x56 x57 x58 x59 x60 x61 x62 x63 x64 x65 x66 x67 x68 x69 x70 x71 x72 x73 r151).bind fun (r152 : Bool) =>
 if (!r152) = true then
 some (false)
 else
 (g69 x74 x75 x76 x77 x78 x79 x80 x81 x82 x83 x84 x85 x86 x87 x88 x89 x90 x91 x92 x93 x94 x95 x96 x97 x98 x99 x100 x101 x102 x103 x104 x105 x106 x107 x108 x109 x110 x111 x112 x113 x114 x115 x116 x117 x118 x119 x120 x121 x122 x123 x124 x125 x126 x127 x128 x129 x130 x131 x132 x133 x134 x135 x136 x137 x138 x139 x140 x141 x142 x143 x144 x145 x146 x147 r151).bind fun (r153 : Qt2) =>
 g40L0 k x0 x1 x2 x3 x4 x5 x6 x7 x8 x9 x10 x11 x12 x13 x14 x15 x16 x17 x18 x19 x20 x21 x22 x23 x24 x25 x26 x27 x28 x29 x30 x31 x32 x33 x34 x35 x36 x37 x38 x39 x40 x41 x42 x43 x44 x45 x46 x47 x48 x49 x50 x51 x52 x53 x54 x55 x56 x57 x58 x59 x60 x61 x62 x63 x64 x65 x66 x67 x68 x69 x70 x71 x72 x73 r153.1 r153.2.1 r153.2.2.1 r153.2.2.2.1 r153.2.2.2.2.1 r153.2.2.2.2.2.1 r153.2.2.2.2.2.2.1 r153.2.2.2.2.2.2.2.1 r153.2.2.2.2.2.2.2.2.1 r153.2.2.2.2.2.2.2.2.2.1 r153.2.2.2.2.2.2.2.2.2.2.1 r153.2.2.2.2.2.2.2.2.2.2.2.1 (d4 (d8 r153)).1 (d4 (d8 r153)).2.1 (d2 (d4 (d8 r153))).1 (d2 (d4 (d8 r153))).2.1 (d16 r153).1 (d16 r153).2.1 (d2 (d16 r153)).1 (d2 (d16 r153)).2.1 (d4 (d16 r153)).1 (d4 (d16 r153)).2.1 (d2 (d4 (d16 r153))).1 (d2 (d4 (d16 r153))).2.1 (d8 (d16 r153)).1 (d8 (d16 r153)).2.1 (d2 (d8 (d16 r153))).1 (d2 (d8 (d16 r153))).2.1 (d4 (d8 (d16 r153))).1 (d4 (d8 (d16 r153))).2.1 (d2 (d4 (d8 (d16 r153)))).1 (d2 (d4 (d8 (d16 r153)))).2.1 (d16 (d16 r153)).1 (d16 (d16 r153)).2.1 (d2 (d16 (d16 r153))).1 (d2 (d16 (d16 r153))).2.1 (d4 (d16 (d16 r153))).1 (d4 (d16 (d16 r153))).2.1 (d2 (d4 (d16 (d16 r153)))).1 (d2 (d4 (d16 (d16 r153)))).2.1 (d8 (d16 (d16 r153))).1 (d8 (d16 (d16 r153))).2.1 (d2 (d8 (d16 (d16 r153)))).1 (d2 (d8 (d16 (d16 r153)))).2.1 (d4 (d8 (d16 (d16 r153)))).1 (d4 (d8 (d16 (d16 r153)))).2.1 (d2 (d4 (d8 (d16 (d16 r153))))).1 (d2 (d4 (d8 (d16 (d16 r153))))).2.1 (d16 (d16 (d16 r153))).1 (d16 (d16 (d16 r153))).2.1 (d2 (d16 (d16 (d16 r153)))).1 (d2 (d16 (d16 (d16 r153)))).2.1 (d4 (d16 (d16 (d16 r153)))).1 (d4 (d16 (d16 (d16 r153)))).2.1 (d2 (d4 (d16 (d16 (d16 r153))))).1 (d2 (d4 (d16 (d16 (d16 r153))))).2.1 (d8 (d16 (d16 (d16 r153)))).1 (d8 (d16 (d16 (d16 r153)))).2.1 (d2 (d8 (d16 (d16 (d16 r153))))).1 (d2 (d8 (d16 (d16 (d16 r153))))).2.1 (d4 (d8 (d16 (d16 (d16 r153))))).1 (d4 (d8 (d16 (d16 (d16 r153))))).2.1 (d2 (d4 (d8 (d16 (d16 (d16 r153)))))).1 (d2 (d4 (d8 (d16 (d16 (d16 r153)))))).2.1 (d16 (d16 (d16 (d16 r153)))).1 (d16 (d16 (d16 (d16 r153)))).2.1 (d2 (d16 (d16 (d16 (d16 r153))))).1 (d2 (d16 (d16 (d16 (d16 r153))))).2.1 (d4 (d16 (d16 (d16 (d16 r153))))).1 (d4 (d16 (d16 (d16 (d16 r153))))).2.1 (d2 (d4 (d16 (d16 (d16 (d16 r153)))))).1 (d2 (d4 (d16 (d16 (d16 (d16 r153)))))).2.1 (d8 (d16 (d16 (d16 (d16 r153))))).1 (d8 (d16 (d16 (d16 (d16 r153))))).2 x148 x149 (iop .add .i64 x150 1)
 else
 (g70 x74 x75 x76 x77 x78 x79 x80 x81 x82 x83 x84 x85 x86 x87 x88 x89 x90 x91 x92 x93 x94 x95 x96 x97 x98 x99 x100 x101 x102 x103 x104 x105 x106 x107 x108 x109 x110 x111 x112 x113 x114 x115 x116 x117 x118 x119 x120 x121 x122 x123 x124 x125 x126 x127 x128 x129 x130 x131 x132 x133 x134 x135 x136 x137 x138 x139 x140 x141 x142 x143 x144 x145 x146 x147).bind fun (r151 : Bool) =>
 some (r151)) := by kernel_rfl
theorem g40_eq (x0 x1 x2 x3 x4 x5 x6 x7 x8 x9 x10 : Int) (x11 : Bool) (x12 x13 x14 x15 x16 x17 x18 x19 x20 x21 x22 x23 x24 x25 x26 x27 x28 x29 x30 x31 : Int) (x32 : LL) (x33 x34 x35 x36 x37 x38 : Int) (x39 : Bool) (x40 x41 x42 x43 : LL) (x44 x45 : Int) (x46 x47 x48 x49 x50 x51 x52 x53 : LL) (x54 x55 : Int) (x56 x57 x58 x59 x60 x61 x62 x63 : LL) (x64 : Bool) (x65 : Int) (x66 x67 x68 x69 x70 x71 x72 x73 : LL) : g40 x0 x1 x2 x3 x4 x5 x6 x7 x8 x9 x10 x11 x12 x13 x14 x15 x16 x17 x18 x19 x20 x21 x22 x23 x24 x25 x26 x27 x28 x29 x30 x31 x32 x33 x34 x35 x36 x37 x38 x39 x40 x41 x42 x43 x44 x45 x46 x47 x48 x49 x50 x51 x52 x53 x54 x55 x56 x57 x58 x59 x60 x61 x62 x63 x64 x65 x66 x67 x68 x69 x70 x71 x72 x73 =
 ((g65 x0).bind fun (r74 : LL × Bool) =>
 if (!r74.2) = true then
 some (false)
 else
 (g66 x1).bind fun (r76 : Bool) =>
 if (!r76) = true then
 some (false)
 else
 (g67 x2).bind fun (r77 : Bool) =>
 if (!r77) = true then
 some (false)
 else
 (g67 x3).bind fun (r78 : Bool) =>
 if (!r78) = true then
 some (false)
 else
 g40L0 FUEL x0 x1 x2 x3 x4 x5 x6 x7 x8 x9 x10 x11 x12 x13 x14 x15 x16 x17 x18 x19 x20 x21 x22 x23 x24 x25 x26 x27 x28 x29 x30 x31 x32 x33 x34 x35 x36 x37 x38 x39 x40 x41 x42 x43 x44 x45 x46 x47 x48 x49 x50 x51 x52 x53 x54 x55 x56 x57 x58 x59 x60 x61 x62 x63 x64 x65 x66 x67 x68 x69 x70 x71 x72 x73 x0 x1 x2 x3 x4 x5 x6 x7 x8 x9 x10 x11 x12 x13 x14 x15 x16 x17 x18 x19 x20 x21 x22 x23 x24 x25 x26 x27 x28 x29 x30 x31 x32 x33 x34 x35 x36 x37 x38 x39 x40 x41 x42 x43 x44 x45 x46 x47 x48 x49 x50 x51 x52 x53 x54 x55 x56 x57 x58 x59 x60 x61 x62 x63 x64 x65 x66 x67 x68 x69 x70 x71 x72 x73 r74.1 (List.length r74.1 : Int) 0) := by kernel_rfl
end Go.Proofs.YtljejgmcgddppaaGreat
