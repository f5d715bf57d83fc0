/- Functions of the program, as what they compute. -/
import Derived.Test.YtljejgmcgddppaaF23ma
namespace Go.Proofs.Ytljejgmcgddppaa
open Go Go.AM
set_option linter.unusedVariables false
set_option maxRecDepth 100000
noncomputable def F16 : Fn := ⟨8, [2], [], [], 0, [2, 5, 7], [], Try.f16, [.c (.slice 15)], [.c (.own true 74)], []⟩
theorem ok16 : F16.S.Ok Try.prog 16 := F16.ok Try.func16 (by kernel_rfl) trivial
noncomputable def g16 (x0 : LL) : Option (LL) := F16.S.g [.l x0]
theorem g16_eq (x0 : LL) : g16 x0 =
 (nilK x0 fun r1 =>
 if r1 = true then
 some (([] : LL))
 else
 reqK (roomP ([] : LL) x0 136) <|
 some ((([] : LL) ++ x0))) := by kernel_rfl
noncomputable def F31 : Fn := ⟨8, [2], [], [], 0, [2, 5, 7], [], Try.f31, [.c (.slice 3)], [.c (.own true 32)], []⟩
theorem ok31 : F31.S.Ok Try.prog 31 := F31.ok Try.func31 (by kernel_rfl) trivial
noncomputable def g31 (x0 : LL) : Option (LL) := F31.S.g [.l x0]
theorem g31_eq (x0 : LL) : g31 x0 =
 (nilK x0 fun r1 =>
 if r1 = true then
 some (([] : LL))
 else
 reqK (roomP ([] : LL) x0 24) <|
 some ((([] : LL) ++ x0))) := by kernel_rfl
noncomputable def F17 : Fn := ⟨8, [2], [], [], 0, [], [(2, [(1, 4)])], Try.f17, [.agg hs8], [.agg hs8], [(31, F31.S)]⟩
theorem ok17 : F17.S.Ok Try.prog 17 := F17.ok Try.func17 (by kernel_rfl) ⟨ok31, trivial⟩
noncomputable def g17 (x0 x1 x2 : Int) (x3 : LL) (x4 x5 x6 x7 x8 x9 : Int) (x10 : Bool) : Option (Qt13) := F17.S.g [.i x0, .i x1, .i x2, .l x3, .i x4, .i x5, .i x6, .i x7, .i x8, .i x9, .b x10]
theorem g17_eq (x0 x1 x2 : Int) (x3 : LL) (x4 x5 x6 x7 x8 x9 : Int) (x10 : Bool) : g17 x0 x1 x2 x3 x4 x5 x6 x7 x8 x9 x10 =
 ((g31 x3).bind fun (r11 : LL) =>
 some (x0, x1, x2, r11, x4, x5, x6, x7, x8, x9, x10)) := by kernel_rfl
noncomputable def F8 : Fn := ⟨24, [2], [(3, [(3, .c (.own true 74)), (8, .c (.int .i64)), (9, .c (.int .i64))])], [], 0, [2], [], Try.f8, [.c (.slice 15)], [.c (.own true 74)], [(16, F16.S), (17, F17.S)]⟩
theorem ok8 : F8.S.Ok Try.prog 8 := F8.ok Try.func8 (by kernel_rfl) ⟨ok16, ⟨ok17, trivial⟩⟩
noncomputable def g8 (x0 : LL) : Option (LL) := F8.S.g [.l x0]
noncomputable def g8L0 (k : Nat) (x0 : LL) (x1 x2 : Int) : Option (LL) := F8.lp [2] 0 r0 k [.l x0, .i x1, .i x2]
theorem g8L0_eq (k : Nat) (x0 : LL) (x1 x2 : Int) : g8L0 (k + 1) x0 x1 x2 =
 (if (cop .lss x2 x1) = true then
 reqK ((0 : Int) ≤ x2) <|
 reqK ((x2 : Int) < (List.length x0 : Int)) <|
 elemK x0 x2 hs6 fun (r3 : Qt9) =>
 (g17 r3.1 r3.2.1 r3.2.2.1 r3.2.2.2.1 r3.2.2.2.2.1 r3.2.2.2.2.2.1 r3.2.2.2.2.2.2.1 r3.2.2.2.2.2.2.2.1 r3.2.2.2.2.2.2.2.2.1 r3.2.2.2.2.2.2.2.2.2.1 r3.2.2.2.2.2.2.2.2.2.2.1).bind fun (r18 : Qt13) =>
 reqK ((0 : Int) ≤ x2) <|
 reqK ((x2 : Int) < (List.length x0 : Int)) <|
 reqK ((0 : Int) ≤ x2) <|
 reqK ((x2 : Int) < (List.length x0 : Int)) <|
 g8L0 k (setElem x0 (Int.toNat x2) 0 [AV.val (.int .i64 r18.1), AV.val (.int .i64 r18.2.1), AV.val (.int .i64 r18.2.2.1), AV.slice false 3 r18.2.2.2.1, AV.val (.int .i64 r18.2.2.2.2.1), AV.val (.int .i64 r18.2.2.2.2.2.1), AV.val (.int .i64 r18.2.2.2.2.2.2.1), AV.val (.int .i64 r18.2.2.2.2.2.2.2.1), AV.val (.int .i64 r18.2.2.2.2.2.2.2.2.1), AV.val (.int .i64 r18.2.2.2.2.2.2.2.2.2.1), AV.val (.bool r18.2.2.2.2.2.2.2.2.2.2)]) x1 (iop .add .i64 x2 1)
 else
 some (x0)) := by kernel_rfl
theorem g8_eq (x0 : LL) : g8 x0 =
 ((g16 x0).bind fun (r1 : LL) =>
 g8L0 FUEL r1 (List.length r1 : Int) 0) := by kernel_rfl
noncomputable def F9 : Fn := ⟨8, [2], [], [], 0, [2, 5, 7], [], Try.f9, [.c (.slice 4)], [.c (.own true 57)], []⟩
theorem ok9 : F9.S.Ok Try.prog 9 := F9.ok Try.func9 (by kernel_rfl) trivial
noncomputable def g9 (x0 : LL) : Option (LL) := F9.S.g [.l x0]
theorem g9_eq (x0 : LL) : g9 x0 =
 (nilK x0 fun r1 =>
 if r1 = true then
 some (([] : LL))
 else
 reqK (roomP ([] : LL) x0 32) <|
 some ((([] : LL) ++ x0))) := by kernel_rfl
noncomputable def F24 : Fn := ⟨12, [2], [], [], 0, [], [], Try.f24, [.agg hs6], [.c (.bool)], []⟩
theorem ok24 : F24.S.Ok Try.prog 24 := F24.ok Try.func24 (by kernel_rfl) trivial
noncomputable def g24 (x0 x1 x2 : Int) (x3 : LL) (x4 x5 x6 x7 x8 x9 : Int) (x10 : Bool) (x11 x12 x13 x14 : Int) : Option (Bool) := F24.S.g [.i x0, .i x1, .i x2, .l x3, .i x4, .i x5, .i x6, .i x7, .i x8, .i x9, .b x10, .i x11, .i x12, .i x13, .i x14]
theorem g24_eq (x0 x1 x2 : Int) (x3 : LL) (x4 x5 x6 x7 x8 x9 : Int) (x10 : Bool) (x11 x12 x13 x14 : Int) : g24 x0 x1 x2 x3 x4 x5 x6 x7 x8 x9 x10 x11 x12 x13 x14 =
 (if (cop .neq x11 0) = true then
 some (true)
 else
 some ((!((cop .eql x12 0) && ((cop .eql x13 0) && ((cop .eql x14 0) && true)))))) := by kernel_rfl
noncomputable def F26 : Fn := ⟨49, [6, 7], [], [], 0, [6], [], Try.f26, [.c (.slice 15), .c (.int .i64), .agg hs8], [.c (.own true 74), .c (.int .i64)], [(56, F56.S), (38, F38.S), (25, F25.S), (8, F8.S), (17, F17.S)]⟩
theorem ok26 : F26.S.Ok Try.prog 26 := F26.ok Try.func26 (by kernel_rfl) ⟨ok56, ⟨ok38, ⟨ok25, ⟨ok8, ⟨ok17, trivial⟩⟩⟩⟩⟩
noncomputable def g26 (x0 : LL) (x1 x2 x3 x4 : Int) (x5 : LL) (x6 x7 x8 x9 x10 x11 : Int) (x12 : Bool) : Option (LL × Int) := F26.S.g [.l x0, .i x1, .i x2, .i x3, .i x4, .l x5, .i x6, .i x7, .i x8, .i x9, .i x10, .i x11, .b x12]
theorem g26_eq (x0 : LL) (x1 x2 x3 x4 : Int) (x5 : LL) (x6 x7 x8 x9 x10 x11 : Int) (x12 : Bool) : g26 x0 x1 x2 x3 x4 x5 x6 x7 x8 x9 x10 x11 x12 =
 ((g56 x0 x2 x3 x4).bind fun (r13 : Int × Bool) =>
 if (cop .lss x1 0) = true then
 some (([] : LL), 1)
 else
 if (cop .geq x1 (List.length x0 : Int)) = true then
 some (([] : LL), 1)
 else
 (g38 x2 x3 x4 x5 x6 x7 x8 x9 x10 x11 x12).bind fun (r15 : Bool) =>
 if (!r15) = true then
 some (([] : LL), 1)
 else
 if r13.2 = true then
 some (([] : LL), 1)
 else
 elemK x0 x1 hs6 fun (r16 : Qt9) =>
 (g25 r16.1 r16.2.1 r16.2.2.1 r16.2.2.2.1 r16.2.2.2.2.1 r16.2.2.2.2.2.1 r16.2.2.2.2.2.2.1 r16.2.2.2.2.2.2.2.1 r16.2.2.2.2.2.2.2.2.1 r16.2.2.2.2.2.2.2.2.2.1 r16.2.2.2.2.2.2.2.2.2.2.1 r16.2.2.2.2.2.2.2.2.2.2.2.1 (d4 (d8 r16)).1 (d4 (d8 r16)).2.1 (d2 (d4 (d8 r16)))).bind fun (r31 : Bool) =>
 if (!r31) = true then
 some (([] : LL), 3)
 else
 (g8 x0).bind fun (r32 : LL) =>
 (g17 x2 x3 x4 x5 x6 x7 x8 x9 x10 x11 x12).bind fun (r33 : Qt13) =>
 reqK ((0 : Int) ≤ x1) <|
 reqK ((x1 : Int) < (List.length r32 : Int)) <|
 reqK ((0 : Int) ≤ x1) <|
 reqK ((x1 : Int) < (List.length r32 : Int)) <|
 some ((setElem r32 (Int.toNat x1) 0 [AV.val (.int .i64 r33.1), AV.val (.int .i64 r33.2.1), AV.val (.int .i64 r33.2.2.1), AV.slice false 3 r33.2.2.2.1, AV.val (.int .i64 r33.2.2.2.2.1), AV.val (.int .i64 r33.2.2.2.2.2.1), AV.val (.int .i64 r33.2.2.2.2.2.2.1), AV.val (.int .i64 r33.2.2.2.2.2.2.2.1), AV.val (.int .i64 r33.2.2.2.2.2.2.2.2.1), AV.val (.int .i64 r33.2.2.2.2.2.2.2.2.2.1), AV.val (.bool r33.2.2.2.2.2.2.2.2.2.2)]), 0)) := by kernel_rfl
noncomputable def F11 : Fn := ⟨46, [4, 5], [], [], 0, [], [(11, [(7, 0)])], Try.f11, [.c (.slice 15), .agg hs0], [.c (.slice 15), .c (.int .i64)], [(24, F24.S), (25, F25.S), (26, F26.S)]⟩
theorem ok11 : F11.S.Ok Try.prog 11 := F11.ok Try.func11 (by kernel_rfl) ⟨ok24, ⟨ok25, ⟨ok26, trivial⟩⟩⟩
noncomputable def g11 (x0 : LL) (x1 x2 x3 x4 x5 x6 x7 x8 x9 x10 x11 : Int) (x12 : Bool) (x13 x14 x15 x16 x17 x18 x19 x20 x21 x22 x23 x24 x25 x26 x27 x28 x29 x30 x31 x32 : Int) (x33 : LL) (x34 x35 x36 x37 x38 x39 : Int) (x40 : Bool) (x41 x42 x43 x44 : LL) (x45 x46 : Int) (x47 x48 x49 x50 x51 x52 x53 x54 : LL) (x55 x56 : Int) (x57 x58 x59 x60 x61 x62 x63 x64 : LL) (x65 : Bool) (x66 : Int) (x67 x68 x69 x70 x71 x72 x73 x74 : LL) : Option (LL × Int) := F11.S.g [.l x0, .i x1, .i x2, .i x3, .i x4, .i x5, .i x6, .i x7, .i x8, .i x9, .i x10, .i x11, .b x12, .i x13, .i x14, .i x15, .i x16, .i x17, .i x18, .i x19, .i x20, .i x21, .i x22, .i x23, .i x24, .i x25, .i x26, .i x27, .i x28, .i x29, .i x30, .i x31, .i x32, .l x33, .i x34, .i x35, .i x36, .i x37, .i x38, .i x39, .b x40, .l x41, .l x42, .l x43, .l x44, .i x45, .i x46, .l x47, .l x48, .l x49, .l x50, .l x51, .l x52, .l x53, .l x54, .i x55, .i x56, .l x57, .l x58, .l x59, .l x60, .l x61, .l x62, .l x63, .l x64, .b x65, .i x66, .l x67, .l x68, .l x69, .l x70, .l x71, .l x72, .l x73, .l x74]
theorem g11_eq (x0 : LL) (x1 x2 x3 x4 x5 x6 x7 x8 x9 x10 x11 : Int) (x12 : Bool) (x13 x14 x15 x16 x17 x18 x19 x20 x21 x22 x23 x24 x25 x26 x27 x28 x29 x30 x31 x32 : Int) (x33 : LL) (x34 x35 x36 x37 x38 x39 : Int) (x40 : Bool) (x41 x42 x43 x44 : LL) (x45 x46 : Int) (x47 x48 x49 x50 x51 x52 x53 x54 : LL) (x55 x56 : Int) (x57 x58 x59 x60 x61 x62 x63 x64 : LL) (x65 : Bool) (x66 : Int) (x67 x68 x69 x70 x71 x72 x73 x74 : LL) : g11 x0 x1 x2 x3 x4 x5 x6 x7 x8 x9 x10 x11 x12 x13 x14 x15 x16 x17 x18 x19 x20 x21 x22 x23 x24 x25 x26 x27 x28 x29 x30 x31 x32 x33 x34 x35 x36 x37 x38 x39 x40 x41 x42 x43 x44 x45 x46 x47 x48 x49 x50 x51 x52 x53 x54 x55 x56 x57 x58 x59 x60 x61 x62 x63 x64 x65 x66 x67 x68 x69 x70 x71 x72 x73 x74 =
 (elemK x42 0 hs8 fun (r75 : Qt13) =>
 if (cop .geq x7 (List.length x0 : Int)) = true then
 some (x0, 1)
 else
 elemK x0 x7 hs6 fun (r86 : Qt9) =>
 (g24 r86.1 r86.2.1 r86.2.2.1 r86.2.2.2.1 r86.2.2.2.2.1 r86.2.2.2.2.2.1 r86.2.2.2.2.2.2.1 r86.2.2.2.2.2.2.2.1 r86.2.2.2.2.2.2.2.2.1 r86.2.2.2.2.2.2.2.2.2.1 r86.2.2.2.2.2.2.2.2.2.2.1 r86.2.2.2.2.2.2.2.2.2.2.2.1 (d4 (d8 r86)).1 (d4 (d8 r86)).2.1 (d2 (d4 (d8 r86)))).bind fun (r101 : Bool) =>
 if r101 = true then
 some (x0, 4)
 else
 elemK x0 x7 hs6 fun (r102 : Qt9) =>
 (g25 r102.1 r102.2.1 r102.2.2.1 r102.2.2.2.1 r102.2.2.2.2.1 r102.2.2.2.2.2.1 r102.2.2.2.2.2.2.1 r102.2.2.2.2.2.2.2.1 r102.2.2.2.2.2.2.2.2.1 r102.2.2.2.2.2.2.2.2.2.1 r102.2.2.2.2.2.2.2.2.2.2.1 r102.2.2.2.2.2.2.2.2.2.2.2.1 (d4 (d8 r102)).1 (d4 (d8 r102)).2.1 (d2 (d4 (d8 r102)))).bind fun (r117 : Bool) =>
 if (!r117) = true then
 some (x0, 3)
 else
 (g26 x0 x7 r75.1 r75.2.1 r75.2.2.1 r75.2.2.2.1 r75.2.2.2.2.1 r75.2.2.2.2.2.1 r75.2.2.2.2.2.2.1 r75.2.2.2.2.2.2.2.1 r75.2.2.2.2.2.2.2.2.1 r75.2.2.2.2.2.2.2.2.2.1 r75.2.2.2.2.2.2.2.2.2.2).bind fun (r118 : LL × Int) =>
 if (cop .neq r118.2 0) = true then
 some (x0, 1)
 else
 some (r118.1, 0)) := by kernel_rfl
noncomputable def F28 : Fn := ⟨8, [3], [], [1], 0, [], [], Try.f28, [.agg [.int .i64, .int .i64, .int .i64, .int .i64], .box [.int .i64]], [.c (.bool)], []⟩
theorem ok28 : F28.S.Ok Try.prog 28 := F28.ok Try.func28 (by kernel_rfl) trivial
noncomputable def g28 (x0 x1 x2 x3 x4 : Int) : Option (Bool × Int) := F28.S.g [.i x0, .i x1, .i x2, .i x3, .i x4]
theorem g28_eq (x0 x1 x2 x3 x4 : Int) : g28 x0 x1 x2 x3 x4 =
 (some ((cop .eql x0 x4), x4)) := by kernel_rfl
noncomputable def F57c28 : Fn := ⟨19, [4], [(2, [(0, .c (.slice 4)), (1, .clo 28 [19]), (7, .c (.int .i64)), (8, .c (.int .i64)), (19, .gbox [.int .i64])])], [], 1, [], [], Try.f57, [.c (.slice 4), .clo 28 [19], .dead, .dead, .dead, .dead, .dead, .dead, .dead, .dead, .dead, .dead, .dead, .dead, .dead, .dead, .dead, .dead, .dead, .gbox [.int .i64]], [.c (.int .i64)], [(28, F28.S)]⟩
theorem ok57c28 : F57c28.S.Ok Try.prog 57 := F57c28.ok Try.func57 (by kernel_rfl) ⟨ok28, trivial⟩
noncomputable def g57c28 (x0 : LL) (x1 : Int) : Option (Int × Int) := F57c28.S.g [.l x0, .i x1]
noncomputable def g57c28L0 (k : Nat) (x0 : LL) (x1 x2 x3 : Int) : Option (Int × Int) := F57c28.lp [0] 0 r0 k [.l x0, .i x1, .i x2, .i x3]
theorem g57c28L0_eq (k : Nat) (x0 : LL) (x1 x2 x3 : Int) : g57c28L0 (k + 1) x0 x1 x2 x3 =
 (if (cop .lss x2 x1) = true then
 elemK x0 x2 [.int .i64, .int .i64, .int .i64, .int .i64] fun (r4 : Int × Int × Int × Int) =>
 (g28 r4.1 r4.2.1 r4.2.2.1 r4.2.2.2 x3).bind fun (r8 : Bool × Int) =>
 if r8.1 = true then
 some (x2, r8.2)
 else
 g57c28L0 k x0 x1 (iop .add .i64 x2 1) r8.2
 else
 some ((-1), x3)) := by kernel_rfl
theorem g57c28_eq (x0 : LL) (x1 : Int) : g57c28 x0 x1 =
 (g57c28L0 FUEL x0 (List.length x0 : Int) 0 x1) := by kernel_rfl
noncomputable def F27c28 : Fn := ⟨42, [4], [(5, [(0, .c (.own true 57)), (1, .clo 28 [42]), (5, .c (.int .i64)), (6, .c (.int .i64)), (42, .gbox [.int .i64])])], [], 1, [4], [], Try.f27, [.c (.own true 57), .clo 28 [42], .dead, .dead, .dead, .dead, .dead, .dead, .dead, .dead, .dead, .dead, .dead, .dead, .dead, .dead, .dead, .dead, .dead, .dead, .dead, .dead, .dead, .dead, .dead, .dead, .dead, .dead, .dead, .dead, .dead, .dead, .dead, .dead, .dead, .dead, .dead, .dead, .dead, .dead, .dead, .dead, .gbox [.int .i64]], [.c (.own true 57)], [(57, F57c28.S), (28, F28.S)]⟩
theorem ok27c28 : F27c28.S.Ok Try.prog 27 := F27c28.ok Try.func27 (by kernel_rfl) ⟨ok57c28, ⟨ok28, trivial⟩⟩
noncomputable def g27c28 (x0 : LL) (x1 : Int) : Option (LL × Int) := F27c28.S.g [.l x0, .i x1]
noncomputable def g27c28L0 (k : Nat) (x0 : LL) (x1 x2 x3 : Int) : Option (LL × Int) := F27c28.lp [0, 1, 0] 0 r0 k [.l x0, .i x1, .i x2, .i x3]
theorem g27c28L0_eq (k : Nat) (x0 : LL) (x1 x2 x3 : Int) : g27c28L0 (k + 1) x0 x1 x2 x3 =
 (if (cop .lss x2 (List.length x0 : Int)) = true then
 reqK ((0 : Int) ≤ x2) <|
 reqK ((x2 : Int) < (List.length x0 : Int)) <|
 elemK x0 x2 [.int .i64, .int .i64, .int .i64, .int .i64] fun (r4 : Int × Int × Int × Int) =>
 (g28 r4.1 r4.2.1 r4.2.2.1 r4.2.2.2 x3).bind fun (r8 : Bool × Int) =>
 if (!r8.1) = true then
 reqK ((0 : Int) ≤ x1) <|
 reqK ((x1 : Int) < (List.length x0 : Int)) <|
 reqK ((0 : Int) ≤ x1) <|
 reqK ((x1 : Int) < (List.length x0 : Int)) <|
 g27c28L0 k (setElem x0 (Int.toNat x1) 0 [AV.val (.int .i64 r4.1), AV.val (.int .i64 r4.2.1), AV.val (.int .i64 r4.2.2.1), AV.val (.int .i64 r4.2.2.2)]) (iop .add .i64 x1 1) (iop .add .i64 x2 1) r8.2
 else
 g27c28L0 k x0 x1 (iop .add .i64 x2 1) r8.2
 else
 reqK ((0 : Int) ≤ x1) <|
 reqK ((x1 : Int) ≤ (List.length x0 : Int)) <|
 reqK ((0 : Int) ≤ x1) <|
 reqK ((x1 : Int) ≤ (List.length ((List.take (Int.toNat x1) x0) ++ (List.replicate (Int.toNat (iop .sub .i64 (List.length x0 : Int) x1)) [AV.val (.int .i64 0), AV.val (.int .i64 0), AV.val (.int .i64 0), AV.val (.int .i64 0)])) : Int)) <|
 some ((List.take (Int.toNat x1) ((List.take (Int.toNat x1) x0) ++ (List.replicate (Int.toNat (iop .sub .i64 (List.length x0 : Int) x1)) [AV.val (.int .i64 0), AV.val (.int .i64 0), AV.val (.int .i64 0), AV.val (.int .i64 0)]))), x3)) := by kernel_rfl
theorem g27c28_eq (x0 : LL) (x1 : Int) : g27c28 x0 x1 =
 ((g57c28 x0 x1).bind fun (r2 : Int × Int) =>
 if (cop .eql r2.1 (-1)) = true then
 some (x0, r2.2)
 else
 g27c28L0 FUEL x0 r2.1 (iop .add .i64 r2.1 1) r2.2) := by kernel_rfl
noncomputable def F12 : Fn := ⟨8, [4], [], [], 0, [4], [], Try.f12, [.c (.own true 57), .c (.int .i64)], [.c (.own true 57)], [(27, F27c28.S)]⟩
theorem ok12 : F12.S.Ok Try.prog 12 := F12.ok Try.func12 (by kernel_rfl) ⟨ok27c28, trivial⟩
noncomputable def g12 (x0 : LL) (x1 : Int) : Option (LL) := F12.S.g [.l x0, .i x1]
theorem g12_eq (x0 : LL) (x1 : Int) : g12 x0 x1 =
 ((g27c28 x0 x1).bind fun (r2 : LL × Int) =>
 some (r2.1)) := by kernel_rfl
noncomputable def F13 : Fn := ⟨39, [6], [(3, [(1, .c (.slice 3)), (5, .box [.int .i64, .int .i64, .int .i64]), (7, .c (.own true 74)), (12, .c (.int .i64)), (13, .c (.int .i64))])], [], 0, [6], [], Try.f13, [.c (.slice 15), .c (.slice 3), .agg [.int .i64, .int .i64, .int .i64]], [.c (.own true 74)], [(8, F8.S), (25, F25.S), (29, F29.S)]⟩
theorem ok13 : F13.S.Ok Try.prog 13 := F13.ok Try.func13 (by kernel_rfl) ⟨ok8, ⟨ok25, ⟨ok29, trivial⟩⟩⟩
noncomputable def g13 (x0 x1 : LL) (x2 x3 x4 : Int) : Option (LL) := F13.S.g [.l x0, .l x1, .i x2, .i x3, .i x4]
noncomputable def g13L0 (k : Nat) (x0 : LL) (x1 x2 x3 : Int) (x4 : LL) (x5 x6 : Int) : Option (LL) := F13.lp [2] 0 r0 k [.l x0, .i x1, .i x2, .i x3, .l x4, .i x5, .i x6]
theorem g13L0_eq (k : Nat) (x0 : LL) (x1 x2 x3 : Int) (x4 : LL) (x5 x6 : Int) : g13L0 (k + 1) x0 x1 x2 x3 x4 x5 x6 =
 (if (cop .lss x6 x5) = true then
 reqK ((0 : Int) ≤ x6) <|
 reqK ((x6 : Int) < (List.length x4 : Int)) <|
 elemK x4 x6 hs6 fun (r7 : Qt9) =>
 (g25 r7.1 r7.2.1 r7.2.2.1 r7.2.2.2.1 r7.2.2.2.2.1 r7.2.2.2.2.2.1 r7.2.2.2.2.2.2.1 r7.2.2.2.2.2.2.2.1 r7.2.2.2.2.2.2.2.2.1 r7.2.2.2.2.2.2.2.2.2.1 r7.2.2.2.2.2.2.2.2.2.2.1 r7.2.2.2.2.2.2.2.2.2.2.2.1 (d4 (d8 r7)).1 (d4 (d8 r7)).2.1 (d2 (d4 (d8 r7)))).bind fun (r22 : Bool) =>
 if (!r22) = true then
 reqK ((0 : Int) ≤ x6) <|
 reqK ((x6 : Int) < (List.length x4 : Int)) <|
 elemK x4 x6 hs6 fun (r23 : Qt9) =>
 (g29 x0 r23.1 r23.2.1 r23.2.2.1).bind fun (r38 : Bool) =>
 if r38 = true then
 reqK ((0 : Int) ≤ x6) <|
 reqK ((x6 : Int) < (List.length x4 : Int)) <|
 reqK ((0 : Int) ≤ x6) <|
 reqK ((x6 : Int) < (List.length x4 : Int)) <|
 g13L0 k x0 x1 x2 x3 (setElem x4 (Int.toNat x6) 12 [AV.val (.int .i64 x1), AV.val (.int .i64 x2), AV.val (.int .i64 x3)]) x5 (iop .add .i64 x6 1)
 else
 g13L0 k x0 x1 x2 x3 x4 x5 (iop .add .i64 x6 1)
 else
 g13L0 k x0 x1 x2 x3 x4 x5 (iop .add .i64 x6 1)
 else
 some (x4)) := by kernel_rfl
theorem g13_eq (x0 x1 : LL) (x2 x3 x4 : Int) : g13 x0 x1 x2 x3 x4 =
 ((g8 x0).bind fun (r5 : LL) =>
 g13L0 FUEL x1 x2 x3 x4 r5 (List.length r5 : Int) 0) := by kernel_rfl
noncomputable def F30.S : Fun := insF false 57 32
theorem ok30 : F30.S.Ok Try.prog 30 := insF_ok (T := 23) (B := 4) (I := 3) (e := 57) (fO := 59) (fR := 60) mixed (by kernel_rfl) Try.func30 (by kernel_rfl) ⟨by kernel_rfl, by kernel_rfl, by kernel_rfl⟩ Try.func59 (by kernel_rfl) (by kernel_rfl) (by kernel_rfl) (by kernel_rfl)
noncomputable def g30 (x0 : LL) (x1 : Int) (x2 : LL) : Option LL := F30.S.g [.l x0, .i x1, .l x2]
theorem g30_eq (x0 : LL) (x1 : Int) (x2 : LL) : g30 x0 x1 x2 = gIns 32 x0 x1 x2 := rfl
noncomputable def F14 : Fn := ⟨31, [4], [(3, [(0, .c (.own true 57)), (3, .box [.int .i64, .int .i64, .int .i64, .int .i64]), (5, .c (.int .i64))])], [], 0, [], [], Try.f14, [.c (.own true 57), .agg [.int .i64, .int .i64, .int .i64, .int .i64]], [.c (.own false 57)], [(12, F12.S), (30, F30.S)]⟩
theorem ok14 : F14.S.Ok Try.prog 14 := F14.ok Try.func14 (by kernel_rfl) ⟨ok12, ⟨ok30, trivial⟩⟩
noncomputable def g14 (x0 : LL) (x1 x2 x3 x4 : Int) : Option (LL) := F14.S.g [.l x0, .i x1, .i x2, .i x3, .i x4]
noncomputable def g14L0 (k : Nat) (x0 : LL) (x1 x2 x3 x4 x5 : Int) : Option (LL) := F14.lp [2] 0 r0 k [.l x0, .i x1, .i x2, .i x3, .i x4, .i x5]
theorem g14L0_eq (k : Nat) (x0 : LL) (x1 x2 x3 x4 x5 : Int) : g14L0 (k + 1) x0 x1 x2 x3 x4 x5 =
 (if (cop .lss x5 (List.length x0 : Int)) = true then
 reqK ((0 : Int) ≤ x5) <|
 reqK ((x5 : Int) < (List.length x0 : Int)) <|
 elemK x0 x5 [.int .i64, .int .i64, .int .i64, .int .i64] fun (r6 : Int × Int × Int × Int) =>
 if (cop .lss r6.1 x1) = true then
 g14L0 k x0 x1 x2 x3 x4 (iop .add .i64 x5 1)
 else
 (g30 x0 x5 (([] : LL) ++ [[AV.val (.int .i64 x1), AV.val (.int .i64 x2), AV.val (.int .i64 x3), AV.val (.int .i64 x4)]])).bind fun (r10 : LL) =>
 some (r10)
 else
 (g30 x0 x5 (([] : LL) ++ [[AV.val (.int .i64 x1), AV.val (.int .i64 x2), AV.val (.int .i64 x3), AV.val (.int .i64 x4)]])).bind fun (r6 : LL) =>
 some (r6)) := by kernel_rfl
theorem g14_eq (x0 : LL) (x1 x2 x3 x4 : Int) : g14 x0 x1 x2 x3 x4 =
 ((g12 x0 x1).bind fun (r5 : LL) =>
 g14L0 FUEL r5 x1 x2 x3 x4 0) := by kernel_rfl
noncomputable def F15 : Fn := ⟨57, [4, 5], [(6, [(3, .box [.int .i64, .int .i64, .int .i64]), (6, .c (.own true 74)), (7, .c (.own true 32)), (16, .c (.int .i64)), (17, .c (.int .i64))])], [], 0, [4, 5, 7, 43], [], Try.f15, [.c (.slice 15), .agg [.int .i64, .int .i64, .int .i64]], [.c (.own true 74), .c (.own true 32)], [(8, F8.S), (25, F25.S)]⟩
theorem ok15 : F15.S.Ok Try.prog 15 := F15.ok Try.func15 (by kernel_rfl) ⟨ok8, ⟨ok25, trivial⟩⟩
noncomputable def g15 (x0 : LL) (x1 x2 x3 : Int) : Option (LL × LL) := F15.S.g [.l x0, .i x1, .i x2, .i x3]
noncomputable def g15L0 (k : Nat) (x0 x1 x2 : Int) (x3 x4 : LL) (x5 x6 : Int) : Option (LL × LL) := F15.lp [0, 1, 0] 0 r0 k [.i x0, .i x1, .i x2, .l x3, .l x4, .i x5, .i x6]
theorem g15L0_eq (k : Nat) (x0 x1 x2 : Int) (x3 x4 : LL) (x5 x6 : Int) : g15L0 (k + 1) x0 x1 x2 x3 x4 x5 x6 =
 (if (cop .lss x6 x5) = true then
 reqK ((0 : Int) ≤ x6) <|
 reqK ((x6 : Int) < (List.length x3 : Int)) <|
 elemK x3 x6 hs6 fun (r7 : Qt9) =>
 (g25 r7.1 r7.2.1 r7.2.2.1 r7.2.2.2.1 r7.2.2.2.2.1 r7.2.2.2.2.2.1 r7.2.2.2.2.2.2.1 r7.2.2.2.2.2.2.2.1 r7.2.2.2.2.2.2.2.2.1 r7.2.2.2.2.2.2.2.2.2.1 r7.2.2.2.2.2.2.2.2.2.2.1 r7.2.2.2.2.2.2.2.2.2.2.2.1 (d4 (d8 r7)).1 (d4 (d8 r7)).2.1 (d2 (d4 (d8 r7)))).bind fun (r22 : Bool) =>
 if (!r22) = true then
 reqK ((0 : Int) ≤ x6) <|
 reqK ((x6 : Int) < (List.length x3 : Int)) <|
 elemK x3 x6 hs6 fun (r23 : Qt9) =>
 if ((cop .eql (d4 (d8 r23)).1 x0) && ((cop .eql (d4 (d8 r23)).2.1 x1) && ((cop .eql (d2 (d4 (d8 r23))) x2) && true))) = true then
 reqK ((0 : Int) ≤ x6) <|
 reqK ((x6 : Int) < (List.length x3 : Int)) <|
 elemK x3 x6 hs6 fun (r38 : Qt9) =>
 reqK (roomP x4 (([] : LL) ++ [[AV.val (.int .i64 r38.1), AV.val (.int .i64 r38.2.1), AV.val (.int .i64 r38.2.2.1)]]) 24) <|
 reqK ((0 : Int) ≤ x6) <|
 reqK ((x6 : Int) < (List.length x3 : Int)) <|
 reqK ((0 : Int) ≤ x6) <|
 reqK ((x6 : Int) < (List.length x3 : Int)) <|
 reqK ((0 : Int) ≤ x6) <|
 reqK ((x6 : Int) < (List.length (setElem x3 (Int.toNat x6) 0 [AV.val (.int .i64 0), AV.val (.int .i64 0), AV.val (.int .i64 0), AV.slice false 3 ([] : LL), AV.val (.int .i64 0), AV.val (.int .i64 0), AV.val (.int .i64 0), AV.val (.int .i64 0), AV.val (.int .i64 0), AV.val (.int .i64 0), AV.val (.bool false)]) : Int)) <|
 reqK ((0 : Int) ≤ x6) <|
 reqK ((x6 : Int) < (List.length (setElem x3 (Int.toNat x6) 0 [AV.val (.int .i64 0), AV.val (.int .i64 0), AV.val (.int .i64 0), AV.slice false 3 ([] : LL), AV.val (.int .i64 0), AV.val (.int .i64 0), AV.val (.int .i64 0), AV.val (.int .i64 0), AV.val (.int .i64 0), AV.val (.int .i64 0), AV.val (.bool false)]) : Int)) <|
 g15L0 k x0 x1 x2 (setElem (setElem x3 (Int.toNat x6) 0 [AV.val (.int .i64 0), AV.val (.int .i64 0), AV.val (.int .i64 0), AV.slice false 3 ([] : LL), AV.val (.int .i64 0), AV.val (.int .i64 0), AV.val (.int .i64 0), AV.val (.int .i64 0), AV.val (.int .i64 0), AV.val (.int .i64 0), AV.val (.bool false)]) (Int.toNat x6) 12 [AV.val (.int .i64 0), AV.val (.int .i64 0), AV.val (.int .i64 0)]) (x4 ++ (([] : LL) ++ [[AV.val (.int .i64 r38.1), AV.val (.int .i64 r38.2.1), AV.val (.int .i64 r38.2.2.1)]])) x5 (iop .add .i64 x6 1)
 else
 g15L0 k x0 x1 x2 x3 x4 x5 (iop .add .i64 x6 1)
 else
 g15L0 k x0 x1 x2 x3 x4 x5 (iop .add .i64 x6 1)
 else
 some (x3, x4)) := by kernel_rfl
theorem g15_eq (x0 : LL) (x1 x2 x3 : Int) : g15 x0 x1 x2 x3 =
 ((g8 x0).bind fun (r4 : LL) =>
 if ((cop .eql x1 0) && ((cop .eql x2 0) && ((cop .eql x3 0) && true))) = true then
 some (r4, ([] : LL))
 else
 g15L0 FUEL x1 x2 x3 r4 ([] : LL) (List.length r4 : Int) 0) := by kernel_rfl
noncomputable def F5 : Fn := ⟨105, [8, 9, 10, 11], [], [], 0, [], [(10, [(12, 0)]), (16, [(12, 0)]), (22, [(12, 0)]), (3, [(13, 0), (12, 0)]), (7, [(13, 0), (12, 0)]), (23, [(13, 0), (12, 0)])], Try.f5, [.c (.int .i64), .c (.slice 15), .c (.slice 4), .agg hs0], [.c (.slice 15), .c (.slice 4), .c (.slice 74), .c (.slice 4)], [(8, F8.S), (9, F9.S), (10, F10.S), (11, F11.S), (12, F12.S), (13, F13.S), (14, F14.S), (15, F15.S)]⟩
theorem ok5 : F5.S.Ok Try.prog 5 := F5.ok Try.func5 (by kernel_rfl) ⟨ok8, ⟨ok9, ⟨ok10, ⟨ok11, ⟨ok12, ⟨ok13, ⟨ok14, ⟨ok15, trivial⟩⟩⟩⟩⟩⟩⟩⟩
noncomputable def g5 (x0 : Int) (x1 x2 : LL) (x3 x4 x5 x6 x7 x8 x9 x10 x11 x12 x13 : Int) (x14 : Bool) (x15 x16 x17 x18 x19 x20 x21 x22 x23 x24 x25 x26 x27 x28 x29 x30 x31 x32 x33 x34 : Int) (x35 : LL) (x36 x37 x38 x39 x40 x41 : Int) (x42 : Bool) (x43 x44 x45 x46 : LL) (x47 x48 : Int) (x49 x50 x51 x52 x53 x54 x55 x56 : LL) (x57 x58 : Int) (x59 x60 x61 x62 x63 x64 x65 x66 : LL) (x67 : Bool) (x68 : Int) (x69 x70 x71 x72 x73 x74 x75 x76 : LL) : Option (LL × LL × LL × LL) := F5.S.g [.i x0, .l x1, .l x2, .i x3, .i x4, .i x5, .i x6, .i x7, .i x8, .i x9, .i x10, .i x11, .i x12, .i x13, .b x14, .i x15, .i x16, .i x17, .i x18, .i x19, .i x20, .i x21, .i x22, .i x23, .i x24, .i x25, .i x26, .i x27, .i x28, .i x29, .i x30, .i x31, .i x32, .i x33, .i x34, .l x35, .i x36, .i x37, .i x38, .i x39, .i x40, .i x41, .b x42, .l x43, .l x44, .l x45, .l x46, .i x47, .i x48, .l x49, .l x50, .l x51, .l x52, .l x53, .l x54, .l x55, .l x56, .i x57, .i x58, .l x59, .l x60, .l x61, .l x62, .l x63, .l x64, .l x65, .l x66, .b x67, .i x68, .l x69, .l x70, .l x71, .l x72, .l x73, .l x74, .l x75, .l x76]
theorem g5_eq (x0 : Int) (x1 x2 : LL) (x3 x4 x5 x6 x7 x8 x9 x10 x11 x12 x13 : Int) (x14 : Bool) (x15 x16 x17 x18 x19 x20 x21 x22 x23 x24 x25 x26 x27 x28 x29 x30 x31 x32 x33 x34 : Int) (x35 : LL) (x36 x37 x38 x39 x40 x41 : Int) (x42 : Bool) (x43 x44 x45 x46 : LL) (x47 x48 : Int) (x49 x50 x51 x52 x53 x54 x55 x56 : LL) (x57 x58 : Int) (x59 x60 x61 x62 x63 x64 x65 x66 : LL) (x67 : Bool) (x68 : Int) (x69 x70 x71 x72 x73 x74 x75 x76 : LL) : g5 x0 x1 x2 x3 x4 x5 x6 x7 x8 x9 x10 x11 x12 x13 x14 x15 x16 x17 x18 x19 x20 x21 x22 x23 x24 x25 x26 x27 x28 x29 x30 x31 x32 x33 x34 x35 x36 x37 x38 x39 x40 x41 x42 x43 x44 x45 x46 x47 x48 x49 x50 x51 x52 x53 x54 x55 x56 x57 x58 x59 x60 x61 x62 x63 x64 x65 x66 x67 x68 x69 x70 x71 x72 x73 x74 x75 x76 =
 ((g8 x1).bind fun (r77 : LL) =>
 (g9 x2).bind fun (r78 : LL) =>
 (g10 x3 x4 x5 x6 x7 x8 x9 x10 x11 x12 x13 x14 x15 x16 x17 x18 x19 x20 x21 x22 x23 x24 x25 x26 x27 x28 x29 x30 x31 x32 x33 x34 x35 x36 x37 x38 x39 x40 x41 x42 x43 x44 x45 x46 x47 x48 x49 x50 x51 x52 x53 x54 x55 x56 x57 x58 x59 x60 x61 x62 x63 x64 x65 x66 x67 x68 x69 x70 x71 x72 x73 x74 x75 x76).bind fun (r79 : Bool) =>
 if (!r79) = true then
 some (r77, r78, ([] : LL), ([] : LL))
 else
 if (cop .neq x6 x0) = true then
 some (r77, r78, ([] : LL), ([] : LL))
 else
 if (cop .eql x3 4) = true then
 (g11 r77 x3 x4 x5 x6 x7 x8 x9 x10 x11 x12 x13 x14 x15 x16 x17 x18 x19 x20 x21 x22 x23 x24 x25 x26 x27 x28 x29 x30 x31 x32 x33 x34 x35 x36 x37 x38 x39 x40 x41 x42 x43 x44 x45 x46 x47 x48 x49 x50 x51 x52 x53 x54 x55 x56 x57 x58 x59 x60 x61 x62 x63 x64 x65 x66 x67 x68 x69 x70 x71 x72 x73 x74 x75 x76).bind fun (r80 : LL × Int) =>
 if (cop .eql r80.2 0) = true then
 some (r80.1, r78, (([] : LL) ++ [[I 5, I 0, I 0, I x5, I 0, I x8, I 0, I x10, I x11, I x12, I r80.2, AV.val (.bool false), I 0, I 0, I 0, I 0, I 0, I 0, I 0, I 0, I 0, I 0, I 0, I 0, I 0, I 0, I 0, I 0, I 0, I 0, I 0, I 0, AV.slice false 3 ([] : LL), I 0, I 0, I 0, I 0, I 0, I 0, AV.val (.bool false), AV.slice false 3 ([] : LL), AV.slice false 11 ([] : LL), AV.slice false 1 ([] : LL), AV.slice false 2 ([] : LL), I 0, I 0, AV.slice false 1 ([] : LL), AV.slice false 1 ([] : LL), AV.slice false 15 ([] : LL), AV.slice false 28 ([] : LL), AV.slice false 4 ([] : LL), AV.slice false 2 ([] : LL), AV.slice false 13 ([] : LL), AV.slice false 3 ([] : LL), I 0, I 0, AV.slice false 1 ([] : LL), AV.slice false 1 ([] : LL), AV.slice false 15 ([] : LL), AV.slice false 28 ([] : LL), AV.slice false 4 ([] : LL), AV.slice false 2 ([] : LL), AV.slice false 13 ([] : LL), AV.slice false 3 ([] : LL), AV.val (.bool false), I 0, AV.slice false 1 ([] : LL), AV.slice false 1 ([] : LL), AV.slice false 15 ([] : LL), AV.slice false 28 ([] : LL), AV.slice false 4 ([] : LL), AV.slice false 2 ([] : LL), AV.slice false 13 ([] : LL), AV.slice false 3 ([] : LL)]]), (([] : LL) ++ [[AV.val (.int .i64 x10), AV.val (.int .i64 x11), AV.val (.int .i64 x12), AV.val (.bool (cop .eql r80.2 0))]]))
 else
 if (cop .eql r80.2 3) = true then
 some (r80.1, r78, (([] : LL) ++ [[I 5, I 0, I 0, I x5, I 0, I x8, I 0, I x10, I x11, I x12, I r80.2, AV.val (.bool false), I 0, I 0, I 0, I 0, I 0, I 0, I 0, I 0, I 0, I 0, I 0, I 0, I 0, I 0, I 0, I 0, I 0, I 0, I 0, I 0, AV.slice false 3 ([] : LL), I 0, I 0, I 0, I 0, I 0, I 0, AV.val (.bool false), AV.slice false 3 ([] : LL), AV.slice false 11 ([] : LL), AV.slice false 1 ([] : LL), AV.slice false 2 ([] : LL), I 0, I 0, AV.slice false 1 ([] : LL), AV.slice false 1 ([] : LL), AV.slice false 15 ([] : LL), AV.slice false 28 ([] : LL), AV.slice false 4 ([] : LL), AV.slice false 2 ([] : LL), AV.slice false 13 ([] : LL), AV.slice false 3 ([] : LL), I 0, I 0, AV.slice false 1 ([] : LL), AV.slice false 1 ([] : LL), AV.slice false 15 ([] : LL), AV.slice false 28 ([] : LL), AV.slice false 4 ([] : LL), AV.slice false 2 ([] : LL), AV.slice false 13 ([] : LL), AV.slice false 3 ([] : LL), AV.val (.bool false), I 0, AV.slice false 1 ([] : LL), AV.slice false 1 ([] : LL), AV.slice false 15 ([] : LL), AV.slice false 28 ([] : LL), AV.slice false 4 ([] : LL), AV.slice false 2 ([] : LL), AV.slice false 13 ([] : LL), AV.slice false 3 ([] : LL)]]), (([] : LL) ++ [[AV.val (.int .i64 x10), AV.val (.int .i64 x11), AV.val (.int .i64 x12), AV.val (.bool (cop .eql r80.2 0))]]))
 else
 some (r80.1, r78, (([] : LL) ++ [[I 5, I 0, I 0, I x5, I 0, I x8, I 0, I x10, I x11, I x12, I r80.2, AV.val (.bool false), I 0, I 0, I 0, I 0, I 0, I 0, I 0, I 0, I 0, I 0, I 0, I 0, I 0, I 0, I 0, I 0, I 0, I 0, I 0, I 0, AV.slice false 3 ([] : LL), I 0, I 0, I 0, I 0, I 0, I 0, AV.val (.bool false), AV.slice false 3 ([] : LL), AV.slice false 11 ([] : LL), AV.slice false 1 ([] : LL), AV.slice false 2 ([] : LL), I 0, I 0, AV.slice false 1 ([] : LL), AV.slice false 1 ([] : LL), AV.slice false 15 ([] : LL), AV.slice false 28 ([] : LL), AV.slice false 4 ([] : LL), AV.slice false 2 ([] : LL), AV.slice false 13 ([] : LL), AV.slice false 3 ([] : LL), I 0, I 0, AV.slice false 1 ([] : LL), AV.slice false 1 ([] : LL), AV.slice false 15 ([] : LL), AV.slice false 28 ([] : LL), AV.slice false 4 ([] : LL), AV.slice false 2 ([] : LL), AV.slice false 13 ([] : LL), AV.slice false 3 ([] : LL), AV.val (.bool false), I 0, AV.slice false 1 ([] : LL), AV.slice false 1 ([] : LL), AV.slice false 15 ([] : LL), AV.slice false 28 ([] : LL), AV.slice false 4 ([] : LL), AV.slice false 2 ([] : LL), AV.slice false 13 ([] : LL), AV.slice false 3 ([] : LL)]]), ([] : LL))
 else
 if (cop .eql x3 6) = true then
 (g12 r78 x8).bind fun (r80 : LL) =>
 (g13 r77 x43 x10 x11 x12).bind fun (r81 : LL) =>
 some (r81, r80, (([] : LL) ++ [[I 7, I 0, I 0, I x5, I 0, I x8, I 0, I x10, I x11, I x12, I 0, AV.val (.bool false), I 0, I 0, I 0, I 0, I 0, I 0, I 0, I 0, I 0, I 0, I 0, I 0, I 0, I 0, I 0, I 0, I 0, I 0, I 0, I 0, AV.slice false 3 ([] : LL), I 0, I 0, I 0, I 0, I 0, I 0, AV.val (.bool false), AV.slice false 3 ([] : LL), AV.slice false 11 ([] : LL), AV.slice false 1 ([] : LL), AV.slice false 2 ([] : LL), I 0, I 0, AV.slice false 1 ([] : LL), AV.slice false 1 ([] : LL), AV.slice false 15 ([] : LL), AV.slice false 28 ([] : LL), AV.slice false 4 ([] : LL), AV.slice false 2 ([] : LL), AV.slice false 13 ([] : LL), AV.slice false 3 ([] : LL), I 0, I 0, AV.slice false 1 ([] : LL), AV.slice false 1 ([] : LL), AV.slice false 15 ([] : LL), AV.slice false 28 ([] : LL), AV.slice false 4 ([] : LL), AV.slice false 2 ([] : LL), AV.slice false 13 ([] : LL), AV.slice false 3 ([] : LL), AV.val (.bool false), I 0, AV.slice false 1 ([] : LL), AV.slice false 1 ([] : LL), AV.slice false 15 ([] : LL), AV.slice false 28 ([] : LL), AV.slice false 4 ([] : LL), AV.slice false 2 ([] : LL), AV.slice false 13 ([] : LL), AV.slice false 3 ([] : LL)]]), ([] : LL))
 else
 if (cop .eql x3 8) = true then
 (g14 r78 x8 x10 x11 x12).bind fun (r80 : LL) =>
 some (r77, r80, (([] : LL) ++ [[I 9, I 0, I 0, I x5, I 0, I x8, I 0, I x10, I x11, I x12, I 0, AV.val (.bool false), I 0, I 0, I 0, I 0, I 0, I 0, I 0, I 0, I 0, I 0, I 0, I 0, I 0, I 0, I 0, I 0, I 0, I 0, I 0, I 0, AV.slice false 3 ([] : LL), I 0, I 0, I 0, I 0, I 0, I 0, AV.val (.bool false), AV.slice false 3 ([] : LL), AV.slice false 11 ([] : LL), AV.slice false 1 ([] : LL), AV.slice false 2 ([] : LL), I 0, I 0, AV.slice false 1 ([] : LL), AV.slice false 1 ([] : LL), AV.slice false 15 ([] : LL), AV.slice false 28 ([] : LL), AV.slice false 4 ([] : LL), AV.slice false 2 ([] : LL), AV.slice false 13 ([] : LL), AV.slice false 3 ([] : LL), I 0, I 0, AV.slice false 1 ([] : LL), AV.slice false 1 ([] : LL), AV.slice false 15 ([] : LL), AV.slice false 28 ([] : LL), AV.slice false 4 ([] : LL), AV.slice false 2 ([] : LL), AV.slice false 13 ([] : LL), AV.slice false 3 ([] : LL), AV.val (.bool false), I 0, AV.slice false 1 ([] : LL), AV.slice false 1 ([] : LL), AV.slice false 15 ([] : LL), AV.slice false 28 ([] : LL), AV.slice false 4 ([] : LL), AV.slice false 2 ([] : LL), AV.slice false 13 ([] : LL), AV.slice false 3 ([] : LL)]]), ([] : LL))
 else
 if (cop .eql x3 10) = true then
 (g15 r77 x10 x11 x12).bind fun (r80 : LL × LL) =>
 some (r80.1, r78, (([] : LL) ++ [[I 11, I 0, I 0, I x5, I 0, I x8, I 0, I x10, I x11, I x12, I 0, AV.val (.bool false), I 0, I 0, I 0, I 0, I 0, I 0, I 0, I 0, I 0, I 0, I 0, I 0, I 0, I 0, I 0, I 0, I 0, I 0, I 0, I 0, AV.slice false 3 ([] : LL), I 0, I 0, I 0, I 0, I 0, I 0, AV.val (.bool false), AV.slice false 3 ([] : LL), AV.slice false 11 ([] : LL), AV.slice false 1 ([] : LL), AV.slice false 2 ([] : LL), I 0, I 0, AV.slice false 1 ([] : LL), AV.slice false 1 ([] : LL), AV.slice false 15 ([] : LL), AV.slice false 28 ([] : LL), AV.slice false 4 ([] : LL), AV.slice false 2 ([] : LL), AV.slice false 13 ([] : LL), AV.slice false 3 ([] : LL), I 0, I 0, AV.slice false 1 ([] : LL), AV.slice false 1 ([] : LL), AV.slice false 15 ([] : LL), AV.slice false 28 ([] : LL), AV.slice false 4 ([] : LL), AV.slice false 2 ([] : LL), AV.slice false 13 ([] : LL), AV.slice false 3 ([] : LL), AV.val (.bool false), I 0, AV.slice false 1 ([] : LL), AV.slice false 1 ([] : LL), AV.slice false 15 ([] : LL), AV.slice false 28 ([] : LL), AV.slice false 4 ([] : LL), AV.slice false 2 ([] : LL), AV.slice false 13 ([] : LL), AV.slice false 3 ([] : LL)]]), ([] : LL))
 else
 some (r77, r78, ([] : LL), ([] : LL))) := by kernel_rfl
noncomputable def F7 : Fn := ⟨70, [0], [], [], 0, [], [], Try.f7, [], [.c (.bool)], [(5, F5.S)]⟩
theorem ok7 : F7.S.Ok Try.prog 7 := F7.ok Try.func7 (by kernel_rfl) ⟨ok5, trivial⟩
noncomputable def g7 : Option (Bool) := F7.S.g []
noncomputable def F4 : Fn := ⟨16, [4], [], [], 0, [], [], Try.f4, [.c (.int .i64), .c (.int .i64)], [.c (.int .i64)], []⟩
theorem ok4 : F4.S.Ok Try.prog 4 := F4.ok Try.func4 (by kernel_rfl) trivial
noncomputable def g4 (x0 x1 : Int) : Option (Int) := F4.S.g [.i x0, .i x1]
theorem g4_eq (x0 x1 : Int) : g4 x0 x1 =
 (if (cop .lss x1 1) = true then
 some (0)
 else
 reqK ((x1 : Int) ≠ 0) <|
 if (cop .lss (iop .rem .i64 x0 x1) 0) = true then
 some ((iop .add .i64 (iop .rem .i64 x0 x1) x1))
 else
 some ((iop .rem .i64 x0 x1))) := by kernel_rfl
noncomputable def F6 : Fn := ⟨26, [4], [(4, [(0, .c (.slice 4)), (1, .c (.slice 4)), (5, .c (.int .i64))])], [], 0, [], [], Try.f6, [.c (.slice 4), .c (.slice 4)], [.c (.bool)], []⟩
theorem ok6 : F6.S.Ok Try.prog 6 := F6.ok Try.func6 (by kernel_rfl) trivial
noncomputable def g6 (x0 x1 : LL) : Option (Bool) := F6.S.g [.l x0, .l x1]
noncomputable def g6L0 (k : Nat) (x0 x1 : LL) (x2 : Int) : Option (Bool) := F6.lp [1, 0] 0 r0 k [.l x0, .l x1, .i x2]
theorem g6L0_eq (k : Nat) (x0 x1 : LL) (x2 : Int) : g6L0 (k + 1) x0 x1 x2 =
 (if (cop .lss x2 (List.length x0 : Int)) = true then
 elemK x0 x2 [.int .i64, .int .i64, .int .i64, .int .i64] fun (r3 : Int × Int × Int × Int) =>
 elemK x1 x2 [.int .i64, .int .i64, .int .i64, .int .i64] fun (r7 : Int × Int × Int × Int) =>
 if (!((cop .eql r3.1 r7.1) && ((cop .eql r3.2.1 r7.2.1) && ((cop .eql r3.2.2.1 r7.2.2.1) && ((cop .eql r3.2.2.2 r7.2.2.2) && true))))) = true then
 some (false)
 else
 g6L0 k x0 x1 (iop .add .i64 x2 1)
 else
 some (true)) := by kernel_rfl
theorem g6_eq (x0 x1 : LL) : g6 x0 x1 =
 (if (cop .neq (List.length x0 : Int) (List.length x1 : Int)) = true then
 some (false)
 else
 g6L0 FUEL x0 x1 0) := by kernel_rfl
end Go.Proofs.Ytljejgmcgddppaa
