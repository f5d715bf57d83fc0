/- Functions of the program, as what they compute. -/
import Derived.Test.YtmgfkjonkdfedaaGreatB24
namespace Go.Proofs.YtmgfkjonkdfedaaGreat
open Go Go.AM
set_option linter.unusedVariables false
set_option maxRecDepth 100000

/- multikernel/multikernellaw24.claim -/
noncomputable def F19 : Fn := ⟨7, [2], [], [], 0, [], [], Tryz.f19, [.c (.int .i64)], [.agg hs3], []⟩
theorem ok19 : F19.S.Ok Tryz.prog 19 := F19.ok Tryz.func19 (by kernel_rfl) trivial
noncomputable def g19 (x0 : Int) : Option (Qt7) := F19.S.g [.i x0]
theorem g19_eq (x0 : Int) : g19 x0 =
 (some (0, x0, 0, 1, 0, 1, 0, 0, 0, 12, 0, 0, 0, 0, 0, 0, 32, 0, 0, 0, ([] : LL), 0, 0, 0, 0, 0, 0, false)) := by kernel_rfl

/- multikernel/multikernellaw24.awake -/
noncomputable def F7 : Fn := ⟨90, [0], [], [], 0, [], [], Tryz.f7, [], [.c (.bool)], [(19, F19.S), (8, F8.S), (22, F22.S)]⟩
theorem ok7 : F7.S.Ok Tryz.prog 7 := F7.ok Tryz.func7 (by kernel_rfl) ⟨ok19, ⟨ok8, ⟨ok22, trivial⟩⟩⟩
noncomputable def g7 : Option (Bool) := F7.S.g []
theorem g7_eq : g7 =
 (reqK (makeP 3 136) <|
 reqK ((3 : Int) ≤ 3) <|
 reqK ((3 : Int) ≤ 3) <|
 (g19 4).bind fun (r0 : Qt7) =>
 (g8 (List.replicate (Int.toNat 3) [AV.val (.int .i64 0), AV.val (.int .i64 0), AV.val (.int .i64 0), AV.slice false 3 ([] : LL), AV.val (.int .i64 0), AV.val (.int .i64 0), AV.val (.int .i64 0), AV.val (.int .i64 0), AV.val (.int .i64 0), AV.val (.int .i64 0), AV.val (.bool false), AV.val (.int .i64 0), AV.val (.int .i64 0), AV.val (.int .i64 0), AV.val (.int .i64 0)]) ([] : LL) r0.1 r0.2.1 r0.2.2.1 r0.2.2.2.1 r0.2.2.2.2.1 r0.2.2.2.2.2.1 r0.2.2.2.2.2.2.1 r0.2.2.2.2.2.2.2.1 r0.2.2.2.2.2.2.2.2.1 r0.2.2.2.2.2.2.2.2.2.1 r0.2.2.2.2.2.2.2.2.2.2.1 r0.2.2.2.2.2.2.2.2.2.2.2.1 (d4 (d8 r0)).1 (d4 (d8 r0)).2.1 (d2 (d4 (d8 r0))).1 (d2 (d4 (d8 r0))).2.1 (d16 r0).1 (d16 r0).2.1 (d2 (d16 r0)).1 (d2 (d16 r0)).2.1 (d4 (d16 r0)).1 (d4 (d16 r0)).2.1 (d2 (d4 (d16 r0))).1 (d2 (d4 (d16 r0))).2.1 (d8 (d16 r0)).1 (d8 (d16 r0)).2.1 (d2 (d8 (d16 r0))).1 (d2 (d8 (d16 r0))).2 (([] : LL) ++ [[AV.val (.int .i64 1)]])).bind fun (r28 : LL × LL × Int) =>
 (g22 0 r28.1 r28.2.1 2 0 2 0 0 0 0 0 4 0 0 false 0 0 0 0 0 0 0 0 0 0 0 0 0 0 0 0 0 0 0 0 ([] : LL) 0 0 0 0 0 0 false ([] : LL) (([] : LL) ++ [[AV.val (.int .i64 0), AV.val (.int .i64 4), AV.val (.int .i64 0), AV.slice false 3 ([] : LL), AV.val (.int .i64 1), AV.val (.int .i64 0), AV.val (.int .i64 12), AV.val (.int .i64 7), AV.val (.int .i64 0), AV.val (.int .i64 0), AV.val (.bool false)]]) ([] : LL) ([] : LL) 0 0 ([] : LL) ([] : LL) ([] : LL) ([] : LL) ([] : LL) ([] : LL) ([] : LL) ([] : LL) 0 0 ([] : LL) ([] : LL) ([] : LL) ([] : LL) ([] : LL) ([] : LL) ([] : LL) ([] : LL) false 0 ([] : LL) ([] : LL) ([] : LL) ([] : LL) ([] : LL) ([] : LL) ([] : LL) ([] : LL)).bind fun (r31 : LL × LL × LL × LL × LL) =>
 if (cop .eql r28.2.2 0) = true then
 if (cop .eql (List.length r28.2.1 : Int) 1) = true then
 if (cop .eql (List.length r31.2.1 : Int) 0) = true then
 if (cop .eql (List.length r31.1 : Int) 3) = true then
 reqK ((0 : Int) ≤ 1) <|
 reqK ((1 : Int) < (List.length r31.1 : Int)) <|
 elemK r31.1 1 hs8 fun (r36 : Qt11) =>
 if (cop .eql r36.2.2.2.2.2.2.2.2.2.2.2.1 0) = true then
 reqK ((0 : Int) ≤ 1) <|
 reqK ((1 : Int) < (List.length r31.1 : Int)) <|
 elemK r31.1 1 hs8 fun (r51 : Qt11) =>
 if ((cop .eql r51.1 0) && ((cop .eql r51.2.1 4) && ((cop .eql r51.2.2.1 0) && true))) = true then
 if (cop .eql (List.length r31.2.2.1 : Int) 1) = true then
 if (cop .eql (List.length r31.2.2.2.1 : Int) 1) = true then
 reqK ((0 : Int) ≤ 0) <|
 reqK ((0 : Int) < (List.length r31.2.2.2.1 : Int)) <|
 elemK r31.2.2.2.1 0 [.int .i64, .int .i64] fun (r66 : Int × Int) =>
 if (cop .eql r66.1 4) = true then
 some ((cop .eql (List.length r31.2.2.2.2 : Int) 1))
 else
 some (false)
 else
 some (false)
 else
 some (false)
 else
 some (false)
 else
 some (false)
 else
 some (false)
 else
 some (false)
 else
 some (false)
 else
 some (false)) := by kernel_rfl

/- multikernel/multikernellaw24.few -/
noncomputable def F6 : Fn := ⟨51, [4], [(2, [(0, .c (.slice 15)), (1, .c (.slice 28)), (5, .c (.int .i64))]), (7, [(0, .c (.slice 15)), (1, .c (.slice 28)), (6, .c (.int .i64))])], [], 0, [], [], Tryz.f6, [.c (.slice 15), .c (.slice 28)], [.c (.bool)], []⟩
theorem ok6 : F6.S.Ok Tryz.prog 6 := F6.ok Tryz.func6 (by kernel_rfl) trivial
noncomputable def g6 (x0 x1 : LL) : Option (Bool) := F6.S.g [.l x0, .l x1]
noncomputable def g6L0 (k : Nat) (x0 x1 : LL) (x2 : Int) : Option (Bool) := F6.lp [2, 1, 0] 0 r0 k [.l x0, .l x1, .i x2]
theorem g6L0_eq (k : Nat) (x0 x1 : LL) (x2 : Int) : g6L0 (k + 1) x0 x1 x2 =
 (if (cop .lss x2 (List.length x1 : Int)) = true then
 if (cop .lss x2 40) = true then
 elemK x1 x2 hs3 fun (r3 : Qt7) =>
 if (cop .gtr (List.length (d4 (d16 r3)).1 : Int) 20) = true then
 some (false)
 else
 g6L0 k x0 x1 (iop .add .i64 x2 1)
 else
 if (cop .leq (List.length x0 : Int) 70) = true then
 some ((cop .leq (List.length x1 : Int) 30))
 else
 some (false)
 else
 if (cop .leq (List.length x0 : Int) 70) = true then
 some ((cop .leq (List.length x1 : Int) 30))
 else
 some (false)) := by kernel_rfl
noncomputable def g6L1 (k : Nat) (x0 x1 : LL) (x2 : Int) : Option (Bool) := F6.lp [0] 0 r0 k [.l x0, .l x1, .i x2]
theorem g6L1_eq (k : Nat) (x0 x1 : LL) (x2 : Int) : g6L1 (k + 1) x0 x1 x2 =
 (if (cop .lss x2 (List.length x0 : Int)) = true then
 if (cop .lss x2 80) = true then
 elemK x0 x2 hs8 fun (r3 : Qt11) =>
 if (cop .gtr (List.length r3.2.2.2.1 : Int) 20) = true then
 some (false)
 else
 g6L1 k x0 x1 (iop .add .i64 x2 1)
 else
 g6L0 FUEL x0 x1 0
 else
 g6L0 FUEL x0 x1 0) := by kernel_rfl
theorem g6_eq (x0 x1 : LL) : g6 x0 x1 =
 (g6L1 FUEL x0 x1 0) := by kernel_rfl

/- multikernel/multikernellaw24.ClientBeginExact -/
noncomputable def F3 : Fn := ⟨70, [8], [], [], 0, [], [], Tryz.f3, [.c (.slice 15), .c (.slice 28), .agg hs3, .c (.slice 1)], [.c (.bool)], [(6, F6.S), (7, F7.S), (9, F9.S), (10, F10.S), (11, F11.S), (8, F8.S), (12, F12.S), (13, F13.S), (14, F14.S)]⟩
theorem ok3 : F3.S.Ok Tryz.prog 3 := F3.ok Tryz.func3 (by kernel_rfl) ⟨ok6, ⟨ok7, ⟨ok9, ⟨ok10, ⟨ok11, ⟨ok8, ⟨ok12, ⟨ok13, ⟨ok14, trivial⟩⟩⟩⟩⟩⟩⟩⟩⟩
noncomputable def g3 (x0 x1 : LL) (x2 x3 x4 x5 x6 x7 x8 x9 x10 x11 x12 x13 x14 x15 x16 x17 x18 x19 x20 x21 : Int) (x22 : LL) (x23 x24 x25 x26 x27 x28 : Int) (x29 : Bool) (x30 : LL) : Option (Bool) := F3.S.g [.l x0, .l x1, .i x2, .i x3, .i x4, .i x5, .i x6, .i x7, .i x8, .i x9, .i x10, .i x11, .i x12, .i x13, .i x14, .i x15, .i x16, .i x17, .i x18, .i x19, .i x20, .i x21, .l x22, .i x23, .i x24, .i x25, .i x26, .i x27, .i x28, .b x29, .l x30]
theorem g3_eq (x0 x1 : LL) (x2 x3 x4 x5 x6 x7 x8 x9 x10 x11 x12 x13 x14 x15 x16 x17 x18 x19 x20 x21 : Int) (x22 : LL) (x23 x24 x25 x26 x27 x28 : Int) (x29 : Bool) (x30 : LL) : g3 x0 x1 x2 x3 x4 x5 x6 x7 x8 x9 x10 x11 x12 x13 x14 x15 x16 x17 x18 x19 x20 x21 x22 x23 x24 x25 x26 x27 x28 x29 x30 =
 ((g6 x0 x1).bind fun (r31 : Bool) =>
 if (!r31) = true then
 (g7).bind fun (r32 : Bool) =>
 some (r32)
 else
 if (cop .gtr (List.length x22 : Int) 20) = true then
 (g7).bind fun (r32 : Bool) =>
 some (r32)
 else
 if (cop .gtr (List.length x30 : Int) 70) = true then
 (g7).bind fun (r32 : Bool) =>
 some (r32)
 else
 (g9 x0).bind fun (r32 : LL) =>
 (g10 x1).bind fun (r33 : LL) =>
 (g11 x2 x3 x4 x5 x6 x7 x8 x9 x10 x11 x12 x13 x14 x15 x16 x17 x18 x19 x20 x21 x22 x23 x24 x25 x26 x27 x28 x29).bind fun (r34 : Qt7) =>
 reqK (roomP ([] : LL) x30 8) <|
 (g8 r32 r33 r34.1 r34.2.1 r34.2.2.1 r34.2.2.2.1 r34.2.2.2.2.1 r34.2.2.2.2.2.1 r34.2.2.2.2.2.2.1 r34.2.2.2.2.2.2.2.1 r34.2.2.2.2.2.2.2.2.1 r34.2.2.2.2.2.2.2.2.2.1 r34.2.2.2.2.2.2.2.2.2.2.1 r34.2.2.2.2.2.2.2.2.2.2.2.1 (d4 (d8 r34)).1 (d4 (d8 r34)).2.1 (d2 (d4 (d8 r34))).1 (d2 (d4 (d8 r34))).2.1 (d16 r34).1 (d16 r34).2.1 (d2 (d16 r34)).1 (d2 (d16 r34)).2.1 (d4 (d16 r34)).1 (d4 (d16 r34)).2.1 (d2 (d4 (d16 r34))).1 (d2 (d4 (d16 r34))).2.1 (d8 (d16 r34)).1 (d8 (d16 r34)).2.1 (d2 (d8 (d16 r34))).1 (d2 (d8 (d16 r34))).2 x30).bind fun (r62 : LL × LL × Int) =>
 (g12 x0 x1 x2 x3 x4 x5 x6 x7 x8 x9 x10 x11 x12 x13 x14 x15 x16 x17 x18 x19 x20 x21 x22 x23 x24 x25 x26 x27 x28 x29 x30).bind fun (r65 : LL × LL × Int) =>
 (g13 r62.1 r65.1).bind fun (r68 : Bool) =>
 if r68 = true then
 (g14 r62.2.1 r65.2.1).bind fun (r69 : Bool) =>
 if r69 = true then
 if (cop .eql r62.2.2 r65.2.2) = true then
 (g7).bind fun (r70 : Bool) =>
 some (r70)
 else
 some (false)
 else
 some (false)
 else
 some (false)) := by kernel_rfl

/- multikernel/multikernellaw24.ClientRequestsExact -/
noncomputable def F4 : Fn := ⟨32, [4], [], [], 0, [], [], Tryz.f4, [.c (.slice 28), .agg [.int .i64, .slice 1, .slice 1]], [.c (.bool)], [(6, F6.S), (7, F7.S), (10, F10.S), (16, F16.S), (17, F17.S), (15, F15.S)]⟩
theorem ok4 : F4.S.Ok Tryz.prog 4 := F4.ok Tryz.func4 (by kernel_rfl) ⟨ok6, ⟨ok7, ⟨ok10, ⟨ok16, ⟨ok17, ⟨ok15, trivial⟩⟩⟩⟩⟩⟩
noncomputable def g4 (x0 : LL) (x1 : Int) (x2 x3 : LL) : Option (Bool) := F4.S.g [.l x0, .i x1, .l x2, .l x3]
theorem g4_eq (x0 : LL) (x1 : Int) (x2 x3 : LL) : g4 x0 x1 x2 x3 =
 ((g6 ([] : LL) x0).bind fun (r4 : Bool) =>
 if (!r4) = true then
 (g7).bind fun (r5 : Bool) =>
 some (r5)
 else
 if (cop .gtr (List.length x2 : Int) 40) = true then
 (g7).bind fun (r5 : Bool) =>
 some (r5)
 else
 if (cop .gtr (List.length x3 : Int) 40) = true then
 (g7).bind fun (r5 : Bool) =>
 some (r5)
 else
 (g10 x0).bind fun (r5 : LL) =>
 (g16 r5 x1 x2 x3).bind fun (r6 : LL) =>
 (g17 x0 x1 x2 x3).bind fun (r7 : LL) =>
 (g15 r6 r7).bind fun (r8 : Bool) =>
 if r8 = true then
 (g7).bind fun (r9 : Bool) =>
 some (r9)
 else
 some (false)) := by kernel_rfl

/- multikernel/multikernelmake.Place -/
noncomputable def F18 : Fn := ⟨16, [4], [], [], 0, [], [], Tryz.f18, [.c (.int .i64), .c (.int .i64)], [.c (.int .i64)], []⟩
theorem ok18 : F18.S.Ok Tryz.prog 18 := F18.ok Tryz.func18 (by kernel_rfl) trivial
noncomputable def g18 (x0 x1 : Int) : Option (Int) := F18.S.g [.i x0, .i x1]
theorem g18_eq (x0 x1 : Int) : g18 x0 x1 =
 (if (cop .lss x1 1) = true then
 some (0)
 else
 reqK ((x1 : Int) ≠ 0) <|
 if (cop .lss (iop .rem .i64 x0 x1) 0) = true then
 some ((iop .add .i64 (iop .rem .i64 x0 x1) x1))
 else
 some ((iop .rem .i64 x0 x1))) := by kernel_rfl

/- multikernel/multikernellaw24.ClientOrder -/
noncomputable def F5 : Fn := ⟨180, [4], [(6, [(0, .c (.slice 1)), (1, .c (.slice 1)), (5, .c (.slice 28)), (6, .box [.int .i64, .slice 1, .slice 1]), (7, .c (.int .i64))]), (11, [(0, .c (.slice 1)), (5, .c (.slice 28)), (6, .box [.int .i64, .slice 1, .slice 1]), (8, .c (.int .i64)), (9, .c (.int .i64))]), (27, [(5, .c (.slice 28)), (6, .box [.int .i64, .slice 1, .slice 1]), (15, .c (.slice 74)), (16, .c (.int .i64)), (17, .c (.int .i64))])], [], 0, [], [], Tryz.f5, [.c (.slice 1), .c (.slice 1)], [.c (.bool)], [(7, F7.S), (18, F18.S), (19, F19.S), (20, F20.S), (10, F10.S), (8, F8.S), (16, F16.S), (21, F21.S)]⟩
theorem ok5 : F5.S.Ok Tryz.prog 5 := F5.ok Tryz.func5 (by kernel_rfl) ⟨ok7, ⟨ok18, ⟨ok19, ⟨ok20, ⟨ok10, ⟨ok8, ⟨ok16, ⟨ok21, trivial⟩⟩⟩⟩⟩⟩⟩⟩
noncomputable def g5 (x0 x1 : LL) : Option (Bool) := F5.S.g [.l x0, .l x1]
noncomputable def g5L0 (k : Nat) (x0 : LL) (x1 : Int) (x2 x3 x4 : LL) (x5 x6 : Int) : Option (Bool) := F5.lp [1, 0, 1, 2, 1, 3] 0 r0 k [.l x0, .i x1, .l x2, .l x3, .l x4, .i x5, .i x6]
theorem g5L0_eq (k : Nat) (x0 : LL) (x1 : Int) (x2 x3 x4 : LL) (x5 x6 : Int) : g5L0 (k + 1) x0 x1 x2 x3 x4 x5 x6 =
 (if (cop .lss x6 (List.length x0 : Int)) = true then
 if (cop .gtr x6 0) = true then
 elemK x0 x6 hs3 fun (r7 : Qt7) =>
 elemK x0 (iop .sub .i64 x6 1) hs3 fun (r35 : Qt7) =>
 if (cop .leq r7.2.1 r35.2.1) = true then
 some (false)
 else
 elemK x0 x6 hs3 fun (r63 : Qt7) =>
 if (cop .geq (d2 (d4 (d8 r63))).2.1 (List.length x3 : Int)) = true then
 g5L0 k x0 x1 x2 x3 x4 x5 (iop .add .i64 x6 1)
 else
 if (cop .geq x5 (List.length x4 : Int)) = true then
 some (false)
 else
 elemK x4 x5 hs0 fun (r91 : Qt2) =>
 if (cop .neq r91.1 1) = true then
 some (false)
 else
 elemK x4 x5 hs0 fun (r165 : Qt2) =>
 elemK x0 x6 hs3 fun (r239 : Qt7) =>
 elemK x3 (d2 (d4 (d8 r239))).2.1 [.int .i64] fun (r267 : Int) =>
 if (cop .neq r165.2.2.2.1 r267) = true then
 some (false)
 else
 elemK x4 x5 hs0 fun (r268 : Qt2) =>
 elemK x0 x6 hs3 fun (r342 : Qt7) =>
 (g21 (d4 (d8 r268)).1 (d4 (d8 r268)).2.1 (d2 (d4 (d8 r268))).1 (d2 (d4 (d8 r268))).2.1 (d16 r268).1 (d16 r268).2.1 (d2 (d16 r268)).1 (d2 (d16 r268)).2.1 (d4 (d16 r268)).1 (d4 (d16 r268)).2.1 (d2 (d4 (d16 r268))).1 (d2 (d4 (d16 r268))).2.1 (d8 (d16 r268)).1 (d8 (d16 r268)).2.1 (d2 (d8 (d16 r268))).1 (d2 (d8 (d16 r268))).2.1 (d4 (d8 (d16 r268))).1 (d4 (d8 (d16 r268))).2.1 (d2 (d4 (d8 (d16 r268)))).1 (d2 (d4 (d8 (d16 r268)))).2.1 (d16 (d16 r268)).1 (d16 (d16 r268)).2.1 (d2 (d16 (d16 r268))).1 (d2 (d16 (d16 r268))).2.1 (d4 (d16 (d16 r268))).1 (d4 (d16 (d16 r268))).2.1 (d2 (d4 (d16 (d16 r268)))).1 (d2 (d4 (d16 (d16 r268)))).2.1 r342.1 r342.2.1 r342.2.2.1 r342.2.2.2.1 r342.2.2.2.2.1 r342.2.2.2.2.2.1 r342.2.2.2.2.2.2.1 r342.2.2.2.2.2.2.2.1 r342.2.2.2.2.2.2.2.2.1 r342.2.2.2.2.2.2.2.2.2.1 r342.2.2.2.2.2.2.2.2.2.2.1 r342.2.2.2.2.2.2.2.2.2.2.2.1 (d4 (d8 r342)).1 (d4 (d8 r342)).2.1 (d2 (d4 (d8 r342))).1 (d2 (d4 (d8 r342))).2.1 (d16 r342).1 (d16 r342).2.1 (d2 (d16 r342)).1 (d2 (d16 r342)).2.1 (d4 (d16 r342)).1 (d4 (d16 r342)).2.1 (d2 (d4 (d16 r342))).1 (d2 (d4 (d16 r342))).2.1 (d8 (d16 r342)).1 (d8 (d16 r342)).2.1 (d2 (d8 (d16 r342))).1 (d2 (d8 (d16 r342))).2).bind fun (r370 : Bool) =>
 if (!r370) = true then
 some (false)
 else
 g5L0 k x0 x1 x2 x3 x4 (iop .add .i64 x5 1) (iop .add .i64 x6 1)
 else
 elemK x0 x6 hs3 fun (r7 : Qt7) =>
 if (cop .geq (d2 (d4 (d8 r7))).2.1 (List.length x3 : Int)) = true then
 g5L0 k x0 x1 x2 x3 x4 x5 (iop .add .i64 x6 1)
 else
 if (cop .geq x5 (List.length x4 : Int)) = true then
 some (false)
 else
 elemK x4 x5 hs0 fun (r35 : Qt2) =>
 if (cop .neq r35.1 1) = true then
 some (false)
 else
 elemK x4 x5 hs0 fun (r109 : Qt2) =>
 elemK x0 x6 hs3 fun (r183 : Qt7) =>
 elemK x3 (d2 (d4 (d8 r183))).2.1 [.int .i64] fun (r211 : Int) =>
 if (cop .neq r109.2.2.2.1 r211) = true then
 some (false)
 else
 elemK x4 x5 hs0 fun (r212 : Qt2) =>
 elemK x0 x6 hs3 fun (r286 : Qt7) =>
 (g21 (d4 (d8 r212)).1 (d4 (d8 r212)).2.1 (d2 (d4 (d8 r212))).1 (d2 (d4 (d8 r212))).2.1 (d16 r212).1 (d16 r212).2.1 (d2 (d16 r212)).1 (d2 (d16 r212)).2.1 (d4 (d16 r212)).1 (d4 (d16 r212)).2.1 (d2 (d4 (d16 r212))).1 (d2 (d4 (d16 r212))).2.1 (d8 (d16 r212)).1 (d8 (d16 r212)).2.1 (d2 (d8 (d16 r212))).1 (d2 (d8 (d16 r212))).2.1 (d4 (d8 (d16 r212))).1 (d4 (d8 (d16 r212))).2.1 (d2 (d4 (d8 (d16 r212)))).1 (d2 (d4 (d8 (d16 r212)))).2.1 (d16 (d16 r212)).1 (d16 (d16 r212)).2.1 (d2 (d16 (d16 r212))).1 (d2 (d16 (d16 r212))).2.1 (d4 (d16 (d16 r212))).1 (d4 (d16 (d16 r212))).2.1 (d2 (d4 (d16 (d16 r212)))).1 (d2 (d4 (d16 (d16 r212)))).2.1 r286.1 r286.2.1 r286.2.2.1 r286.2.2.2.1 r286.2.2.2.2.1 r286.2.2.2.2.2.1 r286.2.2.2.2.2.2.1 r286.2.2.2.2.2.2.2.1 r286.2.2.2.2.2.2.2.2.1 r286.2.2.2.2.2.2.2.2.2.1 r286.2.2.2.2.2.2.2.2.2.2.1 r286.2.2.2.2.2.2.2.2.2.2.2.1 (d4 (d8 r286)).1 (d4 (d8 r286)).2.1 (d2 (d4 (d8 r286))).1 (d2 (d4 (d8 r286))).2.1 (d16 r286).1 (d16 r286).2.1 (d2 (d16 r286)).1 (d2 (d16 r286)).2.1 (d4 (d16 r286)).1 (d4 (d16 r286)).2.1 (d2 (d4 (d16 r286))).1 (d2 (d4 (d16 r286))).2.1 (d8 (d16 r286)).1 (d8 (d16 r286)).2.1 (d2 (d8 (d16 r286))).1 (d2 (d8 (d16 r286))).2).bind fun (r314 : Bool) =>
 if (!r314) = true then
 some (false)
 else
 g5L0 k x0 x1 x2 x3 x4 (iop .add .i64 x5 1) (iop .add .i64 x6 1)
 else
 if (cop .eql x5 (List.length x4 : Int)) = true then
 (g7).bind fun (r7 : Bool) =>
 some (r7)
 else
 some (false)) := by kernel_rfl
noncomputable def g5L1 (k : Nat) (x0 x1 : LL) (x2 : Int) (x3 x4 : LL) (x5 x6 : Int) : Option (Bool) := F5.lp [1, 0, 1, 0] 0 r0 k [.l x0, .l x1, .i x2, .l x3, .l x4, .i x5, .i x6]
theorem g5L1_eq (k : Nat) (x0 x1 : LL) (x2 : Int) (x3 x4 : LL) (x5 x6 : Int) : g5L1 (k + 1) x0 x1 x2 x3 x4 x5 x6 =
 (if (cop .lss x6 (List.length x0 : Int)) = true then
 if (cop .lss x6 30) = true then
 elemK x0 x6 [.int .i64] fun (r7 : Int) =>
 (g18 r7 60).bind fun (r8 : Int) =>
 (g19 (iop .add .i64 1 r8)).bind fun (r9 : Qt7) =>
 elemK x0 x6 [.int .i64] fun (r37 : Int) =>
 reqK ((60 : Int) ≠ 0) <|
 (g18 (iop .quo .i64 r37 60) 4).bind fun (r38 : Int) =>
 (g20 x1 r9.1 r9.2.1 r9.2.2.1).bind fun (r39 : Int) =>
 reqK (makeP 3 136) <|
 reqK ((3 : Int) ≤ 3) <|
 reqK ((3 : Int) ≤ 3) <|
 (g10 x1).bind fun (r40 : LL) =>
 (g8 (List.replicate (Int.toNat 3) [AV.val (.int .i64 0), AV.val (.int .i64 0), AV.val (.int .i64 0), AV.slice false 3 ([] : LL), AV.val (.int .i64 0), AV.val (.int .i64 0), AV.val (.int .i64 0), AV.val (.int .i64 0), AV.val (.int .i64 0), AV.val (.int .i64 0), AV.val (.bool false), AV.val (.int .i64 0), AV.val (.int .i64 0), AV.val (.int .i64 0), AV.val (.int .i64 0)]) r40 r9.1 r9.2.1 r9.2.2.1 r9.2.2.2.1 r9.2.2.2.2.1 r9.2.2.2.2.2.1 r9.2.2.2.2.2.2.1 r9.2.2.2.2.2.2.2.1 r9.2.2.2.2.2.2.2.2.1 r9.2.2.2.2.2.2.2.2.2.1 r9.2.2.2.2.2.2.2.2.2.2.1 r9.2.2.2.2.2.2.2.2.2.2.2.1 (d4 (d8 r9)).1 (d4 (d8 r9)).2.1 (d2 (d4 (d8 r9))).1 r38 (d16 r9).1 (d16 r9).2.1 (d2 (d16 r9)).1 (d2 (d16 r9)).2.1 (d4 (d16 r9)).1 (d4 (d16 r9)).2.1 (d2 (d4 (d16 r9))).1 (d2 (d4 (d16 r9))).2.1 (d8 (d16 r9)).1 (d8 (d16 r9)).2.1 (d2 (d8 (d16 r9))).1 (d2 (d8 (d16 r9))).2 (([] : LL) ++ [[AV.val (.int .i64 1)]])).bind fun (r41 : LL × LL × Int) =>
 if (cop .geq r39 0) = true then
 if (cop .neq r41.2.2 1) = true then
 some (false)
 else
 g5L1 k x0 x1 x2 x3 x4 x5 (iop .add .i64 x6 1)
 else
 if (cop .neq r41.2.2 0) = true then
 some (false)
 else
 if (cop .neq (List.length r41.2.1 : Int) (iop .add .i64 x5 1)) = true then
 some (false)
 else
 g5L1 k x0 r41.2.1 x2 x3 x4 (iop .add .i64 x5 1) (iop .add .i64 x6 1)
 else
 (g10 x1).bind fun (r7 : LL) =>
 (g16 r7 x2 x3 x4).bind fun (r8 : LL) =>
 g5L0 FUEL x1 x2 x3 x4 r8 0 0
 else
 (g10 x1).bind fun (r7 : LL) =>
 (g16 r7 x2 x3 x4).bind fun (r8 : LL) =>
 g5L0 FUEL x1 x2 x3 x4 r8 0 0) := by kernel_rfl
noncomputable def g5L2 (k : Nat) (x0 x1 x2 : LL) (x3 : Int) (x4 x5 : LL) (x6 : Int) : Option (Bool) := F5.lp [1, 0] 0 r0 k [.l x0, .l x1, .l x2, .i x3, .l x4, .l x5, .i x6]
theorem g5L2_eq (k : Nat) (x0 x1 x2 : LL) (x3 : Int) (x4 x5 : LL) (x6 : Int) : g5L2 (k + 1) x0 x1 x2 x3 x4 x5 x6 =
 (if (cop .lss x6 (List.length x1 : Int)) = true then
 reqK (roomP ([] : LL) x5 8) <|
 elemK x1 x6 [.int .i64] fun (r7 : Int) =>
 (g18 r7 32).bind fun (r8 : Int) =>
 reqK (roomP x5 (([] : LL) ++ [[AV.val (.int .i64 r8)]]) 8) <|
 g5L2 k x0 x1 x2 x3 x4 (x5 ++ (([] : LL) ++ [[AV.val (.int .i64 r8)]])) (iop .add .i64 x6 1)
 else
 g5L1 FUEL x0 x2 x3 x4 x5 0 0) := by kernel_rfl
theorem g5_eq (x0 x1 : LL) : g5 x0 x1 =
 (if (cop .gtr (List.length x1 : Int) 16) = true then
 (g7).bind fun (r2 : Bool) =>
 some (r2)
 else
 g5L2 FUEL x0 x1 ([] : LL) 0 ([] : LL) ([] : LL) 0) := by kernel_rfl

end Go.Proofs.YtmgfkjonkdfedaaGreat
