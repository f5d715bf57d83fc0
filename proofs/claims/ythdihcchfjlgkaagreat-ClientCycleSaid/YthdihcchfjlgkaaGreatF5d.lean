/- Functions of the program, as what they compute. -/
import Derived.Test.YthdihcchfjlgkaaGreatF5c
namespace Go.Proofs.YthdihcchfjlgkaaGreat
open Go Go.AM
set_option linter.unusedVariables false
set_option maxRecDepth 100000
noncomputable def F19 : Fn := ⟨7, [2], [], [], 0, [], [], Tryz.f19, [.c (.int .i64)], [.agg hs3], []⟩
theorem ok19 : F19.S.Ok Tryz.prog 19 := F19.ok Tryz.func19 (by kernel_rfl) trivial
noncomputable def F6 : Fn := ⟨90, [0], [], [], 0, [], [], Tryz.f6, [], [.c (.bool)], [(19, F19.S), (14, F14.S), (16, F16.S)]⟩
theorem ok6 : F6.S.Ok Tryz.prog 6 := F6.ok Tryz.func6 (by kernel_rfl) ⟨ok19, ⟨ok14, ⟨ok16, trivial⟩⟩⟩
noncomputable def g6 : Option (Bool) := F6.S.g []
noncomputable def F84 : Fn := ⟨20, [4], [], [], 0, [], [], Tryz.f84, [.c (.int .i64), .c (.int .i64)], [.agg [.int .i64, .int .i64]], [(8, F8.S)]⟩
theorem ok84 : F84.S.Ok Tryz.prog 84 := F84.ok Tryz.func84 (by kernel_rfl) ⟨ok8, trivial⟩
noncomputable def g84 (x0 x1 : Int) : Option (Int × Int) := F84.S.g [.i x0, .i x1]
theorem g84_eq (x0 x1 : Int) : g84 x0 x1 =
 ((g8 x1 11).bind fun (r2 : Int) =>
 reqK ((0 : Int) ≤ (IntKind.wrap .u64 (iop .sub .i64 16 (iop .add .i64 6 r2)))) <|
 (g8 x0 (iop .shl .i64 1 (IntKind.wrap .u64 (iop .sub .i64 16 (iop .add .i64 6 r2))))).bind fun (r3 : Int) =>
 reqK ((0 : Int) ≤ (IntKind.wrap .u64 (iop .add .i64 6 r2))) <|
 some ((iop .shl .i64 r3 (IntKind.wrap .u64 (iop .add .i64 6 r2))), (iop .add .i64 6 r2))) := by kernel_rfl
noncomputable def F50 : Fn := ⟨14, [4], [], [], 0, [], [], Tryz.f50, [.c (.int .i64), .c (.int .i64)], [.agg hs16], [(84, F84.S)]⟩
theorem ok50 : F50.S.Ok Tryz.prog 50 := F50.ok Tryz.func50 (by kernel_rfl) ⟨ok84, trivial⟩
noncomputable def g50 (x0 x1 : Int) : Option (Qt21) := F50.S.g [.i x0, .i x1]
theorem g50_eq (x0 x1 : Int) : g50 x0 x1 =
 ((g84 x0 x1).bind fun (r2 : Int × Int) =>
 some (1, r2.1, r2.2, 7, 0, 0, false)) := by kernel_rfl
noncomputable def F85 : Fn := ⟨21, [4], [(2, [(0, .c (.slice 13)), (3, .box [.int .i64, .int .i64, .int .i64]), (5, .c (.int .i64))])], [], 0, [], [], Tryz.f85, [.c (.slice 13), .agg [.int .i64, .int .i64, .int .i64]], [.c (.int .i64)], []⟩
theorem ok85 : F85.S.Ok Tryz.prog 85 := F85.ok Tryz.func85 (by kernel_rfl) trivial
noncomputable def g85 (x0 : LL) (x1 x2 x3 : Int) : Option (Int) := F85.S.g [.l x0, .i x1, .i x2, .i x3]
noncomputable def g85L0 (k : Nat) (x0 : LL) (x1 x2 x3 x4 : Int) : Option (Int) := F85.lp [0] 0 r0 k [.l x0, .i x1, .i x2, .i x3, .i x4]
theorem g85L0_eq (k : Nat) (x0 : LL) (x1 x2 x3 x4 : Int) : g85L0 (k + 1) x0 x1 x2 x3 x4 =
 (if (cop .lss x4 (List.length x0 : Int)) = true then
 elemK x0 x4 hs9 fun (r5 : Qt14) =>
 if ((cop .eql r5.2.2.1 x1) && ((cop .eql r5.2.2.2.1 x2) && ((cop .eql r5.2.2.2.2.1 x3) && true))) = true then
 some (x4)
 else
 g85L0 k x0 x1 x2 x3 (iop .add .i64 x4 1)
 else
 some ((-1))) := by kernel_rfl
theorem g85_eq (x0 : LL) (x1 x2 x3 : Int) : g85 x0 x1 x2 x3 =
 (g85L0 FUEL x0 x1 x2 x3 0) := by kernel_rfl
noncomputable def F146 : Fn := ⟨13, [2], [], [], 0, [], [], Tryz.f146, [.agg [.int .i64, .int .i64]], [.c (.int .i64)], [(145, F145.S)]⟩
theorem ok146 : F146.S.Ok Tryz.prog 146 := F146.ok Tryz.func146 (by kernel_rfl) ⟨ok145, trivial⟩
noncomputable def g146 (x0 x1 : Int) : Option (Int) := F146.S.g [.i x0, .i x1]
theorem g146_eq (x0 x1 : Int) : g146 x0 x1 =
 ((g145 x0 x1).bind fun (r2 : Bool) =>
 if (!r2) = true then
 some (0)
 else
 reqK ((0 : Int) ≤ (IntKind.wrap .u64 x1)) <|
 some ((iop .add .i64 x0 (iop .shl .i64 1 (IntKind.wrap .u64 x1))))) := by kernel_rfl
noncomputable def F86 : Fn := ⟨25, [4], [], [], 0, [], [], Tryz.f86, [.agg [.int .i64, .int .i64], .agg [.int .i64, .int .i64]], [.c (.bool)], [(145, F145.S), (146, F146.S)]⟩
theorem ok86 : F86.S.Ok Tryz.prog 86 := F86.ok Tryz.func86 (by kernel_rfl) ⟨ok145, ⟨ok146, trivial⟩⟩
noncomputable def g86 (x0 x1 x2 x3 : Int) : Option (Bool) := F86.S.g [.i x0, .i x1, .i x2, .i x3]
theorem g86_eq (x0 x1 x2 x3 : Int) : g86 x0 x1 x2 x3 =
 ((g145 x0 x1).bind fun (r4 : Bool) =>
 if r4 = true then
 (g145 x2 x3).bind fun (r5 : Bool) =>
 if r5 = true then
 if (cop .leq x0 x2) = true then
 (g146 x2 x3).bind fun (r6 : Int) =>
 (g146 x0 x1).bind fun (r7 : Int) =>
 some ((cop .leq r6 r7))
 else
 some (false)
 else
 some (false)
 else
 some (false)) := by kernel_rfl
noncomputable def F88 : Fn := ⟨25, [4], [], [], 0, [], [], Tryz.f88, [.agg [.int .i64, .int .i64], .agg [.int .i64, .int .i64]], [.c (.bool)], [(145, F145.S), (146, F146.S)]⟩
theorem ok88 : F88.S.Ok Tryz.prog 88 := F88.ok Tryz.func88 (by kernel_rfl) ⟨ok145, ⟨ok146, trivial⟩⟩
noncomputable def g88 (x0 x1 x2 x3 : Int) : Option (Bool) := F88.S.g [.i x0, .i x1, .i x2, .i x3]
theorem g88_eq (x0 x1 x2 x3 : Int) : g88 x0 x1 x2 x3 =
 ((g145 x0 x1).bind fun (r4 : Bool) =>
 if r4 = true then
 (g145 x2 x3).bind fun (r5 : Bool) =>
 if r5 = true then
 (g146 x2 x3).bind fun (r6 : Int) =>
 if (cop .lss x0 r6) = true then
 (g146 x0 x1).bind fun (r7 : Int) =>
 some ((cop .lss x2 r7))
 else
 some (false)
 else
 some (false)
 else
 some (false)) := by kernel_rfl
noncomputable def F51 : Fn := ⟨64, [6], [(3, [(0, .c (.slice 13)), (2, .c (.slice 7)), (7, .c (.int .i64)), (8, .c (.int .i64))]), (6, [(0, .c (.slice 13)), (2, .c (.slice 7)), (7, .c (.int .i64)), (8, .c (.int .i64)), (9, .c (.int .i64))])], [], 0, [], [], Tryz.f51, [.c (.slice 13), .agg [.int .i64, .int .i64, .int .i64], .c (.slice 7)], [.c (.bool)], [(85, F85.S), (87, F87.S), (86, F86.S), (88, F88.S)]⟩
theorem ok51 : F51.S.Ok Tryz.prog 51 := F51.ok Tryz.func51 (by kernel_rfl) ⟨ok85, ⟨ok87, ⟨ok86, ⟨ok88, trivial⟩⟩⟩⟩
noncomputable def g51 (x0 : LL) (x1 x2 x3 : Int) (x4 : LL) : Option (Bool) := F51.S.g [.l x0, .i x1, .i x2, .i x3, .l x4]
noncomputable def g51L0 (rec0 : List V → Option (Bool)) (k : Nat) (x0 x1 : LL) (x2 x3 x4 : Int) : Option (Bool) := F51.lp [3, 0] 1 (updR r0 0 rec0) k [.l x0, .l x1, .i x2, .i x3, .i x4]
theorem g51L0_eq (rec0 : List V → Option (Bool)) (k : Nat) (x0 x1 : LL) (x2 x3 x4 : Int) : g51L0 rec0 (k + 1) x0 x1 x2 x3 x4 =
 (if (cop .lss x4 (List.length x0 : Int)) = true then
 elemK x0 x4 hs9 fun (r5 : Qt14) =>
 if (cop .geq x2 0) = true then
 if (cop .eql r5.2.2.2.2.2.2.1 1) = true then
 (g87 r5.2.2.2.2.2.2.1 r5.2.2.2.2.2.2.2.1 r5.2.2.2.2.2.2.2.2.1 r5.2.2.2.2.2.2.2.2.2.1 r5.2.2.2.2.2.2.2.2.2.2.1 r5.2.2.2.2.2.2.2.2.2.2.2.1 (d4 (d8 r5))).bind fun (r18 : Int × Int) =>
 elemK x0 x2 hs9 fun (r20 : Qt14) =>
 (g87 r20.2.2.2.2.2.2.1 r20.2.2.2.2.2.2.2.1 r20.2.2.2.2.2.2.2.2.1 r20.2.2.2.2.2.2.2.2.2.1 r20.2.2.2.2.2.2.2.2.2.2.1 r20.2.2.2.2.2.2.2.2.2.2.2.1 (d4 (d8 r20))).bind fun (r33 : Int × Int) =>
 (g86 r18.1 r18.2 r33.1 r33.2).bind fun (r35 : Bool) =>
 (g87 r5.2.2.2.2.2.2.1 r5.2.2.2.2.2.2.2.1 r5.2.2.2.2.2.2.2.2.1 r5.2.2.2.2.2.2.2.2.2.1 r5.2.2.2.2.2.2.2.2.2.2.1 r5.2.2.2.2.2.2.2.2.2.2.2.1 (d4 (d8 r5))).bind fun (r36 : Int × Int) =>
 elemK x1 x3 hs16 fun (r38 : Qt21) =>
 (g87 r38.1 r38.2.1 r38.2.2.1 r38.2.2.2.1 r38.2.2.2.2.1 r38.2.2.2.2.2.1 r38.2.2.2.2.2.2).bind fun (r45 : Int × Int) =>
 (g88 r36.1 r36.2 r45.1 r45.2).bind fun (r47 : Bool) =>
 if r47 = true then
 if (!r35) = true then
 some (true)
 else
 g51L0 rec0 k x0 x1 x2 x3 (iop .add .i64 x4 1)
 else
 g51L0 rec0 k x0 x1 x2 x3 (iop .add .i64 x4 1)
 else
 (g87 r5.2.2.2.2.2.2.1 r5.2.2.2.2.2.2.2.1 r5.2.2.2.2.2.2.2.2.1 r5.2.2.2.2.2.2.2.2.2.1 r5.2.2.2.2.2.2.2.2.2.2.1 r5.2.2.2.2.2.2.2.2.2.2.2.1 (d4 (d8 r5))).bind fun (r18 : Int × Int) =>
 elemK x1 x3 hs16 fun (r20 : Qt21) =>
 (g87 r20.1 r20.2.1 r20.2.2.1 r20.2.2.2.1 r20.2.2.2.2.1 r20.2.2.2.2.2.1 r20.2.2.2.2.2.2).bind fun (r27 : Int × Int) =>
 (g88 r18.1 r18.2 r27.1 r27.2).bind fun (r29 : Bool) =>
 if r29 = true then
 some (true)
 else
 g51L0 rec0 k x0 x1 x2 x3 (iop .add .i64 x4 1)
 else
 (g87 r5.2.2.2.2.2.2.1 r5.2.2.2.2.2.2.2.1 r5.2.2.2.2.2.2.2.2.1 r5.2.2.2.2.2.2.2.2.2.1 r5.2.2.2.2.2.2.2.2.2.2.1 r5.2.2.2.2.2.2.2.2.2.2.2.1 (d4 (d8 r5))).bind fun (r18 : Int × Int) =>
 elemK x1 x3 hs16 fun (r20 : Qt21) =>
 (g87 r20.1 r20.2.1 r20.2.2.1 r20.2.2.2.1 r20.2.2.2.2.1 r20.2.2.2.2.2.1 r20.2.2.2.2.2.2).bind fun (r27 : Int × Int) =>
 (g88 r18.1 r18.2 r27.1 r27.2).bind fun (r29 : Bool) =>
 if r29 = true then
 some (true)
 else
 g51L0 rec0 k x0 x1 x2 x3 (iop .add .i64 x4 1)
 else
 rec0 [.l x0, .l x1, .i x2, .i (iop .add .i64 x3 1)]) := by kernel_rfl
noncomputable def g51L1 (k : Nat) (x0 x1 : LL) (x2 x3 : Int) : Option (Bool) := F51.lp [2] 0 r0 k [.l x0, .l x1, .i x2, .i x3]
theorem g51L1_eq (k : Nat) (x0 x1 : LL) (x2 x3 : Int) : g51L1 (k + 1) x0 x1 x2 x3 =
 (if (cop .lss x3 (List.length x1 : Int)) = true then
 g51L0 (F51.lp [2] 0 r0 k) FUEL x0 x1 x2 x3 0
 else
 some (false)) := by kernel_rfl
theorem g51_eq (x0 : LL) (x1 x2 x3 : Int) (x4 : LL) : g51 x0 x1 x2 x3 x4 =
 ((g85 x0 x1 x2 x3).bind fun (r5 : Int) =>
 g51L1 FUEL x0 x4 r5 0) := by kernel_rfl
noncomputable def F147 : Fn := ⟨31, [6], [(2, [(0, .c (.slice 13)), (1, .c (.int .i64)), (2, .c (.int .i64)), (7, .c (.int .i64))])], [], 0, [], [], Tryz.f147, [.c (.slice 13), .c (.int .i64), .c (.int .i64)], [.c (.int .i64)], []⟩
theorem ok147 : F147.S.Ok Tryz.prog 147 := F147.ok Tryz.func147 (by kernel_rfl) trivial
noncomputable def g147 (x0 : LL) (x1 x2 : Int) : Option (Int) := F147.S.g [.l x0, .i x1, .i x2]
noncomputable def g147L0 (k : Nat) (x0 : LL) (x1 x2 x3 : Int) : Option (Int) := F147.lp [0] 0 r0 k [.l x0, .i x1, .i x2, .i x3]
theorem g147L0_eq (k : Nat) (x0 : LL) (x1 x2 x3 : Int) : g147L0 (k + 1) x0 x1 x2 x3 =
 (if (cop .lss x3 (List.length x0 : Int)) = true then
 elemK x0 x3 hs9 fun (r4 : Qt14) =>
 if (cop .eql r4.1 x1) = true then
 elemK x0 x3 hs9 fun (r17 : Qt14) =>
 if (cop .eql r17.2.1 x2) = true then
 some (x3)
 else
 g147L0 k x0 x1 x2 (iop .add .i64 x3 1)
 else
 g147L0 k x0 x1 x2 (iop .add .i64 x3 1)
 else
 some ((-1))) := by kernel_rfl
theorem g147_eq (x0 : LL) (x1 x2 : Int) : g147 x0 x1 x2 =
 (g147L0 FUEL x0 x1 x2 0) := by kernel_rfl
noncomputable def F148 : Fn := ⟨32, [2], [(3, [(0, .c (.slice 13)), (3, .c (.own false 85)), (4, .c (.int .i64))])], [], 0, [], [], Tryz.f148, [.c (.slice 13)], [.c (.own false 85)], [(26, F26.S)]⟩
theorem ok148 : F148.S.Ok Tryz.prog 148 := F148.ok Tryz.func148 (by kernel_rfl) ⟨ok26, trivial⟩
noncomputable def g148 (x0 : LL) : Option (LL) := F148.S.g [.l x0]
noncomputable def g148L0 (k : Nat) (x0 x1 : LL) (x2 : Int) : Option (LL) := F148.lp [0] 0 r0 k [.l x0, .l x1, .i x2]
theorem g148L0_eq (k : Nat) (x0 x1 : LL) (x2 : Int) : g148L0 (k + 1) x0 x1 x2 =
 (if (cop .lss x2 (List.length x0 : Int)) = true then
 elemK x0 x2 hs9 fun (r3 : Qt14) =>
 elemK x0 x2 hs9 fun (r16 : Qt14) =>
 elemK x0 x2 hs9 fun (r29 : Qt14) =>
 (g26 r29.2.2.1 r29.2.2.2.1 r29.2.2.2.2.1 r29.2.2.2.2.2.1 r29.2.2.2.2.2.2.1 r29.2.2.2.2.2.2.2.1 r29.2.2.2.2.2.2.2.2.1 r29.2.2.2.2.2.2.2.2.2.1 r29.2.2.2.2.2.2.2.2.2.2.1 r29.2.2.2.2.2.2.2.2.2.2.2.1 (d4 (d8 r29))).bind fun (r42 : Qt20) =>
 reqK (roomP x1 (([] : LL) ++ [[AV.val (.int .i64 r3.1), AV.val (.int .i64 r16.2.1), AV.val (.int .i64 r42.1), AV.val (.int .i64 r42.2.1), AV.val (.int .i64 r42.2.2.1), AV.slice false 3 r42.2.2.2.1, AV.val (.int .i64 r42.2.2.2.2.1), AV.val (.int .i64 r42.2.2.2.2.2.1), AV.val (.int .i64 r42.2.2.2.2.2.2.1), AV.val (.int .i64 r42.2.2.2.2.2.2.2.1), AV.val (.int .i64 r42.2.2.2.2.2.2.2.2.1), AV.val (.int .i64 r42.2.2.2.2.2.2.2.2.2.1), AV.val (.bool r42.2.2.2.2.2.2.2.2.2.2)]]) 120) <|
 g148L0 k x0 (x1 ++ (([] : LL) ++ [[AV.val (.int .i64 r3.1), AV.val (.int .i64 r16.2.1), AV.val (.int .i64 r42.1), AV.val (.int .i64 r42.2.1), AV.val (.int .i64 r42.2.2.1), AV.slice false 3 r42.2.2.2.1, AV.val (.int .i64 r42.2.2.2.2.1), AV.val (.int .i64 r42.2.2.2.2.2.1), AV.val (.int .i64 r42.2.2.2.2.2.2.1), AV.val (.int .i64 r42.2.2.2.2.2.2.2.1), AV.val (.int .i64 r42.2.2.2.2.2.2.2.2.1), AV.val (.int .i64 r42.2.2.2.2.2.2.2.2.2.1), AV.val (.bool r42.2.2.2.2.2.2.2.2.2.2)]])) (iop .add .i64 x2 1)
 else
 some (x1)) := by kernel_rfl
theorem g148_eq (x0 : LL) : g148 x0 =
 (g148L0 FUEL x0 ([] : LL) 0) := by kernel_rfl
noncomputable def F89 : Fn := ⟨62, [4, 5], [(4, [(0, .c (.slice 13)), (3, .box hs9), (6, .c (.int .i64))])], [], 0, [], [], Tryz.f89, [.c (.slice 13), .agg hs9], [.c (.own false 85), .c (.bool)], [(85, F85.S), (147, F147.S), (25, F25.S), (148, F148.S), (26, F26.S)]⟩
theorem ok89 : F89.S.Ok Tryz.prog 89 := F89.ok Tryz.func89 (by kernel_rfl) ⟨ok85, ⟨ok147, ⟨ok25, ⟨ok148, ⟨ok26, trivial⟩⟩⟩⟩⟩
noncomputable def g89 (x0 : LL) (x1 x2 x3 x4 x5 : Int) (x6 : LL) (x7 x8 x9 x10 x11 x12 : Int) (x13 : Bool) : Option (LL × Bool) := F89.S.g [.l x0, .i x1, .i x2, .i x3, .i x4, .i x5, .l x6, .i x7, .i x8, .i x9, .i x10, .i x11, .i x12, .b x13]
noncomputable def g89L0 (k : Nat) (x0 : LL) (x1 x2 x3 x4 x5 : Int) (x6 : LL) (x7 x8 x9 x10 x11 x12 : Int) (x13 : Bool) (x14 : Int) : Option (LL × Bool) := F89.lp [0, 1, 0, 1, 0] 0 r0 k [.l x0, .i x1, .i x2, .i x3, .i x4, .i x5, .l x6, .i x7, .i x8, .i x9, .i x10, .i x11, .i x12, .b x13, .i x14]
theorem g89L0_eq (k : Nat) (x0 : LL) (x1 x2 x3 x4 x5 : Int) (x6 : LL) (x7 x8 x9 x10 x11 x12 : Int) (x13 : Bool) (x14 : Int) : g89L0 (k + 1) x0 x1 x2 x3 x4 x5 x6 x7 x8 x9 x10 x11 x12 x13 x14 =
 (if (cop .lss x14 (List.length x0 : Int)) = true then
 elemK x0 x14 hs9 fun (r15 : Qt14) =>
 (g25 x3 x4 x5 r15.2.2.1 r15.2.2.2.1 r15.2.2.2.2.1).bind fun (r28 : Bool) =>
 if (!r28) = true then
 g89L0 k x0 x1 x2 x3 x4 x5 x6 x7 x8 x9 x10 x11 x12 x13 (iop .add .i64 x14 1)
 else
 reqK ((0 : Int) ≤ x14) <|
 reqK ((x14 : Int) ≤ (List.length x0 : Int)) <|
 (g148 (List.take (Int.toNat x14) x0)).bind fun (r29 : LL) =>
 (g26 x3 x4 x5 x6 x7 x8 x9 x10 x11 x12 x13).bind fun (r30 : Qt20) =>
 reqK (roomP r29 (([] : LL) ++ [[AV.val (.int .i64 x1), AV.val (.int .i64 x2), AV.val (.int .i64 r30.1), AV.val (.int .i64 r30.2.1), AV.val (.int .i64 r30.2.2.1), AV.slice false 3 r30.2.2.2.1, AV.val (.int .i64 r30.2.2.2.2.1), AV.val (.int .i64 r30.2.2.2.2.2.1), AV.val (.int .i64 r30.2.2.2.2.2.2.1), AV.val (.int .i64 r30.2.2.2.2.2.2.2.1), AV.val (.int .i64 r30.2.2.2.2.2.2.2.2.1), AV.val (.int .i64 r30.2.2.2.2.2.2.2.2.2.1), AV.val (.bool r30.2.2.2.2.2.2.2.2.2.2)]]) 120) <|
 reqK ((0 : Int) ≤ x14) <|
 reqK ((x14 : Int) ≤ (List.length x0 : Int)) <|
 (g148 (List.drop (Int.toNat x14) x0)).bind fun (r41 : LL) =>
 reqK (roomP (r29 ++ (([] : LL) ++ [[AV.val (.int .i64 x1), AV.val (.int .i64 x2), AV.val (.int .i64 r30.1), AV.val (.int .i64 r30.2.1), AV.val (.int .i64 r30.2.2.1), AV.slice false 3 r30.2.2.2.1, AV.val (.int .i64 r30.2.2.2.2.1), AV.val (.int .i64 r30.2.2.2.2.2.1), AV.val (.int .i64 r30.2.2.2.2.2.2.1), AV.val (.int .i64 r30.2.2.2.2.2.2.2.1), AV.val (.int .i64 r30.2.2.2.2.2.2.2.2.1), AV.val (.int .i64 r30.2.2.2.2.2.2.2.2.2.1), AV.val (.bool r30.2.2.2.2.2.2.2.2.2.2)]])) r41 120) <|
 some (((r29 ++ (([] : LL) ++ [[AV.val (.int .i64 x1), AV.val (.int .i64 x2), AV.val (.int .i64 r30.1), AV.val (.int .i64 r30.2.1), AV.val (.int .i64 r30.2.2.1), AV.slice false 3 r30.2.2.2.1, AV.val (.int .i64 r30.2.2.2.2.1), AV.val (.int .i64 r30.2.2.2.2.2.1), AV.val (.int .i64 r30.2.2.2.2.2.2.1), AV.val (.int .i64 r30.2.2.2.2.2.2.2.1), AV.val (.int .i64 r30.2.2.2.2.2.2.2.2.1), AV.val (.int .i64 r30.2.2.2.2.2.2.2.2.2.1), AV.val (.bool r30.2.2.2.2.2.2.2.2.2.2)]])) ++ r41), true)
 else
 reqK ((0 : Int) ≤ x14) <|
 reqK ((x14 : Int) ≤ (List.length x0 : Int)) <|
 (g148 (List.take (Int.toNat x14) x0)).bind fun (r15 : LL) =>
 (g26 x3 x4 x5 x6 x7 x8 x9 x10 x11 x12 x13).bind fun (r16 : Qt20) =>
 reqK (roomP r15 (([] : LL) ++ [[AV.val (.int .i64 x1), AV.val (.int .i64 x2), AV.val (.int .i64 r16.1), AV.val (.int .i64 r16.2.1), AV.val (.int .i64 r16.2.2.1), AV.slice false 3 r16.2.2.2.1, AV.val (.int .i64 r16.2.2.2.2.1), AV.val (.int .i64 r16.2.2.2.2.2.1), AV.val (.int .i64 r16.2.2.2.2.2.2.1), AV.val (.int .i64 r16.2.2.2.2.2.2.2.1), AV.val (.int .i64 r16.2.2.2.2.2.2.2.2.1), AV.val (.int .i64 r16.2.2.2.2.2.2.2.2.2.1), AV.val (.bool r16.2.2.2.2.2.2.2.2.2.2)]]) 120) <|
 reqK ((0 : Int) ≤ x14) <|
 reqK ((x14 : Int) ≤ (List.length x0 : Int)) <|
 (g148 (List.drop (Int.toNat x14) x0)).bind fun (r27 : LL) =>
 reqK (roomP (r15 ++ (([] : LL) ++ [[AV.val (.int .i64 x1), AV.val (.int .i64 x2), AV.val (.int .i64 r16.1), AV.val (.int .i64 r16.2.1), AV.val (.int .i64 r16.2.2.1), AV.slice false 3 r16.2.2.2.1, AV.val (.int .i64 r16.2.2.2.2.1), AV.val (.int .i64 r16.2.2.2.2.2.1), AV.val (.int .i64 r16.2.2.2.2.2.2.1), AV.val (.int .i64 r16.2.2.2.2.2.2.2.1), AV.val (.int .i64 r16.2.2.2.2.2.2.2.2.1), AV.val (.int .i64 r16.2.2.2.2.2.2.2.2.2.1), AV.val (.bool r16.2.2.2.2.2.2.2.2.2.2)]])) r27 120) <|
 some (((r15 ++ (([] : LL) ++ [[AV.val (.int .i64 x1), AV.val (.int .i64 x2), AV.val (.int .i64 r16.1), AV.val (.int .i64 r16.2.1), AV.val (.int .i64 r16.2.2.1), AV.slice false 3 r16.2.2.2.1, AV.val (.int .i64 r16.2.2.2.2.1), AV.val (.int .i64 r16.2.2.2.2.2.1), AV.val (.int .i64 r16.2.2.2.2.2.2.1), AV.val (.int .i64 r16.2.2.2.2.2.2.2.1), AV.val (.int .i64 r16.2.2.2.2.2.2.2.2.1), AV.val (.int .i64 r16.2.2.2.2.2.2.2.2.2.1), AV.val (.bool r16.2.2.2.2.2.2.2.2.2.2)]])) ++ r27), true)) := by kernel_rfl
theorem g89_eq (x0 : LL) (x1 x2 x3 x4 x5 : Int) (x6 : LL) (x7 x8 x9 x10 x11 x12 : Int) (x13 : Bool) : g89 x0 x1 x2 x3 x4 x5 x6 x7 x8 x9 x10 x11 x12 x13 =
 ((g85 x0 x3 x4 x5).bind fun (r14 : Int) =>
 if (cop .geq r14 0) = true then
 some (([] : LL), false)
 else
 (g147 x0 x1 x2).bind fun (r15 : Int) =>
 if (cop .geq r15 0) = true then
 some (([] : LL), false)
 else
 g89L0 FUEL x0 x1 x2 x3 x4 x5 x6 x7 x8 x9 x10 x11 x12 x13 0) := by kernel_rfl
noncomputable def F52 : Fn := ⟨24, [8], [], [], 0, [], [], Tryz.f52, [.c (.slice 13), .c (.int .i64), .c (.int .i64), .agg hs10], [.c (.slice 13)], [(89, F89.S)]⟩
theorem ok52 : F52.S.Ok Tryz.prog 52 := F52.ok Tryz.func52 (by kernel_rfl) ⟨ok89, trivial⟩
noncomputable def g52 (x0 : LL) (x1 x2 x3 x4 x5 : Int) (x6 : LL) (x7 x8 x9 x10 x11 x12 : Int) (x13 : Bool) : Option (LL) := F52.S.g [.l x0, .i x1, .i x2, .i x3, .i x4, .i x5, .l x6, .i x7, .i x8, .i x9, .i x10, .i x11, .i x12, .b x13]
theorem g52_eq (x0 : LL) (x1 x2 x3 x4 x5 : Int) (x6 : LL) (x7 x8 x9 x10 x11 x12 : Int) (x13 : Bool) : g52 x0 x1 x2 x3 x4 x5 x6 x7 x8 x9 x10 x11 x12 x13 =
 ((g89 x0 x1 x2 x3 x4 x5 x6 x7 x8 x9 x10 x11 x12 x13).bind fun (r14 : LL × Bool) =>
 if (!r14.2) = true then
 some (x0)
 else
 some (r14.1)) := by kernel_rfl
noncomputable def F53 : Fn := ⟨11, [4], [], [], 0, [], [], Tryz.f53, [.agg hs16, .c (.int .i64)], [.agg hs16], []⟩
theorem ok53 : F53.S.Ok Tryz.prog 53 := F53.ok Tryz.func53 (by kernel_rfl) trivial
noncomputable def g53 (x0 x1 x2 x3 x4 x5 : Int) (x6 : Bool) (x7 : Int) : Option (Qt21) := F53.S.g [.i x0, .i x1, .i x2, .i x3, .i x4, .i x5, .b x6, .i x7]
theorem g53_eq (x0 x1 x2 x3 x4 x5 : Int) (x6 : Bool) (x7 : Int) : g53 x0 x1 x2 x3 x4 x5 x6 x7 =
 (some (x0, x1, x2, (iop .and .i64 x3 x7), x4, x5, x6)) := by kernel_rfl
noncomputable def F54 : Fn := ⟨136, [14, 15], [(16, [(1, .c (.int .i64)), (2, .c (.int .i64)), (3, .c (.int .i64)), (4, .c (.int .i64)), (5, .c (.int .i64)), (6, .c (.int .i64)), (7, .box hs16), (16, .c (.bool)), (17, .c (.int .i64)), (19, .c (.own false 31)), (20, .c (.int .i64))])], [], 0, [], [], Tryz.f54, [.agg hs16, .c (.int .i64), .c (.int .i64), .c (.int .i64), .c (.int .i64), .c (.int .i64), .c (.int .i64)], [.c (.slice 7), .c (.int .i64)], [(90, F90.S), (91, F91.S), (92, F92.S)]⟩
theorem ok54 : F54.S.Ok Tryz.prog 54 := F54.ok Tryz.func54 (by kernel_rfl) ⟨ok90, ⟨ok91, ⟨ok92, trivial⟩⟩⟩
noncomputable def g54 (x0 x1 x2 x3 x4 x5 : Int) (x6 : Bool) (x7 x8 x9 x10 x11 x12 : Int) : Option (LL × Int) := F54.S.g [.i x0, .i x1, .i x2, .i x3, .i x4, .i x5, .b x6, .i x7, .i x8, .i x9, .i x10, .i x11, .i x12]
noncomputable def g54L0 (k : Nat) (x0 x1 x2 x3 x4 x5 x6 x7 x8 x9 x10 x11 : Int) (x12 x13 : Bool) (x14 : Int) (x15 : LL) (x16 : Int) : Option (LL × Int) := F54.lp [0, 1, 1, 1, 0, 1, 0, 0, 1, 1, 1, 1, 0, 0, 1, 3, 1, 1, 1, 0, 1, 0] 0 r0 k [.i x0, .i x1, .i x2, .i x3, .i x4, .i x5, .i x6, .i x7, .i x8, .i x9, .i x10, .i x11, .b x12, .b x13, .i x14, .l x15, .i x16]
theorem g54L0_eq (k : Nat) (x0 x1 x2 x3 x4 x5 x6 x7 x8 x9 x10 x11 : Int) (x12 x13 : Bool) (x14 : Int) (x15 : LL) (x16 : Int) : g54L0 (k + 1) x0 x1 x2 x3 x4 x5 x6 x7 x8 x9 x10 x11 x12 x13 x14 x15 x16 =
 (if (cop .lss x16 x5) = true then
 if x13 = true then
 reqK (roomP x15 (([] : LL) ++ [[AV.val (.int .i64 x0), AV.val (.int .i64 (iop .add .i64 (iop .add .i64 x7 x4) (iop .mul .i64 x16 x14))), AV.val (.int .i64 x1), AV.val (.int .i64 x9), AV.val (.int .i64 x3), AV.val (.int .i64 x2), AV.val (.bool x12)]]) 56) <|
 g54L0 k x0 x1 x2 x3 x4 x5 x6 x7 x8 x9 x10 x11 x12 x13 x14 (x15 ++ (([] : LL) ++ [[AV.val (.int .i64 x0), AV.val (.int .i64 (iop .add .i64 (iop .add .i64 x7 x4) (iop .mul .i64 x16 x14))), AV.val (.int .i64 x1), AV.val (.int .i64 x9), AV.val (.int .i64 x3), AV.val (.int .i64 x2), AV.val (.bool x12)]])) (iop .add .i64 x16 1)
 else
 reqK (roomP x15 (([] : LL) ++ [[AV.val (.int .i64 x0), AV.val (.int .i64 (iop .add .i64 (iop .add .i64 x7 x4) (iop .mul .i64 x16 x14))), AV.val (.int .i64 x1), AV.val (.int .i64 x9), AV.val (.int .i64 0), AV.val (.int .i64 0), AV.val (.bool x12)]]) 56) <|
 g54L0 k x0 x1 x2 x3 x4 x5 x6 x7 x8 x9 x10 x11 x12 x13 x14 (x15 ++ (([] : LL) ++ [[AV.val (.int .i64 x0), AV.val (.int .i64 (iop .add .i64 (iop .add .i64 x7 x4) (iop .mul .i64 x16 x14))), AV.val (.int .i64 x1), AV.val (.int .i64 x9), AV.val (.int .i64 0), AV.val (.int .i64 0), AV.val (.bool x12)]])) (iop .add .i64 x16 1)
 else
 some (x15, 0)) := by kernel_rfl
theorem g54_eq (x0 x1 x2 x3 x4 x5 : Int) (x6 : Bool) (x7 x8 x9 x10 x11 x12 : Int) : g54 x0 x1 x2 x3 x4 x5 x6 x7 x8 x9 x10 x11 x12 =
 ((g90 x0 x1 x2 x3 x4 x5 x6).bind fun (r13 : Bool) =>
 if (!r13) = true then
 some (([] : LL), 5)
 else
 if (cop .neq x0 1) = true then
 some (([] : LL), 5)
 else
 if (cop .eql (iop .and .i64 x3 2) 0) = true then
 some (([] : LL), 8)
 else
 (g91 x7 x8).bind fun (r14 : Bool) =>
 if (!r14) = true then
 some (([] : LL), 1)
 else
 if (cop .eql x7 3) = true then
 (g92 x10 x9).bind fun (r15 : Bool) =>
 if (!r15) = true then
 some (([] : LL), 1)
 else
 if (cop .lss x12 1) = true then
 some (([] : LL), 1)
 else
 if (cop .gtr x12 8) = true then
 some (([] : LL), 1)
 else
 if (cop .lss x11 0) = true then
 some (([] : LL), 1)
 else
 if x6 = true then
 if (cop .neq x7 1) = true then
 if (cop .neq x7 2) = true then
 some (([] : LL), 5)
 else
 reqK ((0 : Int) ≤ (IntKind.wrap .u64 x8)) <|
 reqK ((0 : Int) ≤ (IntKind.wrap .u64 x2)) <|
 reqK (((iop .shl .i64 1 (IntKind.wrap .u64 x8)) : Int) ≠ 0) <|
 if (cop .neq (iop .rem .i64 x11 (iop .shl .i64 1 (IntKind.wrap .u64 x8))) 0) = true then
 some (([] : LL), 6)
 else
 if (cop .gtr x11 (iop .shl .i64 1 (IntKind.wrap .u64 x2))) = true then
 some (([] : LL), 6)
 else
 if (cop .gtr (iop .mul .i64 x12 (iop .shl .i64 1 (IntKind.wrap .u64 x8))) (iop .sub .i64 (iop .shl .i64 1 (IntKind.wrap .u64 x2)) x11)) = true then
 some (([] : LL), 6)
 else
 if (cop .eql x7 1) = true then
 if (cop .geq x8 x2) = true then
 some (([] : LL), 6)
 else
 g54L0 FUEL x7 x8 x9 x10 x11 x12 x0 x1 x2 x3 x4 x5 x6 (cop .eql x7 3) (iop .shl .i64 1 (IntKind.wrap .u64 x8)) ([] : LL) 0
 else
 g54L0 FUEL x7 x8 x9 x10 x11 x12 x0 x1 x2 x3 x4 x5 x6 (cop .eql x7 3) (iop .shl .i64 1 (IntKind.wrap .u64 x8)) ([] : LL) 0
 else
 reqK ((0 : Int) ≤ (IntKind.wrap .u64 x8)) <|
 reqK ((0 : Int) ≤ (IntKind.wrap .u64 x2)) <|
 reqK (((iop .shl .i64 1 (IntKind.wrap .u64 x8)) : Int) ≠ 0) <|
 if (cop .neq (iop .rem .i64 x11 (iop .shl .i64 1 (IntKind.wrap .u64 x8))) 0) = true then
 some (([] : LL), 6)
 else
 if (cop .gtr x11 (iop .shl .i64 1 (IntKind.wrap .u64 x2))) = true then
 some (([] : LL), 6)
 else
 if (cop .gtr (iop .mul .i64 x12 (iop .shl .i64 1 (IntKind.wrap .u64 x8))) (iop .sub .i64 (iop .shl .i64 1 (IntKind.wrap .u64 x2)) x11)) = true then
 some (([] : LL), 6)
 else
 if (cop .eql x7 1) = true then
 if (cop .geq x8 x2) = true then
 some (([] : LL), 6)
 else
 g54L0 FUEL x7 x8 x9 x10 x11 x12 x0 x1 x2 x3 x4 x5 x6 (cop .eql x7 3) (iop .shl .i64 1 (IntKind.wrap .u64 x8)) ([] : LL) 0
 else
 g54L0 FUEL x7 x8 x9 x10 x11 x12 x0 x1 x2 x3 x4 x5 x6 (cop .eql x7 3) (iop .shl .i64 1 (IntKind.wrap .u64 x8)) ([] : LL) 0
 else
 reqK ((0 : Int) ≤ (IntKind.wrap .u64 x8)) <|
 reqK ((0 : Int) ≤ (IntKind.wrap .u64 x2)) <|
 reqK (((iop .shl .i64 1 (IntKind.wrap .u64 x8)) : Int) ≠ 0) <|
 if (cop .neq (iop .rem .i64 x11 (iop .shl .i64 1 (IntKind.wrap .u64 x8))) 0) = true then
 some (([] : LL), 6)
 else
 if (cop .gtr x11 (iop .shl .i64 1 (IntKind.wrap .u64 x2))) = true then
 some (([] : LL), 6)
 else
 if (cop .gtr (iop .mul .i64 x12 (iop .shl .i64 1 (IntKind.wrap .u64 x8))) (iop .sub .i64 (iop .shl .i64 1 (IntKind.wrap .u64 x2)) x11)) = true then
 some (([] : LL), 6)
 else
 if (cop .eql x7 1) = true then
 if (cop .geq x8 x2) = true then
 some (([] : LL), 6)
 else
 g54L0 FUEL x7 x8 x9 x10 x11 x12 x0 x1 x2 x3 x4 x5 x6 (cop .eql x7 3) (iop .shl .i64 1 (IntKind.wrap .u64 x8)) ([] : LL) 0
 else
 g54L0 FUEL x7 x8 x9 x10 x11 x12 x0 x1 x2 x3 x4 x5 x6 (cop .eql x7 3) (iop .shl .i64 1 (IntKind.wrap .u64 x8)) ([] : LL) 0
 else
 if (cop .lss x12 1) = true then
 some (([] : LL), 1)
 else
 if (cop .gtr x12 8) = true then
 some (([] : LL), 1)
 else
 if (cop .lss x11 0) = true then
 some (([] : LL), 1)
 else
 if x6 = true then
 if (cop .neq x7 1) = true then
 if (cop .neq x7 2) = true then
 some (([] : LL), 5)
 else
 reqK ((0 : Int) ≤ (IntKind.wrap .u64 x8)) <|
 reqK ((0 : Int) ≤ (IntKind.wrap .u64 x2)) <|
 reqK (((iop .shl .i64 1 (IntKind.wrap .u64 x8)) : Int) ≠ 0) <|
 if (cop .neq (iop .rem .i64 x11 (iop .shl .i64 1 (IntKind.wrap .u64 x8))) 0) = true then
 some (([] : LL), 6)
 else
 if (cop .gtr x11 (iop .shl .i64 1 (IntKind.wrap .u64 x2))) = true then
 some (([] : LL), 6)
 else
 if (cop .gtr (iop .mul .i64 x12 (iop .shl .i64 1 (IntKind.wrap .u64 x8))) (iop .sub .i64 (iop .shl .i64 1 (IntKind.wrap .u64 x2)) x11)) = true then
 some (([] : LL), 6)
 else
 if (cop .eql x7 1) = true then
 if (cop .geq x8 x2) = true then
 some (([] : LL), 6)
 else
 g54L0 FUEL x7 x8 x9 x10 x11 x12 x0 x1 x2 x3 x4 x5 x6 (cop .eql x7 3) (iop .shl .i64 1 (IntKind.wrap .u64 x8)) ([] : LL) 0
 else
 g54L0 FUEL x7 x8 x9 x10 x11 x12 x0 x1 x2 x3 x4 x5 x6 (cop .eql x7 3) (iop .shl .i64 1 (IntKind.wrap .u64 x8)) ([] : LL) 0
 else
 reqK ((0 : Int) ≤ (IntKind.wrap .u64 x8)) <|
 reqK ((0 : Int) ≤ (IntKind.wrap .u64 x2)) <|
 reqK (((iop .shl .i64 1 (IntKind.wrap .u64 x8)) : Int) ≠ 0) <|
 if (cop .neq (iop .rem .i64 x11 (iop .shl .i64 1 (IntKind.wrap .u64 x8))) 0) = true then
 some (([] : LL), 6)
 else
 if (cop .gtr x11 (iop .shl .i64 1 (IntKind.wrap .u64 x2))) = true then
 some (([] : LL), 6)
 else
 if (cop .gtr (iop .mul .i64 x12 (iop .shl .i64 1 (IntKind.wrap .u64 x8))) (iop .sub .i64 (iop .shl .i64 1 (IntKind.wrap .u64 x2)) x11)) = true then
 some (([] : LL), 6)
 else
 if (cop .eql x7 1) = true then
 if (cop .geq x8 x2) = true then
 some (([] : LL), 6)
 else
 g54L0 FUEL x7 x8 x9 x10 x11 x12 x0 x1 x2 x3 x4 x5 x6 (cop .eql x7 3) (iop .shl .i64 1 (IntKind.wrap .u64 x8)) ([] : LL) 0
 else
 g54L0 FUEL x7 x8 x9 x10 x11 x12 x0 x1 x2 x3 x4 x5 x6 (cop .eql x7 3) (iop .shl .i64 1 (IntKind.wrap .u64 x8)) ([] : LL) 0
 else
 reqK ((0 : Int) ≤ (IntKind.wrap .u64 x8)) <|
 reqK ((0 : Int) ≤ (IntKind.wrap .u64 x2)) <|
 reqK (((iop .shl .i64 1 (IntKind.wrap .u64 x8)) : Int) ≠ 0) <|
 if (cop .neq (iop .rem .i64 x11 (iop .shl .i64 1 (IntKind.wrap .u64 x8))) 0) = true then
 some (([] : LL), 6)
 else
 if (cop .gtr x11 (iop .shl .i64 1 (IntKind.wrap .u64 x2))) = true then
 some (([] : LL), 6)
 else
 if (cop .gtr (iop .mul .i64 x12 (iop .shl .i64 1 (IntKind.wrap .u64 x8))) (iop .sub .i64 (iop .shl .i64 1 (IntKind.wrap .u64 x2)) x11)) = true then
 some (([] : LL), 6)
 else
 if (cop .eql x7 1) = true then
 if (cop .geq x8 x2) = true then
 some (([] : LL), 6)
 else
 g54L0 FUEL x7 x8 x9 x10 x11 x12 x0 x1 x2 x3 x4 x5 x6 (cop .eql x7 3) (iop .shl .i64 1 (IntKind.wrap .u64 x8)) ([] : LL) 0
 else
 g54L0 FUEL x7 x8 x9 x10 x11 x12 x0 x1 x2 x3 x4 x5 x6 (cop .eql x7 3) (iop .shl .i64 1 (IntKind.wrap .u64 x8)) ([] : LL) 0) := by kernel_rfl
noncomputable def F55 : Fn := ⟨49, [6, 7], [], [], 0, [], [], Tryz.f55, [.agg hs10, .agg [.int .i64, .int .i64, .int .i64], .agg hs16], [.agg hs10, .c (.int .i64)], [(93, F93.S), (94, F94.S), (90, F90.S), (58, F58.S), (56, F56.S)]⟩
theorem ok55 : F55.S.Ok Tryz.prog 55 := F55.ok Tryz.func55 (by kernel_rfl) ⟨ok93, ⟨ok94, ⟨ok90, ⟨ok58, ⟨ok56, trivial⟩⟩⟩⟩⟩
noncomputable def g55 (x0 x1 x2 : Int) (x3 : LL) (x4 x5 x6 x7 x8 x9 : Int) (x10 : Bool) (x11 x12 x13 x14 x15 x16 x17 x18 x19 : Int) (x20 : Bool) : Option (Qt17) := F55.S.g [.i x0, .i x1, .i x2, .l x3, .i x4, .i x5, .i x6, .i x7, .i x8, .i x9, .b x10, .i x11, .i x12, .i x13, .i x14, .i x15, .i x16, .i x17, .i x18, .i x19, .b x20]
theorem g55_eq (x0 x1 x2 : Int) (x3 : LL) (x4 x5 x6 x7 x8 x9 : Int) (x10 : Bool) (x11 x12 x13 x14 x15 x16 x17 x18 x19 : Int) (x20 : Bool) : g55 x0 x1 x2 x3 x4 x5 x6 x7 x8 x9 x10 x11 x12 x13 x14 x15 x16 x17 x18 x19 x20 =
 ((g93 x0 x1 x2 x3 x4 x5 x6 x7 x8 x9 x10).bind fun (r21 : Bool) =>
 if (!r21) = true then
 some (0, 0, 0, ([] : LL), 0, 0, 0, 0, 0, 0, false, 1)
 else
 (g94 x11 x12 x13).bind fun (r22 : Bool) =>
 if (!r22) = true then
 some (0, 0, 0, ([] : LL), 0, 0, 0, 0, 0, 0, false, 1)
 else
 (g90 x14 x15 x16 x17 x18 x19 x20).bind fun (r23 : Bool) =>
 if (!r23) = true then
 some (0, 0, 0, ([] : LL), 0, 0, 0, 0, 0, 0, false, 1)
 else
 if ((cop .eql x11 x0) && ((cop .eql x12 x1) && ((cop .eql x13 x2) && true))) = true then
 some (0, 0, 0, ([] : LL), 0, 0, 0, 0, 0, 0, false, 1)
 else
 (g58 x3 x11 x12 x13).bind fun (r24 : Bool) =>
 if r24 = true then
 some (0, 0, 0, ([] : LL), 0, 0, 0, 0, 0, 0, false, 1)
 else
 if (cop .eql (List.length x3 : Int) 8) = true then
 some (0, 0, 0, ([] : LL), 0, 0, 0, 0, 0, 0, false, 9)
 else
 (g56 x3).bind fun (r25 : LL) =>
 reqK (roomP r25 (([] : LL) ++ [[AV.val (.int .i64 x0), AV.val (.int .i64 x1), AV.val (.int .i64 x2)]]) 24) <|
 some (x11, x12, x13, (r25 ++ (([] : LL) ++ [[AV.val (.int .i64 x0), AV.val (.int .i64 x1), AV.val (.int .i64 x2)]])), x14, x15, x16, x17, x18, x19, x20, 0)) := by kernel_rfl
noncomputable def F20 : Fn := ⟨146, [6], [(18, [(0, .c (.slice 13)), (2, .c (.int .i64)), (7, .c (.int .i64)), (8, .c (.int .i64)), (10, .box hs10), (11, .c (.slice 7)), (16, .c (.int .i64))])], [], 0, [], [], Tryz.f20, [.c (.slice 13), .agg hs12, .c (.int .i64)], [.c (.slice 13)], [(8, F8.S), (50, F50.S), (51, F51.S), (52, F52.S), (53, F53.S), (54, F54.S), (55, F55.S)]⟩
theorem ok20 : F20.S.Ok Tryz.prog 20 := F20.ok Tryz.func20 (by kernel_rfl) ⟨ok8, ⟨ok50, ⟨ok51, ⟨ok52, ⟨ok53, ⟨ok54, ⟨ok55, trivial⟩⟩⟩⟩⟩⟩⟩
noncomputable def g20 (x0 : LL) (x1 : Bool) (x2 x3 x4 x5 x6 x7 x8 x9 : Int) (x10 : Bool) (x11 : Int) : Option (LL) := F20.S.g [.l x0, .b x1, .i x2, .i x3, .i x4, .i x5, .i x6, .i x7, .i x8, .i x9, .b x10, .i x11]
noncomputable def g20L0 (k : Nat) (x0 : LL) (x1 x2 x3 x4 x5 x6 : Int) (x7 : LL) (x8 x9 x10 x11 x12 x13 : Int) (x14 : Bool) (x15 : LL) (x16 : Int) : Option (LL) := F20.lp [2, 1, 1, 5, 8, 1, 0, 1, 0] 0 r0 k [.l x0, .i x1, .i x2, .i x3, .i x4, .i x5, .i x6, .l x7, .i x8, .i x9, .i x10, .i x11, .i x12, .i x13, .b x14, .l x15, .i x16]
theorem g20L0_eq (k : Nat) (x0 : LL) (x1 x2 x3 x4 x5 x6 : Int) (x7 : LL) (x8 x9 x10 x11 x12 x13 : Int) (x14 : Bool) (x15 : LL) (x16 : Int) : g20L0 (k + 1) x0 x1 x2 x3 x4 x5 x6 x7 x8 x9 x10 x11 x12 x13 x14 x15 x16 =
 (if (cop .lss x16 (List.length x15 : Int)) = true then
 elemK x15 x16 hs16 fun (r17 : Qt21) =>
 (g55 x4 x5 x6 x7 x8 x9 x10 x11 x12 x13 x14 x2 x1 x16 r17.1 r17.2.1 r17.2.2.1 r17.2.2.2.1 r17.2.2.2.2.1 r17.2.2.2.2.2.1 r17.2.2.2.2.2.2).bind fun (r24 : Qt17) =>
 if (cop .neq r24.2.2.2.2.2.2.2.2.2.2.2 0) = true then
 some (x0)
 else
 (g52 x0 x2 (iop .add .i64 x3 x16) r24.1 r24.2.1 r24.2.2.1 r24.2.2.2.1 r24.2.2.2.2.1 r24.2.2.2.2.2.1 r24.2.2.2.2.2.2.1 r24.2.2.2.2.2.2.2.1 r24.2.2.2.2.2.2.2.2.1 r24.2.2.2.2.2.2.2.2.2.1 r24.2.2.2.2.2.2.2.2.2.2.1).bind fun (r36 : LL) =>
 g20L0 k r36 x1 x2 x3 x4 x5 x6 x7 x8 x9 x10 x11 x12 x13 x14 x15 (iop .add .i64 x16 1)
 else
 some (x0)) := by kernel_rfl
theorem g20_eq (x0 : LL) (x1 : Bool) (x2 x3 x4 x5 x6 x7 x8 x9 : Int) (x10 : Bool) (x11 : Int) : g20 x0 x1 x2 x3 x4 x5 x6 x7 x8 x9 x10 x11 =
 ((g8 x3 4).bind fun (r12 : Int) =>
 (g8 x4 8).bind fun (r13 : Int) =>
 if x1 = true then
 (g50 x6 x7).bind fun (r14 : Qt21) =>
 (g51 x0 0 0 0 (([] : LL) ++ [[AV.val (.int .i64 r14.1), AV.val (.int .i64 r14.2.1), AV.val (.int .i64 r14.2.2.1), AV.val (.int .i64 r14.2.2.2.1), AV.val (.int .i64 r14.2.2.2.2.1), AV.val (.int .i64 r14.2.2.2.2.2.1), AV.val (.bool r14.2.2.2.2.2.2)]])).bind fun (r21 : Bool) =>
 if r21 = true then
 some (x0)
 else
 (g52 x0 r12 r13 r12 x11 0 ([] : LL) r14.1 r14.2.1 r14.2.2.1 r14.2.2.2.1 r14.2.2.2.2.1 r14.2.2.2.2.2.1 r14.2.2.2.2.2.2).bind fun (r22 : LL) =>
 some (r22)
 else
 if (cop .eql (List.length x0 : Int) 0) = true then
 (g50 x6 x7).bind fun (r14 : Qt21) =>
 (g51 x0 0 0 0 (([] : LL) ++ [[AV.val (.int .i64 r14.1), AV.val (.int .i64 r14.2.1), AV.val (.int .i64 r14.2.2.1), AV.val (.int .i64 r14.2.2.2.1), AV.val (.int .i64 r14.2.2.2.2.1), AV.val (.int .i64 r14.2.2.2.2.2.1), AV.val (.bool r14.2.2.2.2.2.2)]])).bind fun (r21 : Bool) =>
 if r21 = true then
 some (x0)
 else
 (g52 x0 r12 r13 r12 x11 0 ([] : LL) r14.1 r14.2.1 r14.2.2.1 r14.2.2.2.1 r14.2.2.2.2.1 r14.2.2.2.2.2.1 r14.2.2.2.2.2.2).bind fun (r22 : LL) =>
 some (r22)
 else
 (g8 x2 (List.length x0 : Int)).bind fun (r14 : Int) =>
 elemK x0 r14 hs9 fun (r15 : Qt14) =>
 (g8 x9 8).bind fun (r28 : Int) =>
 (g53 r15.2.2.2.2.2.2.1 r15.2.2.2.2.2.2.2.1 r15.2.2.2.2.2.2.2.2.1 r15.2.2.2.2.2.2.2.2.2.1 r15.2.2.2.2.2.2.2.2.2.2.1 r15.2.2.2.2.2.2.2.2.2.2.2.1 (d4 (d8 r15)) r28).bind fun (r29 : Qt21) =>
 if (!x10) = true then
 (g8 x5 6).bind fun (r36 : Int) =>
 (g8 x7 10).bind fun (r37 : Int) =>
 elemK ((((((([] : LL) ++ [[AV.val (.int .i64 (iop .add .i64 6 r37))]]) ++ [[AV.val (.int .i64 12)]]) ++ [[AV.val (.int .i64 12)]]) ++ [[AV.val (.int .i64 6)]]) ++ [[AV.val (.int .i64 10)]]) ++ [[AV.val (.int .i64 16)]]) (iop .sub .i64 (iop .add .i64 1 r36) 1) [.int .i64] fun (r38 : Int) =>
 (g8 x9 2).bind fun (r39 : Int) =>
 (g8 x6 8).bind fun (r40 : Int) =>
 reqK ((0 : Int) ≤ (IntKind.wrap .u64 r38)) <|
 (g8 x8 3).bind fun (r41 : Int) =>
 (g54 r15.2.2.2.2.2.2.1 r15.2.2.2.2.2.2.2.1 r15.2.2.2.2.2.2.2.2.1 r15.2.2.2.2.2.2.2.2.2.1 r15.2.2.2.2.2.2.2.2.2.2.1 r15.2.2.2.2.2.2.2.2.2.2.2.1 (d4 (d8 r15)) (iop .add .i64 1 r36) r38 r39 32 (iop .shl .i64 r40 (IntKind.wrap .u64 r38)) (iop .add .i64 1 r41)).bind fun (r42 : LL × Int) =>
 if (cop .neq r42.2 0) = true then
 some (x0)
 else
 (g51 x0 r15.2.2.1 r15.2.2.2.1 r15.2.2.2.2.1 r42.1).bind fun (r44 : Bool) =>
 if r44 = true then
 some (x0)
 else
 g20L0 FUEL x0 x11 r12 r13 r15.2.2.1 r15.2.2.2.1 r15.2.2.2.2.1 r15.2.2.2.2.2.1 r15.2.2.2.2.2.2.1 r15.2.2.2.2.2.2.2.1 r15.2.2.2.2.2.2.2.2.1 r15.2.2.2.2.2.2.2.2.2.1 r15.2.2.2.2.2.2.2.2.2.2.1 r15.2.2.2.2.2.2.2.2.2.2.2.1 (d4 (d8 r15)) r42.1 0
 else
 g20L0 FUEL x0 x11 r12 r13 r15.2.2.1 r15.2.2.2.1 r15.2.2.2.2.1 r15.2.2.2.2.2.1 r15.2.2.2.2.2.2.1 r15.2.2.2.2.2.2.2.1 r15.2.2.2.2.2.2.2.2.1 r15.2.2.2.2.2.2.2.2.2.1 r15.2.2.2.2.2.2.2.2.2.2.1 r15.2.2.2.2.2.2.2.2.2.2.2.1 (d4 (d8 r15)) (([] : LL) ++ [[AV.val (.int .i64 r29.1), AV.val (.int .i64 r29.2.1), AV.val (.int .i64 r29.2.2.1), AV.val (.int .i64 r29.2.2.2.1), AV.val (.int .i64 r29.2.2.2.2.1), AV.val (.int .i64 r29.2.2.2.2.2.1), AV.val (.bool r29.2.2.2.2.2.2)]]) 0) := by kernel_rfl
noncomputable def F7 : Fn := ⟨29, [2], [(3, [(0, .c (.slice 10)), (3, .c (.slice 13)), (4, .c (.int .i64))])], [], 0, [], [], Tryz.f7, [.c (.slice 10)], [.c (.slice 13)], [(20, F20.S)]⟩
theorem ok7 : F7.S.Ok Tryz.prog 7 := F7.ok Tryz.func7 (by kernel_rfl) ⟨ok20, trivial⟩
noncomputable def g7 (x0 : LL) : Option (LL) := F7.S.g [.l x0]
noncomputable def g7L0 (k : Nat) (x0 x1 : LL) (x2 : Int) : Option (LL) := F7.lp [0] 0 r0 k [.l x0, .l x1, .i x2]
theorem g7L0_eq (k : Nat) (x0 x1 : LL) (x2 : Int) : g7L0 (k + 1) x0 x1 x2 =
 (if (cop .lss x2 (List.length x0 : Int)) = true then
 if (cop .lss x2 40) = true then
 if (cop .lss (List.length x1 : Int) 24) = true then
 elemK x0 x2 hs12 fun (r3 : Bool × Int × Int × Int × Int × Int × Int × Int × Int × Bool) =>
 (g20 x1 r3.1 r3.2.1 r3.2.2.1 r3.2.2.2.1 r3.2.2.2.2.1 r3.2.2.2.2.2.1 r3.2.2.2.2.2.2.1 r3.2.2.2.2.2.2.2.1 r3.2.2.2.2.2.2.2.2.1 r3.2.2.2.2.2.2.2.2.2 (iop .add .i64 x2 1)).bind fun (r13 : LL) =>
 g7L0 k x0 r13 (iop .add .i64 x2 1)
 else
 some (x1)
 else
 some (x1)
 else
 some (x1)) := by kernel_rfl
theorem g7_eq (x0 : LL) : g7 x0 =
 (g7L0 FUEL x0 ([] : LL) 0) := by kernel_rfl
noncomputable def F4 : Fn := ⟨219, [10], [(9, [(4, .c (.int .i64)), (11, .c (.int .i64)), (12, .c (.own true 62)), (13, .c (.int .i64)), (14, .c (.int .i64)), (15, .box hs3), (16, .c (.own false 3)), (17, .c (.own false 33)), (18, .c (.int .i64))]), (25, [(13, .c (.int .i64)), (14, .c (.int .i64)), (17, .c (.own false 33)), (28, .c (.slice 15)), (29, .c (.slice 28)), (33, .c (.own true 62)), (34, .c (.int .i64))])], [], 0, [], [(15, [(12, 0)])], Tryz.f4, [.c (.slice 10), .c (.int .i64), .c (.int .i64), .c (.int .i64), .c (.int .i64)], [.c (.bool)], [(8, F8.S), (7, F7.S), (12, F12.S), (13, F13.S), (6, F6.S), (15, F15.S), (14, F14.S), (17, F17.S), (16, F16.S), (18, F18.S)]⟩
theorem ok4 : F4.S.Ok Tryz.prog 4 := F4.ok Tryz.func4 (by kernel_rfl) ⟨ok8, ⟨ok7, ⟨ok12, ⟨ok13, ⟨ok6, ⟨ok15, ⟨ok14, ⟨ok17, ⟨ok16, ⟨ok18, trivial⟩⟩⟩⟩⟩⟩⟩⟩⟩⟩
noncomputable def g4 (x0 : LL) (x1 x2 x3 x4 : Int) : Option (Bool) := F4.S.g [.l x0, .i x1, .i x2, .i x3, .i x4]
noncomputable def g4L0 (k : Nat) (x0 x1 : Int) (x2 x3 x4 x5 : LL) (x6 : Int) : Option (Bool) := F4.lp [6, 1, 2, 1, 1, 5, 1, 1, 1, 0, 1, 0, 1, 1, 0, 1, 1, 5] 0 r0 k [.i x0, .i x1, .l x2, .l x3, .l x4, .l x5, .i x6]
theorem g4L0_eq (k : Nat) (x0 x1 : Int) (x2 x3 x4 x5 : LL) (x6 : Int) : g4L0 (k + 1) x0 x1 x2 x3 x4 x5 x6 =
 (if (cop .lss x6 x0) = true then
 elemK x2 x6 hs10 fun (r7 : Qt20) =>
 reqK ((0 : Int) ≤ (iop .add .i64 x1 x6)) <|
 reqK (((iop .add .i64 x1 x6) : Int) < (List.length x5 : Int)) <|
 reqK ((0 : Int) ≤ (iop .add .i64 x1 x6)) <|
 reqK (((iop .add .i64 x1 x6) : Int) < (List.length x5 : Int)) <|
 g4L0 k x0 x1 x2 x3 x4 (setElem x5 (Int.toNat (iop .add .i64 x1 x6)) 0 [AV.val (.int .i64 r7.1), AV.val (.int .i64 r7.2.1), AV.val (.int .i64 r7.2.2.1), AV.slice false 3 r7.2.2.2.1, AV.val (.int .i64 r7.2.2.2.2.1), AV.val (.int .i64 r7.2.2.2.2.2.1), AV.val (.int .i64 r7.2.2.2.2.2.2.1), AV.val (.int .i64 r7.2.2.2.2.2.2.2.1), AV.val (.int .i64 r7.2.2.2.2.2.2.2.2.1), AV.val (.int .i64 r7.2.2.2.2.2.2.2.2.2.1), AV.val (.bool r7.2.2.2.2.2.2.2.2.2.2)]) (iop .add .i64 x6 1)
 else
 if (cop .eql (List.length x4 : Int) 0) = true then
 (g18 x3 x5).bind fun (r7 : Bool) =>
 if r7 = true then
 (g6).bind fun (r8 : Bool) =>
 some (r8)
 else
 some (false)
 else
 some (false)) := by kernel_rfl
noncomputable def g4L1 (k : Nat) (x0 x1 : Int) (x2 : LL) (x3 x4 x5 x6 x7 x8 x9 x10 x11 x12 x13 x14 x15 x16 x17 x18 x19 x20 x21 x22 x23 x24 : Int) (x25 : LL) (x26 x27 x28 x29 x30 x31 : Int) (x32 : Bool) (x33 x34 : LL) (x35 : Int) : Option (Bool) := F4.lp [6] 0 r0 k [.i x0, .i x1, .l x2, .i x3, .i x4, .i x5, .i x6, .i x7, .i x8, .i x9, .i x10, .i x11, .i x12, .i x13, .i x14, .i x15, .i x16, .i x17, .i x18, .i x19, .i x20, .i x21, .i x22, .i x23, .i x24, .l x25, .i x26, .i x27, .i x28, .i x29, .i x30, .i x31, .b x32, .l x33, .l x34, .i x35]
theorem g4L1_eq (k : Nat) (x0 x1 : Int) (x2 : LL) (x3 x4 x5 x6 x7 x8 x9 x10 x11 x12 x13 x14 x15 x16 x17 x18 x19 x20 x21 x22 x23 x24 : Int) (x25 : LL) (x26 x27 x28 x29 x30 x31 : Int) (x32 : Bool) (x33 x34 : LL) (x35 : Int) : g4L1 (k + 1) x0 x1 x2 x3 x4 x5 x6 x7 x8 x9 x10 x11 x12 x13 x14 x15 x16 x17 x18 x19 x20 x21 x22 x23 x24 x25 x26 x27 x28 x29 x30 x31 x32 x33 x34 x35 =
 (if (cop .lss x35 x3) = true then
 reqK ((0 : Int) ≤ (iop .add .i64 x4 x35)) <|
 reqK (((iop .add .i64 x4 x35) : Int) < (List.length x2 : Int)) <|
 elemK x2 (iop .add .i64 x4 x35) hs8 fun (r36 : Qt13) =>
 (g13 r36.1 r36.2.1 r36.2.2.1 r36.2.2.2.1 r36.2.2.2.2.1 r36.2.2.2.2.2.1 r36.2.2.2.2.2.2.1 r36.2.2.2.2.2.2.2.1 r36.2.2.2.2.2.2.2.2.1 r36.2.2.2.2.2.2.2.2.2.1 r36.2.2.2.2.2.2.2.2.2.2.1 r36.2.2.2.2.2.2.2.2.2.2.2.1 (d4 (d8 r36)).1 (d4 (d8 r36)).2.1 (d2 (d4 (d8 r36)))).bind fun (r51 : Bool) =>
 if (!r51) = true then
 (g6).bind fun (r52 : Bool) =>
 some (r52)
 else
 reqK (roomP x33 (([] : LL) ++ [[AV.val (.int .i64 (iop .add .i64 x4 x35))]]) 8) <|
 reqK ((0 : Int) ≤ 12) <|
 reqK (roomP x34 (([] : LL) ++ [[AV.val (.int .i64 x1), AV.val (.int .i64 50), AV.val (.int .i64 x35), AV.slice false 3 (([] : LL) ++ [[AV.val (.int .i64 7), AV.val (.int .i64 1), AV.val (.int .i64 0)]]), AV.val (.int .i64 2), AV.val (.int .i64 (iop .shl .i64 x35 12)), AV.val (.int .i64 12), AV.val (.int .i64 7), AV.val (.int .i64 0), AV.val (.int .i64 0), AV.val (.bool false)]]) 104) <|
 g4L1 k x0 x1 x2 x3 x4 x5 x6 x7 x8 x9 x10 x11 x12 x13 x14 x15 x16 x17 x18 x19 x20 x21 x22 x23 x24 x25 x26 x27 x28 x29 x30 x31 x32 (x33 ++ (([] : LL) ++ [[AV.val (.int .i64 (iop .add .i64 x4 x35))]])) (x34 ++ (([] : LL) ++ [[AV.val (.int .i64 x1), AV.val (.int .i64 50), AV.val (.int .i64 x35), AV.slice false 3 (([] : LL) ++ [[AV.val (.int .i64 7), AV.val (.int .i64 1), AV.val (.int .i64 0)]]), AV.val (.int .i64 2), AV.val (.int .i64 (iop .shl .i64 x35 12)), AV.val (.int .i64 12), AV.val (.int .i64 7), AV.val (.int .i64 0), AV.val (.int .i64 0), AV.val (.bool false)]])) (iop .add .i64 x35 1)
 else
 (g15 x2).bind fun (r36 : LL) =>
 (g14 r36 ([] : LL) x5 x6 x7 x8 x9 x10 x11 x12 x13 x14 x15 x16 x17 x18 x19 x20 x21 x22 x23 x24 x25 x26 x27 x28 x29 x30 x31 x32 x33).bind fun (r37 : LL × LL × Int) =>
 if (cop .neq r37.2.2 0) = true then
 some (false)
 else
 if (cop .neq (List.length r37.2.1 : Int) 1) = true then
 some (false)
 else
 (g8 x0 12).bind fun (r40 : Int) =>
 (g15 r37.1).bind fun (r41 : LL) =>
 (g17 r37.2.1).bind fun (r42 : LL) =>
 (g16 x1 r41 r42 2 0 3 x1 0 0 0 x5 x6 x7 (iop .add .i64 1 r40) false 0 0 0 0 0 0 0 0 0 0 0 0 0 0 0 0 0 0 0 0 ([] : LL) 0 0 0 0 0 0 false ([] : LL) ([] : LL) ([] : LL) ([] : LL) 0 0 ([] : LL) ([] : LL) ([] : LL) ([] : LL) ([] : LL) ([] : LL) ([] : LL) ([] : LL) 0 0 ([] : LL) ([] : LL) ([] : LL) ([] : LL) ([] : LL) ([] : LL) ([] : LL) ([] : LL) false 0 ([] : LL) ([] : LL) ([] : LL) ([] : LL) ([] : LL) ([] : LL) ([] : LL) ([] : LL)).bind fun (r43 : LL × LL × LL × LL × LL) =>
 (g18 r43.1 x2).bind fun (r48 : Bool) =>
 if (!r48) = true then
 some (false)
 else
 if (cop .neq (List.length r43.2.1 : Int) 0) = true then
 some (false)
 else
 if (cop .neq (List.length r43.2.2.1 : Int) 1) = true then
 some (false)
 else
 elemK r43.2.2.1 0 hs0 fun (r49 : Qt2) =>
 if (cop .neq r49.1 3) = true then
 some (false)
 else
 elemK r43.2.2.1 0 hs0 fun (r123 : Qt2) =>
 if (cop .neq r123.2.2.2.1 3) = true then
 some (false)
 else
 if (cop .neq (List.length r43.2.2.2.1 : Int) 1) = true then
 some (false)
 else
 elemK r43.2.2.2.1 0 [.int .i64, .int .i64] fun (r197 : Int × Int) =>
 if (!((cop .eql r197.1 50) && ((cop .eql r197.2 (iop .add .i64 1 r40)) && true))) = true then
 some (false)
 else
 if (!((cop .eql (List.length r43.2.2.2.2 : Int) 0) == (cop .eql (iop .add .i64 1 r40) 4))) = true then
 some (false)
 else
 (g15 r37.1).bind fun (r199 : LL) =>
 (g17 r37.2.1).bind fun (r200 : LL) =>
 (g16 x1 r199 r200 2 0 3 x1 0 0 0 x5 x6 x7 0 false 0 0 0 0 0 0 0 0 0 0 0 0 0 0 0 0 0 0 0 0 ([] : LL) 0 0 0 0 0 0 false ([] : LL) x34 ([] : LL) ([] : LL) 0 0 ([] : LL) ([] : LL) ([] : LL) ([] : LL) ([] : LL) ([] : LL) ([] : LL) ([] : LL) 0 0 ([] : LL) ([] : LL) ([] : LL) ([] : LL) ([] : LL) ([] : LL) ([] : LL) ([] : LL) false 0 ([] : LL) ([] : LL) ([] : LL) ([] : LL) ([] : LL) ([] : LL) ([] : LL) ([] : LL)).bind fun (r201 : LL × LL × LL × LL × LL) =>
 (g15 x2).bind fun (r206 : LL) =>
 g4L0 FUEL x3 x4 x34 r201.1 r201.2.1 r206 0) := by kernel_rfl
theorem g4_eq (x0 : LL) (x1 x2 x3 x4 : Int) : g4 x0 x1 x2 x3 x4 =
 ((g8 x1 4).bind fun (r5 : Int) =>
 (g7 x0).bind fun (r6 : LL) =>
 (g12 r6 r5).bind fun (r7 : LL) =>
 (g8 x3 3).bind fun (r8 : Int) =>
 (g8 x2 (iop .sub .i64 12 (iop .add .i64 1 r8))).bind fun (r9 : Int) =>
 g4L1 FUEL x4 r5 r7 (iop .add .i64 1 r8) r9 r5 50 0 2 0 r9 0 0 0 0 0 0 (iop .add .i64 1 r8) 0 0 0 32 7 1 0 ([] : LL) 1 0 16 7 0 0 false ([] : LL) ([] : LL) 0) := by kernel_rfl
end Go.Proofs.YthdihcchfjlgkaaGreat
