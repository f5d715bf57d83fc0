/- Functions of the program, as what they compute. -/
import Derived.Test.YthdihcchfjlgkaaGreatF5a
namespace Go.Proofs.YthdihcchfjlgkaaGreat
open Go Go.AM
set_option linter.unusedVariables false
set_option maxRecDepth 100000
noncomputable def F74 : Fn := ⟨8, [2], [], [], 0, [2, 5, 7], [], Tryz.f74, [.c (.slice 15)], [.c (.own true 62)], []⟩
theorem ok74 : F74.S.Ok Tryz.prog 74 := F74.ok Tryz.func74 (by kernel_rfl) trivial
noncomputable def g74 (x0 : LL) : Option (LL) := F74.S.g [.l x0]
theorem g74_eq (x0 : LL) : g74 x0 =
 (nilK x0 fun r1 =>
 if r1 = true then
 some (([] : LL))
 else
 reqK (roomP ([] : LL) x0 136) <|
 some ((([] : LL) ++ x0))) := by kernel_rfl
noncomputable def F70 : Fn := ⟨8, [2], [], [], 0, [2, 5, 7], [], Tryz.f70, [.c (.slice 3)], [.c (.own true 25)], []⟩
theorem ok70 : F70.S.Ok Tryz.prog 70 := F70.ok Tryz.func70 (by kernel_rfl) trivial
noncomputable def g70 (x0 : LL) : Option (LL) := F70.S.g [.l x0]
theorem g70_eq (x0 : LL) : g70 x0 =
 (nilK x0 fun r1 =>
 if r1 = true then
 some (([] : LL))
 else
 reqK (roomP ([] : LL) x0 24) <|
 some ((([] : LL) ++ x0))) := by kernel_rfl
noncomputable def F40 : Fn := ⟨8, [2], [], [], 0, [], [(2, [(1, 4)])], Tryz.f40, [.agg hs10], [.agg hs10], [(70, F70.S)]⟩
theorem ok40 : F40.S.Ok Tryz.prog 40 := F40.ok Tryz.func40 (by kernel_rfl) ⟨ok70, trivial⟩
noncomputable def g40 (x0 x1 x2 : Int) (x3 : LL) (x4 x5 x6 x7 x8 x9 : Int) (x10 : Bool) : Option (Qt20) := F40.S.g [.i x0, .i x1, .i x2, .l x3, .i x4, .i x5, .i x6, .i x7, .i x8, .i x9, .b x10]
theorem g40_eq (x0 x1 x2 : Int) (x3 : LL) (x4 x5 x6 x7 x8 x9 : Int) (x10 : Bool) : g40 x0 x1 x2 x3 x4 x5 x6 x7 x8 x9 x10 =
 ((g70 x3).bind fun (r11 : LL) =>
 some (x0, x1, x2, r11, x4, x5, x6, x7, x8, x9, x10)) := by kernel_rfl
noncomputable def F43 : Fn := ⟨24, [2], [(3, [(3, .c (.own true 62)), (8, .c (.int .i64)), (9, .c (.int .i64))])], [], 0, [2], [], Tryz.f43, [.c (.slice 15)], [.c (.own true 62)], [(74, F74.S), (40, F40.S)]⟩
theorem ok43 : F43.S.Ok Tryz.prog 43 := F43.ok Tryz.func43 (by kernel_rfl) ⟨ok74, ⟨ok40, trivial⟩⟩
noncomputable def g43 (x0 : LL) : Option (LL) := F43.S.g [.l x0]
noncomputable def g43L0 (k : Nat) (x0 : LL) (x1 x2 : Int) : Option (LL) := F43.lp [2] 0 r0 k [.l x0, .i x1, .i x2]
theorem g43L0_eq (k : Nat) (x0 : LL) (x1 x2 : Int) : g43L0 (k + 1) x0 x1 x2 =
 (if (cop .lss x2 x1) = true then
 reqK ((0 : Int) ≤ x2) <|
 reqK ((x2 : Int) < (List.length x0 : Int)) <|
 elemK x0 x2 hs8 fun (r3 : Qt13) =>
 (g40 r3.1 r3.2.1 r3.2.2.1 r3.2.2.2.1 r3.2.2.2.2.1 r3.2.2.2.2.2.1 r3.2.2.2.2.2.2.1 r3.2.2.2.2.2.2.2.1 r3.2.2.2.2.2.2.2.2.1 r3.2.2.2.2.2.2.2.2.2.1 r3.2.2.2.2.2.2.2.2.2.2.1).bind fun (r18 : Qt20) =>
 reqK ((0 : Int) ≤ x2) <|
 reqK ((x2 : Int) < (List.length x0 : Int)) <|
 reqK ((0 : Int) ≤ x2) <|
 reqK ((x2 : Int) < (List.length x0 : Int)) <|
 g43L0 k (setElem x0 (Int.toNat x2) 0 [AV.val (.int .i64 r18.1), AV.val (.int .i64 r18.2.1), AV.val (.int .i64 r18.2.2.1), AV.slice false 3 r18.2.2.2.1, AV.val (.int .i64 r18.2.2.2.2.1), AV.val (.int .i64 r18.2.2.2.2.2.1), AV.val (.int .i64 r18.2.2.2.2.2.2.1), AV.val (.int .i64 r18.2.2.2.2.2.2.2.1), AV.val (.int .i64 r18.2.2.2.2.2.2.2.2.1), AV.val (.int .i64 r18.2.2.2.2.2.2.2.2.2.1), AV.val (.bool r18.2.2.2.2.2.2.2.2.2.2)]) x1 (iop .add .i64 x2 1)
 else
 some (x0)) := by kernel_rfl
theorem g43_eq (x0 : LL) : g43 x0 =
 ((g74 x0).bind fun (r1 : LL) =>
 g43L0 FUEL r1 (List.length r1 : Int) 0) := by kernel_rfl
noncomputable def F73 : Fn := ⟨8, [2], [], [], 0, [2, 5, 7], [], Tryz.f73, [.c (.slice 28)], [.c (.own true 35)], []⟩
theorem ok73 : F73.S.Ok Tryz.prog 73 := F73.ok Tryz.func73 (by kernel_rfl) trivial
noncomputable def g73 (x0 : LL) : Option (LL) := F73.S.g [.l x0]
theorem g73_eq (x0 : LL) : g73 x0 =
 (nilK x0 fun r1 =>
 if r1 = true then
 some (([] : LL))
 else
 reqK (roomP ([] : LL) x0 240) <|
 some ((([] : LL) ++ x0))) := by kernel_rfl
noncomputable def F42 : Fn := ⟨24, [2], [(3, [(3, .c (.own true 35)), (8, .c (.int .i64)), (9, .c (.int .i64))])], [], 0, [2], [], Tryz.f42, [.c (.slice 28)], [.c (.own true 35)], [(73, F73.S), (40, F40.S)]⟩
theorem ok42 : F42.S.Ok Tryz.prog 42 := F42.ok Tryz.func42 (by kernel_rfl) ⟨ok73, ⟨ok40, trivial⟩⟩
noncomputable def g42 (x0 : LL) : Option (LL) := F42.S.g [.l x0]
noncomputable def g42L0 (k : Nat) (x0 : LL) (x1 x2 : Int) : Option (LL) := F42.lp [2] 0 r0 k [.l x0, .i x1, .i x2]
theorem g42L0_eq (k : Nat) (x0 : LL) (x1 x2 : Int) : g42L0 (k + 1) x0 x1 x2 =
 (if (cop .lss x2 x1) = true then
 reqK ((0 : Int) ≤ x2) <|
 reqK ((x2 : Int) < (List.length x0 : Int)) <|
 elemK x0 x2 hs3 fun (r3 : Qt7) =>
 (g40 (d16 r3).2.1 (d2 (d16 r3)).1 (d2 (d16 r3)).2.1 (d4 (d16 r3)).1 (d4 (d16 r3)).2.1 (d2 (d4 (d16 r3))).1 (d2 (d4 (d16 r3))).2.1 (d8 (d16 r3)).1 (d8 (d16 r3)).2.1 (d2 (d8 (d16 r3))).1 (d2 (d8 (d16 r3))).2).bind fun (r31 : Qt20) =>
 reqK ((0 : Int) ≤ x2) <|
 reqK ((x2 : Int) < (List.length x0 : Int)) <|
 reqK ((0 : Int) ≤ x2) <|
 reqK ((x2 : Int) < (List.length x0 : Int)) <|
 g42L0 k (setElem x0 (Int.toNat x2) 17 [AV.val (.int .i64 r31.1), AV.val (.int .i64 r31.2.1), AV.val (.int .i64 r31.2.2.1), AV.slice false 3 r31.2.2.2.1, AV.val (.int .i64 r31.2.2.2.2.1), AV.val (.int .i64 r31.2.2.2.2.2.1), AV.val (.int .i64 r31.2.2.2.2.2.2.1), AV.val (.int .i64 r31.2.2.2.2.2.2.2.1), AV.val (.int .i64 r31.2.2.2.2.2.2.2.2.1), AV.val (.int .i64 r31.2.2.2.2.2.2.2.2.2.1), AV.val (.bool r31.2.2.2.2.2.2.2.2.2.2)]) x1 (iop .add .i64 x2 1)
 else
 some (x0)) := by kernel_rfl
theorem g42_eq (x0 : LL) : g42 x0 =
 ((g73 x0).bind fun (r1 : LL) =>
 g42L0 FUEL r1 (List.length r1 : Int) 0) := by kernel_rfl
noncomputable def F66 : Fn := ⟨8, [3], [], [1], 0, [], [], Tryz.f66, [.agg hs3, .box [.int .i64, .int .i64, .int .i64]], [.c (.bool)], []⟩
theorem ok66 : F66.S.Ok Tryz.prog 66 := F66.ok Tryz.func66 (by kernel_rfl) trivial
noncomputable def g66 (x0 x1 x2 x3 x4 x5 x6 x7 x8 x9 x10 x11 x12 x13 x14 x15 x16 x17 x18 x19 : Int) (x20 : LL) (x21 x22 x23 x24 x25 x26 : Int) (x27 : Bool) (x28 x29 x30 : Int) : Option (Bool × Int × Int × Int) := F66.S.g [.i x0, .i x1, .i x2, .i x3, .i x4, .i x5, .i x6, .i x7, .i x8, .i x9, .i x10, .i x11, .i x12, .i x13, .i x14, .i x15, .i x16, .i x17, .i x18, .i x19, .l x20, .i x21, .i x22, .i x23, .i x24, .i x25, .i x26, .b x27, .i x28, .i x29, .i x30]
theorem g66_eq (x0 x1 x2 x3 x4 x5 x6 x7 x8 x9 x10 x11 x12 x13 x14 x15 x16 x17 x18 x19 : Int) (x20 : LL) (x21 x22 x23 x24 x25 x26 : Int) (x27 : Bool) (x28 x29 x30 : Int) : g66 x0 x1 x2 x3 x4 x5 x6 x7 x8 x9 x10 x11 x12 x13 x14 x15 x16 x17 x18 x19 x20 x21 x22 x23 x24 x25 x26 x27 x28 x29 x30 =
 (some (((cop .eql x0 x28) && ((cop .eql x1 x29) && ((cop .eql x2 x30) && true))), x28, x29, x30)) := by kernel_rfl
noncomputable def F37c66 : Fn := ⟨19, [4], [(2, [(0, .c (.slice 28)), (1, .clo 66 [19]), (7, .c (.int .i64)), (8, .c (.int .i64)), (19, .gbox [.int .i64, .int .i64, .int .i64])])], [], 1, [], [], Tryz.f37, [.c (.slice 28), .clo 66 [19], .dead, .dead, .dead, .dead, .dead, .dead, .dead, .dead, .dead, .dead, .dead, .dead, .dead, .dead, .dead, .dead, .dead, .gbox [.int .i64, .int .i64, .int .i64]], [.c (.int .i64)], [(66, F66.S)]⟩
theorem ok37c66 : F37c66.S.Ok Tryz.prog 37 := F37c66.ok Tryz.func37 (by kernel_rfl) ⟨ok66, trivial⟩
noncomputable def g37c66 (x0 : LL) (x1 x2 x3 : Int) : Option (Int × Int × Int × Int) := F37c66.S.g [.l x0, .i x1, .i x2, .i x3]
noncomputable def g37c66L0 (k : Nat) (x0 : LL) (x1 x2 x3 x4 x5 : Int) : Option (Int × Int × Int × Int) := F37c66.lp [0] 0 r0 k [.l x0, .i x1, .i x2, .i x3, .i x4, .i x5]
theorem g37c66L0_eq (k : Nat) (x0 : LL) (x1 x2 x3 x4 x5 : Int) : g37c66L0 (k + 1) x0 x1 x2 x3 x4 x5 =
 (if (cop .lss x2 x1) = true then
 elemK x0 x2 hs3 fun (r6 : Qt7) =>
 (g66 r6.1 r6.2.1 r6.2.2.1 r6.2.2.2.1 r6.2.2.2.2.1 r6.2.2.2.2.2.1 r6.2.2.2.2.2.2.1 r6.2.2.2.2.2.2.2.1 r6.2.2.2.2.2.2.2.2.1 r6.2.2.2.2.2.2.2.2.2.1 r6.2.2.2.2.2.2.2.2.2.2.1 r6.2.2.2.2.2.2.2.2.2.2.2.1 (d4 (d8 r6)).1 (d4 (d8 r6)).2.1 (d2 (d4 (d8 r6))).1 (d2 (d4 (d8 r6))).2.1 (d16 r6).1 (d16 r6).2.1 (d2 (d16 r6)).1 (d2 (d16 r6)).2.1 (d4 (d16 r6)).1 (d4 (d16 r6)).2.1 (d2 (d4 (d16 r6))).1 (d2 (d4 (d16 r6))).2.1 (d8 (d16 r6)).1 (d8 (d16 r6)).2.1 (d2 (d8 (d16 r6))).1 (d2 (d8 (d16 r6))).2 x3 x4 x5).bind fun (r34 : Bool × Int × Int × Int) =>
 if r34.1 = true then
 some (x2, r34.2.1, r34.2.2.1, r34.2.2.2)
 else
 g37c66L0 k x0 x1 (iop .add .i64 x2 1) r34.2.1 r34.2.2.1 r34.2.2.2
 else
 some ((-1), x3, x4, x5)) := by kernel_rfl
theorem g37c66_eq (x0 : LL) (x1 x2 x3 : Int) : g37c66 x0 x1 x2 x3 =
 (g37c66L0 FUEL x0 (List.length x0 : Int) 0 x1 x2 x3) := by kernel_rfl
noncomputable def F35 : Fn := ⟨13, [4, 5], [], [], 0, [], [], Tryz.f35, [.c (.slice 28), .agg [.int .i64, .int .i64, .int .i64]], [.c (.int .i64), .c (.bool)], [(37, F37c66.S)]⟩
theorem ok35 : F35.S.Ok Tryz.prog 35 := F35.ok Tryz.func35 (by kernel_rfl) ⟨ok37c66, trivial⟩
noncomputable def g35 (x0 : LL) (x1 x2 x3 : Int) : Option (Int × Bool) := F35.S.g [.l x0, .i x1, .i x2, .i x3]
theorem g35_eq (x0 : LL) (x1 x2 x3 : Int) : g35 x0 x1 x2 x3 =
 ((g37c66 x0 x1 x2 x3).bind fun (r4 : Int × Int × Int × Int) =>
 some (r4.1, (cop .geq r4.1 0))) := by kernel_rfl
noncomputable def F45.S : Fun := delF true 35
theorem ok45 : F45.S.Ok Tryz.prog 45 := delF_ok (T := 23) (B := 4) (I := 3) (U := 0) (e := 35) (bytes := 240) mixed (by kernel_rfl) Tryz.func45 (by kernel_rfl) ⟨by kernel_rfl, by kernel_rfl, by kernel_rfl⟩
noncomputable def g45 (x0 : LL) (x1 x2 : Int) : Option LL := F45.S.g [.l x0, .i x1, .i x2]
theorem g45_eq (x0 : LL) (x1 x2 : Int) : g45 x0 x1 x2 = gDel x0 x1 x2 := rfl
noncomputable def F81 : Fn := ⟨49, [6, 7], [], [], 0, [6], [], Tryz.f81, [.c (.slice 15), .c (.int .i64), .agg hs10], [.c (.own true 62), .c (.int .i64)], [(143, F143.S), (125, F125.S), (144, F144.S), (43, F43.S), (40, F40.S)]⟩
theorem ok81 : F81.S.Ok Tryz.prog 81 := F81.ok Tryz.func81 (by kernel_rfl) ⟨ok143, ⟨ok125, ⟨ok144, ⟨ok43, ⟨ok40, trivial⟩⟩⟩⟩⟩
noncomputable def g81 (x0 : LL) (x1 x2 x3 x4 : Int) (x5 : LL) (x6 x7 x8 x9 x10 x11 : Int) (x12 : Bool) : Option (LL × Int) := F81.S.g [.l x0, .i x1, .i x2, .i x3, .i x4, .l x5, .i x6, .i x7, .i x8, .i x9, .i x10, .i x11, .b x12]
theorem g81_eq (x0 : LL) (x1 x2 x3 x4 : Int) (x5 : LL) (x6 x7 x8 x9 x10 x11 : Int) (x12 : Bool) : g81 x0 x1 x2 x3 x4 x5 x6 x7 x8 x9 x10 x11 x12 =
 ((g143 x0 x2 x3 x4).bind fun (r13 : Int × Bool) =>
 if (cop .lss x1 0) = true then
 some (([] : LL), 1)
 else
 if (cop .geq x1 (List.length x0 : Int)) = true then
 some (([] : LL), 1)
 else
 (g125 x2 x3 x4 x5 x6 x7 x8 x9 x10 x11 x12).bind fun (r15 : Bool) =>
 if (!r15) = true then
 some (([] : LL), 1)
 else
 if r13.2 = true then
 some (([] : LL), 1)
 else
 elemK x0 x1 hs8 fun (r16 : Qt13) =>
 (g144 r16.1 r16.2.1 r16.2.2.1 r16.2.2.2.1 r16.2.2.2.2.1 r16.2.2.2.2.2.1 r16.2.2.2.2.2.2.1 r16.2.2.2.2.2.2.2.1 r16.2.2.2.2.2.2.2.2.1 r16.2.2.2.2.2.2.2.2.2.1 r16.2.2.2.2.2.2.2.2.2.2.1 r16.2.2.2.2.2.2.2.2.2.2.2.1 (d4 (d8 r16)).1 (d4 (d8 r16)).2.1 (d2 (d4 (d8 r16)))).bind fun (r31 : Bool) =>
 if (!r31) = true then
 some (([] : LL), 3)
 else
 (g43 x0).bind fun (r32 : LL) =>
 (g40 x2 x3 x4 x5 x6 x7 x8 x9 x10 x11 x12).bind fun (r33 : Qt20) =>
 reqK ((0 : Int) ≤ x1) <|
 reqK ((x1 : Int) < (List.length r32 : Int)) <|
 reqK ((0 : Int) ≤ x1) <|
 reqK ((x1 : Int) < (List.length r32 : Int)) <|
 some ((setElem r32 (Int.toNat x1) 0 [AV.val (.int .i64 r33.1), AV.val (.int .i64 r33.2.1), AV.val (.int .i64 r33.2.2.1), AV.slice false 3 r33.2.2.2.1, AV.val (.int .i64 r33.2.2.2.2.1), AV.val (.int .i64 r33.2.2.2.2.2.1), AV.val (.int .i64 r33.2.2.2.2.2.2.1), AV.val (.int .i64 r33.2.2.2.2.2.2.2.1), AV.val (.int .i64 r33.2.2.2.2.2.2.2.2.1), AV.val (.int .i64 r33.2.2.2.2.2.2.2.2.2.1), AV.val (.bool r33.2.2.2.2.2.2.2.2.2.2)]), 0)) := by kernel_rfl
noncomputable def F82 : Fn := ⟨44, [4, 5, 6], [], [], 0, [4], [(6, [(7, 0)])], Tryz.f82, [.c (.slice 15), .c (.int .i64)], [.c (.own false 62), .agg hs10, .c (.bool)], [(144, F144.S), (43, F43.S)]⟩
theorem ok82 : F82.S.Ok Tryz.prog 82 := F82.ok Tryz.func82 (by kernel_rfl) ⟨ok144, ⟨ok43, trivial⟩⟩
noncomputable def g82 (x0 : LL) (x1 : Int) : Option (Qt15) := F82.S.g [.l x0, .i x1]
theorem g82_eq (x0 : LL) (x1 : Int) : g82 x0 x1 =
 (if (cop .lss x1 0) = true then
 some (([] : LL), 0, 0, 0, ([] : LL), 0, 0, 0, 0, 0, 0, false, false)
 else
 if (cop .geq x1 (List.length x0 : Int)) = true then
 some (([] : LL), 0, 0, 0, ([] : LL), 0, 0, 0, 0, 0, 0, false, false)
 else
 elemK x0 x1 hs8 fun (r2 : Qt13) =>
 (g144 r2.1 r2.2.1 r2.2.2.1 r2.2.2.2.1 r2.2.2.2.2.1 r2.2.2.2.2.2.1 r2.2.2.2.2.2.2.1 r2.2.2.2.2.2.2.2.1 r2.2.2.2.2.2.2.2.2.1 r2.2.2.2.2.2.2.2.2.2.1 r2.2.2.2.2.2.2.2.2.2.2.1 r2.2.2.2.2.2.2.2.2.2.2.2.1 (d4 (d8 r2)).1 (d4 (d8 r2)).2.1 (d2 (d4 (d8 r2)))).bind fun (r17 : Bool) =>
 if r17 = true then
 some (([] : LL), 0, 0, 0, ([] : LL), 0, 0, 0, 0, 0, 0, false, false)
 else
 (g43 x0).bind fun (r18 : LL) =>
 reqK ((0 : Int) ≤ x1) <|
 reqK ((x1 : Int) < (List.length r18 : Int)) <|
 elemK r18 x1 hs8 fun (r19 : Qt13) =>
 reqK ((0 : Int) ≤ x1) <|
 reqK ((x1 : Int) < (List.length r18 : Int)) <|
 reqK ((0 : Int) ≤ x1) <|
 reqK ((x1 : Int) < (List.length r18 : Int)) <|
 reqK ((0 : Int) ≤ x1) <|
 reqK ((x1 : Int) < (List.length (setElem r18 (Int.toNat x1) 0 [AV.val (.int .i64 0), AV.val (.int .i64 0), AV.val (.int .i64 0), AV.slice false 3 ([] : LL), AV.val (.int .i64 0), AV.val (.int .i64 0), AV.val (.int .i64 0), AV.val (.int .i64 0), AV.val (.int .i64 0), AV.val (.int .i64 0), AV.val (.bool false)]) : Int)) <|
 reqK ((0 : Int) ≤ x1) <|
 reqK ((x1 : Int) < (List.length (setElem r18 (Int.toNat x1) 0 [AV.val (.int .i64 0), AV.val (.int .i64 0), AV.val (.int .i64 0), AV.slice false 3 ([] : LL), AV.val (.int .i64 0), AV.val (.int .i64 0), AV.val (.int .i64 0), AV.val (.int .i64 0), AV.val (.int .i64 0), AV.val (.int .i64 0), AV.val (.bool false)]) : Int)) <|
 some ((setElem (setElem r18 (Int.toNat x1) 0 [AV.val (.int .i64 0), AV.val (.int .i64 0), AV.val (.int .i64 0), AV.slice false 3 ([] : LL), AV.val (.int .i64 0), AV.val (.int .i64 0), AV.val (.int .i64 0), AV.val (.int .i64 0), AV.val (.int .i64 0), AV.val (.int .i64 0), AV.val (.bool false)]) (Int.toNat x1) 12 [AV.val (.int .i64 0), AV.val (.int .i64 0), AV.val (.int .i64 0)]), r19.1, r19.2.1, r19.2.2.1, r19.2.2.2.1, r19.2.2.2.2.1, r19.2.2.2.2.2.1, r19.2.2.2.2.2.2.1, r19.2.2.2.2.2.2.2.1, r19.2.2.2.2.2.2.2.2.1, r19.2.2.2.2.2.2.2.2.2.1, r19.2.2.2.2.2.2.2.2.2.2.1, true)) := by kernel_rfl
noncomputable def F46 : Fn := ⟨65, [6], [(6, [(0, .c (.slice 15)), (4, .box hs3), (21, .c (.slice 11)), (22, .c (.int .i64)), (23, .c (.int .i64))])], [], 0, [], [(10, [(9, 0)])], Tryz.f46, [.c (.slice 15), .agg hs3, .c (.slice 11)], [.c (.slice 15)], [(81, F81.S), (82, F82.S)]⟩
theorem ok46 : F46.S.Ok Tryz.prog 46 := F46.ok Tryz.func46 (by kernel_rfl) ⟨ok81, ⟨ok82, trivial⟩⟩
noncomputable def g46 (x0 : LL) (x1 x2 x3 x4 x5 x6 x7 x8 x9 x10 x11 x12 x13 x14 x15 x16 x17 x18 x19 x20 : Int) (x21 : LL) (x22 x23 x24 x25 x26 x27 : Int) (x28 : Bool) (x29 : LL) : Option (LL) := F46.S.g [.l x0, .i x1, .i x2, .i x3, .i x4, .i x5, .i x6, .i x7, .i x8, .i x9, .i x10, .i x11, .i x12, .i x13, .i x14, .i x15, .i x16, .i x17, .i x18, .i x19, .i x20, .l x21, .i x22, .i x23, .i x24, .i x25, .i x26, .i x27, .b x28, .l x29]
noncomputable def g46L0 (k : Nat) (x0 : LL) (x1 x2 x3 x4 x5 x6 x7 x8 x9 x10 x11 x12 x13 x14 x15 x16 x17 x18 x19 x20 : Int) (x21 : LL) (x22 x23 x24 x25 x26 x27 : Int) (x28 : Bool) (x29 : LL) (x30 x31 : Int) : Option (LL) := F46.lp [0, 0] 0 r0 k [.l x0, .i x1, .i x2, .i x3, .i x4, .i x5, .i x6, .i x7, .i x8, .i x9, .i x10, .i x11, .i x12, .i x13, .i x14, .i x15, .i x16, .i x17, .i x18, .i x19, .i x20, .l x21, .i x22, .i x23, .i x24, .i x25, .i x26, .i x27, .b x28, .l x29, .i x30, .i x31]
theorem g46L0_eq (k : Nat) (x0 : LL) (x1 x2 x3 x4 x5 x6 x7 x8 x9 x10 x11 x12 x13 x14 x15 x16 x17 x18 x19 x20 : Int) (x21 : LL) (x22 x23 x24 x25 x26 x27 : Int) (x28 : Bool) (x29 : LL) (x30 x31 : Int) : g46L0 (k + 1) x0 x1 x2 x3 x4 x5 x6 x7 x8 x9 x10 x11 x12 x13 x14 x15 x16 x17 x18 x19 x20 x21 x22 x23 x24 x25 x26 x27 x28 x29 x30 x31 =
 (if (cop .lss x31 x30) = true then
 elemK x29 x31 hs10 fun (r32 : Qt20) =>
 (g81 x0 (iop .add .i64 x6 x31) r32.1 r32.2.1 r32.2.2.1 r32.2.2.2.1 r32.2.2.2.2.1 r32.2.2.2.2.2.1 r32.2.2.2.2.2.2.1 r32.2.2.2.2.2.2.2.1 r32.2.2.2.2.2.2.2.2.1 r32.2.2.2.2.2.2.2.2.2.1 r32.2.2.2.2.2.2.2.2.2.2).bind fun (r43 : LL × Int) =>
 if (cop .eql r43.2 0) = true then
 g46L0 k r43.1 x1 x2 x3 x4 x5 x6 x7 x8 x9 x10 x11 x12 x13 x14 x15 x16 x17 x18 x19 x20 x21 x22 x23 x24 x25 x26 x27 x28 x29 x30 (iop .add .i64 x31 1)
 else
 g46L0 k x0 x1 x2 x3 x4 x5 x6 x7 x8 x9 x10 x11 x12 x13 x14 x15 x16 x17 x18 x19 x20 x21 x22 x23 x24 x25 x26 x27 x28 x29 x30 (iop .add .i64 x31 1)
 else
 some (x0)) := by kernel_rfl
theorem g46_eq (x0 : LL) (x1 x2 x3 x4 x5 x6 x7 x8 x9 x10 x11 x12 x13 x14 x15 x16 x17 x18 x19 x20 : Int) (x21 : LL) (x22 x23 x24 x25 x26 x27 : Int) (x28 : Bool) (x29 : LL) : g46 x0 x1 x2 x3 x4 x5 x6 x7 x8 x9 x10 x11 x12 x13 x14 x15 x16 x17 x18 x19 x20 x21 x22 x23 x24 x25 x26 x27 x28 x29 =
 (if (cop .eql x4 1) = true then
 g46L0 FUEL x0 x1 x2 x3 x4 x5 x6 x7 x8 x9 x10 x11 x12 x13 x14 x15 x16 x17 x18 x19 x20 x21 x22 x23 x24 x25 x26 x27 x28 x29 (List.length x29 : Int) 0
 else
 if (cop .eql x4 2) = true then
 g46L0 FUEL x0 x1 x2 x3 x4 x5 x6 x7 x8 x9 x10 x11 x12 x13 x14 x15 x16 x17 x18 x19 x20 x21 x22 x23 x24 x25 x26 x27 x28 x29 (List.length x29 : Int) 0
 else
 if (cop .eql x4 3) = true then
 g46L0 FUEL x0 x1 x2 x3 x4 x5 x6 x7 x8 x9 x10 x11 x12 x13 x14 x15 x16 x17 x18 x19 x20 x21 x22 x23 x24 x25 x26 x27 x28 x29 (List.length x29 : Int) 0
 else
 if (cop .eql x4 5) = true then
 (g82 x0 x5).bind fun (r30 : Qt15) =>
 if (d4 (d8 r30)) = true then
 if ((cop .eql r30.2.1 x18) && ((cop .eql r30.2.2.1 x19) && ((cop .eql r30.2.2.2.1 x20) && true))) = true then
 some (r30.1)
 else
 some (x0)
 else
 some (x0)
 else
 some (x0)) := by kernel_rfl
noncomputable def F47 : Fn := ⟨27, [4], [(3, [(1, .c (.int .i64)), (5, .c (.own true 62)), (10, .c (.int .i64)), (11, .c (.int .i64))])], [], 0, [4], [], Tryz.f47, [.c (.slice 15), .c (.int .i64)], [.c (.own true 62)], [(43, F43.S)]⟩
theorem ok47 : F47.S.Ok Tryz.prog 47 := F47.ok Tryz.func47 (by kernel_rfl) ⟨ok43, trivial⟩
noncomputable def g47 (x0 : LL) (x1 : Int) : Option (LL) := F47.S.g [.l x0, .i x1]
noncomputable def g47L0 (k : Nat) (x0 : Int) (x1 : LL) (x2 x3 : Int) : Option (LL) := F47.lp [2] 0 r0 k [.i x0, .l x1, .i x2, .i x3]
theorem g47L0_eq (k : Nat) (x0 : Int) (x1 : LL) (x2 x3 : Int) : g47L0 (k + 1) x0 x1 x2 x3 =
 (if (cop .lss x3 x2) = true then
 reqK ((0 : Int) ≤ x3) <|
 reqK ((x3 : Int) < (List.length x1 : Int)) <|
 elemK x1 x3 hs8 fun (r4 : Qt13) =>
 if (cop .eql r4.2.2.2.2.2.2.2.2.2.2.2.1 x0) = true then
 reqK ((0 : Int) ≤ x3) <|
 reqK ((x3 : Int) < (List.length x1 : Int)) <|
 reqK ((0 : Int) ≤ x3) <|
 reqK ((x3 : Int) < (List.length x1 : Int)) <|
 g47L0 k x0 (setElem x1 (Int.toNat x3) 11 [AV.val (.int .i64 0)]) x2 (iop .add .i64 x3 1)
 else
 g47L0 k x0 x1 x2 (iop .add .i64 x3 1)
 else
 some (x1)) := by kernel_rfl
theorem g47_eq (x0 : LL) (x1 : Int) : g47 x0 x1 =
 ((g43 x0).bind fun (r2 : LL) =>
 g47L0 FUEL x1 r2 (List.length r2 : Int) 0) := by kernel_rfl
noncomputable def F16 : Fn := ⟨112, [8, 9, 10, 11, 12], [], [], 0, [], [(2, [(13, 0)]), (13, [(13, 0)]), (3, [(14, 0)]), (7, [(14, 0)]), (10, [(14, 0)])], Tryz.f16, [.c (.int .i64), .c (.slice 15), .c (.slice 28), .agg hs0], [.c (.slice 15), .c (.slice 28), .c (.slice 74), .c (.slice 2), .c (.slice 4)], [(43, F43.S), (42, F42.S), (44, F44.S), (35, F35.S), (45, F45.S), (46, F46.S), (47, F47.S)]⟩
theorem ok16 : F16.S.Ok Tryz.prog 16 := F16.ok Tryz.func16 (by kernel_rfl) ⟨ok43, ⟨ok42, ⟨ok44, ⟨ok35, ⟨ok45, ⟨ok46, ⟨ok47, trivial⟩⟩⟩⟩⟩⟩⟩
noncomputable def g16 (x0 : Int) (x1 x2 : LL) (x3 x4 x5 x6 x7 x8 x9 x10 x11 x12 x13 : Int) (x14 : Bool) (x15 x16 x17 x18 x19 x20 x21 x22 x23 x24 x25 x26 x27 x28 x29 x30 x31 x32 x33 x34 : Int) (x35 : LL) (x36 x37 x38 x39 x40 x41 : Int) (x42 : Bool) (x43 x44 x45 x46 : LL) (x47 x48 : Int) (x49 x50 x51 x52 x53 x54 x55 x56 : LL) (x57 x58 : Int) (x59 x60 x61 x62 x63 x64 x65 x66 : LL) (x67 : Bool) (x68 : Int) (x69 x70 x71 x72 x73 x74 x75 x76 : LL) : Option (LL × LL × LL × LL × LL) := F16.S.g [.i x0, .l x1, .l x2, .i x3, .i x4, .i x5, .i x6, .i x7, .i x8, .i x9, .i x10, .i x11, .i x12, .i x13, .b x14, .i x15, .i x16, .i x17, .i x18, .i x19, .i x20, .i x21, .i x22, .i x23, .i x24, .i x25, .i x26, .i x27, .i x28, .i x29, .i x30, .i x31, .i x32, .i x33, .i x34, .l x35, .i x36, .i x37, .i x38, .i x39, .i x40, .i x41, .b x42, .l x43, .l x44, .l x45, .l x46, .i x47, .i x48, .l x49, .l x50, .l x51, .l x52, .l x53, .l x54, .l x55, .l x56, .i x57, .i x58, .l x59, .l x60, .l x61, .l x62, .l x63, .l x64, .l x65, .l x66, .b x67, .i x68, .l x69, .l x70, .l x71, .l x72, .l x73, .l x74, .l x75, .l x76]
theorem g16_eq (x0 : Int) (x1 x2 : LL) (x3 x4 x5 x6 x7 x8 x9 x10 x11 x12 x13 : Int) (x14 : Bool) (x15 x16 x17 x18 x19 x20 x21 x22 x23 x24 x25 x26 x27 x28 x29 x30 x31 x32 x33 x34 : Int) (x35 : LL) (x36 x37 x38 x39 x40 x41 : Int) (x42 : Bool) (x43 x44 x45 x46 : LL) (x47 x48 : Int) (x49 x50 x51 x52 x53 x54 x55 x56 : LL) (x57 x58 : Int) (x59 x60 x61 x62 x63 x64 x65 x66 : LL) (x67 : Bool) (x68 : Int) (x69 x70 x71 x72 x73 x74 x75 x76 : LL) : g16 x0 x1 x2 x3 x4 x5 x6 x7 x8 x9 x10 x11 x12 x13 x14 x15 x16 x17 x18 x19 x20 x21 x22 x23 x24 x25 x26 x27 x28 x29 x30 x31 x32 x33 x34 x35 x36 x37 x38 x39 x40 x41 x42 x43 x44 x45 x46 x47 x48 x49 x50 x51 x52 x53 x54 x55 x56 x57 x58 x59 x60 x61 x62 x63 x64 x65 x66 x67 x68 x69 x70 x71 x72 x73 x74 x75 x76 =
 ((g43 x1).bind fun (r77 : LL) =>
 (g42 x2).bind fun (r78 : LL) =>
 (g44 x3 x4 x5 x6 x7 x8 x9 x10 x11 x12 x13 x14 x15 x16 x17 x18 x19 x20 x21 x22 x23 x24 x25 x26 x27 x28 x29 x30 x31 x32 x33 x34 x35 x36 x37 x38 x39 x40 x41 x42 x43 x44 x45 x46 x47 x48 x49 x50 x51 x52 x53 x54 x55 x56 x57 x58 x59 x60 x61 x62 x63 x64 x65 x66 x67 x68 x69 x70 x71 x72 x73 x74 x75 x76).bind fun (r79 : Bool) =>
 if (!r79) = true then
 some (r77, r78, ([] : LL), ([] : LL), ([] : LL))
 else
 if (cop .neq x3 2) = true then
 some (r77, r78, ([] : LL), ([] : LL), ([] : LL))
 else
 if (cop .neq x6 x0) = true then
 some (r77, r78, ([] : LL), ([] : LL), ([] : LL))
 else
 if (cop .neq x10 x0) = true then
 some (r77, r78, ([] : LL), ([] : LL), ([] : LL))
 else
 (g35 r78 x10 x11 x12).bind fun (r80 : Int × Bool) =>
 if (!r80.2) = true then
 some (r77, r78, (([] : LL) ++ [[I 3, I 0, I 0, I x5, I 0, I x8, I 0, I x10, I x11, I x12, I 0, AV.val (.bool false), I 0, I 0, I 0, I 0, I 0, I 0, I 0, I 0, I 0, I 0, I 0, I 0, I 0, I 0, I 0, I 0, I 0, I 0, I 0, I 0, AV.slice false 3 ([] : LL), I 0, I 0, I 0, I 0, I 0, I 0, AV.val (.bool false), AV.slice false 3 ([] : LL), AV.slice false 11 ([] : LL), AV.slice false 1 ([] : LL), AV.slice false 2 ([] : LL), I 0, I 0, AV.slice false 1 ([] : LL), AV.slice false 1 ([] : LL), AV.slice false 15 ([] : LL), AV.slice false 28 ([] : LL), AV.slice false 4 ([] : LL), AV.slice false 2 ([] : LL), AV.slice false 13 ([] : LL), AV.slice false 3 ([] : LL), I 0, I 0, AV.slice false 1 ([] : LL), AV.slice false 1 ([] : LL), AV.slice false 15 ([] : LL), AV.slice false 28 ([] : LL), AV.slice false 4 ([] : LL), AV.slice false 2 ([] : LL), AV.slice false 13 ([] : LL), AV.slice false 3 ([] : LL), AV.val (.bool false), I 0, AV.slice false 1 ([] : LL), AV.slice false 1 ([] : LL), AV.slice false 15 ([] : LL), AV.slice false 28 ([] : LL), AV.slice false 4 ([] : LL), AV.slice false 2 ([] : LL), AV.slice false 13 ([] : LL), AV.slice false 3 ([] : LL)]]), ([] : LL), ([] : LL))
 else
 reqK ((0 : Int) ≤ r80.1) <|
 reqK ((r80.1 : Int) < (List.length r78 : Int)) <|
 elemK r78 r80.1 hs3 fun (r82 : Qt7) =>
 (g45 r78 r80.1 (iop .add .i64 r80.1 1)).bind fun (r110 : LL) =>
 if (cop .eql x13 0) = true then
 (g46 r77 r82.1 r82.2.1 r82.2.2.1 r82.2.2.2.1 r82.2.2.2.2.1 r82.2.2.2.2.2.1 r82.2.2.2.2.2.2.1 r82.2.2.2.2.2.2.2.1 r82.2.2.2.2.2.2.2.2.1 r82.2.2.2.2.2.2.2.2.2.1 r82.2.2.2.2.2.2.2.2.2.2.1 r82.2.2.2.2.2.2.2.2.2.2.2.1 (d4 (d8 r82)).1 (d4 (d8 r82)).2.1 (d2 (d4 (d8 r82))).1 (d2 (d4 (d8 r82))).2.1 (d16 r82).1 (d16 r82).2.1 (d2 (d16 r82)).1 (d2 (d16 r82)).2.1 (d4 (d16 r82)).1 (d4 (d16 r82)).2.1 (d2 (d4 (d16 r82))).1 (d2 (d4 (d16 r82))).2.1 (d8 (d16 r82)).1 (d8 (d16 r82)).2.1 (d2 (d8 (d16 r82))).1 (d2 (d8 (d16 r82))).2 x44).bind fun (r111 : LL) =>
 (g47 r111 x11).bind fun (r112 : LL) =>
 if (!x14) = true then
 if (cop .neq x13 4) = true then
 some (r112, r110, (([] : LL) ++ [[I 3, I 0, I 0, I x5, I 0, I x8, I 0, I x10, I x11, I x12, I 0, AV.val (.bool false), I 0, I 0, I 0, I 0, I 0, I 0, I 0, I 0, I 0, I 0, I 0, I 0, I 0, I 0, I 0, I 0, I 0, I 0, I 0, I 0, AV.slice false 3 ([] : LL), I 0, I 0, I 0, I 0, I 0, I 0, AV.val (.bool false), AV.slice false 3 ([] : LL), AV.slice false 11 ([] : LL), AV.slice false 1 ([] : LL), AV.slice false 2 ([] : LL), I 0, I 0, AV.slice false 1 ([] : LL), AV.slice false 1 ([] : LL), AV.slice false 15 ([] : LL), AV.slice false 28 ([] : LL), AV.slice false 4 ([] : LL), AV.slice false 2 ([] : LL), AV.slice false 13 ([] : LL), AV.slice false 3 ([] : LL), I 0, I 0, AV.slice false 1 ([] : LL), AV.slice false 1 ([] : LL), AV.slice false 15 ([] : LL), AV.slice false 28 ([] : LL), AV.slice false 4 ([] : LL), AV.slice false 2 ([] : LL), AV.slice false 13 ([] : LL), AV.slice false 3 ([] : LL), AV.val (.bool false), I 0, AV.slice false 1 ([] : LL), AV.slice false 1 ([] : LL), AV.slice false 15 ([] : LL), AV.slice false 28 ([] : LL), AV.slice false 4 ([] : LL), AV.slice false 2 ([] : LL), AV.slice false 13 ([] : LL), AV.slice false 3 ([] : LL)]]), (([] : LL) ++ [[AV.val (.int .i64 x11), AV.val (.int .i64 x13)]]), (([] : LL) ++ [[AV.val (.int .i64 x10), AV.val (.int .i64 x11), AV.val (.int .i64 x12), AV.val (.bool true)]]))
 else
 some (r112, r110, (([] : LL) ++ [[I 3, I 0, I 0, I x5, I 0, I x8, I 0, I x10, I x11, I x12, I 0, AV.val (.bool false), I 0, I 0, I 0, I 0, I 0, I 0, I 0, I 0, I 0, I 0, I 0, I 0, I 0, I 0, I 0, I 0, I 0, I 0, I 0, I 0, AV.slice false 3 ([] : LL), I 0, I 0, I 0, I 0, I 0, I 0, AV.val (.bool false), AV.slice false 3 ([] : LL), AV.slice false 11 ([] : LL), AV.slice false 1 ([] : LL), AV.slice false 2 ([] : LL), I 0, I 0, AV.slice false 1 ([] : LL), AV.slice false 1 ([] : LL), AV.slice false 15 ([] : LL), AV.slice false 28 ([] : LL), AV.slice false 4 ([] : LL), AV.slice false 2 ([] : LL), AV.slice false 13 ([] : LL), AV.slice false 3 ([] : LL), I 0, I 0, AV.slice false 1 ([] : LL), AV.slice false 1 ([] : LL), AV.slice false 15 ([] : LL), AV.slice false 28 ([] : LL), AV.slice false 4 ([] : LL), AV.slice false 2 ([] : LL), AV.slice false 13 ([] : LL), AV.slice false 3 ([] : LL), AV.val (.bool false), I 0, AV.slice false 1 ([] : LL), AV.slice false 1 ([] : LL), AV.slice false 15 ([] : LL), AV.slice false 28 ([] : LL), AV.slice false 4 ([] : LL), AV.slice false 2 ([] : LL), AV.slice false 13 ([] : LL), AV.slice false 3 ([] : LL)]]), (([] : LL) ++ [[AV.val (.int .i64 x11), AV.val (.int .i64 x13)]]), ([] : LL))
 else
 some (r112, r110, (([] : LL) ++ [[I 3, I 0, I 0, I x5, I 0, I x8, I 0, I x10, I x11, I x12, I 0, AV.val (.bool false), I 0, I 0, I 0, I 0, I 0, I 0, I 0, I 0, I 0, I 0, I 0, I 0, I 0, I 0, I 0, I 0, I 0, I 0, I 0, I 0, AV.slice false 3 ([] : LL), I 0, I 0, I 0, I 0, I 0, I 0, AV.val (.bool false), AV.slice false 3 ([] : LL), AV.slice false 11 ([] : LL), AV.slice false 1 ([] : LL), AV.slice false 2 ([] : LL), I 0, I 0, AV.slice false 1 ([] : LL), AV.slice false 1 ([] : LL), AV.slice false 15 ([] : LL), AV.slice false 28 ([] : LL), AV.slice false 4 ([] : LL), AV.slice false 2 ([] : LL), AV.slice false 13 ([] : LL), AV.slice false 3 ([] : LL), I 0, I 0, AV.slice false 1 ([] : LL), AV.slice false 1 ([] : LL), AV.slice false 15 ([] : LL), AV.slice false 28 ([] : LL), AV.slice false 4 ([] : LL), AV.slice false 2 ([] : LL), AV.slice false 13 ([] : LL), AV.slice false 3 ([] : LL), AV.val (.bool false), I 0, AV.slice false 1 ([] : LL), AV.slice false 1 ([] : LL), AV.slice false 15 ([] : LL), AV.slice false 28 ([] : LL), AV.slice false 4 ([] : LL), AV.slice false 2 ([] : LL), AV.slice false 13 ([] : LL), AV.slice false 3 ([] : LL)]]), (([] : LL) ++ [[AV.val (.int .i64 x11), AV.val (.int .i64 x13)]]), ([] : LL))
 else
 (g47 r77 x11).bind fun (r111 : LL) =>
 if (!x14) = true then
 if (cop .neq x13 4) = true then
 some (r111, r110, (([] : LL) ++ [[I 3, I 0, I 0, I x5, I 0, I x8, I 0, I x10, I x11, I x12, I 0, AV.val (.bool false), I 0, I 0, I 0, I 0, I 0, I 0, I 0, I 0, I 0, I 0, I 0, I 0, I 0, I 0, I 0, I 0, I 0, I 0, I 0, I 0, AV.slice false 3 ([] : LL), I 0, I 0, I 0, I 0, I 0, I 0, AV.val (.bool false), AV.slice false 3 ([] : LL), AV.slice false 11 ([] : LL), AV.slice false 1 ([] : LL), AV.slice false 2 ([] : LL), I 0, I 0, AV.slice false 1 ([] : LL), AV.slice false 1 ([] : LL), AV.slice false 15 ([] : LL), AV.slice false 28 ([] : LL), AV.slice false 4 ([] : LL), AV.slice false 2 ([] : LL), AV.slice false 13 ([] : LL), AV.slice false 3 ([] : LL), I 0, I 0, AV.slice false 1 ([] : LL), AV.slice false 1 ([] : LL), AV.slice false 15 ([] : LL), AV.slice false 28 ([] : LL), AV.slice false 4 ([] : LL), AV.slice false 2 ([] : LL), AV.slice false 13 ([] : LL), AV.slice false 3 ([] : LL), AV.val (.bool false), I 0, AV.slice false 1 ([] : LL), AV.slice false 1 ([] : LL), AV.slice false 15 ([] : LL), AV.slice false 28 ([] : LL), AV.slice false 4 ([] : LL), AV.slice false 2 ([] : LL), AV.slice false 13 ([] : LL), AV.slice false 3 ([] : LL)]]), (([] : LL) ++ [[AV.val (.int .i64 x11), AV.val (.int .i64 x13)]]), (([] : LL) ++ [[AV.val (.int .i64 x10), AV.val (.int .i64 x11), AV.val (.int .i64 x12), AV.val (.bool true)]]))
 else
 some (r111, r110, (([] : LL) ++ [[I 3, I 0, I 0, I x5, I 0, I x8, I 0, I x10, I x11, I x12, I 0, AV.val (.bool false), I 0, I 0, I 0, I 0, I 0, I 0, I 0, I 0, I 0, I 0, I 0, I 0, I 0, I 0, I 0, I 0, I 0, I 0, I 0, I 0, AV.slice false 3 ([] : LL), I 0, I 0, I 0, I 0, I 0, I 0, AV.val (.bool false), AV.slice false 3 ([] : LL), AV.slice false 11 ([] : LL), AV.slice false 1 ([] : LL), AV.slice false 2 ([] : LL), I 0, I 0, AV.slice false 1 ([] : LL), AV.slice false 1 ([] : LL), AV.slice false 15 ([] : LL), AV.slice false 28 ([] : LL), AV.slice false 4 ([] : LL), AV.slice false 2 ([] : LL), AV.slice false 13 ([] : LL), AV.slice false 3 ([] : LL), I 0, I 0, AV.slice false 1 ([] : LL), AV.slice false 1 ([] : LL), AV.slice false 15 ([] : LL), AV.slice false 28 ([] : LL), AV.slice false 4 ([] : LL), AV.slice false 2 ([] : LL), AV.slice false 13 ([] : LL), AV.slice false 3 ([] : LL), AV.val (.bool false), I 0, AV.slice false 1 ([] : LL), AV.slice false 1 ([] : LL), AV.slice false 15 ([] : LL), AV.slice false 28 ([] : LL), AV.slice false 4 ([] : LL), AV.slice false 2 ([] : LL), AV.slice false 13 ([] : LL), AV.slice false 3 ([] : LL)]]), (([] : LL) ++ [[AV.val (.int .i64 x11), AV.val (.int .i64 x13)]]), ([] : LL))
 else
 some (r111, r110, (([] : LL) ++ [[I 3, I 0, I 0, I x5, I 0, I x8, I 0, I x10, I x11, I x12, I 0, AV.val (.bool false), I 0, I 0, I 0, I 0, I 0, I 0, I 0, I 0, I 0, I 0, I 0, I 0, I 0, I 0, I 0, I 0, I 0, I 0, I 0, I 0, AV.slice false 3 ([] : LL), I 0, I 0, I 0, I 0, I 0, I 0, AV.val (.bool false), AV.slice false 3 ([] : LL), AV.slice false 11 ([] : LL), AV.slice false 1 ([] : LL), AV.slice false 2 ([] : LL), I 0, I 0, AV.slice false 1 ([] : LL), AV.slice false 1 ([] : LL), AV.slice false 15 ([] : LL), AV.slice false 28 ([] : LL), AV.slice false 4 ([] : LL), AV.slice false 2 ([] : LL), AV.slice false 13 ([] : LL), AV.slice false 3 ([] : LL), I 0, I 0, AV.slice false 1 ([] : LL), AV.slice false 1 ([] : LL), AV.slice false 15 ([] : LL), AV.slice false 28 ([] : LL), AV.slice false 4 ([] : LL), AV.slice false 2 ([] : LL), AV.slice false 13 ([] : LL), AV.slice false 3 ([] : LL), AV.val (.bool false), I 0, AV.slice false 1 ([] : LL), AV.slice false 1 ([] : LL), AV.slice false 15 ([] : LL), AV.slice false 28 ([] : LL), AV.slice false 4 ([] : LL), AV.slice false 2 ([] : LL), AV.slice false 13 ([] : LL), AV.slice false 3 ([] : LL)]]), (([] : LL) ++ [[AV.val (.int .i64 x11), AV.val (.int .i64 x13)]]), ([] : LL))) := by kernel_rfl
noncomputable def F56 : Fn := ⟨5, [2], [], [], 0, [], [], Tryz.f56, [.c (.slice 3)], [.c (.own false 25)], []⟩
theorem ok56 : F56.S.Ok Tryz.prog 56 := F56.ok Tryz.func56 (by kernel_rfl) trivial
noncomputable def g56 (x0 : LL) : Option (LL) := F56.S.g [.l x0]
theorem g56_eq (x0 : LL) : g56 x0 =
 (reqK (roomP ([] : LL) x0 24) <|
 some (x0)) := by kernel_rfl
noncomputable def F26 : Fn := ⟨8, [2], [], [], 0, [], [], Tryz.f26, [.agg hs10], [.agg hs10], [(56, F56.S)]⟩
theorem ok26 : F26.S.Ok Tryz.prog 26 := F26.ok Tryz.func26 (by kernel_rfl) ⟨ok56, trivial⟩
noncomputable def g26 (x0 x1 x2 : Int) (x3 : LL) (x4 x5 x6 x7 x8 x9 : Int) (x10 : Bool) : Option (Qt20) := F26.S.g [.i x0, .i x1, .i x2, .l x3, .i x4, .i x5, .i x6, .i x7, .i x8, .i x9, .b x10]
theorem g26_eq (x0 x1 x2 : Int) (x3 : LL) (x4 x5 x6 x7 x8 x9 : Int) (x10 : Bool) : g26 x0 x1 x2 x3 x4 x5 x6 x7 x8 x9 x10 =
 ((g56 x3).bind fun (r11 : LL) =>
 some (x0, x1, x2, r11, x4, x5, x6, x7, x8, x9, x10)) := by kernel_rfl
noncomputable def F48 : Fn := ⟨8, [2], [], [], 0, [], [], Tryz.f48, [.agg hs3], [.agg hs3], [(26, F26.S)]⟩
theorem ok48 : F48.S.Ok Tryz.prog 48 := F48.ok Tryz.func48 (by kernel_rfl) ⟨ok26, trivial⟩
noncomputable def g48 (x0 x1 x2 x3 x4 x5 x6 x7 x8 x9 x10 x11 x12 x13 x14 x15 x16 x17 x18 x19 : Int) (x20 : LL) (x21 x22 x23 x24 x25 x26 : Int) (x27 : Bool) : Option (Qt7) := F48.S.g [.i x0, .i x1, .i x2, .i x3, .i x4, .i x5, .i x6, .i x7, .i x8, .i x9, .i x10, .i x11, .i x12, .i x13, .i x14, .i x15, .i x16, .i x17, .i x18, .i x19, .l x20, .i x21, .i x22, .i x23, .i x24, .i x25, .i x26, .b x27]
theorem g48_eq (x0 x1 x2 x3 x4 x5 x6 x7 x8 x9 x10 x11 x12 x13 x14 x15 x16 x17 x18 x19 : Int) (x20 : LL) (x21 x22 x23 x24 x25 x26 : Int) (x27 : Bool) : g48 x0 x1 x2 x3 x4 x5 x6 x7 x8 x9 x10 x11 x12 x13 x14 x15 x16 x17 x18 x19 x20 x21 x22 x23 x24 x25 x26 x27 =
 ((g26 x17 x18 x19 x20 x21 x22 x23 x24 x25 x26 x27).bind fun (r28 : Qt20) =>
 some (x0, x1, x2, x3, x4, x5, x6, x7, x8, x9, x10, x11, x12, x13, x14, x15, x16, r28.1, r28.2.1, r28.2.2.1, r28.2.2.2.1, r28.2.2.2.2.1, r28.2.2.2.2.2.1, r28.2.2.2.2.2.2.1, r28.2.2.2.2.2.2.2.1, r28.2.2.2.2.2.2.2.2.1, r28.2.2.2.2.2.2.2.2.2.1, r28.2.2.2.2.2.2.2.2.2.2)) := by kernel_rfl
noncomputable def F17 : Fn := ⟨20, [2], [(3, [(0, .c (.slice 28)), (3, .c (.own false 35)), (4, .c (.int .i64))])], [], 0, [], [], Tryz.f17, [.c (.slice 28)], [.c (.own false 35)], [(48, F48.S)]⟩
theorem ok17 : F17.S.Ok Tryz.prog 17 := F17.ok Tryz.func17 (by kernel_rfl) ⟨ok48, trivial⟩
noncomputable def g17 (x0 : LL) : Option (LL) := F17.S.g [.l x0]
noncomputable def g17L0 (k : Nat) (x0 x1 : LL) (x2 : Int) : Option (LL) := F17.lp [0] 0 r0 k [.l x0, .l x1, .i x2]
theorem g17L0_eq (k : Nat) (x0 x1 : LL) (x2 : Int) : g17L0 (k + 1) x0 x1 x2 =
 (if (cop .lss x2 (List.length x0 : Int)) = true then
 elemK x0 x2 hs3 fun (r3 : Qt7) =>
 (g48 r3.1 r3.2.1 r3.2.2.1 r3.2.2.2.1 r3.2.2.2.2.1 r3.2.2.2.2.2.1 r3.2.2.2.2.2.2.1 r3.2.2.2.2.2.2.2.1 r3.2.2.2.2.2.2.2.2.1 r3.2.2.2.2.2.2.2.2.2.1 r3.2.2.2.2.2.2.2.2.2.2.1 r3.2.2.2.2.2.2.2.2.2.2.2.1 (d4 (d8 r3)).1 (d4 (d8 r3)).2.1 (d2 (d4 (d8 r3))).1 (d2 (d4 (d8 r3))).2.1 (d16 r3).1 (d16 r3).2.1 (d2 (d16 r3)).1 (d2 (d16 r3)).2.1 (d4 (d16 r3)).1 (d4 (d16 r3)).2.1 (d2 (d4 (d16 r3))).1 (d2 (d4 (d16 r3))).2.1 (d8 (d16 r3)).1 (d8 (d16 r3)).2.1 (d2 (d8 (d16 r3))).1 (d2 (d8 (d16 r3))).2).bind fun (r31 : Qt7) =>
 reqK (roomP x1 (([] : LL) ++ [[I r31.1, I r31.2.1, I r31.2.2.1, I r31.2.2.2.1, I r31.2.2.2.2.1, I r31.2.2.2.2.2.1, I r31.2.2.2.2.2.2.1, I r31.2.2.2.2.2.2.2.1, I r31.2.2.2.2.2.2.2.2.1, I r31.2.2.2.2.2.2.2.2.2.1, I r31.2.2.2.2.2.2.2.2.2.2.1, I r31.2.2.2.2.2.2.2.2.2.2.2.1, AV.val (.int .i64 (d4 (d8 r31)).1), AV.val (.int .i64 (d4 (d8 r31)).2.1), AV.val (.int .i64 (d2 (d4 (d8 r31))).1), AV.val (.int .i64 (d2 (d4 (d8 r31))).2.1), AV.val (.int .i64 (d16 r31).1), AV.val (.int .i64 (d16 r31).2.1), AV.val (.int .i64 (d2 (d16 r31)).1), AV.val (.int .i64 (d2 (d16 r31)).2.1), AV.slice false 3 (d4 (d16 r31)).1, AV.val (.int .i64 (d4 (d16 r31)).2.1), AV.val (.int .i64 (d2 (d4 (d16 r31))).1), AV.val (.int .i64 (d2 (d4 (d16 r31))).2.1), AV.val (.int .i64 (d8 (d16 r31)).1), AV.val (.int .i64 (d8 (d16 r31)).2.1), AV.val (.int .i64 (d2 (d8 (d16 r31))).1), AV.val (.bool (d2 (d8 (d16 r31))).2)]]) 240) <|
 g17L0 k x0 (x1 ++ (([] : LL) ++ [[I r31.1, I r31.2.1, I r31.2.2.1, I r31.2.2.2.1, I r31.2.2.2.2.1, I r31.2.2.2.2.2.1, I r31.2.2.2.2.2.2.1, I r31.2.2.2.2.2.2.2.1, I r31.2.2.2.2.2.2.2.2.1, I r31.2.2.2.2.2.2.2.2.2.1, I r31.2.2.2.2.2.2.2.2.2.2.1, I r31.2.2.2.2.2.2.2.2.2.2.2.1, AV.val (.int .i64 (d4 (d8 r31)).1), AV.val (.int .i64 (d4 (d8 r31)).2.1), AV.val (.int .i64 (d2 (d4 (d8 r31))).1), AV.val (.int .i64 (d2 (d4 (d8 r31))).2.1), AV.val (.int .i64 (d16 r31).1), AV.val (.int .i64 (d16 r31).2.1), AV.val (.int .i64 (d2 (d16 r31)).1), AV.val (.int .i64 (d2 (d16 r31)).2.1), AV.slice false 3 (d4 (d16 r31)).1, AV.val (.int .i64 (d4 (d16 r31)).2.1), AV.val (.int .i64 (d2 (d4 (d16 r31))).1), AV.val (.int .i64 (d2 (d4 (d16 r31))).2.1), AV.val (.int .i64 (d8 (d16 r31)).1), AV.val (.int .i64 (d8 (d16 r31)).2.1), AV.val (.int .i64 (d2 (d8 (d16 r31))).1), AV.val (.bool (d2 (d8 (d16 r31))).2)]])) (iop .add .i64 x2 1)
 else
 some (x1)) := by kernel_rfl
theorem g17_eq (x0 : LL) : g17 x0 =
 (g17L0 FUEL x0 ([] : LL) 0) := by kernel_rfl
noncomputable def F15 : Fn := ⟨32, [2], [(3, [(0, .c (.slice 15)), (3, .c (.own true 62)), (4, .c (.int .i64))])], [], 0, [2, 3, 30], [], Tryz.f15, [.c (.slice 15)], [.c (.own true 62)], [(26, F26.S)]⟩
theorem ok15 : F15.S.Ok Tryz.prog 15 := F15.ok Tryz.func15 (by kernel_rfl) ⟨ok26, trivial⟩
noncomputable def g15 (x0 : LL) : Option (LL) := F15.S.g [.l x0]
noncomputable def g15L0 (k : Nat) (x0 x1 : LL) (x2 : Int) : Option (LL) := F15.lp [0] 0 r0 k [.l x0, .l x1, .i x2]
theorem g15L0_eq (k : Nat) (x0 x1 : LL) (x2 : Int) : g15L0 (k + 1) x0 x1 x2 =
 (if (cop .lss x2 (List.length x0 : Int)) = true then
 elemK x0 x2 hs8 fun (r3 : Qt13) =>
 (g26 r3.1 r3.2.1 r3.2.2.1 r3.2.2.2.1 r3.2.2.2.2.1 r3.2.2.2.2.2.1 r3.2.2.2.2.2.2.1 r3.2.2.2.2.2.2.2.1 r3.2.2.2.2.2.2.2.2.1 r3.2.2.2.2.2.2.2.2.2.1 r3.2.2.2.2.2.2.2.2.2.2.1).bind fun (r18 : Qt20) =>
 elemK x0 x2 hs8 fun (r29 : Qt13) =>
 elemK x0 x2 hs8 fun (r44 : Qt13) =>
 reqK (roomP x1 (([] : LL) ++ [[AV.val (.int .i64 r18.1), AV.val (.int .i64 r18.2.1), AV.val (.int .i64 r18.2.2.1), AV.slice false 3 r18.2.2.2.1, AV.val (.int .i64 r18.2.2.2.2.1), AV.val (.int .i64 r18.2.2.2.2.2.1), AV.val (.int .i64 r18.2.2.2.2.2.2.1), AV.val (.int .i64 r18.2.2.2.2.2.2.2.1), AV.val (.int .i64 r18.2.2.2.2.2.2.2.2.1), AV.val (.int .i64 r18.2.2.2.2.2.2.2.2.2.1), AV.val (.bool r18.2.2.2.2.2.2.2.2.2.2), AV.val (.int .i64 r29.2.2.2.2.2.2.2.2.2.2.2.1), AV.val (.int .i64 (d4 (d8 r44)).1), AV.val (.int .i64 (d4 (d8 r44)).2.1), AV.val (.int .i64 (d2 (d4 (d8 r44))))]]) 136) <|
 g15L0 k x0 (x1 ++ (([] : LL) ++ [[AV.val (.int .i64 r18.1), AV.val (.int .i64 r18.2.1), AV.val (.int .i64 r18.2.2.1), AV.slice false 3 r18.2.2.2.1, AV.val (.int .i64 r18.2.2.2.2.1), AV.val (.int .i64 r18.2.2.2.2.2.1), AV.val (.int .i64 r18.2.2.2.2.2.2.1), AV.val (.int .i64 r18.2.2.2.2.2.2.2.1), AV.val (.int .i64 r18.2.2.2.2.2.2.2.2.1), AV.val (.int .i64 r18.2.2.2.2.2.2.2.2.2.1), AV.val (.bool r18.2.2.2.2.2.2.2.2.2.2), AV.val (.int .i64 r29.2.2.2.2.2.2.2.2.2.2.2.1), AV.val (.int .i64 (d4 (d8 r44)).1), AV.val (.int .i64 (d4 (d8 r44)).2.1), AV.val (.int .i64 (d2 (d4 (d8 r44))))]])) (iop .add .i64 x2 1)
 else
 some (x1)) := by kernel_rfl
theorem g15_eq (x0 : LL) : g15 x0 =
 (g15L0 FUEL x0 ([] : LL) 0) := by kernel_rfl
noncomputable def F68 : Fn := ⟨12, [2], [], [], 0, [], [], Tryz.f68, [.agg hs8], [.c (.bool)], []⟩
theorem ok68 : F68.S.Ok Tryz.prog 68 := F68.ok Tryz.func68 (by kernel_rfl) trivial
noncomputable def g68 (x0 x1 x2 : Int) (x3 : LL) (x4 x5 x6 x7 x8 x9 : Int) (x10 : Bool) (x11 x12 x13 x14 : Int) : Option (Bool) := F68.S.g [.i x0, .i x1, .i x2, .l x3, .i x4, .i x5, .i x6, .i x7, .i x8, .i x9, .b x10, .i x11, .i x12, .i x13, .i x14]
theorem g68_eq (x0 x1 x2 : Int) (x3 : LL) (x4 x5 x6 x7 x8 x9 : Int) (x10 : Bool) (x11 x12 x13 x14 : Int) : g68 x0 x1 x2 x3 x4 x5 x6 x7 x8 x9 x10 x11 x12 x13 x14 =
 (if (cop .neq x11 0) = true then
 some (true)
 else
 some ((!((cop .eql x12 0) && ((cop .eql x13 0) && ((cop .eql x14 0) && true)))))) := by kernel_rfl
noncomputable def F36 : Fn := ⟨62, [6, 7], [(4, [(0, .c (.slice 15)), (1, .c (.slice 1)), (2, .c (.int .i64)), (19, .c (.slice 1)), (20, .c (.int .i64)), (21, .c (.int .i64))]), (11, [(0, .c (.slice 15)), (2, .c (.int .i64)), (10, .c (.own true 62)), (44, .c (.slice 1)), (45, .c (.int .i64)), (46, .c (.int .i64))])], [], 0, [6], [], Tryz.f36, [.c (.slice 15), .c (.slice 1), .c (.int .i64)], [.c (.own true 62), .c (.int .i64)], [(67, F67.S), (43, F43.S), (68, F68.S)]⟩
theorem ok36 : F36.S.Ok Tryz.prog 36 := F36.ok Tryz.func36 (by kernel_rfl) ⟨ok67, ⟨ok43, ⟨ok68, trivial⟩⟩⟩
noncomputable def g36 (x0 x1 : LL) (x2 : Int) : Option (LL × Int) := F36.S.g [.l x0, .l x1, .i x2]
noncomputable def g36L0 (k : Nat) (x0 : LL) (x1 : Int) (x2 x3 : LL) (x4 x5 : Int) : Option (LL × Int) := F36.lp [1, 1, 0, 1, 2] 0 r0 k [.l x0, .i x1, .l x2, .l x3, .i x4, .i x5]
theorem g36L0_eq (k : Nat) (x0 : LL) (x1 : Int) (x2 x3 : LL) (x4 x5 : Int) : g36L0 (k + 1) x0 x1 x2 x3 x4 x5 =
 (if (cop .lss x5 x4) = true then
 elemK x3 x5 [.int .i64] fun (r6 : Int) =>
 elemK x0 r6 hs8 fun (r7 : Qt13) =>
 (g68 r7.1 r7.2.1 r7.2.2.1 r7.2.2.2.1 r7.2.2.2.2.1 r7.2.2.2.2.2.1 r7.2.2.2.2.2.2.1 r7.2.2.2.2.2.2.2.1 r7.2.2.2.2.2.2.2.2.1 r7.2.2.2.2.2.2.2.2.2.1 r7.2.2.2.2.2.2.2.2.2.2.1 r7.2.2.2.2.2.2.2.2.2.2.2.1 (d4 (d8 r7)).1 (d4 (d8 r7)).2.1 (d2 (d4 (d8 r7)))).bind fun (r22 : Bool) =>
 if r22 = true then
 some (([] : LL), 4)
 else
 reqK ((0 : Int) ≤ r6) <|
 reqK ((r6 : Int) < (List.length x2 : Int)) <|
 reqK ((0 : Int) ≤ r6) <|
 reqK ((r6 : Int) < (List.length x2 : Int)) <|
 g36L0 k x0 x1 (setElem x2 (Int.toNat r6) 11 [AV.val (.int .i64 x1)]) x3 x4 (iop .add .i64 x5 1)
 else
 some (x2, 0)) := by kernel_rfl
noncomputable def g36L1 (k : Nat) (x0 x1 : LL) (x2 : Int) (x3 : LL) (x4 x5 : Int) : Option (LL × Int) := F36.lp [1, 1, 0] 0 r0 k [.l x0, .l x1, .i x2, .l x3, .i x4, .i x5]
theorem g36L1_eq (k : Nat) (x0 x1 : LL) (x2 : Int) (x3 : LL) (x4 x5 : Int) : g36L1 (k + 1) x0 x1 x2 x3 x4 x5 =
 (if (cop .lss x5 x4) = true then
 elemK x3 x5 [.int .i64] fun (r6 : Int) =>
 if (cop .lss r6 0) = true then
 some (([] : LL), 1)
 else
 if (cop .geq r6 (List.length x0 : Int)) = true then
 some (([] : LL), 1)
 else
 reqK ((0 : Int) ≤ x5) <|
 reqK ((x5 : Int) ≤ (List.length x1 : Int)) <|
 (g67 (List.take (Int.toNat x5) x1) r6).bind fun (r7 : Bool) =>
 if r7 = true then
 some (([] : LL), 1)
 else
 g36L1 k x0 x1 x2 x3 x4 (iop .add .i64 x5 1)
 else
 (g43 x0).bind fun (r6 : LL) =>
 g36L0 FUEL x0 x2 r6 x1 (List.length x1 : Int) 0) := by kernel_rfl
theorem g36_eq (x0 x1 : LL) (x2 : Int) : g36 x0 x1 x2 =
 (if (cop .lss x2 1) = true then
 some (([] : LL), 1)
 else
 if (cop .gtr x2 1073741824) = true then
 some (([] : LL), 1)
 else
 g36L1 FUEL x0 x1 x2 x1 (List.length x1 : Int) 0) := by kernel_rfl
noncomputable def F41.S : Fun := insF false 35 240
theorem ok41 : F41.S.Ok Tryz.prog 41 := insF_ok (T := 23) (B := 4) (I := 3) (e := 35) (fO := 71) (fR := 72) mixed (by kernel_rfl) Tryz.func41 (by kernel_rfl) ⟨by kernel_rfl, by kernel_rfl, by kernel_rfl⟩ Tryz.func71 (by kernel_rfl) (by kernel_rfl) (by kernel_rfl) (by kernel_rfl)
noncomputable def g41 (x0 : LL) (x1 : Int) (x2 : LL) : Option LL := F41.S.g [.l x0, .i x1, .l x2]
theorem g41_eq (x0 : LL) (x1 : Int) (x2 : LL) : g41 x0 x1 x2 = gIns 240 x0 x1 x2 := rfl
noncomputable def F38 : Fn := ⟨9, [3], [], [1], 0, [], [], Tryz.f38, [.agg hs3, .box hs3], [.c (.bool)], [(39, F39.S)]⟩
theorem ok38 : F38.S.Ok Tryz.prog 38 := F38.ok Tryz.func38 (by kernel_rfl) ⟨ok39, trivial⟩
noncomputable def g38 (x0 x1 x2 x3 x4 x5 x6 x7 x8 x9 x10 x11 x12 x13 x14 x15 x16 x17 x18 x19 : Int) (x20 : LL) (x21 x22 x23 x24 x25 x26 : Int) (x27 : Bool) (x28 x29 x30 x31 x32 x33 x34 x35 x36 x37 x38 x39 x40 x41 x42 x43 x44 x45 x46 x47 : Int) (x48 : LL) (x49 x50 x51 x52 x53 x54 : Int) (x55 : Bool) : Option (Qt5) := F38.S.g [.i x0, .i x1, .i x2, .i x3, .i x4, .i x5, .i x6, .i x7, .i x8, .i x9, .i x10, .i x11, .i x12, .i x13, .i x14, .i x15, .i x16, .i x17, .i x18, .i x19, .l x20, .i x21, .i x22, .i x23, .i x24, .i x25, .i x26, .b x27, .i x28, .i x29, .i x30, .i x31, .i x32, .i x33, .i x34, .i x35, .i x36, .i x37, .i x38, .i x39, .i x40, .i x41, .i x42, .i x43, .i x44, .i x45, .i x46, .i x47, .l x48, .i x49, .i x50, .i x51, .i x52, .i x53, .i x54, .b x55]
theorem g38_eq (x0 x1 x2 x3 x4 x5 x6 x7 x8 x9 x10 x11 x12 x13 x14 x15 x16 x17 x18 x19 : Int) (x20 : LL) (x21 x22 x23 x24 x25 x26 : Int) (x27 : Bool) (x28 x29 x30 x31 x32 x33 x34 x35 x36 x37 x38 x39 x40 x41 x42 x43 x44 x45 x46 x47 : Int) (x48 : LL) (x49 x50 x51 x52 x53 x54 : Int) (x55 : Bool) : g38 x0 x1 x2 x3 x4 x5 x6 x7 x8 x9 x10 x11 x12 x13 x14 x15 x16 x17 x18 x19 x20 x21 x22 x23 x24 x25 x26 x27 x28 x29 x30 x31 x32 x33 x34 x35 x36 x37 x38 x39 x40 x41 x42 x43 x44 x45 x46 x47 x48 x49 x50 x51 x52 x53 x54 x55 =
 ((g39 x28 x29 x30 x0 x1 x2).bind fun (r56 : Bool) =>
 some (r56, x28, x29, x30, x31, x32, x33, x34, x35, x36, x37, x38, x39, x40, x41, x42, x43, x44, x45, x46, x47, x48, x49, x50, x51, x52, x53, x54, x55)) := by kernel_rfl
noncomputable def F37c38 : Fn := ⟨19, [4], [(2, [(0, .c (.slice 28)), (1, .clo 38 [19]), (7, .c (.int .i64)), (8, .c (.int .i64)), (19, .gbox hs3)])], [], 1, [], [], Tryz.f37, [.c (.slice 28), .clo 38 [19], .dead, .dead, .dead, .dead, .dead, .dead, .dead, .dead, .dead, .dead, .dead, .dead, .dead, .dead, .dead, .dead, .dead, .gbox hs3], [.c (.int .i64)], [(38, F38.S)]⟩
theorem ok37c38 : F37c38.S.Ok Tryz.prog 37 := F37c38.ok Tryz.func37 (by kernel_rfl) ⟨ok38, trivial⟩
noncomputable def g37c38 (x0 : LL) (x1 x2 x3 x4 x5 x6 x7 x8 x9 x10 x11 x12 x13 x14 x15 x16 x17 x18 x19 x20 : Int) (x21 : LL) (x22 x23 x24 x25 x26 x27 : Int) (x28 : Bool) : Option (Qt6) := F37c38.S.g [.l x0, .i x1, .i x2, .i x3, .i x4, .i x5, .i x6, .i x7, .i x8, .i x9, .i x10, .i x11, .i x12, .i x13, .i x14, .i x15, .i x16, .i x17, .i x18, .i x19, .i x20, .l x21, .i x22, .i x23, .i x24, .i x25, .i x26, .i x27, .b x28]
noncomputable def g37c38L0 (k : Nat) (x0 : LL) (x1 x2 x3 x4 x5 x6 x7 x8 x9 x10 x11 x12 x13 x14 x15 x16 x17 x18 x19 x20 x21 x22 : Int) (x23 : LL) (x24 x25 x26 x27 x28 x29 : Int) (x30 : Bool) : Option (Qt6) := F37c38.lp [0] 0 r0 k [.l x0, .i x1, .i x2, .i x3, .i x4, .i x5, .i x6, .i x7, .i x8, .i x9, .i x10, .i x11, .i x12, .i x13, .i x14, .i x15, .i x16, .i x17, .i x18, .i x19, .i x20, .i x21, .i x22, .l x23, .i x24, .i x25, .i x26, .i x27, .i x28, .i x29, .b x30]
theorem g37c38L0_eq (k : Nat) (x0 : LL) (x1 x2 x3 x4 x5 x6 x7 x8 x9 x10 x11 x12 x13 x14 x15 x16 x17 x18 x19 x20 x21 x22 : Int) (x23 : LL) (x24 x25 x26 x27 x28 x29 : Int) (x30 : Bool) : g37c38L0 (k + 1) x0 x1 x2 x3 x4 x5 x6 x7 x8 x9 x10 x11 x12 x13 x14 x15 x16 x17 x18 x19 x20 x21 x22 x23 x24 x25 x26 x27 x28 x29 x30 =
 (if (cop .lss x2 x1) = true then
 elemK x0 x2 hs3 fun (r31 : Qt7) =>
 (g38 r31.1 r31.2.1 r31.2.2.1 r31.2.2.2.1 r31.2.2.2.2.1 r31.2.2.2.2.2.1 r31.2.2.2.2.2.2.1 r31.2.2.2.2.2.2.2.1 r31.2.2.2.2.2.2.2.2.1 r31.2.2.2.2.2.2.2.2.2.1 r31.2.2.2.2.2.2.2.2.2.2.1 r31.2.2.2.2.2.2.2.2.2.2.2.1 (d4 (d8 r31)).1 (d4 (d8 r31)).2.1 (d2 (d4 (d8 r31))).1 (d2 (d4 (d8 r31))).2.1 (d16 r31).1 (d16 r31).2.1 (d2 (d16 r31)).1 (d2 (d16 r31)).2.1 (d4 (d16 r31)).1 (d4 (d16 r31)).2.1 (d2 (d4 (d16 r31))).1 (d2 (d4 (d16 r31))).2.1 (d8 (d16 r31)).1 (d8 (d16 r31)).2.1 (d2 (d8 (d16 r31))).1 (d2 (d8 (d16 r31))).2 x3 x4 x5 x6 x7 x8 x9 x10 x11 x12 x13 x14 x15 x16 x17 x18 x19 x20 x21 x22 x23 x24 x25 x26 x27 x28 x29 x30).bind fun (r59 : Qt5) =>
 if r59.1 = true then
 some (x2, r59.2.1, r59.2.2.1, r59.2.2.2.1, r59.2.2.2.2.1, r59.2.2.2.2.2.1, r59.2.2.2.2.2.2.1, r59.2.2.2.2.2.2.2.1, r59.2.2.2.2.2.2.2.2.1, r59.2.2.2.2.2.2.2.2.2.1, r59.2.2.2.2.2.2.2.2.2.2.1, r59.2.2.2.2.2.2.2.2.2.2.2.1, (d4 (d8 r59)).1, (d4 (d8 r59)).2.1, (d2 (d4 (d8 r59))).1, (d2 (d4 (d8 r59))).2.1, (d16 r59).1, (d16 r59).2.1, (d2 (d16 r59)).1, (d2 (d16 r59)).2.1, (d4 (d16 r59)).1, (d4 (d16 r59)).2.1, (d2 (d4 (d16 r59))).1, (d2 (d4 (d16 r59))).2.1, (d8 (d16 r59)).1, (d8 (d16 r59)).2.1, (d2 (d8 (d16 r59))).1, (d2 (d8 (d16 r59))).2.1, (d4 (d8 (d16 r59))))
 else
 g37c38L0 k x0 x1 (iop .add .i64 x2 1) r59.2.1 r59.2.2.1 r59.2.2.2.1 r59.2.2.2.2.1 r59.2.2.2.2.2.1 r59.2.2.2.2.2.2.1 r59.2.2.2.2.2.2.2.1 r59.2.2.2.2.2.2.2.2.1 r59.2.2.2.2.2.2.2.2.2.1 r59.2.2.2.2.2.2.2.2.2.2.1 r59.2.2.2.2.2.2.2.2.2.2.2.1 (d4 (d8 r59)).1 (d4 (d8 r59)).2.1 (d2 (d4 (d8 r59))).1 (d2 (d4 (d8 r59))).2.1 (d16 r59).1 (d16 r59).2.1 (d2 (d16 r59)).1 (d2 (d16 r59)).2.1 (d4 (d16 r59)).1 (d4 (d16 r59)).2.1 (d2 (d4 (d16 r59))).1 (d2 (d4 (d16 r59))).2.1 (d8 (d16 r59)).1 (d8 (d16 r59)).2.1 (d2 (d8 (d16 r59))).1 (d2 (d8 (d16 r59))).2.1 (d4 (d8 (d16 r59)))
 else
 some ((-1), x3, x4, x5, x6, x7, x8, x9, x10, x11, x12, x13, x14, x15, x16, x17, x18, x19, x20, x21, x22, x23, x24, x25, x26, x27, x28, x29, x30)) := by kernel_rfl
theorem g37c38_eq (x0 : LL) (x1 x2 x3 x4 x5 x6 x7 x8 x9 x10 x11 x12 x13 x14 x15 x16 x17 x18 x19 x20 : Int) (x21 : LL) (x22 x23 x24 x25 x26 x27 : Int) (x28 : Bool) : g37c38 x0 x1 x2 x3 x4 x5 x6 x7 x8 x9 x10 x11 x12 x13 x14 x15 x16 x17 x18 x19 x20 x21 x22 x23 x24 x25 x26 x27 x28 =
 (g37c38L0 FUEL x0 (List.length x0 : Int) 0 x1 x2 x3 x4 x5 x6 x7 x8 x9 x10 x11 x12 x13 x14 x15 x16 x17 x18 x19 x20 x21 x22 x23 x24 x25 x26 x27 x28) := by kernel_rfl
noncomputable def F14 : Fn := ⟨54, [8, 9, 10], [], [], 0, [], [(4, [(0, 0)]), (11, [(13, 0)])], Tryz.f14, [.c (.own true 62), .c (.slice 28), .agg hs3, .c (.slice 1)], [.c (.slice 15), .c (.slice 28), .c (.int .i64)], [(35, F35.S), (36, F36.S), (37, F37c38.S), (40, F40.S), (42, F42.S), (41, F41.S)]⟩
theorem ok14 : F14.S.Ok Tryz.prog 14 := F14.ok Tryz.func14 (by kernel_rfl) ⟨ok35, ⟨ok36, ⟨ok37c38, ⟨ok40, ⟨ok42, ⟨ok41, trivial⟩⟩⟩⟩⟩⟩
noncomputable def g14 (x0 x1 : LL) (x2 x3 x4 x5 x6 x7 x8 x9 x10 x11 x12 x13 x14 x15 x16 x17 x18 x19 x20 x21 : Int) (x22 : LL) (x23 x24 x25 x26 x27 x28 : Int) (x29 : Bool) (x30 : LL) : Option (LL × LL × Int) := F14.S.g [.l x0, .l x1, .i x2, .i x3, .i x4, .i x5, .i x6, .i x7, .i x8, .i x9, .i x10, .i x11, .i x12, .i x13, .i x14, .i x15, .i x16, .i x17, .i x18, .i x19, .i x20, .i x21, .l x22, .i x23, .i x24, .i x25, .i x26, .i x27, .i x28, .b x29, .l x30]
theorem g14_eq (x0 x1 : LL) (x2 x3 x4 x5 x6 x7 x8 x9 x10 x11 x12 x13 x14 x15 x16 x17 x18 x19 x20 x21 : Int) (x22 : LL) (x23 x24 x25 x26 x27 x28 : Int) (x29 : Bool) (x30 : LL) : g14 x0 x1 x2 x3 x4 x5 x6 x7 x8 x9 x10 x11 x12 x13 x14 x15 x16 x17 x18 x19 x20 x21 x22 x23 x24 x25 x26 x27 x28 x29 x30 =
 ((g35 x1 x2 x3 x4).bind fun (r31 : Int × Bool) =>
 if r31.2 = true then
 some (([] : LL), ([] : LL), 1)
 else
 (g36 x0 x30 x3).bind fun (r33 : LL × Int) =>
 if (cop .neq r33.2 0) = true then
 some (([] : LL), ([] : LL), r33.2)
 else
 (g37c38 x1 x2 x3 x4 x5 x6 x7 x8 x9 x10 x11 x12 x13 x14 x15 x16 x17 x18 x19 x20 x21 x22 x23 x24 x25 x26 x27 x28 x29).bind fun (r35 : Qt6) =>
 if (cop .lss r35.1 0) = true then
 (g40 (d2 (d16 r35)).1 (d2 (d16 r35)).2.1 (d4 (d16 r35)).1 (d4 (d16 r35)).2.1 (d2 (d4 (d16 r35))).1 (d2 (d4 (d16 r35))).2.1 (d8 (d16 r35)).1 (d8 (d16 r35)).2.1 (d2 (d8 (d16 r35))).1 (d2 (d8 (d16 r35))).2.1 (d4 (d8 (d16 r35)))).bind fun (r64 : Qt20) =>
 (g42 x1).bind fun (r75 : LL) =>
 (g41 r75 (List.length x1 : Int) (([] : LL) ++ [[I r35.2.1, I r35.2.2.1, I r35.2.2.2.1, I r35.2.2.2.2.1, I r35.2.2.2.2.2.1, I r35.2.2.2.2.2.2.1, I r35.2.2.2.2.2.2.2.1, I r35.2.2.2.2.2.2.2.2.1, I r35.2.2.2.2.2.2.2.2.2.1, I r35.2.2.2.2.2.2.2.2.2.2.1, I r35.2.2.2.2.2.2.2.2.2.2.2.1, AV.val (.int .i64 (d4 (d8 r35)).1), AV.val (.int .i64 (d4 (d8 r35)).2.1), AV.val (.int .i64 (d2 (d4 (d8 r35))).1), AV.val (.int .i64 (d2 (d4 (d8 r35))).2.1), AV.val (.int .i64 (d16 r35).1), AV.val (.int .i64 (d16 r35).2.1), I r64.1, I r64.2.1, I r64.2.2.1, AV.slice false 3 r64.2.2.2.1, I r64.2.2.2.2.1, I r64.2.2.2.2.2.1, I r64.2.2.2.2.2.2.1, I r64.2.2.2.2.2.2.2.1, I r64.2.2.2.2.2.2.2.2.1, I r64.2.2.2.2.2.2.2.2.2.1, AV.val (.bool r64.2.2.2.2.2.2.2.2.2.2)]])).bind fun (r76 : LL) =>
 some (r33.1, r76, 0)
 else
 (g40 (d2 (d16 r35)).1 (d2 (d16 r35)).2.1 (d4 (d16 r35)).1 (d4 (d16 r35)).2.1 (d2 (d4 (d16 r35))).1 (d2 (d4 (d16 r35))).2.1 (d8 (d16 r35)).1 (d8 (d16 r35)).2.1 (d2 (d8 (d16 r35))).1 (d2 (d8 (d16 r35))).2.1 (d4 (d8 (d16 r35)))).bind fun (r64 : Qt20) =>
 (g42 x1).bind fun (r75 : LL) =>
 (g41 r75 r35.1 (([] : LL) ++ [[I r35.2.1, I r35.2.2.1, I r35.2.2.2.1, I r35.2.2.2.2.1, I r35.2.2.2.2.2.1, I r35.2.2.2.2.2.2.1, I r35.2.2.2.2.2.2.2.1, I r35.2.2.2.2.2.2.2.2.1, I r35.2.2.2.2.2.2.2.2.2.1, I r35.2.2.2.2.2.2.2.2.2.2.1, I r35.2.2.2.2.2.2.2.2.2.2.2.1, AV.val (.int .i64 (d4 (d8 r35)).1), AV.val (.int .i64 (d4 (d8 r35)).2.1), AV.val (.int .i64 (d2 (d4 (d8 r35))).1), AV.val (.int .i64 (d2 (d4 (d8 r35))).2.1), AV.val (.int .i64 (d16 r35).1), AV.val (.int .i64 (d16 r35).2.1), I r64.1, I r64.2.1, I r64.2.2.1, AV.slice false 3 r64.2.2.2.1, I r64.2.2.2.2.1, I r64.2.2.2.2.2.1, I r64.2.2.2.2.2.2.1, I r64.2.2.2.2.2.2.2.1, I r64.2.2.2.2.2.2.2.2.1, I r64.2.2.2.2.2.2.2.2.2.1, AV.val (.bool r64.2.2.2.2.2.2.2.2.2.2)]])).bind fun (r76 : LL) =>
 some (r33.1, r76, 0)) := by kernel_rfl
end Go.Proofs.YthdihcchfjlgkaaGreat
