/- Functions of the program, as what they compute. -/
import Derived.Test.YtmgfkjonkdfedaaGreatG24
namespace Go.Proofs.YtmgfkjonkdfedaaGreat
open Go Go.AM
set_option linter.unusedVariables false
set_option maxRecDepth 100000

/- multikernel/client.find$1 -/
noncomputable def F41 : Fn := ⟨8, [3], [], [1], 0, [], [], Tryz.f41, [.agg hs3, .box [.int .i64, .int .i64, .int .i64]], [.c (.bool)], []⟩
theorem ok41 : F41.S.Ok Tryz.prog 41 := F41.ok Tryz.func41 (by kernel_rfl) trivial
noncomputable def g41 (x0 x1 x2 x3 x4 x5 x6 x7 x8 x9 x10 x11 x12 x13 x14 x15 x16 x17 x18 x19 : Int) (x20 : LL) (x21 x22 x23 x24 x25 x26 : Int) (x27 : Bool) (x28 x29 x30 : Int) : Option (Bool × Int × Int × Int) := F41.S.g [.i x0, .i x1, .i x2, .i x3, .i x4, .i x5, .i x6, .i x7, .i x8, .i x9, .i x10, .i x11, .i x12, .i x13, .i x14, .i x15, .i x16, .i x17, .i x18, .i x19, .l x20, .i x21, .i x22, .i x23, .i x24, .i x25, .i x26, .b x27, .i x28, .i x29, .i x30]
theorem g41_eq (x0 x1 x2 x3 x4 x5 x6 x7 x8 x9 x10 x11 x12 x13 x14 x15 x16 x17 x18 x19 : Int) (x20 : LL) (x21 x22 x23 x24 x25 x26 : Int) (x27 : Bool) (x28 x29 x30 : Int) : g41 x0 x1 x2 x3 x4 x5 x6 x7 x8 x9 x10 x11 x12 x13 x14 x15 x16 x17 x18 x19 x20 x21 x22 x23 x24 x25 x26 x27 x28 x29 x30 =
 (some (((cop .eql x0 x28) && ((cop .eql x1 x29) && ((cop .eql x2 x30) && true))), x28, x29, x30)) := by kernel_rfl

/- slices.IndexFunc[[]multikernel/api.Request,multikernel/api.Request] -/
noncomputable def F25c41 : Fn := ⟨19, [4], [(2, [(0, .c (.slice 28)), (1, .clo 41 [19]), (7, .c (.int .i64)), (8, .c (.int .i64)), (19, .gbox [.int .i64, .int .i64, .int .i64])])], [], 1, [], [], Tryz.f25, [.c (.slice 28), .clo 41 [19], .dead, .dead, .dead, .dead, .dead, .dead, .dead, .dead, .dead, .dead, .dead, .dead, .dead, .dead, .dead, .dead, .dead, .gbox [.int .i64, .int .i64, .int .i64]], [.c (.int .i64)], [(41, F41.S)]⟩
theorem ok25c41 : F25c41.S.Ok Tryz.prog 25 := F25c41.ok Tryz.func25 (by kernel_rfl) ⟨ok41, trivial⟩
noncomputable def g25c41 (x0 : LL) (x1 x2 x3 : Int) : Option (Int × Int × Int × Int) := F25c41.S.g [.l x0, .i x1, .i x2, .i x3]
noncomputable def g25c41L0 (k : Nat) (x0 : LL) (x1 x2 x3 x4 x5 : Int) : Option (Int × Int × Int × Int) := F25c41.lp [0] 0 r0 k [.l x0, .i x1, .i x2, .i x3, .i x4, .i x5]
theorem g25c41L0_eq (k : Nat) (x0 : LL) (x1 x2 x3 x4 x5 : Int) : g25c41L0 (k + 1) x0 x1 x2 x3 x4 x5 =
 (if (cop .lss x2 x1) = true then
 elemK x0 x2 hs3 fun (r6 : Qt7) =>
 (g41 r6.1 r6.2.1 r6.2.2.1 r6.2.2.2.1 r6.2.2.2.2.1 r6.2.2.2.2.2.1 r6.2.2.2.2.2.2.1 r6.2.2.2.2.2.2.2.1 r6.2.2.2.2.2.2.2.2.1 r6.2.2.2.2.2.2.2.2.2.1 r6.2.2.2.2.2.2.2.2.2.2.1 r6.2.2.2.2.2.2.2.2.2.2.2.1 (d4 (d8 r6)).1 (d4 (d8 r6)).2.1 (d2 (d4 (d8 r6))).1 (d2 (d4 (d8 r6))).2.1 (d16 r6).1 (d16 r6).2.1 (d2 (d16 r6)).1 (d2 (d16 r6)).2.1 (d4 (d16 r6)).1 (d4 (d16 r6)).2.1 (d2 (d4 (d16 r6))).1 (d2 (d4 (d16 r6))).2.1 (d8 (d16 r6)).1 (d8 (d16 r6)).2.1 (d2 (d8 (d16 r6))).1 (d2 (d8 (d16 r6))).2 x3 x4 x5).bind fun (r34 : Bool × Int × Int × Int) =>
 if r34.1 = true then
 some (x2, r34.2.1, r34.2.2.1, r34.2.2.2)
 else
 g25c41L0 k x0 x1 (iop .add .i64 x2 1) r34.2.1 r34.2.2.1 r34.2.2.2
 else
 some ((-1), x3, x4, x5)) := by kernel_rfl
theorem g25c41_eq (x0 : LL) (x1 x2 x3 : Int) : g25c41 x0 x1 x2 x3 =
 (g25c41L0 FUEL x0 (List.length x0 : Int) 0 x1 x2 x3) := by kernel_rfl

/- multikernel/client.find -/
noncomputable def F23 : Fn := ⟨13, [4, 5], [], [], 0, [], [], Tryz.f23, [.c (.slice 28), .agg [.int .i64, .int .i64, .int .i64]], [.c (.int .i64), .c (.bool)], [(25, F25c41.S)]⟩
theorem ok23 : F23.S.Ok Tryz.prog 23 := F23.ok Tryz.func23 (by kernel_rfl) ⟨ok25c41, trivial⟩
noncomputable def g23 (x0 : LL) (x1 x2 x3 : Int) : Option (Int × Bool) := F23.S.g [.l x0, .i x1, .i x2, .i x3]
theorem g23_eq (x0 : LL) (x1 x2 x3 : Int) : g23 x0 x1 x2 x3 =
 ((g25c41 x0 x1 x2 x3).bind fun (r4 : Int × Int × Int × Int) =>
 some (r4.1, (cop .geq r4.1 0))) := by kernel_rfl

/- slices.Index[[]int,int] -/
noncomputable def F68 : Fn := ⟨19, [4], [(2, [(0, .c (.slice 1)), (1, .c (.int .i64)), (7, .c (.int .i64)), (8, .c (.int .i64))])], [], 0, [], [], Tryz.f68, [.c (.slice 1), .c (.int .i64)], [.c (.int .i64)], []⟩
theorem ok68 : F68.S.Ok Tryz.prog 68 := F68.ok Tryz.func68 (by kernel_rfl) trivial
noncomputable def g68 (x0 : LL) (x1 : Int) : Option (Int) := F68.S.g [.l x0, .i x1]
noncomputable def g68L0 (k : Nat) (x0 : LL) (x1 x2 x3 : Int) : Option (Int) := F68.lp [0] 0 r0 k [.l x0, .i x1, .i x2, .i x3]
theorem g68L0_eq (k : Nat) (x0 : LL) (x1 x2 x3 : Int) : g68L0 (k + 1) x0 x1 x2 x3 =
 (if (cop .lss x3 x2) = true then
 elemK x0 x3 [.int .i64] fun (r4 : Int) =>
 if (cop .eql x1 r4) = true then
 some (x3)
 else
 g68L0 k x0 x1 x2 (iop .add .i64 x3 1)
 else
 some ((-1))) := by kernel_rfl
theorem g68_eq (x0 : LL) (x1 : Int) : g68 x0 x1 =
 (g68L0 FUEL x0 x1 (List.length x0 : Int) 0) := by kernel_rfl

/- slices.Contains[[]int,int] -/
noncomputable def F42 : Fn := ⟨9, [4], [], [], 0, [], [], Tryz.f42, [.c (.slice 1), .c (.int .i64)], [.c (.bool)], [(68, F68.S)]⟩
theorem ok42 : F42.S.Ok Tryz.prog 42 := F42.ok Tryz.func42 (by kernel_rfl) ⟨ok68, trivial⟩
noncomputable def g42 (x0 : LL) (x1 : Int) : Option (Bool) := F42.S.g [.l x0, .i x1]
theorem g42_eq (x0 : LL) (x1 : Int) : g42 x0 x1 =
 ((g68 x0 x1).bind fun (r2 : Int) =>
 some ((cop .geq r2 0))) := by kernel_rfl

/- slices.Clone[[]multikernel/api.Slot,multikernel/api.Slot] -/
noncomputable def F59 : Fn := ⟨8, [2], [], [], 0, [2, 5, 7], [], Tryz.f59, [.c (.slice 15)], [.c (.own true 70)], []⟩
theorem ok59 : F59.S.Ok Tryz.prog 59 := F59.ok Tryz.func59 (by kernel_rfl) trivial
noncomputable def g59 (x0 : LL) : Option (LL) := F59.S.g [.l x0]
theorem g59_eq (x0 : LL) : g59 x0 =
 (nilK x0 fun r1 =>
 if r1 = true then
 some (([] : LL))
 else
 reqK (roomP ([] : LL) x0 136) <|
 some ((([] : LL) ++ x0))) := by kernel_rfl

/- slices.Clone[[]multikernel/api.Id,multikernel/api.Id] -/
noncomputable def F45 : Fn := ⟨8, [2], [], [], 0, [], [], Tryz.f45, [.c (.slice 3)], [.c (.own false 25)], []⟩
theorem ok45 : F45.S.Ok Tryz.prog 45 := F45.ok Tryz.func45 (by kernel_rfl) trivial
noncomputable def g45 (x0 : LL) : Option (LL) := F45.S.g [.l x0]
theorem g45_eq (x0 : LL) : g45 x0 =
 (nilK x0 fun r1 =>
 if r1 = true then
 some (([] : LL))
 else
 reqK (roomP ([] : LL) x0 24) <|
 some ((([] : LL) ++ x0))) := by kernel_rfl

/- multikernel/node.Copy -/
noncomputable def F28 : Fn := ⟨8, [2], [], [], 0, [], [], Tryz.f28, [.agg hs10], [.agg hs10], [(45, F45.S)]⟩
theorem ok28 : F28.S.Ok Tryz.prog 28 := F28.ok Tryz.func28 (by kernel_rfl) ⟨ok45, trivial⟩
noncomputable def g28 (x0 x1 x2 : Int) (x3 : LL) (x4 x5 x6 x7 x8 x9 : Int) (x10 : Bool) : Option (Qt15) := F28.S.g [.i x0, .i x1, .i x2, .l x3, .i x4, .i x5, .i x6, .i x7, .i x8, .i x9, .b x10]
theorem g28_eq (x0 x1 x2 : Int) (x3 : LL) (x4 x5 x6 x7 x8 x9 : Int) (x10 : Bool) : g28 x0 x1 x2 x3 x4 x5 x6 x7 x8 x9 x10 =
 ((g45 x3).bind fun (r11 : LL) =>
 some (x0, x1, x2, r11, x4, x5, x6, x7, x8, x9, x10)) := by kernel_rfl

/- multikernel/cspace.Copy -/
noncomputable def F36 : Fn := ⟨24, [2], [(3, [(3, .c (.own true 70)), (8, .c (.int .i64)), (9, .c (.int .i64))])], [], 0, [2], [], Tryz.f36, [.c (.slice 15)], [.c (.own true 70)], [(59, F59.S), (28, F28.S)]⟩
theorem ok36 : F36.S.Ok Tryz.prog 36 := F36.ok Tryz.func36 (by kernel_rfl) ⟨ok59, ⟨ok28, trivial⟩⟩
noncomputable def g36 (x0 : LL) : Option (LL) := F36.S.g [.l x0]
noncomputable def g36L0 (k : Nat) (x0 : LL) (x1 x2 : Int) : Option (LL) := F36.lp [2] 0 r0 k [.l x0, .i x1, .i x2]
theorem g36L0_eq (k : Nat) (x0 : LL) (x1 x2 : Int) : g36L0 (k + 1) x0 x1 x2 =
 (if (cop .lss x2 x1) = true then
 reqK ((0 : Int) ≤ x2) <|
 reqK ((x2 : Int) < (List.length x0 : Int)) <|
 elemK x0 x2 hs8 fun (r3 : Qt11) =>
 (g28 r3.1 r3.2.1 r3.2.2.1 r3.2.2.2.1 r3.2.2.2.2.1 r3.2.2.2.2.2.1 r3.2.2.2.2.2.2.1 r3.2.2.2.2.2.2.2.1 r3.2.2.2.2.2.2.2.2.1 r3.2.2.2.2.2.2.2.2.2.1 r3.2.2.2.2.2.2.2.2.2.2.1).bind fun (r18 : Qt15) =>
 reqK ((0 : Int) ≤ x2) <|
 reqK ((x2 : Int) < (List.length x0 : Int)) <|
 reqK ((0 : Int) ≤ x2) <|
 reqK ((x2 : Int) < (List.length x0 : Int)) <|
 g36L0 k (setElem x0 (Int.toNat x2) 0 [AV.val (.int .i64 r18.1), AV.val (.int .i64 r18.2.1), AV.val (.int .i64 r18.2.2.1), AV.slice false 3 r18.2.2.2.1, AV.val (.int .i64 r18.2.2.2.2.1), AV.val (.int .i64 r18.2.2.2.2.2.1), AV.val (.int .i64 r18.2.2.2.2.2.2.1), AV.val (.int .i64 r18.2.2.2.2.2.2.2.1), AV.val (.int .i64 r18.2.2.2.2.2.2.2.2.1), AV.val (.int .i64 r18.2.2.2.2.2.2.2.2.2.1), AV.val (.bool r18.2.2.2.2.2.2.2.2.2.2)]) x1 (iop .add .i64 x2 1)
 else
 some (x0)) := by kernel_rfl
theorem g36_eq (x0 : LL) : g36 x0 =
 ((g59 x0).bind fun (r1 : LL) =>
 g36L0 FUEL r1 (List.length r1 : Int) 0) := by kernel_rfl

/- multikernel/cspace.Busy -/
noncomputable def F43 : Fn := ⟨12, [2], [], [], 0, [], [], Tryz.f43, [.agg hs8], [.c (.bool)], []⟩
theorem ok43 : F43.S.Ok Tryz.prog 43 := F43.ok Tryz.func43 (by kernel_rfl) trivial
noncomputable def g43 (x0 x1 x2 : Int) (x3 : LL) (x4 x5 x6 x7 x8 x9 : Int) (x10 : Bool) (x11 x12 x13 x14 : Int) : Option (Bool) := F43.S.g [.i x0, .i x1, .i x2, .l x3, .i x4, .i x5, .i x6, .i x7, .i x8, .i x9, .b x10, .i x11, .i x12, .i x13, .i x14]
theorem g43_eq (x0 x1 x2 : Int) (x3 : LL) (x4 x5 x6 x7 x8 x9 : Int) (x10 : Bool) (x11 x12 x13 x14 : Int) : g43 x0 x1 x2 x3 x4 x5 x6 x7 x8 x9 x10 x11 x12 x13 x14 =
 (if (cop .neq x11 0) = true then
 some (true)
 else
 some ((!((cop .eql x12 0) && ((cop .eql x13 0) && ((cop .eql x14 0) && true)))))) := by kernel_rfl

/- multikernel/cspace.Reserve -/
noncomputable def F24 : Fn := ⟨62, [6, 7], [(4, [(0, .c (.slice 15)), (1, .c (.slice 1)), (2, .c (.int .i64)), (19, .c (.slice 1)), (20, .c (.int .i64)), (21, .c (.int .i64))]), (11, [(0, .c (.slice 15)), (2, .c (.int .i64)), (10, .c (.own true 70)), (44, .c (.slice 1)), (45, .c (.int .i64)), (46, .c (.int .i64))])], [], 0, [6], [], Tryz.f24, [.c (.slice 15), .c (.slice 1), .c (.int .i64)], [.c (.own true 70), .c (.int .i64)], [(42, F42.S), (36, F36.S), (43, F43.S)]⟩
theorem ok24 : F24.S.Ok Tryz.prog 24 := F24.ok Tryz.func24 (by kernel_rfl) ⟨ok42, ⟨ok36, ⟨ok43, trivial⟩⟩⟩
noncomputable def g24 (x0 x1 : LL) (x2 : Int) : Option (LL × Int) := F24.S.g [.l x0, .l x1, .i x2]
noncomputable def g24L0 (k : Nat) (x0 : LL) (x1 : Int) (x2 x3 : LL) (x4 x5 : Int) : Option (LL × Int) := F24.lp [1, 1, 0, 1, 2] 0 r0 k [.l x0, .i x1, .l x2, .l x3, .i x4, .i x5]
theorem g24L0_eq (k : Nat) (x0 : LL) (x1 : Int) (x2 x3 : LL) (x4 x5 : Int) : g24L0 (k + 1) x0 x1 x2 x3 x4 x5 =
 (if (cop .lss x5 x4) = true then
 elemK x3 x5 [.int .i64] fun (r6 : Int) =>
 elemK x0 r6 hs8 fun (r7 : Qt11) =>
 (g43 r7.1 r7.2.1 r7.2.2.1 r7.2.2.2.1 r7.2.2.2.2.1 r7.2.2.2.2.2.1 r7.2.2.2.2.2.2.1 r7.2.2.2.2.2.2.2.1 r7.2.2.2.2.2.2.2.2.1 r7.2.2.2.2.2.2.2.2.2.1 r7.2.2.2.2.2.2.2.2.2.2.1 r7.2.2.2.2.2.2.2.2.2.2.2.1 (d4 (d8 r7)).1 (d4 (d8 r7)).2.1 (d2 (d4 (d8 r7)))).bind fun (r22 : Bool) =>
 if r22 = true then
 some (([] : LL), 4)
 else
 reqK ((0 : Int) ≤ r6) <|
 reqK ((r6 : Int) < (List.length x2 : Int)) <|
 reqK ((0 : Int) ≤ r6) <|
 reqK ((r6 : Int) < (List.length x2 : Int)) <|
 g24L0 k x0 x1 (setElem x2 (Int.toNat r6) 11 [AV.val (.int .i64 x1)]) x3 x4 (iop .add .i64 x5 1)
 else
 some (x2, 0)) := by kernel_rfl
noncomputable def g24L1 (k : Nat) (x0 x1 : LL) (x2 : Int) (x3 : LL) (x4 x5 : Int) : Option (LL × Int) := F24.lp [1, 1, 0] 0 r0 k [.l x0, .l x1, .i x2, .l x3, .i x4, .i x5]
theorem g24L1_eq (k : Nat) (x0 x1 : LL) (x2 : Int) (x3 : LL) (x4 x5 : Int) : g24L1 (k + 1) x0 x1 x2 x3 x4 x5 =
 (if (cop .lss x5 x4) = true then
 elemK x3 x5 [.int .i64] fun (r6 : Int) =>
 if (cop .lss r6 0) = true then
 some (([] : LL), 1)
 else
 if (cop .geq r6 (List.length x0 : Int)) = true then
 some (([] : LL), 1)
 else
 reqK ((0 : Int) ≤ x5) <|
 reqK ((x5 : Int) ≤ (List.length x1 : Int)) <|
 (g42 (List.take (Int.toNat x5) x1) r6).bind fun (r7 : Bool) =>
 if r7 = true then
 some (([] : LL), 1)
 else
 g24L1 k x0 x1 x2 x3 x4 (iop .add .i64 x5 1)
 else
 (g36 x0).bind fun (r6 : LL) =>
 g24L0 FUEL x0 x2 r6 x1 (List.length x1 : Int) 0) := by kernel_rfl
theorem g24_eq (x0 x1 : LL) (x2 : Int) : g24 x0 x1 x2 =
 (if (cop .lss x2 1) = true then
 some (([] : LL), 1)
 else
 if (cop .gtr x2 1073741824) = true then
 some (([] : LL), 1)
 else
 g24L1 FUEL x0 x1 x2 x1 (List.length x1 : Int) 0) := by kernel_rfl

/- slices.Clone[[]multikernel/api.Request,multikernel/api.Request] -/
noncomputable def F48 : Fn := ⟨8, [2], [], [], 0, [2, 5, 7], [], Tryz.f48, [.c (.slice 28)], [.c (.own true 34)], []⟩
theorem ok48 : F48.S.Ok Tryz.prog 48 := F48.ok Tryz.func48 (by kernel_rfl) trivial
noncomputable def g48 (x0 : LL) : Option (LL) := F48.S.g [.l x0]
theorem g48_eq (x0 : LL) : g48 x0 =
 (nilK x0 fun r1 =>
 if r1 = true then
 some (([] : LL))
 else
 reqK (roomP ([] : LL) x0 240) <|
 some ((([] : LL) ++ x0))) := by kernel_rfl

/- multikernel/client.Copy -/
noncomputable def F30 : Fn := ⟨24, [2], [(3, [(3, .c (.own true 34)), (8, .c (.int .i64)), (9, .c (.int .i64))])], [], 0, [2], [], Tryz.f30, [.c (.slice 28)], [.c (.own true 34)], [(48, F48.S), (28, F28.S)]⟩
theorem ok30 : F30.S.Ok Tryz.prog 30 := F30.ok Tryz.func30 (by kernel_rfl) ⟨ok48, ⟨ok28, trivial⟩⟩
noncomputable def g30 (x0 : LL) : Option (LL) := F30.S.g [.l x0]
noncomputable def g30L0 (k : Nat) (x0 : LL) (x1 x2 : Int) : Option (LL) := F30.lp [2] 0 r0 k [.l x0, .i x1, .i x2]
theorem g30L0_eq (k : Nat) (x0 : LL) (x1 x2 : Int) : g30L0 (k + 1) x0 x1 x2 =
 (if (cop .lss x2 x1) = true then
 reqK ((0 : Int) ≤ x2) <|
 reqK ((x2 : Int) < (List.length x0 : Int)) <|
 elemK x0 x2 hs3 fun (r3 : Qt7) =>
 (g28 (d16 r3).2.1 (d2 (d16 r3)).1 (d2 (d16 r3)).2.1 (d4 (d16 r3)).1 (d4 (d16 r3)).2.1 (d2 (d4 (d16 r3))).1 (d2 (d4 (d16 r3))).2.1 (d8 (d16 r3)).1 (d8 (d16 r3)).2.1 (d2 (d8 (d16 r3))).1 (d2 (d8 (d16 r3))).2).bind fun (r31 : Qt15) =>
 reqK ((0 : Int) ≤ x2) <|
 reqK ((x2 : Int) < (List.length x0 : Int)) <|
 reqK ((0 : Int) ≤ x2) <|
 reqK ((x2 : Int) < (List.length x0 : Int)) <|
 g30L0 k (setElem x0 (Int.toNat x2) 17 [AV.val (.int .i64 r31.1), AV.val (.int .i64 r31.2.1), AV.val (.int .i64 r31.2.2.1), AV.slice false 3 r31.2.2.2.1, AV.val (.int .i64 r31.2.2.2.2.1), AV.val (.int .i64 r31.2.2.2.2.2.1), AV.val (.int .i64 r31.2.2.2.2.2.2.1), AV.val (.int .i64 r31.2.2.2.2.2.2.2.1), AV.val (.int .i64 r31.2.2.2.2.2.2.2.2.1), AV.val (.int .i64 r31.2.2.2.2.2.2.2.2.2.1), AV.val (.bool r31.2.2.2.2.2.2.2.2.2.2)]) x1 (iop .add .i64 x2 1)
 else
 some (x0)) := by kernel_rfl
theorem g30_eq (x0 : LL) : g30 x0 =
 ((g48 x0).bind fun (r1 : LL) =>
 g30L0 FUEL r1 (List.length r1 : Int) 0) := by kernel_rfl

/- slices.Insert[[]multikernel/api.Request,multikernel/api.Request] -/
noncomputable def F29.S : Fun := insF false 34 240
theorem ok29 : F29.S.Ok Tryz.prog 29 := insF_ok (T := 23) (B := 4) (I := 3) (e := 34) (fO := 46) (fR := 47) mixed (by kernel_rfl) Tryz.func29 (by kernel_rfl) ⟨by kernel_rfl, by kernel_rfl, by kernel_rfl⟩ Tryz.func46 (by kernel_rfl) (by kernel_rfl) (by kernel_rfl) (by kernel_rfl)
noncomputable def g29 (x0 : LL) (x1 : Int) (x2 : LL) : Option LL := F29.S.g [.l x0, .i x1, .l x2]
theorem g29_eq (x0 : LL) (x1 : Int) (x2 : LL) : g29 x0 x1 x2 = gIns 240 x0 x1 x2 := rfl

/- cmp.isNaN[int] -/
noncomputable def F101 : Fn := ⟨6, [2], [], [], 0, [], [], Tryz.f101, [.c (.int .i64)], [.c (.bool)], []⟩
theorem ok101 : F101.S.Ok Tryz.prog 101 := F101.ok Tryz.func101 (by kernel_rfl) trivial
noncomputable def g101 (x0 : Int) : Option (Bool) := F101.S.g [.i x0]
theorem g101_eq (x0 : Int) : g101 x0 =
 (some ((cop .neq x0 x0))) := by kernel_rfl

/- cmp.Compare[int] -/
noncomputable def F70 : Fn := ⟨20, [4], [], [], 0, [], [], Tryz.f70, [.c (.int .i64), .c (.int .i64)], [.c (.int .i64)], [(101, F101.S)]⟩
theorem ok70 : F70.S.Ok Tryz.prog 70 := F70.ok Tryz.func70 (by kernel_rfl) ⟨ok101, trivial⟩
noncomputable def g70 (x0 x1 : Int) : Option (Int) := F70.S.g [.i x0, .i x1]
theorem g70_eq (x0 x1 : Int) : g70 x0 x1 =
 ((g101 x0).bind fun (r2 : Bool) =>
 (g101 x1).bind fun (r3 : Bool) =>
 if r2 = true then
 if r3 = true then
 some (0)
 else
 some ((-1))
 else
 if r3 = true then
 some (1)
 else
 if (cop .lss x0 x1) = true then
 some ((-1))
 else
 if (cop .gtr x0 x1) = true then
 some (1)
 else
 some (0)) := by kernel_rfl

/- cmp.Or[int] -/
noncomputable def F69 : Fn := ⟨18, [2], [(3, [(3, .c (.int .i64)), (6, .c (.slice 1)), (7, .c (.int .i64)), (8, .c (.int .i64))])], [], 0, [], [], Tryz.f69, [.c (.slice 1)], [.c (.int .i64)], []⟩
theorem ok69 : F69.S.Ok Tryz.prog 69 := F69.ok Tryz.func69 (by kernel_rfl) trivial
noncomputable def g69 (x0 : LL) : Option (Int) := F69.S.g [.l x0]
noncomputable def g69L0 (k : Nat) (x0 : Int) (x1 : LL) (x2 x3 : Int) : Option (Int) := F69.lp [0] 0 r0 k [.i x0, .l x1, .i x2, .i x3]
theorem g69L0_eq (k : Nat) (x0 : Int) (x1 : LL) (x2 x3 : Int) : g69L0 (k + 1) x0 x1 x2 x3 =
 (if (cop .lss x3 x2) = true then
 elemK x1 x3 [.int .i64] fun (r4 : Int) =>
 if (cop .neq r4 x0) = true then
 some (r4)
 else
 g69L0 k x0 x1 x2 (iop .add .i64 x3 1)
 else
 some (x0)) := by kernel_rfl
theorem g69_eq (x0 : LL) : g69 x0 =
 (g69L0 FUEL 0 x0 (List.length x0 : Int) 0) := by kernel_rfl

/- multikernel/node.Compare -/
noncomputable def F44 : Fn := ⟨22, [4], [], [], 0, [], [], Tryz.f44, [.agg [.int .i64, .int .i64, .int .i64], .agg [.int .i64, .int .i64, .int .i64]], [.c (.int .i64)], [(70, F70.S), (69, F69.S)]⟩
theorem ok44 : F44.S.Ok Tryz.prog 44 := F44.ok Tryz.func44 (by kernel_rfl) ⟨ok70, ⟨ok69, trivial⟩⟩
noncomputable def g44 (x0 x1 x2 x3 x4 x5 : Int) : Option (Int) := F44.S.g [.i x0, .i x1, .i x2, .i x3, .i x4, .i x5]
theorem g44_eq (x0 x1 x2 x3 x4 x5 : Int) : g44 x0 x1 x2 x3 x4 x5 =
 ((g70 x0 x3).bind fun (r6 : Int) =>
 (g70 x1 x4).bind fun (r7 : Int) =>
 (g70 x2 x5).bind fun (r8 : Int) =>
 (g69 (((([] : LL) ++ [[AV.val (.int .i64 r6)]]) ++ [[AV.val (.int .i64 r7)]]) ++ [[AV.val (.int .i64 r8)]])).bind fun (r9 : Int) =>
 some (r9)) := by kernel_rfl

/- multikernel/node.Less -/
noncomputable def F27 : Fn := ⟨9, [4], [], [], 0, [], [], Tryz.f27, [.agg [.int .i64, .int .i64, .int .i64], .agg [.int .i64, .int .i64, .int .i64]], [.c (.bool)], [(44, F44.S)]⟩
theorem ok27 : F27.S.Ok Tryz.prog 27 := F27.ok Tryz.func27 (by kernel_rfl) ⟨ok44, trivial⟩
noncomputable def g27 (x0 x1 x2 x3 x4 x5 : Int) : Option (Bool) := F27.S.g [.i x0, .i x1, .i x2, .i x3, .i x4, .i x5]
theorem g27_eq (x0 x1 x2 x3 x4 x5 : Int) : g27 x0 x1 x2 x3 x4 x5 =
 ((g44 x0 x1 x2 x3 x4 x5).bind fun (r6 : Int) =>
 some ((cop .lss r6 0))) := by kernel_rfl

/- multikernel/client.Begin$1 -/
noncomputable def F26 : Fn := ⟨9, [3], [], [1], 0, [], [], Tryz.f26, [.agg hs3, .box hs3], [.c (.bool)], [(27, F27.S)]⟩
theorem ok26 : F26.S.Ok Tryz.prog 26 := F26.ok Tryz.func26 (by kernel_rfl) ⟨ok27, trivial⟩
noncomputable def g26 (x0 x1 x2 x3 x4 x5 x6 x7 x8 x9 x10 x11 x12 x13 x14 x15 x16 x17 x18 x19 : Int) (x20 : LL) (x21 x22 x23 x24 x25 x26 : Int) (x27 : Bool) (x28 x29 x30 x31 x32 x33 x34 x35 x36 x37 x38 x39 x40 x41 x42 x43 x44 x45 x46 x47 : Int) (x48 : LL) (x49 x50 x51 x52 x53 x54 : Int) (x55 : Bool) : Option (Qt5) := F26.S.g [.i x0, .i x1, .i x2, .i x3, .i x4, .i x5, .i x6, .i x7, .i x8, .i x9, .i x10, .i x11, .i x12, .i x13, .i x14, .i x15, .i x16, .i x17, .i x18, .i x19, .l x20, .i x21, .i x22, .i x23, .i x24, .i x25, .i x26, .b x27, .i x28, .i x29, .i x30, .i x31, .i x32, .i x33, .i x34, .i x35, .i x36, .i x37, .i x38, .i x39, .i x40, .i x41, .i x42, .i x43, .i x44, .i x45, .i x46, .i x47, .l x48, .i x49, .i x50, .i x51, .i x52, .i x53, .i x54, .b x55]
theorem g26_eq (x0 x1 x2 x3 x4 x5 x6 x7 x8 x9 x10 x11 x12 x13 x14 x15 x16 x17 x18 x19 : Int) (x20 : LL) (x21 x22 x23 x24 x25 x26 : Int) (x27 : Bool) (x28 x29 x30 x31 x32 x33 x34 x35 x36 x37 x38 x39 x40 x41 x42 x43 x44 x45 x46 x47 : Int) (x48 : LL) (x49 x50 x51 x52 x53 x54 : Int) (x55 : Bool) : g26 x0 x1 x2 x3 x4 x5 x6 x7 x8 x9 x10 x11 x12 x13 x14 x15 x16 x17 x18 x19 x20 x21 x22 x23 x24 x25 x26 x27 x28 x29 x30 x31 x32 x33 x34 x35 x36 x37 x38 x39 x40 x41 x42 x43 x44 x45 x46 x47 x48 x49 x50 x51 x52 x53 x54 x55 =
 ((g27 x28 x29 x30 x0 x1 x2).bind fun (r56 : Bool) =>
 some (r56, x28, x29, x30, x31, x32, x33, x34, x35, x36, x37, x38, x39, x40, x41, x42, x43, x44, x45, x46, x47, x48, x49, x50, x51, x52, x53, x54, x55)) := by kernel_rfl

/- slices.IndexFunc[[]multikernel/api.Request,multikernel/api.Request] -/
noncomputable def F25c26 : Fn := ⟨19, [4], [(2, [(0, .c (.slice 28)), (1, .clo 26 [19]), (7, .c (.int .i64)), (8, .c (.int .i64)), (19, .gbox hs3)])], [], 1, [], [], Tryz.f25, [.c (.slice 28), .clo 26 [19], .dead, .dead, .dead, .dead, .dead, .dead, .dead, .dead, .dead, .dead, .dead, .dead, .dead, .dead, .dead, .dead, .dead, .gbox hs3], [.c (.int .i64)], [(26, F26.S)]⟩
theorem ok25c26 : F25c26.S.Ok Tryz.prog 25 := F25c26.ok Tryz.func25 (by kernel_rfl) ⟨ok26, trivial⟩
noncomputable def g25c26 (x0 : LL) (x1 x2 x3 x4 x5 x6 x7 x8 x9 x10 x11 x12 x13 x14 x15 x16 x17 x18 x19 x20 : Int) (x21 : LL) (x22 x23 x24 x25 x26 x27 : Int) (x28 : Bool) : Option (Qt6) := F25c26.S.g [.l x0, .i x1, .i x2, .i x3, .i x4, .i x5, .i x6, .i x7, .i x8, .i x9, .i x10, .i x11, .i x12, .i x13, .i x14, .i x15, .i x16, .i x17, .i x18, .i x19, .i x20, .l x21, .i x22, .i x23, .i x24, .i x25, .i x26, .i x27, .b x28]
noncomputable def g25c26L0 (k : Nat) (x0 : LL) (x1 x2 x3 x4 x5 x6 x7 x8 x9 x10 x11 x12 x13 x14 x15 x16 x17 x18 x19 x20 x21 x22 : Int) (x23 : LL) (x24 x25 x26 x27 x28 x29 : Int) (x30 : Bool) : Option (Qt6) := F25c26.lp [0] 0 r0 k [.l x0, .i x1, .i x2, .i x3, .i x4, .i x5, .i x6, .i x7, .i x8, .i x9, .i x10, .i x11, .i x12, .i x13, .i x14, .i x15, .i x16, .i x17, .i x18, .i x19, .i x20, .i x21, .i x22, .l x23, .i x24, .i x25, .i x26, .i x27, .i x28, .i x29, .b x30]
theorem g25c26L0_eq (k : Nat) (x0 : LL) (x1 x2 x3 x4 x5 x6 x7 x8 x9 x10 x11 x12 x13 x14 x15 x16 x17 x18 x19 x20 x21 x22 : Int) (x23 : LL) (x24 x25 x26 x27 x28 x29 : Int) (x30 : Bool) : g25c26L0 (k + 1) x0 x1 x2 x3 x4 x5 x6 x7 x8 x9 x10 x11 x12 x13 x14 x15 x16 x17 x18 x19 x20 x21 x22 x23 x24 x25 x26 x27 x28 x29 x30 =
 (if (cop .lss x2 x1) = true then
 elemK x0 x2 hs3 fun (r31 : Qt7) =>
 (g26 r31.1 r31.2.1 r31.2.2.1 r31.2.2.2.1 r31.2.2.2.2.1 r31.2.2.2.2.2.1 r31.2.2.2.2.2.2.1 r31.2.2.2.2.2.2.2.1 r31.2.2.2.2.2.2.2.2.1 r31.2.2.2.2.2.2.2.2.2.1 r31.2.2.2.2.2.2.2.2.2.2.1 r31.2.2.2.2.2.2.2.2.2.2.2.1 (d4 (d8 r31)).1 (d4 (d8 r31)).2.1 (d2 (d4 (d8 r31))).1 (d2 (d4 (d8 r31))).2.1 (d16 r31).1 (d16 r31).2.1 (d2 (d16 r31)).1 (d2 (d16 r31)).2.1 (d4 (d16 r31)).1 (d4 (d16 r31)).2.1 (d2 (d4 (d16 r31))).1 (d2 (d4 (d16 r31))).2.1 (d8 (d16 r31)).1 (d8 (d16 r31)).2.1 (d2 (d8 (d16 r31))).1 (d2 (d8 (d16 r31))).2 x3 x4 x5 x6 x7 x8 x9 x10 x11 x12 x13 x14 x15 x16 x17 x18 x19 x20 x21 x22 x23 x24 x25 x26 x27 x28 x29 x30).bind fun (r59 : Qt5) =>
 if r59.1 = true then
 some (x2, r59.2.1, r59.2.2.1, r59.2.2.2.1, r59.2.2.2.2.1, r59.2.2.2.2.2.1, r59.2.2.2.2.2.2.1, r59.2.2.2.2.2.2.2.1, r59.2.2.2.2.2.2.2.2.1, r59.2.2.2.2.2.2.2.2.2.1, r59.2.2.2.2.2.2.2.2.2.2.1, r59.2.2.2.2.2.2.2.2.2.2.2.1, (d4 (d8 r59)).1, (d4 (d8 r59)).2.1, (d2 (d4 (d8 r59))).1, (d2 (d4 (d8 r59))).2.1, (d16 r59).1, (d16 r59).2.1, (d2 (d16 r59)).1, (d2 (d16 r59)).2.1, (d4 (d16 r59)).1, (d4 (d16 r59)).2.1, (d2 (d4 (d16 r59))).1, (d2 (d4 (d16 r59))).2.1, (d8 (d16 r59)).1, (d8 (d16 r59)).2.1, (d2 (d8 (d16 r59))).1, (d2 (d8 (d16 r59))).2.1, (d4 (d8 (d16 r59))))
 else
 g25c26L0 k x0 x1 (iop .add .i64 x2 1) r59.2.1 r59.2.2.1 r59.2.2.2.1 r59.2.2.2.2.1 r59.2.2.2.2.2.1 r59.2.2.2.2.2.2.1 r59.2.2.2.2.2.2.2.1 r59.2.2.2.2.2.2.2.2.1 r59.2.2.2.2.2.2.2.2.2.1 r59.2.2.2.2.2.2.2.2.2.2.1 r59.2.2.2.2.2.2.2.2.2.2.2.1 (d4 (d8 r59)).1 (d4 (d8 r59)).2.1 (d2 (d4 (d8 r59))).1 (d2 (d4 (d8 r59))).2.1 (d16 r59).1 (d16 r59).2.1 (d2 (d16 r59)).1 (d2 (d16 r59)).2.1 (d4 (d16 r59)).1 (d4 (d16 r59)).2.1 (d2 (d4 (d16 r59))).1 (d2 (d4 (d16 r59))).2.1 (d8 (d16 r59)).1 (d8 (d16 r59)).2.1 (d2 (d8 (d16 r59))).1 (d2 (d8 (d16 r59))).2.1 (d4 (d8 (d16 r59)))
 else
 some ((-1), x3, x4, x5, x6, x7, x8, x9, x10, x11, x12, x13, x14, x15, x16, x17, x18, x19, x20, x21, x22, x23, x24, x25, x26, x27, x28, x29, x30)) := by kernel_rfl
theorem g25c26_eq (x0 : LL) (x1 x2 x3 x4 x5 x6 x7 x8 x9 x10 x11 x12 x13 x14 x15 x16 x17 x18 x19 x20 : Int) (x21 : LL) (x22 x23 x24 x25 x26 x27 : Int) (x28 : Bool) : g25c26 x0 x1 x2 x3 x4 x5 x6 x7 x8 x9 x10 x11 x12 x13 x14 x15 x16 x17 x18 x19 x20 x21 x22 x23 x24 x25 x26 x27 x28 =
 (g25c26L0 FUEL x0 (List.length x0 : Int) 0 x1 x2 x3 x4 x5 x6 x7 x8 x9 x10 x11 x12 x13 x14 x15 x16 x17 x18 x19 x20 x21 x22 x23 x24 x25 x26 x27 x28) := by kernel_rfl

/- multikernel/client.Begin -/
noncomputable def F8 : Fn := ⟨54, [8, 9, 10], [], [], 0, [], [(4, [(0, 0)]), (11, [(13, 0)])], Tryz.f8, [.c (.own true 70), .c (.slice 28), .agg hs3, .c (.slice 1)], [.c (.slice 15), .c (.slice 28), .c (.int .i64)], [(23, F23.S), (24, F24.S), (25, F25c26.S), (28, F28.S), (30, F30.S), (29, F29.S)]⟩
theorem ok8 : F8.S.Ok Tryz.prog 8 := F8.ok Tryz.func8 (by kernel_rfl) ⟨ok23, ⟨ok24, ⟨ok25c26, ⟨ok28, ⟨ok30, ⟨ok29, trivial⟩⟩⟩⟩⟩⟩
noncomputable def g8 (x0 x1 : LL) (x2 x3 x4 x5 x6 x7 x8 x9 x10 x11 x12 x13 x14 x15 x16 x17 x18 x19 x20 x21 : Int) (x22 : LL) (x23 x24 x25 x26 x27 x28 : Int) (x29 : Bool) (x30 : LL) : Option (LL × LL × Int) := F8.S.g [.l x0, .l x1, .i x2, .i x3, .i x4, .i x5, .i x6, .i x7, .i x8, .i x9, .i x10, .i x11, .i x12, .i x13, .i x14, .i x15, .i x16, .i x17, .i x18, .i x19, .i x20, .i x21, .l x22, .i x23, .i x24, .i x25, .i x26, .i x27, .i x28, .b x29, .l x30]
theorem g8_eq (x0 x1 : LL) (x2 x3 x4 x5 x6 x7 x8 x9 x10 x11 x12 x13 x14 x15 x16 x17 x18 x19 x20 x21 : Int) (x22 : LL) (x23 x24 x25 x26 x27 x28 : Int) (x29 : Bool) (x30 : LL) : g8 x0 x1 x2 x3 x4 x5 x6 x7 x8 x9 x10 x11 x12 x13 x14 x15 x16 x17 x18 x19 x20 x21 x22 x23 x24 x25 x26 x27 x28 x29 x30 =
 ((g23 x1 x2 x3 x4).bind fun (r31 : Int × Bool) =>
 if r31.2 = true then
 some (([] : LL), ([] : LL), 1)
 else
 (g24 x0 x30 x3).bind fun (r33 : LL × Int) =>
 if (cop .neq r33.2 0) = true then
 some (([] : LL), ([] : LL), r33.2)
 else
 (g25c26 x1 x2 x3 x4 x5 x6 x7 x8 x9 x10 x11 x12 x13 x14 x15 x16 x17 x18 x19 x20 x21 x22 x23 x24 x25 x26 x27 x28 x29).bind fun (r35 : Qt6) =>
 if (cop .lss r35.1 0) = true then
 (g28 (d2 (d16 r35)).1 (d2 (d16 r35)).2.1 (d4 (d16 r35)).1 (d4 (d16 r35)).2.1 (d2 (d4 (d16 r35))).1 (d2 (d4 (d16 r35))).2.1 (d8 (d16 r35)).1 (d8 (d16 r35)).2.1 (d2 (d8 (d16 r35))).1 (d2 (d8 (d16 r35))).2.1 (d4 (d8 (d16 r35)))).bind fun (r64 : Qt15) =>
 (g30 x1).bind fun (r75 : LL) =>
 (g29 r75 (List.length x1 : Int) (([] : LL) ++ [[AV.val (.int .i64 r35.2.1), AV.val (.int .i64 r35.2.2.1), AV.val (.int .i64 r35.2.2.2.1), AV.val (.int .i64 r35.2.2.2.2.1), AV.val (.int .i64 r35.2.2.2.2.2.1), AV.val (.int .i64 r35.2.2.2.2.2.2.1), AV.val (.int .i64 r35.2.2.2.2.2.2.2.1), AV.val (.int .i64 r35.2.2.2.2.2.2.2.2.1), AV.val (.int .i64 r35.2.2.2.2.2.2.2.2.2.1), AV.val (.int .i64 r35.2.2.2.2.2.2.2.2.2.2.1), AV.val (.int .i64 r35.2.2.2.2.2.2.2.2.2.2.2.1), AV.val (.int .i64 (d4 (d8 r35)).1), AV.val (.int .i64 (d4 (d8 r35)).2.1), AV.val (.int .i64 (d2 (d4 (d8 r35))).1), AV.val (.int .i64 (d2 (d4 (d8 r35))).2.1), AV.val (.int .i64 (d16 r35).1), AV.val (.int .i64 (d16 r35).2.1), AV.val (.int .i64 r64.1), AV.val (.int .i64 r64.2.1), AV.val (.int .i64 r64.2.2.1), AV.slice false 3 r64.2.2.2.1, AV.val (.int .i64 r64.2.2.2.2.1), AV.val (.int .i64 r64.2.2.2.2.2.1), AV.val (.int .i64 r64.2.2.2.2.2.2.1), AV.val (.int .i64 r64.2.2.2.2.2.2.2.1), AV.val (.int .i64 r64.2.2.2.2.2.2.2.2.1), AV.val (.int .i64 r64.2.2.2.2.2.2.2.2.2.1), AV.val (.bool r64.2.2.2.2.2.2.2.2.2.2)]])).bind fun (r76 : LL) =>
 some (r33.1, r76, 0)
 else
 (g28 (d2 (d16 r35)).1 (d2 (d16 r35)).2.1 (d4 (d16 r35)).1 (d4 (d16 r35)).2.1 (d2 (d4 (d16 r35))).1 (d2 (d4 (d16 r35))).2.1 (d8 (d16 r35)).1 (d8 (d16 r35)).2.1 (d2 (d8 (d16 r35))).1 (d2 (d8 (d16 r35))).2.1 (d4 (d8 (d16 r35)))).bind fun (r64 : Qt15) =>
 (g30 x1).bind fun (r75 : LL) =>
 (g29 r75 r35.1 (([] : LL) ++ [[AV.val (.int .i64 r35.2.1), AV.val (.int .i64 r35.2.2.1), AV.val (.int .i64 r35.2.2.2.1), AV.val (.int .i64 r35.2.2.2.2.1), AV.val (.int .i64 r35.2.2.2.2.2.1), AV.val (.int .i64 r35.2.2.2.2.2.2.1), AV.val (.int .i64 r35.2.2.2.2.2.2.2.1), AV.val (.int .i64 r35.2.2.2.2.2.2.2.2.1), AV.val (.int .i64 r35.2.2.2.2.2.2.2.2.2.1), AV.val (.int .i64 r35.2.2.2.2.2.2.2.2.2.2.1), AV.val (.int .i64 r35.2.2.2.2.2.2.2.2.2.2.2.1), AV.val (.int .i64 (d4 (d8 r35)).1), AV.val (.int .i64 (d4 (d8 r35)).2.1), AV.val (.int .i64 (d2 (d4 (d8 r35))).1), AV.val (.int .i64 (d2 (d4 (d8 r35))).2.1), AV.val (.int .i64 (d16 r35).1), AV.val (.int .i64 (d16 r35).2.1), AV.val (.int .i64 r64.1), AV.val (.int .i64 r64.2.1), AV.val (.int .i64 r64.2.2.1), AV.slice false 3 r64.2.2.2.1, AV.val (.int .i64 r64.2.2.2.2.1), AV.val (.int .i64 r64.2.2.2.2.2.1), AV.val (.int .i64 r64.2.2.2.2.2.2.1), AV.val (.int .i64 r64.2.2.2.2.2.2.2.1), AV.val (.int .i64 r64.2.2.2.2.2.2.2.2.1), AV.val (.int .i64 r64.2.2.2.2.2.2.2.2.2.1), AV.val (.bool r64.2.2.2.2.2.2.2.2.2.2)]])).bind fun (r76 : LL) =>
 some (r33.1, r76, 0)) := by kernel_rfl

/- multikernel/multikernelref21.FindRequest -/
noncomputable def F20 : Fn := ⟨20, [4], [(2, [(0, .c (.slice 28)), (3, .box [.int .i64, .int .i64, .int .i64]), (5, .c (.int .i64))])], [], 0, [], [], Tryz.f20, [.c (.slice 28), .agg [.int .i64, .int .i64, .int .i64]], [.c (.int .i64)], []⟩
theorem ok20 : F20.S.Ok Tryz.prog 20 := F20.ok Tryz.func20 (by kernel_rfl) trivial
noncomputable def g20 (x0 : LL) (x1 x2 x3 : Int) : Option (Int) := F20.S.g [.l x0, .i x1, .i x2, .i x3]
noncomputable def g20L0 (k : Nat) (x0 : LL) (x1 x2 x3 x4 : Int) : Option (Int) := F20.lp [0] 0 r0 k [.l x0, .i x1, .i x2, .i x3, .i x4]
theorem g20L0_eq (k : Nat) (x0 : LL) (x1 x2 x3 x4 : Int) : g20L0 (k + 1) x0 x1 x2 x3 x4 =
 (if (cop .lss x4 (List.length x0 : Int)) = true then
 elemK x0 x4 hs3 fun (r5 : Qt7) =>
 if ((cop .eql r5.1 x1) && ((cop .eql r5.2.1 x2) && ((cop .eql r5.2.2.1 x3) && true))) = true then
 some (x4)
 else
 g20L0 k x0 x1 x2 x3 (iop .add .i64 x4 1)
 else
 some ((-1))) := by kernel_rfl
theorem g20_eq (x0 : LL) (x1 x2 x3 : Int) : g20 x0 x1 x2 x3 =
 (g20L0 FUEL x0 x1 x2 x3 0) := by kernel_rfl

/- multikernel/multikernelref10.HasInt -/
noncomputable def F50 : Fn := ⟨18, [4], [(2, [(0, .c (.slice 1)), (1, .c (.int .i64)), (5, .c (.int .i64))])], [], 0, [], [], Tryz.f50, [.c (.slice 1), .c (.int .i64)], [.c (.bool)], []⟩
theorem ok50 : F50.S.Ok Tryz.prog 50 := F50.ok Tryz.func50 (by kernel_rfl) trivial
noncomputable def g50 (x0 : LL) (x1 : Int) : Option (Bool) := F50.S.g [.l x0, .i x1]
noncomputable def g50L0 (k : Nat) (x0 : LL) (x1 x2 : Int) : Option (Bool) := F50.lp [0] 0 r0 k [.l x0, .i x1, .i x2]
theorem g50L0_eq (k : Nat) (x0 : LL) (x1 x2 : Int) : g50L0 (k + 1) x0 x1 x2 =
 (if (cop .lss x2 (List.length x0 : Int)) = true then
 elemK x0 x2 [.int .i64] fun (r3 : Int) =>
 if (cop .eql r3 x1) = true then
 some (true)
 else
 g50L0 k x0 x1 (iop .add .i64 x2 1)
 else
 some (false)) := by kernel_rfl
theorem g50_eq (x0 : LL) (x1 : Int) : g50 x0 x1 =
 (g50L0 FUEL x0 x1 0) := by kernel_rfl

/- multikernel/multikernelref10.CopyIds -/
noncomputable def F49 : Fn := ⟨5, [2], [], [], 0, [], [], Tryz.f49, [.c (.slice 3)], [.c (.own false 25)], []⟩
theorem ok49 : F49.S.Ok Tryz.prog 49 := F49.ok Tryz.func49 (by kernel_rfl) trivial
noncomputable def g49 (x0 : LL) : Option (LL) := F49.S.g [.l x0]
theorem g49_eq (x0 : LL) : g49 x0 =
 (reqK (roomP ([] : LL) x0 24) <|
 some (x0)) := by kernel_rfl

/- multikernel/multikernelref10.CopyNode -/
noncomputable def F31 : Fn := ⟨8, [2], [], [], 0, [], [], Tryz.f31, [.agg hs10], [.agg hs10], [(49, F49.S)]⟩
theorem ok31 : F31.S.Ok Tryz.prog 31 := F31.ok Tryz.func31 (by kernel_rfl) ⟨ok49, trivial⟩
noncomputable def g31 (x0 x1 x2 : Int) (x3 : LL) (x4 x5 x6 x7 x8 x9 : Int) (x10 : Bool) : Option (Qt15) := F31.S.g [.i x0, .i x1, .i x2, .l x3, .i x4, .i x5, .i x6, .i x7, .i x8, .i x9, .b x10]
theorem g31_eq (x0 x1 x2 : Int) (x3 : LL) (x4 x5 x6 x7 x8 x9 : Int) (x10 : Bool) : g31 x0 x1 x2 x3 x4 x5 x6 x7 x8 x9 x10 =
 ((g49 x3).bind fun (r11 : LL) =>
 some (x0, x1, x2, r11, x4, x5, x6, x7, x8, x9, x10)) := by kernel_rfl

/- multikernel/multikernelref10.CopySlots -/
noncomputable def F9 : Fn := ⟨32, [2], [(3, [(0, .c (.slice 15)), (3, .c (.own true 70)), (4, .c (.int .i64))])], [], 0, [2, 3, 30], [], Tryz.f9, [.c (.slice 15)], [.c (.own true 70)], [(31, F31.S)]⟩
theorem ok9 : F9.S.Ok Tryz.prog 9 := F9.ok Tryz.func9 (by kernel_rfl) ⟨ok31, trivial⟩
noncomputable def g9 (x0 : LL) : Option (LL) := F9.S.g [.l x0]
noncomputable def g9L0 (k : Nat) (x0 x1 : LL) (x2 : Int) : Option (LL) := F9.lp [0] 0 r0 k [.l x0, .l x1, .i x2]
theorem g9L0_eq (k : Nat) (x0 x1 : LL) (x2 : Int) : g9L0 (k + 1) x0 x1 x2 =
 (if (cop .lss x2 (List.length x0 : Int)) = true then
 elemK x0 x2 hs8 fun (r3 : Qt11) =>
 (g31 r3.1 r3.2.1 r3.2.2.1 r3.2.2.2.1 r3.2.2.2.2.1 r3.2.2.2.2.2.1 r3.2.2.2.2.2.2.1 r3.2.2.2.2.2.2.2.1 r3.2.2.2.2.2.2.2.2.1 r3.2.2.2.2.2.2.2.2.2.1 r3.2.2.2.2.2.2.2.2.2.2.1).bind fun (r18 : Qt15) =>
 elemK x0 x2 hs8 fun (r29 : Qt11) =>
 elemK x0 x2 hs8 fun (r44 : Qt11) =>
 reqK (roomP x1 (([] : LL) ++ [[AV.val (.int .i64 r18.1), AV.val (.int .i64 r18.2.1), AV.val (.int .i64 r18.2.2.1), AV.slice false 3 r18.2.2.2.1, AV.val (.int .i64 r18.2.2.2.2.1), AV.val (.int .i64 r18.2.2.2.2.2.1), AV.val (.int .i64 r18.2.2.2.2.2.2.1), AV.val (.int .i64 r18.2.2.2.2.2.2.2.1), AV.val (.int .i64 r18.2.2.2.2.2.2.2.2.1), AV.val (.int .i64 r18.2.2.2.2.2.2.2.2.2.1), AV.val (.bool r18.2.2.2.2.2.2.2.2.2.2), AV.val (.int .i64 r29.2.2.2.2.2.2.2.2.2.2.2.1), AV.val (.int .i64 (d4 (d8 r44)).1), AV.val (.int .i64 (d4 (d8 r44)).2.1), AV.val (.int .i64 (d2 (d4 (d8 r44))))]]) 136) <|
 g9L0 k x0 (x1 ++ (([] : LL) ++ [[AV.val (.int .i64 r18.1), AV.val (.int .i64 r18.2.1), AV.val (.int .i64 r18.2.2.1), AV.slice false 3 r18.2.2.2.1, AV.val (.int .i64 r18.2.2.2.2.1), AV.val (.int .i64 r18.2.2.2.2.2.1), AV.val (.int .i64 r18.2.2.2.2.2.2.1), AV.val (.int .i64 r18.2.2.2.2.2.2.2.1), AV.val (.int .i64 r18.2.2.2.2.2.2.2.2.1), AV.val (.int .i64 r18.2.2.2.2.2.2.2.2.2.1), AV.val (.bool r18.2.2.2.2.2.2.2.2.2.2), AV.val (.int .i64 r29.2.2.2.2.2.2.2.2.2.2.2.1), AV.val (.int .i64 (d4 (d8 r44)).1), AV.val (.int .i64 (d4 (d8 r44)).2.1), AV.val (.int .i64 (d2 (d4 (d8 r44))))]])) (iop .add .i64 x2 1)
 else
 some (x1)) := by kernel_rfl
theorem g9_eq (x0 : LL) : g9 x0 =
 (g9L0 FUEL x0 ([] : LL) 0) := by kernel_rfl

/- multikernel/multikernelref10.Busy -/
noncomputable def F51 : Fn := ⟨12, [2], [], [], 0, [], [], Tryz.f51, [.agg hs8], [.c (.bool)], []⟩
theorem ok51 : F51.S.Ok Tryz.prog 51 := F51.ok Tryz.func51 (by kernel_rfl) trivial
noncomputable def g51 (x0 x1 x2 : Int) (x3 : LL) (x4 x5 x6 x7 x8 x9 : Int) (x10 : Bool) (x11 x12 x13 x14 : Int) : Option (Bool) := F51.S.g [.i x0, .i x1, .i x2, .l x3, .i x4, .i x5, .i x6, .i x7, .i x8, .i x9, .b x10, .i x11, .i x12, .i x13, .i x14]
theorem g51_eq (x0 x1 x2 : Int) (x3 : LL) (x4 x5 x6 x7 x8 x9 : Int) (x10 : Bool) (x11 x12 x13 x14 : Int) : g51 x0 x1 x2 x3 x4 x5 x6 x7 x8 x9 x10 x11 x12 x13 x14 =
 (if (cop .neq x11 0) = true then
 some (true)
 else
 some ((!((cop .eql x12 0) && ((cop .eql x13 0) && ((cop .eql x14 0) && true)))))) := by kernel_rfl

/- multikernel/multikernelref10.Reserve -/
noncomputable def F32 : Fn := ⟨72, [6, 7], [(4, [(0, .c (.slice 15)), (1, .c (.slice 1)), (2, .c (.int .i64)), (8, .c (.int .i64))]), (10, [(0, .c (.slice 15)), (1, .c (.slice 1)), (2, .c (.int .i64)), (9, .c (.own true 70)), (10, .c (.int .i64))])], [], 0, [], [(15, [(9, 0)])], Tryz.f32, [.c (.slice 15), .c (.slice 1), .c (.int .i64)], [.c (.own false 70), .c (.int .i64)], [(50, F50.S), (9, F9.S), (51, F51.S)]⟩
theorem ok32 : F32.S.Ok Tryz.prog 32 := F32.ok Tryz.func32 (by kernel_rfl) ⟨ok50, ⟨ok9, ⟨ok51, trivial⟩⟩⟩
noncomputable def g32 (x0 x1 : LL) (x2 : Int) : Option (LL × Int) := F32.S.g [.l x0, .l x1, .i x2]
noncomputable def g32L0 (k : Nat) (x0 x1 : LL) (x2 : Int) (x3 : LL) (x4 : Int) : Option (LL × Int) := F32.lp [1, 1, 0, 1, 2] 0 r0 k [.l x0, .l x1, .i x2, .l x3, .i x4]
theorem g32L0_eq (k : Nat) (x0 x1 : LL) (x2 : Int) (x3 : LL) (x4 : Int) : g32L0 (k + 1) x0 x1 x2 x3 x4 =
 (if (cop .lss x4 (List.length x1 : Int)) = true then
 elemK x1 x4 [.int .i64] fun (r5 : Int) =>
 elemK x0 r5 hs8 fun (r6 : Qt11) =>
 (g51 r6.1 r6.2.1 r6.2.2.1 r6.2.2.2.1 r6.2.2.2.2.1 r6.2.2.2.2.2.1 r6.2.2.2.2.2.2.1 r6.2.2.2.2.2.2.2.1 r6.2.2.2.2.2.2.2.2.1 r6.2.2.2.2.2.2.2.2.2.1 r6.2.2.2.2.2.2.2.2.2.2.1 r6.2.2.2.2.2.2.2.2.2.2.2.1 (d4 (d8 r6)).1 (d4 (d8 r6)).2.1 (d2 (d4 (d8 r6)))).bind fun (r21 : Bool) =>
 if r21 = true then
 some (([] : LL), 4)
 else
 elemK x1 x4 [.int .i64] fun (r22 : Int) =>
 reqK ((0 : Int) ≤ r22) <|
 reqK ((r22 : Int) < (List.length x3 : Int)) <|
 reqK ((0 : Int) ≤ r22) <|
 reqK ((r22 : Int) < (List.length x3 : Int)) <|
 g32L0 k x0 x1 x2 (setElem x3 (Int.toNat r22) 11 [AV.val (.int .i64 x2)]) (iop .add .i64 x4 1)
 else
 some (x3, 0)) := by kernel_rfl
noncomputable def g32L1 (k : Nat) (x0 x1 : LL) (x2 x3 : Int) : Option (LL × Int) := F32.lp [1, 1, 0] 0 r0 k [.l x0, .l x1, .i x2, .i x3]
theorem g32L1_eq (k : Nat) (x0 x1 : LL) (x2 x3 : Int) : g32L1 (k + 1) x0 x1 x2 x3 =
 (if (cop .lss x3 (List.length x1 : Int)) = true then
 elemK x1 x3 [.int .i64] fun (r4 : Int) =>
 if (cop .lss r4 0) = true then
 some (([] : LL), 1)
 else
 elemK x1 x3 [.int .i64] fun (r5 : Int) =>
 if (cop .geq r5 (List.length x0 : Int)) = true then
 some (([] : LL), 1)
 else
 reqK ((0 : Int) ≤ x3) <|
 reqK ((x3 : Int) ≤ (List.length x1 : Int)) <|
 elemK x1 x3 [.int .i64] fun (r6 : Int) =>
 (g50 (List.take (Int.toNat x3) x1) r6).bind fun (r7 : Bool) =>
 if r7 = true then
 some (([] : LL), 1)
 else
 g32L1 k x0 x1 x2 (iop .add .i64 x3 1)
 else
 (g9 x0).bind fun (r4 : LL) =>
 g32L0 FUEL x0 x1 x2 r4 0) := by kernel_rfl
theorem g32_eq (x0 x1 : LL) (x2 : Int) : g32 x0 x1 x2 =
 (if (cop .lss x2 1) = true then
 some (([] : LL), 1)
 else
 if (cop .gtr x2 1073741824) = true then
 some (([] : LL), 1)
 else
 g32L1 FUEL x0 x1 x2 0) := by kernel_rfl

/- multikernel/multikernelref10.Less -/
noncomputable def F33 : Fn := ⟨30, [4], [], [], 0, [], [], Tryz.f33, [.agg [.int .i64, .int .i64, .int .i64], .agg [.int .i64, .int .i64, .int .i64]], [.c (.bool)], []⟩
theorem ok33 : F33.S.Ok Tryz.prog 33 := F33.ok Tryz.func33 (by kernel_rfl) trivial
noncomputable def g33 (x0 x1 x2 x3 x4 x5 : Int) : Option (Bool) := F33.S.g [.i x0, .i x1, .i x2, .i x3, .i x4, .i x5]
theorem g33_eq (x0 x1 x2 x3 x4 x5 : Int) : g33 x0 x1 x2 x3 x4 x5 =
 (if (cop .neq x0 x3) = true then
 some ((cop .lss x0 x3))
 else
 if (cop .neq x1 x4) = true then
 some ((cop .lss x1 x4))
 else
 some ((cop .lss x2 x5))) := by kernel_rfl

/- multikernel/multikernelref21.CopyRequest -/
noncomputable def F11 : Fn := ⟨8, [2], [], [], 0, [], [], Tryz.f11, [.agg hs3], [.agg hs3], [(31, F31.S)]⟩
theorem ok11 : F11.S.Ok Tryz.prog 11 := F11.ok Tryz.func11 (by kernel_rfl) ⟨ok31, trivial⟩
noncomputable def g11 (x0 x1 x2 x3 x4 x5 x6 x7 x8 x9 x10 x11 x12 x13 x14 x15 x16 x17 x18 x19 : Int) (x20 : LL) (x21 x22 x23 x24 x25 x26 : Int) (x27 : Bool) : Option (Qt7) := F11.S.g [.i x0, .i x1, .i x2, .i x3, .i x4, .i x5, .i x6, .i x7, .i x8, .i x9, .i x10, .i x11, .i x12, .i x13, .i x14, .i x15, .i x16, .i x17, .i x18, .i x19, .l x20, .i x21, .i x22, .i x23, .i x24, .i x25, .i x26, .b x27]
theorem g11_eq (x0 x1 x2 x3 x4 x5 x6 x7 x8 x9 x10 x11 x12 x13 x14 x15 x16 x17 x18 x19 : Int) (x20 : LL) (x21 x22 x23 x24 x25 x26 : Int) (x27 : Bool) : g11 x0 x1 x2 x3 x4 x5 x6 x7 x8 x9 x10 x11 x12 x13 x14 x15 x16 x17 x18 x19 x20 x21 x22 x23 x24 x25 x26 x27 =
 ((g31 x17 x18 x19 x20 x21 x22 x23 x24 x25 x26 x27).bind fun (r28 : Qt15) =>
 some (x0, x1, x2, x3, x4, x5, x6, x7, x8, x9, x10, x11, x12, x13, x14, x15, x16, r28.1, r28.2.1, r28.2.2.1, r28.2.2.2.1, r28.2.2.2.2.1, r28.2.2.2.2.2.1, r28.2.2.2.2.2.2.1, r28.2.2.2.2.2.2.2.1, r28.2.2.2.2.2.2.2.2.1, r28.2.2.2.2.2.2.2.2.2.1, r28.2.2.2.2.2.2.2.2.2.2)) := by kernel_rfl

/- multikernel/multikernelref21.CopyRequests -/
noncomputable def F10 : Fn := ⟨20, [2], [(3, [(0, .c (.slice 28)), (3, .c (.own false 34)), (4, .c (.int .i64))])], [], 0, [], [], Tryz.f10, [.c (.slice 28)], [.c (.own false 34)], [(11, F11.S)]⟩
theorem ok10 : F10.S.Ok Tryz.prog 10 := F10.ok Tryz.func10 (by kernel_rfl) ⟨ok11, trivial⟩
noncomputable def g10 (x0 : LL) : Option (LL) := F10.S.g [.l x0]
noncomputable def g10L0 (k : Nat) (x0 x1 : LL) (x2 : Int) : Option (LL) := F10.lp [0] 0 r0 k [.l x0, .l x1, .i x2]
theorem g10L0_eq (k : Nat) (x0 x1 : LL) (x2 : Int) : g10L0 (k + 1) x0 x1 x2 =
 (if (cop .lss x2 (List.length x0 : Int)) = true then
 elemK x0 x2 hs3 fun (r3 : Qt7) =>
 (g11 r3.1 r3.2.1 r3.2.2.1 r3.2.2.2.1 r3.2.2.2.2.1 r3.2.2.2.2.2.1 r3.2.2.2.2.2.2.1 r3.2.2.2.2.2.2.2.1 r3.2.2.2.2.2.2.2.2.1 r3.2.2.2.2.2.2.2.2.2.1 r3.2.2.2.2.2.2.2.2.2.2.1 r3.2.2.2.2.2.2.2.2.2.2.2.1 (d4 (d8 r3)).1 (d4 (d8 r3)).2.1 (d2 (d4 (d8 r3))).1 (d2 (d4 (d8 r3))).2.1 (d16 r3).1 (d16 r3).2.1 (d2 (d16 r3)).1 (d2 (d16 r3)).2.1 (d4 (d16 r3)).1 (d4 (d16 r3)).2.1 (d2 (d4 (d16 r3))).1 (d2 (d4 (d16 r3))).2.1 (d8 (d16 r3)).1 (d8 (d16 r3)).2.1 (d2 (d8 (d16 r3))).1 (d2 (d8 (d16 r3))).2).bind fun (r31 : Qt7) =>
 reqK (roomP x1 (([] : LL) ++ [[AV.val (.int .i64 r31.1), AV.val (.int .i64 r31.2.1), AV.val (.int .i64 r31.2.2.1), AV.val (.int .i64 r31.2.2.2.1), AV.val (.int .i64 r31.2.2.2.2.1), AV.val (.int .i64 r31.2.2.2.2.2.1), AV.val (.int .i64 r31.2.2.2.2.2.2.1), AV.val (.int .i64 r31.2.2.2.2.2.2.2.1), AV.val (.int .i64 r31.2.2.2.2.2.2.2.2.1), AV.val (.int .i64 r31.2.2.2.2.2.2.2.2.2.1), AV.val (.int .i64 r31.2.2.2.2.2.2.2.2.2.2.1), AV.val (.int .i64 r31.2.2.2.2.2.2.2.2.2.2.2.1), AV.val (.int .i64 (d4 (d8 r31)).1), AV.val (.int .i64 (d4 (d8 r31)).2.1), AV.val (.int .i64 (d2 (d4 (d8 r31))).1), AV.val (.int .i64 (d2 (d4 (d8 r31))).2.1), AV.val (.int .i64 (d16 r31).1), AV.val (.int .i64 (d16 r31).2.1), AV.val (.int .i64 (d2 (d16 r31)).1), AV.val (.int .i64 (d2 (d16 r31)).2.1), AV.slice false 3 (d4 (d16 r31)).1, AV.val (.int .i64 (d4 (d16 r31)).2.1), AV.val (.int .i64 (d2 (d4 (d16 r31))).1), AV.val (.int .i64 (d2 (d4 (d16 r31))).2.1), AV.val (.int .i64 (d8 (d16 r31)).1), AV.val (.int .i64 (d8 (d16 r31)).2.1), AV.val (.int .i64 (d2 (d8 (d16 r31))).1), AV.val (.bool (d2 (d8 (d16 r31))).2)]]) 240) <|
 g10L0 k x0 (x1 ++ (([] : LL) ++ [[AV.val (.int .i64 r31.1), AV.val (.int .i64 r31.2.1), AV.val (.int .i64 r31.2.2.1), AV.val (.int .i64 r31.2.2.2.1), AV.val (.int .i64 r31.2.2.2.2.1), AV.val (.int .i64 r31.2.2.2.2.2.1), AV.val (.int .i64 r31.2.2.2.2.2.2.1), AV.val (.int .i64 r31.2.2.2.2.2.2.2.1), AV.val (.int .i64 r31.2.2.2.2.2.2.2.2.1), AV.val (.int .i64 r31.2.2.2.2.2.2.2.2.2.1), AV.val (.int .i64 r31.2.2.2.2.2.2.2.2.2.2.1), AV.val (.int .i64 r31.2.2.2.2.2.2.2.2.2.2.2.1), AV.val (.int .i64 (d4 (d8 r31)).1), AV.val (.int .i64 (d4 (d8 r31)).2.1), AV.val (.int .i64 (d2 (d4 (d8 r31))).1), AV.val (.int .i64 (d2 (d4 (d8 r31))).2.1), AV.val (.int .i64 (d16 r31).1), AV.val (.int .i64 (d16 r31).2.1), AV.val (.int .i64 (d2 (d16 r31)).1), AV.val (.int .i64 (d2 (d16 r31)).2.1), AV.slice false 3 (d4 (d16 r31)).1, AV.val (.int .i64 (d4 (d16 r31)).2.1), AV.val (.int .i64 (d2 (d4 (d16 r31))).1), AV.val (.int .i64 (d2 (d4 (d16 r31))).2.1), AV.val (.int .i64 (d8 (d16 r31)).1), AV.val (.int .i64 (d8 (d16 r31)).2.1), AV.val (.int .i64 (d2 (d8 (d16 r31))).1), AV.val (.bool (d2 (d8 (d16 r31))).2)]])) (iop .add .i64 x2 1)
 else
 some (x1)) := by kernel_rfl
theorem g10_eq (x0 : LL) : g10 x0 =
 (g10L0 FUEL x0 ([] : LL) 0) := by kernel_rfl

/- multikernel/multikernelref21.Begin -/
noncomputable def F12 : Fn := ⟨64, [8, 9, 10], [(7, [(1, .c (.slice 28)), (6, .box hs3), (11, .c (.slice 15)), (13, .c (.int .i64))])], [], 0, [], [], Tryz.f12, [.c (.slice 15), .c (.slice 28), .agg hs3, .c (.slice 1)], [.c (.slice 15), .c (.slice 28), .c (.int .i64)], [(20, F20.S), (32, F32.S), (33, F33.S), (10, F10.S), (11, F11.S)]⟩
theorem ok12 : F12.S.Ok Tryz.prog 12 := F12.ok Tryz.func12 (by kernel_rfl) ⟨ok20, ⟨ok32, ⟨ok33, ⟨ok10, ⟨ok11, trivial⟩⟩⟩⟩⟩
noncomputable def g12 (x0 x1 : LL) (x2 x3 x4 x5 x6 x7 x8 x9 x10 x11 x12 x13 x14 x15 x16 x17 x18 x19 x20 x21 : Int) (x22 : LL) (x23 x24 x25 x26 x27 x28 : Int) (x29 : Bool) (x30 : LL) : Option (LL × LL × Int) := F12.S.g [.l x0, .l x1, .i x2, .i x3, .i x4, .i x5, .i x6, .i x7, .i x8, .i x9, .i x10, .i x11, .i x12, .i x13, .i x14, .i x15, .i x16, .i x17, .i x18, .i x19, .i x20, .i x21, .l x22, .i x23, .i x24, .i x25, .i x26, .i x27, .i x28, .b x29, .l x30]
noncomputable def g12L0 (k : Nat) (x0 : LL) (x1 x2 x3 x4 x5 x6 x7 x8 x9 x10 x11 x12 x13 x14 x15 x16 x17 x18 x19 x20 : Int) (x21 : LL) (x22 x23 x24 x25 x26 x27 : Int) (x28 : Bool) (x29 : LL) (x30 : Int) : Option (LL × LL × Int) := F12.lp [0, 1, 0, 1, 0] 0 r0 k [.l x0, .i x1, .i x2, .i x3, .i x4, .i x5, .i x6, .i x7, .i x8, .i x9, .i x10, .i x11, .i x12, .i x13, .i x14, .i x15, .i x16, .i x17, .i x18, .i x19, .i x20, .l x21, .i x22, .i x23, .i x24, .i x25, .i x26, .i x27, .b x28, .l x29, .i x30]
theorem g12L0_eq (k : Nat) (x0 : LL) (x1 x2 x3 x4 x5 x6 x7 x8 x9 x10 x11 x12 x13 x14 x15 x16 x17 x18 x19 x20 : Int) (x21 : LL) (x22 x23 x24 x25 x26 x27 : Int) (x28 : Bool) (x29 : LL) (x30 : Int) : g12L0 (k + 1) x0 x1 x2 x3 x4 x5 x6 x7 x8 x9 x10 x11 x12 x13 x14 x15 x16 x17 x18 x19 x20 x21 x22 x23 x24 x25 x26 x27 x28 x29 x30 =
 (if (cop .lss x30 (List.length x0 : Int)) = true then
 elemK x0 x30 hs3 fun (r31 : Qt7) =>
 (g33 x1 x2 x3 r31.1 r31.2.1 r31.2.2.1).bind fun (r59 : Bool) =>
 if (!r59) = true then
 g12L0 k x0 x1 x2 x3 x4 x5 x6 x7 x8 x9 x10 x11 x12 x13 x14 x15 x16 x17 x18 x19 x20 x21 x22 x23 x24 x25 x26 x27 x28 x29 (iop .add .i64 x30 1)
 else
 reqK ((0 : Int) ≤ x30) <|
 reqK ((x30 : Int) ≤ (List.length x0 : Int)) <|
 (g10 (List.take (Int.toNat x30) x0)).bind fun (r60 : LL) =>
 (g11 x1 x2 x3 x4 x5 x6 x7 x8 x9 x10 x11 x12 x13 x14 x15 x16 x17 x18 x19 x20 x21 x22 x23 x24 x25 x26 x27 x28).bind fun (r61 : Qt7) =>
 reqK (roomP r60 (([] : LL) ++ [[AV.val (.int .i64 r61.1), AV.val (.int .i64 r61.2.1), AV.val (.int .i64 r61.2.2.1), AV.val (.int .i64 r61.2.2.2.1), AV.val (.int .i64 r61.2.2.2.2.1), AV.val (.int .i64 r61.2.2.2.2.2.1), AV.val (.int .i64 r61.2.2.2.2.2.2.1), AV.val (.int .i64 r61.2.2.2.2.2.2.2.1), AV.val (.int .i64 r61.2.2.2.2.2.2.2.2.1), AV.val (.int .i64 r61.2.2.2.2.2.2.2.2.2.1), AV.val (.int .i64 r61.2.2.2.2.2.2.2.2.2.2.1), AV.val (.int .i64 r61.2.2.2.2.2.2.2.2.2.2.2.1), AV.val (.int .i64 (d4 (d8 r61)).1), AV.val (.int .i64 (d4 (d8 r61)).2.1), AV.val (.int .i64 (d2 (d4 (d8 r61))).1), AV.val (.int .i64 (d2 (d4 (d8 r61))).2.1), AV.val (.int .i64 (d16 r61).1), AV.val (.int .i64 (d16 r61).2.1), AV.val (.int .i64 (d2 (d16 r61)).1), AV.val (.int .i64 (d2 (d16 r61)).2.1), AV.slice false 3 (d4 (d16 r61)).1, AV.val (.int .i64 (d4 (d16 r61)).2.1), AV.val (.int .i64 (d2 (d4 (d16 r61))).1), AV.val (.int .i64 (d2 (d4 (d16 r61))).2.1), AV.val (.int .i64 (d8 (d16 r61)).1), AV.val (.int .i64 (d8 (d16 r61)).2.1), AV.val (.int .i64 (d2 (d8 (d16 r61))).1), AV.val (.bool (d2 (d8 (d16 r61))).2)]]) 240) <|
 reqK ((0 : Int) ≤ x30) <|
 reqK ((x30 : Int) ≤ (List.length x0 : Int)) <|
 (g10 (List.drop (Int.toNat x30) x0)).bind fun (r89 : LL) =>
 reqK (roomP (r60 ++ (([] : LL) ++ [[AV.val (.int .i64 r61.1), AV.val (.int .i64 r61.2.1), AV.val (.int .i64 r61.2.2.1), AV.val (.int .i64 r61.2.2.2.1), AV.val (.int .i64 r61.2.2.2.2.1), AV.val (.int .i64 r61.2.2.2.2.2.1), AV.val (.int .i64 r61.2.2.2.2.2.2.1), AV.val (.int .i64 r61.2.2.2.2.2.2.2.1), AV.val (.int .i64 r61.2.2.2.2.2.2.2.2.1), AV.val (.int .i64 r61.2.2.2.2.2.2.2.2.2.1), AV.val (.int .i64 r61.2.2.2.2.2.2.2.2.2.2.1), AV.val (.int .i64 r61.2.2.2.2.2.2.2.2.2.2.2.1), AV.val (.int .i64 (d4 (d8 r61)).1), AV.val (.int .i64 (d4 (d8 r61)).2.1), AV.val (.int .i64 (d2 (d4 (d8 r61))).1), AV.val (.int .i64 (d2 (d4 (d8 r61))).2.1), AV.val (.int .i64 (d16 r61).1), AV.val (.int .i64 (d16 r61).2.1), AV.val (.int .i64 (d2 (d16 r61)).1), AV.val (.int .i64 (d2 (d16 r61)).2.1), AV.slice false 3 (d4 (d16 r61)).1, AV.val (.int .i64 (d4 (d16 r61)).2.1), AV.val (.int .i64 (d2 (d4 (d16 r61))).1), AV.val (.int .i64 (d2 (d4 (d16 r61))).2.1), AV.val (.int .i64 (d8 (d16 r61)).1), AV.val (.int .i64 (d8 (d16 r61)).2.1), AV.val (.int .i64 (d2 (d8 (d16 r61))).1), AV.val (.bool (d2 (d8 (d16 r61))).2)]])) r89 240) <|
 some (x29, ((r60 ++ (([] : LL) ++ [[AV.val (.int .i64 r61.1), AV.val (.int .i64 r61.2.1), AV.val (.int .i64 r61.2.2.1), AV.val (.int .i64 r61.2.2.2.1), AV.val (.int .i64 r61.2.2.2.2.1), AV.val (.int .i64 r61.2.2.2.2.2.1), AV.val (.int .i64 r61.2.2.2.2.2.2.1), AV.val (.int .i64 r61.2.2.2.2.2.2.2.1), AV.val (.int .i64 r61.2.2.2.2.2.2.2.2.1), AV.val (.int .i64 r61.2.2.2.2.2.2.2.2.2.1), AV.val (.int .i64 r61.2.2.2.2.2.2.2.2.2.2.1), AV.val (.int .i64 r61.2.2.2.2.2.2.2.2.2.2.2.1), AV.val (.int .i64 (d4 (d8 r61)).1), AV.val (.int .i64 (d4 (d8 r61)).2.1), AV.val (.int .i64 (d2 (d4 (d8 r61))).1), AV.val (.int .i64 (d2 (d4 (d8 r61))).2.1), AV.val (.int .i64 (d16 r61).1), AV.val (.int .i64 (d16 r61).2.1), AV.val (.int .i64 (d2 (d16 r61)).1), AV.val (.int .i64 (d2 (d16 r61)).2.1), AV.slice false 3 (d4 (d16 r61)).1, AV.val (.int .i64 (d4 (d16 r61)).2.1), AV.val (.int .i64 (d2 (d4 (d16 r61))).1), AV.val (.int .i64 (d2 (d4 (d16 r61))).2.1), AV.val (.int .i64 (d8 (d16 r61)).1), AV.val (.int .i64 (d8 (d16 r61)).2.1), AV.val (.int .i64 (d2 (d8 (d16 r61))).1), AV.val (.bool (d2 (d8 (d16 r61))).2)]])) ++ r89), 0)
 else
 reqK ((0 : Int) ≤ x30) <|
 reqK ((x30 : Int) ≤ (List.length x0 : Int)) <|
 (g10 (List.take (Int.toNat x30) x0)).bind fun (r31 : LL) =>
 (g11 x1 x2 x3 x4 x5 x6 x7 x8 x9 x10 x11 x12 x13 x14 x15 x16 x17 x18 x19 x20 x21 x22 x23 x24 x25 x26 x27 x28).bind fun (r32 : Qt7) =>
 reqK (roomP r31 (([] : LL) ++ [[AV.val (.int .i64 r32.1), AV.val (.int .i64 r32.2.1), AV.val (.int .i64 r32.2.2.1), AV.val (.int .i64 r32.2.2.2.1), AV.val (.int .i64 r32.2.2.2.2.1), AV.val (.int .i64 r32.2.2.2.2.2.1), AV.val (.int .i64 r32.2.2.2.2.2.2.1), AV.val (.int .i64 r32.2.2.2.2.2.2.2.1), AV.val (.int .i64 r32.2.2.2.2.2.2.2.2.1), AV.val (.int .i64 r32.2.2.2.2.2.2.2.2.2.1), AV.val (.int .i64 r32.2.2.2.2.2.2.2.2.2.2.1), AV.val (.int .i64 r32.2.2.2.2.2.2.2.2.2.2.2.1), AV.val (.int .i64 (d4 (d8 r32)).1), AV.val (.int .i64 (d4 (d8 r32)).2.1), AV.val (.int .i64 (d2 (d4 (d8 r32))).1), AV.val (.int .i64 (d2 (d4 (d8 r32))).2.1), AV.val (.int .i64 (d16 r32).1), AV.val (.int .i64 (d16 r32).2.1), AV.val (.int .i64 (d2 (d16 r32)).1), AV.val (.int .i64 (d2 (d16 r32)).2.1), AV.slice false 3 (d4 (d16 r32)).1, AV.val (.int .i64 (d4 (d16 r32)).2.1), AV.val (.int .i64 (d2 (d4 (d16 r32))).1), AV.val (.int .i64 (d2 (d4 (d16 r32))).2.1), AV.val (.int .i64 (d8 (d16 r32)).1), AV.val (.int .i64 (d8 (d16 r32)).2.1), AV.val (.int .i64 (d2 (d8 (d16 r32))).1), AV.val (.bool (d2 (d8 (d16 r32))).2)]]) 240) <|
 reqK ((0 : Int) ≤ x30) <|
 reqK ((x30 : Int) ≤ (List.length x0 : Int)) <|
 (g10 (List.drop (Int.toNat x30) x0)).bind fun (r60 : LL) =>
 reqK (roomP (r31 ++ (([] : LL) ++ [[AV.val (.int .i64 r32.1), AV.val (.int .i64 r32.2.1), AV.val (.int .i64 r32.2.2.1), AV.val (.int .i64 r32.2.2.2.1), AV.val (.int .i64 r32.2.2.2.2.1), AV.val (.int .i64 r32.2.2.2.2.2.1), AV.val (.int .i64 r32.2.2.2.2.2.2.1), AV.val (.int .i64 r32.2.2.2.2.2.2.2.1), AV.val (.int .i64 r32.2.2.2.2.2.2.2.2.1), AV.val (.int .i64 r32.2.2.2.2.2.2.2.2.2.1), AV.val (.int .i64 r32.2.2.2.2.2.2.2.2.2.2.1), AV.val (.int .i64 r32.2.2.2.2.2.2.2.2.2.2.2.1), AV.val (.int .i64 (d4 (d8 r32)).1), AV.val (.int .i64 (d4 (d8 r32)).2.1), AV.val (.int .i64 (d2 (d4 (d8 r32))).1), AV.val (.int .i64 (d2 (d4 (d8 r32))).2.1), AV.val (.int .i64 (d16 r32).1), AV.val (.int .i64 (d16 r32).2.1), AV.val (.int .i64 (d2 (d16 r32)).1), AV.val (.int .i64 (d2 (d16 r32)).2.1), AV.slice false 3 (d4 (d16 r32)).1, AV.val (.int .i64 (d4 (d16 r32)).2.1), AV.val (.int .i64 (d2 (d4 (d16 r32))).1), AV.val (.int .i64 (d2 (d4 (d16 r32))).2.1), AV.val (.int .i64 (d8 (d16 r32)).1), AV.val (.int .i64 (d8 (d16 r32)).2.1), AV.val (.int .i64 (d2 (d8 (d16 r32))).1), AV.val (.bool (d2 (d8 (d16 r32))).2)]])) r60 240) <|
 some (x29, ((r31 ++ (([] : LL) ++ [[AV.val (.int .i64 r32.1), AV.val (.int .i64 r32.2.1), AV.val (.int .i64 r32.2.2.1), AV.val (.int .i64 r32.2.2.2.1), AV.val (.int .i64 r32.2.2.2.2.1), AV.val (.int .i64 r32.2.2.2.2.2.1), AV.val (.int .i64 r32.2.2.2.2.2.2.1), AV.val (.int .i64 r32.2.2.2.2.2.2.2.1), AV.val (.int .i64 r32.2.2.2.2.2.2.2.2.1), AV.val (.int .i64 r32.2.2.2.2.2.2.2.2.2.1), AV.val (.int .i64 r32.2.2.2.2.2.2.2.2.2.2.1), AV.val (.int .i64 r32.2.2.2.2.2.2.2.2.2.2.2.1), AV.val (.int .i64 (d4 (d8 r32)).1), AV.val (.int .i64 (d4 (d8 r32)).2.1), AV.val (.int .i64 (d2 (d4 (d8 r32))).1), AV.val (.int .i64 (d2 (d4 (d8 r32))).2.1), AV.val (.int .i64 (d16 r32).1), AV.val (.int .i64 (d16 r32).2.1), AV.val (.int .i64 (d2 (d16 r32)).1), AV.val (.int .i64 (d2 (d16 r32)).2.1), AV.slice false 3 (d4 (d16 r32)).1, AV.val (.int .i64 (d4 (d16 r32)).2.1), AV.val (.int .i64 (d2 (d4 (d16 r32))).1), AV.val (.int .i64 (d2 (d4 (d16 r32))).2.1), AV.val (.int .i64 (d8 (d16 r32)).1), AV.val (.int .i64 (d8 (d16 r32)).2.1), AV.val (.int .i64 (d2 (d8 (d16 r32))).1), AV.val (.bool (d2 (d8 (d16 r32))).2)]])) ++ r60), 0)) := by kernel_rfl
theorem g12_eq (x0 x1 : LL) (x2 x3 x4 x5 x6 x7 x8 x9 x10 x11 x12 x13 x14 x15 x16 x17 x18 x19 x20 x21 : Int) (x22 : LL) (x23 x24 x25 x26 x27 x28 : Int) (x29 : Bool) (x30 : LL) : g12 x0 x1 x2 x3 x4 x5 x6 x7 x8 x9 x10 x11 x12 x13 x14 x15 x16 x17 x18 x19 x20 x21 x22 x23 x24 x25 x26 x27 x28 x29 x30 =
 ((g20 x1 x2 x3 x4).bind fun (r31 : Int) =>
 if (cop .geq r31 0) = true then
 some (([] : LL), ([] : LL), 1)
 else
 (g32 x0 x30 x3).bind fun (r32 : LL × Int) =>
 if (cop .neq r32.2 0) = true then
 some (([] : LL), ([] : LL), r32.2)
 else
 g12L0 FUEL x1 x2 x3 x4 x5 x6 x7 x8 x9 x10 x11 x12 x13 x14 x15 x16 x17 x18 x19 x20 x21 x22 x23 x24 x25 x26 x27 x28 x29 r32.1 0) := by kernel_rfl

/- multikernel/multikernelref10.SameIds -/
noncomputable def F52 : Fn := ⟨26, [4], [(4, [(0, .c (.slice 3)), (1, .c (.slice 3)), (5, .c (.int .i64))])], [], 0, [], [], Tryz.f52, [.c (.slice 3), .c (.slice 3)], [.c (.bool)], []⟩
theorem ok52 : F52.S.Ok Tryz.prog 52 := F52.ok Tryz.func52 (by kernel_rfl) trivial
noncomputable def g52 (x0 x1 : LL) : Option (Bool) := F52.S.g [.l x0, .l x1]
noncomputable def g52L0 (k : Nat) (x0 x1 : LL) (x2 : Int) : Option (Bool) := F52.lp [1, 0] 0 r0 k [.l x0, .l x1, .i x2]
theorem g52L0_eq (k : Nat) (x0 x1 : LL) (x2 : Int) : g52L0 (k + 1) x0 x1 x2 =
 (if (cop .lss x2 (List.length x0 : Int)) = true then
 elemK x0 x2 [.int .i64, .int .i64, .int .i64] fun (r3 : Int × Int × Int) =>
 elemK x1 x2 [.int .i64, .int .i64, .int .i64] fun (r6 : Int × Int × Int) =>
 if (!((cop .eql r3.1 r6.1) && ((cop .eql r3.2.1 r6.2.1) && ((cop .eql r3.2.2 r6.2.2) && true)))) = true then
 some (false)
 else
 g52L0 k x0 x1 (iop .add .i64 x2 1)
 else
 some (true)) := by kernel_rfl
theorem g52_eq (x0 x1 : LL) : g52 x0 x1 =
 (if (cop .neq (List.length x0 : Int) (List.length x1 : Int)) = true then
 some (false)
 else
 g52L0 FUEL x0 x1 0) := by kernel_rfl

/- multikernel/multikernelref10.SameNode -/
noncomputable def F34 : Fn := ⟨24, [4], [], [], 0, [], [], Tryz.f34, [.agg hs10, .agg hs10], [.c (.bool)], [(52, F52.S)]⟩
theorem ok34 : F34.S.Ok Tryz.prog 34 := F34.ok Tryz.func34 (by kernel_rfl) ⟨ok52, trivial⟩
noncomputable def g34 (x0 x1 x2 : Int) (x3 : LL) (x4 x5 x6 x7 x8 x9 : Int) (x10 : Bool) (x11 x12 x13 : Int) (x14 : LL) (x15 x16 x17 x18 x19 x20 : Int) (x21 : Bool) : Option (Bool) := F34.S.g [.i x0, .i x1, .i x2, .l x3, .i x4, .i x5, .i x6, .i x7, .i x8, .i x9, .b x10, .i x11, .i x12, .i x13, .l x14, .i x15, .i x16, .i x17, .i x18, .i x19, .i x20, .b x21]
theorem g34_eq (x0 x1 x2 : Int) (x3 : LL) (x4 x5 x6 x7 x8 x9 : Int) (x10 : Bool) (x11 x12 x13 : Int) (x14 : LL) (x15 x16 x17 x18 x19 x20 : Int) (x21 : Bool) : g34 x0 x1 x2 x3 x4 x5 x6 x7 x8 x9 x10 x11 x12 x13 x14 x15 x16 x17 x18 x19 x20 x21 =
 (if ((cop .eql x0 x11) && ((cop .eql x1 x12) && ((cop .eql x2 x13) && true))) = true then
 if ((cop .eql x4 x15) && ((cop .eql x5 x16) && ((cop .eql x6 x17) && ((cop .eql x7 x18) && ((cop .eql x8 x19) && ((cop .eql x9 x20) && ((x10 == x21) && true))))))) = true then
 (g52 x3 x14).bind fun (r22 : Bool) =>
 some (r22)
 else
 some (false)
 else
 some (false)) := by kernel_rfl

/- multikernel/multikernelref10.SameSlots -/
noncomputable def F13 : Fn := ⟨55, [4], [(4, [(0, .c (.slice 15)), (1, .c (.slice 15)), (5, .c (.int .i64))])], [], 0, [], [], Tryz.f13, [.c (.slice 15), .c (.slice 15)], [.c (.bool)], [(34, F34.S)]⟩
theorem ok13 : F13.S.Ok Tryz.prog 13 := F13.ok Tryz.func13 (by kernel_rfl) ⟨ok34, trivial⟩
noncomputable def g13 (x0 x1 : LL) : Option (Bool) := F13.S.g [.l x0, .l x1]
noncomputable def g13L0 (k : Nat) (x0 x1 : LL) (x2 : Int) : Option (Bool) := F13.lp [1, 0] 0 r0 k [.l x0, .l x1, .i x2]
theorem g13L0_eq (k : Nat) (x0 x1 : LL) (x2 : Int) : g13L0 (k + 1) x0 x1 x2 =
 (if (cop .lss x2 (List.length x0 : Int)) = true then
 elemK x0 x2 hs8 fun (r3 : Qt11) =>
 elemK x1 x2 hs8 fun (r18 : Qt11) =>
 if (cop .neq r3.2.2.2.2.2.2.2.2.2.2.2.1 r18.2.2.2.2.2.2.2.2.2.2.2.1) = true then
 some (false)
 else
 elemK x0 x2 hs8 fun (r33 : Qt11) =>
 elemK x1 x2 hs8 fun (r48 : Qt11) =>
 if (!((cop .eql (d4 (d8 r33)).1 (d4 (d8 r48)).1) && ((cop .eql (d4 (d8 r33)).2.1 (d4 (d8 r48)).2.1) && ((cop .eql (d2 (d4 (d8 r33))) (d2 (d4 (d8 r48)))) && true)))) = true then
 some (false)
 else
 elemK x0 x2 hs8 fun (r63 : Qt11) =>
 elemK x1 x2 hs8 fun (r78 : Qt11) =>
 (g34 r63.1 r63.2.1 r63.2.2.1 r63.2.2.2.1 r63.2.2.2.2.1 r63.2.2.2.2.2.1 r63.2.2.2.2.2.2.1 r63.2.2.2.2.2.2.2.1 r63.2.2.2.2.2.2.2.2.1 r63.2.2.2.2.2.2.2.2.2.1 r63.2.2.2.2.2.2.2.2.2.2.1 r78.1 r78.2.1 r78.2.2.1 r78.2.2.2.1 r78.2.2.2.2.1 r78.2.2.2.2.2.1 r78.2.2.2.2.2.2.1 r78.2.2.2.2.2.2.2.1 r78.2.2.2.2.2.2.2.2.1 r78.2.2.2.2.2.2.2.2.2.1 r78.2.2.2.2.2.2.2.2.2.2.1).bind fun (r93 : Bool) =>
 if (!r93) = true then
 some (false)
 else
 g13L0 k x0 x1 (iop .add .i64 x2 1)
 else
 some (true)) := by kernel_rfl
theorem g13_eq (x0 x1 : LL) : g13 x0 x1 =
 (if (cop .neq (List.length x0 : Int) (List.length x1 : Int)) = true then
 some (false)
 else
 g13L0 FUEL x0 x1 0) := by kernel_rfl

/- multikernel/multikernelref18.SameRequest -/
noncomputable def F21 : Fn := ⟨38, [4], [], [], 0, [], [], Tryz.f21, [.agg hs3, .agg hs3], [.c (.bool)], [(34, F34.S)]⟩
theorem ok21 : F21.S.Ok Tryz.prog 21 := F21.ok Tryz.func21 (by kernel_rfl) ⟨ok34, trivial⟩
noncomputable def g21 (x0 x1 x2 x3 x4 x5 x6 x7 x8 x9 x10 x11 x12 x13 x14 x15 x16 x17 x18 x19 : Int) (x20 : LL) (x21 x22 x23 x24 x25 x26 : Int) (x27 : Bool) (x28 x29 x30 x31 x32 x33 x34 x35 x36 x37 x38 x39 x40 x41 x42 x43 x44 x45 x46 x47 : Int) (x48 : LL) (x49 x50 x51 x52 x53 x54 : Int) (x55 : Bool) : Option (Bool) := F21.S.g [.i x0, .i x1, .i x2, .i x3, .i x4, .i x5, .i x6, .i x7, .i x8, .i x9, .i x10, .i x11, .i x12, .i x13, .i x14, .i x15, .i x16, .i x17, .i x18, .i x19, .l x20, .i x21, .i x22, .i x23, .i x24, .i x25, .i x26, .b x27, .i x28, .i x29, .i x30, .i x31, .i x32, .i x33, .i x34, .i x35, .i x36, .i x37, .i x38, .i x39, .i x40, .i x41, .i x42, .i x43, .i x44, .i x45, .i x46, .i x47, .l x48, .i x49, .i x50, .i x51, .i x52, .i x53, .i x54, .b x55]
theorem g21_eq (x0 x1 x2 x3 x4 x5 x6 x7 x8 x9 x10 x11 x12 x13 x14 x15 x16 x17 x18 x19 : Int) (x20 : LL) (x21 x22 x23 x24 x25 x26 : Int) (x27 : Bool) (x28 x29 x30 x31 x32 x33 x34 x35 x36 x37 x38 x39 x40 x41 x42 x43 x44 x45 x46 x47 : Int) (x48 : LL) (x49 x50 x51 x52 x53 x54 : Int) (x55 : Bool) : g21 x0 x1 x2 x3 x4 x5 x6 x7 x8 x9 x10 x11 x12 x13 x14 x15 x16 x17 x18 x19 x20 x21 x22 x23 x24 x25 x26 x27 x28 x29 x30 x31 x32 x33 x34 x35 x36 x37 x38 x39 x40 x41 x42 x43 x44 x45 x46 x47 x48 x49 x50 x51 x52 x53 x54 x55 =
 (if ((cop .eql x0 x28) && ((cop .eql x1 x29) && ((cop .eql x2 x30) && true))) = true then
 if ((cop .eql x3 x31) && ((cop .eql x4 x32) && ((cop .eql x5 x33) && ((cop .eql x6 x34) && ((cop .eql x7 x35) && ((cop .eql x8 x36) && ((cop .eql x9 x37) && ((cop .eql x10 x38) && ((cop .eql x11 x39) && ((cop .eql x12 x40) && ((cop .eql x13 x41) && ((cop .eql x14 x42) && true)))))))))))) = true then
 if (cop .eql x15 x43) = true then
 if (cop .eql x16 x44) = true then
 (g34 x17 x18 x19 x20 x21 x22 x23 x24 x25 x26 x27 x45 x46 x47 x48 x49 x50 x51 x52 x53 x54 x55).bind fun (r56 : Bool) =>
 some (r56)
 else
 some (false)
 else
 some (false)
 else
 some (false)
 else
 some (false)) := by kernel_rfl

/- multikernel/multikernelref18.SameRequests -/
noncomputable def F14 : Fn := ⟨27, [4], [(4, [(0, .c (.slice 28)), (1, .c (.slice 28)), (5, .c (.int .i64))])], [], 0, [], [], Tryz.f14, [.c (.slice 28), .c (.slice 28)], [.c (.bool)], [(21, F21.S)]⟩
theorem ok14 : F14.S.Ok Tryz.prog 14 := F14.ok Tryz.func14 (by kernel_rfl) ⟨ok21, trivial⟩
noncomputable def g14 (x0 x1 : LL) : Option (Bool) := F14.S.g [.l x0, .l x1]
noncomputable def g14L0 (k : Nat) (x0 x1 : LL) (x2 : Int) : Option (Bool) := F14.lp [1, 0] 0 r0 k [.l x0, .l x1, .i x2]
theorem g14L0_eq (k : Nat) (x0 x1 : LL) (x2 : Int) : g14L0 (k + 1) x0 x1 x2 =
 (if (cop .lss x2 (List.length x0 : Int)) = true then
 elemK x0 x2 hs3 fun (r3 : Qt7) =>
 elemK x1 x2 hs3 fun (r31 : Qt7) =>
 (g21 r3.1 r3.2.1 r3.2.2.1 r3.2.2.2.1 r3.2.2.2.2.1 r3.2.2.2.2.2.1 r3.2.2.2.2.2.2.1 r3.2.2.2.2.2.2.2.1 r3.2.2.2.2.2.2.2.2.1 r3.2.2.2.2.2.2.2.2.2.1 r3.2.2.2.2.2.2.2.2.2.2.1 r3.2.2.2.2.2.2.2.2.2.2.2.1 (d4 (d8 r3)).1 (d4 (d8 r3)).2.1 (d2 (d4 (d8 r3))).1 (d2 (d4 (d8 r3))).2.1 (d16 r3).1 (d16 r3).2.1 (d2 (d16 r3)).1 (d2 (d16 r3)).2.1 (d4 (d16 r3)).1 (d4 (d16 r3)).2.1 (d2 (d4 (d16 r3))).1 (d2 (d4 (d16 r3))).2.1 (d8 (d16 r3)).1 (d8 (d16 r3)).2.1 (d2 (d8 (d16 r3))).1 (d2 (d8 (d16 r3))).2 r31.1 r31.2.1 r31.2.2.1 r31.2.2.2.1 r31.2.2.2.2.1 r31.2.2.2.2.2.1 r31.2.2.2.2.2.2.1 r31.2.2.2.2.2.2.2.1 r31.2.2.2.2.2.2.2.2.1 r31.2.2.2.2.2.2.2.2.2.1 r31.2.2.2.2.2.2.2.2.2.2.1 r31.2.2.2.2.2.2.2.2.2.2.2.1 (d4 (d8 r31)).1 (d4 (d8 r31)).2.1 (d2 (d4 (d8 r31))).1 (d2 (d4 (d8 r31))).2.1 (d16 r31).1 (d16 r31).2.1 (d2 (d16 r31)).1 (d2 (d16 r31)).2.1 (d4 (d16 r31)).1 (d4 (d16 r31)).2.1 (d2 (d4 (d16 r31))).1 (d2 (d4 (d16 r31))).2.1 (d8 (d16 r31)).1 (d8 (d16 r31)).2.1 (d2 (d8 (d16 r31))).1 (d2 (d8 (d16 r31))).2).bind fun (r59 : Bool) =>
 if (!r59) = true then
 some (false)
 else
 g14L0 k x0 x1 (iop .add .i64 x2 1)
 else
 some (true)) := by kernel_rfl
theorem g14_eq (x0 x1 : LL) : g14 x0 x1 =
 (if (cop .neq (List.length x0 : Int) (List.length x1 : Int)) = true then
 some (false)
 else
 g14L0 FUEL x0 x1 0) := by kernel_rfl

/- multikernel/multikernelref18.SameNodes -/
noncomputable def F53 : Fn := ⟨27, [4], [(4, [(0, .c (.slice 11)), (1, .c (.slice 11)), (5, .c (.int .i64))])], [], 0, [], [], Tryz.f53, [.c (.slice 11), .c (.slice 11)], [.c (.bool)], [(34, F34.S)]⟩
theorem ok53 : F53.S.Ok Tryz.prog 53 := F53.ok Tryz.func53 (by kernel_rfl) ⟨ok34, trivial⟩
noncomputable def g53 (x0 x1 : LL) : Option (Bool) := F53.S.g [.l x0, .l x1]
noncomputable def g53L0 (k : Nat) (x0 x1 : LL) (x2 : Int) : Option (Bool) := F53.lp [1, 0] 0 r0 k [.l x0, .l x1, .i x2]
theorem g53L0_eq (k : Nat) (x0 x1 : LL) (x2 : Int) : g53L0 (k + 1) x0 x1 x2 =
 (if (cop .lss x2 (List.length x0 : Int)) = true then
 elemK x0 x2 hs10 fun (r3 : Qt15) =>
 elemK x1 x2 hs10 fun (r14 : Qt15) =>
 (g34 r3.1 r3.2.1 r3.2.2.1 r3.2.2.2.1 r3.2.2.2.2.1 r3.2.2.2.2.2.1 r3.2.2.2.2.2.2.1 r3.2.2.2.2.2.2.2.1 r3.2.2.2.2.2.2.2.2.1 r3.2.2.2.2.2.2.2.2.2.1 r3.2.2.2.2.2.2.2.2.2.2 r14.1 r14.2.1 r14.2.2.1 r14.2.2.2.1 r14.2.2.2.2.1 r14.2.2.2.2.2.1 r14.2.2.2.2.2.2.1 r14.2.2.2.2.2.2.2.1 r14.2.2.2.2.2.2.2.2.1 r14.2.2.2.2.2.2.2.2.2.1 r14.2.2.2.2.2.2.2.2.2.2).bind fun (r25 : Bool) =>
 if (!r25) = true then
 some (false)
 else
 g53L0 k x0 x1 (iop .add .i64 x2 1)
 else
 some (true)) := by kernel_rfl
theorem g53_eq (x0 x1 : LL) : g53 x0 x1 =
 (if (cop .neq (List.length x0 : Int) (List.length x1 : Int)) = true then
 some (false)
 else
 g53L0 FUEL x0 x1 0) := by kernel_rfl

/- multikernel/multikernelref10.SameInts -/
noncomputable def F54 : Fn := ⟨26, [4], [(4, [(0, .c (.slice 1)), (1, .c (.slice 1)), (5, .c (.int .i64))])], [], 0, [], [], Tryz.f54, [.c (.slice 1), .c (.slice 1)], [.c (.bool)], []⟩
theorem ok54 : F54.S.Ok Tryz.prog 54 := F54.ok Tryz.func54 (by kernel_rfl) trivial
noncomputable def g54 (x0 x1 : LL) : Option (Bool) := F54.S.g [.l x0, .l x1]
noncomputable def g54L0 (k : Nat) (x0 x1 : LL) (x2 : Int) : Option (Bool) := F54.lp [1, 0] 0 r0 k [.l x0, .l x1, .i x2]
theorem g54L0_eq (k : Nat) (x0 x1 : LL) (x2 : Int) : g54L0 (k + 1) x0 x1 x2 =
 (if (cop .lss x2 (List.length x0 : Int)) = true then
 elemK x0 x2 [.int .i64] fun (r3 : Int) =>
 elemK x1 x2 [.int .i64] fun (r4 : Int) =>
 if (cop .neq r3 r4) = true then
 some (false)
 else
 g54L0 k x0 x1 (iop .add .i64 x2 1)
 else
 some (true)) := by kernel_rfl
theorem g54_eq (x0 x1 : LL) : g54 x0 x1 =
 (if (cop .neq (List.length x0 : Int) (List.length x1 : Int)) = true then
 some (false)
 else
 g54L0 FUEL x0 x1 0) := by kernel_rfl

/- multikernel/multikernelref18.SameMoves -/
noncomputable def F55 : Fn := ⟨26, [4], [(4, [(0, .c (.slice 2)), (1, .c (.slice 2)), (5, .c (.int .i64))])], [], 0, [], [], Tryz.f55, [.c (.slice 2), .c (.slice 2)], [.c (.bool)], []⟩
theorem ok55 : F55.S.Ok Tryz.prog 55 := F55.ok Tryz.func55 (by kernel_rfl) trivial
noncomputable def g55 (x0 x1 : LL) : Option (Bool) := F55.S.g [.l x0, .l x1]
noncomputable def g55L0 (k : Nat) (x0 x1 : LL) (x2 : Int) : Option (Bool) := F55.lp [1, 0] 0 r0 k [.l x0, .l x1, .i x2]
theorem g55L0_eq (k : Nat) (x0 x1 : LL) (x2 : Int) : g55L0 (k + 1) x0 x1 x2 =
 (if (cop .lss x2 (List.length x0 : Int)) = true then
 elemK x0 x2 [.int .i64, .int .i64] fun (r3 : Int × Int) =>
 elemK x1 x2 [.int .i64, .int .i64] fun (r5 : Int × Int) =>
 if (!((cop .eql r3.1 r5.1) && ((cop .eql r3.2 r5.2) && true))) = true then
 some (false)
 else
 g55L0 k x0 x1 (iop .add .i64 x2 1)
 else
 some (true)) := by kernel_rfl
theorem g55_eq (x0 x1 : LL) : g55 x0 x1 =
 (if (cop .neq (List.length x0 : Int) (List.length x1 : Int)) = true then
 some (false)
 else
 g55L0 FUEL x0 x1 0) := by kernel_rfl

/- multikernel/multikernelref18.SameView -/
noncomputable def F56 : Fn := ⟨24, [4], [], [], 0, [], [], Tryz.f56, [.agg [.int .i64, .slice 1, .slice 1], .agg [.int .i64, .slice 1, .slice 1]], [.c (.bool)], [(54, F54.S)]⟩
theorem ok56 : F56.S.Ok Tryz.prog 56 := F56.ok Tryz.func56 (by kernel_rfl) ⟨ok54, trivial⟩
noncomputable def g56 (x0 : Int) (x1 x2 : LL) (x3 : Int) (x4 x5 : LL) : Option (Bool) := F56.S.g [.i x0, .l x1, .l x2, .i x3, .l x4, .l x5]
theorem g56_eq (x0 : Int) (x1 x2 : LL) (x3 : Int) (x4 x5 : LL) : g56 x0 x1 x2 x3 x4 x5 =
 (if (cop .eql x0 x3) = true then
 (g54 x1 x4).bind fun (r6 : Bool) =>
 if r6 = true then
 (g54 x2 x5).bind fun (r7 : Bool) =>
 some (r7)
 else
 some (false)
 else
 some (false)) := by kernel_rfl

/- multikernel/multikernelref18.SameMarks -/
noncomputable def F72 : Fn := ⟨26, [4], [(4, [(0, .c (.slice 4)), (1, .c (.slice 4)), (5, .c (.int .i64))])], [], 0, [], [], Tryz.f72, [.c (.slice 4), .c (.slice 4)], [.c (.bool)], []⟩
theorem ok72 : F72.S.Ok Tryz.prog 72 := F72.ok Tryz.func72 (by kernel_rfl) trivial
noncomputable def g72 (x0 x1 : LL) : Option (Bool) := F72.S.g [.l x0, .l x1]
noncomputable def g72L0 (k : Nat) (x0 x1 : LL) (x2 : Int) : Option (Bool) := F72.lp [1, 0] 0 r0 k [.l x0, .l x1, .i x2]
theorem g72L0_eq (k : Nat) (x0 x1 : LL) (x2 : Int) : g72L0 (k + 1) x0 x1 x2 =
 (if (cop .lss x2 (List.length x0 : Int)) = true then
 elemK x0 x2 [.int .i64, .int .i64, .int .i64, .int .i64] fun (r3 : Int × Int × Int × Int) =>
 elemK x1 x2 [.int .i64, .int .i64, .int .i64, .int .i64] fun (r7 : Int × Int × Int × Int) =>
 if (!((cop .eql r3.1 r7.1) && ((cop .eql r3.2.1 r7.2.1) && ((cop .eql r3.2.2.1 r7.2.2.1) && ((cop .eql r3.2.2.2 r7.2.2.2) && true))))) = true then
 some (false)
 else
 g72L0 k x0 x1 (iop .add .i64 x2 1)
 else
 some (true)) := by kernel_rfl
theorem g72_eq (x0 x1 : LL) : g72 x0 x1 =
 (if (cop .neq (List.length x0 : Int) (List.length x1 : Int)) = true then
 some (false)
 else
 g72L0 FUEL x0 x1 0) := by kernel_rfl

/- multikernel/multikernelref18.SameAnswers -/
noncomputable def F73 : Fn := ⟨26, [4], [(4, [(0, .c (.slice 2)), (1, .c (.slice 2)), (5, .c (.int .i64))])], [], 0, [], [], Tryz.f73, [.c (.slice 2), .c (.slice 2)], [.c (.bool)], []⟩
theorem ok73 : F73.S.Ok Tryz.prog 73 := F73.ok Tryz.func73 (by kernel_rfl) trivial
noncomputable def g73 (x0 x1 : LL) : Option (Bool) := F73.S.g [.l x0, .l x1]
noncomputable def g73L0 (k : Nat) (x0 x1 : LL) (x2 : Int) : Option (Bool) := F73.lp [1, 0] 0 r0 k [.l x0, .l x1, .i x2]
theorem g73L0_eq (k : Nat) (x0 x1 : LL) (x2 : Int) : g73L0 (k + 1) x0 x1 x2 =
 (if (cop .lss x2 (List.length x0 : Int)) = true then
 elemK x0 x2 [.int .i64, .int .i64] fun (r3 : Int × Int) =>
 elemK x1 x2 [.int .i64, .int .i64] fun (r5 : Int × Int) =>
 if (!((cop .eql r3.1 r5.1) && ((cop .eql r3.2 r5.2) && true))) = true then
 some (false)
 else
 g73L0 k x0 x1 (iop .add .i64 x2 1)
 else
 some (true)) := by kernel_rfl
theorem g73_eq (x0 x1 : LL) : g73 x0 x1 =
 (if (cop .neq (List.length x0 : Int) (List.length x1 : Int)) = true then
 some (false)
 else
 g73L0 FUEL x0 x1 0) := by kernel_rfl

/- multikernel/multikernelref10.SameEntries -/
noncomputable def F74 : Fn := ⟨55, [4], [(4, [(0, .c (.slice 13)), (1, .c (.slice 13)), (5, .c (.int .i64))])], [], 0, [], [], Tryz.f74, [.c (.slice 13), .c (.slice 13)], [.c (.bool)], [(34, F34.S)]⟩
theorem ok74 : F74.S.Ok Tryz.prog 74 := F74.ok Tryz.func74 (by kernel_rfl) ⟨ok34, trivial⟩
noncomputable def g74 (x0 x1 : LL) : Option (Bool) := F74.S.g [.l x0, .l x1]
noncomputable def g74L0 (k : Nat) (x0 x1 : LL) (x2 : Int) : Option (Bool) := F74.lp [1, 0] 0 r0 k [.l x0, .l x1, .i x2]
theorem g74L0_eq (k : Nat) (x0 x1 : LL) (x2 : Int) : g74L0 (k + 1) x0 x1 x2 =
 (if (cop .lss x2 (List.length x0 : Int)) = true then
 elemK x0 x2 hs9 fun (r3 : Qt12) =>
 elemK x1 x2 hs9 fun (r16 : Qt12) =>
 if (cop .neq r3.1 r16.1) = true then
 some (false)
 else
 elemK x0 x2 hs9 fun (r29 : Qt12) =>
 elemK x1 x2 hs9 fun (r42 : Qt12) =>
 if (cop .neq r29.2.1 r42.2.1) = true then
 some (false)
 else
 elemK x0 x2 hs9 fun (r55 : Qt12) =>
 elemK x1 x2 hs9 fun (r68 : Qt12) =>
 (g34 r55.2.2.1 r55.2.2.2.1 r55.2.2.2.2.1 r55.2.2.2.2.2.1 r55.2.2.2.2.2.2.1 r55.2.2.2.2.2.2.2.1 r55.2.2.2.2.2.2.2.2.1 r55.2.2.2.2.2.2.2.2.2.1 r55.2.2.2.2.2.2.2.2.2.2.1 r55.2.2.2.2.2.2.2.2.2.2.2.1 (d4 (d8 r55)) r68.2.2.1 r68.2.2.2.1 r68.2.2.2.2.1 r68.2.2.2.2.2.1 r68.2.2.2.2.2.2.1 r68.2.2.2.2.2.2.2.1 r68.2.2.2.2.2.2.2.2.1 r68.2.2.2.2.2.2.2.2.2.1 r68.2.2.2.2.2.2.2.2.2.2.1 r68.2.2.2.2.2.2.2.2.2.2.2.1 (d4 (d8 r68))).bind fun (r81 : Bool) =>
 if (!r81) = true then
 some (false)
 else
 g74L0 k x0 x1 (iop .add .i64 x2 1)
 else
 some (true)) := by kernel_rfl
theorem g74_eq (x0 x1 : LL) : g74 x0 x1 =
 (if (cop .neq (List.length x0 : Int) (List.length x1 : Int)) = true then
 some (false)
 else
 g74L0 FUEL x0 x1 0) := by kernel_rfl

/- multikernel/multikernelref18.SameState -/
noncomputable def F57 : Fn := ⟨45, [4], [], [], 0, [], [], Tryz.f57, [.agg hs14, .agg hs14], [.c (.bool)], [(13, F13.S), (14, F14.S), (72, F72.S), (73, F73.S), (74, F74.S), (52, F52.S)]⟩
theorem ok57 : F57.S.Ok Tryz.prog 57 := F57.ok Tryz.func57 (by kernel_rfl) ⟨ok13, ⟨ok14, ⟨ok72, ⟨ok73, ⟨ok74, ⟨ok52, trivial⟩⟩⟩⟩⟩⟩
noncomputable def g57 (x0 x1 x2 x3 x4 x5 x6 x7 x8 x9 x10 x11 : LL) : Option (Bool) := F57.S.g [.l x0, .l x1, .l x2, .l x3, .l x4, .l x5, .l x6, .l x7, .l x8, .l x9, .l x10, .l x11]
theorem g57_eq (x0 x1 x2 x3 x4 x5 x6 x7 x8 x9 x10 x11 : LL) : g57 x0 x1 x2 x3 x4 x5 x6 x7 x8 x9 x10 x11 =
 ((g13 x0 x6).bind fun (r12 : Bool) =>
 if r12 = true then
 (g14 x1 x7).bind fun (r13 : Bool) =>
 if r13 = true then
 (g72 x2 x8).bind fun (r14 : Bool) =>
 if r14 = true then
 (g73 x3 x9).bind fun (r15 : Bool) =>
 if r15 = true then
 (g74 x4 x10).bind fun (r16 : Bool) =>
 if r16 = true then
 (g52 x5 x11).bind fun (r17 : Bool) =>
 some (r17)
 else
 some (false)
 else
 some (false)
 else
 some (false)
 else
 some (false)
 else
 some (false)) := by kernel_rfl

/- multikernel/multikernelref18.SameReport -/
noncomputable def F58 : Fn := ⟨45, [4], [], [], 0, [], [], Tryz.f58, [.agg hs4, .agg hs4], [.c (.bool)], [(56, F56.S), (57, F57.S)]⟩
theorem ok58 : F58.S.Ok Tryz.prog 58 := F58.ok Tryz.func58 (by kernel_rfl) ⟨ok56, ⟨ok57, trivial⟩⟩
noncomputable def g58 (x0 x1 : Int) (x2 x3 x4 x5 x6 x7 x8 x9 : LL) (x10 : Bool) (x11 : Int) (x12 x13 x14 x15 x16 x17 x18 x19 : LL) (x20 x21 : Int) (x22 x23 x24 x25 x26 x27 x28 x29 : LL) (x30 : Bool) (x31 : Int) (x32 x33 x34 x35 x36 x37 x38 x39 : LL) : Option (Bool) := F58.S.g [.i x0, .i x1, .l x2, .l x3, .l x4, .l x5, .l x6, .l x7, .l x8, .l x9, .b x10, .i x11, .l x12, .l x13, .l x14, .l x15, .l x16, .l x17, .l x18, .l x19, .i x20, .i x21, .l x22, .l x23, .l x24, .l x25, .l x26, .l x27, .l x28, .l x29, .b x30, .i x31, .l x32, .l x33, .l x34, .l x35, .l x36, .l x37, .l x38, .l x39]
theorem g58_eq (x0 x1 : Int) (x2 x3 x4 x5 x6 x7 x8 x9 : LL) (x10 : Bool) (x11 : Int) (x12 x13 x14 x15 x16 x17 x18 x19 : LL) (x20 x21 : Int) (x22 x23 x24 x25 x26 x27 x28 x29 : LL) (x30 : Bool) (x31 : Int) (x32 x33 x34 x35 x36 x37 x38 x39 : LL) : g58 x0 x1 x2 x3 x4 x5 x6 x7 x8 x9 x10 x11 x12 x13 x14 x15 x16 x17 x18 x19 x20 x21 x22 x23 x24 x25 x26 x27 x28 x29 x30 x31 x32 x33 x34 x35 x36 x37 x38 x39 =
 (if (cop .eql x0 x20) = true then
 (g56 x1 x2 x3 x21 x22 x23).bind fun (r40 : Bool) =>
 if r40 = true then
 (g57 x4 x5 x6 x7 x8 x9 x24 x25 x26 x27 x28 x29).bind fun (r41 : Bool) =>
 if r41 = true then
 if (x10 == x30) = true then
 (g56 x11 x12 x13 x31 x32 x33).bind fun (r42 : Bool) =>
 if r42 = true then
 (g57 x14 x15 x16 x17 x18 x19 x34 x35 x36 x37 x38 x39).bind fun (r43 : Bool) =>
 some (r43)
 else
 some (false)
 else
 some (false)
 else
 some (false)
 else
 some (false)
 else
 some (false)) := by kernel_rfl

/- multikernel/multikernelref18.Same -/
noncomputable def F35 : Fn := ⟨134, [4], [], [], 0, [], [], Tryz.f35, [.agg hs0, .agg hs0], [.c (.bool)], [(21, F21.S), (52, F52.S), (53, F53.S), (54, F54.S), (55, F55.S), (56, F56.S), (57, F57.S), (58, F58.S)]⟩
theorem ok35 : F35.S.Ok Tryz.prog 35 := F35.ok Tryz.func35 (by kernel_rfl) ⟨ok21, ⟨ok52, ⟨ok53, ⟨ok54, ⟨ok55, ⟨ok56, ⟨ok57, ⟨ok58, trivial⟩⟩⟩⟩⟩⟩⟩⟩
noncomputable def g35 (x0 x1 x2 x3 x4 x5 x6 x7 x8 x9 x10 : Int) (x11 : Bool) (x12 x13 x14 x15 x16 x17 x18 x19 x20 x21 x22 x23 x24 x25 x26 x27 x28 x29 x30 x31 : Int) (x32 : LL) (x33 x34 x35 x36 x37 x38 : Int) (x39 : Bool) (x40 x41 x42 x43 : LL) (x44 x45 : Int) (x46 x47 x48 x49 x50 x51 x52 x53 : LL) (x54 x55 : Int) (x56 x57 x58 x59 x60 x61 x62 x63 : LL) (x64 : Bool) (x65 : Int) (x66 x67 x68 x69 x70 x71 x72 x73 : LL) (x74 x75 x76 x77 x78 x79 x80 x81 x82 x83 x84 : Int) (x85 : Bool) (x86 x87 x88 x89 x90 x91 x92 x93 x94 x95 x96 x97 x98 x99 x100 x101 x102 x103 x104 x105 : Int) (x106 : LL) (x107 x108 x109 x110 x111 x112 : Int) (x113 : Bool) (x114 x115 x116 x117 : LL) (x118 x119 : Int) (x120 x121 x122 x123 x124 x125 x126 x127 : LL) (x128 x129 : Int) (x130 x131 x132 x133 x134 x135 x136 x137 : LL) (x138 : Bool) (x139 : Int) (x140 x141 x142 x143 x144 x145 x146 x147 : LL) : Option (Bool) := F35.S.g [.i x0, .i x1, .i x2, .i x3, .i x4, .i x5, .i x6, .i x7, .i x8, .i x9, .i x10, .b x11, .i x12, .i x13, .i x14, .i x15, .i x16, .i x17, .i x18, .i x19, .i x20, .i x21, .i x22, .i x23, .i x24, .i x25, .i x26, .i x27, .i x28, .i x29, .i x30, .i x31, .l x32, .i x33, .i x34, .i x35, .i x36, .i x37, .i x38, .b x39, .l x40, .l x41, .l x42, .l x43, .i x44, .i x45, .l x46, .l x47, .l x48, .l x49, .l x50, .l x51, .l x52, .l x53, .i x54, .i x55, .l x56, .l x57, .l x58, .l x59, .l x60, .l x61, .l x62, .l x63, .b x64, .i x65, .l x66, .l x67, .l x68, .l x69, .l x70, .l x71, .l x72, .l x73, .i x74, .i x75, .i x76, .i x77, .i x78, .i x79, .i x80, .i x81, .i x82, .i x83, .i x84, .b x85, .i x86, .i x87, .i x88, .i x89, .i x90, .i x91, .i x92, .i x93, .i x94, .i x95, .i x96, .i x97, .i x98, .i x99, .i x100, .i x101, .i x102, .i x103, .i x104, .i x105, .l x106, .i x107, .i x108, .i x109, .i x110, .i x111, .i x112, .b x113, .l x114, .l x115, .l x116, .l x117, .i x118, .i x119, .l x120, .l x121, .l x122, .l x123, .l x124, .l x125, .l x126, .l x127, .i x128, .i x129, .l x130, .l x131, .l x132, .l x133, .l x134, .l x135, .l x136, .l x137, .b x138, .i x139, .l x140, .l x141, .l x142, .l x143, .l x144, .l x145, .l x146, .l x147]
theorem g35_eq (x0 x1 x2 x3 x4 x5 x6 x7 x8 x9 x10 : Int) (x11 : Bool) (x12 x13 x14 x15 x16 x17 x18 x19 x20 x21 x22 x23 x24 x25 x26 x27 x28 x29 x30 x31 : Int) (x32 : LL) (x33 x34 x35 x36 x37 x38 : Int) (x39 : Bool) (x40 x41 x42 x43 : LL) (x44 x45 : Int) (x46 x47 x48 x49 x50 x51 x52 x53 : LL) (x54 x55 : Int) (x56 x57 x58 x59 x60 x61 x62 x63 : LL) (x64 : Bool) (x65 : Int) (x66 x67 x68 x69 x70 x71 x72 x73 : LL) (x74 x75 x76 x77 x78 x79 x80 x81 x82 x83 x84 : Int) (x85 : Bool) (x86 x87 x88 x89 x90 x91 x92 x93 x94 x95 x96 x97 x98 x99 x100 x101 x102 x103 x104 x105 : Int) (x106 : LL) (x107 x108 x109 x110 x111 x112 : Int) (x113 : Bool) (x114 x115 x116 x117 : LL) (x118 x119 : Int) (x120 x121 x122 x123 x124 x125 x126 x127 : LL) (x128 x129 : Int) (x130 x131 x132 x133 x134 x135 x136 x137 : LL) (x138 : Bool) (x139 : Int) (x140 x141 x142 x143 x144 x145 x146 x147 : LL) : g35 x0 x1 x2 x3 x4 x5 x6 x7 x8 x9 x10 x11 x12 x13 x14 x15 x16 x17 x18 x19 x20 x21 x22 x23 x24 x25 x26 x27 x28 x29 x30 x31 x32 x33 x34 x35 x36 x37 x38 x39 x40 x41 x42 x43 x44 x45 x46 x47 x48 x49 x50 x51 x52 x53 x54 x55 x56 x57 x58 x59 x60 x61 x62 x63 x64 x65 x66 x67 x68 x69 x70 x71 x72 x73 x74 x75 x76 x77 x78 x79 x80 x81 x82 x83 x84 x85 x86 x87 x88 x89 x90 x91 x92 x93 x94 x95 x96 x97 x98 x99 x100 x101 x102 x103 x104 x105 x106 x107 x108 x109 x110 x111 x112 x113 x114 x115 x116 x117 x118 x119 x120 x121 x122 x123 x124 x125 x126 x127 x128 x129 x130 x131 x132 x133 x134 x135 x136 x137 x138 x139 x140 x141 x142 x143 x144 x145 x146 x147 =
 (if (cop .neq x0 x74) = true then
 some (false)
 else
 if (cop .neq x1 x75) = true then
 some (false)
 else
 if (cop .neq x2 x76) = true then
 some (false)
 else
 if (cop .neq x3 x77) = true then
 some (false)
 else
 if (cop .neq x4 x78) = true then
 some (false)
 else
 if (cop .neq x5 x79) = true then
 some (false)
 else
 if (cop .neq x6 x80) = true then
 some (false)
 else
 if (!((cop .eql x7 x81) && ((cop .eql x8 x82) && ((cop .eql x9 x83) && true)))) = true then
 some (false)
 else
 if (cop .neq x10 x84) = true then
 some (false)
 else
 if (!(x11 == x85)) = true then
 some (false)
 else
 if (cop .neq x44 x118) = true then
 some (false)
 else
 (g21 x12 x13 x14 x15 x16 x17 x18 x19 x20 x21 x22 x23 x24 x25 x26 x27 x28 x29 x30 x31 x32 x33 x34 x35 x36 x37 x38 x39 x86 x87 x88 x89 x90 x91 x92 x93 x94 x95 x96 x97 x98 x99 x100 x101 x102 x103 x104 x105 x106 x107 x108 x109 x110 x111 x112 x113).bind fun (r148 : Bool) =>
 if r148 = true then
 (g52 x40 x114).bind fun (r149 : Bool) =>
 if r149 = true then
 (g53 x41 x115).bind fun (r150 : Bool) =>
 if r150 = true then
 (g54 x42 x116).bind fun (r151 : Bool) =>
 if r151 = true then
 (g55 x43 x117).bind fun (r152 : Bool) =>
 if r152 = true then
 (g56 x45 x46 x47 x119 x120 x121).bind fun (r153 : Bool) =>
 if r153 = true then
 (g57 x48 x49 x50 x51 x52 x53 x122 x123 x124 x125 x126 x127).bind fun (r154 : Bool) =>
 if r154 = true then
 (g58 x54 x55 x56 x57 x58 x59 x60 x61 x62 x63 x64 x65 x66 x67 x68 x69 x70 x71 x72 x73 x128 x129 x130 x131 x132 x133 x134 x135 x136 x137 x138 x139 x140 x141 x142 x143 x144 x145 x146 x147).bind fun (r155 : Bool) =>
 some (r155)
 else
 some (false)
 else
 some (false)
 else
 some (false)
 else
 some (false)
 else
 some (false)
 else
 some (false)
 else
 some (false)) := by kernel_rfl

/- multikernel/multikernelref18.SameMsgs -/
noncomputable def F15 : Fn := ⟨27, [4], [(4, [(0, .c (.slice 74)), (1, .c (.slice 74)), (5, .c (.int .i64))])], [], 0, [], [], Tryz.f15, [.c (.slice 74), .c (.slice 74)], [.c (.bool)], [(35, F35.S)]⟩
theorem ok15 : F15.S.Ok Tryz.prog 15 := F15.ok Tryz.func15 (by kernel_rfl) ⟨ok35, trivial⟩
noncomputable def g15 (x0 x1 : LL) : Option (Bool) := F15.S.g [.l x0, .l x1]
noncomputable def g15L0 (k : Nat) (x0 x1 : LL) (x2 : Int) : Option (Bool) := F15.lp [1, 0] 0 r0 k [.l x0, .l x1, .i x2]
theorem g15L0_eq (k : Nat) (x0 x1 : LL) (x2 : Int) : g15L0 (k + 1) x0 x1 x2 =
 (if (cop .lss x2 (List.length x0 : Int)) = true then
 elemK x0 x2 hs0 fun (r3 : Qt2) =>
 elemK x1 x2 hs0 fun (r77 : Qt2) =>
 (g35 r3.1 r3.2.1 r3.2.2.1 r3.2.2.2.1 r3.2.2.2.2.1 r3.2.2.2.2.2.1 r3.2.2.2.2.2.2.1 r3.2.2.2.2.2.2.2.1 r3.2.2.2.2.2.2.2.2.1 r3.2.2.2.2.2.2.2.2.2.1 r3.2.2.2.2.2.2.2.2.2.2.1 r3.2.2.2.2.2.2.2.2.2.2.2.1 (d4 (d8 r3)).1 (d4 (d8 r3)).2.1 (d2 (d4 (d8 r3))).1 (d2 (d4 (d8 r3))).2.1 (d16 r3).1 (d16 r3).2.1 (d2 (d16 r3)).1 (d2 (d16 r3)).2.1 (d4 (d16 r3)).1 (d4 (d16 r3)).2.1 (d2 (d4 (d16 r3))).1 (d2 (d4 (d16 r3))).2.1 (d8 (d16 r3)).1 (d8 (d16 r3)).2.1 (d2 (d8 (d16 r3))).1 (d2 (d8 (d16 r3))).2.1 (d4 (d8 (d16 r3))).1 (d4 (d8 (d16 r3))).2.1 (d2 (d4 (d8 (d16 r3)))).1 (d2 (d4 (d8 (d16 r3)))).2.1 (d16 (d16 r3)).1 (d16 (d16 r3)).2.1 (d2 (d16 (d16 r3))).1 (d2 (d16 (d16 r3))).2.1 (d4 (d16 (d16 r3))).1 (d4 (d16 (d16 r3))).2.1 (d2 (d4 (d16 (d16 r3)))).1 (d2 (d4 (d16 (d16 r3)))).2.1 (d8 (d16 (d16 r3))).1 (d8 (d16 (d16 r3))).2.1 (d2 (d8 (d16 (d16 r3)))).1 (d2 (d8 (d16 (d16 r3)))).2.1 (d4 (d8 (d16 (d16 r3)))).1 (d4 (d8 (d16 (d16 r3)))).2.1 (d2 (d4 (d8 (d16 (d16 r3))))).1 (d2 (d4 (d8 (d16 (d16 r3))))).2.1 (d16 (d16 (d16 r3))).1 (d16 (d16 (d16 r3))).2.1 (d2 (d16 (d16 (d16 r3)))).1 (d2 (d16 (d16 (d16 r3)))).2.1 (d4 (d16 (d16 (d16 r3)))).1 (d4 (d16 (d16 (d16 r3)))).2.1 (d2 (d4 (d16 (d16 (d16 r3))))).1 (d2 (d4 (d16 (d16 (d16 r3))))).2.1 (d8 (d16 (d16 (d16 r3)))).1 (d8 (d16 (d16 (d16 r3)))).2.1 (d2 (d8 (d16 (d16 (d16 r3))))).1 (d2 (d8 (d16 (d16 (d16 r3))))).2.1 (d4 (d8 (d16 (d16 (d16 r3))))).1 (d4 (d8 (d16 (d16 (d16 r3))))).2.1 (d2 (d4 (d8 (d16 (d16 (d16 r3)))))).1 (d2 (d4 (d8 (d16 (d16 (d16 r3)))))).2.1 (d16 (d16 (d16 (d16 r3)))).1 (d16 (d16 (d16 (d16 r3)))).2.1 (d2 (d16 (d16 (d16 (d16 r3))))).1 (d2 (d16 (d16 (d16 (d16 r3))))).2.1 (d4 (d16 (d16 (d16 (d16 r3))))).1 (d4 (d16 (d16 (d16 (d16 r3))))).2.1 (d2 (d4 (d16 (d16 (d16 (d16 r3)))))).1 (d2 (d4 (d16 (d16 (d16 (d16 r3)))))).2.1 (d8 (d16 (d16 (d16 (d16 r3))))).1 (d8 (d16 (d16 (d16 (d16 r3))))).2 r77.1 r77.2.1 r77.2.2.1 r77.2.2.2.1 r77.2.2.2.2.1 r77.2.2.2.2.2.1 r77.2.2.2.2.2.2.1 r77.2.2.2.2.2.2.2.1 r77.2.2.2.2.2.2.2.2.1 r77.2.2.2.2.2.2.2.2.2.1 r77.2.2.2.2.2.2.2.2.2.2.1 r77.2.2.2.2.2.2.2.2.2.2.2.1 (d4 (d8 r77)).1 (d4 (d8 r77)).2.1 (d2 (d4 (d8 r77))).1 (d2 (d4 (d8 r77))).2.1 (d16 r77).1 (d16 r77).2.1 (d2 (d16 r77)).1 (d2 (d16 r77)).2.1 (d4 (d16 r77)).1 (d4 (d16 r77)).2.1 (d2 (d4 (d16 r77))).1 (d2 (d4 (d16 r77))).2.1 (d8 (d16 r77)).1 (d8 (d16 r77)).2.1 (d2 (d8 (d16 r77))).1 (d2 (d8 (d16 r77))).2.1 (d4 (d8 (d16 r77))).1 (d4 (d8 (d16 r77))).2.1 (d2 (d4 (d8 (d16 r77)))).1 (d2 (d4 (d8 (d16 r77)))).2.1 (d16 (d16 r77)).1 (d16 (d16 r77)).2.1 (d2 (d16 (d16 r77))).1 (d2 (d16 (d16 r77))).2.1 (d4 (d16 (d16 r77))).1 (d4 (d16 (d16 r77))).2.1 (d2 (d4 (d16 (d16 r77)))).1 (d2 (d4 (d16 (d16 r77)))).2.1 (d8 (d16 (d16 r77))).1 (d8 (d16 (d16 r77))).2.1 (d2 (d8 (d16 (d16 r77)))).1 (d2 (d8 (d16 (d16 r77)))).2.1 (d4 (d8 (d16 (d16 r77)))).1 (d4 (d8 (d16 (d16 r77)))).2.1 (d2 (d4 (d8 (d16 (d16 r77))))).1 (d2 (d4 (d8 (d16 (d16 r77))))).2.1 (d16 (d16 (d16 r77))).1 (d16 (d16 (d16 r77))).2.1 (d2 (d16 (d16 (d16 r77)))).1 (d2 (d16 (d16 (d16 r77)))).2.1 (d4 (d16 (d16 (d16 r77)))).1 (d4 (d16 (d16 (d16 r77)))).2.1 (d2 (d4 (d16 (d16 (d16 r77))))).1 (d2 (d4 (d16 (d16 (d16 r77))))).2.1 (d8 (d16 (d16 (d16 r77)))).1 (d8 (d16 (d16 (d16 r77)))).2.1 (d2 (d8 (d16 (d16 (d16 r77))))).1 (d2 (d8 (d16 (d16 (d16 r77))))).2.1 (d4 (d8 (d16 (d16 (d16 r77))))).1 (d4 (d8 (d16 (d16 (d16 r77))))).2.1 (d2 (d4 (d8 (d16 (d16 (d16 r77)))))).1 (d2 (d4 (d8 (d16 (d16 (d16 r77)))))).2.1 (d16 (d16 (d16 (d16 r77)))).1 (d16 (d16 (d16 (d16 r77)))).2.1 (d2 (d16 (d16 (d16 (d16 r77))))).1 (d2 (d16 (d16 (d16 (d16 r77))))).2.1 (d4 (d16 (d16 (d16 (d16 r77))))).1 (d4 (d16 (d16 (d16 (d16 r77))))).2.1 (d2 (d4 (d16 (d16 (d16 (d16 r77)))))).1 (d2 (d4 (d16 (d16 (d16 (d16 r77)))))).2.1 (d8 (d16 (d16 (d16 (d16 r77))))).1 (d8 (d16 (d16 (d16 (d16 r77))))).2).bind fun (r151 : Bool) =>
 if (!r151) = true then
 some (false)
 else
 g15L0 k x0 x1 (iop .add .i64 x2 1)
 else
 some (true)) := by kernel_rfl
theorem g15_eq (x0 x1 : LL) : g15 x0 x1 =
 (if (cop .neq (List.length x0 : Int) (List.length x1 : Int)) = true then
 some (false)
 else
 g15L0 FUEL x0 x1 0) := by kernel_rfl

/- multikernel/client.Requests -/
noncomputable def F16 : Fn := ⟨44, [4], [(3, [(3, .box [.int .i64, .slice 1, .slice 1]), (5, .c (.own false 66)), (8, .c (.slice 28)), (9, .c (.int .i64)), (10, .c (.int .i64))])], [], 0, [], [], Tryz.f16, [.c (.slice 28), .agg [.int .i64, .slice 1, .slice 1]], [.c (.own false 66)], [(28, F28.S)]⟩
theorem ok16 : F16.S.Ok Tryz.prog 16 := F16.ok Tryz.func16 (by kernel_rfl) ⟨ok28, trivial⟩
noncomputable def g16 (x0 : LL) (x1 : Int) (x2 x3 : LL) : Option (LL) := F16.S.g [.l x0, .i x1, .l x2, .l x3]
noncomputable def g16L0 (k : Nat) (x0 : Int) (x1 x2 x3 x4 : LL) (x5 x6 : Int) : Option (LL) := F16.lp [0] 0 r0 k [.i x0, .l x1, .l x2, .l x3, .l x4, .i x5, .i x6]
theorem g16L0_eq (k : Nat) (x0 : Int) (x1 x2 x3 x4 : LL) (x5 x6 : Int) : g16L0 (k + 1) x0 x1 x2 x3 x4 x5 x6 =
 (if (cop .lss x6 x5) = true then
 elemK x4 x6 hs3 fun (r7 : Qt7) =>
 if (cop .lss (d2 (d4 (d8 r7))).2.1 0) = true then
 g16L0 k x0 x1 x2 x3 x4 x5 (iop .add .i64 x6 1)
 else
 if (cop .geq (d2 (d4 (d8 r7))).2.1 (List.length x2 : Int)) = true then
 g16L0 k x0 x1 x2 x3 x4 x5 (iop .add .i64 x6 1)
 else
 (g28 (d16 r7).2.1 (d2 (d16 r7)).1 (d2 (d16 r7)).2.1 (d4 (d16 r7)).1 (d4 (d16 r7)).2.1 (d2 (d4 (d16 r7))).1 (d2 (d4 (d16 r7))).2.1 (d8 (d16 r7)).1 (d8 (d16 r7)).2.1 (d2 (d8 (d16 r7))).1 (d2 (d8 (d16 r7))).2).bind fun (r35 : Qt15) =>
 elemK x2 (d2 (d4 (d8 r7))).2.1 [.int .i64] fun (r46 : Int) =>
 reqK (roomP x3 (([] : LL) ++ [[AV.val (.int .i64 1), AV.val (.int .i64 0), AV.val (.int .i64 0), AV.val (.int .i64 r46), AV.val (.int .i64 0), AV.val (.int .i64 (d2 (d4 (d8 r7))).2.1), AV.val (.int .i64 0), AV.val (.int .i64 0), AV.val (.int .i64 0), AV.val (.int .i64 0), AV.val (.int .i64 0), AV.val (.bool false), AV.val (.int .i64 r7.1), AV.val (.int .i64 r7.2.1), AV.val (.int .i64 r7.2.2.1), AV.val (.int .i64 r7.2.2.2.1), AV.val (.int .i64 r7.2.2.2.2.1), AV.val (.int .i64 r7.2.2.2.2.2.1), AV.val (.int .i64 r7.2.2.2.2.2.2.1), AV.val (.int .i64 r7.2.2.2.2.2.2.2.1), AV.val (.int .i64 r7.2.2.2.2.2.2.2.2.1), AV.val (.int .i64 r7.2.2.2.2.2.2.2.2.2.1), AV.val (.int .i64 r7.2.2.2.2.2.2.2.2.2.2.1), AV.val (.int .i64 r7.2.2.2.2.2.2.2.2.2.2.2.1), AV.val (.int .i64 (d4 (d8 r7)).1), AV.val (.int .i64 (d4 (d8 r7)).2.1), AV.val (.int .i64 (d2 (d4 (d8 r7))).1), AV.val (.int .i64 (d2 (d4 (d8 r7))).2.1), AV.val (.int .i64 (d16 r7).1), AV.val (.int .i64 r35.1), AV.val (.int .i64 r35.2.1), AV.val (.int .i64 r35.2.2.1), AV.slice false 3 r35.2.2.2.1, AV.val (.int .i64 r35.2.2.2.2.1), AV.val (.int .i64 r35.2.2.2.2.2.1), AV.val (.int .i64 r35.2.2.2.2.2.2.1), AV.val (.int .i64 r35.2.2.2.2.2.2.2.1), AV.val (.int .i64 r35.2.2.2.2.2.2.2.2.1), AV.val (.int .i64 r35.2.2.2.2.2.2.2.2.2.1), AV.val (.bool r35.2.2.2.2.2.2.2.2.2.2), AV.slice false 3 ([] : LL), AV.slice false 11 ([] : LL), AV.slice false 1 ([] : LL), AV.slice false 2 ([] : LL), AV.val (.int .i64 0), AV.val (.int .i64 0), AV.slice false 1 ([] : LL), AV.slice false 1 ([] : LL), AV.slice false 15 ([] : LL), AV.slice false 28 ([] : LL), AV.slice false 4 ([] : LL), AV.slice false 2 ([] : LL), AV.slice false 13 ([] : LL), AV.slice false 3 ([] : LL), AV.val (.int .i64 0), AV.val (.int .i64 0), AV.slice false 1 ([] : LL), AV.slice false 1 ([] : LL), AV.slice false 15 ([] : LL), AV.slice false 28 ([] : LL), AV.slice false 4 ([] : LL), AV.slice false 2 ([] : LL), AV.slice false 13 ([] : LL), AV.slice false 3 ([] : LL), AV.val (.bool false), AV.val (.int .i64 0), AV.slice false 1 ([] : LL), AV.slice false 1 ([] : LL), AV.slice false 15 ([] : LL), AV.slice false 28 ([] : LL), AV.slice false 4 ([] : LL), AV.slice false 2 ([] : LL), AV.slice false 13 ([] : LL), AV.slice false 3 ([] : LL)]]) 1056) <|
 g16L0 k x0 x1 x2 (x3 ++ (([] : LL) ++ [[AV.val (.int .i64 1), AV.val (.int .i64 0), AV.val (.int .i64 0), AV.val (.int .i64 r46), AV.val (.int .i64 0), AV.val (.int .i64 (d2 (d4 (d8 r7))).2.1), AV.val (.int .i64 0), AV.val (.int .i64 0), AV.val (.int .i64 0), AV.val (.int .i64 0), AV.val (.int .i64 0), AV.val (.bool false), AV.val (.int .i64 r7.1), AV.val (.int .i64 r7.2.1), AV.val (.int .i64 r7.2.2.1), AV.val (.int .i64 r7.2.2.2.1), AV.val (.int .i64 r7.2.2.2.2.1), AV.val (.int .i64 r7.2.2.2.2.2.1), AV.val (.int .i64 r7.2.2.2.2.2.2.1), AV.val (.int .i64 r7.2.2.2.2.2.2.2.1), AV.val (.int .i64 r7.2.2.2.2.2.2.2.2.1), AV.val (.int .i64 r7.2.2.2.2.2.2.2.2.2.1), AV.val (.int .i64 r7.2.2.2.2.2.2.2.2.2.2.1), AV.val (.int .i64 r7.2.2.2.2.2.2.2.2.2.2.2.1), AV.val (.int .i64 (d4 (d8 r7)).1), AV.val (.int .i64 (d4 (d8 r7)).2.1), AV.val (.int .i64 (d2 (d4 (d8 r7))).1), AV.val (.int .i64 (d2 (d4 (d8 r7))).2.1), AV.val (.int .i64 (d16 r7).1), AV.val (.int .i64 r35.1), AV.val (.int .i64 r35.2.1), AV.val (.int .i64 r35.2.2.1), AV.slice false 3 r35.2.2.2.1, AV.val (.int .i64 r35.2.2.2.2.1), AV.val (.int .i64 r35.2.2.2.2.2.1), AV.val (.int .i64 r35.2.2.2.2.2.2.1), AV.val (.int .i64 r35.2.2.2.2.2.2.2.1), AV.val (.int .i64 r35.2.2.2.2.2.2.2.2.1), AV.val (.int .i64 r35.2.2.2.2.2.2.2.2.2.1), AV.val (.bool r35.2.2.2.2.2.2.2.2.2.2), AV.slice false 3 ([] : LL), AV.slice false 11 ([] : LL), AV.slice false 1 ([] : LL), AV.slice false 2 ([] : LL), AV.val (.int .i64 0), AV.val (.int .i64 0), AV.slice false 1 ([] : LL), AV.slice false 1 ([] : LL), AV.slice false 15 ([] : LL), AV.slice false 28 ([] : LL), AV.slice false 4 ([] : LL), AV.slice false 2 ([] : LL), AV.slice false 13 ([] : LL), AV.slice false 3 ([] : LL), AV.val (.int .i64 0), AV.val (.int .i64 0), AV.slice false 1 ([] : LL), AV.slice false 1 ([] : LL), AV.slice false 15 ([] : LL), AV.slice false 28 ([] : LL), AV.slice false 4 ([] : LL), AV.slice false 2 ([] : LL), AV.slice false 13 ([] : LL), AV.slice false 3 ([] : LL), AV.val (.bool false), AV.val (.int .i64 0), AV.slice false 1 ([] : LL), AV.slice false 1 ([] : LL), AV.slice false 15 ([] : LL), AV.slice false 28 ([] : LL), AV.slice false 4 ([] : LL), AV.slice false 2 ([] : LL), AV.slice false 13 ([] : LL), AV.slice false 3 ([] : LL)]])) x4 x5 (iop .add .i64 x6 1)
 else
 some (x3)) := by kernel_rfl
theorem g16_eq (x0 : LL) (x1 : Int) (x2 x3 : LL) : g16 x0 x1 x2 x3 =
 (g16L0 FUEL x1 x2 x3 ([] : LL) x0 (List.length x0 : Int) 0) := by kernel_rfl

/- multikernel/multikernelref21.Requests -/
noncomputable def F17 : Fn := ⟨44, [4], [(3, [(0, .c (.slice 28)), (3, .box [.int .i64, .slice 1, .slice 1]), (5, .c (.own false 66)), (6, .c (.int .i64))])], [], 0, [], [], Tryz.f17, [.c (.slice 28), .agg [.int .i64, .slice 1, .slice 1]], [.c (.own false 66)], [(11, F11.S)]⟩
theorem ok17 : F17.S.Ok Tryz.prog 17 := F17.ok Tryz.func17 (by kernel_rfl) ⟨ok11, trivial⟩
noncomputable def g17 (x0 : LL) (x1 : Int) (x2 x3 : LL) : Option (LL) := F17.S.g [.l x0, .i x1, .l x2, .l x3]
noncomputable def g17L0 (k : Nat) (x0 : LL) (x1 : Int) (x2 x3 x4 : LL) (x5 : Int) : Option (LL) := F17.lp [0] 0 r0 k [.l x0, .i x1, .l x2, .l x3, .l x4, .i x5]
theorem g17L0_eq (k : Nat) (x0 : LL) (x1 : Int) (x2 x3 x4 : LL) (x5 : Int) : g17L0 (k + 1) x0 x1 x2 x3 x4 x5 =
 (if (cop .lss x5 (List.length x0 : Int)) = true then
 elemK x0 x5 hs3 fun (r6 : Qt7) =>
 if (cop .geq (d2 (d4 (d8 r6))).2.1 0) = true then
 if (cop .lss (d2 (d4 (d8 r6))).2.1 (List.length x3 : Int)) = true then
 elemK x3 (d2 (d4 (d8 r6))).2.1 [.int .i64] fun (r34 : Int) =>
 (g11 r6.1 r6.2.1 r6.2.2.1 r6.2.2.2.1 r6.2.2.2.2.1 r6.2.2.2.2.2.1 r6.2.2.2.2.2.2.1 r6.2.2.2.2.2.2.2.1 r6.2.2.2.2.2.2.2.2.1 r6.2.2.2.2.2.2.2.2.2.1 r6.2.2.2.2.2.2.2.2.2.2.1 r6.2.2.2.2.2.2.2.2.2.2.2.1 (d4 (d8 r6)).1 (d4 (d8 r6)).2.1 (d2 (d4 (d8 r6))).1 (d2 (d4 (d8 r6))).2.1 (d16 r6).1 (d16 r6).2.1 (d2 (d16 r6)).1 (d2 (d16 r6)).2.1 (d4 (d16 r6)).1 (d4 (d16 r6)).2.1 (d2 (d4 (d16 r6))).1 (d2 (d4 (d16 r6))).2.1 (d8 (d16 r6)).1 (d8 (d16 r6)).2.1 (d2 (d8 (d16 r6))).1 (d2 (d8 (d16 r6))).2).bind fun (r35 : Qt7) =>
 reqK (roomP x4 (([] : LL) ++ [[AV.val (.int .i64 1), AV.val (.int .i64 0), AV.val (.int .i64 0), AV.val (.int .i64 r34), AV.val (.int .i64 0), AV.val (.int .i64 (d2 (d4 (d8 r6))).2.1), AV.val (.int .i64 0), AV.val (.int .i64 0), AV.val (.int .i64 0), AV.val (.int .i64 0), AV.val (.int .i64 0), AV.val (.bool false), AV.val (.int .i64 r35.1), AV.val (.int .i64 r35.2.1), AV.val (.int .i64 r35.2.2.1), AV.val (.int .i64 r35.2.2.2.1), AV.val (.int .i64 r35.2.2.2.2.1), AV.val (.int .i64 r35.2.2.2.2.2.1), AV.val (.int .i64 r35.2.2.2.2.2.2.1), AV.val (.int .i64 r35.2.2.2.2.2.2.2.1), AV.val (.int .i64 r35.2.2.2.2.2.2.2.2.1), AV.val (.int .i64 r35.2.2.2.2.2.2.2.2.2.1), AV.val (.int .i64 r35.2.2.2.2.2.2.2.2.2.2.1), AV.val (.int .i64 r35.2.2.2.2.2.2.2.2.2.2.2.1), AV.val (.int .i64 (d4 (d8 r35)).1), AV.val (.int .i64 (d4 (d8 r35)).2.1), AV.val (.int .i64 (d2 (d4 (d8 r35))).1), AV.val (.int .i64 (d2 (d4 (d8 r35))).2.1), AV.val (.int .i64 (d16 r35).1), AV.val (.int .i64 (d16 r35).2.1), AV.val (.int .i64 (d2 (d16 r35)).1), AV.val (.int .i64 (d2 (d16 r35)).2.1), AV.slice false 3 (d4 (d16 r35)).1, AV.val (.int .i64 (d4 (d16 r35)).2.1), AV.val (.int .i64 (d2 (d4 (d16 r35))).1), AV.val (.int .i64 (d2 (d4 (d16 r35))).2.1), AV.val (.int .i64 (d8 (d16 r35)).1), AV.val (.int .i64 (d8 (d16 r35)).2.1), AV.val (.int .i64 (d2 (d8 (d16 r35))).1), AV.val (.bool (d2 (d8 (d16 r35))).2), AV.slice false 3 ([] : LL), AV.slice false 11 ([] : LL), AV.slice false 1 ([] : LL), AV.slice false 2 ([] : LL), AV.val (.int .i64 0), AV.val (.int .i64 0), AV.slice false 1 ([] : LL), AV.slice false 1 ([] : LL), AV.slice false 15 ([] : LL), AV.slice false 28 ([] : LL), AV.slice false 4 ([] : LL), AV.slice false 2 ([] : LL), AV.slice false 13 ([] : LL), AV.slice false 3 ([] : LL), AV.val (.int .i64 0), AV.val (.int .i64 0), AV.slice false 1 ([] : LL), AV.slice false 1 ([] : LL), AV.slice false 15 ([] : LL), AV.slice false 28 ([] : LL), AV.slice false 4 ([] : LL), AV.slice false 2 ([] : LL), AV.slice false 13 ([] : LL), AV.slice false 3 ([] : LL), AV.val (.bool false), AV.val (.int .i64 0), AV.slice false 1 ([] : LL), AV.slice false 1 ([] : LL), AV.slice false 15 ([] : LL), AV.slice false 28 ([] : LL), AV.slice false 4 ([] : LL), AV.slice false 2 ([] : LL), AV.slice false 13 ([] : LL), AV.slice false 3 ([] : LL)]]) 1056) <|
 g17L0 k x0 x1 x2 x3 (x4 ++ (([] : LL) ++ [[AV.val (.int .i64 1), AV.val (.int .i64 0), AV.val (.int .i64 0), AV.val (.int .i64 r34), AV.val (.int .i64 0), AV.val (.int .i64 (d2 (d4 (d8 r6))).2.1), AV.val (.int .i64 0), AV.val (.int .i64 0), AV.val (.int .i64 0), AV.val (.int .i64 0), AV.val (.int .i64 0), AV.val (.bool false), AV.val (.int .i64 r35.1), AV.val (.int .i64 r35.2.1), AV.val (.int .i64 r35.2.2.1), AV.val (.int .i64 r35.2.2.2.1), AV.val (.int .i64 r35.2.2.2.2.1), AV.val (.int .i64 r35.2.2.2.2.2.1), AV.val (.int .i64 r35.2.2.2.2.2.2.1), AV.val (.int .i64 r35.2.2.2.2.2.2.2.1), AV.val (.int .i64 r35.2.2.2.2.2.2.2.2.1), AV.val (.int .i64 r35.2.2.2.2.2.2.2.2.2.1), AV.val (.int .i64 r35.2.2.2.2.2.2.2.2.2.2.1), AV.val (.int .i64 r35.2.2.2.2.2.2.2.2.2.2.2.1), AV.val (.int .i64 (d4 (d8 r35)).1), AV.val (.int .i64 (d4 (d8 r35)).2.1), AV.val (.int .i64 (d2 (d4 (d8 r35))).1), AV.val (.int .i64 (d2 (d4 (d8 r35))).2.1), AV.val (.int .i64 (d16 r35).1), AV.val (.int .i64 (d16 r35).2.1), AV.val (.int .i64 (d2 (d16 r35)).1), AV.val (.int .i64 (d2 (d16 r35)).2.1), AV.slice false 3 (d4 (d16 r35)).1, AV.val (.int .i64 (d4 (d16 r35)).2.1), AV.val (.int .i64 (d2 (d4 (d16 r35))).1), AV.val (.int .i64 (d2 (d4 (d16 r35))).2.1), AV.val (.int .i64 (d8 (d16 r35)).1), AV.val (.int .i64 (d8 (d16 r35)).2.1), AV.val (.int .i64 (d2 (d8 (d16 r35))).1), AV.val (.bool (d2 (d8 (d16 r35))).2), AV.slice false 3 ([] : LL), AV.slice false 11 ([] : LL), AV.slice false 1 ([] : LL), AV.slice false 2 ([] : LL), AV.val (.int .i64 0), AV.val (.int .i64 0), AV.slice false 1 ([] : LL), AV.slice false 1 ([] : LL), AV.slice false 15 ([] : LL), AV.slice false 28 ([] : LL), AV.slice false 4 ([] : LL), AV.slice false 2 ([] : LL), AV.slice false 13 ([] : LL), AV.slice false 3 ([] : LL), AV.val (.int .i64 0), AV.val (.int .i64 0), AV.slice false 1 ([] : LL), AV.slice false 1 ([] : LL), AV.slice false 15 ([] : LL), AV.slice false 28 ([] : LL), AV.slice false 4 ([] : LL), AV.slice false 2 ([] : LL), AV.slice false 13 ([] : LL), AV.slice false 3 ([] : LL), AV.val (.bool false), AV.val (.int .i64 0), AV.slice false 1 ([] : LL), AV.slice false 1 ([] : LL), AV.slice false 15 ([] : LL), AV.slice false 28 ([] : LL), AV.slice false 4 ([] : LL), AV.slice false 2 ([] : LL), AV.slice false 13 ([] : LL), AV.slice false 3 ([] : LL)]])) (iop .add .i64 x5 1)
 else
 g17L0 k x0 x1 x2 x3 x4 (iop .add .i64 x5 1)
 else
 g17L0 k x0 x1 x2 x3 x4 (iop .add .i64 x5 1)
 else
 some (x4)) := by kernel_rfl
theorem g17_eq (x0 : LL) (x1 : Int) (x2 x3 : LL) : g17 x0 x1 x2 x3 =
 (g17L0 FUEL x0 x1 x2 x3 ([] : LL) 0) := by kernel_rfl

end Go.Proofs.YtmgfkjonkdfedaaGreat
