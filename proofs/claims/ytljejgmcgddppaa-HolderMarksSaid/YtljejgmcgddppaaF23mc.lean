/- Functions of the program, as what they compute. -/
import Derived.Test.YtljejgmcgddppaaF23mb
namespace Go.Proofs.Ytljejgmcgddppaa
open Go Go.AM
set_option linter.unusedVariables false
set_option maxRecDepth 100000
noncomputable def F3 : Fn := ⟨87, [2], [(4, [(0, .c (.slice 1)), (3, .c (.slice 4)), (4, .box [.int .i64, .int .i64, .int .i64]), (5, .c (.int .i64))]), (19, [(0, .c (.slice 1)), (3, .c (.slice 4)), (4, .box [.int .i64, .int .i64, .int .i64]), (5, .c (.int .i64)), (13, .c (.own false 57)), (14, .c (.int .i64))])], [], 0, [], [], Try.f3, [.c (.slice 1)], [.c (.bool)], [(4, F4.S), (5, F5.S), (6, F6.S), (7, F7.S)]⟩
theorem ok3 : F3.S.Ok Try.prog 3 := F3.ok Try.func3 (by kernel_rfl) ⟨ok4, ⟨ok5, ⟨ok6, ⟨ok7, trivial⟩⟩⟩⟩
noncomputable def g3 (x0 : LL) : Option (Bool) := F3.S.g [.l x0]
noncomputable def g3L0 (rec0 : List V → Option (Bool)) (k : Nat) (x0 x1 : LL) (x2 x3 x4 x5 : Int) (x6 : LL) (x7 : Int) : Option (Bool) := F3.lp [2, 0, 6, 4, 0, 0, 1, 0] 1 (updR r0 0 rec0) k [.l x0, .l x1, .i x2, .i x3, .i x4, .i x5, .l x6, .i x7]
theorem g3L0_eq (rec0 : List V → Option (Bool)) (k : Nat) (x0 x1 : LL) (x2 x3 x4 x5 : Int) (x6 : LL) (x7 : Int) : g3L0 rec0 (k + 1) x0 x1 x2 x3 x4 x5 x6 x7 =
 (if (cop .lss x7 3) = true then
 if (cop .eql x7 0) = true then
 if (cop .gtr x2 0) = true then
 if (cop .eql x7 0) = true then
 reqK (roomP x6 (([] : LL) ++ [[AV.val (.int .i64 x7), AV.val (.int .i64 0), AV.val (.int .i64 x2), AV.val (.int .i64 0)]]) 32) <|
 g3L0 rec0 k x0 x1 x2 x3 x4 x5 (x6 ++ (([] : LL) ++ [[AV.val (.int .i64 x7), AV.val (.int .i64 0), AV.val (.int .i64 x2), AV.val (.int .i64 0)]])) (iop .add .i64 x7 1)
 else
 if (cop .eql x7 1) = true then
 reqK (roomP x6 (([] : LL) ++ [[AV.val (.int .i64 x7), AV.val (.int .i64 0), AV.val (.int .i64 x3), AV.val (.int .i64 0)]]) 32) <|
 g3L0 rec0 k x0 x1 x2 x3 x4 x5 (x6 ++ (([] : LL) ++ [[AV.val (.int .i64 x7), AV.val (.int .i64 0), AV.val (.int .i64 x3), AV.val (.int .i64 0)]])) (iop .add .i64 x7 1)
 else
 reqK ((2 : Int) ≤ x7) <|
 reqK ((x7 : Int) ≤ 2) <|
 reqK (roomP x6 (([] : LL) ++ [[AV.val (.int .i64 x7), AV.val (.int .i64 0), AV.val (.int .i64 x4), AV.val (.int .i64 0)]]) 32) <|
 g3L0 rec0 k x0 x1 x2 x3 x4 x5 (x6 ++ (([] : LL) ++ [[AV.val (.int .i64 x7), AV.val (.int .i64 0), AV.val (.int .i64 x4), AV.val (.int .i64 0)]])) (iop .add .i64 x7 1)
 else
 g3L0 rec0 k x0 x1 x2 x3 x4 x5 x6 (iop .add .i64 x7 1)
 else
 if (cop .eql x7 1) = true then
 if (cop .gtr x3 0) = true then
 if (cop .eql x7 0) = true then
 reqK (roomP x6 (([] : LL) ++ [[AV.val (.int .i64 x7), AV.val (.int .i64 0), AV.val (.int .i64 x2), AV.val (.int .i64 0)]]) 32) <|
 g3L0 rec0 k x0 x1 x2 x3 x4 x5 (x6 ++ (([] : LL) ++ [[AV.val (.int .i64 x7), AV.val (.int .i64 0), AV.val (.int .i64 x2), AV.val (.int .i64 0)]])) (iop .add .i64 x7 1)
 else
 if (cop .eql x7 1) = true then
 reqK (roomP x6 (([] : LL) ++ [[AV.val (.int .i64 x7), AV.val (.int .i64 0), AV.val (.int .i64 x3), AV.val (.int .i64 0)]]) 32) <|
 g3L0 rec0 k x0 x1 x2 x3 x4 x5 (x6 ++ (([] : LL) ++ [[AV.val (.int .i64 x7), AV.val (.int .i64 0), AV.val (.int .i64 x3), AV.val (.int .i64 0)]])) (iop .add .i64 x7 1)
 else
 reqK ((2 : Int) ≤ x7) <|
 reqK ((x7 : Int) ≤ 2) <|
 reqK (roomP x6 (([] : LL) ++ [[AV.val (.int .i64 x7), AV.val (.int .i64 0), AV.val (.int .i64 x4), AV.val (.int .i64 0)]]) 32) <|
 g3L0 rec0 k x0 x1 x2 x3 x4 x5 (x6 ++ (([] : LL) ++ [[AV.val (.int .i64 x7), AV.val (.int .i64 0), AV.val (.int .i64 x4), AV.val (.int .i64 0)]])) (iop .add .i64 x7 1)
 else
 g3L0 rec0 k x0 x1 x2 x3 x4 x5 x6 (iop .add .i64 x7 1)
 else
 reqK ((2 : Int) ≤ x7) <|
 reqK ((x7 : Int) ≤ 2) <|
 if (cop .gtr x4 0) = true then
 if (cop .eql x7 0) = true then
 reqK (roomP x6 (([] : LL) ++ [[AV.val (.int .i64 x7), AV.val (.int .i64 0), AV.val (.int .i64 x2), AV.val (.int .i64 0)]]) 32) <|
 g3L0 rec0 k x0 x1 x2 x3 x4 x5 (x6 ++ (([] : LL) ++ [[AV.val (.int .i64 x7), AV.val (.int .i64 0), AV.val (.int .i64 x2), AV.val (.int .i64 0)]])) (iop .add .i64 x7 1)
 else
 if (cop .eql x7 1) = true then
 reqK (roomP x6 (([] : LL) ++ [[AV.val (.int .i64 x7), AV.val (.int .i64 0), AV.val (.int .i64 x3), AV.val (.int .i64 0)]]) 32) <|
 g3L0 rec0 k x0 x1 x2 x3 x4 x5 (x6 ++ (([] : LL) ++ [[AV.val (.int .i64 x7), AV.val (.int .i64 0), AV.val (.int .i64 x3), AV.val (.int .i64 0)]])) (iop .add .i64 x7 1)
 else
 reqK ((2 : Int) ≤ x7) <|
 reqK ((x7 : Int) ≤ 2) <|
 reqK (roomP x6 (([] : LL) ++ [[AV.val (.int .i64 x7), AV.val (.int .i64 0), AV.val (.int .i64 x4), AV.val (.int .i64 0)]]) 32) <|
 g3L0 rec0 k x0 x1 x2 x3 x4 x5 (x6 ++ (([] : LL) ++ [[AV.val (.int .i64 x7), AV.val (.int .i64 0), AV.val (.int .i64 x4), AV.val (.int .i64 0)]])) (iop .add .i64 x7 1)
 else
 g3L0 rec0 k x0 x1 x2 x3 x4 x5 x6 (iop .add .i64 x7 1)
 else
 (g6 x1 x6).bind fun (r8 : Bool) =>
 if (!r8) = true then
 some (false)
 else
 rec0 [.l x0, .l x1, .i x2, .i x3, .i x4, .i (iop .add .i64 x5 1)]) := by kernel_rfl
noncomputable def g3L1 (k : Nat) (x0 x1 : LL) (x2 x3 x4 x5 : Int) : Option (Bool) := F3.lp [0] 0 r0 k [.l x0, .l x1, .i x2, .i x3, .i x4, .i x5]
theorem g3L1_eq (k : Nat) (x0 x1 : LL) (x2 x3 x4 x5 : Int) : g3L1 (k + 1) x0 x1 x2 x3 x4 x5 =
 (if (cop .lss x5 (List.length x0 : Int)) = true then
 if (cop .lss x5 40) = true then
 elemK x0 x5 [.int .i64] fun (r6 : Int) =>
 (g4 r6 3).bind fun (r7 : Int) =>
 elemK x0 x5 [.int .i64] fun (r8 : Int) =>
 reqK ((6 : Int) ≠ 0) <|
 (g4 (iop .quo .i64 r8 6) 20).bind fun (r9 : Int) =>
 if (cop .eql r7 0) = true then
 elemK x0 x5 [.int .i64] fun (r10 : Int) =>
 reqK ((3 : Int) ≠ 0) <|
 (g4 (iop .quo .i64 r10 3) 2).bind fun (r11 : Int) =>
 if (cop .eql r11 1) = true then
 if (cop .eql r7 0) = true then
 (g5 0 ([] : LL) x1 8 0 0 0 0 r7 0 0 (iop .add .i64 1 r9) 0 0 false 0 0 0 0 0 0 0 0 0 0 0 0 0 0 0 0 0 0 0 0 ([] : LL) 0 0 0 0 0 0 false ([] : LL) ([] : LL) ([] : LL) ([] : LL) 0 0 ([] : LL) ([] : LL) ([] : LL) ([] : LL) ([] : LL) ([] : LL) ([] : LL) ([] : LL) 0 0 ([] : LL) ([] : LL) ([] : LL) ([] : LL) ([] : LL) ([] : LL) ([] : LL) ([] : LL) false 0 ([] : LL) ([] : LL) ([] : LL) ([] : LL) ([] : LL) ([] : LL) ([] : LL) ([] : LL)).bind fun (r12 : LL × LL × LL × LL) =>
 if (cop .neq (List.length r12.2.2.1 : Int) 1) = true then
 some (false)
 else
 g3L0 (F3.lp [0] 0 r0 k) FUEL x0 r12.2.1 (iop .add .i64 1 r9) x3 x4 x5 ([] : LL) 0
 else
 if (cop .eql r7 1) = true then
 (g5 0 ([] : LL) x1 8 0 0 0 0 r7 0 0 (iop .add .i64 1 r9) 0 0 false 0 0 0 0 0 0 0 0 0 0 0 0 0 0 0 0 0 0 0 0 ([] : LL) 0 0 0 0 0 0 false ([] : LL) ([] : LL) ([] : LL) ([] : LL) 0 0 ([] : LL) ([] : LL) ([] : LL) ([] : LL) ([] : LL) ([] : LL) ([] : LL) ([] : LL) 0 0 ([] : LL) ([] : LL) ([] : LL) ([] : LL) ([] : LL) ([] : LL) ([] : LL) ([] : LL) false 0 ([] : LL) ([] : LL) ([] : LL) ([] : LL) ([] : LL) ([] : LL) ([] : LL) ([] : LL)).bind fun (r12 : LL × LL × LL × LL) =>
 if (cop .neq (List.length r12.2.2.1 : Int) 1) = true then
 some (false)
 else
 g3L0 (F3.lp [0] 0 r0 k) FUEL x0 r12.2.1 0 (iop .add .i64 1 r9) x4 x5 ([] : LL) 0
 else
 reqK ((2 : Int) ≤ r7) <|
 reqK ((r7 : Int) ≤ 2) <|
 (g5 0 ([] : LL) x1 8 0 0 0 0 r7 0 0 (iop .add .i64 1 r9) 0 0 false 0 0 0 0 0 0 0 0 0 0 0 0 0 0 0 0 0 0 0 0 ([] : LL) 0 0 0 0 0 0 false ([] : LL) ([] : LL) ([] : LL) ([] : LL) 0 0 ([] : LL) ([] : LL) ([] : LL) ([] : LL) ([] : LL) ([] : LL) ([] : LL) ([] : LL) 0 0 ([] : LL) ([] : LL) ([] : LL) ([] : LL) ([] : LL) ([] : LL) ([] : LL) ([] : LL) false 0 ([] : LL) ([] : LL) ([] : LL) ([] : LL) ([] : LL) ([] : LL) ([] : LL) ([] : LL)).bind fun (r12 : LL × LL × LL × LL) =>
 if (cop .neq (List.length r12.2.2.1 : Int) 1) = true then
 some (false)
 else
 g3L0 (F3.lp [0] 0 r0 k) FUEL x0 r12.2.1 0 x3 (iop .add .i64 1 r9) x5 ([] : LL) 0
 else
 (g5 0 ([] : LL) x1 6 0 0 0 0 r7 0 0 (iop .add .i64 1 r9) 0 0 false 0 0 0 0 0 0 0 0 0 0 0 0 0 0 0 0 0 0 0 0 ([] : LL) 0 0 0 0 0 0 false ([] : LL) ([] : LL) ([] : LL) ([] : LL) 0 0 ([] : LL) ([] : LL) ([] : LL) ([] : LL) ([] : LL) ([] : LL) ([] : LL) ([] : LL) 0 0 ([] : LL) ([] : LL) ([] : LL) ([] : LL) ([] : LL) ([] : LL) ([] : LL) ([] : LL) false 0 ([] : LL) ([] : LL) ([] : LL) ([] : LL) ([] : LL) ([] : LL) ([] : LL) ([] : LL)).bind fun (r12 : LL × LL × LL × LL) =>
 if (cop .neq (List.length r12.2.2.1 : Int) 1) = true then
 some (false)
 else
 g3L0 (F3.lp [0] 0 r0 k) FUEL x0 r12.2.1 0 x3 x4 x5 ([] : LL) 0
 else
 if (cop .eql r7 1) = true then
 elemK x0 x5 [.int .i64] fun (r10 : Int) =>
 reqK ((3 : Int) ≠ 0) <|
 (g4 (iop .quo .i64 r10 3) 2).bind fun (r11 : Int) =>
 if (cop .eql r11 1) = true then
 if (cop .eql r7 0) = true then
 (g5 0 ([] : LL) x1 8 0 0 0 0 r7 0 0 (iop .add .i64 1 r9) 0 0 false 0 0 0 0 0 0 0 0 0 0 0 0 0 0 0 0 0 0 0 0 ([] : LL) 0 0 0 0 0 0 false ([] : LL) ([] : LL) ([] : LL) ([] : LL) 0 0 ([] : LL) ([] : LL) ([] : LL) ([] : LL) ([] : LL) ([] : LL) ([] : LL) ([] : LL) 0 0 ([] : LL) ([] : LL) ([] : LL) ([] : LL) ([] : LL) ([] : LL) ([] : LL) ([] : LL) false 0 ([] : LL) ([] : LL) ([] : LL) ([] : LL) ([] : LL) ([] : LL) ([] : LL) ([] : LL)).bind fun (r12 : LL × LL × LL × LL) =>
 if (cop .neq (List.length r12.2.2.1 : Int) 1) = true then
 some (false)
 else
 g3L0 (F3.lp [0] 0 r0 k) FUEL x0 r12.2.1 (iop .add .i64 1 r9) 0 x4 x5 ([] : LL) 0
 else
 if (cop .eql r7 1) = true then
 (g5 0 ([] : LL) x1 8 0 0 0 0 r7 0 0 (iop .add .i64 1 r9) 0 0 false 0 0 0 0 0 0 0 0 0 0 0 0 0 0 0 0 0 0 0 0 ([] : LL) 0 0 0 0 0 0 false ([] : LL) ([] : LL) ([] : LL) ([] : LL) 0 0 ([] : LL) ([] : LL) ([] : LL) ([] : LL) ([] : LL) ([] : LL) ([] : LL) ([] : LL) 0 0 ([] : LL) ([] : LL) ([] : LL) ([] : LL) ([] : LL) ([] : LL) ([] : LL) ([] : LL) false 0 ([] : LL) ([] : LL) ([] : LL) ([] : LL) ([] : LL) ([] : LL) ([] : LL) ([] : LL)).bind fun (r12 : LL × LL × LL × LL) =>
 if (cop .neq (List.length r12.2.2.1 : Int) 1) = true then
 some (false)
 else
 g3L0 (F3.lp [0] 0 r0 k) FUEL x0 r12.2.1 x2 (iop .add .i64 1 r9) x4 x5 ([] : LL) 0
 else
 reqK ((2 : Int) ≤ r7) <|
 reqK ((r7 : Int) ≤ 2) <|
 (g5 0 ([] : LL) x1 8 0 0 0 0 r7 0 0 (iop .add .i64 1 r9) 0 0 false 0 0 0 0 0 0 0 0 0 0 0 0 0 0 0 0 0 0 0 0 ([] : LL) 0 0 0 0 0 0 false ([] : LL) ([] : LL) ([] : LL) ([] : LL) 0 0 ([] : LL) ([] : LL) ([] : LL) ([] : LL) ([] : LL) ([] : LL) ([] : LL) ([] : LL) 0 0 ([] : LL) ([] : LL) ([] : LL) ([] : LL) ([] : LL) ([] : LL) ([] : LL) ([] : LL) false 0 ([] : LL) ([] : LL) ([] : LL) ([] : LL) ([] : LL) ([] : LL) ([] : LL) ([] : LL)).bind fun (r12 : LL × LL × LL × LL) =>
 if (cop .neq (List.length r12.2.2.1 : Int) 1) = true then
 some (false)
 else
 g3L0 (F3.lp [0] 0 r0 k) FUEL x0 r12.2.1 x2 0 (iop .add .i64 1 r9) x5 ([] : LL) 0
 else
 (g5 0 ([] : LL) x1 6 0 0 0 0 r7 0 0 (iop .add .i64 1 r9) 0 0 false 0 0 0 0 0 0 0 0 0 0 0 0 0 0 0 0 0 0 0 0 ([] : LL) 0 0 0 0 0 0 false ([] : LL) ([] : LL) ([] : LL) ([] : LL) 0 0 ([] : LL) ([] : LL) ([] : LL) ([] : LL) ([] : LL) ([] : LL) ([] : LL) ([] : LL) 0 0 ([] : LL) ([] : LL) ([] : LL) ([] : LL) ([] : LL) ([] : LL) ([] : LL) ([] : LL) false 0 ([] : LL) ([] : LL) ([] : LL) ([] : LL) ([] : LL) ([] : LL) ([] : LL) ([] : LL)).bind fun (r12 : LL × LL × LL × LL) =>
 if (cop .neq (List.length r12.2.2.1 : Int) 1) = true then
 some (false)
 else
 g3L0 (F3.lp [0] 0 r0 k) FUEL x0 r12.2.1 x2 0 x4 x5 ([] : LL) 0
 else
 reqK ((2 : Int) ≤ r7) <|
 reqK ((r7 : Int) ≤ 2) <|
 elemK x0 x5 [.int .i64] fun (r10 : Int) =>
 reqK ((3 : Int) ≠ 0) <|
 (g4 (iop .quo .i64 r10 3) 2).bind fun (r11 : Int) =>
 if (cop .eql r11 1) = true then
 if (cop .eql r7 0) = true then
 (g5 0 ([] : LL) x1 8 0 0 0 0 r7 0 0 (iop .add .i64 1 r9) 0 0 false 0 0 0 0 0 0 0 0 0 0 0 0 0 0 0 0 0 0 0 0 ([] : LL) 0 0 0 0 0 0 false ([] : LL) ([] : LL) ([] : LL) ([] : LL) 0 0 ([] : LL) ([] : LL) ([] : LL) ([] : LL) ([] : LL) ([] : LL) ([] : LL) ([] : LL) 0 0 ([] : LL) ([] : LL) ([] : LL) ([] : LL) ([] : LL) ([] : LL) ([] : LL) ([] : LL) false 0 ([] : LL) ([] : LL) ([] : LL) ([] : LL) ([] : LL) ([] : LL) ([] : LL) ([] : LL)).bind fun (r12 : LL × LL × LL × LL) =>
 if (cop .neq (List.length r12.2.2.1 : Int) 1) = true then
 some (false)
 else
 g3L0 (F3.lp [0] 0 r0 k) FUEL x0 r12.2.1 (iop .add .i64 1 r9) x3 0 x5 ([] : LL) 0
 else
 if (cop .eql r7 1) = true then
 (g5 0 ([] : LL) x1 8 0 0 0 0 r7 0 0 (iop .add .i64 1 r9) 0 0 false 0 0 0 0 0 0 0 0 0 0 0 0 0 0 0 0 0 0 0 0 ([] : LL) 0 0 0 0 0 0 false ([] : LL) ([] : LL) ([] : LL) ([] : LL) 0 0 ([] : LL) ([] : LL) ([] : LL) ([] : LL) ([] : LL) ([] : LL) ([] : LL) ([] : LL) 0 0 ([] : LL) ([] : LL) ([] : LL) ([] : LL) ([] : LL) ([] : LL) ([] : LL) ([] : LL) false 0 ([] : LL) ([] : LL) ([] : LL) ([] : LL) ([] : LL) ([] : LL) ([] : LL) ([] : LL)).bind fun (r12 : LL × LL × LL × LL) =>
 if (cop .neq (List.length r12.2.2.1 : Int) 1) = true then
 some (false)
 else
 g3L0 (F3.lp [0] 0 r0 k) FUEL x0 r12.2.1 x2 (iop .add .i64 1 r9) 0 x5 ([] : LL) 0
 else
 reqK ((2 : Int) ≤ r7) <|
 reqK ((r7 : Int) ≤ 2) <|
 (g5 0 ([] : LL) x1 8 0 0 0 0 r7 0 0 (iop .add .i64 1 r9) 0 0 false 0 0 0 0 0 0 0 0 0 0 0 0 0 0 0 0 0 0 0 0 ([] : LL) 0 0 0 0 0 0 false ([] : LL) ([] : LL) ([] : LL) ([] : LL) 0 0 ([] : LL) ([] : LL) ([] : LL) ([] : LL) ([] : LL) ([] : LL) ([] : LL) ([] : LL) 0 0 ([] : LL) ([] : LL) ([] : LL) ([] : LL) ([] : LL) ([] : LL) ([] : LL) ([] : LL) false 0 ([] : LL) ([] : LL) ([] : LL) ([] : LL) ([] : LL) ([] : LL) ([] : LL) ([] : LL)).bind fun (r12 : LL × LL × LL × LL) =>
 if (cop .neq (List.length r12.2.2.1 : Int) 1) = true then
 some (false)
 else
 g3L0 (F3.lp [0] 0 r0 k) FUEL x0 r12.2.1 x2 x3 (iop .add .i64 1 r9) x5 ([] : LL) 0
 else
 (g5 0 ([] : LL) x1 6 0 0 0 0 r7 0 0 (iop .add .i64 1 r9) 0 0 false 0 0 0 0 0 0 0 0 0 0 0 0 0 0 0 0 0 0 0 0 ([] : LL) 0 0 0 0 0 0 false ([] : LL) ([] : LL) ([] : LL) ([] : LL) 0 0 ([] : LL) ([] : LL) ([] : LL) ([] : LL) ([] : LL) ([] : LL) ([] : LL) ([] : LL) 0 0 ([] : LL) ([] : LL) ([] : LL) ([] : LL) ([] : LL) ([] : LL) ([] : LL) ([] : LL) false 0 ([] : LL) ([] : LL) ([] : LL) ([] : LL) ([] : LL) ([] : LL) ([] : LL) ([] : LL)).bind fun (r12 : LL × LL × LL × LL) =>
 if (cop .neq (List.length r12.2.2.1 : Int) 1) = true then
 some (false)
 else
 g3L0 (F3.lp [0] 0 r0 k) FUEL x0 r12.2.1 x2 x3 0 x5 ([] : LL) 0
 else
 (g7).bind fun (r6 : Bool) =>
 some (r6)
 else
 (g7).bind fun (r6 : Bool) =>
 some (r6)) := by kernel_rfl
theorem g3_eq (x0 : LL) : g3 x0 =
 (g3L1 FUEL x0 ([] : LL) 0 0 0 0) := by kernel_rfl
end Go.Proofs.Ytljejgmcgddppaa
