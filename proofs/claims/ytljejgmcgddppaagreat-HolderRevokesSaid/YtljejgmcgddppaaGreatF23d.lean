/- Functions of the program, as what they compute. -/
import Derived.Test.YtljejgmcgddppaaGreatF23c
namespace Go.Proofs.YtljejgmcgddppaaGreat
open Go Go.AM
set_option linter.unusedVariables false
set_option maxRecDepth 100000
noncomputable def F14 : Fn := ⟨44, [4], [(3, [(0, .c (.slice 13)), (1, .c (.int .i64)), (5, .c (.own true 60)), (6, .c (.int .i64))])], [], 0, [4], [], Tryz.f14, [.c (.slice 13), .c (.int .i64)], [.c (.own true 60)], [(30, F30.S)]⟩
theorem ok14 : F14.S.Ok Tryz.prog 14 := F14.ok Tryz.func14 (by kernel_rfl) ⟨ok30, trivial⟩
noncomputable def g14 (x0 : LL) (x1 : Int) : Option (LL) := F14.S.g [.l x0, .i x1]
noncomputable def g14L0 (k : Nat) (x0 : LL) (x1 : Int) (x2 : LL) (x3 : Int) : Option (LL) := F14.lp [4] 0 r0 k [.l x0, .i x1, .l x2, .i x3]
theorem g14L0_eq (k : Nat) (x0 : LL) (x1 : Int) (x2 : LL) (x3 : Int) : g14L0 (k + 1) x0 x1 x2 x3 =
 (if (cop .lss x3 (List.length x0 : Int)) = true then
 elemK x0 x3 hs7 fun (r4 : Qt12) =>
 if (cop .eql r4.1 x1) = true then
 elemK x0 x3 hs7 fun (r17 : Qt12) =>
 if (cop .lss r17.2.1 12) = true then
 elemK x0 x3 hs7 fun (r30 : Qt12) =>
 elemK x0 x3 hs7 fun (r43 : Qt12) =>
 (g30 r43.2.2.1 r43.2.2.2.1 r43.2.2.2.2.1 r43.2.2.2.2.2.1 r43.2.2.2.2.2.2.1 r43.2.2.2.2.2.2.2.1 r43.2.2.2.2.2.2.2.2.1 r43.2.2.2.2.2.2.2.2.2.1 r43.2.2.2.2.2.2.2.2.2.2.1 r43.2.2.2.2.2.2.2.2.2.2.2.1 (d4 (d8 r43))).bind fun (r56 : Qt17) =>
 reqK ((0 : Int) ≤ r30.2.1) <|
 reqK ((r30.2.1 : Int) < (List.length x2 : Int)) <|
 reqK ((0 : Int) ≤ r30.2.1) <|
 reqK ((r30.2.1 : Int) < (List.length x2 : Int)) <|
 g14L0 k x0 x1 (setElem x2 (Int.toNat r30.2.1) 0 [AV.val (.int .i64 r56.1), AV.val (.int .i64 r56.2.1), AV.val (.int .i64 r56.2.2.1), AV.slice false 3 r56.2.2.2.1, AV.val (.int .i64 r56.2.2.2.2.1), AV.val (.int .i64 r56.2.2.2.2.2.1), AV.val (.int .i64 r56.2.2.2.2.2.2.1), AV.val (.int .i64 r56.2.2.2.2.2.2.2.1), AV.val (.int .i64 r56.2.2.2.2.2.2.2.2.1), AV.val (.int .i64 r56.2.2.2.2.2.2.2.2.2.1), AV.val (.bool r56.2.2.2.2.2.2.2.2.2.2)]) (iop .add .i64 x3 1)
 else
 g14L0 k x0 x1 x2 (iop .add .i64 x3 1)
 else
 g14L0 k x0 x1 x2 (iop .add .i64 x3 1)
 else
 some (x2)) := by kernel_rfl
theorem g14_eq (x0 : LL) (x1 : Int) : g14 x0 x1 =
 (reqK (makeP 12 136) <|
 reqK ((12 : Int) ≤ 12) <|
 reqK ((12 : Int) ≤ 12) <|
 g14L0 FUEL x0 x1 (List.replicate (Int.toNat 12) [AV.val (.int .i64 0), AV.val (.int .i64 0), AV.val (.int .i64 0), AV.slice false 3 ([] : LL), AV.val (.int .i64 0), AV.val (.int .i64 0), AV.val (.int .i64 0), AV.val (.int .i64 0), AV.val (.int .i64 0), AV.val (.int .i64 0), AV.val (.bool false), AV.val (.int .i64 0), AV.val (.int .i64 0), AV.val (.int .i64 0), AV.val (.int .i64 0)]) 0) := by kernel_rfl
noncomputable def F26 : Fn := ⟨10, [2], [], [], 0, [], [], Tryz.f26, [.c (.int .i64)], [.agg [.int .i64, .int .i64, .int .i64]], [(9, F9.S)]⟩
noncomputable def F28 : Fn := ⟨12, [4], [], [], 0, [], [], Tryz.f28, [.c (.slice 1), .c (.int .i64)], [.c (.slice 1)], []⟩
noncomputable def F27 : Fn := ⟨69, [4], [], [], 0, [], [], Tryz.f27, [.c (.slice 1), .agg hs8], [.agg hs3], [(25, F25.S), (26, F26.S), (9, F9.S), (30, F30.S)]⟩
noncomputable def F10 : Fn := ⟨203, [6], [(3, [(0, .c (.slice 1)), (1, .c (.slice 13)), (6, .box hs16), (7, .box hs15), (8, .c (.int .i64))]), (10, [(0, .c (.slice 1)), (1, .c (.slice 13)), (6, .box hs16), (7, .box hs15), (9, .c (.int .i64))]), (17, [(0, .c (.slice 1)), (1, .c (.slice 13)), (6, .box hs16), (7, .box hs15), (12, .c (.int .i64))]), (22, [(0, .c (.slice 1)), (1, .c (.slice 13)), (6, .box hs16), (7, .box hs15), (14, .c (.int .i64))]), (27, [(0, .c (.slice 1)), (1, .c (.slice 13)), (6, .box hs16), (7, .box hs15), (16, .c (.int .i64))])], [], 0, [], [(33, [(7, 1)])], Tryz.f10, [.c (.slice 1), .c (.slice 13), .c (.int .i64)], [.agg hs16], [(14, F14.S), (25, F25.S), (9, F9.S), (21, F21.S), (26, F26.S), (28, F28.S), (27, F27.S), (29, F29.S)]⟩
noncomputable def g10 (x0 x1 : LL) (x2 : Int) : Option (Qt19) := F10.S.g [.l x0, .l x1, .i x2]
noncomputable def F54 : Fn := ⟨15, [6], [], [], 0, [], [], Tryz.f54, [.c (.int .i64), .c (.int .i64), .c (.int .i64)], [.agg [.int .i64, .int .i64, .int .i64]], [(9, F9.S)]⟩
noncomputable def F31 : Fn := ⟨41, [2], [(3, [(0, .c (.slice 1)), (3, .c (.own false 37)), (4, .c (.int .i64))])], [], 0, [], [], Tryz.f31, [.c (.slice 1)], [.c (.own false 37)], [(54, F54.S), (18, F18.S)]⟩
noncomputable def F32 : Fn := ⟨20, [2], [(3, [(0, .c (.int .i64)), (3, .c (.own false 3)), (4, .c (.int .i64))])], [], 0, [], [], Tryz.f32, [.c (.int .i64)], [.c (.own false 3)], [(9, F9.S)]⟩
noncomputable def F34 : Fn := ⟨58, [2], [(3, [(0, .c (.slice 1)), (2, .box [.int .i64, .slice 1, .slice 1]), (3, .box [.int .i64, .slice 1, .slice 1]), (4, .c (.int .i64))]), (10, [(0, .c (.slice 1)), (2, .box [.int .i64, .slice 1, .slice 1]), (3, .box [.int .i64, .slice 1, .slice 1]), (7, .c (.int .i64))])], [], 0, [], [], Tryz.f34, [.c (.slice 1)], [.agg [.int .i64, .slice 1, .slice 1]], [(25, F25.S), (9, F9.S), (55, F55.S)]⟩
noncomputable def F33 : Fn := ⟨37, [4], [], [], 0, [], [], Tryz.f33, [.c (.slice 1), .c (.slice 13)], [.agg hs4], [(25, F25.S), (9, F9.S), (28, F28.S), (34, F34.S), (10, F10.S)]⟩
noncomputable def F11 : Fn := ⟨199, [6], [(18, [(1, .c (.slice 1)), (2, .c (.slice 13)), (6, .box hs0), (7, .box hs0), (9, .c (.int .i64))]), (41, [(1, .c (.slice 1)), (6, .box hs0), (7, .box hs0), (11, .c (.int .i64))])], [], 0, [], [], Tryz.f11, [.c (.int .i64), .c (.slice 1), .c (.slice 13)], [.agg hs0], [(9, F9.S), (25, F25.S), (26, F26.S), (28, F28.S), (27, F27.S), (30, F30.S), (31, F31.S), (32, F32.S), (33, F33.S), (34, F34.S), (10, F10.S)]⟩
noncomputable def g11 (x0 : Int) (x1 x2 : LL) : Option (Qt2) := F11.S.g [.i x0, .l x1, .l x2]
end Go.Proofs.YtljejgmcgddppaaGreat
