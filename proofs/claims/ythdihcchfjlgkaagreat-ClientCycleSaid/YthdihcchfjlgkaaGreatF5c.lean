/- Functions of the program, as what they compute. -/
import Derived.Test.YthdihcchfjlgkaaGreatF5b
namespace Go.Proofs.YthdihcchfjlgkaaGreat
open Go Go.AM
set_option linter.unusedVariables false
set_option maxRecDepth 100000
noncomputable def F12 : Fn := ⟨44, [4], [(3, [(0, .c (.slice 13)), (1, .c (.int .i64)), (5, .c (.own true 62)), (6, .c (.int .i64))])], [], 0, [4], [], Tryz.f12, [.c (.slice 13), .c (.int .i64)], [.c (.own true 62)], [(26, F26.S)]⟩
theorem ok12 : F12.S.Ok Tryz.prog 12 := F12.ok Tryz.func12 (by kernel_rfl) ⟨ok26, trivial⟩
noncomputable def g12 (x0 : LL) (x1 : Int) : Option (LL) := F12.S.g [.l x0, .i x1]
noncomputable def g12L0 (k : Nat) (x0 : LL) (x1 : Int) (x2 : LL) (x3 : Int) : Option (LL) := F12.lp [4] 0 r0 k [.l x0, .i x1, .l x2, .i x3]
theorem g12L0_eq (k : Nat) (x0 : LL) (x1 : Int) (x2 : LL) (x3 : Int) : g12L0 (k + 1) x0 x1 x2 x3 =
 (if (cop .lss x3 (List.length x0 : Int)) = true then
 elemK x0 x3 hs9 fun (r4 : Qt14) =>
 if (cop .eql r4.1 x1) = true then
 elemK x0 x3 hs9 fun (r17 : Qt14) =>
 if (cop .lss r17.2.1 12) = true then
 elemK x0 x3 hs9 fun (r30 : Qt14) =>
 elemK x0 x3 hs9 fun (r43 : Qt14) =>
 (g26 r43.2.2.1 r43.2.2.2.1 r43.2.2.2.2.1 r43.2.2.2.2.2.1 r43.2.2.2.2.2.2.1 r43.2.2.2.2.2.2.2.1 r43.2.2.2.2.2.2.2.2.1 r43.2.2.2.2.2.2.2.2.2.1 r43.2.2.2.2.2.2.2.2.2.2.1 r43.2.2.2.2.2.2.2.2.2.2.2.1 (d4 (d8 r43))).bind fun (r56 : Qt20) =>
 reqK ((0 : Int) ≤ r30.2.1) <|
 reqK ((r30.2.1 : Int) < (List.length x2 : Int)) <|
 reqK ((0 : Int) ≤ r30.2.1) <|
 reqK ((r30.2.1 : Int) < (List.length x2 : Int)) <|
 g12L0 k x0 x1 (setElem x2 (Int.toNat r30.2.1) 0 [AV.val (.int .i64 r56.1), AV.val (.int .i64 r56.2.1), AV.val (.int .i64 r56.2.2.1), AV.slice false 3 r56.2.2.2.1, AV.val (.int .i64 r56.2.2.2.2.1), AV.val (.int .i64 r56.2.2.2.2.2.1), AV.val (.int .i64 r56.2.2.2.2.2.2.1), AV.val (.int .i64 r56.2.2.2.2.2.2.2.1), AV.val (.int .i64 r56.2.2.2.2.2.2.2.2.1), AV.val (.int .i64 r56.2.2.2.2.2.2.2.2.2.1), AV.val (.bool r56.2.2.2.2.2.2.2.2.2.2)]) (iop .add .i64 x3 1)
 else
 g12L0 k x0 x1 x2 (iop .add .i64 x3 1)
 else
 g12L0 k x0 x1 x2 (iop .add .i64 x3 1)
 else
 some (x2)) := by kernel_rfl
theorem g12_eq (x0 : LL) (x1 : Int) : g12 x0 x1 =
 (reqK (makeP 12 136) <|
 reqK ((12 : Int) ≤ 12) <|
 reqK ((12 : Int) ≤ 12) <|
 g12L0 FUEL x0 x1 (List.replicate (Int.toNat 12) [AV.val (.int .i64 0), AV.val (.int .i64 0), AV.val (.int .i64 0), AV.slice false 3 ([] : LL), AV.val (.int .i64 0), AV.val (.int .i64 0), AV.val (.int .i64 0), AV.val (.int .i64 0), AV.val (.int .i64 0), AV.val (.int .i64 0), AV.val (.bool false), AV.val (.int .i64 0), AV.val (.int .i64 0), AV.val (.int .i64 0), AV.val (.int .i64 0)]) 0) := by kernel_rfl
noncomputable def F8 : Fn := ⟨16, [4], [], [], 0, [], [], Tryz.f8, [.c (.int .i64), .c (.int .i64)], [.c (.int .i64)], []⟩
theorem ok8 : F8.S.Ok Tryz.prog 8 := F8.ok Tryz.func8 (by kernel_rfl) trivial
noncomputable def g8 (x0 x1 : Int) : Option (Int) := F8.S.g [.i x0, .i x1]
theorem g8_eq (x0 x1 : Int) : g8 x0 x1 =
 (if (cop .lss x1 1) = true then
 some (0)
 else
 reqK ((x1 : Int) ≠ 0) <|
 if (cop .lss (iop .rem .i64 x0 x1) 0) = true then
 some ((iop .add .i64 (iop .rem .i64 x0 x1) x1))
 else
 some ((iop .rem .i64 x0 x1))) := by kernel_rfl
end Go.Proofs.YthdihcchfjlgkaaGreat
