/- Functions of the program, as what they compute. -/
import Derived.Test.YtghkcniaialgnaaG12p
namespace Go.Proofs.Ytghkcniaialgnaa
open Go Go.AM
set_option linter.unusedVariables false
set_option maxRecDepth 100000

/- slices.Index[[]multikernel/api.Id,multikernel/api.Id] -/
noncomputable def F39 : Fn := ⟨19, [4], [(2, [(0, .c (.slice 3)), (3, .box [.int .i64, .int .i64, .int .i64]), (7, .c (.int .i64)), (8, .c (.int .i64))])], [], 0, [], [], Try.f39, [.c (.slice 3), .agg [.int .i64, .int .i64, .int .i64]], [.c (.int .i64)], []⟩
theorem ok39 : F39.S.Ok Try.prog 39 := F39.ok Try.func39 (by kernel_rfl) trivial
noncomputable def g39 (x0 : LL) (x1 : Int) (x2 : Int) (x3 : Int) : Option (Int) := F39.S.g [.l x0, .i x1, .i x2, .i x3]
noncomputable def g39L0 (k : Nat) (x0 : LL) (x1 : Int) (x2 : Int) (x3 : Int) (x4 : Int) (x5 : Int) : Option (Int) := F39.lp [0] 0 r0 k [.l x0, .i x1, .i x2, .i x3, .i x4, .i x5]
theorem g39L0_eq (k : Nat) (x0 : LL) (x1 : Int) (x2 : Int) (x3 : Int) (x4 : Int) (x5 : Int) : g39L0 (k + 1) x0 x1 x2 x3 x4 x5 =
 (if (cop .lss x5 x4) = true then
 elemK x0 x5 [.int .i64, .int .i64, .int .i64] fun (r6 : Int × Int × Int) =>
 if ((cop .eql x1 r6.1) && ((cop .eql x2 r6.2.1) && ((cop .eql x3 r6.2.2) && true))) = true then
 some (x5)
 else
 g39L0 k x0 x1 x2 x3 x4 (iop .add .i64 x5 1)
 else
 some ((-1))) := by kernel_rfl
theorem g39_eq (x0 : LL) (x1 : Int) (x2 : Int) (x3 : Int) : g39 x0 x1 x2 x3 =
 (g39L0 FUEL x0 x1 x2 x3 (List.length x0 : Int) 0) := by kernel_rfl

/- slices.Contains[[]multikernel/api.Id,multikernel/api.Id] -/
noncomputable def F27 : Fn := ⟨9, [4], [], [], 0, [], [], Try.f27, [.c (.slice 3), .agg [.int .i64, .int .i64, .int .i64]], [.c (.bool)], [(39, F39.S)]⟩
theorem ok27 : F27.S.Ok Try.prog 27 := F27.ok Try.func27 (by kernel_rfl) ⟨ok39, trivial⟩
noncomputable def g27 (x0 : LL) (x1 : Int) (x2 : Int) (x3 : Int) : Option (Bool) := F27.S.g [.l x0, .i x1, .i x2, .i x3]
theorem g27_eq (x0 : LL) (x1 : Int) (x2 : Int) (x3 : Int) : g27 x0 x1 x2 x3 =
 ((g39 x0 x1 x2 x3).bind fun (r4 : Int) =>
 some ((cop .geq r4 0))) := by kernel_rfl

end Go.Proofs.Ytghkcniaialgnaa
