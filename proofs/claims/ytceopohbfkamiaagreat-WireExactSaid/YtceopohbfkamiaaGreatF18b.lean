/- Functions of the program, as what they compute. -/
import Derived.Test.YtceopohbfkamiaaGreatF18a
namespace Go.Proofs.YtceopohbfkamiaaGreat
open Go Go.AM
set_option linter.unusedVariables false
set_option maxRecDepth 100000

/- multikernel/wire.fields -/
noncomputable def F19 : Fn := ⟨44, [2, 3], [], [], 0, Tryz.f19, [.c (.int .i64)], [.c (.own 68), .c (.bool)], []⟩
theorem ok19 : F19.S.Ok Tryz.prog 19 := F19.ok Tryz.func19 (by kernel_rfl) trivial
noncomputable def g19 (x0 : Int) : Option (LL × Bool) := F19.S.g [.i x0]
theorem g19_eq (x0 : Int) : g19 x0 =
 (if (cop .eql x0 1) = true then
 some (((([] : LL) ++ [[AV.val (.int .i64 0)]]) ++ [[AV.val (.int .i64 1)]]), true)
 else
 if (cop .eql x0 2) = true then
 some ((((((([] : LL) ++ [[AV.val (.int .i64 0)]]) ++ [[AV.val (.int .i64 2)]]) ++ [[AV.val (.int .i64 3)]]) ++ [[AV.val (.int .i64 4)]]) ++ [[AV.val (.int .i64 5)]]), true)
 else
 if (cop .eql x0 3) = true then
 some (((([] : LL) ++ [[AV.val (.int .i64 0)]]) ++ [[AV.val (.int .i64 2)]]), true)
 else
 if (cop .eql x0 7) = true then
 some (((([] : LL) ++ [[AV.val (.int .i64 0)]]) ++ [[AV.val (.int .i64 2)]]), true)
 else
 if (cop .eql x0 8) = true then
 some (((([] : LL) ++ [[AV.val (.int .i64 0)]]) ++ [[AV.val (.int .i64 2)]]), true)
 else
 if (cop .eql x0 9) = true then
 some (((([] : LL) ++ [[AV.val (.int .i64 0)]]) ++ [[AV.val (.int .i64 2)]]), true)
 else
 if (cop .eql x0 10) = true then
 some (((([] : LL) ++ [[AV.val (.int .i64 0)]]) ++ [[AV.val (.int .i64 2)]]), true)
 else
 if (cop .eql x0 11) = true then
 some (((([] : LL) ++ [[AV.val (.int .i64 0)]]) ++ [[AV.val (.int .i64 2)]]), true)
 else
 if (cop .eql x0 4) = true then
 some (((((([] : LL) ++ [[AV.val (.int .i64 0)]]) ++ [[AV.val (.int .i64 2)]]) ++ [[AV.val (.int .i64 6)]]) ++ [[AV.val (.int .i64 5)]]), true)
 else
 if (cop .eql x0 5) = true then
 some ((((([] : LL) ++ [[AV.val (.int .i64 0)]]) ++ [[AV.val (.int .i64 2)]]) ++ [[AV.val (.int .i64 3)]]), true)
 else
 if (cop .eql x0 6) = true then
 some ((((([] : LL) ++ [[AV.val (.int .i64 0)]]) ++ [[AV.val (.int .i64 2)]]) ++ [[AV.val (.int .i64 7)]]), true)
 else
 if (cop .eql x0 12) = true then
 some (((([] : LL) ++ [[AV.val (.int .i64 8)]]) ++ [[AV.val (.int .i64 9)]]), true)
 else
 if (cop .eql x0 13) = true then
 some (((([] : LL) ++ [[AV.val (.int .i64 8)]]) ++ [[AV.val (.int .i64 10)]]), true)
 else
 if (cop .eql x0 14) = true then
 some ((((((([] : LL) ++ [[AV.val (.int .i64 8)]]) ++ [[AV.val (.int .i64 11)]]) ++ [[AV.val (.int .i64 9)]]) ++ [[AV.val (.int .i64 12)]]) ++ [[AV.val (.int .i64 13)]]), true)
 else
 if (cop .eql x0 15) = true then
 some ((([] : LL) ++ [[AV.val (.int .i64 8)]]), true)
 else
 if (cop .eql x0 16) = true then
 some ((([] : LL) ++ [[AV.val (.int .i64 8)]]), true)
 else
 if (cop .eql x0 17) = true then
 some (((([] : LL) ++ [[AV.val (.int .i64 9)]]) ++ [[AV.val (.int .i64 14)]]), true)
 else
 some (([] : LL), false)) := by kernel_rfl

/- multikernel/wire.isNumber -/
noncomputable def F31 : Fn := ⟨9, [2], [], [], 0, Tryz.f31, [.c (.int .i64)], [.c (.bool)], []⟩
theorem ok31 : F31.S.Ok Tryz.prog 31 := F31.ok Tryz.func31 (by kernel_rfl) trivial
noncomputable def g31 (x0 : Int) : Option (Bool) := F31.S.g [.i x0]
theorem g31_eq (x0 : Int) : g31 x0 =
 (if (cop .geq x0 0) = true then
 some ((cop .leq x0 1073741824))
 else
 some (false)) := by kernel_rfl

/- slices.Index[[]int,int] -/
noncomputable def F175 : Fn := ⟨19, [4], [(2, [(0, .c (.slice 1)), (1, .c (.int .i64)), (7, .c (.int .i64)), (8, .c (.int .i64))])], [], 0, Tryz.f175, [.c (.slice 1), .c (.int .i64)], [.c (.int .i64)], []⟩
theorem ok175 : F175.S.Ok Tryz.prog 175 := F175.ok Tryz.func175 (by kernel_rfl) trivial
noncomputable def g175 (x0 : LL) (x1 : Int) : Option (Int) := F175.S.g [.l x0, .i x1]
noncomputable def g175L0 (k : Nat) (x0 : LL) (x1 x2 x3 : Int) : Option (Int) := F175.lp [0] 0 r0 k [.l x0, .i x1, .i x2, .i x3]
theorem g175L0_eq (k : Nat) (x0 : LL) (x1 x2 x3 : Int) : g175L0 (k + 1) x0 x1 x2 x3 =
 (if (cop .lss x3 x2) = true then
 elemK x0 x3 [.int .i64] fun (r4 : Int) =>
 if (cop .eql x1 r4) = true then
 some (x3)
 else
 g175L0 k x0 x1 x2 (iop .add .i64 x3 1)
 else
 some ((-1))) := by kernel_rfl
theorem g175_eq (x0 : LL) (x1 : Int) : g175 x0 x1 =
 (g175L0 FUEL x0 x1 (List.length x0 : Int) 0) := by kernel_rfl

/- slices.Contains[[]int,int] -/
noncomputable def F152 : Fn := ⟨9, [4], [], [], 0, Tryz.f152, [.c (.slice 1), .c (.int .i64)], [.c (.bool)], [(175, F175.S)]⟩
theorem ok152 : F152.S.Ok Tryz.prog 152 := F152.ok Tryz.func152 (by kernel_rfl) ⟨ok175, trivial⟩
noncomputable def g152 (x0 : LL) (x1 : Int) : Option (Bool) := F152.S.g [.l x0, .i x1]
theorem g152_eq (x0 : LL) (x1 : Int) : g152 x0 x1 =
 ((g175 x0 x1).bind fun (r2 : Int) =>
 some ((cop .geq r2 0))) := by kernel_rfl

/- multikernel/wire.validView$1 -/
noncomputable def F153 : Fn := ⟨6, [2], [], [], 0, Tryz.f153, [.c (.int .i64)], [.c (.bool)], [(32, F32.S)]⟩
theorem ok153 : F153.S.Ok Tryz.prog 153 := F153.ok Tryz.func153 (by kernel_rfl) ⟨ok32, trivial⟩
noncomputable def g153 (x0 : Int) : Option (Bool) := F153.S.g [.i x0]
theorem g153_eq (x0 : Int) : g153 x0 =
 ((g32 x0).bind fun (r1 : Bool) =>
 some ((!r1))) := by kernel_rfl

/- slices.IndexFunc[[]int,int] -/
noncomputable def F151c153 : Fn := ⟨19, [4], [(2, [(0, .c (.slice 1)), (1, .clo 153 []), (7, .c (.int .i64)), (8, .c (.int .i64))])], [], 0, Tryz.f151, [.c (.slice 1), .clo 153 []], [.c (.int .i64)], [(153, F153.S)]⟩
theorem ok151c153 : F151c153.S.Ok Tryz.prog 151 := F151c153.ok Tryz.func151 (by kernel_rfl) ⟨ok153, trivial⟩
noncomputable def g151c153 (x0 : LL) : Option (Int) := F151c153.S.g [.l x0]
noncomputable def g151c153L0 (k : Nat) (x0 : LL) (x1 x2 : Int) : Option (Int) := F151c153.lp [0] 0 r0 k [.l x0, .i x1, .i x2]
theorem g151c153L0_eq (k : Nat) (x0 : LL) (x1 x2 : Int) : g151c153L0 (k + 1) x0 x1 x2 =
 (if (cop .lss x2 x1) = true then
 elemK x0 x2 [.int .i64] fun (r3 : Int) =>
 (g153 r3).bind fun (r4 : Bool) =>
 if r4 = true then
 some (x2)
 else
 g151c153L0 k x0 x1 (iop .add .i64 x2 1)
 else
 some ((-1))) := by kernel_rfl
theorem g151c153_eq (x0 : LL) : g151c153 x0 =
 (g151c153L0 FUEL x0 (List.length x0 : Int) 0) := by kernel_rfl

/- slices.ContainsFunc[[]int,int] -/
noncomputable def F92c153 : Fn := ⟨9, [4], [], [], 0, Tryz.f92, [.c (.slice 1), .clo 153 []], [.c (.bool)], [(151, F151c153.S)]⟩
theorem ok92c153 : F92c153.S.Ok Tryz.prog 92 := F92c153.ok Tryz.func92 (by kernel_rfl) ⟨ok151c153, trivial⟩
noncomputable def g92c153 (x0 : LL) : Option (Bool) := F92c153.S.g [.l x0]
theorem g92c153_eq (x0 : LL) : g92c153 x0 =
 ((g151c153 x0).bind fun (r1 : Int) =>
 some ((cop .geq r1 0))) := by kernel_rfl

/- multikernel/wire.validView -/
noncomputable def F97 : Fn := ⟨45, [2], [(4, [(1, .box [.int .i64, .slice 1, .slice 1]), (22, .c (.slice 1)), (23, .c (.int .i64)), (24, .c (.int .i64))])], [], 0, Tryz.f97, [.agg [.int .i64, .slice 1, .slice 1]], [.c (.bool)], [(31, F31.S), (32, F32.S), (152, F152.S), (92, F92c153.S)]⟩
theorem ok97 : F97.S.Ok Tryz.prog 97 := F97.ok Tryz.func97 (by kernel_rfl) ⟨ok31, ⟨ok32, ⟨ok152, ⟨ok92c153, trivial⟩⟩⟩⟩
noncomputable def g97 (x0 : Int) (x1 x2 : LL) : Option (Bool) := F97.S.g [.i x0, .l x1, .l x2]
noncomputable def g97L0 (k : Nat) (x0 : Int) (x1 x2 x3 : LL) (x4 x5 : Int) : Option (Bool) := F97.lp [0, 1, 1, 1, 0] 0 r0 k [.i x0, .l x1, .l x2, .l x3, .i x4, .i x5]
theorem g97L0_eq (k : Nat) (x0 : Int) (x1 x2 x3 : LL) (x4 x5 : Int) : g97L0 (k + 1) x0 x1 x2 x3 x4 x5 =
 (if (cop .lss x5 x4) = true then
 elemK x3 x5 [.int .i64] fun (r6 : Int) =>
 (g32 r6).bind fun (r7 : Bool) =>
 if (!r7) = true then
 some (false)
 else
 reqK ((0 : Int) ≤ x5) <|
 reqK ((x5 : Int) ≤ (List.length x1 : Int)) <|
 (g152 (List.take (Int.toNat x5) x1) r6).bind fun (r8 : Bool) =>
 if r8 = true then
 some (false)
 else
 g97L0 k x0 x1 x2 x3 x4 (iop .add .i64 x5 1)
 else
 (g92c153 x2).bind fun (r6 : Bool) =>
 some ((!r6))) := by kernel_rfl
theorem g97_eq (x0 : Int) (x1 x2 : LL) : g97 x0 x1 x2 =
 ((g31 x0).bind fun (r3 : Bool) =>
 if (!r3) = true then
 some (false)
 else
 if (cop .gtr (List.length x1 : Int) 32) = true then
 some (false)
 else
 if (cop .gtr (List.length x2 : Int) 16) = true then
 some (false)
 else
 g97L0 FUEL x0 x1 x2 x1 (List.length x1 : Int) 0) := by kernel_rfl

/- multikernel/wire.validReport -/
noncomputable def F96 : Fn := ⟨26, [2], [], [], 0, Tryz.f96, [.agg hs5], [.c (.bool)], [(32, F32.S), (97, F97.S), (14, F14.S)]⟩
theorem ok96 : F96.S.Ok Tryz.prog 96 := F96.ok Tryz.func96 (by kernel_rfl) ⟨ok32, ⟨ok97, ⟨ok14, trivial⟩⟩⟩
noncomputable def g96 (x0 x1 : Int) (x2 x3 x4 x5 x6 x7 x8 x9 : LL) (x10 : Bool) (x11 : Int) (x12 x13 x14 x15 x16 x17 x18 x19 : LL) : Option (Bool) := F96.S.g [.i x0, .i x1, .l x2, .l x3, .l x4, .l x5, .l x6, .l x7, .l x8, .l x9, .b x10, .i x11, .l x12, .l x13, .l x14, .l x15, .l x16, .l x17, .l x18, .l x19]
theorem g96_eq (x0 x1 : Int) (x2 x3 x4 x5 x6 x7 x8 x9 : LL) (x10 : Bool) (x11 : Int) (x12 x13 x14 x15 x16 x17 x18 x19 : LL) : g96 x0 x1 x2 x3 x4 x5 x6 x7 x8 x9 x10 x11 x12 x13 x14 x15 x16 x17 x18 x19 =
 ((g32 x0).bind fun (r20 : Bool) =>
 if r20 = true then
 (g97 x1 x2 x3).bind fun (r21 : Bool) =>
 if r21 = true then
 (g14 x4 x5 x6 x7 x8 x9).bind fun (r22 : Bool) =>
 if r22 = true then
 (g97 x11 x12 x13).bind fun (r23 : Bool) =>
 if r23 = true then
 (g14 x14 x15 x16 x17 x18 x19).bind fun (r24 : Bool) =>
 some (r24)
 else
 some (false)
 else
 some (false)
 else
 some (false)
 else
 some (false)) := by kernel_rfl

/- multikernel/wire.validField$1 -/
noncomputable def F88 : Fn := ⟨6, [2], [], [], 0, Tryz.f88, [.agg hs10], [.c (.bool)], [(50, F50.S)]⟩
theorem ok88 : F88.S.Ok Tryz.prog 88 := F88.ok Tryz.func88 (by kernel_rfl) ⟨ok50, trivial⟩
noncomputable def g88 (x0 x1 x2 : Int) (x3 : LL) (x4 x5 x6 x7 x8 x9 : Int) (x10 : Bool) : Option (Bool) := F88.S.g [.i x0, .i x1, .i x2, .l x3, .i x4, .i x5, .i x6, .i x7, .i x8, .i x9, .b x10]
theorem g88_eq (x0 x1 x2 : Int) (x3 : LL) (x4 x5 x6 x7 x8 x9 : Int) (x10 : Bool) : g88 x0 x1 x2 x3 x4 x5 x6 x7 x8 x9 x10 =
 ((g50 x0 x1 x2 x3 x4 x5 x6 x7 x8 x9 x10).bind fun (r11 : Bool) =>
 some ((!r11))) := by kernel_rfl

/- slices.IndexFunc[[]multikernel/api.Node,multikernel/api.Node] -/
noncomputable def F150c88 : Fn := ⟨19, [4], [(2, [(0, .c (.slice 11)), (1, .clo 88 []), (7, .c (.int .i64)), (8, .c (.int .i64))])], [], 0, Tryz.f150, [.c (.slice 11), .clo 88 []], [.c (.int .i64)], [(88, F88.S)]⟩
theorem ok150c88 : F150c88.S.Ok Tryz.prog 150 := F150c88.ok Tryz.func150 (by kernel_rfl) ⟨ok88, trivial⟩
noncomputable def g150c88 (x0 : LL) : Option (Int) := F150c88.S.g [.l x0]
noncomputable def g150c88L0 (k : Nat) (x0 : LL) (x1 x2 : Int) : Option (Int) := F150c88.lp [0] 0 r0 k [.l x0, .i x1, .i x2]
theorem g150c88L0_eq (k : Nat) (x0 : LL) (x1 x2 : Int) : g150c88L0 (k + 1) x0 x1 x2 =
 (if (cop .lss x2 x1) = true then
 elemK x0 x2 hs10 fun (r3 : Qt15) =>
 (g88 r3.1 r3.2.1 r3.2.2.1 r3.2.2.2.1 r3.2.2.2.2.1 r3.2.2.2.2.2.1 r3.2.2.2.2.2.2.1 r3.2.2.2.2.2.2.2.1 r3.2.2.2.2.2.2.2.2.1 r3.2.2.2.2.2.2.2.2.2.1 r3.2.2.2.2.2.2.2.2.2.2).bind fun (r14 : Bool) =>
 if r14 = true then
 some (x2)
 else
 g150c88L0 k x0 x1 (iop .add .i64 x2 1)
 else
 some ((-1))) := by kernel_rfl
theorem g150c88_eq (x0 : LL) : g150c88 x0 =
 (g150c88L0 FUEL x0 (List.length x0 : Int) 0) := by kernel_rfl

/- slices.ContainsFunc[[]multikernel/api.Node,multikernel/api.Node] -/
noncomputable def F87c88 : Fn := ⟨9, [4], [], [], 0, Tryz.f87, [.c (.slice 11), .clo 88 []], [.c (.bool)], [(150, F150c88.S)]⟩
theorem ok87c88 : F87c88.S.Ok Tryz.prog 87 := F87c88.ok Tryz.func87 (by kernel_rfl) ⟨ok150c88, trivial⟩
noncomputable def g87c88 (x0 : LL) : Option (Bool) := F87c88.S.g [.l x0]
theorem g87c88_eq (x0 : LL) : g87c88 x0 =
 ((g150c88 x0).bind fun (r1 : Int) =>
 some ((cop .geq r1 0))) := by kernel_rfl

/- multikernel/wire.validField$2 -/
noncomputable def F90 : Fn := ⟨6, [2], [], [], 0, Tryz.f90, [.agg [.int .i64, .int .i64, .int .i64]], [.c (.bool)], [(91, F91.S)]⟩
theorem ok90 : F90.S.Ok Tryz.prog 90 := F90.ok Tryz.func90 (by kernel_rfl) ⟨ok91, trivial⟩
noncomputable def g90 (x0 x1 x2 : Int) : Option (Bool) := F90.S.g [.i x0, .i x1, .i x2]
theorem g90_eq (x0 x1 x2 : Int) : g90 x0 x1 x2 =
 ((g91 x0 x1 x2).bind fun (r3 : Bool) =>
 some ((!r3))) := by kernel_rfl

/- slices.IndexFunc[[]multikernel/api.Id,multikernel/api.Id] -/
noncomputable def F126c90 : Fn := ⟨19, [4], [(2, [(0, .c (.slice 3)), (1, .clo 90 []), (7, .c (.int .i64)), (8, .c (.int .i64))])], [], 0, Tryz.f126, [.c (.slice 3), .clo 90 []], [.c (.int .i64)], [(90, F90.S)]⟩
theorem ok126c90 : F126c90.S.Ok Tryz.prog 126 := F126c90.ok Tryz.func126 (by kernel_rfl) ⟨ok90, trivial⟩
noncomputable def g126c90 (x0 : LL) : Option (Int) := F126c90.S.g [.l x0]
noncomputable def g126c90L0 (k : Nat) (x0 : LL) (x1 x2 : Int) : Option (Int) := F126c90.lp [0] 0 r0 k [.l x0, .i x1, .i x2]
theorem g126c90L0_eq (k : Nat) (x0 : LL) (x1 x2 : Int) : g126c90L0 (k + 1) x0 x1 x2 =
 (if (cop .lss x2 x1) = true then
 elemK x0 x2 [.int .i64, .int .i64, .int .i64] fun (r3 : Int × Int × Int) =>
 (g90 r3.1 r3.2.1 r3.2.2).bind fun (r6 : Bool) =>
 if r6 = true then
 some (x2)
 else
 g126c90L0 k x0 x1 (iop .add .i64 x2 1)
 else
 some ((-1))) := by kernel_rfl
theorem g126c90_eq (x0 : LL) : g126c90 x0 =
 (g126c90L0 FUEL x0 (List.length x0 : Int) 0) := by kernel_rfl

/- slices.ContainsFunc[[]multikernel/api.Id,multikernel/api.Id] -/
noncomputable def F57c90 : Fn := ⟨9, [4], [], [], 0, Tryz.f57, [.c (.slice 3), .clo 90 []], [.c (.bool)], [(126, F126c90.S)]⟩
theorem ok57c90 : F57c90.S.Ok Tryz.prog 57 := F57c90.ok Tryz.func57 (by kernel_rfl) ⟨ok126c90, trivial⟩
noncomputable def g57c90 (x0 : LL) : Option (Bool) := F57c90.S.g [.l x0]
theorem g57c90_eq (x0 : LL) : g57c90 x0 =
 ((g126c90 x0).bind fun (r1 : Int) =>
 some ((cop .geq r1 0))) := by kernel_rfl

/- multikernel/wire.validField$3 -/
noncomputable def F93 : Fn := ⟨6, [2], [], [], 0, Tryz.f93, [.c (.int .i64)], [.c (.bool)], [(32, F32.S)]⟩
theorem ok93 : F93.S.Ok Tryz.prog 93 := F93.ok Tryz.func93 (by kernel_rfl) ⟨ok32, trivial⟩
noncomputable def g93 (x0 : Int) : Option (Bool) := F93.S.g [.i x0]
theorem g93_eq (x0 : Int) : g93 x0 =
 ((g32 x0).bind fun (r1 : Bool) =>
 some ((!r1))) := by kernel_rfl

/- slices.IndexFunc[[]int,int] -/
noncomputable def F151c93 : Fn := ⟨19, [4], [(2, [(0, .c (.slice 1)), (1, .clo 93 []), (7, .c (.int .i64)), (8, .c (.int .i64))])], [], 0, Tryz.f151, [.c (.slice 1), .clo 93 []], [.c (.int .i64)], [(93, F93.S)]⟩
theorem ok151c93 : F151c93.S.Ok Tryz.prog 151 := F151c93.ok Tryz.func151 (by kernel_rfl) ⟨ok93, trivial⟩
noncomputable def g151c93 (x0 : LL) : Option (Int) := F151c93.S.g [.l x0]
noncomputable def g151c93L0 (k : Nat) (x0 : LL) (x1 x2 : Int) : Option (Int) := F151c93.lp [0] 0 r0 k [.l x0, .i x1, .i x2]
theorem g151c93L0_eq (k : Nat) (x0 : LL) (x1 x2 : Int) : g151c93L0 (k + 1) x0 x1 x2 =
 (if (cop .lss x2 x1) = true then
 elemK x0 x2 [.int .i64] fun (r3 : Int) =>
 (g93 r3).bind fun (r4 : Bool) =>
 if r4 = true then
 some (x2)
 else
 g151c93L0 k x0 x1 (iop .add .i64 x2 1)
 else
 some ((-1))) := by kernel_rfl
theorem g151c93_eq (x0 : LL) : g151c93 x0 =
 (g151c93L0 FUEL x0 (List.length x0 : Int) 0) := by kernel_rfl

/- slices.ContainsFunc[[]int,int] -/
noncomputable def F92c93 : Fn := ⟨9, [4], [], [], 0, Tryz.f92, [.c (.slice 1), .clo 93 []], [.c (.bool)], [(151, F151c93.S)]⟩
theorem ok92c93 : F92c93.S.Ok Tryz.prog 92 := F92c93.ok Tryz.func92 (by kernel_rfl) ⟨ok151c93, trivial⟩
noncomputable def g92c93 (x0 : LL) : Option (Bool) := F92c93.S.g [.l x0]
theorem g92c93_eq (x0 : LL) : g92c93 x0 =
 ((g151c93 x0).bind fun (r1 : Int) =>
 some ((cop .geq r1 0))) := by kernel_rfl

/- multikernel/wire.validField$4 -/
noncomputable def F95 : Fn := ⟨17, [5], [], [2], 0, Tryz.f95, [.c (.int .i64), .c (.int .i64), .box hs0], [.c (.bool)], []⟩
theorem ok95 : F95.S.Ok Tryz.prog 95 := F95.ok Tryz.func95 (by kernel_rfl) trivial
noncomputable def g95 (x0 x1 x2 x3 x4 x5 x6 x7 x8 x9 x10 x11 x12 : Int) (x13 : Bool) (x14 x15 x16 x17 x18 x19 x20 x21 x22 x23 x24 x25 x26 x27 x28 x29 x30 x31 x32 x33 : Int) (x34 : LL) (x35 x36 x37 x38 x39 x40 : Int) (x41 : Bool) (x42 x43 x44 x45 : LL) (x46 x47 : Int) (x48 x49 x50 x51 x52 x53 x54 x55 : LL) (x56 x57 : Int) (x58 x59 x60 x61 x62 x63 x64 x65 : LL) (x66 : Bool) (x67 : Int) (x68 x69 x70 x71 x72 x73 x74 x75 : LL) : Option (Qt1) := F95.S.g [.i x0, .i x1, .i x2, .i x3, .i x4, .i x5, .i x6, .i x7, .i x8, .i x9, .i x10, .i x11, .i x12, .b x13, .i x14, .i x15, .i x16, .i x17, .i x18, .i x19, .i x20, .i x21, .i x22, .i x23, .i x24, .i x25, .i x26, .i x27, .i x28, .i x29, .i x30, .i x31, .i x32, .i x33, .l x34, .i x35, .i x36, .i x37, .i x38, .i x39, .i x40, .b x41, .l x42, .l x43, .l x44, .l x45, .i x46, .i x47, .l x48, .l x49, .l x50, .l x51, .l x52, .l x53, .l x54, .l x55, .i x56, .i x57, .l x58, .l x59, .l x60, .l x61, .l x62, .l x63, .l x64, .l x65, .b x66, .i x67, .l x68, .l x69, .l x70, .l x71, .l x72, .l x73, .l x74, .l x75]
theorem g95_eq (x0 x1 x2 x3 x4 x5 x6 x7 x8 x9 x10 x11 x12 : Int) (x13 : Bool) (x14 x15 x16 x17 x18 x19 x20 x21 x22 x23 x24 x25 x26 x27 x28 x29 x30 x31 x32 x33 : Int) (x34 : LL) (x35 x36 x37 x38 x39 x40 : Int) (x41 : Bool) (x42 x43 x44 x45 : LL) (x46 x47 : Int) (x48 x49 x50 x51 x52 x53 x54 x55 : LL) (x56 x57 : Int) (x58 x59 x60 x61 x62 x63 x64 x65 : LL) (x66 : Bool) (x67 : Int) (x68 x69 x70 x71 x72 x73 x74 x75 : LL) : g95 x0 x1 x2 x3 x4 x5 x6 x7 x8 x9 x10 x11 x12 x13 x14 x15 x16 x17 x18 x19 x20 x21 x22 x23 x24 x25 x26 x27 x28 x29 x30 x31 x32 x33 x34 x35 x36 x37 x38 x39 x40 x41 x42 x43 x44 x45 x46 x47 x48 x49 x50 x51 x52 x53 x54 x55 x56 x57 x58 x59 x60 x61 x62 x63 x64 x65 x66 x67 x68 x69 x70 x71 x72 x73 x74 x75 =
 (elemK x44 x0 [.int .i64] fun (r76 : Int) =>
 elemK x44 x1 [.int .i64] fun (r77 : Int) =>
 some ((cop .lss r76 r77), x2, x3, x4, x5, x6, x7, x8, x9, x10, x11, x12, x13, x14, x15, x16, x17, x18, x19, x20, x21, x22, x23, x24, x25, x26, x27, x28, x29, x30, x31, x32, x33, x34, x35, x36, x37, x38, x39, x40, x41, x42, x43, x44, x45, x46, x47, x48, x49, x50, x51, x52, x53, x54, x55, x56, x57, x58, x59, x60, x61, x62, x63, x64, x65, x66, x67, x68, x69, x70, x71, x72, x73, x74, x75)) := by kernel_rfl

/- multikernel/wire.ascending -/
noncomputable def F94c95 : Fn := ⟨17, [4], [(2, [(0, .c (.int .i64)), (1, .clo 95 [17]), (5, .c (.int .i64)), (17, .gbox hs0)])], [], 1, Tryz.f94, [.c (.int .i64), .clo 95 [17], .dead, .dead, .dead, .dead, .dead, .dead, .dead, .dead, .dead, .dead, .dead, .dead, .dead, .dead, .dead, .gbox hs0], [.c (.bool)], [(95, F95.S)]⟩
theorem ok94c95 : F94c95.S.Ok Tryz.prog 94 := F94c95.ok Tryz.func94 (by kernel_rfl) ⟨ok95, trivial⟩
noncomputable def g94c95 (x0 x1 x2 x3 x4 x5 x6 x7 x8 x9 x10 x11 : Int) (x12 : Bool) (x13 x14 x15 x16 x17 x18 x19 x20 x21 x22 x23 x24 x25 x26 x27 x28 x29 x30 x31 x32 : Int) (x33 : LL) (x34 x35 x36 x37 x38 x39 : Int) (x40 : Bool) (x41 x42 x43 x44 : LL) (x45 x46 : Int) (x47 x48 x49 x50 x51 x52 x53 x54 : LL) (x55 x56 : Int) (x57 x58 x59 x60 x61 x62 x63 x64 : LL) (x65 : Bool) (x66 : Int) (x67 x68 x69 x70 x71 x72 x73 x74 : LL) : Option (Qt1) := F94c95.S.g [.i x0, .i x1, .i x2, .i x3, .i x4, .i x5, .i x6, .i x7, .i x8, .i x9, .i x10, .i x11, .b x12, .i x13, .i x14, .i x15, .i x16, .i x17, .i x18, .i x19, .i x20, .i x21, .i x22, .i x23, .i x24, .i x25, .i x26, .i x27, .i x28, .i x29, .i x30, .i x31, .i x32, .l x33, .i x34, .i x35, .i x36, .i x37, .i x38, .i x39, .b x40, .l x41, .l x42, .l x43, .l x44, .i x45, .i x46, .l x47, .l x48, .l x49, .l x50, .l x51, .l x52, .l x53, .l x54, .i x55, .i x56, .l x57, .l x58, .l x59, .l x60, .l x61, .l x62, .l x63, .l x64, .b x65, .i x66, .l x67, .l x68, .l x69, .l x70, .l x71, .l x72, .l x73, .l x74]
noncomputable def g94c95L0 (k : Nat) (x0 x1 x2 x3 x4 x5 x6 x7 x8 x9 x10 x11 x12 : Int) (x13 : Bool) (x14 x15 x16 x17 x18 x19 x20 x21 x22 x23 x24 x25 x26 x27 x28 x29 x30 x31 x32 x33 : Int) (x34 : LL) (x35 x36 x37 x38 x39 x40 : Int) (x41 : Bool) (x42 x43 x44 x45 : LL) (x46 x47 : Int) (x48 x49 x50 x51 x52 x53 x54 x55 : LL) (x56 x57 : Int) (x58 x59 x60 x61 x62 x63 x64 x65 : LL) (x66 : Bool) (x67 : Int) (x68 x69 x70 x71 x72 x73 x74 x75 : LL) : Option (Qt1) := F94c95.lp [0] 0 r0 k [.i x0, .i x1, .i x2, .i x3, .i x4, .i x5, .i x6, .i x7, .i x8, .i x9, .i x10, .i x11, .i x12, .b x13, .i x14, .i x15, .i x16, .i x17, .i x18, .i x19, .i x20, .i x21, .i x22, .i x23, .i x24, .i x25, .i x26, .i x27, .i x28, .i x29, .i x30, .i x31, .i x32, .i x33, .l x34, .i x35, .i x36, .i x37, .i x38, .i x39, .i x40, .b x41, .l x42, .l x43, .l x44, .l x45, .i x46, .i x47, .l x48, .l x49, .l x50, .l x51, .l x52, .l x53, .l x54, .l x55, .i x56, .i x57, .l x58, .l x59, .l x60, .l x61, .l x62, .l x63, .l x64, .l x65, .b x66, .i x67, .l x68, .l x69, .l x70, .l x71, .l x72, .l x73, .l x74, .l x75]
theorem g94c95L0_eq (k : Nat) (x0 x1 x2 x3 x4 x5 x6 x7 x8 x9 x10 x11 x12 : Int) (x13 : Bool) (x14 x15 x16 x17 x18 x19 x20 x21 x22 x23 x24 x25 x26 x27 x28 x29 x30 x31 x32 x33 : Int) (x34 : LL) (x35 x36 x37 x38 x39 x40 : Int) (x41 : Bool) (x42 x43 x44 x45 : LL) (x46 x47 : Int) (x48 x49 x50 x51 x52 x53 x54 x55 : LL) (x56 x57 : Int) (x58 x59 x60 x61 x62 x63 x64 x65 : LL) (x66 : Bool) (x67 : Int) (x68 x69 x70 x71 x72 x73 x74 x75 : LL) : g94c95L0 (k + 1) x0 x1 x2 x3 x4 x5 x6 x7 x8 x9 x10 x11 x12 x13 x14 x15 x16 x17 x18 x19 x20 x21 x22 x23 x24 x25 x26 x27 x28 x29 x30 x31 x32 x33 x34 x35 x36 x37 x38 x39 x40 x41 x42 x43 x44 x45 x46 x47 x48 x49 x50 x51 x52 x53 x54 x55 x56 x57 x58 x59 x60 x61 x62 x63 x64 x65 x66 x67 x68 x69 x70 x71 x72 x73 x74 x75 =
 (if (cop .lss x1 x0) = true then
 (g95 (iop .sub .i64 x1 1) x1 x2 x3 x4 x5 x6 x7 x8 x9 x10 x11 x12 x13 x14 x15 x16 x17 x18 x19 x20 x21 x22 x23 x24 x25 x26 x27 x28 x29 x30 x31 x32 x33 x34 x35 x36 x37 x38 x39 x40 x41 x42 x43 x44 x45 x46 x47 x48 x49 x50 x51 x52 x53 x54 x55 x56 x57 x58 x59 x60 x61 x62 x63 x64 x65 x66 x67 x68 x69 x70 x71 x72 x73 x74 x75).bind fun (r76 : Qt1) =>
 if (!r76.1) = true then
 some (false, r76.2.1, r76.2.2.1, r76.2.2.2.1, r76.2.2.2.2.1, r76.2.2.2.2.2.1, r76.2.2.2.2.2.2.1, r76.2.2.2.2.2.2.2.1, r76.2.2.2.2.2.2.2.2.1, r76.2.2.2.2.2.2.2.2.2.1, r76.2.2.2.2.2.2.2.2.2.2.1, r76.2.2.2.2.2.2.2.2.2.2.2.1, (d4 (d8 r76)).1, (d4 (d8 r76)).2.1, (d2 (d4 (d8 r76))).1, (d2 (d4 (d8 r76))).2.1, (d16 r76).1, (d16 r76).2.1, (d2 (d16 r76)).1, (d2 (d16 r76)).2.1, (d4 (d16 r76)).1, (d4 (d16 r76)).2.1, (d2 (d4 (d16 r76))).1, (d2 (d4 (d16 r76))).2.1, (d8 (d16 r76)).1, (d8 (d16 r76)).2.1, (d2 (d8 (d16 r76))).1, (d2 (d8 (d16 r76))).2.1, (d4 (d8 (d16 r76))).1, (d4 (d8 (d16 r76))).2.1, (d2 (d4 (d8 (d16 r76)))).1, (d2 (d4 (d8 (d16 r76)))).2.1, (d16 (d16 r76)).1, (d16 (d16 r76)).2.1, (d2 (d16 (d16 r76))).1, (d2 (d16 (d16 r76))).2.1, (d4 (d16 (d16 r76))).1, (d4 (d16 (d16 r76))).2.1, (d2 (d4 (d16 (d16 r76)))).1, (d2 (d4 (d16 (d16 r76)))).2.1, (d8 (d16 (d16 r76))).1, (d8 (d16 (d16 r76))).2.1, (d2 (d8 (d16 (d16 r76)))).1, (d2 (d8 (d16 (d16 r76)))).2.1, (d4 (d8 (d16 (d16 r76)))).1, (d4 (d8 (d16 (d16 r76)))).2.1, (d2 (d4 (d8 (d16 (d16 r76))))).1, (d2 (d4 (d8 (d16 (d16 r76))))).2.1, (d16 (d16 (d16 r76))).1, (d16 (d16 (d16 r76))).2.1, (d2 (d16 (d16 (d16 r76)))).1, (d2 (d16 (d16 (d16 r76)))).2.1, (d4 (d16 (d16 (d16 r76)))).1, (d4 (d16 (d16 (d16 r76)))).2.1, (d2 (d4 (d16 (d16 (d16 r76))))).1, (d2 (d4 (d16 (d16 (d16 r76))))).2.1, (d8 (d16 (d16 (d16 r76)))).1, (d8 (d16 (d16 (d16 r76)))).2.1, (d2 (d8 (d16 (d16 (d16 r76))))).1, (d2 (d8 (d16 (d16 (d16 r76))))).2.1, (d4 (d8 (d16 (d16 (d16 r76))))).1, (d4 (d8 (d16 (d16 (d16 r76))))).2.1, (d2 (d4 (d8 (d16 (d16 (d16 r76)))))).1, (d2 (d4 (d8 (d16 (d16 (d16 r76)))))).2.1, (d16 (d16 (d16 (d16 r76)))).1, (d16 (d16 (d16 (d16 r76)))).2.1, (d2 (d16 (d16 (d16 (d16 r76))))).1, (d2 (d16 (d16 (d16 (d16 r76))))).2.1, (d4 (d16 (d16 (d16 (d16 r76))))).1, (d4 (d16 (d16 (d16 (d16 r76))))).2.1, (d2 (d4 (d16 (d16 (d16 (d16 r76)))))).1, (d2 (d4 (d16 (d16 (d16 (d16 r76)))))).2.1, (d8 (d16 (d16 (d16 (d16 r76))))).1, (d8 (d16 (d16 (d16 (d16 r76))))).2.1, (d2 (d8 (d16 (d16 (d16 (d16 r76)))))))
 else
 g94c95L0 k x0 (iop .add .i64 x1 1) r76.2.1 r76.2.2.1 r76.2.2.2.1 r76.2.2.2.2.1 r76.2.2.2.2.2.1 r76.2.2.2.2.2.2.1 r76.2.2.2.2.2.2.2.1 r76.2.2.2.2.2.2.2.2.1 r76.2.2.2.2.2.2.2.2.2.1 r76.2.2.2.2.2.2.2.2.2.2.1 r76.2.2.2.2.2.2.2.2.2.2.2.1 (d4 (d8 r76)).1 (d4 (d8 r76)).2.1 (d2 (d4 (d8 r76))).1 (d2 (d4 (d8 r76))).2.1 (d16 r76).1 (d16 r76).2.1 (d2 (d16 r76)).1 (d2 (d16 r76)).2.1 (d4 (d16 r76)).1 (d4 (d16 r76)).2.1 (d2 (d4 (d16 r76))).1 (d2 (d4 (d16 r76))).2.1 (d8 (d16 r76)).1 (d8 (d16 r76)).2.1 (d2 (d8 (d16 r76))).1 (d2 (d8 (d16 r76))).2.1 (d4 (d8 (d16 r76))).1 (d4 (d8 (d16 r76))).2.1 (d2 (d4 (d8 (d16 r76)))).1 (d2 (d4 (d8 (d16 r76)))).2.1 (d16 (d16 r76)).1 (d16 (d16 r76)).2.1 (d2 (d16 (d16 r76))).1 (d2 (d16 (d16 r76))).2.1 (d4 (d16 (d16 r76))).1 (d4 (d16 (d16 r76))).2.1 (d2 (d4 (d16 (d16 r76)))).1 (d2 (d4 (d16 (d16 r76)))).2.1 (d8 (d16 (d16 r76))).1 (d8 (d16 (d16 r76))).2.1 (d2 (d8 (d16 (d16 r76)))).1 (d2 (d8 (d16 (d16 r76)))).2.1 (d4 (d8 (d16 (d16 r76)))).1 (d4 (d8 (d16 (d16 r76)))).2.1 (d2 (d4 (d8 (d16 (d16 r76))))).1 (d2 (d4 (d8 (d16 (d16 r76))))).2.1 (d16 (d16 (d16 r76))).1 (d16 (d16 (d16 r76))).2.1 (d2 (d16 (d16 (d16 r76)))).1 (d2 (d16 (d16 (d16 r76)))).2.1 (d4 (d16 (d16 (d16 r76)))).1 (d4 (d16 (d16 (d16 r76)))).2.1 (d2 (d4 (d16 (d16 (d16 r76))))).1 (d2 (d4 (d16 (d16 (d16 r76))))).2.1 (d8 (d16 (d16 (d16 r76)))).1 (d8 (d16 (d16 (d16 r76)))).2.1 (d2 (d8 (d16 (d16 (d16 r76))))).1 (d2 (d8 (d16 (d16 (d16 r76))))).2.1 (d4 (d8 (d16 (d16 (d16 r76))))).1 (d4 (d8 (d16 (d16 (d16 r76))))).2.1 (d2 (d4 (d8 (d16 (d16 (d16 r76)))))).1 (d2 (d4 (d8 (d16 (d16 (d16 r76)))))).2.1 (d16 (d16 (d16 (d16 r76)))).1 (d16 (d16 (d16 (d16 r76)))).2.1 (d2 (d16 (d16 (d16 (d16 r76))))).1 (d2 (d16 (d16 (d16 (d16 r76))))).2.1 (d4 (d16 (d16 (d16 (d16 r76))))).1 (d4 (d16 (d16 (d16 (d16 r76))))).2.1 (d2 (d4 (d16 (d16 (d16 (d16 r76)))))).1 (d2 (d4 (d16 (d16 (d16 (d16 r76)))))).2.1 (d8 (d16 (d16 (d16 (d16 r76))))).1 (d8 (d16 (d16 (d16 (d16 r76))))).2.1 (d2 (d8 (d16 (d16 (d16 (d16 r76))))))
 else
 some (true, x2, x3, x4, x5, x6, x7, x8, x9, x10, x11, x12, x13, x14, x15, x16, x17, x18, x19, x20, x21, x22, x23, x24, x25, x26, x27, x28, x29, x30, x31, x32, x33, x34, x35, x36, x37, x38, x39, x40, x41, x42, x43, x44, x45, x46, x47, x48, x49, x50, x51, x52, x53, x54, x55, x56, x57, x58, x59, x60, x61, x62, x63, x64, x65, x66, x67, x68, x69, x70, x71, x72, x73, x74, x75)) := by kernel_rfl
theorem g94c95_eq (x0 x1 x2 x3 x4 x5 x6 x7 x8 x9 x10 x11 : Int) (x12 : Bool) (x13 x14 x15 x16 x17 x18 x19 x20 x21 x22 x23 x24 x25 x26 x27 x28 x29 x30 x31 x32 : Int) (x33 : LL) (x34 x35 x36 x37 x38 x39 : Int) (x40 : Bool) (x41 x42 x43 x44 : LL) (x45 x46 : Int) (x47 x48 x49 x50 x51 x52 x53 x54 : LL) (x55 x56 : Int) (x57 x58 x59 x60 x61 x62 x63 x64 : LL) (x65 : Bool) (x66 : Int) (x67 x68 x69 x70 x71 x72 x73 x74 : LL) : g94c95 x0 x1 x2 x3 x4 x5 x6 x7 x8 x9 x10 x11 x12 x13 x14 x15 x16 x17 x18 x19 x20 x21 x22 x23 x24 x25 x26 x27 x28 x29 x30 x31 x32 x33 x34 x35 x36 x37 x38 x39 x40 x41 x42 x43 x44 x45 x46 x47 x48 x49 x50 x51 x52 x53 x54 x55 x56 x57 x58 x59 x60 x61 x62 x63 x64 x65 x66 x67 x68 x69 x70 x71 x72 x73 x74 =
 (g94c95L0 FUEL x0 1 x1 x2 x3 x4 x5 x6 x7 x8 x9 x10 x11 x12 x13 x14 x15 x16 x17 x18 x19 x20 x21 x22 x23 x24 x25 x26 x27 x28 x29 x30 x31 x32 x33 x34 x35 x36 x37 x38 x39 x40 x41 x42 x43 x44 x45 x46 x47 x48 x49 x50 x51 x52 x53 x54 x55 x56 x57 x58 x59 x60 x61 x62 x63 x64 x65 x66 x67 x68 x69 x70 x71 x72 x73 x74) := by kernel_rfl

/- multikernel/wire.validField$5 -/
noncomputable def F99 : Fn := ⟨13, [2], [], [], 0, Tryz.f99, [.agg [.int .i64, .int .i64]], [.c (.bool)], [(48, F48.S), (32, F32.S)]⟩
theorem ok99 : F99.S.Ok Tryz.prog 99 := F99.ok Tryz.func99 (by kernel_rfl) ⟨ok48, ⟨ok32, trivial⟩⟩
noncomputable def g99 (x0 x1 : Int) : Option (Bool) := F99.S.g [.i x0, .i x1]
theorem g99_eq (x0 x1 : Int) : g99 x0 x1 =
 ((g48 x0).bind fun (r2 : Bool) =>
 if (!r2) = true then
 some (true)
 else
 (g32 x1).bind fun (r3 : Bool) =>
 some ((!r3))) := by kernel_rfl

/- slices.IndexFunc[[]multikernel/api.Move,multikernel/api.Move] -/
noncomputable def F154c99 : Fn := ⟨19, [4], [(2, [(0, .c (.slice 2)), (1, .clo 99 []), (7, .c (.int .i64)), (8, .c (.int .i64))])], [], 0, Tryz.f154, [.c (.slice 2), .clo 99 []], [.c (.int .i64)], [(99, F99.S)]⟩
theorem ok154c99 : F154c99.S.Ok Tryz.prog 154 := F154c99.ok Tryz.func154 (by kernel_rfl) ⟨ok99, trivial⟩
noncomputable def g154c99 (x0 : LL) : Option (Int) := F154c99.S.g [.l x0]
noncomputable def g154c99L0 (k : Nat) (x0 : LL) (x1 x2 : Int) : Option (Int) := F154c99.lp [0] 0 r0 k [.l x0, .i x1, .i x2]
theorem g154c99L0_eq (k : Nat) (x0 : LL) (x1 x2 : Int) : g154c99L0 (k + 1) x0 x1 x2 =
 (if (cop .lss x2 x1) = true then
 elemK x0 x2 [.int .i64, .int .i64] fun (r3 : Int × Int) =>
 (g99 r3.1 r3.2).bind fun (r5 : Bool) =>
 if r5 = true then
 some (x2)
 else
 g154c99L0 k x0 x1 (iop .add .i64 x2 1)
 else
 some ((-1))) := by kernel_rfl
theorem g154c99_eq (x0 : LL) : g154c99 x0 =
 (g154c99L0 FUEL x0 (List.length x0 : Int) 0) := by kernel_rfl

/- slices.ContainsFunc[[]multikernel/api.Move,multikernel/api.Move] -/
noncomputable def F98c99 : Fn := ⟨9, [4], [], [], 0, Tryz.f98, [.c (.slice 2), .clo 99 []], [.c (.bool)], [(154, F154c99.S)]⟩
theorem ok98c99 : F98c99.S.Ok Tryz.prog 98 := F98c99.ok Tryz.func98 (by kernel_rfl) ⟨ok154c99, trivial⟩
noncomputable def g98c99 (x0 : LL) : Option (Bool) := F98c99.S.g [.l x0]
theorem g98c99_eq (x0 : LL) : g98c99 x0 =
 ((g154c99 x0).bind fun (r1 : Int) =>
 some ((cop .geq r1 0))) := by kernel_rfl

/- multikernel/wire.validField -/
noncomputable def F33 : Fn := ⟨114, [4], [], [], 0, Tryz.f33, [.agg hs0, .c (.int .i64)], [.c (.bool)], [(48, F48.S), (12, F12.S), (47, F47.S), (86, F86.S), (87, F87c88.S), (89, F89.S), (57, F57c90.S), (31, F31.S), (92, F92c93.S), (94, F94c95.S), (96, F96.S), (97, F97.S), (14, F14.S), (98, F98c99.S)]⟩
theorem ok33 : F33.S.Ok Tryz.prog 33 := F33.ok Tryz.func33 (by kernel_rfl) ⟨ok48, ⟨ok12, ⟨ok47, ⟨ok86, ⟨ok87c88, ⟨ok89, ⟨ok57c90, ⟨ok31, ⟨ok92c93, ⟨ok94c95, ⟨ok96, ⟨ok97, ⟨ok14, ⟨ok98c99, trivial⟩⟩⟩⟩⟩⟩⟩⟩⟩⟩⟩⟩⟩⟩
noncomputable def g33 (x0 x1 x2 x3 x4 x5 x6 x7 x8 x9 x10 : Int) (x11 : Bool) (x12 x13 x14 x15 x16 x17 x18 x19 x20 x21 x22 x23 x24 x25 x26 x27 x28 x29 x30 x31 : Int) (x32 : LL) (x33 x34 x35 x36 x37 x38 : Int) (x39 : Bool) (x40 x41 x42 x43 : LL) (x44 x45 : Int) (x46 x47 x48 x49 x50 x51 x52 x53 : LL) (x54 x55 : Int) (x56 x57 x58 x59 x60 x61 x62 x63 : LL) (x64 : Bool) (x65 : Int) (x66 x67 x68 x69 x70 x71 x72 x73 : LL) (x74 : Int) : Option (Bool) := F33.S.g [.i x0, .i x1, .i x2, .i x3, .i x4, .i x5, .i x6, .i x7, .i x8, .i x9, .i x10, .b x11, .i x12, .i x13, .i x14, .i x15, .i x16, .i x17, .i x18, .i x19, .i x20, .i x21, .i x22, .i x23, .i x24, .i x25, .i x26, .i x27, .i x28, .i x29, .i x30, .i x31, .l x32, .i x33, .i x34, .i x35, .i x36, .i x37, .i x38, .b x39, .l x40, .l x41, .l x42, .l x43, .i x44, .i x45, .l x46, .l x47, .l x48, .l x49, .l x50, .l x51, .l x52, .l x53, .i x54, .i x55, .l x56, .l x57, .l x58, .l x59, .l x60, .l x61, .l x62, .l x63, .b x64, .i x65, .l x66, .l x67, .l x68, .l x69, .l x70, .l x71, .l x72, .l x73, .i x74]
theorem g33_eq (x0 x1 x2 x3 x4 x5 x6 x7 x8 x9 x10 : Int) (x11 : Bool) (x12 x13 x14 x15 x16 x17 x18 x19 x20 x21 x22 x23 x24 x25 x26 x27 x28 x29 x30 x31 : Int) (x32 : LL) (x33 x34 x35 x36 x37 x38 : Int) (x39 : Bool) (x40 x41 x42 x43 : LL) (x44 x45 : Int) (x46 x47 x48 x49 x50 x51 x52 x53 : LL) (x54 x55 : Int) (x56 x57 x58 x59 x60 x61 x62 x63 : LL) (x64 : Bool) (x65 : Int) (x66 x67 x68 x69 x70 x71 x72 x73 : LL) (x74 : Int) : g33 x0 x1 x2 x3 x4 x5 x6 x7 x8 x9 x10 x11 x12 x13 x14 x15 x16 x17 x18 x19 x20 x21 x22 x23 x24 x25 x26 x27 x28 x29 x30 x31 x32 x33 x34 x35 x36 x37 x38 x39 x40 x41 x42 x43 x44 x45 x46 x47 x48 x49 x50 x51 x52 x53 x54 x55 x56 x57 x58 x59 x60 x61 x62 x63 x64 x65 x66 x67 x68 x69 x70 x71 x72 x73 x74 =
 (if (cop .eql x74 0) = true then
 (g48 x5).bind fun (r75 : Bool) =>
 some (r75)
 else
 if (cop .eql x74 1) = true then
 (g12 x12 x13 x14 x15 x16 x17 x18 x19 x20 x21 x22 x23 x24 x25 x26 x27 x28 x29 x30 x31 x32 x33 x34 x35 x36 x37 x38 x39).bind fun (r75 : Bool) =>
 some (r75)
 else
 if (cop .eql x74 2) = true then
 (g47 x7 x8 x9).bind fun (r75 : Bool) =>
 some (r75)
 else
 if (cop .eql x74 3) = true then
 (g86 x10).bind fun (r75 : Bool) =>
 some (r75)
 else
 if (cop .eql x74 5) = true then
 if (cop .gtr (List.length x41 : Int) 8) = true then
 some (false)
 else
 if (cop .eql x0 4) = true then
 if (cop .neq (List.length x41 : Int) 1) = true then
 some (false)
 else
 (g87c88 x41).bind fun (r75 : Bool) =>
 some ((!r75))
 else
 (g87c88 x41).bind fun (r75 : Bool) =>
 some ((!r75))
 else
 if (cop .eql x74 6) = true then
 (g89 x6).bind fun (r75 : Bool) =>
 some (r75)
 else
 if (cop .eql x74 7) = true then
 if (cop .leq (List.length x40 : Int) 64) = true then
 (g57c90 x40).bind fun (r75 : Bool) =>
 some ((!r75))
 else
 some (false)
 else
 if (cop .eql x74 8) = true then
 (g31 x4).bind fun (r75 : Bool) =>
 some (r75)
 else
 if (cop .eql x74 9) = true then
 (g92c93 x42).bind fun (r75 : Bool) =>
 if (!r75) = true then
 (g94c95 (List.length x42 : Int) x0 x1 x2 x3 x4 x5 x6 x7 x8 x9 x10 x11 x12 x13 x14 x15 x16 x17 x18 x19 x20 x21 x22 x23 x24 x25 x26 x27 x28 x29 x30 x31 x32 x33 x34 x35 x36 x37 x38 x39 x40 x41 x42 x43 x44 x45 x46 x47 x48 x49 x50 x51 x52 x53 x54 x55 x56 x57 x58 x59 x60 x61 x62 x63 x64 x65 x66 x67 x68 x69 x70 x71 x72 x73).bind fun (r76 : Qt1) =>
 some (r76.1)
 else
 some (false)
 else
 if (cop .eql x74 10) = true then
 (g96 x54 x55 x56 x57 x58 x59 x60 x61 x62 x63 x64 x65 x66 x67 x68 x69 x70 x71 x72 x73).bind fun (r75 : Bool) =>
 some (r75)
 else
 if (cop .eql x74 11) = true then
 (g31 x44).bind fun (r75 : Bool) =>
 some (r75)
 else
 if (cop .eql x74 12) = true then
 (g97 x45 x46 x47).bind fun (r75 : Bool) =>
 some (r75)
 else
 if (cop .eql x74 13) = true then
 (g14 x48 x49 x50 x51 x52 x53).bind fun (r75 : Bool) =>
 some (r75)
 else
 if (cop .eql x74 14) = true then
 if (cop .leq (List.length x43 : Int) 16) = true then
 (g98c99 x43).bind fun (r75 : Bool) =>
 some ((!r75))
 else
 some (false)
 else
 some (true)) := by kernel_rfl

/- multikernel/wire.clearField -/
noncomputable def F34 : Fn := ⟨85, [], [], [0], 0, Tryz.f34, [.box hs0, .c (.int .i64)], [], []⟩
theorem ok34 : F34.S.Ok Tryz.prog 34 := F34.ok Tryz.func34 (by kernel_rfl) trivial
noncomputable def g34 (x0 x1 x2 x3 x4 x5 x6 x7 x8 x9 x10 : Int) (x11 : Bool) (x12 x13 x14 x15 x16 x17 x18 x19 x20 x21 x22 x23 x24 x25 x26 x27 x28 x29 x30 x31 : Int) (x32 : LL) (x33 x34 x35 x36 x37 x38 : Int) (x39 : Bool) (x40 x41 x42 x43 : LL) (x44 x45 : Int) (x46 x47 x48 x49 x50 x51 x52 x53 : LL) (x54 x55 : Int) (x56 x57 x58 x59 x60 x61 x62 x63 : LL) (x64 : Bool) (x65 : Int) (x66 x67 x68 x69 x70 x71 x72 x73 : LL) (x74 : Int) : Option (Qt3) := F34.S.g [.i x0, .i x1, .i x2, .i x3, .i x4, .i x5, .i x6, .i x7, .i x8, .i x9, .i x10, .b x11, .i x12, .i x13, .i x14, .i x15, .i x16, .i x17, .i x18, .i x19, .i x20, .i x21, .i x22, .i x23, .i x24, .i x25, .i x26, .i x27, .i x28, .i x29, .i x30, .i x31, .l x32, .i x33, .i x34, .i x35, .i x36, .i x37, .i x38, .b x39, .l x40, .l x41, .l x42, .l x43, .i x44, .i x45, .l x46, .l x47, .l x48, .l x49, .l x50, .l x51, .l x52, .l x53, .i x54, .i x55, .l x56, .l x57, .l x58, .l x59, .l x60, .l x61, .l x62, .l x63, .b x64, .i x65, .l x66, .l x67, .l x68, .l x69, .l x70, .l x71, .l x72, .l x73, .i x74]
theorem g34_eq (x0 x1 x2 x3 x4 x5 x6 x7 x8 x9 x10 : Int) (x11 : Bool) (x12 x13 x14 x15 x16 x17 x18 x19 x20 x21 x22 x23 x24 x25 x26 x27 x28 x29 x30 x31 : Int) (x32 : LL) (x33 x34 x35 x36 x37 x38 : Int) (x39 : Bool) (x40 x41 x42 x43 : LL) (x44 x45 : Int) (x46 x47 x48 x49 x50 x51 x52 x53 : LL) (x54 x55 : Int) (x56 x57 x58 x59 x60 x61 x62 x63 : LL) (x64 : Bool) (x65 : Int) (x66 x67 x68 x69 x70 x71 x72 x73 : LL) (x74 : Int) : g34 x0 x1 x2 x3 x4 x5 x6 x7 x8 x9 x10 x11 x12 x13 x14 x15 x16 x17 x18 x19 x20 x21 x22 x23 x24 x25 x26 x27 x28 x29 x30 x31 x32 x33 x34 x35 x36 x37 x38 x39 x40 x41 x42 x43 x44 x45 x46 x47 x48 x49 x50 x51 x52 x53 x54 x55 x56 x57 x58 x59 x60 x61 x62 x63 x64 x65 x66 x67 x68 x69 x70 x71 x72 x73 x74 =
 (if (cop .eql x74 0) = true then
 some (x0, x1, x2, x3, x4, 0, x6, x7, x8, x9, x10, x11, x12, x13, x14, x15, x16, x17, x18, x19, x20, x21, x22, x23, x24, x25, x26, x27, x28, x29, x30, x31, x32, x33, x34, x35, x36, x37, x38, x39, x40, x41, x42, x43, x44, x45, x46, x47, x48, x49, x50, x51, x52, x53, x54, x55, x56, x57, x58, x59, x60, x61, x62, x63, x64, x65, x66, x67, x68, x69, x70, x71, x72, x73)
 else
 if (cop .eql x74 1) = true then
 some (x0, x1, x2, x3, x4, x5, x6, x7, x8, x9, x10, x11, 0, 0, 0, 0, 0, 0, 0, 0, 0, 0, 0, 0, 0, 0, 0, 0, 0, 0, 0, 0, ([] : LL), 0, 0, 0, 0, 0, 0, false, x40, x41, x42, x43, x44, x45, x46, x47, x48, x49, x50, x51, x52, x53, x54, x55, x56, x57, x58, x59, x60, x61, x62, x63, x64, x65, x66, x67, x68, x69, x70, x71, x72, x73)
 else
 if (cop .eql x74 2) = true then
 some (x0, x1, x2, x3, x4, x5, x6, 0, 0, 0, x10, x11, x12, x13, x14, x15, x16, x17, x18, x19, x20, x21, x22, x23, x24, x25, x26, x27, x28, x29, x30, x31, x32, x33, x34, x35, x36, x37, x38, x39, x40, x41, x42, x43, x44, x45, x46, x47, x48, x49, x50, x51, x52, x53, x54, x55, x56, x57, x58, x59, x60, x61, x62, x63, x64, x65, x66, x67, x68, x69, x70, x71, x72, x73)
 else
 if (cop .eql x74 3) = true then
 some (x0, x1, x2, x3, x4, x5, x6, x7, x8, x9, 0, x11, x12, x13, x14, x15, x16, x17, x18, x19, x20, x21, x22, x23, x24, x25, x26, x27, x28, x29, x30, x31, x32, x33, x34, x35, x36, x37, x38, x39, x40, x41, x42, x43, x44, x45, x46, x47, x48, x49, x50, x51, x52, x53, x54, x55, x56, x57, x58, x59, x60, x61, x62, x63, x64, x65, x66, x67, x68, x69, x70, x71, x72, x73)
 else
 if (cop .eql x74 4) = true then
 some (x0, x1, x2, x3, x4, x5, x6, x7, x8, x9, x10, false, x12, x13, x14, x15, x16, x17, x18, x19, x20, x21, x22, x23, x24, x25, x26, x27, x28, x29, x30, x31, x32, x33, x34, x35, x36, x37, x38, x39, x40, x41, x42, x43, x44, x45, x46, x47, x48, x49, x50, x51, x52, x53, x54, x55, x56, x57, x58, x59, x60, x61, x62, x63, x64, x65, x66, x67, x68, x69, x70, x71, x72, x73)
 else
 if (cop .eql x74 5) = true then
 some (x0, x1, x2, x3, x4, x5, x6, x7, x8, x9, x10, x11, x12, x13, x14, x15, x16, x17, x18, x19, x20, x21, x22, x23, x24, x25, x26, x27, x28, x29, x30, x31, x32, x33, x34, x35, x36, x37, x38, x39, x40, ([] : LL), x42, x43, x44, x45, x46, x47, x48, x49, x50, x51, x52, x53, x54, x55, x56, x57, x58, x59, x60, x61, x62, x63, x64, x65, x66, x67, x68, x69, x70, x71, x72, x73)
 else
 if (cop .eql x74 6) = true then
 some (x0, x1, x2, x3, x4, x5, 0, x7, x8, x9, x10, x11, x12, x13, x14, x15, x16, x17, x18, x19, x20, x21, x22, x23, x24, x25, x26, x27, x28, x29, x30, x31, x32, x33, x34, x35, x36, x37, x38, x39, x40, x41, x42, x43, x44, x45, x46, x47, x48, x49, x50, x51, x52, x53, x54, x55, x56, x57, x58, x59, x60, x61, x62, x63, x64, x65, x66, x67, x68, x69, x70, x71, x72, x73)
 else
 if (cop .eql x74 7) = true then
 some (x0, x1, x2, x3, x4, x5, x6, x7, x8, x9, x10, x11, x12, x13, x14, x15, x16, x17, x18, x19, x20, x21, x22, x23, x24, x25, x26, x27, x28, x29, x30, x31, x32, x33, x34, x35, x36, x37, x38, x39, ([] : LL), x41, x42, x43, x44, x45, x46, x47, x48, x49, x50, x51, x52, x53, x54, x55, x56, x57, x58, x59, x60, x61, x62, x63, x64, x65, x66, x67, x68, x69, x70, x71, x72, x73)
 else
 if (cop .eql x74 8) = true then
 some (x0, x1, x2, x3, 0, x5, x6, x7, x8, x9, x10, x11, x12, x13, x14, x15, x16, x17, x18, x19, x20, x21, x22, x23, x24, x25, x26, x27, x28, x29, x30, x31, x32, x33, x34, x35, x36, x37, x38, x39, x40, x41, x42, x43, x44, x45, x46, x47, x48, x49, x50, x51, x52, x53, x54, x55, x56, x57, x58, x59, x60, x61, x62, x63, x64, x65, x66, x67, x68, x69, x70, x71, x72, x73)
 else
 if (cop .eql x74 9) = true then
 some (x0, x1, x2, x3, x4, x5, x6, x7, x8, x9, x10, x11, x12, x13, x14, x15, x16, x17, x18, x19, x20, x21, x22, x23, x24, x25, x26, x27, x28, x29, x30, x31, x32, x33, x34, x35, x36, x37, x38, x39, x40, x41, ([] : LL), x43, x44, x45, x46, x47, x48, x49, x50, x51, x52, x53, x54, x55, x56, x57, x58, x59, x60, x61, x62, x63, x64, x65, x66, x67, x68, x69, x70, x71, x72, x73)
 else
 if (cop .eql x74 10) = true then
 some (x0, x1, x2, x3, x4, x5, x6, x7, x8, x9, x10, x11, x12, x13, x14, x15, x16, x17, x18, x19, x20, x21, x22, x23, x24, x25, x26, x27, x28, x29, x30, x31, x32, x33, x34, x35, x36, x37, x38, x39, x40, x41, x42, x43, x44, x45, x46, x47, x48, x49, x50, x51, x52, x53, 0, 0, ([] : LL), ([] : LL), ([] : LL), ([] : LL), ([] : LL), ([] : LL), ([] : LL), ([] : LL), false, 0, ([] : LL), ([] : LL), ([] : LL), ([] : LL), ([] : LL), ([] : LL), ([] : LL), ([] : LL))
 else
 if (cop .eql x74 11) = true then
 some (x0, x1, x2, x3, x4, x5, x6, x7, x8, x9, x10, x11, x12, x13, x14, x15, x16, x17, x18, x19, x20, x21, x22, x23, x24, x25, x26, x27, x28, x29, x30, x31, x32, x33, x34, x35, x36, x37, x38, x39, x40, x41, x42, x43, 0, x45, x46, x47, x48, x49, x50, x51, x52, x53, x54, x55, x56, x57, x58, x59, x60, x61, x62, x63, x64, x65, x66, x67, x68, x69, x70, x71, x72, x73)
 else
 if (cop .eql x74 12) = true then
 some (x0, x1, x2, x3, x4, x5, x6, x7, x8, x9, x10, x11, x12, x13, x14, x15, x16, x17, x18, x19, x20, x21, x22, x23, x24, x25, x26, x27, x28, x29, x30, x31, x32, x33, x34, x35, x36, x37, x38, x39, x40, x41, x42, x43, x44, 0, ([] : LL), ([] : LL), x48, x49, x50, x51, x52, x53, x54, x55, x56, x57, x58, x59, x60, x61, x62, x63, x64, x65, x66, x67, x68, x69, x70, x71, x72, x73)
 else
 if (cop .eql x74 13) = true then
 some (x0, x1, x2, x3, x4, x5, x6, x7, x8, x9, x10, x11, x12, x13, x14, x15, x16, x17, x18, x19, x20, x21, x22, x23, x24, x25, x26, x27, x28, x29, x30, x31, x32, x33, x34, x35, x36, x37, x38, x39, x40, x41, x42, x43, x44, x45, x46, x47, ([] : LL), ([] : LL), ([] : LL), ([] : LL), ([] : LL), ([] : LL), x54, x55, x56, x57, x58, x59, x60, x61, x62, x63, x64, x65, x66, x67, x68, x69, x70, x71, x72, x73)
 else
 if (cop .eql x74 14) = true then
 some (x0, x1, x2, x3, x4, x5, x6, x7, x8, x9, x10, x11, x12, x13, x14, x15, x16, x17, x18, x19, x20, x21, x22, x23, x24, x25, x26, x27, x28, x29, x30, x31, x32, x33, x34, x35, x36, x37, x38, x39, x40, x41, x42, ([] : LL), x44, x45, x46, x47, x48, x49, x50, x51, x52, x53, x54, x55, x56, x57, x58, x59, x60, x61, x62, x63, x64, x65, x66, x67, x68, x69, x70, x71, x72, x73)
 else
 some (x0, x1, x2, x3, x4, x5, x6, x7, x8, x9, x10, x11, x12, x13, x14, x15, x16, x17, x18, x19, x20, x21, x22, x23, x24, x25, x26, x27, x28, x29, x30, x31, x32, x33, x34, x35, x36, x37, x38, x39, x40, x41, x42, x43, x44, x45, x46, x47, x48, x49, x50, x51, x52, x53, x54, x55, x56, x57, x58, x59, x60, x61, x62, x63, x64, x65, x66, x67, x68, x69, x70, x71, x72, x73)) := by kernel_rfl

/- multikernel/wire.zeroRequest -/
noncomputable def F100 : Fn := ⟨29, [2], [], [], 0, Tryz.f100, [.agg hs4], [.c (.bool)], [(49, F49.S)]⟩
theorem ok100 : F100.S.Ok Tryz.prog 100 := F100.ok Tryz.func100 (by kernel_rfl) ⟨ok49, trivial⟩
noncomputable def g100 (x0 x1 x2 x3 x4 x5 x6 x7 x8 x9 x10 x11 x12 x13 x14 x15 x16 x17 x18 x19 : Int) (x20 : LL) (x21 x22 x23 x24 x25 x26 : Int) (x27 : Bool) : Option (Bool) := F100.S.g [.i x0, .i x1, .i x2, .i x3, .i x4, .i x5, .i x6, .i x7, .i x8, .i x9, .i x10, .i x11, .i x12, .i x13, .i x14, .i x15, .i x16, .i x17, .i x18, .i x19, .l x20, .i x21, .i x22, .i x23, .i x24, .i x25, .i x26, .b x27]
theorem g100_eq (x0 x1 x2 x3 x4 x5 x6 x7 x8 x9 x10 x11 x12 x13 x14 x15 x16 x17 x18 x19 : Int) (x20 : LL) (x21 x22 x23 x24 x25 x26 : Int) (x27 : Bool) : g100 x0 x1 x2 x3 x4 x5 x6 x7 x8 x9 x10 x11 x12 x13 x14 x15 x16 x17 x18 x19 x20 x21 x22 x23 x24 x25 x26 x27 =
 (if ((cop .eql x0 0) && ((cop .eql x1 0) && ((cop .eql x2 0) && true))) = true then
 if ((cop .eql x3 0) && ((cop .eql x4 0) && ((cop .eql x5 0) && ((cop .eql x6 0) && ((cop .eql x7 0) && ((cop .eql x8 0) && ((cop .eql x9 0) && ((cop .eql x10 0) && ((cop .eql x11 0) && ((cop .eql x12 0) && ((cop .eql x13 0) && ((cop .eql x14 0) && true)))))))))))) = true then
 if (cop .eql x15 0) = true then
 if (cop .eql x16 0) = true then
 (g49 x17 x18 x19 x20 x21 x22 x23 x24 x25 x26 x27 0 0 0 ([] : LL) 0 0 0 0 0 0 false).bind fun (r28 : Bool) =>
 some (r28)
 else
 some (false)
 else
 some (false)
 else
 some (false)
 else
 some (false)) := by kernel_rfl

/- multikernel/wire.zeroView -/
noncomputable def F101 : Fn := ⟨18, [2], [], [], 0, Tryz.f101, [.agg [.int .i64, .slice 1, .slice 1]], [.c (.bool)], []⟩
theorem ok101 : F101.S.Ok Tryz.prog 101 := F101.ok Tryz.func101 (by kernel_rfl) trivial
noncomputable def g101 (x0 : Int) (x1 x2 : LL) : Option (Bool) := F101.S.g [.i x0, .l x1, .l x2]
theorem g101_eq (x0 : Int) (x1 x2 : LL) : g101 x0 x1 x2 =
 (if (cop .eql x0 0) = true then
 if (cop .eql (List.length x1 : Int) 0) = true then
 some ((cop .eql (List.length x2 : Int) 0))
 else
 some (false)
 else
 some (false)) := by kernel_rfl

/- multikernel/wire.zeroState -/
noncomputable def F102 : Fn := ⟨37, [2], [], [], 0, Tryz.f102, [.agg hs14], [.c (.bool)], []⟩
theorem ok102 : F102.S.Ok Tryz.prog 102 := F102.ok Tryz.func102 (by kernel_rfl) trivial
noncomputable def g102 (x0 x1 x2 x3 x4 x5 : LL) : Option (Bool) := F102.S.g [.l x0, .l x1, .l x2, .l x3, .l x4, .l x5]
theorem g102_eq (x0 x1 x2 x3 x4 x5 : LL) : g102 x0 x1 x2 x3 x4 x5 =
 (if (cop .eql (List.length x0 : Int) 0) = true then
 if (cop .eql (List.length x1 : Int) 0) = true then
 if (cop .eql (List.length x2 : Int) 0) = true then
 if (cop .eql (List.length x3 : Int) 0) = true then
 if (cop .eql (List.length x4 : Int) 0) = true then
 some ((cop .eql (List.length x5 : Int) 0))
 else
 some (false)
 else
 some (false)
 else
 some (false)
 else
 some (false)
 else
 some (false)) := by kernel_rfl

/- multikernel/wire.zeroReport -/
noncomputable def F103 : Fn := ⟨31, [2], [], [], 0, Tryz.f103, [.agg hs5], [.c (.bool)], [(101, F101.S), (102, F102.S)]⟩
theorem ok103 : F103.S.Ok Tryz.prog 103 := F103.ok Tryz.func103 (by kernel_rfl) ⟨ok101, ⟨ok102, trivial⟩⟩
noncomputable def g103 (x0 x1 : Int) (x2 x3 x4 x5 x6 x7 x8 x9 : LL) (x10 : Bool) (x11 : Int) (x12 x13 x14 x15 x16 x17 x18 x19 : LL) : Option (Bool) := F103.S.g [.i x0, .i x1, .l x2, .l x3, .l x4, .l x5, .l x6, .l x7, .l x8, .l x9, .b x10, .i x11, .l x12, .l x13, .l x14, .l x15, .l x16, .l x17, .l x18, .l x19]
theorem g103_eq (x0 x1 : Int) (x2 x3 x4 x5 x6 x7 x8 x9 : LL) (x10 : Bool) (x11 : Int) (x12 x13 x14 x15 x16 x17 x18 x19 : LL) : g103 x0 x1 x2 x3 x4 x5 x6 x7 x8 x9 x10 x11 x12 x13 x14 x15 x16 x17 x18 x19 =
 (if (cop .eql x0 0) = true then
 (g101 x1 x2 x3).bind fun (r20 : Bool) =>
 if r20 = true then
 (g102 x4 x5 x6 x7 x8 x9).bind fun (r21 : Bool) =>
 if r21 = true then
 if (!x10) = true then
 (g101 x11 x12 x13).bind fun (r22 : Bool) =>
 if r22 = true then
 (g102 x14 x15 x16 x17 x18 x19).bind fun (r23 : Bool) =>
 some (r23)
 else
 some (false)
 else
 some (false)
 else
 some (false)
 else
 some (false)
 else
 some (false)) := by kernel_rfl

/- multikernel/wire.zeroBody -/
noncomputable def F35 : Fn := ⟨81, [2], [], [], 0, Tryz.f35, [.agg hs0], [.c (.bool)], [(100, F100.S), (101, F101.S), (102, F102.S), (103, F103.S)]⟩
theorem ok35 : F35.S.Ok Tryz.prog 35 := F35.ok Tryz.func35 (by kernel_rfl) ⟨ok100, ⟨ok101, ⟨ok102, ⟨ok103, trivial⟩⟩⟩⟩
noncomputable def g35 (x0 x1 x2 x3 x4 x5 x6 x7 x8 x9 x10 : Int) (x11 : Bool) (x12 x13 x14 x15 x16 x17 x18 x19 x20 x21 x22 x23 x24 x25 x26 x27 x28 x29 x30 x31 : Int) (x32 : LL) (x33 x34 x35 x36 x37 x38 : Int) (x39 : Bool) (x40 x41 x42 x43 : LL) (x44 x45 : Int) (x46 x47 x48 x49 x50 x51 x52 x53 : LL) (x54 x55 : Int) (x56 x57 x58 x59 x60 x61 x62 x63 : LL) (x64 : Bool) (x65 : Int) (x66 x67 x68 x69 x70 x71 x72 x73 : LL) : Option (Bool) := F35.S.g [.i x0, .i x1, .i x2, .i x3, .i x4, .i x5, .i x6, .i x7, .i x8, .i x9, .i x10, .b x11, .i x12, .i x13, .i x14, .i x15, .i x16, .i x17, .i x18, .i x19, .i x20, .i x21, .i x22, .i x23, .i x24, .i x25, .i x26, .i x27, .i x28, .i x29, .i x30, .i x31, .l x32, .i x33, .i x34, .i x35, .i x36, .i x37, .i x38, .b x39, .l x40, .l x41, .l x42, .l x43, .i x44, .i x45, .l x46, .l x47, .l x48, .l x49, .l x50, .l x51, .l x52, .l x53, .i x54, .i x55, .l x56, .l x57, .l x58, .l x59, .l x60, .l x61, .l x62, .l x63, .b x64, .i x65, .l x66, .l x67, .l x68, .l x69, .l x70, .l x71, .l x72, .l x73]
theorem g35_eq (x0 x1 x2 x3 x4 x5 x6 x7 x8 x9 x10 : Int) (x11 : Bool) (x12 x13 x14 x15 x16 x17 x18 x19 x20 x21 x22 x23 x24 x25 x26 x27 x28 x29 x30 x31 : Int) (x32 : LL) (x33 x34 x35 x36 x37 x38 : Int) (x39 : Bool) (x40 x41 x42 x43 : LL) (x44 x45 : Int) (x46 x47 x48 x49 x50 x51 x52 x53 : LL) (x54 x55 : Int) (x56 x57 x58 x59 x60 x61 x62 x63 : LL) (x64 : Bool) (x65 : Int) (x66 x67 x68 x69 x70 x71 x72 x73 : LL) : g35 x0 x1 x2 x3 x4 x5 x6 x7 x8 x9 x10 x11 x12 x13 x14 x15 x16 x17 x18 x19 x20 x21 x22 x23 x24 x25 x26 x27 x28 x29 x30 x31 x32 x33 x34 x35 x36 x37 x38 x39 x40 x41 x42 x43 x44 x45 x46 x47 x48 x49 x50 x51 x52 x53 x54 x55 x56 x57 x58 x59 x60 x61 x62 x63 x64 x65 x66 x67 x68 x69 x70 x71 x72 x73 =
 (if (cop .eql x4 0) = true then
 if (cop .eql x5 0) = true then
 if (cop .eql x6 0) = true then
 if ((cop .eql x7 0) && ((cop .eql x8 0) && ((cop .eql x9 0) && true))) = true then
 if (cop .eql x10 0) = true then
 if (!x11) = true then
 (g100 x12 x13 x14 x15 x16 x17 x18 x19 x20 x21 x22 x23 x24 x25 x26 x27 x28 x29 x30 x31 x32 x33 x34 x35 x36 x37 x38 x39).bind fun (r74 : Bool) =>
 if r74 = true then
 if (cop .eql (List.length x40 : Int) 0) = true then
 if (cop .eql (List.length x41 : Int) 0) = true then
 if (cop .eql (List.length x42 : Int) 0) = true then
 if (cop .eql (List.length x43 : Int) 0) = true then
 if (cop .eql x44 0) = true then
 (g101 x45 x46 x47).bind fun (r75 : Bool) =>
 if r75 = true then
 (g102 x48 x49 x50 x51 x52 x53).bind fun (r76 : Bool) =>
 if r76 = true then
 (g103 x54 x55 x56 x57 x58 x59 x60 x61 x62 x63 x64 x65 x66 x67 x68 x69 x70 x71 x72 x73).bind fun (r77 : Bool) =>
 some (r77)
 else
 some (false)
 else
 some (false)
 else
 some (false)
 else
 some (false)
 else
 some (false)
 else
 some (false)
 else
 some (false)
 else
 some (false)
 else
 some (false)
 else
 some (false)
 else
 some (false)
 else
 some (false)
 else
 some (false)
 else
 some (false)) := by kernel_rfl

/- multikernel/wire.Valid -/
noncomputable def F9 : Fn := ⟨50, [2], [(6, [(1, .box hs0), (5, .box hs0), (35, .c (.slice 1)), (36, .c (.int .i64)), (37, .c (.int .i64))])], [], 0, Tryz.f9, [.agg hs0], [.c (.bool)], [(19, F19.S), (31, F31.S), (32, F32.S), (33, F33.S), (34, F34.S), (35, F35.S)]⟩
theorem ok9 : F9.S.Ok Tryz.prog 9 := F9.ok Tryz.func9 (by kernel_rfl) ⟨ok19, ⟨ok31, ⟨ok32, ⟨ok33, ⟨ok34, ⟨ok35, trivial⟩⟩⟩⟩⟩⟩
noncomputable def g9 (x0 x1 x2 x3 x4 x5 x6 x7 x8 x9 x10 : Int) (x11 : Bool) (x12 x13 x14 x15 x16 x17 x18 x19 x20 x21 x22 x23 x24 x25 x26 x27 x28 x29 x30 x31 : Int) (x32 : LL) (x33 x34 x35 x36 x37 x38 : Int) (x39 : Bool) (x40 x41 x42 x43 : LL) (x44 x45 : Int) (x46 x47 x48 x49 x50 x51 x52 x53 : LL) (x54 x55 : Int) (x56 x57 x58 x59 x60 x61 x62 x63 : LL) (x64 : Bool) (x65 : Int) (x66 x67 x68 x69 x70 x71 x72 x73 : LL) : Option (Bool) := F9.S.g [.i x0, .i x1, .i x2, .i x3, .i x4, .i x5, .i x6, .i x7, .i x8, .i x9, .i x10, .b x11, .i x12, .i x13, .i x14, .i x15, .i x16, .i x17, .i x18, .i x19, .i x20, .i x21, .i x22, .i x23, .i x24, .i x25, .i x26, .i x27, .i x28, .i x29, .i x30, .i x31, .l x32, .i x33, .i x34, .i x35, .i x36, .i x37, .i x38, .b x39, .l x40, .l x41, .l x42, .l x43, .i x44, .i x45, .l x46, .l x47, .l x48, .l x49, .l x50, .l x51, .l x52, .l x53, .i x54, .i x55, .l x56, .l x57, .l x58, .l x59, .l x60, .l x61, .l x62, .l x63, .b x64, .i x65, .l x66, .l x67, .l x68, .l x69, .l x70, .l x71, .l x72, .l x73]
noncomputable def g9L0 (k : Nat) (x0 x1 x2 x3 x4 x5 x6 x7 x8 x9 x10 : Int) (x11 : Bool) (x12 x13 x14 x15 x16 x17 x18 x19 x20 x21 x22 x23 x24 x25 x26 x27 x28 x29 x30 x31 : Int) (x32 : LL) (x33 x34 x35 x36 x37 x38 : Int) (x39 : Bool) (x40 x41 x42 x43 : LL) (x44 x45 : Int) (x46 x47 x48 x49 x50 x51 x52 x53 : LL) (x54 x55 : Int) (x56 x57 x58 x59 x60 x61 x62 x63 : LL) (x64 : Bool) (x65 : Int) (x66 x67 x68 x69 x70 x71 x72 x73 : LL) (x74 x75 x76 x77 x78 x79 x80 x81 x82 x83 x84 : Int) (x85 : Bool) (x86 x87 x88 x89 x90 x91 x92 x93 x94 x95 x96 x97 x98 x99 x100 x101 x102 x103 x104 x105 : Int) (x106 : LL) (x107 x108 x109 x110 x111 x112 : Int) (x113 : Bool) (x114 x115 x116 x117 : LL) (x118 x119 : Int) (x120 x121 x122 x123 x124 x125 x126 x127 : LL) (x128 x129 : Int) (x130 x131 x132 x133 x134 x135 x136 x137 : LL) (x138 : Bool) (x139 : Int) (x140 x141 x142 x143 x144 x145 x146 x147 x148 : LL) (x149 x150 : Int) : Option (Bool) := F9.lp [0, 1, 0, 1, 0, 1, 0, 1, 0] 0 r0 k [.i x0, .i x1, .i x2, .i x3, .i x4, .i x5, .i x6, .i x7, .i x8, .i x9, .i x10, .b x11, .i x12, .i x13, .i x14, .i x15, .i x16, .i x17, .i x18, .i x19, .i x20, .i x21, .i x22, .i x23, .i x24, .i x25, .i x26, .i x27, .i x28, .i x29, .i x30, .i x31, .l x32, .i x33, .i x34, .i x35, .i x36, .i x37, .i x38, .b x39, .l x40, .l x41, .l x42, .l x43, .i x44, .i x45, .l x46, .l x47, .l x48, .l x49, .l x50, .l x51, .l x52, .l x53, .i x54, .i x55, .l x56, .l x57, .l x58, .l x59, .l x60, .l x61, .l x62, .l x63, .b x64, .i x65, .l x66, .l x67, .l x68, .l x69, .l x70, .l x71, .l x72, .l x73, .i x74, .i x75, .i x76, .i x77, .i x78, .i x79, .i x80, .i x81, .i x82, .i x83, .i x84, .b x85, .i x86, .i x87, .i x88, .i x89, .i x90, .i x91, .i x92, .i x93, .i x94, .i x95, .i x96, .i x97, .i x98, .i x99, .i x100, .i x101, .i x102, .i x103, .i x104, .i x105, .l x106, .i x107, .i x108, .i x109, .i x110, .i x111, .i x112, .b x113, .l x114, .l x115, .l x116, .l x117, .i x118, .i x119, .l x120, .l x121, .l x122, .l x123, .l x124, .l x125, .l x126, .l x127, .i x128, .i x129, .l x130, .l x131, .l x132, .l x133, .l x134, .l x135, .l x136, .l x137, .b x138, .i x139, .l x140, .l x141, .l x142, .l x143, .l x144, .l x145, .l x146, .l x147, .l x148, .i x149, .i x150]
theorem g9L0_eq (k : Nat) (x0 x1 x2 x3 x4 x5 x6 x7 x8 x9 x10 : Int) (x11 : Bool) (x12 x13 x14 x15 x16 x17 x18 x19 x20 x21 x22 x23 x24 x25 x26 x27 x28 x29 x30 x31 : Int) (x32 : LL) (x33 x34 x35 x36 x37 x38 : Int) (x39 : Bool) (x40 x41 x42 x43 : LL) (x44 x45 : Int) (x46 x47 x48 x49 x50 x51 x52 x53 : LL) (x54 x55 : Int) (x56 x57 x58 x59 x60 x61 x62 x63 : LL) (x64 : Bool) (x65 : Int) (x66 x67 x68 x69 x70 x71 x72 x73 : LL) (x74 x75 x76 x77 x78 x79 x80 x81 x82 x83 x84 : Int) (x85 : Bool) (x86 x87 x88 x89 x90 x91 x92 x93 x94 x95 x96 x97 x98 x99 x100 x101 x102 x103 x104 x105 : Int) (x106 : LL) (x107 x108 x109 x110 x111 x112 : Int) (x113 : Bool) (x114 x115 x116 x117 : LL) (x118 x119 : Int) (x120 x121 x122 x123 x124 x125 x126 x127 : LL) (x128 x129 : Int) (x130 x131 x132 x133 x134 x135 x136 x137 : LL) (x138 : Bool) (x139 : Int) (x140 x141 x142 x143 x144 x145 x146 x147 x148 : LL) (x149 x150 : Int) : g9L0 (k + 1) x0 x1 x2 x3 x4 x5 x6 x7 x8 x9 x10 x11 x12 x13 x14 x15 x16 x17 x18 x19 x20 x21 x22 x23 x24 x25 x26 x27 x28 x29 x30 x31 x32 x33 x34 x35 x36 x37 x38 x39 x40 x41 x42 x43 x44 x45 x46 x47 x48 x49 x50 x51 x52 x53 x54 x55 x56 x57 x58 x59 x60 x61 x62 x63 x64 x65 x66 x67 x68 x69 x70 x71 x72 x73 x74 x75 x76 x77 x78 x79 x80 x81 x82 x83 x84 x85 x86 x87 x88 x89 x90 x91 x92 x93 x94 x95 x96 x97 x98 x99 x100 x101 x102 x103 x104 x105 x106 x107 x108 x109 x110 x111 x112 x113 x114 x115 x116 x117 x118 x119 x120 x121 x122 x123 x124 x125 x126 x127 x128 x129 x130 x131 x132 x133 x134 x135 x136 x137 x138 x139 x140 x141 x142 x143 x144 x145 x146 x147 x148 x149 x150 =
 (if (cop .lss x150 x149) = true then
 elemK x148 x150 [.int .i64] fun (r151 : Int) =>
 (g33 x0 x1 x2 x3 x4 x5 x6 x7 x8 x9 x10 x11 x12 x13 x14 x15 x16 x17 x18 x19 x20 x21 x22 x23 x24 x25 x26 x27 x28 x29 x30 x31 x32 x33 x34 x35 x36 x37 x38 x39 x40 x41 x42 x43 x44 x45 x46 x47 x48 x49 x50 x51 x52 x53 x54 x55 x56 x57 x58 x59 x60 x61 x62 x63 x64 x65 x66 x67 x68 x69 x70 x71 x72 x73 r151).bind fun (r152 : Bool) =>
 if (!r152) = true then
 some (false)
 else
 (g34 x74 x75 x76 x77 x78 x79 x80 x81 x82 x83 x84 x85 x86 x87 x88 x89 x90 x91 x92 x93 x94 x95 x96 x97 x98 x99 x100 x101 x102 x103 x104 x105 x106 x107 x108 x109 x110 x111 x112 x113 x114 x115 x116 x117 x118 x119 x120 x121 x122 x123 x124 x125 x126 x127 x128 x129 x130 x131 x132 x133 x134 x135 x136 x137 x138 x139 x140 x141 x142 x143 x144 x145 x146 x147 r151).bind fun (r153 : Qt3) =>
 g9L0 k x0 x1 x2 x3 x4 x5 x6 x7 x8 x9 x10 x11 x12 x13 x14 x15 x16 x17 x18 x19 x20 x21 x22 x23 x24 x25 x26 x27 x28 x29 x30 x31 x32 x33 x34 x35 x36 x37 x38 x39 x40 x41 x42 x43 x44 x45 x46 x47 x48 x49 x50 x51 x52 x53 x54 x55 x56 x57 x58 x59 x60 x61 x62 x63 x64 x65 x66 x67 x68 x69 x70 x71 x72 x73 r153.1 r153.2.1 r153.2.2.1 r153.2.2.2.1 r153.2.2.2.2.1 r153.2.2.2.2.2.1 r153.2.2.2.2.2.2.1 r153.2.2.2.2.2.2.2.1 r153.2.2.2.2.2.2.2.2.1 r153.2.2.2.2.2.2.2.2.2.1 r153.2.2.2.2.2.2.2.2.2.2.1 r153.2.2.2.2.2.2.2.2.2.2.2.1 (d4 (d8 r153)).1 (d4 (d8 r153)).2.1 (d2 (d4 (d8 r153))).1 (d2 (d4 (d8 r153))).2.1 (d16 r153).1 (d16 r153).2.1 (d2 (d16 r153)).1 (d2 (d16 r153)).2.1 (d4 (d16 r153)).1 (d4 (d16 r153)).2.1 (d2 (d4 (d16 r153))).1 (d2 (d4 (d16 r153))).2.1 (d8 (d16 r153)).1 (d8 (d16 r153)).2.1 (d2 (d8 (d16 r153))).1 (d2 (d8 (d16 r153))).2.1 (d4 (d8 (d16 r153))).1 (d4 (d8 (d16 r153))).2.1 (d2 (d4 (d8 (d16 r153)))).1 (d2 (d4 (d8 (d16 r153)))).2.1 (d16 (d16 r153)).1 (d16 (d16 r153)).2.1 (d2 (d16 (d16 r153))).1 (d2 (d16 (d16 r153))).2.1 (d4 (d16 (d16 r153))).1 (d4 (d16 (d16 r153))).2.1 (d2 (d4 (d16 (d16 r153)))).1 (d2 (d4 (d16 (d16 r153)))).2.1 (d8 (d16 (d16 r153))).1 (d8 (d16 (d16 r153))).2.1 (d2 (d8 (d16 (d16 r153)))).1 (d2 (d8 (d16 (d16 r153)))).2.1 (d4 (d8 (d16 (d16 r153)))).1 (d4 (d8 (d16 (d16 r153)))).2.1 (d2 (d4 (d8 (d16 (d16 r153))))).1 (d2 (d4 (d8 (d16 (d16 r153))))).2.1 (d16 (d16 (d16 r153))).1 (d16 (d16 (d16 r153))).2.1 (d2 (d16 (d16 (d16 r153)))).1 (d2 (d16 (d16 (d16 r153)))).2.1 (d4 (d16 (d16 (d16 r153)))).1 (d4 (d16 (d16 (d16 r153)))).2.1 (d2 (d4 (d16 (d16 (d16 r153))))).1 (d2 (d4 (d16 (d16 (d16 r153))))).2.1 (d8 (d16 (d16 (d16 r153)))).1 (d8 (d16 (d16 (d16 r153)))).2.1 (d2 (d8 (d16 (d16 (d16 r153))))).1 (d2 (d8 (d16 (d16 (d16 r153))))).2.1 (d4 (d8 (d16 (d16 (d16 r153))))).1 (d4 (d8 (d16 (d16 (d16 r153))))).2.1 (d2 (d4 (d8 (d16 (d16 (d16 r153)))))).1 (d2 (d4 (d8 (d16 (d16 (d16 r153)))))).2.1 (d16 (d16 (d16 (d16 r153)))).1 (d16 (d16 (d16 (d16 r153)))).2.1 (d2 (d16 (d16 (d16 (d16 r153))))).1 (d2 (d16 (d16 (d16 (d16 r153))))).2.1 (d4 (d16 (d16 (d16 (d16 r153))))).1 (d4 (d16 (d16 (d16 (d16 r153))))).2.1 (d2 (d4 (d16 (d16 (d16 (d16 r153)))))).1 (d2 (d4 (d16 (d16 (d16 (d16 r153)))))).2.1 (d8 (d16 (d16 (d16 (d16 r153))))).1 (d8 (d16 (d16 (d16 (d16 r153))))).2 x148 x149 (iop .add .i64 x150 1)
 else
 (g35 x74 x75 x76 x77 x78 x79 x80 x81 x82 x83 x84 x85 x86 x87 x88 x89 x90 x91 x92 x93 x94 x95 x96 x97 x98 x99 x100 x101 x102 x103 x104 x105 x106 x107 x108 x109 x110 x111 x112 x113 x114 x115 x116 x117 x118 x119 x120 x121 x122 x123 x124 x125 x126 x127 x128 x129 x130 x131 x132 x133 x134 x135 x136 x137 x138 x139 x140 x141 x142 x143 x144 x145 x146 x147).bind fun (r151 : Bool) =>
 some (r151)) := by kernel_rfl
theorem g9_eq (x0 x1 x2 x3 x4 x5 x6 x7 x8 x9 x10 : Int) (x11 : Bool) (x12 x13 x14 x15 x16 x17 x18 x19 x20 x21 x22 x23 x24 x25 x26 x27 x28 x29 x30 x31 : Int) (x32 : LL) (x33 x34 x35 x36 x37 x38 : Int) (x39 : Bool) (x40 x41 x42 x43 : LL) (x44 x45 : Int) (x46 x47 x48 x49 x50 x51 x52 x53 : LL) (x54 x55 : Int) (x56 x57 x58 x59 x60 x61 x62 x63 : LL) (x64 : Bool) (x65 : Int) (x66 x67 x68 x69 x70 x71 x72 x73 : LL) : g9 x0 x1 x2 x3 x4 x5 x6 x7 x8 x9 x10 x11 x12 x13 x14 x15 x16 x17 x18 x19 x20 x21 x22 x23 x24 x25 x26 x27 x28 x29 x30 x31 x32 x33 x34 x35 x36 x37 x38 x39 x40 x41 x42 x43 x44 x45 x46 x47 x48 x49 x50 x51 x52 x53 x54 x55 x56 x57 x58 x59 x60 x61 x62 x63 x64 x65 x66 x67 x68 x69 x70 x71 x72 x73 =
 ((g19 x0).bind fun (r74 : LL × Bool) =>
 if (!r74.2) = true then
 some (false)
 else
 (g31 x1).bind fun (r76 : Bool) =>
 if (!r76) = true then
 some (false)
 else
 (g32 x2).bind fun (r77 : Bool) =>
 if (!r77) = true then
 some (false)
 else
 (g32 x3).bind fun (r78 : Bool) =>
 if (!r78) = true then
 some (false)
 else
 g9L0 FUEL x0 x1 x2 x3 x4 x5 x6 x7 x8 x9 x10 x11 x12 x13 x14 x15 x16 x17 x18 x19 x20 x21 x22 x23 x24 x25 x26 x27 x28 x29 x30 x31 x32 x33 x34 x35 x36 x37 x38 x39 x40 x41 x42 x43 x44 x45 x46 x47 x48 x49 x50 x51 x52 x53 x54 x55 x56 x57 x58 x59 x60 x61 x62 x63 x64 x65 x66 x67 x68 x69 x70 x71 x72 x73 x0 x1 x2 x3 x4 x5 x6 x7 x8 x9 x10 x11 x12 x13 x14 x15 x16 x17 x18 x19 x20 x21 x22 x23 x24 x25 x26 x27 x28 x29 x30 x31 x32 x33 x34 x35 x36 x37 x38 x39 x40 x41 x42 x43 x44 x45 x46 x47 x48 x49 x50 x51 x52 x53 x54 x55 x56 x57 x58 x59 x60 x61 x62 x63 x64 x65 x66 x67 x68 x69 x70 x71 x72 x73 r74.1 (List.length r74.1 : Int) 0) := by kernel_rfl

/- multikernel/multikernelref18.number -/
noncomputable def F36 : Fn := ⟨9, [2], [], [], 0, Tryz.f36, [.c (.int .i64)], [.c (.bool)], []⟩
theorem ok36 : F36.S.Ok Tryz.prog 36 := F36.ok Tryz.func36 (by kernel_rfl) trivial
noncomputable def g36 (x0 : Int) : Option (Bool) := F36.S.g [.i x0]
theorem g36_eq (x0 : Int) : g36 x0 =
 (if (cop .geq x0 0) = true then
 some ((cop .leq x0 1073741824))
 else
 some (false)) := by kernel_rfl

/- multikernel/multikernelref18.cores -/
noncomputable def F41 : Fn := ⟨32, [2], [(2, [(0, .c (.slice 1)), (3, .c (.int .i64))])], [], 0, Tryz.f41, [.c (.slice 1)], [.c (.bool)], [(37, F37.S)]⟩
theorem ok41 : F41.S.Ok Tryz.prog 41 := F41.ok Tryz.func41 (by kernel_rfl) ⟨ok37, trivial⟩
noncomputable def g41 (x0 : LL) : Option (Bool) := F41.S.g [.l x0]
noncomputable def g41L0 (k : Nat) (x0 : LL) (x1 : Int) : Option (Bool) := F41.lp [0] 0 r0 k [.l x0, .i x1]
theorem g41L0_eq (k : Nat) (x0 : LL) (x1 : Int) : g41L0 (k + 1) x0 x1 =
 (if (cop .lss x1 (List.length x0 : Int)) = true then
 elemK x0 x1 [.int .i64] fun (r2 : Int) =>
 (g37 r2).bind fun (r3 : Bool) =>
 if (!r3) = true then
 some (false)
 else
 if (cop .gtr x1 0) = true then
 elemK x0 x1 [.int .i64] fun (r4 : Int) =>
 elemK x0 (iop .sub .i64 x1 1) [.int .i64] fun (r5 : Int) =>
 if (cop .leq r4 r5) = true then
 some (false)
 else
 g41L0 k x0 (iop .add .i64 x1 1)
 else
 g41L0 k x0 (iop .add .i64 x1 1)
 else
 some (true)) := by kernel_rfl
theorem g41_eq (x0 : LL) : g41 x0 =
 (g41L0 FUEL x0 0) := by kernel_rfl

/- multikernel/multikernelref10.HasInt -/
noncomputable def F105 : Fn := ⟨18, [4], [(2, [(0, .c (.slice 1)), (1, .c (.int .i64)), (5, .c (.int .i64))])], [], 0, Tryz.f105, [.c (.slice 1), .c (.int .i64)], [.c (.bool)], []⟩
theorem ok105 : F105.S.Ok Tryz.prog 105 := F105.ok Tryz.func105 (by kernel_rfl) trivial
noncomputable def g105 (x0 : LL) (x1 : Int) : Option (Bool) := F105.S.g [.l x0, .i x1]
noncomputable def g105L0 (k : Nat) (x0 : LL) (x1 x2 : Int) : Option (Bool) := F105.lp [0] 0 r0 k [.l x0, .i x1, .i x2]
theorem g105L0_eq (k : Nat) (x0 : LL) (x1 x2 : Int) : g105L0 (k + 1) x0 x1 x2 =
 (if (cop .lss x2 (List.length x0 : Int)) = true then
 elemK x0 x2 [.int .i64] fun (r3 : Int) =>
 if (cop .eql r3 x1) = true then
 some (true)
 else
 g105L0 k x0 x1 (iop .add .i64 x2 1)
 else
 some (false)) := by kernel_rfl
theorem g105_eq (x0 : LL) (x1 : Int) : g105 x0 x1 =
 (g105L0 FUEL x0 x1 0) := by kernel_rfl

/- multikernel/multikernelref18.view -/
noncomputable def F43 : Fn := ⟨61, [2], [(4, [(1, .box [.int .i64, .slice 1, .slice 1]), (3, .c (.int .i64))]), (9, [(1, .box [.int .i64, .slice 1, .slice 1]), (4, .c (.int .i64))])], [], 0, Tryz.f43, [.agg [.int .i64, .slice 1, .slice 1]], [.c (.bool)], [(36, F36.S), (37, F37.S), (105, F105.S)]⟩
theorem ok43 : F43.S.Ok Tryz.prog 43 := F43.ok Tryz.func43 (by kernel_rfl) ⟨ok36, ⟨ok37, ⟨ok105, trivial⟩⟩⟩
noncomputable def g43 (x0 : Int) (x1 x2 : LL) : Option (Bool) := F43.S.g [.i x0, .l x1, .l x2]
noncomputable def g43L0 (k : Nat) (x0 : Int) (x1 x2 : LL) (x3 : Int) : Option (Bool) := F43.lp [0, 1, 1, 1, 0, 1, 0] 0 r0 k [.i x0, .l x1, .l x2, .i x3]
theorem g43L0_eq (k : Nat) (x0 : Int) (x1 x2 : LL) (x3 : Int) : g43L0 (k + 1) x0 x1 x2 x3 =
 (if (cop .lss x3 (List.length x2 : Int)) = true then
 elemK x2 x3 [.int .i64] fun (r4 : Int) =>
 (g37 r4).bind fun (r5 : Bool) =>
 if (!r5) = true then
 some (false)
 else
 g43L0 k x0 x1 x2 (iop .add .i64 x3 1)
 else
 some (true)) := by kernel_rfl
noncomputable def g43L1 (k : Nat) (x0 : Int) (x1 x2 : LL) (x3 : Int) : Option (Bool) := F43.lp [0, 1, 1, 1, 0] 0 r0 k [.i x0, .l x1, .l x2, .i x3]
theorem g43L1_eq (k : Nat) (x0 : Int) (x1 x2 : LL) (x3 : Int) : g43L1 (k + 1) x0 x1 x2 x3 =
 (if (cop .lss x3 (List.length x1 : Int)) = true then
 elemK x1 x3 [.int .i64] fun (r4 : Int) =>
 (g37 r4).bind fun (r5 : Bool) =>
 if (!r5) = true then
 some (false)
 else
 reqK ((0 : Int) ≤ x3) <|
 reqK ((x3 : Int) ≤ (List.length x1 : Int)) <|
 elemK x1 x3 [.int .i64] fun (r6 : Int) =>
 (g105 (List.take (Int.toNat x3) x1) r6).bind fun (r7 : Bool) =>
 if r7 = true then
 some (false)
 else
 g43L1 k x0 x1 x2 (iop .add .i64 x3 1)
 else
 g43L0 FUEL x0 x1 x2 0) := by kernel_rfl
theorem g43_eq (x0 : Int) (x1 x2 : LL) : g43 x0 x1 x2 =
 ((g36 x0).bind fun (r3 : Bool) =>
 if (!r3) = true then
 some (false)
 else
 if (cop .gtr (List.length x1 : Int) 32) = true then
 some (false)
 else
 if (cop .gtr (List.length x2 : Int) 16) = true then
 some (false)
 else
 g43L1 FUEL x0 x1 x2 0) := by kernel_rfl

/- multikernel/multikernelref18.report -/
noncomputable def F42 : Fn := ⟨26, [2], [], [], 0, Tryz.f42, [.agg hs5], [.c (.bool)], [(37, F37.S), (43, F43.S), (15, F15.S)]⟩
theorem ok42 : F42.S.Ok Tryz.prog 42 := F42.ok Tryz.func42 (by kernel_rfl) ⟨ok37, ⟨ok43, ⟨ok15, trivial⟩⟩⟩
noncomputable def g42 (x0 x1 : Int) (x2 x3 x4 x5 x6 x7 x8 x9 : LL) (x10 : Bool) (x11 : Int) (x12 x13 x14 x15 x16 x17 x18 x19 : LL) : Option (Bool) := F42.S.g [.i x0, .i x1, .l x2, .l x3, .l x4, .l x5, .l x6, .l x7, .l x8, .l x9, .b x10, .i x11, .l x12, .l x13, .l x14, .l x15, .l x16, .l x17, .l x18, .l x19]
theorem g42_eq (x0 x1 : Int) (x2 x3 x4 x5 x6 x7 x8 x9 : LL) (x10 : Bool) (x11 : Int) (x12 x13 x14 x15 x16 x17 x18 x19 : LL) : g42 x0 x1 x2 x3 x4 x5 x6 x7 x8 x9 x10 x11 x12 x13 x14 x15 x16 x17 x18 x19 =
 ((g37 x0).bind fun (r20 : Bool) =>
 if r20 = true then
 (g43 x1 x2 x3).bind fun (r21 : Bool) =>
 if r21 = true then
 (g43 x11 x12 x13).bind fun (r22 : Bool) =>
 if r22 = true then
 (g15 x4 x5 x6 x7 x8 x9).bind fun (r23 : Bool) =>
 if r23 = true then
 (g15 x14 x15 x16 x17 x18 x19).bind fun (r24 : Bool) =>
 some (r24)
 else
 some (false)
 else
 some (false)
 else
 some (false)
 else
 some (false)) := by kernel_rfl

/- multikernel/multikernelref18.moves -/
noncomputable def F44 : Fn := ⟨29, [2], [(2, [(0, .c (.slice 2)), (3, .c (.int .i64))])], [], 0, Tryz.f44, [.c (.slice 2)], [.c (.bool)], [(46, F46.S), (37, F37.S)]⟩
theorem ok44 : F44.S.Ok Tryz.prog 44 := F44.ok Tryz.func44 (by kernel_rfl) ⟨ok46, ⟨ok37, trivial⟩⟩
noncomputable def g44 (x0 : LL) : Option (Bool) := F44.S.g [.l x0]
noncomputable def g44L0 (k : Nat) (x0 : LL) (x1 : Int) : Option (Bool) := F44.lp [0] 0 r0 k [.l x0, .i x1]
theorem g44L0_eq (k : Nat) (x0 : LL) (x1 : Int) : g44L0 (k + 1) x0 x1 =
 (if (cop .lss x1 (List.length x0 : Int)) = true then
 elemK x0 x1 [.int .i64, .int .i64] fun (r2 : Int × Int) =>
 (g46 r2.1).bind fun (r4 : Bool) =>
 if (!r4) = true then
 some (false)
 else
 elemK x0 x1 [.int .i64, .int .i64] fun (r5 : Int × Int) =>
 (g37 r5.2).bind fun (r7 : Bool) =>
 if (!r7) = true then
 some (false)
 else
 g44L0 k x0 (iop .add .i64 x1 1)
 else
 some ((cop .leq (List.length x0 : Int) 16))) := by kernel_rfl
theorem g44_eq (x0 : LL) : g44 x0 =
 (g44L0 FUEL x0 0) := by kernel_rfl

/- multikernel/multikernelref18.SameRequest -/
noncomputable def F64 : Fn := ⟨38, [4], [], [], 0, Tryz.f64, [.agg hs4, .agg hs4], [.c (.bool)], [(51, F51.S)]⟩
theorem ok64 : F64.S.Ok Tryz.prog 64 := F64.ok Tryz.func64 (by kernel_rfl) ⟨ok51, trivial⟩
noncomputable def g64 (x0 x1 x2 x3 x4 x5 x6 x7 x8 x9 x10 x11 x12 x13 x14 x15 x16 x17 x18 x19 : Int) (x20 : LL) (x21 x22 x23 x24 x25 x26 : Int) (x27 : Bool) (x28 x29 x30 x31 x32 x33 x34 x35 x36 x37 x38 x39 x40 x41 x42 x43 x44 x45 x46 x47 : Int) (x48 : LL) (x49 x50 x51 x52 x53 x54 : Int) (x55 : Bool) : Option (Bool) := F64.S.g [.i x0, .i x1, .i x2, .i x3, .i x4, .i x5, .i x6, .i x7, .i x8, .i x9, .i x10, .i x11, .i x12, .i x13, .i x14, .i x15, .i x16, .i x17, .i x18, .i x19, .l x20, .i x21, .i x22, .i x23, .i x24, .i x25, .i x26, .b x27, .i x28, .i x29, .i x30, .i x31, .i x32, .i x33, .i x34, .i x35, .i x36, .i x37, .i x38, .i x39, .i x40, .i x41, .i x42, .i x43, .i x44, .i x45, .i x46, .i x47, .l x48, .i x49, .i x50, .i x51, .i x52, .i x53, .i x54, .b x55]
theorem g64_eq (x0 x1 x2 x3 x4 x5 x6 x7 x8 x9 x10 x11 x12 x13 x14 x15 x16 x17 x18 x19 : Int) (x20 : LL) (x21 x22 x23 x24 x25 x26 : Int) (x27 : Bool) (x28 x29 x30 x31 x32 x33 x34 x35 x36 x37 x38 x39 x40 x41 x42 x43 x44 x45 x46 x47 : Int) (x48 : LL) (x49 x50 x51 x52 x53 x54 : Int) (x55 : Bool) : g64 x0 x1 x2 x3 x4 x5 x6 x7 x8 x9 x10 x11 x12 x13 x14 x15 x16 x17 x18 x19 x20 x21 x22 x23 x24 x25 x26 x27 x28 x29 x30 x31 x32 x33 x34 x35 x36 x37 x38 x39 x40 x41 x42 x43 x44 x45 x46 x47 x48 x49 x50 x51 x52 x53 x54 x55 =
 (if ((cop .eql x0 x28) && ((cop .eql x1 x29) && ((cop .eql x2 x30) && true))) = true then
 if ((cop .eql x3 x31) && ((cop .eql x4 x32) && ((cop .eql x5 x33) && ((cop .eql x6 x34) && ((cop .eql x7 x35) && ((cop .eql x8 x36) && ((cop .eql x9 x37) && ((cop .eql x10 x38) && ((cop .eql x11 x39) && ((cop .eql x12 x40) && ((cop .eql x13 x41) && ((cop .eql x14 x42) && true)))))))))))) = true then
 if (cop .eql x15 x43) = true then
 if (cop .eql x16 x44) = true then
 (g51 x17 x18 x19 x20 x21 x22 x23 x24 x25 x26 x27 x45 x46 x47 x48 x49 x50 x51 x52 x53 x54 x55).bind fun (r56 : Bool) =>
 some (r56)
 else
 some (false)
 else
 some (false)
 else
 some (false)
 else
 some (false)) := by kernel_rfl

/- multikernel/multikernelref18.SameNodes -/
noncomputable def F66 : Fn := ⟨27, [4], [(4, [(0, .c (.slice 11)), (1, .c (.slice 11)), (5, .c (.int .i64))])], [], 0, Tryz.f66, [.c (.slice 11), .c (.slice 11)], [.c (.bool)], [(51, F51.S)]⟩
theorem ok66 : F66.S.Ok Tryz.prog 66 := F66.ok Tryz.func66 (by kernel_rfl) ⟨ok51, trivial⟩
noncomputable def g66 (x0 x1 : LL) : Option (Bool) := F66.S.g [.l x0, .l x1]
noncomputable def g66L0 (k : Nat) (x0 x1 : LL) (x2 : Int) : Option (Bool) := F66.lp [1, 0] 0 r0 k [.l x0, .l x1, .i x2]
theorem g66L0_eq (k : Nat) (x0 x1 : LL) (x2 : Int) : g66L0 (k + 1) x0 x1 x2 =
 (if (cop .lss x2 (List.length x0 : Int)) = true then
 elemK x0 x2 hs10 fun (r3 : Qt15) =>
 elemK x1 x2 hs10 fun (r14 : Qt15) =>
 (g51 r3.1 r3.2.1 r3.2.2.1 r3.2.2.2.1 r3.2.2.2.2.1 r3.2.2.2.2.2.1 r3.2.2.2.2.2.2.1 r3.2.2.2.2.2.2.2.1 r3.2.2.2.2.2.2.2.2.1 r3.2.2.2.2.2.2.2.2.2.1 r3.2.2.2.2.2.2.2.2.2.2 r14.1 r14.2.1 r14.2.2.1 r14.2.2.2.1 r14.2.2.2.2.1 r14.2.2.2.2.2.1 r14.2.2.2.2.2.2.1 r14.2.2.2.2.2.2.2.1 r14.2.2.2.2.2.2.2.2.1 r14.2.2.2.2.2.2.2.2.2.1 r14.2.2.2.2.2.2.2.2.2.2).bind fun (r25 : Bool) =>
 if (!r25) = true then
 some (false)
 else
 g66L0 k x0 x1 (iop .add .i64 x2 1)
 else
 some (true)) := by kernel_rfl
theorem g66_eq (x0 x1 : LL) : g66 x0 x1 =
 (if (cop .neq (List.length x0 : Int) (List.length x1 : Int)) = true then
 some (false)
 else
 g66L0 FUEL x0 x1 0) := by kernel_rfl

/- multikernel/multikernelref10.SameInts -/
noncomputable def F67 : Fn := ⟨26, [4], [(4, [(0, .c (.slice 1)), (1, .c (.slice 1)), (5, .c (.int .i64))])], [], 0, Tryz.f67, [.c (.slice 1), .c (.slice 1)], [.c (.bool)], []⟩
theorem ok67 : F67.S.Ok Tryz.prog 67 := F67.ok Tryz.func67 (by kernel_rfl) trivial
noncomputable def g67 (x0 x1 : LL) : Option (Bool) := F67.S.g [.l x0, .l x1]
noncomputable def g67L0 (k : Nat) (x0 x1 : LL) (x2 : Int) : Option (Bool) := F67.lp [1, 0] 0 r0 k [.l x0, .l x1, .i x2]
theorem g67L0_eq (k : Nat) (x0 x1 : LL) (x2 : Int) : g67L0 (k + 1) x0 x1 x2 =
 (if (cop .lss x2 (List.length x0 : Int)) = true then
 elemK x0 x2 [.int .i64] fun (r3 : Int) =>
 elemK x1 x2 [.int .i64] fun (r4 : Int) =>
 if (cop .neq r3 r4) = true then
 some (false)
 else
 g67L0 k x0 x1 (iop .add .i64 x2 1)
 else
 some (true)) := by kernel_rfl
theorem g67_eq (x0 x1 : LL) : g67 x0 x1 =
 (if (cop .neq (List.length x0 : Int) (List.length x1 : Int)) = true then
 some (false)
 else
 g67L0 FUEL x0 x1 0) := by kernel_rfl

/- multikernel/multikernelref18.SameMoves -/
noncomputable def F68 : Fn := ⟨26, [4], [(4, [(0, .c (.slice 2)), (1, .c (.slice 2)), (5, .c (.int .i64))])], [], 0, Tryz.f68, [.c (.slice 2), .c (.slice 2)], [.c (.bool)], []⟩
theorem ok68 : F68.S.Ok Tryz.prog 68 := F68.ok Tryz.func68 (by kernel_rfl) trivial
noncomputable def g68 (x0 x1 : LL) : Option (Bool) := F68.S.g [.l x0, .l x1]
noncomputable def g68L0 (k : Nat) (x0 x1 : LL) (x2 : Int) : Option (Bool) := F68.lp [1, 0] 0 r0 k [.l x0, .l x1, .i x2]
theorem g68L0_eq (k : Nat) (x0 x1 : LL) (x2 : Int) : g68L0 (k + 1) x0 x1 x2 =
 (if (cop .lss x2 (List.length x0 : Int)) = true then
 elemK x0 x2 [.int .i64, .int .i64] fun (r3 : Int × Int) =>
 elemK x1 x2 [.int .i64, .int .i64] fun (r5 : Int × Int) =>
 if (!((cop .eql r3.1 r5.1) && ((cop .eql r3.2 r5.2) && true))) = true then
 some (false)
 else
 g68L0 k x0 x1 (iop .add .i64 x2 1)
 else
 some (true)) := by kernel_rfl
theorem g68_eq (x0 x1 : LL) : g68 x0 x1 =
 (if (cop .neq (List.length x0 : Int) (List.length x1 : Int)) = true then
 some (false)
 else
 g68L0 FUEL x0 x1 0) := by kernel_rfl

/- multikernel/multikernelref18.SameView -/
noncomputable def F69 : Fn := ⟨24, [4], [], [], 0, Tryz.f69, [.agg [.int .i64, .slice 1, .slice 1], .agg [.int .i64, .slice 1, .slice 1]], [.c (.bool)], [(67, F67.S)]⟩
theorem ok69 : F69.S.Ok Tryz.prog 69 := F69.ok Tryz.func69 (by kernel_rfl) ⟨ok67, trivial⟩
noncomputable def g69 (x0 : Int) (x1 x2 : LL) (x3 : Int) (x4 x5 : LL) : Option (Bool) := F69.S.g [.i x0, .l x1, .l x2, .i x3, .l x4, .l x5]
theorem g69_eq (x0 : Int) (x1 x2 : LL) (x3 : Int) (x4 x5 : LL) : g69 x0 x1 x2 x3 x4 x5 =
 (if (cop .eql x0 x3) = true then
 (g67 x1 x4).bind fun (r6 : Bool) =>
 if r6 = true then
 (g67 x2 x5).bind fun (r7 : Bool) =>
 some (r7)
 else
 some (false)
 else
 some (false)) := by kernel_rfl

/- multikernel/multikernelref10.SameSlots -/
noncomputable def F140 : Fn := ⟨55, [4], [(4, [(0, .c (.slice 15)), (1, .c (.slice 15)), (5, .c (.int .i64))])], [], 0, Tryz.f140, [.c (.slice 15), .c (.slice 15)], [.c (.bool)], [(51, F51.S)]⟩
theorem ok140 : F140.S.Ok Tryz.prog 140 := F140.ok Tryz.func140 (by kernel_rfl) ⟨ok51, trivial⟩
noncomputable def g140 (x0 x1 : LL) : Option (Bool) := F140.S.g [.l x0, .l x1]
noncomputable def g140L0 (k : Nat) (x0 x1 : LL) (x2 : Int) : Option (Bool) := F140.lp [1, 0] 0 r0 k [.l x0, .l x1, .i x2]
theorem g140L0_eq (k : Nat) (x0 x1 : LL) (x2 : Int) : g140L0 (k + 1) x0 x1 x2 =
 (if (cop .lss x2 (List.length x0 : Int)) = true then
 elemK x0 x2 hs7 fun (r3 : Qt11) =>
 elemK x1 x2 hs7 fun (r18 : Qt11) =>
 if (cop .neq r3.2.2.2.2.2.2.2.2.2.2.2.1 r18.2.2.2.2.2.2.2.2.2.2.2.1) = true then
 some (false)
 else
 elemK x0 x2 hs7 fun (r33 : Qt11) =>
 elemK x1 x2 hs7 fun (r48 : Qt11) =>
 if (!((cop .eql (d4 (d8 r33)).1 (d4 (d8 r48)).1) && ((cop .eql (d4 (d8 r33)).2.1 (d4 (d8 r48)).2.1) && ((cop .eql (d2 (d4 (d8 r33))) (d2 (d4 (d8 r48)))) && true)))) = true then
 some (false)
 else
 elemK x0 x2 hs7 fun (r63 : Qt11) =>
 elemK x1 x2 hs7 fun (r78 : Qt11) =>
 (g51 r63.1 r63.2.1 r63.2.2.1 r63.2.2.2.1 r63.2.2.2.2.1 r63.2.2.2.2.2.1 r63.2.2.2.2.2.2.1 r63.2.2.2.2.2.2.2.1 r63.2.2.2.2.2.2.2.2.1 r63.2.2.2.2.2.2.2.2.2.1 r63.2.2.2.2.2.2.2.2.2.2.1 r78.1 r78.2.1 r78.2.2.1 r78.2.2.2.1 r78.2.2.2.2.1 r78.2.2.2.2.2.1 r78.2.2.2.2.2.2.1 r78.2.2.2.2.2.2.2.1 r78.2.2.2.2.2.2.2.2.1 r78.2.2.2.2.2.2.2.2.2.1 r78.2.2.2.2.2.2.2.2.2.2.1).bind fun (r93 : Bool) =>
 if (!r93) = true then
 some (false)
 else
 g140L0 k x0 x1 (iop .add .i64 x2 1)
 else
 some (true)) := by kernel_rfl
theorem g140_eq (x0 x1 : LL) : g140 x0 x1 =
 (if (cop .neq (List.length x0 : Int) (List.length x1 : Int)) = true then
 some (false)
 else
 g140L0 FUEL x0 x1 0) := by kernel_rfl

/- multikernel/multikernelref18.SameRequests -/
noncomputable def F141 : Fn := ⟨27, [4], [(4, [(0, .c (.slice 28)), (1, .c (.slice 28)), (5, .c (.int .i64))])], [], 0, Tryz.f141, [.c (.slice 28), .c (.slice 28)], [.c (.bool)], [(64, F64.S)]⟩
theorem ok141 : F141.S.Ok Tryz.prog 141 := F141.ok Tryz.func141 (by kernel_rfl) ⟨ok64, trivial⟩
noncomputable def g141 (x0 x1 : LL) : Option (Bool) := F141.S.g [.l x0, .l x1]
noncomputable def g141L0 (k : Nat) (x0 x1 : LL) (x2 : Int) : Option (Bool) := F141.lp [1, 0] 0 r0 k [.l x0, .l x1, .i x2]
theorem g141L0_eq (k : Nat) (x0 x1 : LL) (x2 : Int) : g141L0 (k + 1) x0 x1 x2 =
 (if (cop .lss x2 (List.length x0 : Int)) = true then
 elemK x0 x2 hs4 fun (r3 : Qt6) =>
 elemK x1 x2 hs4 fun (r31 : Qt6) =>
 (g64 r3.1 r3.2.1 r3.2.2.1 r3.2.2.2.1 r3.2.2.2.2.1 r3.2.2.2.2.2.1 r3.2.2.2.2.2.2.1 r3.2.2.2.2.2.2.2.1 r3.2.2.2.2.2.2.2.2.1 r3.2.2.2.2.2.2.2.2.2.1 r3.2.2.2.2.2.2.2.2.2.2.1 r3.2.2.2.2.2.2.2.2.2.2.2.1 (d4 (d8 r3)).1 (d4 (d8 r3)).2.1 (d2 (d4 (d8 r3))).1 (d2 (d4 (d8 r3))).2.1 (d16 r3).1 (d16 r3).2.1 (d2 (d16 r3)).1 (d2 (d16 r3)).2.1 (d4 (d16 r3)).1 (d4 (d16 r3)).2.1 (d2 (d4 (d16 r3))).1 (d2 (d4 (d16 r3))).2.1 (d8 (d16 r3)).1 (d8 (d16 r3)).2.1 (d2 (d8 (d16 r3))).1 (d2 (d8 (d16 r3))).2 r31.1 r31.2.1 r31.2.2.1 r31.2.2.2.1 r31.2.2.2.2.1 r31.2.2.2.2.2.1 r31.2.2.2.2.2.2.1 r31.2.2.2.2.2.2.2.1 r31.2.2.2.2.2.2.2.2.1 r31.2.2.2.2.2.2.2.2.2.1 r31.2.2.2.2.2.2.2.2.2.2.1 r31.2.2.2.2.2.2.2.2.2.2.2.1 (d4 (d8 r31)).1 (d4 (d8 r31)).2.1 (d2 (d4 (d8 r31))).1 (d2 (d4 (d8 r31))).2.1 (d16 r31).1 (d16 r31).2.1 (d2 (d16 r31)).1 (d2 (d16 r31)).2.1 (d4 (d16 r31)).1 (d4 (d16 r31)).2.1 (d2 (d4 (d16 r31))).1 (d2 (d4 (d16 r31))).2.1 (d8 (d16 r31)).1 (d8 (d16 r31)).2.1 (d2 (d8 (d16 r31))).1 (d2 (d8 (d16 r31))).2).bind fun (r59 : Bool) =>
 if (!r59) = true then
 some (false)
 else
 g141L0 k x0 x1 (iop .add .i64 x2 1)
 else
 some (true)) := by kernel_rfl
theorem g141_eq (x0 x1 : LL) : g141 x0 x1 =
 (if (cop .neq (List.length x0 : Int) (List.length x1 : Int)) = true then
 some (false)
 else
 g141L0 FUEL x0 x1 0) := by kernel_rfl

/- multikernel/multikernelref18.SameMarks -/
noncomputable def F142 : Fn := ⟨26, [4], [(4, [(0, .c (.slice 4)), (1, .c (.slice 4)), (5, .c (.int .i64))])], [], 0, Tryz.f142, [.c (.slice 4), .c (.slice 4)], [.c (.bool)], []⟩
theorem ok142 : F142.S.Ok Tryz.prog 142 := F142.ok Tryz.func142 (by kernel_rfl) trivial
noncomputable def g142 (x0 x1 : LL) : Option (Bool) := F142.S.g [.l x0, .l x1]
noncomputable def g142L0 (k : Nat) (x0 x1 : LL) (x2 : Int) : Option (Bool) := F142.lp [1, 0] 0 r0 k [.l x0, .l x1, .i x2]
theorem g142L0_eq (k : Nat) (x0 x1 : LL) (x2 : Int) : g142L0 (k + 1) x0 x1 x2 =
 (if (cop .lss x2 (List.length x0 : Int)) = true then
 elemK x0 x2 [.int .i64, .int .i64, .int .i64, .int .i64] fun (r3 : Int × Int × Int × Int) =>
 elemK x1 x2 [.int .i64, .int .i64, .int .i64, .int .i64] fun (r7 : Int × Int × Int × Int) =>
 if (!((cop .eql r3.1 r7.1) && ((cop .eql r3.2.1 r7.2.1) && ((cop .eql r3.2.2.1 r7.2.2.1) && ((cop .eql r3.2.2.2 r7.2.2.2) && true))))) = true then
 some (false)
 else
 g142L0 k x0 x1 (iop .add .i64 x2 1)
 else
 some (true)) := by kernel_rfl
theorem g142_eq (x0 x1 : LL) : g142 x0 x1 =
 (if (cop .neq (List.length x0 : Int) (List.length x1 : Int)) = true then
 some (false)
 else
 g142L0 FUEL x0 x1 0) := by kernel_rfl

/- multikernel/multikernelref18.SameAnswers -/
noncomputable def F143 : Fn := ⟨26, [4], [(4, [(0, .c (.slice 2)), (1, .c (.slice 2)), (5, .c (.int .i64))])], [], 0, Tryz.f143, [.c (.slice 2), .c (.slice 2)], [.c (.bool)], []⟩
theorem ok143 : F143.S.Ok Tryz.prog 143 := F143.ok Tryz.func143 (by kernel_rfl) trivial
noncomputable def g143 (x0 x1 : LL) : Option (Bool) := F143.S.g [.l x0, .l x1]
noncomputable def g143L0 (k : Nat) (x0 x1 : LL) (x2 : Int) : Option (Bool) := F143.lp [1, 0] 0 r0 k [.l x0, .l x1, .i x2]
theorem g143L0_eq (k : Nat) (x0 x1 : LL) (x2 : Int) : g143L0 (k + 1) x0 x1 x2 =
 (if (cop .lss x2 (List.length x0 : Int)) = true then
 elemK x0 x2 [.int .i64, .int .i64] fun (r3 : Int × Int) =>
 elemK x1 x2 [.int .i64, .int .i64] fun (r5 : Int × Int) =>
 if (!((cop .eql r3.1 r5.1) && ((cop .eql r3.2 r5.2) && true))) = true then
 some (false)
 else
 g143L0 k x0 x1 (iop .add .i64 x2 1)
 else
 some (true)) := by kernel_rfl
theorem g143_eq (x0 x1 : LL) : g143 x0 x1 =
 (if (cop .neq (List.length x0 : Int) (List.length x1 : Int)) = true then
 some (false)
 else
 g143L0 FUEL x0 x1 0) := by kernel_rfl

/- multikernel/multikernelref10.SameEntries -/
noncomputable def F144 : Fn := ⟨55, [4], [(4, [(0, .c (.slice 13)), (1, .c (.slice 13)), (5, .c (.int .i64))])], [], 0, Tryz.f144, [.c (.slice 13), .c (.slice 13)], [.c (.bool)], [(51, F51.S)]⟩
theorem ok144 : F144.S.Ok Tryz.prog 144 := F144.ok Tryz.func144 (by kernel_rfl) ⟨ok51, trivial⟩
noncomputable def g144 (x0 x1 : LL) : Option (Bool) := F144.S.g [.l x0, .l x1]
noncomputable def g144L0 (k : Nat) (x0 x1 : LL) (x2 : Int) : Option (Bool) := F144.lp [1, 0] 0 r0 k [.l x0, .l x1, .i x2]
theorem g144L0_eq (k : Nat) (x0 x1 : LL) (x2 : Int) : g144L0 (k + 1) x0 x1 x2 =
 (if (cop .lss x2 (List.length x0 : Int)) = true then
 elemK x0 x2 hs8 fun (r3 : Qt12) =>
 elemK x1 x2 hs8 fun (r16 : Qt12) =>
 if (cop .neq r3.1 r16.1) = true then
 some (false)
 else
 elemK x0 x2 hs8 fun (r29 : Qt12) =>
 elemK x1 x2 hs8 fun (r42 : Qt12) =>
 if (cop .neq r29.2.1 r42.2.1) = true then
 some (false)
 else
 elemK x0 x2 hs8 fun (r55 : Qt12) =>
 elemK x1 x2 hs8 fun (r68 : Qt12) =>
 (g51 r55.2.2.1 r55.2.2.2.1 r55.2.2.2.2.1 r55.2.2.2.2.2.1 r55.2.2.2.2.2.2.1 r55.2.2.2.2.2.2.2.1 r55.2.2.2.2.2.2.2.2.1 r55.2.2.2.2.2.2.2.2.2.1 r55.2.2.2.2.2.2.2.2.2.2.1 r55.2.2.2.2.2.2.2.2.2.2.2.1 (d4 (d8 r55)) r68.2.2.1 r68.2.2.2.1 r68.2.2.2.2.1 r68.2.2.2.2.2.1 r68.2.2.2.2.2.2.1 r68.2.2.2.2.2.2.2.1 r68.2.2.2.2.2.2.2.2.1 r68.2.2.2.2.2.2.2.2.2.1 r68.2.2.2.2.2.2.2.2.2.2.1 r68.2.2.2.2.2.2.2.2.2.2.2.1 (d4 (d8 r68))).bind fun (r81 : Bool) =>
 if (!r81) = true then
 some (false)
 else
 g144L0 k x0 x1 (iop .add .i64 x2 1)
 else
 some (true)) := by kernel_rfl
theorem g144_eq (x0 x1 : LL) : g144 x0 x1 =
 (if (cop .neq (List.length x0 : Int) (List.length x1 : Int)) = true then
 some (false)
 else
 g144L0 FUEL x0 x1 0) := by kernel_rfl

/- multikernel/multikernelref18.SameState -/
noncomputable def F70 : Fn := ⟨45, [4], [], [], 0, Tryz.f70, [.agg hs14, .agg hs14], [.c (.bool)], [(140, F140.S), (141, F141.S), (142, F142.S), (143, F143.S), (144, F144.S), (65, F65.S)]⟩
theorem ok70 : F70.S.Ok Tryz.prog 70 := F70.ok Tryz.func70 (by kernel_rfl) ⟨ok140, ⟨ok141, ⟨ok142, ⟨ok143, ⟨ok144, ⟨ok65, trivial⟩⟩⟩⟩⟩⟩
noncomputable def g70 (x0 x1 x2 x3 x4 x5 x6 x7 x8 x9 x10 x11 : LL) : Option (Bool) := F70.S.g [.l x0, .l x1, .l x2, .l x3, .l x4, .l x5, .l x6, .l x7, .l x8, .l x9, .l x10, .l x11]
theorem g70_eq (x0 x1 x2 x3 x4 x5 x6 x7 x8 x9 x10 x11 : LL) : g70 x0 x1 x2 x3 x4 x5 x6 x7 x8 x9 x10 x11 =
 ((g140 x0 x6).bind fun (r12 : Bool) =>
 if r12 = true then
 (g141 x1 x7).bind fun (r13 : Bool) =>
 if r13 = true then
 (g142 x2 x8).bind fun (r14 : Bool) =>
 if r14 = true then
 (g143 x3 x9).bind fun (r15 : Bool) =>
 if r15 = true then
 (g144 x4 x10).bind fun (r16 : Bool) =>
 if r16 = true then
 (g65 x5 x11).bind fun (r17 : Bool) =>
 some (r17)
 else
 some (false)
 else
 some (false)
 else
 some (false)
 else
 some (false)
 else
 some (false)) := by kernel_rfl

/- multikernel/multikernelref18.SameReport -/
noncomputable def F71 : Fn := ⟨45, [4], [], [], 0, Tryz.f71, [.agg hs5, .agg hs5], [.c (.bool)], [(69, F69.S), (70, F70.S)]⟩
theorem ok71 : F71.S.Ok Tryz.prog 71 := F71.ok Tryz.func71 (by kernel_rfl) ⟨ok69, ⟨ok70, trivial⟩⟩
noncomputable def g71 (x0 x1 : Int) (x2 x3 x4 x5 x6 x7 x8 x9 : LL) (x10 : Bool) (x11 : Int) (x12 x13 x14 x15 x16 x17 x18 x19 : LL) (x20 x21 : Int) (x22 x23 x24 x25 x26 x27 x28 x29 : LL) (x30 : Bool) (x31 : Int) (x32 x33 x34 x35 x36 x37 x38 x39 : LL) : Option (Bool) := F71.S.g [.i x0, .i x1, .l x2, .l x3, .l x4, .l x5, .l x6, .l x7, .l x8, .l x9, .b x10, .i x11, .l x12, .l x13, .l x14, .l x15, .l x16, .l x17, .l x18, .l x19, .i x20, .i x21, .l x22, .l x23, .l x24, .l x25, .l x26, .l x27, .l x28, .l x29, .b x30, .i x31, .l x32, .l x33, .l x34, .l x35, .l x36, .l x37, .l x38, .l x39]
theorem g71_eq (x0 x1 : Int) (x2 x3 x4 x5 x6 x7 x8 x9 : LL) (x10 : Bool) (x11 : Int) (x12 x13 x14 x15 x16 x17 x18 x19 : LL) (x20 x21 : Int) (x22 x23 x24 x25 x26 x27 x28 x29 : LL) (x30 : Bool) (x31 : Int) (x32 x33 x34 x35 x36 x37 x38 x39 : LL) : g71 x0 x1 x2 x3 x4 x5 x6 x7 x8 x9 x10 x11 x12 x13 x14 x15 x16 x17 x18 x19 x20 x21 x22 x23 x24 x25 x26 x27 x28 x29 x30 x31 x32 x33 x34 x35 x36 x37 x38 x39 =
 (if (cop .eql x0 x20) = true then
 (g69 x1 x2 x3 x21 x22 x23).bind fun (r40 : Bool) =>
 if r40 = true then
 (g70 x4 x5 x6 x7 x8 x9 x24 x25 x26 x27 x28 x29).bind fun (r41 : Bool) =>
 if r41 = true then
 if (x10 == x30) = true then
 (g69 x11 x12 x13 x31 x32 x33).bind fun (r42 : Bool) =>
 if r42 = true then
 (g70 x14 x15 x16 x17 x18 x19 x34 x35 x36 x37 x38 x39).bind fun (r43 : Bool) =>
 some (r43)
 else
 some (false)
 else
 some (false)
 else
 some (false)
 else
 some (false)
 else
 some (false)) := by kernel_rfl

/- multikernel/multikernelref18.Same -/
noncomputable def F17 : Fn := ⟨134, [4], [], [], 0, Tryz.f17, [.agg hs0, .agg hs0], [.c (.bool)], [(64, F64.S), (65, F65.S), (66, F66.S), (67, F67.S), (68, F68.S), (69, F69.S), (70, F70.S), (71, F71.S)]⟩
theorem ok17 : F17.S.Ok Tryz.prog 17 := F17.ok Tryz.func17 (by kernel_rfl) ⟨ok64, ⟨ok65, ⟨ok66, ⟨ok67, ⟨ok68, ⟨ok69, ⟨ok70, ⟨ok71, trivial⟩⟩⟩⟩⟩⟩⟩⟩
noncomputable def g17 (x0 x1 x2 x3 x4 x5 x6 x7 x8 x9 x10 : Int) (x11 : Bool) (x12 x13 x14 x15 x16 x17 x18 x19 x20 x21 x22 x23 x24 x25 x26 x27 x28 x29 x30 x31 : Int) (x32 : LL) (x33 x34 x35 x36 x37 x38 : Int) (x39 : Bool) (x40 x41 x42 x43 : LL) (x44 x45 : Int) (x46 x47 x48 x49 x50 x51 x52 x53 : LL) (x54 x55 : Int) (x56 x57 x58 x59 x60 x61 x62 x63 : LL) (x64 : Bool) (x65 : Int) (x66 x67 x68 x69 x70 x71 x72 x73 : LL) (x74 x75 x76 x77 x78 x79 x80 x81 x82 x83 x84 : Int) (x85 : Bool) (x86 x87 x88 x89 x90 x91 x92 x93 x94 x95 x96 x97 x98 x99 x100 x101 x102 x103 x104 x105 : Int) (x106 : LL) (x107 x108 x109 x110 x111 x112 : Int) (x113 : Bool) (x114 x115 x116 x117 : LL) (x118 x119 : Int) (x120 x121 x122 x123 x124 x125 x126 x127 : LL) (x128 x129 : Int) (x130 x131 x132 x133 x134 x135 x136 x137 : LL) (x138 : Bool) (x139 : Int) (x140 x141 x142 x143 x144 x145 x146 x147 : LL) : Option (Bool) := F17.S.g [.i x0, .i x1, .i x2, .i x3, .i x4, .i x5, .i x6, .i x7, .i x8, .i x9, .i x10, .b x11, .i x12, .i x13, .i x14, .i x15, .i x16, .i x17, .i x18, .i x19, .i x20, .i x21, .i x22, .i x23, .i x24, .i x25, .i x26, .i x27, .i x28, .i x29, .i x30, .i x31, .l x32, .i x33, .i x34, .i x35, .i x36, .i x37, .i x38, .b x39, .l x40, .l x41, .l x42, .l x43, .i x44, .i x45, .l x46, .l x47, .l x48, .l x49, .l x50, .l x51, .l x52, .l x53, .i x54, .i x55, .l x56, .l x57, .l x58, .l x59, .l x60, .l x61, .l x62, .l x63, .b x64, .i x65, .l x66, .l x67, .l x68, .l x69, .l x70, .l x71, .l x72, .l x73, .i x74, .i x75, .i x76, .i x77, .i x78, .i x79, .i x80, .i x81, .i x82, .i x83, .i x84, .b x85, .i x86, .i x87, .i x88, .i x89, .i x90, .i x91, .i x92, .i x93, .i x94, .i x95, .i x96, .i x97, .i x98, .i x99, .i x100, .i x101, .i x102, .i x103, .i x104, .i x105, .l x106, .i x107, .i x108, .i x109, .i x110, .i x111, .i x112, .b x113, .l x114, .l x115, .l x116, .l x117, .i x118, .i x119, .l x120, .l x121, .l x122, .l x123, .l x124, .l x125, .l x126, .l x127, .i x128, .i x129, .l x130, .l x131, .l x132, .l x133, .l x134, .l x135, .l x136, .l x137, .b x138, .i x139, .l x140, .l x141, .l x142, .l x143, .l x144, .l x145, .l x146, .l x147]
theorem g17_eq (x0 x1 x2 x3 x4 x5 x6 x7 x8 x9 x10 : Int) (x11 : Bool) (x12 x13 x14 x15 x16 x17 x18 x19 x20 x21 x22 x23 x24 x25 x26 x27 x28 x29 x30 x31 : Int) (x32 : LL) (x33 x34 x35 x36 x37 x38 : Int) (x39 : Bool) (x40 x41 x42 x43 : LL) (x44 x45 : Int) (x46 x47 x48 x49 x50 x51 x52 x53 : LL) (x54 x55 : Int) (x56 x57 x58 x59 x60 x61 x62 x63 : LL) (x64 : Bool) (x65 : Int) (x66 x67 x68 x69 x70 x71 x72 x73 : LL) (x74 x75 x76 x77 x78 x79 x80 x81 x82 x83 x84 : Int) (x85 : Bool) (x86 x87 x88 x89 x90 x91 x92 x93 x94 x95 x96 x97 x98 x99 x100 x101 x102 x103 x104 x105 : Int) (x106 : LL) (x107 x108 x109 x110 x111 x112 : Int) (x113 : Bool) (x114 x115 x116 x117 : LL) (x118 x119 : Int) (x120 x121 x122 x123 x124 x125 x126 x127 : LL) (x128 x129 : Int) (x130 x131 x132 x133 x134 x135 x136 x137 : LL) (x138 : Bool) (x139 : Int) (x140 x141 x142 x143 x144 x145 x146 x147 : LL) : g17 x0 x1 x2 x3 x4 x5 x6 x7 x8 x9 x10 x11 x12 x13 x14 x15 x16 x17 x18 x19 x20 x21 x22 x23 x24 x25 x26 x27 x28 x29 x30 x31 x32 x33 x34 x35 x36 x37 x38 x39 x40 x41 x42 x43 x44 x45 x46 x47 x48 x49 x50 x51 x52 x53 x54 x55 x56 x57 x58 x59 x60 x61 x62 x63 x64 x65 x66 x67 x68 x69 x70 x71 x72 x73 x74 x75 x76 x77 x78 x79 x80 x81 x82 x83 x84 x85 x86 x87 x88 x89 x90 x91 x92 x93 x94 x95 x96 x97 x98 x99 x100 x101 x102 x103 x104 x105 x106 x107 x108 x109 x110 x111 x112 x113 x114 x115 x116 x117 x118 x119 x120 x121 x122 x123 x124 x125 x126 x127 x128 x129 x130 x131 x132 x133 x134 x135 x136 x137 x138 x139 x140 x141 x142 x143 x144 x145 x146 x147 =
 (if (cop .neq x0 x74) = true then
 some (false)
 else
 if (cop .neq x1 x75) = true then
 some (false)
 else
 if (cop .neq x2 x76) = true then
 some (false)
 else
 if (cop .neq x3 x77) = true then
 some (false)
 else
 if (cop .neq x4 x78) = true then
 some (false)
 else
 if (cop .neq x5 x79) = true then
 some (false)
 else
 if (cop .neq x6 x80) = true then
 some (false)
 else
 if (!((cop .eql x7 x81) && ((cop .eql x8 x82) && ((cop .eql x9 x83) && true)))) = true then
 some (false)
 else
 if (cop .neq x10 x84) = true then
 some (false)
 else
 if (!(x11 == x85)) = true then
 some (false)
 else
 if (cop .neq x44 x118) = true then
 some (false)
 else
 (g64 x12 x13 x14 x15 x16 x17 x18 x19 x20 x21 x22 x23 x24 x25 x26 x27 x28 x29 x30 x31 x32 x33 x34 x35 x36 x37 x38 x39 x86 x87 x88 x89 x90 x91 x92 x93 x94 x95 x96 x97 x98 x99 x100 x101 x102 x103 x104 x105 x106 x107 x108 x109 x110 x111 x112 x113).bind fun (r148 : Bool) =>
 if r148 = true then
 (g65 x40 x114).bind fun (r149 : Bool) =>
 if r149 = true then
 (g66 x41 x115).bind fun (r150 : Bool) =>
 if r150 = true then
 (g67 x42 x116).bind fun (r151 : Bool) =>
 if r151 = true then
 (g68 x43 x117).bind fun (r152 : Bool) =>
 if r152 = true then
 (g69 x45 x46 x47 x119 x120 x121).bind fun (r153 : Bool) =>
 if r153 = true then
 (g70 x48 x49 x50 x51 x52 x53 x122 x123 x124 x125 x126 x127).bind fun (r154 : Bool) =>
 if r154 = true then
 (g71 x54 x55 x56 x57 x58 x59 x60 x61 x62 x63 x64 x65 x66 x67 x68 x69 x70 x71 x72 x73 x128 x129 x130 x131 x132 x133 x134 x135 x136 x137 x138 x139 x140 x141 x142 x143 x144 x145 x146 x147).bind fun (r155 : Bool) =>
 some (r155)
 else
 some (false)
 else
 some (false)
 else
 some (false)
 else
 some (false)
 else
 some (false)
 else
 some (false)
 else
 some (false)) := by kernel_rfl

/- multikernel/multikernelref18.Valid -/
noncomputable def F10 : Fn := ⟨295, [2], [(60, [(1, .box hs0), (3, .box hs0), (4, .c (.bool)), (5, .c (.int .i64))])], [], 0, Tryz.f10, [.agg hs0], [.c (.bool)], [(36, F36.S), (37, F37.S), (13, F13.S), (45, F45.S), (46, F46.S), (17, F17.S), (38, F38.S), (39, F39.S), (40, F40.S), (41, F41.S), (42, F42.S), (43, F43.S), (15, F15.S), (44, F44.S)]⟩
theorem ok10 : F10.S.Ok Tryz.prog 10 := F10.ok Tryz.func10 (by kernel_rfl) ⟨ok36, ⟨ok37, ⟨ok13, ⟨ok45, ⟨ok46, ⟨ok17, ⟨ok38, ⟨ok39, ⟨ok40, ⟨ok41, ⟨ok42, ⟨ok43, ⟨ok15, ⟨ok44, trivial⟩⟩⟩⟩⟩⟩⟩⟩⟩⟩⟩⟩⟩⟩
noncomputable def g10 (x0 x1 x2 x3 x4 x5 x6 x7 x8 x9 x10 : Int) (x11 : Bool) (x12 x13 x14 x15 x16 x17 x18 x19 x20 x21 x22 x23 x24 x25 x26 x27 x28 x29 x30 x31 : Int) (x32 : LL) (x33 x34 x35 x36 x37 x38 : Int) (x39 : Bool) (x40 x41 x42 x43 : LL) (x44 x45 : Int) (x46 x47 x48 x49 x50 x51 x52 x53 : LL) (x54 x55 : Int) (x56 x57 x58 x59 x60 x61 x62 x63 : LL) (x64 : Bool) (x65 : Int) (x66 x67 x68 x69 x70 x71 x72 x73 : LL) : Option (Bool) := F10.S.g [.i x0, .i x1, .i x2, .i x3, .i x4, .i x5, .i x6, .i x7, .i x8, .i x9, .i x10, .b x11, .i x12, .i x13, .i x14, .i x15, .i x16, .i x17, .i x18, .i x19, .i x20, .i x21, .i x22, .i x23, .i x24, .i x25, .i x26, .i x27, .i x28, .i x29, .i x30, .i x31, .l x32, .i x33, .i x34, .i x35, .i x36, .i x37, .i x38, .b x39, .l x40, .l x41, .l x42, .l x43, .i x44, .i x45, .l x46, .l x47, .l x48, .l x49, .l x50, .l x51, .l x52, .l x53, .i x54, .i x55, .l x56, .l x57, .l x58, .l x59, .l x60, .l x61, .l x62, .l x63, .b x64, .i x65, .l x66, .l x67, .l x68, .l x69, .l x70, .l x71, .l x72, .l x73]
noncomputable def g10L0 (k : Nat) (x0 x1 x2 x3 x4 x5 x6 x7 x8 x9 x10 : Int) (x11 : Bool) (x12 x13 x14 x15 x16 x17 x18 x19 x20 x21 x22 x23 x24 x25 x26 x27 x28 x29 x30 x31 : Int) (x32 : LL) (x33 x34 x35 x36 x37 x38 : Int) (x39 : Bool) (x40 x41 x42 x43 : LL) (x44 x45 : Int) (x46 x47 x48 x49 x50 x51 x52 x53 : LL) (x54 x55 : Int) (x56 x57 x58 x59 x60 x61 x62 x63 : LL) (x64 : Bool) (x65 : Int) (x66 x67 x68 x69 x70 x71 x72 x73 : LL) (x74 x75 x76 x77 x78 x79 x80 x81 x82 x83 x84 : Int) (x85 : Bool) (x86 x87 x88 x89 x90 x91 x92 x93 x94 x95 x96 x97 x98 x99 x100 x101 x102 x103 x104 x105 : Int) (x106 : LL) (x107 x108 x109 x110 x111 x112 : Int) (x113 : Bool) (x114 x115 x116 x117 : LL) (x118 x119 : Int) (x120 x121 x122 x123 x124 x125 x126 x127 : LL) (x128 x129 : Int) (x130 x131 x132 x133 x134 x135 x136 x137 : LL) (x138 : Bool) (x139 : Int) (x140 x141 x142 x143 x144 x145 x146 x147 : LL) (x148 : Bool) (x149 : Int) : Option (Bool) := F10.lp [1, 1, 0, 1, 0, 1, 0, 1, 0, 2] 0 r0 k [.i x0, .i x1, .i x2, .i x3, .i x4, .i x5, .i x6, .i x7, .i x8, .i x9, .i x10, .b x11, .i x12, .i x13, .i x14, .i x15, .i x16, .i x17, .i x18, .i x19, .i x20, .i x21, .i x22, .i x23, .i x24, .i x25, .i x26, .i x27, .i x28, .i x29, .i x30, .i x31, .l x32, .i x33, .i x34, .i x35, .i x36, .i x37, .i x38, .b x39, .l x40, .l x41, .l x42, .l x43, .i x44, .i x45, .l x46, .l x47, .l x48, .l x49, .l x50, .l x51, .l x52, .l x53, .i x54, .i x55, .l x56, .l x57, .l x58, .l x59, .l x60, .l x61, .l x62, .l x63, .b x64, .i x65, .l x66, .l x67, .l x68, .l x69, .l x70, .l x71, .l x72, .l x73, .i x74, .i x75, .i x76, .i x77, .i x78, .i x79, .i x80, .i x81, .i x82, .i x83, .i x84, .b x85, .i x86, .i x87, .i x88, .i x89, .i x90, .i x91, .i x92, .i x93, .i x94, .i x95, .i x96, .i x97, .i x98, .i x99, .i x100, .i x101, .i x102, .i x103, .i x104, .i x105, .l x106, .i x107, .i x108, .i x109, .i x110, .i x111, .i x112, .b x113, .l x114, .l x115, .l x116, .l x117, .i x118, .i x119, .l x120, .l x121, .l x122, .l x123, .l x124, .l x125, .l x126, .l x127, .i x128, .i x129, .l x130, .l x131, .l x132, .l x133, .l x134, .l x135, .l x136, .l x137, .b x138, .i x139, .l x140, .l x141, .l x142, .l x143, .l x144, .l x145, .l x146, .l x147, .b x148, .i x149]
theorem g10L0_eq (k : Nat) (x0 x1 x2 x3 x4 x5 x6 x7 x8 x9 x10 : Int) (x11 : Bool) (x12 x13 x14 x15 x16 x17 x18 x19 x20 x21 x22 x23 x24 x25 x26 x27 x28 x29 x30 x31 : Int) (x32 : LL) (x33 x34 x35 x36 x37 x38 : Int) (x39 : Bool) (x40 x41 x42 x43 : LL) (x44 x45 : Int) (x46 x47 x48 x49 x50 x51 x52 x53 : LL) (x54 x55 : Int) (x56 x57 x58 x59 x60 x61 x62 x63 : LL) (x64 : Bool) (x65 : Int) (x66 x67 x68 x69 x70 x71 x72 x73 : LL) (x74 x75 x76 x77 x78 x79 x80 x81 x82 x83 x84 : Int) (x85 : Bool) (x86 x87 x88 x89 x90 x91 x92 x93 x94 x95 x96 x97 x98 x99 x100 x101 x102 x103 x104 x105 : Int) (x106 : LL) (x107 x108 x109 x110 x111 x112 : Int) (x113 : Bool) (x114 x115 x116 x117 : LL) (x118 x119 : Int) (x120 x121 x122 x123 x124 x125 x126 x127 : LL) (x128 x129 : Int) (x130 x131 x132 x133 x134 x135 x136 x137 : LL) (x138 : Bool) (x139 : Int) (x140 x141 x142 x143 x144 x145 x146 x147 : LL) (x148 : Bool) (x149 : Int) : g10L0 (k + 1) x0 x1 x2 x3 x4 x5 x6 x7 x8 x9 x10 x11 x12 x13 x14 x15 x16 x17 x18 x19 x20 x21 x22 x23 x24 x25 x26 x27 x28 x29 x30 x31 x32 x33 x34 x35 x36 x37 x38 x39 x40 x41 x42 x43 x44 x45 x46 x47 x48 x49 x50 x51 x52 x53 x54 x55 x56 x57 x58 x59 x60 x61 x62 x63 x64 x65 x66 x67 x68 x69 x70 x71 x72 x73 x74 x75 x76 x77 x78 x79 x80 x81 x82 x83 x84 x85 x86 x87 x88 x89 x90 x91 x92 x93 x94 x95 x96 x97 x98 x99 x100 x101 x102 x103 x104 x105 x106 x107 x108 x109 x110 x111 x112 x113 x114 x115 x116 x117 x118 x119 x120 x121 x122 x123 x124 x125 x126 x127 x128 x129 x130 x131 x132 x133 x134 x135 x136 x137 x138 x139 x140 x141 x142 x143 x144 x145 x146 x147 x148 x149 =
 (if (cop .lss x149 (List.length x41 : Int)) = true then
 if x148 = true then
 elemK x41 x149 hs10 fun (r150 : Qt15) =>
 (g45 r150.1 r150.2.1 r150.2.2.1 r150.2.2.2.1 r150.2.2.2.2.1 r150.2.2.2.2.2.1 r150.2.2.2.2.2.2.1 r150.2.2.2.2.2.2.2.1 r150.2.2.2.2.2.2.2.2.1 r150.2.2.2.2.2.2.2.2.2.1 r150.2.2.2.2.2.2.2.2.2.2).bind fun (r161 : Bool) =>
 g10L0 k x0 x1 x2 x3 x4 x5 x6 x7 x8 x9 x10 x11 x12 x13 x14 x15 x16 x17 x18 x19 x20 x21 x22 x23 x24 x25 x26 x27 x28 x29 x30 x31 x32 x33 x34 x35 x36 x37 x38 x39 x40 x41 x42 x43 x44 x45 x46 x47 x48 x49 x50 x51 x52 x53 x54 x55 x56 x57 x58 x59 x60 x61 x62 x63 x64 x65 x66 x67 x68 x69 x70 x71 x72 x73 x74 x75 x76 x77 x78 x79 x80 x81 x82 x83 x84 x85 x86 x87 x88 x89 x90 x91 x92 x93 x94 x95 x96 x97 x98 x99 x100 x101 x102 x103 x104 x105 x106 x107 x108 x109 x110 x111 x112 x113 x114 x115 x116 x117 x118 x119 x120 x121 x122 x123 x124 x125 x126 x127 x128 x129 x130 x131 x132 x133 x134 x135 x136 x137 x138 x139 x140 x141 x142 x143 x144 x145 x146 x147 r161 (iop .add .i64 x149 1)
 else
 if x148 = true then
 (g46 x5).bind fun (r150 : Bool) =>
 if r150 = true then
 (g17 x0 x1 x2 x3 x4 x5 x6 x7 x8 x9 x10 x11 x12 x13 x14 x15 x16 x17 x18 x19 x20 x21 x22 x23 x24 x25 x26 x27 x28 x29 x30 x31 x32 x33 x34 x35 x36 x37 x38 x39 x40 x41 x42 x43 x44 x45 x46 x47 x48 x49 x50 x51 x52 x53 x54 x55 x56 x57 x58 x59 x60 x61 x62 x63 x64 x65 x66 x67 x68 x69 x70 x71 x72 x73 x74 x75 x76 x77 x78 x79 x80 x81 x82 x83 x84 x85 x86 x87 x88 x89 x90 x91 x92 x93 x94 x95 x96 x97 x98 x99 x100 x101 x102 x103 x104 x105 x106 x107 x108 x109 x110 x111 x112 x113 x114 x115 x116 x117 x118 x119 x120 x121 x122 x123 x124 x125 x126 x127 x128 x129 x130 x131 x132 x133 x134 x135 x136 x137 x138 x139 x140 x141 x142 x143 x144 x145 x146 x147).bind fun (r151 : Bool) =>
 some (r151)
 else
 some (false)
 else
 some (false)
 else
 if x148 = true then
 (g46 x5).bind fun (r150 : Bool) =>
 if r150 = true then
 (g17 x0 x1 x2 x3 x4 x5 x6 x7 x8 x9 x10 x11 x12 x13 x14 x15 x16 x17 x18 x19 x20 x21 x22 x23 x24 x25 x26 x27 x28 x29 x30 x31 x32 x33 x34 x35 x36 x37 x38 x39 x40 x41 x42 x43 x44 x45 x46 x47 x48 x49 x50 x51 x52 x53 x54 x55 x56 x57 x58 x59 x60 x61 x62 x63 x64 x65 x66 x67 x68 x69 x70 x71 x72 x73 x74 x75 x76 x77 x78 x79 x80 x81 x82 x83 x84 x85 x86 x87 x88 x89 x90 x91 x92 x93 x94 x95 x96 x97 x98 x99 x100 x101 x102 x103 x104 x105 x106 x107 x108 x109 x110 x111 x112 x113 x114 x115 x116 x117 x118 x119 x120 x121 x122 x123 x124 x125 x126 x127 x128 x129 x130 x131 x132 x133 x134 x135 x136 x137 x138 x139 x140 x141 x142 x143 x144 x145 x146 x147).bind fun (r151 : Bool) =>
 some (r151)
 else
 some (false)
 else
 some (false)) := by kernel_rfl
theorem g10_eq (x0 x1 x2 x3 x4 x5 x6 x7 x8 x9 x10 : Int) (x11 : Bool) (x12 x13 x14 x15 x16 x17 x18 x19 x20 x21 x22 x23 x24 x25 x26 x27 x28 x29 x30 x31 : Int) (x32 : LL) (x33 x34 x35 x36 x37 x38 : Int) (x39 : Bool) (x40 x41 x42 x43 : LL) (x44 x45 : Int) (x46 x47 x48 x49 x50 x51 x52 x53 : LL) (x54 x55 : Int) (x56 x57 x58 x59 x60 x61 x62 x63 : LL) (x64 : Bool) (x65 : Int) (x66 x67 x68 x69 x70 x71 x72 x73 : LL) : g10 x0 x1 x2 x3 x4 x5 x6 x7 x8 x9 x10 x11 x12 x13 x14 x15 x16 x17 x18 x19 x20 x21 x22 x23 x24 x25 x26 x27 x28 x29 x30 x31 x32 x33 x34 x35 x36 x37 x38 x39 x40 x41 x42 x43 x44 x45 x46 x47 x48 x49 x50 x51 x52 x53 x54 x55 x56 x57 x58 x59 x60 x61 x62 x63 x64 x65 x66 x67 x68 x69 x70 x71 x72 x73 =
 (if (cop .lss x0 1) = true then
 some (false)
 else
 if (cop .gtr x0 17) = true then
 some (false)
 else
 (g36 x1).bind fun (r74 : Bool) =>
 if (!r74) = true then
 some (false)
 else
 (g37 x2).bind fun (r75 : Bool) =>
 if (!r75) = true then
 some (false)
 else
 (g37 x3).bind fun (r76 : Bool) =>
 if (!r76) = true then
 some (false)
 else
 if (cop .eql x0 1) = true then
 (g13 x12 x13 x14 x15 x16 x17 x18 x19 x20 x21 x22 x23 x24 x25 x26 x27 x28 x29 x30 x31 x32 x33 x34 x35 x36 x37 x38 x39).bind fun (r77 : Bool) =>
 g10L0 FUEL x0 x1 x2 x3 x4 x5 x6 x7 x8 x9 x10 x11 x12 x13 x14 x15 x16 x17 x18 x19 x20 x21 x22 x23 x24 x25 x26 x27 x28 x29 x30 x31 x32 x33 x34 x35 x36 x37 x38 x39 x40 x41 x42 x43 x44 x45 x46 x47 x48 x49 x50 x51 x52 x53 x54 x55 x56 x57 x58 x59 x60 x61 x62 x63 x64 x65 x66 x67 x68 x69 x70 x71 x72 x73 x0 x1 x2 x3 0 x5 0 0 0 0 0 false x12 x13 x14 x15 x16 x17 x18 x19 x20 x21 x22 x23 x24 x25 x26 x27 x28 x29 x30 x31 x32 x33 x34 x35 x36 x37 x38 x39 ([] : LL) ([] : LL) ([] : LL) ([] : LL) 0 0 ([] : LL) ([] : LL) ([] : LL) ([] : LL) ([] : LL) ([] : LL) ([] : LL) ([] : LL) 0 0 ([] : LL) ([] : LL) ([] : LL) ([] : LL) ([] : LL) ([] : LL) ([] : LL) ([] : LL) false 0 ([] : LL) ([] : LL) ([] : LL) ([] : LL) ([] : LL) ([] : LL) ([] : LL) ([] : LL) r77 0
 else
 if (cop .eql x0 2) = true then
 (g38 x7 x8 x9).bind fun (r77 : Bool) =>
 if r77 = true then
 (g39 x10).bind fun (r78 : Bool) =>
 if r78 = true then
 g10L0 FUEL x0 x1 x2 x3 x4 x5 x6 x7 x8 x9 x10 x11 x12 x13 x14 x15 x16 x17 x18 x19 x20 x21 x22 x23 x24 x25 x26 x27 x28 x29 x30 x31 x32 x33 x34 x35 x36 x37 x38 x39 x40 x41 x42 x43 x44 x45 x46 x47 x48 x49 x50 x51 x52 x53 x54 x55 x56 x57 x58 x59 x60 x61 x62 x63 x64 x65 x66 x67 x68 x69 x70 x71 x72 x73 x0 x1 x2 x3 0 x5 0 x7 x8 x9 x10 x11 0 0 0 0 0 0 0 0 0 0 0 0 0 0 0 0 0 0 0 0 ([] : LL) 0 0 0 0 0 0 false ([] : LL) x41 ([] : LL) ([] : LL) 0 0 ([] : LL) ([] : LL) ([] : LL) ([] : LL) ([] : LL) ([] : LL) ([] : LL) ([] : LL) 0 0 ([] : LL) ([] : LL) ([] : LL) ([] : LL) ([] : LL) ([] : LL) ([] : LL) ([] : LL) false 0 ([] : LL) ([] : LL) ([] : LL) ([] : LL) ([] : LL) ([] : LL) ([] : LL) ([] : LL) (cop .leq (List.length x41 : Int) 8) 0
 else
 g10L0 FUEL x0 x1 x2 x3 x4 x5 x6 x7 x8 x9 x10 x11 x12 x13 x14 x15 x16 x17 x18 x19 x20 x21 x22 x23 x24 x25 x26 x27 x28 x29 x30 x31 x32 x33 x34 x35 x36 x37 x38 x39 x40 x41 x42 x43 x44 x45 x46 x47 x48 x49 x50 x51 x52 x53 x54 x55 x56 x57 x58 x59 x60 x61 x62 x63 x64 x65 x66 x67 x68 x69 x70 x71 x72 x73 x0 x1 x2 x3 0 x5 0 x7 x8 x9 x10 x11 0 0 0 0 0 0 0 0 0 0 0 0 0 0 0 0 0 0 0 0 ([] : LL) 0 0 0 0 0 0 false ([] : LL) x41 ([] : LL) ([] : LL) 0 0 ([] : LL) ([] : LL) ([] : LL) ([] : LL) ([] : LL) ([] : LL) ([] : LL) ([] : LL) 0 0 ([] : LL) ([] : LL) ([] : LL) ([] : LL) ([] : LL) ([] : LL) ([] : LL) ([] : LL) false 0 ([] : LL) ([] : LL) ([] : LL) ([] : LL) ([] : LL) ([] : LL) ([] : LL) ([] : LL) false 0
 else
 g10L0 FUEL x0 x1 x2 x3 x4 x5 x6 x7 x8 x9 x10 x11 x12 x13 x14 x15 x16 x17 x18 x19 x20 x21 x22 x23 x24 x25 x26 x27 x28 x29 x30 x31 x32 x33 x34 x35 x36 x37 x38 x39 x40 x41 x42 x43 x44 x45 x46 x47 x48 x49 x50 x51 x52 x53 x54 x55 x56 x57 x58 x59 x60 x61 x62 x63 x64 x65 x66 x67 x68 x69 x70 x71 x72 x73 x0 x1 x2 x3 0 x5 0 x7 x8 x9 x10 x11 0 0 0 0 0 0 0 0 0 0 0 0 0 0 0 0 0 0 0 0 ([] : LL) 0 0 0 0 0 0 false ([] : LL) x41 ([] : LL) ([] : LL) 0 0 ([] : LL) ([] : LL) ([] : LL) ([] : LL) ([] : LL) ([] : LL) ([] : LL) ([] : LL) 0 0 ([] : LL) ([] : LL) ([] : LL) ([] : LL) ([] : LL) ([] : LL) ([] : LL) ([] : LL) false 0 ([] : LL) ([] : LL) ([] : LL) ([] : LL) ([] : LL) ([] : LL) ([] : LL) ([] : LL) false 0
 else
 if (cop .eql x0 4) = true then
 (g38 x7 x8 x9).bind fun (r77 : Bool) =>
 if r77 = true then
 if (cop .geq x6 0) = true then
 if (cop .lss x6 64) = true then
 g10L0 FUEL x0 x1 x2 x3 x4 x5 x6 x7 x8 x9 x10 x11 x12 x13 x14 x15 x16 x17 x18 x19 x20 x21 x22 x23 x24 x25 x26 x27 x28 x29 x30 x31 x32 x33 x34 x35 x36 x37 x38 x39 x40 x41 x42 x43 x44 x45 x46 x47 x48 x49 x50 x51 x52 x53 x54 x55 x56 x57 x58 x59 x60 x61 x62 x63 x64 x65 x66 x67 x68 x69 x70 x71 x72 x73 x0 x1 x2 x3 0 x5 x6 x7 x8 x9 0 false 0 0 0 0 0 0 0 0 0 0 0 0 0 0 0 0 0 0 0 0 ([] : LL) 0 0 0 0 0 0 false ([] : LL) x41 ([] : LL) ([] : LL) 0 0 ([] : LL) ([] : LL) ([] : LL) ([] : LL) ([] : LL) ([] : LL) ([] : LL) ([] : LL) 0 0 ([] : LL) ([] : LL) ([] : LL) ([] : LL) ([] : LL) ([] : LL) ([] : LL) ([] : LL) false 0 ([] : LL) ([] : LL) ([] : LL) ([] : LL) ([] : LL) ([] : LL) ([] : LL) ([] : LL) (cop .eql (List.length x41 : Int) 1) 0
 else
 g10L0 FUEL x0 x1 x2 x3 x4 x5 x6 x7 x8 x9 x10 x11 x12 x13 x14 x15 x16 x17 x18 x19 x20 x21 x22 x23 x24 x25 x26 x27 x28 x29 x30 x31 x32 x33 x34 x35 x36 x37 x38 x39 x40 x41 x42 x43 x44 x45 x46 x47 x48 x49 x50 x51 x52 x53 x54 x55 x56 x57 x58 x59 x60 x61 x62 x63 x64 x65 x66 x67 x68 x69 x70 x71 x72 x73 x0 x1 x2 x3 0 x5 x6 x7 x8 x9 0 false 0 0 0 0 0 0 0 0 0 0 0 0 0 0 0 0 0 0 0 0 ([] : LL) 0 0 0 0 0 0 false ([] : LL) x41 ([] : LL) ([] : LL) 0 0 ([] : LL) ([] : LL) ([] : LL) ([] : LL) ([] : LL) ([] : LL) ([] : LL) ([] : LL) 0 0 ([] : LL) ([] : LL) ([] : LL) ([] : LL) ([] : LL) ([] : LL) ([] : LL) ([] : LL) false 0 ([] : LL) ([] : LL) ([] : LL) ([] : LL) ([] : LL) ([] : LL) ([] : LL) ([] : LL) false 0
 else
 g10L0 FUEL x0 x1 x2 x3 x4 x5 x6 x7 x8 x9 x10 x11 x12 x13 x14 x15 x16 x17 x18 x19 x20 x21 x22 x23 x24 x25 x26 x27 x28 x29 x30 x31 x32 x33 x34 x35 x36 x37 x38 x39 x40 x41 x42 x43 x44 x45 x46 x47 x48 x49 x50 x51 x52 x53 x54 x55 x56 x57 x58 x59 x60 x61 x62 x63 x64 x65 x66 x67 x68 x69 x70 x71 x72 x73 x0 x1 x2 x3 0 x5 x6 x7 x8 x9 0 false 0 0 0 0 0 0 0 0 0 0 0 0 0 0 0 0 0 0 0 0 ([] : LL) 0 0 0 0 0 0 false ([] : LL) x41 ([] : LL) ([] : LL) 0 0 ([] : LL) ([] : LL) ([] : LL) ([] : LL) ([] : LL) ([] : LL) ([] : LL) ([] : LL) 0 0 ([] : LL) ([] : LL) ([] : LL) ([] : LL) ([] : LL) ([] : LL) ([] : LL) ([] : LL) false 0 ([] : LL) ([] : LL) ([] : LL) ([] : LL) ([] : LL) ([] : LL) ([] : LL) ([] : LL) false 0
 else
 g10L0 FUEL x0 x1 x2 x3 x4 x5 x6 x7 x8 x9 x10 x11 x12 x13 x14 x15 x16 x17 x18 x19 x20 x21 x22 x23 x24 x25 x26 x27 x28 x29 x30 x31 x32 x33 x34 x35 x36 x37 x38 x39 x40 x41 x42 x43 x44 x45 x46 x47 x48 x49 x50 x51 x52 x53 x54 x55 x56 x57 x58 x59 x60 x61 x62 x63 x64 x65 x66 x67 x68 x69 x70 x71 x72 x73 x0 x1 x2 x3 0 x5 x6 x7 x8 x9 0 false 0 0 0 0 0 0 0 0 0 0 0 0 0 0 0 0 0 0 0 0 ([] : LL) 0 0 0 0 0 0 false ([] : LL) x41 ([] : LL) ([] : LL) 0 0 ([] : LL) ([] : LL) ([] : LL) ([] : LL) ([] : LL) ([] : LL) ([] : LL) ([] : LL) 0 0 ([] : LL) ([] : LL) ([] : LL) ([] : LL) ([] : LL) ([] : LL) ([] : LL) ([] : LL) false 0 ([] : LL) ([] : LL) ([] : LL) ([] : LL) ([] : LL) ([] : LL) ([] : LL) ([] : LL) false 0
 else
 if (cop .eql x0 5) = true then
 (g38 x7 x8 x9).bind fun (r77 : Bool) =>
 if r77 = true then
 (g39 x10).bind fun (r78 : Bool) =>
 g10L0 FUEL x0 x1 x2 x3 x4 x5 x6 x7 x8 x9 x10 x11 x12 x13 x14 x15 x16 x17 x18 x19 x20 x21 x22 x23 x24 x25 x26 x27 x28 x29 x30 x31 x32 x33 x34 x35 x36 x37 x38 x39 x40 x41 x42 x43 x44 x45 x46 x47 x48 x49 x50 x51 x52 x53 x54 x55 x56 x57 x58 x59 x60 x61 x62 x63 x64 x65 x66 x67 x68 x69 x70 x71 x72 x73 x0 x1 x2 x3 0 x5 0 x7 x8 x9 x10 false 0 0 0 0 0 0 0 0 0 0 0 0 0 0 0 0 0 0 0 0 ([] : LL) 0 0 0 0 0 0 false ([] : LL) ([] : LL) ([] : LL) ([] : LL) 0 0 ([] : LL) ([] : LL) ([] : LL) ([] : LL) ([] : LL) ([] : LL) ([] : LL) ([] : LL) 0 0 ([] : LL) ([] : LL) ([] : LL) ([] : LL) ([] : LL) ([] : LL) ([] : LL) ([] : LL) false 0 ([] : LL) ([] : LL) ([] : LL) ([] : LL) ([] : LL) ([] : LL) ([] : LL) ([] : LL) r78 0
 else
 g10L0 FUEL x0 x1 x2 x3 x4 x5 x6 x7 x8 x9 x10 x11 x12 x13 x14 x15 x16 x17 x18 x19 x20 x21 x22 x23 x24 x25 x26 x27 x28 x29 x30 x31 x32 x33 x34 x35 x36 x37 x38 x39 x40 x41 x42 x43 x44 x45 x46 x47 x48 x49 x50 x51 x52 x53 x54 x55 x56 x57 x58 x59 x60 x61 x62 x63 x64 x65 x66 x67 x68 x69 x70 x71 x72 x73 x0 x1 x2 x3 0 x5 0 x7 x8 x9 x10 false 0 0 0 0 0 0 0 0 0 0 0 0 0 0 0 0 0 0 0 0 ([] : LL) 0 0 0 0 0 0 false ([] : LL) ([] : LL) ([] : LL) ([] : LL) 0 0 ([] : LL) ([] : LL) ([] : LL) ([] : LL) ([] : LL) ([] : LL) ([] : LL) ([] : LL) 0 0 ([] : LL) ([] : LL) ([] : LL) ([] : LL) ([] : LL) ([] : LL) ([] : LL) ([] : LL) false 0 ([] : LL) ([] : LL) ([] : LL) ([] : LL) ([] : LL) ([] : LL) ([] : LL) ([] : LL) false 0
 else
 if (cop .eql x0 6) = true then
 (g38 x7 x8 x9).bind fun (r77 : Bool) =>
 if r77 = true then
 (g40 x40 false).bind fun (r78 : Bool) =>
 if r78 = true then
 g10L0 FUEL x0 x1 x2 x3 x4 x5 x6 x7 x8 x9 x10 x11 x12 x13 x14 x15 x16 x17 x18 x19 x20 x21 x22 x23 x24 x25 x26 x27 x28 x29 x30 x31 x32 x33 x34 x35 x36 x37 x38 x39 x40 x41 x42 x43 x44 x45 x46 x47 x48 x49 x50 x51 x52 x53 x54 x55 x56 x57 x58 x59 x60 x61 x62 x63 x64 x65 x66 x67 x68 x69 x70 x71 x72 x73 x0 x1 x2 x3 0 x5 0 x7 x8 x9 0 false 0 0 0 0 0 0 0 0 0 0 0 0 0 0 0 0 0 0 0 0 ([] : LL) 0 0 0 0 0 0 false x40 ([] : LL) ([] : LL) ([] : LL) 0 0 ([] : LL) ([] : LL) ([] : LL) ([] : LL) ([] : LL) ([] : LL) ([] : LL) ([] : LL) 0 0 ([] : LL) ([] : LL) ([] : LL) ([] : LL) ([] : LL) ([] : LL) ([] : LL) ([] : LL) false 0 ([] : LL) ([] : LL) ([] : LL) ([] : LL) ([] : LL) ([] : LL) ([] : LL) ([] : LL) (cop .leq (List.length x40 : Int) 64) 0
 else
 g10L0 FUEL x0 x1 x2 x3 x4 x5 x6 x7 x8 x9 x10 x11 x12 x13 x14 x15 x16 x17 x18 x19 x20 x21 x22 x23 x24 x25 x26 x27 x28 x29 x30 x31 x32 x33 x34 x35 x36 x37 x38 x39 x40 x41 x42 x43 x44 x45 x46 x47 x48 x49 x50 x51 x52 x53 x54 x55 x56 x57 x58 x59 x60 x61 x62 x63 x64 x65 x66 x67 x68 x69 x70 x71 x72 x73 x0 x1 x2 x3 0 x5 0 x7 x8 x9 0 false 0 0 0 0 0 0 0 0 0 0 0 0 0 0 0 0 0 0 0 0 ([] : LL) 0 0 0 0 0 0 false x40 ([] : LL) ([] : LL) ([] : LL) 0 0 ([] : LL) ([] : LL) ([] : LL) ([] : LL) ([] : LL) ([] : LL) ([] : LL) ([] : LL) 0 0 ([] : LL) ([] : LL) ([] : LL) ([] : LL) ([] : LL) ([] : LL) ([] : LL) ([] : LL) false 0 ([] : LL) ([] : LL) ([] : LL) ([] : LL) ([] : LL) ([] : LL) ([] : LL) ([] : LL) false 0
 else
 g10L0 FUEL x0 x1 x2 x3 x4 x5 x6 x7 x8 x9 x10 x11 x12 x13 x14 x15 x16 x17 x18 x19 x20 x21 x22 x23 x24 x25 x26 x27 x28 x29 x30 x31 x32 x33 x34 x35 x36 x37 x38 x39 x40 x41 x42 x43 x44 x45 x46 x47 x48 x49 x50 x51 x52 x53 x54 x55 x56 x57 x58 x59 x60 x61 x62 x63 x64 x65 x66 x67 x68 x69 x70 x71 x72 x73 x0 x1 x2 x3 0 x5 0 x7 x8 x9 0 false 0 0 0 0 0 0 0 0 0 0 0 0 0 0 0 0 0 0 0 0 ([] : LL) 0 0 0 0 0 0 false x40 ([] : LL) ([] : LL) ([] : LL) 0 0 ([] : LL) ([] : LL) ([] : LL) ([] : LL) ([] : LL) ([] : LL) ([] : LL) ([] : LL) 0 0 ([] : LL) ([] : LL) ([] : LL) ([] : LL) ([] : LL) ([] : LL) ([] : LL) ([] : LL) false 0 ([] : LL) ([] : LL) ([] : LL) ([] : LL) ([] : LL) ([] : LL) ([] : LL) ([] : LL) false 0
 else
 if (cop .eql x0 12) = true then
 (g36 x4).bind fun (r77 : Bool) =>
 if r77 = true then
 (g41 x42).bind fun (r78 : Bool) =>
 g10L0 FUEL x0 x1 x2 x3 x4 x5 x6 x7 x8 x9 x10 x11 x12 x13 x14 x15 x16 x17 x18 x19 x20 x21 x22 x23 x24 x25 x26 x27 x28 x29 x30 x31 x32 x33 x34 x35 x36 x37 x38 x39 x40 x41 x42 x43 x44 x45 x46 x47 x48 x49 x50 x51 x52 x53 x54 x55 x56 x57 x58 x59 x60 x61 x62 x63 x64 x65 x66 x67 x68 x69 x70 x71 x72 x73 x0 x1 x2 x3 x4 0 0 0 0 0 0 false 0 0 0 0 0 0 0 0 0 0 0 0 0 0 0 0 0 0 0 0 ([] : LL) 0 0 0 0 0 0 false ([] : LL) ([] : LL) x42 ([] : LL) 0 0 ([] : LL) ([] : LL) ([] : LL) ([] : LL) ([] : LL) ([] : LL) ([] : LL) ([] : LL) 0 0 ([] : LL) ([] : LL) ([] : LL) ([] : LL) ([] : LL) ([] : LL) ([] : LL) ([] : LL) false 0 ([] : LL) ([] : LL) ([] : LL) ([] : LL) ([] : LL) ([] : LL) ([] : LL) ([] : LL) r78 0
 else
 g10L0 FUEL x0 x1 x2 x3 x4 x5 x6 x7 x8 x9 x10 x11 x12 x13 x14 x15 x16 x17 x18 x19 x20 x21 x22 x23 x24 x25 x26 x27 x28 x29 x30 x31 x32 x33 x34 x35 x36 x37 x38 x39 x40 x41 x42 x43 x44 x45 x46 x47 x48 x49 x50 x51 x52 x53 x54 x55 x56 x57 x58 x59 x60 x61 x62 x63 x64 x65 x66 x67 x68 x69 x70 x71 x72 x73 x0 x1 x2 x3 x4 0 0 0 0 0 0 false 0 0 0 0 0 0 0 0 0 0 0 0 0 0 0 0 0 0 0 0 ([] : LL) 0 0 0 0 0 0 false ([] : LL) ([] : LL) x42 ([] : LL) 0 0 ([] : LL) ([] : LL) ([] : LL) ([] : LL) ([] : LL) ([] : LL) ([] : LL) ([] : LL) 0 0 ([] : LL) ([] : LL) ([] : LL) ([] : LL) ([] : LL) ([] : LL) ([] : LL) ([] : LL) false 0 ([] : LL) ([] : LL) ([] : LL) ([] : LL) ([] : LL) ([] : LL) ([] : LL) ([] : LL) false 0
 else
 if (cop .eql x0 13) = true then
 (g36 x4).bind fun (r77 : Bool) =>
 if r77 = true then
 (g42 x54 x55 x56 x57 x58 x59 x60 x61 x62 x63 x64 x65 x66 x67 x68 x69 x70 x71 x72 x73).bind fun (r78 : Bool) =>
 g10L0 FUEL x0 x1 x2 x3 x4 x5 x6 x7 x8 x9 x10 x11 x12 x13 x14 x15 x16 x17 x18 x19 x20 x21 x22 x23 x24 x25 x26 x27 x28 x29 x30 x31 x32 x33 x34 x35 x36 x37 x38 x39 x40 x41 x42 x43 x44 x45 x46 x47 x48 x49 x50 x51 x52 x53 x54 x55 x56 x57 x58 x59 x60 x61 x62 x63 x64 x65 x66 x67 x68 x69 x70 x71 x72 x73 x0 x1 x2 x3 x4 0 0 0 0 0 0 false 0 0 0 0 0 0 0 0 0 0 0 0 0 0 0 0 0 0 0 0 ([] : LL) 0 0 0 0 0 0 false ([] : LL) ([] : LL) ([] : LL) ([] : LL) 0 0 ([] : LL) ([] : LL) ([] : LL) ([] : LL) ([] : LL) ([] : LL) ([] : LL) ([] : LL) x54 x55 x56 x57 x58 x59 x60 x61 x62 x63 x64 x65 x66 x67 x68 x69 x70 x71 x72 x73 r78 0
 else
 g10L0 FUEL x0 x1 x2 x3 x4 x5 x6 x7 x8 x9 x10 x11 x12 x13 x14 x15 x16 x17 x18 x19 x20 x21 x22 x23 x24 x25 x26 x27 x28 x29 x30 x31 x32 x33 x34 x35 x36 x37 x38 x39 x40 x41 x42 x43 x44 x45 x46 x47 x48 x49 x50 x51 x52 x53 x54 x55 x56 x57 x58 x59 x60 x61 x62 x63 x64 x65 x66 x67 x68 x69 x70 x71 x72 x73 x0 x1 x2 x3 x4 0 0 0 0 0 0 false 0 0 0 0 0 0 0 0 0 0 0 0 0 0 0 0 0 0 0 0 ([] : LL) 0 0 0 0 0 0 false ([] : LL) ([] : LL) ([] : LL) ([] : LL) 0 0 ([] : LL) ([] : LL) ([] : LL) ([] : LL) ([] : LL) ([] : LL) ([] : LL) ([] : LL) x54 x55 x56 x57 x58 x59 x60 x61 x62 x63 x64 x65 x66 x67 x68 x69 x70 x71 x72 x73 false 0
 else
 if (cop .eql x0 14) = true then
 (g36 x4).bind fun (r77 : Bool) =>
 if r77 = true then
 (g36 x44).bind fun (r78 : Bool) =>
 if r78 = true then
 (g41 x42).bind fun (r79 : Bool) =>
 if r79 = true then
 (g43 x45 x46 x47).bind fun (r80 : Bool) =>
 if r80 = true then
 (g15 x48 x49 x50 x51 x52 x53).bind fun (r81 : Bool) =>
 g10L0 FUEL x0 x1 x2 x3 x4 x5 x6 x7 x8 x9 x10 x11 x12 x13 x14 x15 x16 x17 x18 x19 x20 x21 x22 x23 x24 x25 x26 x27 x28 x29 x30 x31 x32 x33 x34 x35 x36 x37 x38 x39 x40 x41 x42 x43 x44 x45 x46 x47 x48 x49 x50 x51 x52 x53 x54 x55 x56 x57 x58 x59 x60 x61 x62 x63 x64 x65 x66 x67 x68 x69 x70 x71 x72 x73 x0 x1 x2 x3 x4 0 0 0 0 0 0 false 0 0 0 0 0 0 0 0 0 0 0 0 0 0 0 0 0 0 0 0 ([] : LL) 0 0 0 0 0 0 false ([] : LL) ([] : LL) x42 ([] : LL) x44 x45 x46 x47 x48 x49 x50 x51 x52 x53 0 0 ([] : LL) ([] : LL) ([] : LL) ([] : LL) ([] : LL) ([] : LL) ([] : LL) ([] : LL) false 0 ([] : LL) ([] : LL) ([] : LL) ([] : LL) ([] : LL) ([] : LL) ([] : LL) ([] : LL) r81 0
 else
 g10L0 FUEL x0 x1 x2 x3 x4 x5 x6 x7 x8 x9 x10 x11 x12 x13 x14 x15 x16 x17 x18 x19 x20 x21 x22 x23 x24 x25 x26 x27 x28 x29 x30 x31 x32 x33 x34 x35 x36 x37 x38 x39 x40 x41 x42 x43 x44 x45 x46 x47 x48 x49 x50 x51 x52 x53 x54 x55 x56 x57 x58 x59 x60 x61 x62 x63 x64 x65 x66 x67 x68 x69 x70 x71 x72 x73 x0 x1 x2 x3 x4 0 0 0 0 0 0 false 0 0 0 0 0 0 0 0 0 0 0 0 0 0 0 0 0 0 0 0 ([] : LL) 0 0 0 0 0 0 false ([] : LL) ([] : LL) x42 ([] : LL) x44 x45 x46 x47 x48 x49 x50 x51 x52 x53 0 0 ([] : LL) ([] : LL) ([] : LL) ([] : LL) ([] : LL) ([] : LL) ([] : LL) ([] : LL) false 0 ([] : LL) ([] : LL) ([] : LL) ([] : LL) ([] : LL) ([] : LL) ([] : LL) ([] : LL) false 0
 else
 g10L0 FUEL x0 x1 x2 x3 x4 x5 x6 x7 x8 x9 x10 x11 x12 x13 x14 x15 x16 x17 x18 x19 x20 x21 x22 x23 x24 x25 x26 x27 x28 x29 x30 x31 x32 x33 x34 x35 x36 x37 x38 x39 x40 x41 x42 x43 x44 x45 x46 x47 x48 x49 x50 x51 x52 x53 x54 x55 x56 x57 x58 x59 x60 x61 x62 x63 x64 x65 x66 x67 x68 x69 x70 x71 x72 x73 x0 x1 x2 x3 x4 0 0 0 0 0 0 false 0 0 0 0 0 0 0 0 0 0 0 0 0 0 0 0 0 0 0 0 ([] : LL) 0 0 0 0 0 0 false ([] : LL) ([] : LL) x42 ([] : LL) x44 x45 x46 x47 x48 x49 x50 x51 x52 x53 0 0 ([] : LL) ([] : LL) ([] : LL) ([] : LL) ([] : LL) ([] : LL) ([] : LL) ([] : LL) false 0 ([] : LL) ([] : LL) ([] : LL) ([] : LL) ([] : LL) ([] : LL) ([] : LL) ([] : LL) false 0
 else
 g10L0 FUEL x0 x1 x2 x3 x4 x5 x6 x7 x8 x9 x10 x11 x12 x13 x14 x15 x16 x17 x18 x19 x20 x21 x22 x23 x24 x25 x26 x27 x28 x29 x30 x31 x32 x33 x34 x35 x36 x37 x38 x39 x40 x41 x42 x43 x44 x45 x46 x47 x48 x49 x50 x51 x52 x53 x54 x55 x56 x57 x58 x59 x60 x61 x62 x63 x64 x65 x66 x67 x68 x69 x70 x71 x72 x73 x0 x1 x2 x3 x4 0 0 0 0 0 0 false 0 0 0 0 0 0 0 0 0 0 0 0 0 0 0 0 0 0 0 0 ([] : LL) 0 0 0 0 0 0 false ([] : LL) ([] : LL) x42 ([] : LL) x44 x45 x46 x47 x48 x49 x50 x51 x52 x53 0 0 ([] : LL) ([] : LL) ([] : LL) ([] : LL) ([] : LL) ([] : LL) ([] : LL) ([] : LL) false 0 ([] : LL) ([] : LL) ([] : LL) ([] : LL) ([] : LL) ([] : LL) ([] : LL) ([] : LL) false 0
 else
 g10L0 FUEL x0 x1 x2 x3 x4 x5 x6 x7 x8 x9 x10 x11 x12 x13 x14 x15 x16 x17 x18 x19 x20 x21 x22 x23 x24 x25 x26 x27 x28 x29 x30 x31 x32 x33 x34 x35 x36 x37 x38 x39 x40 x41 x42 x43 x44 x45 x46 x47 x48 x49 x50 x51 x52 x53 x54 x55 x56 x57 x58 x59 x60 x61 x62 x63 x64 x65 x66 x67 x68 x69 x70 x71 x72 x73 x0 x1 x2 x3 x4 0 0 0 0 0 0 false 0 0 0 0 0 0 0 0 0 0 0 0 0 0 0 0 0 0 0 0 ([] : LL) 0 0 0 0 0 0 false ([] : LL) ([] : LL) x42 ([] : LL) x44 x45 x46 x47 x48 x49 x50 x51 x52 x53 0 0 ([] : LL) ([] : LL) ([] : LL) ([] : LL) ([] : LL) ([] : LL) ([] : LL) ([] : LL) false 0 ([] : LL) ([] : LL) ([] : LL) ([] : LL) ([] : LL) ([] : LL) ([] : LL) ([] : LL) false 0
 else
 if (cop .eql x0 15) = true then
 (g36 x4).bind fun (r77 : Bool) =>
 g10L0 FUEL x0 x1 x2 x3 x4 x5 x6 x7 x8 x9 x10 x11 x12 x13 x14 x15 x16 x17 x18 x19 x20 x21 x22 x23 x24 x25 x26 x27 x28 x29 x30 x31 x32 x33 x34 x35 x36 x37 x38 x39 x40 x41 x42 x43 x44 x45 x46 x47 x48 x49 x50 x51 x52 x53 x54 x55 x56 x57 x58 x59 x60 x61 x62 x63 x64 x65 x66 x67 x68 x69 x70 x71 x72 x73 x0 x1 x2 x3 x4 0 0 0 0 0 0 false 0 0 0 0 0 0 0 0 0 0 0 0 0 0 0 0 0 0 0 0 ([] : LL) 0 0 0 0 0 0 false ([] : LL) ([] : LL) ([] : LL) ([] : LL) 0 0 ([] : LL) ([] : LL) ([] : LL) ([] : LL) ([] : LL) ([] : LL) ([] : LL) ([] : LL) 0 0 ([] : LL) ([] : LL) ([] : LL) ([] : LL) ([] : LL) ([] : LL) ([] : LL) ([] : LL) false 0 ([] : LL) ([] : LL) ([] : LL) ([] : LL) ([] : LL) ([] : LL) ([] : LL) ([] : LL) r77 0
 else
 if (cop .eql x0 16) = true then
 (g36 x4).bind fun (r77 : Bool) =>
 g10L0 FUEL x0 x1 x2 x3 x4 x5 x6 x7 x8 x9 x10 x11 x12 x13 x14 x15 x16 x17 x18 x19 x20 x21 x22 x23 x24 x25 x26 x27 x28 x29 x30 x31 x32 x33 x34 x35 x36 x37 x38 x39 x40 x41 x42 x43 x44 x45 x46 x47 x48 x49 x50 x51 x52 x53 x54 x55 x56 x57 x58 x59 x60 x61 x62 x63 x64 x65 x66 x67 x68 x69 x70 x71 x72 x73 x0 x1 x2 x3 x4 0 0 0 0 0 0 false 0 0 0 0 0 0 0 0 0 0 0 0 0 0 0 0 0 0 0 0 ([] : LL) 0 0 0 0 0 0 false ([] : LL) ([] : LL) ([] : LL) ([] : LL) 0 0 ([] : LL) ([] : LL) ([] : LL) ([] : LL) ([] : LL) ([] : LL) ([] : LL) ([] : LL) 0 0 ([] : LL) ([] : LL) ([] : LL) ([] : LL) ([] : LL) ([] : LL) ([] : LL) ([] : LL) false 0 ([] : LL) ([] : LL) ([] : LL) ([] : LL) ([] : LL) ([] : LL) ([] : LL) ([] : LL) r77 0
 else
 if (cop .eql x0 17) = true then
 (g41 x42).bind fun (r77 : Bool) =>
 if r77 = true then
 (g44 x43).bind fun (r78 : Bool) =>
 g10L0 FUEL x0 x1 x2 x3 x4 x5 x6 x7 x8 x9 x10 x11 x12 x13 x14 x15 x16 x17 x18 x19 x20 x21 x22 x23 x24 x25 x26 x27 x28 x29 x30 x31 x32 x33 x34 x35 x36 x37 x38 x39 x40 x41 x42 x43 x44 x45 x46 x47 x48 x49 x50 x51 x52 x53 x54 x55 x56 x57 x58 x59 x60 x61 x62 x63 x64 x65 x66 x67 x68 x69 x70 x71 x72 x73 x0 x1 x2 x3 0 0 0 0 0 0 0 false 0 0 0 0 0 0 0 0 0 0 0 0 0 0 0 0 0 0 0 0 ([] : LL) 0 0 0 0 0 0 false ([] : LL) ([] : LL) x42 x43 0 0 ([] : LL) ([] : LL) ([] : LL) ([] : LL) ([] : LL) ([] : LL) ([] : LL) ([] : LL) 0 0 ([] : LL) ([] : LL) ([] : LL) ([] : LL) ([] : LL) ([] : LL) ([] : LL) ([] : LL) false 0 ([] : LL) ([] : LL) ([] : LL) ([] : LL) ([] : LL) ([] : LL) ([] : LL) ([] : LL) r78 0
 else
 g10L0 FUEL x0 x1 x2 x3 x4 x5 x6 x7 x8 x9 x10 x11 x12 x13 x14 x15 x16 x17 x18 x19 x20 x21 x22 x23 x24 x25 x26 x27 x28 x29 x30 x31 x32 x33 x34 x35 x36 x37 x38 x39 x40 x41 x42 x43 x44 x45 x46 x47 x48 x49 x50 x51 x52 x53 x54 x55 x56 x57 x58 x59 x60 x61 x62 x63 x64 x65 x66 x67 x68 x69 x70 x71 x72 x73 x0 x1 x2 x3 0 0 0 0 0 0 0 false 0 0 0 0 0 0 0 0 0 0 0 0 0 0 0 0 0 0 0 0 ([] : LL) 0 0 0 0 0 0 false ([] : LL) ([] : LL) x42 x43 0 0 ([] : LL) ([] : LL) ([] : LL) ([] : LL) ([] : LL) ([] : LL) ([] : LL) ([] : LL) 0 0 ([] : LL) ([] : LL) ([] : LL) ([] : LL) ([] : LL) ([] : LL) ([] : LL) ([] : LL) false 0 ([] : LL) ([] : LL) ([] : LL) ([] : LL) ([] : LL) ([] : LL) ([] : LL) ([] : LL) false 0
 else
 (g38 x7 x8 x9).bind fun (r77 : Bool) =>
 g10L0 FUEL x0 x1 x2 x3 x4 x5 x6 x7 x8 x9 x10 x11 x12 x13 x14 x15 x16 x17 x18 x19 x20 x21 x22 x23 x24 x25 x26 x27 x28 x29 x30 x31 x32 x33 x34 x35 x36 x37 x38 x39 x40 x41 x42 x43 x44 x45 x46 x47 x48 x49 x50 x51 x52 x53 x54 x55 x56 x57 x58 x59 x60 x61 x62 x63 x64 x65 x66 x67 x68 x69 x70 x71 x72 x73 x0 x1 x2 x3 0 x5 0 x7 x8 x9 0 false 0 0 0 0 0 0 0 0 0 0 0 0 0 0 0 0 0 0 0 0 ([] : LL) 0 0 0 0 0 0 false ([] : LL) ([] : LL) ([] : LL) ([] : LL) 0 0 ([] : LL) ([] : LL) ([] : LL) ([] : LL) ([] : LL) ([] : LL) ([] : LL) ([] : LL) 0 0 ([] : LL) ([] : LL) ([] : LL) ([] : LL) ([] : LL) ([] : LL) ([] : LL) ([] : LL) false 0 ([] : LL) ([] : LL) ([] : LL) ([] : LL) ([] : LL) ([] : LL) ([] : LL) ([] : LL) r77 0) := by kernel_rfl

/- multikernel/binenc.AppendUvarint -/
noncomputable def F72 : Fn := ⟨50, [4], [(3, [(0, .c (.slice 1)), (1, .c (.int .u64)), (5, .c (.int .i64)), (6, .c (.int .u64))]), (9, [(0, .c (.slice 1)), (1, .c (.int .u64)), (5, .c (.int .i64)), (7, .mref 22), (8, .c (.int .i64)), (22, .row 5)])], [], 0, Tryz.f72, [.c (.slice 1), .c (.int .u64)], [.c (.own 5)], []⟩
theorem ok72 : F72.S.Ok Tryz.prog 72 := F72.ok Tryz.func72 (by kernel_rfl) trivial
noncomputable def g72 (x0 : LL) (x1 : Int) : Option (LL) := F72.S.g [.l x0, .i x1]
noncomputable def g72L0 (k : Nat) (x0 : LL) (x1 x2 x3 x4 x5 : Int) (x6 : LL) : Option (LL) := F72.lp [2, 1, 2] 0 r0 k [.l x0, .i x1, .i x2, .i x3, .i x4, .i x5, .l x6]
theorem g72L0_eq (k : Nat) (x0 : LL) (x1 x2 x3 x4 x5 : Int) (x6 : LL) : g72L0 (k + 1) x0 x1 x2 x3 x4 x5 x6 =
 (if (cop .lss x3 x2) = true then
 if (cop .lss x3 (iop .sub .i64 x2 1)) = true then
 reqK ((0 : Int) ≤ (iop .add .i64 (List.length x0 : Int) x3)) <|
 reqK (((iop .add .i64 (List.length x0 : Int) x3) : Int) < x4) <|
 reqK ((0 : Int) ≤ (iop .add .i64 (List.length x0 : Int) x3)) <|
 reqK (((iop .add .i64 (List.length x0 : Int) x3) : Int) < x4) <|
 reqK ((0 : Int) ≤ 7) <|
 g72L0 k x0 (iop .shr .u64 x1 7) x2 (iop .add .i64 x3 1) x4 x5 (setElem x6 (Int.toNat (iop .add .i64 (List.length x0 : Int) x3)) 0 [AV.val (.int .u8 (iop .or .u8 (IntKind.wrap .u8 (iop .and .u64 x1 127)) 128))])
 else
 reqK ((0 : Int) ≤ (iop .add .i64 (List.length x0 : Int) x3)) <|
 reqK (((iop .add .i64 (List.length x0 : Int) x3) : Int) < x4) <|
 reqK ((0 : Int) ≤ (iop .add .i64 (List.length x0 : Int) x3)) <|
 reqK (((iop .add .i64 (List.length x0 : Int) x3) : Int) < x4) <|
 reqK ((0 : Int) ≤ 7) <|
 g72L0 k x0 (iop .shr .u64 x1 7) x2 (iop .add .i64 x3 1) x4 x5 (setElem x6 (Int.toNat (iop .add .i64 (List.length x0 : Int) x3)) 0 [AV.val (.int .u8 (IntKind.wrap .u8 (iop .and .u64 x1 127)))])
 else
 some (x6)) := by kernel_rfl
noncomputable def g72L1 (k : Nat) (x0 : LL) (x1 x2 x3 : Int) : Option (LL) := F72.lp [2] 0 r0 k [.l x0, .i x1, .i x2, .i x3]
theorem g72L1_eq (k : Nat) (x0 : LL) (x1 x2 x3 : Int) : g72L1 (k + 1) x0 x1 x2 x3 =
 (if (cop .gtr x3 0) = true then
 reqK ((0 : Int) ≤ 7) <|
 g72L1 k x0 x1 (iop .add .i64 x2 1) (iop .shr .u64 x3 7)
 else
 reqK (makeP (iop .add .i64 (List.length x0 : Int) x2) 1) <|
 g72L0 FUEL x0 x1 x2 0 (iop .add .i64 (List.length x0 : Int) x2) (iop .add .i64 (List.length x0 : Int) x2) (splL (List.replicate (Int.toNat (iop .add .i64 (List.length x0 : Int) x2)) [AV.val (.int .u8 0)]) x0)) := by kernel_rfl
theorem g72_eq (x0 : LL) (x1 : Int) : g72 x0 x1 =
 (reqK ((0 : Int) ≤ 7) <|
 g72L1 FUEL x0 x1 1 (iop .shr .u64 x1 7)) := by kernel_rfl

/- (*multikernel/wire.writer).uint -/
noncomputable def F18 : Fn := ⟨14, [], [], [0], 0, Tryz.f18, [.box [.own 5], .c (.int .i64)], [], [(72, F72.S)]⟩
theorem ok18 : F18.S.Ok Tryz.prog 18 := F18.ok Tryz.func18 (by kernel_rfl) ⟨ok72, trivial⟩
noncomputable def g18 (x0 : LL) (x1 : Int) : Option (LL) := F18.S.g [.l x0, .i x1]
theorem g18_eq (x0 : LL) (x1 : Int) : g18 x0 x1 =
 ((g72 x0 (IntKind.wrap .u64 x1)).bind fun (r2 : LL) =>
 some (r2)) := by kernel_rfl

/- multikernel/node.AppendId -/
noncomputable def F147 : Fn := ⟨25, [4], [(2, [(0, .c (.own 5)), (13, .c (.slice 1)), (14, .c (.int .i64)), (15, .c (.int .i64))])], [], 0, Tryz.f147, [.c (.own 5), .agg [.int .i64, .int .i64, .int .i64]], [.c (.own 5)], [(72, F72.S)]⟩
theorem ok147 : F147.S.Ok Tryz.prog 147 := F147.ok Tryz.func147 (by kernel_rfl) ⟨ok72, trivial⟩
noncomputable def g147 (x0 : LL) (x1 x2 x3 : Int) : Option (LL) := F147.S.g [.l x0, .i x1, .i x2, .i x3]
noncomputable def g147L0 (k : Nat) (x0 x1 : LL) (x2 x3 : Int) : Option (LL) := F147.lp [0] 0 r0 k [.l x0, .l x1, .i x2, .i x3]
theorem g147L0_eq (k : Nat) (x0 x1 : LL) (x2 x3 : Int) : g147L0 (k + 1) x0 x1 x2 x3 =
 (if (cop .lss x3 x2) = true then
 elemK x1 x3 [.int .i64] fun (r4 : Int) =>
 (g72 x0 (IntKind.wrap .u64 r4)).bind fun (r5 : LL) =>
 g147L0 k r5 x1 x2 (iop .add .i64 x3 1)
 else
 some (x0)) := by kernel_rfl
theorem g147_eq (x0 : LL) (x1 x2 x3 : Int) : g147 x0 x1 x2 x3 =
 (g147L0 FUEL x0 (((([] : LL) ++ [[AV.val (.int .i64 x1)]]) ++ [[AV.val (.int .i64 x2)]]) ++ [[AV.val (.int .i64 x3)]]) (List.length (((([] : LL) ++ [[AV.val (.int .i64 x1)]]) ++ [[AV.val (.int .i64 x2)]]) ++ [[AV.val (.int .i64 x3)]]) : Int) 0) := by kernel_rfl

/- (*multikernel/wire.writer).id -/
noncomputable def F74 : Fn := ⟨13, [], [], [0], 0, Tryz.f74, [.box [.own 5], .agg [.int .i64, .int .i64, .int .i64]], [], [(147, F147.S)]⟩
theorem ok74 : F74.S.Ok Tryz.prog 74 := F74.ok Tryz.func74 (by kernel_rfl) ⟨ok147, trivial⟩
noncomputable def g74 (x0 : LL) (x1 x2 x3 : Int) : Option (LL) := F74.S.g [.l x0, .i x1, .i x2, .i x3]
theorem g74_eq (x0 : LL) (x1 x2 x3 : Int) : g74 x0 x1 x2 x3 =
 ((g147 x0 x1 x2 x3).bind fun (r4 : LL) =>
 some (r4)) := by kernel_rfl

/- multikernel/binenc.AppendVarint -/
noncomputable def F173 : Fn := ⟨14, [4], [], [], 0, Tryz.f173, [.c (.slice 1), .c (.int .i64)], [.c (.own 5)], [(72, F72.S)]⟩
theorem ok173 : F173.S.Ok Tryz.prog 173 := F173.ok Tryz.func173 (by kernel_rfl) ⟨ok72, trivial⟩
noncomputable def g173 (x0 : LL) (x1 : Int) : Option (LL) := F173.S.g [.l x0, .i x1]
theorem g173_eq (x0 : LL) (x1 : Int) : g173 x0 x1 =
 (reqK ((0 : Int) ≤ 1) <|
 reqK ((0 : Int) ≤ 63) <|
 (g72 x0 (iop .xor .u64 (iop .shl .u64 (IntKind.wrap .u64 x1) 1) (IntKind.wrap .u64 (iop .shr .i64 x1 63)))).bind fun (r2 : LL) =>
 some (r2)) := by kernel_rfl

/- (*multikernel/wire.writer).call -/
noncomputable def F145 : Fn := ⟨46, [], [(2, [(0, .box [.own 5]), (30, .c (.slice 1)), (31, .c (.int .i64)), (32, .c (.int .i64))])], [0], 0, Tryz.f145, [.box [.own 5], .agg hs9], [], [(173, F173.S)]⟩
theorem ok145 : F145.S.Ok Tryz.prog 145 := F145.ok Tryz.func145 (by kernel_rfl) ⟨ok173, trivial⟩
noncomputable def g145 (x0 : LL) (x1 x2 x3 x4 x5 x6 x7 x8 x9 x10 x11 x12 : Int) : Option (LL) := F145.S.g [.l x0, .i x1, .i x2, .i x3, .i x4, .i x5, .i x6, .i x7, .i x8, .i x9, .i x10, .i x11, .i x12]
noncomputable def g145L0 (k : Nat) (x0 x1 : LL) (x2 x3 : Int) : Option (LL) := F145.lp [0] 0 r0 k [.l x0, .l x1, .i x2, .i x3]
theorem g145L0_eq (k : Nat) (x0 x1 : LL) (x2 x3 : Int) : g145L0 (k + 1) x0 x1 x2 x3 =
 (if (cop .lss x3 x2) = true then
 elemK x1 x3 [.int .i64] fun (r4 : Int) =>
 (g173 x0 r4).bind fun (r5 : LL) =>
 g145L0 k r5 x1 x2 (iop .add .i64 x3 1)
 else
 some (x0)) := by kernel_rfl
theorem g145_eq (x0 : LL) (x1 x2 x3 x4 x5 x6 x7 x8 x9 x10 x11 x12 : Int) : g145 x0 x1 x2 x3 x4 x5 x6 x7 x8 x9 x10 x11 x12 =
 (g145L0 FUEL x0 ((((((((((((([] : LL) ++ [[AV.val (.int .i64 x1)]]) ++ [[AV.val (.int .i64 x2)]]) ++ [[AV.val (.int .i64 x3)]]) ++ [[AV.val (.int .i64 x4)]]) ++ [[AV.val (.int .i64 x5)]]) ++ [[AV.val (.int .i64 x6)]]) ++ [[AV.val (.int .i64 x7)]]) ++ [[AV.val (.int .i64 x8)]]) ++ [[AV.val (.int .i64 x9)]]) ++ [[AV.val (.int .i64 x10)]]) ++ [[AV.val (.int .i64 x11)]]) ++ [[AV.val (.int .i64 x12)]]) (List.length ((((((((((((([] : LL) ++ [[AV.val (.int .i64 x1)]]) ++ [[AV.val (.int .i64 x2)]]) ++ [[AV.val (.int .i64 x3)]]) ++ [[AV.val (.int .i64 x4)]]) ++ [[AV.val (.int .i64 x5)]]) ++ [[AV.val (.int .i64 x6)]]) ++ [[AV.val (.int .i64 x7)]]) ++ [[AV.val (.int .i64 x8)]]) ++ [[AV.val (.int .i64 x9)]]) ++ [[AV.val (.int .i64 x10)]]) ++ [[AV.val (.int .i64 x11)]]) ++ [[AV.val (.int .i64 x12)]]) : Int) 0) := by kernel_rfl

/- multikernel/captype.Encode -/
noncomputable def F181 : Fn := ⟨45, [2, 3], [(8, [(1, .box hs13), (5, .c (.own 5)), (31, .c (.int .i64))])], [], 0, Tryz.f181, [.agg hs13], [.c (.own 5), .c (.int .i64)], [(109, F109.S)]⟩
theorem ok181 : F181.S.Ok Tryz.prog 181 := F181.ok Tryz.func181 (by kernel_rfl) ⟨ok109, trivial⟩
noncomputable def g181 (x0 x1 x2 x3 x4 x5 : Int) (x6 : Bool) : Option (LL × Int) := F181.S.g [.i x0, .i x1, .i x2, .i x3, .i x4, .i x5, .b x6]
noncomputable def g181L0 (k : Nat) (x0 x1 x2 x3 x4 x5 : Int) (x6 : Bool) (x7 : LL) (x8 : Int) : Option (LL × Int) := F181.lp [0, 1, 0, 0] 0 r0 k [.i x0, .i x1, .i x2, .i x3, .i x4, .i x5, .b x6, .l x7, .i x8]
theorem g181L0_eq (k : Nat) (x0 x1 x2 x3 x4 x5 : Int) (x6 : Bool) (x7 : LL) (x8 : Int) : g181L0 (k + 1) x0 x1 x2 x3 x4 x5 x6 x7 x8 =
 (if (cop .lss x8 5) = true then
 reqK ((0 : Int) ≤ (iop .mul .i64 8 x8)) <|
 reqK (roomP x7 (([] : LL) ++ [[AV.val (.int .u8 (IntKind.wrap .u8 (iop .shr .i64 x1 (iop .mul .i64 8 x8))))]]) 1) <|
 g181L0 k x0 x1 x2 x3 x4 x5 x6 (x7 ++ (([] : LL) ++ [[AV.val (.int .u8 (IntKind.wrap .u8 (iop .shr .i64 x1 (iop .mul .i64 8 x8))))]])) (iop .add .i64 x8 1)
 else
 some (x7, 0)) := by kernel_rfl
theorem g181_eq (x0 x1 x2 x3 x4 x5 : Int) (x6 : Bool) : g181 x0 x1 x2 x3 x4 x5 x6 =
 ((g109 x0 x1 x2 x3 x4 x5 x6).bind fun (r7 : Bool) =>
 if (!r7) = true then
 some (([] : LL), 1)
 else
 if x6 = true then
 g181L0 FUEL x0 x1 x2 x3 x4 x5 x6 (((((([] : LL) ++ [[AV.val (.int .u8 (IntKind.wrap .u8 x0))]]) ++ [[AV.val (.int .u8 (IntKind.wrap .u8 x2))]]) ++ [[AV.val (.int .u8 (IntKind.wrap .u8 (iop .add .i64 x3 8)))]]) ++ [[AV.val (.int .u8 (IntKind.wrap .u8 x4))]]) ++ [[AV.val (.int .u8 (IntKind.wrap .u8 x5))]]) 0
 else
 g181L0 FUEL x0 x1 x2 x3 x4 x5 x6 (((((([] : LL) ++ [[AV.val (.int .u8 (IntKind.wrap .u8 x0))]]) ++ [[AV.val (.int .u8 (IntKind.wrap .u8 x2))]]) ++ [[AV.val (.int .u8 (IntKind.wrap .u8 x3))]]) ++ [[AV.val (.int .u8 (IntKind.wrap .u8 x4))]]) ++ [[AV.val (.int .u8 (IntKind.wrap .u8 x5))]]) 0) := by kernel_rfl

/- multikernel/node.Encode -/
noncomputable def F174 : Fn := ⟨40, [2, 3], [(5, [(1, .box hs10), (4, .c (.own 5)), (21, .c (.slice 3)), (22, .c (.int .i64)), (23, .c (.int .i64))])], [], 0, Tryz.f174, [.agg hs10], [.c (.own 5), .c (.int .i64)], [(50, F50.S), (147, F147.S), (72, F72.S), (181, F181.S)]⟩
theorem ok174 : F174.S.Ok Tryz.prog 174 := F174.ok Tryz.func174 (by kernel_rfl) ⟨ok50, ⟨ok147, ⟨ok72, ⟨ok181, trivial⟩⟩⟩⟩
noncomputable def g174 (x0 x1 x2 : Int) (x3 : LL) (x4 x5 x6 x7 x8 x9 : Int) (x10 : Bool) : Option (LL × Int) := F174.S.g [.i x0, .i x1, .i x2, .l x3, .i x4, .i x5, .i x6, .i x7, .i x8, .i x9, .b x10]
noncomputable def g174L0 (k : Nat) (x0 x1 x2 : Int) (x3 : LL) (x4 x5 x6 x7 x8 x9 : Int) (x10 : Bool) (x11 x12 : LL) (x13 x14 : Int) : Option (LL × Int) := F174.lp [0, 1, 3] 0 r0 k [.i x0, .i x1, .i x2, .l x3, .i x4, .i x5, .i x6, .i x7, .i x8, .i x9, .b x10, .l x11, .l x12, .i x13, .i x14]
theorem g174L0_eq (k : Nat) (x0 x1 x2 : Int) (x3 : LL) (x4 x5 x6 x7 x8 x9 : Int) (x10 : Bool) (x11 x12 : LL) (x13 x14 : Int) : g174L0 (k + 1) x0 x1 x2 x3 x4 x5 x6 x7 x8 x9 x10 x11 x12 x13 x14 =
 (if (cop .lss x14 x13) = true then
 elemK x12 x14 [.int .i64, .int .i64, .int .i64] fun (r15 : Int × Int × Int) =>
 (g147 x11 r15.1 r15.2.1 r15.2.2).bind fun (r18 : LL) =>
 g174L0 k x0 x1 x2 x3 x4 x5 x6 x7 x8 x9 x10 r18 x12 x13 (iop .add .i64 x14 1)
 else
 (g181 x4 x5 x6 x7 x8 x9 x10).bind fun (r15 : LL × Int) =>
 reqK (roomP x11 r15.1 1) <|
 some ((x11 ++ r15.1), 0)) := by kernel_rfl
theorem g174_eq (x0 x1 x2 : Int) (x3 : LL) (x4 x5 x6 x7 x8 x9 : Int) (x10 : Bool) : g174 x0 x1 x2 x3 x4 x5 x6 x7 x8 x9 x10 =
 ((g50 x0 x1 x2 x3 x4 x5 x6 x7 x8 x9 x10).bind fun (r11 : Bool) =>
 if (!r11) = true then
 some (([] : LL), 1)
 else
 (g147 ([] : LL) x0 x1 x2).bind fun (r12 : LL) =>
 (g72 r12 (IntKind.wrap .u64 (List.length x3 : Int))).bind fun (r13 : LL) =>
 g174L0 FUEL x0 x1 x2 x3 x4 x5 x6 x7 x8 x9 x10 r13 x3 (List.length x3 : Int) 0) := by kernel_rfl

/- (*multikernel/wire.writer).node -/
noncomputable def F146 : Fn := ⟨24, [], [], [0], 0, Tryz.f146, [.box [.own 5], .agg hs10], [], [(174, F174.S), (18, F18.S)]⟩
theorem ok146 : F146.S.Ok Tryz.prog 146 := F146.ok Tryz.func146 (by kernel_rfl) ⟨ok174, ⟨ok18, trivial⟩⟩
noncomputable def g146 (x0 : LL) (x1 x2 x3 : Int) (x4 : LL) (x5 x6 x7 x8 x9 x10 : Int) (x11 : Bool) : Option (LL) := F146.S.g [.l x0, .i x1, .i x2, .i x3, .l x4, .i x5, .i x6, .i x7, .i x8, .i x9, .i x10, .b x11]
theorem g146_eq (x0 : LL) (x1 x2 x3 : Int) (x4 : LL) (x5 x6 x7 x8 x9 x10 : Int) (x11 : Bool) : g146 x0 x1 x2 x3 x4 x5 x6 x7 x8 x9 x10 x11 =
 ((g174 x1 x2 x3 x4 x5 x6 x7 x8 x9 x10 x11).bind fun (r12 : LL × Int) =>
 (g18 x0 (List.length r12.1 : Int)).bind fun (r14 : LL) =>
 reqK (roomP r14 r12.1 1) <|
 some ((r14 ++ r12.1))) := by kernel_rfl

/- (*multikernel/wire.writer).request -/
noncomputable def F73 : Fn := ⟨24, [], [], [0], 0, Tryz.f73, [.box [.own 5], .agg hs4], [], [(74, F74.S), (145, F145.S), (18, F18.S), (146, F146.S)]⟩
theorem ok73 : F73.S.Ok Tryz.prog 73 := F73.ok Tryz.func73 (by kernel_rfl) ⟨ok74, ⟨ok145, ⟨ok18, ⟨ok146, trivial⟩⟩⟩⟩
noncomputable def g73 (x0 : LL) (x1 x2 x3 x4 x5 x6 x7 x8 x9 x10 x11 x12 x13 x14 x15 x16 x17 x18 x19 x20 : Int) (x21 : LL) (x22 x23 x24 x25 x26 x27 : Int) (x28 : Bool) : Option (LL) := F73.S.g [.l x0, .i x1, .i x2, .i x3, .i x4, .i x5, .i x6, .i x7, .i x8, .i x9, .i x10, .i x11, .i x12, .i x13, .i x14, .i x15, .i x16, .i x17, .i x18, .i x19, .i x20, .l x21, .i x22, .i x23, .i x24, .i x25, .i x26, .i x27, .b x28]
theorem g73_eq (x0 : LL) (x1 x2 x3 x4 x5 x6 x7 x8 x9 x10 x11 x12 x13 x14 x15 x16 x17 x18 x19 x20 : Int) (x21 : LL) (x22 x23 x24 x25 x26 x27 : Int) (x28 : Bool) : g73 x0 x1 x2 x3 x4 x5 x6 x7 x8 x9 x10 x11 x12 x13 x14 x15 x16 x17 x18 x19 x20 x21 x22 x23 x24 x25 x26 x27 x28 =
 ((g74 x0 x1 x2 x3).bind fun (r29 : LL) =>
 (g145 r29 x4 x5 x6 x7 x8 x9 x10 x11 x12 x13 x14 x15).bind fun (r30 : LL) =>
 (g18 r30 x16).bind fun (r31 : LL) =>
 (g18 r31 x17).bind fun (r32 : LL) =>
 (g146 r32 x18 x19 x20 x21 x22 x23 x24 x25 x26 x27 x28).bind fun (r33 : LL) =>
 some (r33)) := by kernel_rfl

/- (*multikernel/wire.writer).bool -/
noncomputable def F75 : Fn := ⟨9, [], [], [0], 0, Tryz.f75, [.box [.own 5], .c (.bool)], [], [(18, F18.S)]⟩
theorem ok75 : F75.S.Ok Tryz.prog 75 := F75.ok Tryz.func75 (by kernel_rfl) ⟨ok18, trivial⟩
noncomputable def g75 (x0 : LL) (x1 : Bool) : Option (LL) := F75.S.g [.l x0, .b x1]
theorem g75_eq (x0 : LL) (x1 : Bool) : g75 x0 x1 =
 (if x1 = true then
 (g18 x0 1).bind fun (r2 : LL) =>
 some (r2)
 else
 (g18 x0 0).bind fun (r2 : LL) =>
 some (r2)) := by kernel_rfl

/- (*multikernel/wire.writer).nodes -/
noncomputable def F76 : Fn := ⟨20, [], [(2, [(0, .box [.own 5]), (10, .c (.slice 11)), (11, .c (.int .i64)), (12, .c (.int .i64))])], [0], 0, Tryz.f76, [.box [.own 5], .c (.slice 11)], [], [(18, F18.S), (146, F146.S)]⟩
theorem ok76 : F76.S.Ok Tryz.prog 76 := F76.ok Tryz.func76 (by kernel_rfl) ⟨ok18, ⟨ok146, trivial⟩⟩
noncomputable def g76 (x0 x1 : LL) : Option (LL) := F76.S.g [.l x0, .l x1]
noncomputable def g76L0 (k : Nat) (x0 x1 : LL) (x2 x3 : Int) : Option (LL) := F76.lp [2] 0 r0 k [.l x0, .l x1, .i x2, .i x3]
theorem g76L0_eq (k : Nat) (x0 x1 : LL) (x2 x3 : Int) : g76L0 (k + 1) x0 x1 x2 x3 =
 (if (cop .lss x3 x2) = true then
 elemK x1 x3 hs10 fun (r4 : Qt15) =>
 (g146 x0 r4.1 r4.2.1 r4.2.2.1 r4.2.2.2.1 r4.2.2.2.2.1 r4.2.2.2.2.2.1 r4.2.2.2.2.2.2.1 r4.2.2.2.2.2.2.2.1 r4.2.2.2.2.2.2.2.2.1 r4.2.2.2.2.2.2.2.2.2.1 r4.2.2.2.2.2.2.2.2.2.2).bind fun (r15 : LL) =>
 g76L0 k r15 x1 x2 (iop .add .i64 x3 1)
 else
 some (x0)) := by kernel_rfl
theorem g76_eq (x0 x1 : LL) : g76 x0 x1 =
 ((g18 x0 (List.length x1 : Int)).bind fun (r2 : LL) =>
 g76L0 FUEL r2 x1 (List.length x1 : Int) 0) := by kernel_rfl

/- (*multikernel/wire.writer).ids -/
noncomputable def F77 : Fn := ⟨20, [], [(2, [(0, .box [.own 5]), (10, .c (.slice 3)), (11, .c (.int .i64)), (12, .c (.int .i64))])], [0], 0, Tryz.f77, [.box [.own 5], .c (.slice 3)], [], [(18, F18.S), (74, F74.S)]⟩
theorem ok77 : F77.S.Ok Tryz.prog 77 := F77.ok Tryz.func77 (by kernel_rfl) ⟨ok18, ⟨ok74, trivial⟩⟩
noncomputable def g77 (x0 x1 : LL) : Option (LL) := F77.S.g [.l x0, .l x1]
noncomputable def g77L0 (k : Nat) (x0 x1 : LL) (x2 x3 : Int) : Option (LL) := F77.lp [2] 0 r0 k [.l x0, .l x1, .i x2, .i x3]
theorem g77L0_eq (k : Nat) (x0 x1 : LL) (x2 x3 : Int) : g77L0 (k + 1) x0 x1 x2 x3 =
 (if (cop .lss x3 x2) = true then
 elemK x1 x3 [.int .i64, .int .i64, .int .i64] fun (r4 : Int × Int × Int) =>
 (g74 x0 r4.1 r4.2.1 r4.2.2).bind fun (r7 : LL) =>
 g77L0 k r7 x1 x2 (iop .add .i64 x3 1)
 else
 some (x0)) := by kernel_rfl
theorem g77_eq (x0 x1 : LL) : g77 x0 x1 =
 ((g18 x0 (List.length x1 : Int)).bind fun (r2 : LL) =>
 g77L0 FUEL r2 x1 (List.length x1 : Int) 0) := by kernel_rfl

/- (*multikernel/wire.writer).ints -/
noncomputable def F78 : Fn := ⟨20, [], [(2, [(0, .box [.own 5]), (10, .c (.slice 1)), (11, .c (.int .i64)), (12, .c (.int .i64))])], [0], 0, Tryz.f78, [.box [.own 5], .c (.slice 1)], [], [(18, F18.S)]⟩
theorem ok78 : F78.S.Ok Tryz.prog 78 := F78.ok Tryz.func78 (by kernel_rfl) ⟨ok18, trivial⟩
noncomputable def g78 (x0 x1 : LL) : Option (LL) := F78.S.g [.l x0, .l x1]
noncomputable def g78L0 (k : Nat) (x0 x1 : LL) (x2 x3 : Int) : Option (LL) := F78.lp [2] 0 r0 k [.l x0, .l x1, .i x2, .i x3]
theorem g78L0_eq (k : Nat) (x0 x1 : LL) (x2 x3 : Int) : g78L0 (k + 1) x0 x1 x2 x3 =
 (if (cop .lss x3 x2) = true then
 elemK x1 x3 [.int .i64] fun (r4 : Int) =>
 (g18 x0 r4).bind fun (r5 : LL) =>
 g78L0 k r5 x1 x2 (iop .add .i64 x3 1)
 else
 some (x0)) := by kernel_rfl
theorem g78_eq (x0 x1 : LL) : g78 x0 x1 =
 ((g18 x0 (List.length x1 : Int)).bind fun (r2 : LL) =>
 g78L0 FUEL r2 x1 (List.length x1 : Int) 0) := by kernel_rfl

/- (*multikernel/wire.writer).view -/
noncomputable def F80 : Fn := ⟨16, [], [], [0], 0, Tryz.f80, [.box [.own 5], .agg [.int .i64, .slice 1, .slice 1]], [], [(18, F18.S), (78, F78.S)]⟩
theorem ok80 : F80.S.Ok Tryz.prog 80 := F80.ok Tryz.func80 (by kernel_rfl) ⟨ok18, ⟨ok78, trivial⟩⟩
noncomputable def g80 (x0 : LL) (x1 : Int) (x2 x3 : LL) : Option (LL) := F80.S.g [.l x0, .i x1, .l x2, .l x3]
theorem g80_eq (x0 : LL) (x1 : Int) (x2 x3 : LL) : g80 x0 x1 x2 x3 =
 ((g18 x0 x1).bind fun (r4 : LL) =>
 (g78 r4 x2).bind fun (r5 : LL) =>
 (g78 r5 x3).bind fun (r6 : LL) =>
 some (r6)) := by kernel_rfl

/- (*multikernel/wire.writer).state -/
noncomputable def F81 : Fn := ⟨126, [], [(3, [(0, .box [.own 5]), (3, .box hs14), (20, .c (.slice 15)), (21, .c (.int .i64)), (22, .c (.int .i64))]), (11, [(0, .box [.own 5]), (3, .box hs14), (45, .c (.slice 28)), (46, .c (.int .i64)), (47, .c (.int .i64))]), (17, [(0, .box [.own 5]), (3, .box hs14), (61, .c (.slice 4)), (62, .c (.int .i64)), (63, .c (.int .i64))]), (24, [(0, .box [.own 5]), (3, .box hs14), (82, .c (.slice 2)), (83, .c (.int .i64)), (84, .c (.int .i64))]), (31, [(0, .box [.own 5]), (3, .box hs14), (103, .c (.slice 13)), (104, .c (.int .i64)), (105, .c (.int .i64))])], [0], 0, Tryz.f81, [.box [.own 5], .agg hs14], [], [(18, F18.S), (146, F146.S), (74, F74.S), (73, F73.S), (77, F77.S)]⟩
theorem ok81 : F81.S.Ok Tryz.prog 81 := F81.ok Tryz.func81 (by kernel_rfl) ⟨ok18, ⟨ok146, ⟨ok74, ⟨ok73, ⟨ok77, trivial⟩⟩⟩⟩⟩
noncomputable def g81 (x0 x1 x2 x3 x4 x5 x6 : LL) : Option (LL) := F81.S.g [.l x0, .l x1, .l x2, .l x3, .l x4, .l x5, .l x6]
noncomputable def g81L0 (k : Nat) (x0 x1 x2 x3 x4 x5 x6 x7 : LL) (x8 x9 : Int) : Option (LL) := F81.lp [2, 1, 2, 1, 2, 1, 2, 1, 2] 0 r0 k [.l x0, .l x1, .l x2, .l x3, .l x4, .l x5, .l x6, .l x7, .i x8, .i x9]
theorem g81L0_eq (k : Nat) (x0 x1 x2 x3 x4 x5 x6 x7 : LL) (x8 x9 : Int) : g81L0 (k + 1) x0 x1 x2 x3 x4 x5 x6 x7 x8 x9 =
 (if (cop .lss x9 x8) = true then
 elemK x7 x9 hs8 fun (r10 : Qt12) =>
 (g18 x0 r10.1).bind fun (r23 : LL) =>
 (g18 r23 r10.2.1).bind fun (r24 : LL) =>
 (g146 r24 r10.2.2.1 r10.2.2.2.1 r10.2.2.2.2.1 r10.2.2.2.2.2.1 r10.2.2.2.2.2.2.1 r10.2.2.2.2.2.2.2.1 r10.2.2.2.2.2.2.2.2.1 r10.2.2.2.2.2.2.2.2.2.1 r10.2.2.2.2.2.2.2.2.2.2.1 r10.2.2.2.2.2.2.2.2.2.2.2.1 (d4 (d8 r10))).bind fun (r25 : LL) =>
 g81L0 k r25 x1 x2 x3 x4 x5 x6 x7 x8 (iop .add .i64 x9 1)
 else
 (g77 x0 x6).bind fun (r10 : LL) =>
 some (r10)) := by kernel_rfl
noncomputable def g81L1 (k : Nat) (x0 x1 x2 x3 x4 x5 x6 x7 : LL) (x8 x9 : Int) : Option (LL) := F81.lp [2, 1, 2, 1, 2, 1, 2] 0 r0 k [.l x0, .l x1, .l x2, .l x3, .l x4, .l x5, .l x6, .l x7, .i x8, .i x9]
theorem g81L1_eq (k : Nat) (x0 x1 x2 x3 x4 x5 x6 x7 : LL) (x8 x9 : Int) : g81L1 (k + 1) x0 x1 x2 x3 x4 x5 x6 x7 x8 x9 =
 (if (cop .lss x9 x8) = true then
 elemK x7 x9 [.int .i64, .int .i64] fun (r10 : Int × Int) =>
 (g18 x0 r10.1).bind fun (r12 : LL) =>
 (g18 r12 r10.2).bind fun (r13 : LL) =>
 g81L1 k r13 x1 x2 x3 x4 x5 x6 x7 x8 (iop .add .i64 x9 1)
 else
 (g18 x0 (List.length x5 : Int)).bind fun (r10 : LL) =>
 g81L0 FUEL r10 x1 x2 x3 x4 x5 x6 x5 (List.length x5 : Int) 0) := by kernel_rfl
noncomputable def g81L2 (k : Nat) (x0 x1 x2 x3 x4 x5 x6 x7 : LL) (x8 x9 : Int) : Option (LL) := F81.lp [2, 1, 2, 1, 2] 0 r0 k [.l x0, .l x1, .l x2, .l x3, .l x4, .l x5, .l x6, .l x7, .i x8, .i x9]
theorem g81L2_eq (k : Nat) (x0 x1 x2 x3 x4 x5 x6 x7 : LL) (x8 x9 : Int) : g81L2 (k + 1) x0 x1 x2 x3 x4 x5 x6 x7 x8 x9 =
 (if (cop .lss x9 x8) = true then
 elemK x7 x9 [.int .i64, .int .i64, .int .i64, .int .i64] fun (r10 : Int × Int × Int × Int) =>
 (g18 x0 r10.1).bind fun (r14 : LL) =>
 (g74 r14 r10.2.1 r10.2.2.1 r10.2.2.2).bind fun (r15 : LL) =>
 g81L2 k r15 x1 x2 x3 x4 x5 x6 x7 x8 (iop .add .i64 x9 1)
 else
 (g18 x0 (List.length x4 : Int)).bind fun (r10 : LL) =>
 g81L1 FUEL r10 x1 x2 x3 x4 x5 x6 x4 (List.length x4 : Int) 0) := by kernel_rfl
noncomputable def g81L3 (k : Nat) (x0 x1 x2 x3 x4 x5 x6 x7 : LL) (x8 x9 : Int) : Option (LL) := F81.lp [2, 1, 2] 0 r0 k [.l x0, .l x1, .l x2, .l x3, .l x4, .l x5, .l x6, .l x7, .i x8, .i x9]
theorem g81L3_eq (k : Nat) (x0 x1 x2 x3 x4 x5 x6 x7 : LL) (x8 x9 : Int) : g81L3 (k + 1) x0 x1 x2 x3 x4 x5 x6 x7 x8 x9 =
 (if (cop .lss x9 x8) = true then
 elemK x7 x9 hs4 fun (r10 : Qt6) =>
 (g73 x0 r10.1 r10.2.1 r10.2.2.1 r10.2.2.2.1 r10.2.2.2.2.1 r10.2.2.2.2.2.1 r10.2.2.2.2.2.2.1 r10.2.2.2.2.2.2.2.1 r10.2.2.2.2.2.2.2.2.1 r10.2.2.2.2.2.2.2.2.2.1 r10.2.2.2.2.2.2.2.2.2.2.1 r10.2.2.2.2.2.2.2.2.2.2.2.1 (d4 (d8 r10)).1 (d4 (d8 r10)).2.1 (d2 (d4 (d8 r10))).1 (d2 (d4 (d8 r10))).2.1 (d16 r10).1 (d16 r10).2.1 (d2 (d16 r10)).1 (d2 (d16 r10)).2.1 (d4 (d16 r10)).1 (d4 (d16 r10)).2.1 (d2 (d4 (d16 r10))).1 (d2 (d4 (d16 r10))).2.1 (d8 (d16 r10)).1 (d8 (d16 r10)).2.1 (d2 (d8 (d16 r10))).1 (d2 (d8 (d16 r10))).2).bind fun (r38 : LL) =>
 g81L3 k r38 x1 x2 x3 x4 x5 x6 x7 x8 (iop .add .i64 x9 1)
 else
 (g18 x0 (List.length x3 : Int)).bind fun (r10 : LL) =>
 g81L2 FUEL r10 x1 x2 x3 x4 x5 x6 x3 (List.length x3 : Int) 0) := by kernel_rfl
noncomputable def g81L4 (k : Nat) (x0 x1 x2 x3 x4 x5 x6 x7 : LL) (x8 x9 : Int) : Option (LL) := F81.lp [2] 0 r0 k [.l x0, .l x1, .l x2, .l x3, .l x4, .l x5, .l x6, .l x7, .i x8, .i x9]
theorem g81L4_eq (k : Nat) (x0 x1 x2 x3 x4 x5 x6 x7 : LL) (x8 x9 : Int) : g81L4 (k + 1) x0 x1 x2 x3 x4 x5 x6 x7 x8 x9 =
 (if (cop .lss x9 x8) = true then
 elemK x7 x9 hs7 fun (r10 : Qt11) =>
 (g146 x0 r10.1 r10.2.1 r10.2.2.1 r10.2.2.2.1 r10.2.2.2.2.1 r10.2.2.2.2.2.1 r10.2.2.2.2.2.2.1 r10.2.2.2.2.2.2.2.1 r10.2.2.2.2.2.2.2.2.1 r10.2.2.2.2.2.2.2.2.2.1 r10.2.2.2.2.2.2.2.2.2.2.1).bind fun (r25 : LL) =>
 (g18 r25 r10.2.2.2.2.2.2.2.2.2.2.2.1).bind fun (r26 : LL) =>
 (g74 r26 (d4 (d8 r10)).1 (d4 (d8 r10)).2.1 (d2 (d4 (d8 r10)))).bind fun (r27 : LL) =>
 g81L4 k r27 x1 x2 x3 x4 x5 x6 x7 x8 (iop .add .i64 x9 1)
 else
 (g18 x0 (List.length x2 : Int)).bind fun (r10 : LL) =>
 g81L3 FUEL r10 x1 x2 x3 x4 x5 x6 x2 (List.length x2 : Int) 0) := by kernel_rfl
theorem g81_eq (x0 x1 x2 x3 x4 x5 x6 : LL) : g81 x0 x1 x2 x3 x4 x5 x6 =
 ((g18 x0 (List.length x1 : Int)).bind fun (r7 : LL) =>
 g81L4 FUEL r7 x1 x2 x3 x4 x5 x6 x1 (List.length x1 : Int) 0) := by kernel_rfl

/- (*multikernel/wire.writer).report -/
noncomputable def F79 : Fn := ⟨28, [], [], [0], 0, Tryz.f79, [.box [.own 5], .agg hs5], [], [(18, F18.S), (80, F80.S), (81, F81.S), (75, F75.S)]⟩
theorem ok79 : F79.S.Ok Tryz.prog 79 := F79.ok Tryz.func79 (by kernel_rfl) ⟨ok18, ⟨ok80, ⟨ok81, ⟨ok75, trivial⟩⟩⟩⟩
noncomputable def g79 (x0 : LL) (x1 x2 : Int) (x3 x4 x5 x6 x7 x8 x9 x10 : LL) (x11 : Bool) (x12 : Int) (x13 x14 x15 x16 x17 x18 x19 x20 : LL) : Option (LL) := F79.S.g [.l x0, .i x1, .i x2, .l x3, .l x4, .l x5, .l x6, .l x7, .l x8, .l x9, .l x10, .b x11, .i x12, .l x13, .l x14, .l x15, .l x16, .l x17, .l x18, .l x19, .l x20]
theorem g79_eq (x0 : LL) (x1 x2 : Int) (x3 x4 x5 x6 x7 x8 x9 x10 : LL) (x11 : Bool) (x12 : Int) (x13 x14 x15 x16 x17 x18 x19 x20 : LL) : g79 x0 x1 x2 x3 x4 x5 x6 x7 x8 x9 x10 x11 x12 x13 x14 x15 x16 x17 x18 x19 x20 =
 ((g18 x0 x1).bind fun (r21 : LL) =>
 (g80 r21 x2 x3 x4).bind fun (r22 : LL) =>
 (g81 r22 x5 x6 x7 x8 x9 x10).bind fun (r23 : LL) =>
 (g75 r23 x11).bind fun (r24 : LL) =>
 (g80 r24 x12 x13 x14).bind fun (r25 : LL) =>
 (g81 r25 x15 x16 x17 x18 x19 x20).bind fun (r26 : LL) =>
 some (r26)) := by kernel_rfl

/- (*multikernel/wire.writer).moves -/
noncomputable def F82 : Fn := ⟨25, [], [(2, [(0, .box [.own 5]), (10, .c (.slice 2)), (11, .c (.int .i64)), (12, .c (.int .i64))])], [0], 0, Tryz.f82, [.box [.own 5], .c (.slice 2)], [], [(18, F18.S)]⟩
theorem ok82 : F82.S.Ok Tryz.prog 82 := F82.ok Tryz.func82 (by kernel_rfl) ⟨ok18, trivial⟩
noncomputable def g82 (x0 x1 : LL) : Option (LL) := F82.S.g [.l x0, .l x1]
noncomputable def g82L0 (k : Nat) (x0 x1 : LL) (x2 x3 : Int) : Option (LL) := F82.lp [2] 0 r0 k [.l x0, .l x1, .i x2, .i x3]
theorem g82L0_eq (k : Nat) (x0 x1 : LL) (x2 x3 : Int) : g82L0 (k + 1) x0 x1 x2 x3 =
 (if (cop .lss x3 x2) = true then
 elemK x1 x3 [.int .i64, .int .i64] fun (r4 : Int × Int) =>
 (g18 x0 r4.1).bind fun (r6 : LL) =>
 (g18 r6 r4.2).bind fun (r7 : LL) =>
 g82L0 k r7 x1 x2 (iop .add .i64 x3 1)
 else
 some (x0)) := by kernel_rfl
theorem g82_eq (x0 x1 : LL) : g82 x0 x1 =
 ((g18 x0 (List.length x1 : Int)).bind fun (r2 : LL) =>
 g82L0 FUEL r2 x1 (List.length x1 : Int) 0) := by kernel_rfl

/- (*multikernel/wire.writer).field -/
noncomputable def F20 : Fn := ⟨97, [], [], [0], 0, Tryz.f20, [.box [.own 5], .agg hs0, .c (.int .i64)], [], [(18, F18.S), (73, F73.S), (74, F74.S), (75, F75.S), (76, F76.S), (77, F77.S), (78, F78.S), (79, F79.S), (80, F80.S), (81, F81.S), (82, F82.S)]⟩
theorem ok20 : F20.S.Ok Tryz.prog 20 := F20.ok Tryz.func20 (by kernel_rfl) ⟨ok18, ⟨ok73, ⟨ok74, ⟨ok75, ⟨ok76, ⟨ok77, ⟨ok78, ⟨ok79, ⟨ok80, ⟨ok81, ⟨ok82, trivial⟩⟩⟩⟩⟩⟩⟩⟩⟩⟩⟩
noncomputable def g20 (x0 : LL) (x1 x2 x3 x4 x5 x6 x7 x8 x9 x10 x11 : Int) (x12 : Bool) (x13 x14 x15 x16 x17 x18 x19 x20 x21 x22 x23 x24 x25 x26 x27 x28 x29 x30 x31 x32 : Int) (x33 : LL) (x34 x35 x36 x37 x38 x39 : Int) (x40 : Bool) (x41 x42 x43 x44 : LL) (x45 x46 : Int) (x47 x48 x49 x50 x51 x52 x53 x54 : LL) (x55 x56 : Int) (x57 x58 x59 x60 x61 x62 x63 x64 : LL) (x65 : Bool) (x66 : Int) (x67 x68 x69 x70 x71 x72 x73 x74 : LL) (x75 : Int) : Option (LL) := F20.S.g [.l x0, .i x1, .i x2, .i x3, .i x4, .i x5, .i x6, .i x7, .i x8, .i x9, .i x10, .i x11, .b x12, .i x13, .i x14, .i x15, .i x16, .i x17, .i x18, .i x19, .i x20, .i x21, .i x22, .i x23, .i x24, .i x25, .i x26, .i x27, .i x28, .i x29, .i x30, .i x31, .i x32, .l x33, .i x34, .i x35, .i x36, .i x37, .i x38, .i x39, .b x40, .l x41, .l x42, .l x43, .l x44, .i x45, .i x46, .l x47, .l x48, .l x49, .l x50, .l x51, .l x52, .l x53, .l x54, .i x55, .i x56, .l x57, .l x58, .l x59, .l x60, .l x61, .l x62, .l x63, .l x64, .b x65, .i x66, .l x67, .l x68, .l x69, .l x70, .l x71, .l x72, .l x73, .l x74, .i x75]
theorem g20_eq (x0 : LL) (x1 x2 x3 x4 x5 x6 x7 x8 x9 x10 x11 : Int) (x12 : Bool) (x13 x14 x15 x16 x17 x18 x19 x20 x21 x22 x23 x24 x25 x26 x27 x28 x29 x30 x31 x32 : Int) (x33 : LL) (x34 x35 x36 x37 x38 x39 : Int) (x40 : Bool) (x41 x42 x43 x44 : LL) (x45 x46 : Int) (x47 x48 x49 x50 x51 x52 x53 x54 : LL) (x55 x56 : Int) (x57 x58 x59 x60 x61 x62 x63 x64 : LL) (x65 : Bool) (x66 : Int) (x67 x68 x69 x70 x71 x72 x73 x74 : LL) (x75 : Int) : g20 x0 x1 x2 x3 x4 x5 x6 x7 x8 x9 x10 x11 x12 x13 x14 x15 x16 x17 x18 x19 x20 x21 x22 x23 x24 x25 x26 x27 x28 x29 x30 x31 x32 x33 x34 x35 x36 x37 x38 x39 x40 x41 x42 x43 x44 x45 x46 x47 x48 x49 x50 x51 x52 x53 x54 x55 x56 x57 x58 x59 x60 x61 x62 x63 x64 x65 x66 x67 x68 x69 x70 x71 x72 x73 x74 x75 =
 (if (cop .eql x75 0) = true then
 (g18 x0 x6).bind fun (r76 : LL) =>
 some (r76)
 else
 if (cop .eql x75 1) = true then
 (g73 x0 x13 x14 x15 x16 x17 x18 x19 x20 x21 x22 x23 x24 x25 x26 x27 x28 x29 x30 x31 x32 x33 x34 x35 x36 x37 x38 x39 x40).bind fun (r76 : LL) =>
 some (r76)
 else
 if (cop .eql x75 2) = true then
 (g74 x0 x8 x9 x10).bind fun (r76 : LL) =>
 some (r76)
 else
 if (cop .eql x75 3) = true then
 (g18 x0 x11).bind fun (r76 : LL) =>
 some (r76)
 else
 if (cop .eql x75 4) = true then
 (g75 x0 x12).bind fun (r76 : LL) =>
 some (r76)
 else
 if (cop .eql x75 5) = true then
 (g76 x0 x42).bind fun (r76 : LL) =>
 some (r76)
 else
 if (cop .eql x75 6) = true then
 (g18 x0 x7).bind fun (r76 : LL) =>
 some (r76)
 else
 if (cop .eql x75 7) = true then
 (g77 x0 x41).bind fun (r76 : LL) =>
 some (r76)
 else
 if (cop .eql x75 8) = true then
 (g18 x0 x5).bind fun (r76 : LL) =>
 some (r76)
 else
 if (cop .eql x75 9) = true then
 (g78 x0 x43).bind fun (r76 : LL) =>
 some (r76)
 else
 if (cop .eql x75 10) = true then
 (g79 x0 x55 x56 x57 x58 x59 x60 x61 x62 x63 x64 x65 x66 x67 x68 x69 x70 x71 x72 x73 x74).bind fun (r76 : LL) =>
 some (r76)
 else
 if (cop .eql x75 11) = true then
 (g18 x0 x45).bind fun (r76 : LL) =>
 some (r76)
 else
 if (cop .eql x75 12) = true then
 (g80 x0 x46 x47 x48).bind fun (r76 : LL) =>
 some (r76)
 else
 if (cop .eql x75 13) = true then
 (g81 x0 x49 x50 x51 x52 x53 x54).bind fun (r76 : LL) =>
 some (r76)
 else
 if (cop .eql x75 14) = true then
 (g82 x0 x44).bind fun (r76 : LL) =>
 some (r76)
 else
 some (x0)) := by kernel_rfl

/- multikernel/wire.Encode -/
noncomputable def F7 : Fn := ⟨55, [2, 3], [(5, [(1, .box hs0), (4, .ptr 15 0), (24, .c (.slice 1)), (25, .c (.int .i64)), (26, .c (.int .i64)), (15, .box [.own 5])]), (11, [(1, .box hs0), (4, .ptr 15 0), (40, .c (.slice 1)), (41, .c (.int .i64)), (42, .c (.int .i64)), (15, .box [.own 5])])], [], 0, Tryz.f7, [.agg hs0], [.c (.own 5), .c (.int .i64)], [(9, F9.S), (18, F18.S), (19, F19.S), (20, F20.S)]⟩
theorem ok7 : F7.S.Ok Tryz.prog 7 := F7.ok Tryz.func7 (by kernel_rfl) ⟨ok9, ⟨ok18, ⟨ok19, ⟨ok20, trivial⟩⟩⟩⟩
noncomputable def g7 (x0 x1 x2 x3 x4 x5 x6 x7 x8 x9 x10 : Int) (x11 : Bool) (x12 x13 x14 x15 x16 x17 x18 x19 x20 x21 x22 x23 x24 x25 x26 x27 x28 x29 x30 x31 : Int) (x32 : LL) (x33 x34 x35 x36 x37 x38 : Int) (x39 : Bool) (x40 x41 x42 x43 : LL) (x44 x45 : Int) (x46 x47 x48 x49 x50 x51 x52 x53 : LL) (x54 x55 : Int) (x56 x57 x58 x59 x60 x61 x62 x63 : LL) (x64 : Bool) (x65 : Int) (x66 x67 x68 x69 x70 x71 x72 x73 : LL) : Option (LL × Int) := F7.S.g [.i x0, .i x1, .i x2, .i x3, .i x4, .i x5, .i x6, .i x7, .i x8, .i x9, .i x10, .b x11, .i x12, .i x13, .i x14, .i x15, .i x16, .i x17, .i x18, .i x19, .i x20, .i x21, .i x22, .i x23, .i x24, .i x25, .i x26, .i x27, .i x28, .i x29, .i x30, .i x31, .l x32, .i x33, .i x34, .i x35, .i x36, .i x37, .i x38, .b x39, .l x40, .l x41, .l x42, .l x43, .i x44, .i x45, .l x46, .l x47, .l x48, .l x49, .l x50, .l x51, .l x52, .l x53, .i x54, .i x55, .l x56, .l x57, .l x58, .l x59, .l x60, .l x61, .l x62, .l x63, .b x64, .i x65, .l x66, .l x67, .l x68, .l x69, .l x70, .l x71, .l x72, .l x73]
noncomputable def g7L0 (k : Nat) (x0 x1 x2 x3 x4 x5 x6 x7 x8 x9 x10 : Int) (x11 : Bool) (x12 x13 x14 x15 x16 x17 x18 x19 x20 x21 x22 x23 x24 x25 x26 x27 x28 x29 x30 x31 : Int) (x32 : LL) (x33 x34 x35 x36 x37 x38 : Int) (x39 : Bool) (x40 x41 x42 x43 : LL) (x44 x45 : Int) (x46 x47 x48 x49 x50 x51 x52 x53 : LL) (x54 x55 : Int) (x56 x57 x58 x59 x60 x61 x62 x63 : LL) (x64 : Bool) (x65 : Int) (x66 x67 x68 x69 x70 x71 x72 x73 x74 : LL) (x75 x76 : Int) (x77 : LL) : Option (LL × Int) := F7.lp [0, 1, 0, 1, 2] 0 r0 k [.i x0, .i x1, .i x2, .i x3, .i x4, .i x5, .i x6, .i x7, .i x8, .i x9, .i x10, .b x11, .i x12, .i x13, .i x14, .i x15, .i x16, .i x17, .i x18, .i x19, .i x20, .i x21, .i x22, .i x23, .i x24, .i x25, .i x26, .i x27, .i x28, .i x29, .i x30, .i x31, .l x32, .i x33, .i x34, .i x35, .i x36, .i x37, .i x38, .b x39, .l x40, .l x41, .l x42, .l x43, .i x44, .i x45, .l x46, .l x47, .l x48, .l x49, .l x50, .l x51, .l x52, .l x53, .i x54, .i x55, .l x56, .l x57, .l x58, .l x59, .l x60, .l x61, .l x62, .l x63, .b x64, .i x65, .l x66, .l x67, .l x68, .l x69, .l x70, .l x71, .l x72, .l x73, .l x74, .i x75, .i x76, .l x77]
theorem g7L0_eq (k : Nat) (x0 x1 x2 x3 x4 x5 x6 x7 x8 x9 x10 : Int) (x11 : Bool) (x12 x13 x14 x15 x16 x17 x18 x19 x20 x21 x22 x23 x24 x25 x26 x27 x28 x29 x30 x31 : Int) (x32 : LL) (x33 x34 x35 x36 x37 x38 : Int) (x39 : Bool) (x40 x41 x42 x43 : LL) (x44 x45 : Int) (x46 x47 x48 x49 x50 x51 x52 x53 : LL) (x54 x55 : Int) (x56 x57 x58 x59 x60 x61 x62 x63 : LL) (x64 : Bool) (x65 : Int) (x66 x67 x68 x69 x70 x71 x72 x73 x74 : LL) (x75 x76 : Int) (x77 : LL) : g7L0 (k + 1) x0 x1 x2 x3 x4 x5 x6 x7 x8 x9 x10 x11 x12 x13 x14 x15 x16 x17 x18 x19 x20 x21 x22 x23 x24 x25 x26 x27 x28 x29 x30 x31 x32 x33 x34 x35 x36 x37 x38 x39 x40 x41 x42 x43 x44 x45 x46 x47 x48 x49 x50 x51 x52 x53 x54 x55 x56 x57 x58 x59 x60 x61 x62 x63 x64 x65 x66 x67 x68 x69 x70 x71 x72 x73 x74 x75 x76 x77 =
 (if (cop .lss x76 x75) = true then
 elemK x74 x76 [.int .i64] fun (r78 : Int) =>
 (g20 x77 x0 x1 x2 x3 x4 x5 x6 x7 x8 x9 x10 x11 x12 x13 x14 x15 x16 x17 x18 x19 x20 x21 x22 x23 x24 x25 x26 x27 x28 x29 x30 x31 x32 x33 x34 x35 x36 x37 x38 x39 x40 x41 x42 x43 x44 x45 x46 x47 x48 x49 x50 x51 x52 x53 x54 x55 x56 x57 x58 x59 x60 x61 x62 x63 x64 x65 x66 x67 x68 x69 x70 x71 x72 x73 r78).bind fun (r79 : LL) =>
 g7L0 k x0 x1 x2 x3 x4 x5 x6 x7 x8 x9 x10 x11 x12 x13 x14 x15 x16 x17 x18 x19 x20 x21 x22 x23 x24 x25 x26 x27 x28 x29 x30 x31 x32 x33 x34 x35 x36 x37 x38 x39 x40 x41 x42 x43 x44 x45 x46 x47 x48 x49 x50 x51 x52 x53 x54 x55 x56 x57 x58 x59 x60 x61 x62 x63 x64 x65 x66 x67 x68 x69 x70 x71 x72 x73 x74 x75 (iop .add .i64 x76 1) r79
 else
 some (x77, 0)) := by kernel_rfl
noncomputable def g7L1 (k : Nat) (x0 x1 x2 x3 x4 x5 x6 x7 x8 x9 x10 : Int) (x11 : Bool) (x12 x13 x14 x15 x16 x17 x18 x19 x20 x21 x22 x23 x24 x25 x26 x27 x28 x29 x30 x31 : Int) (x32 : LL) (x33 x34 x35 x36 x37 x38 : Int) (x39 : Bool) (x40 x41 x42 x43 : LL) (x44 x45 : Int) (x46 x47 x48 x49 x50 x51 x52 x53 : LL) (x54 x55 : Int) (x56 x57 x58 x59 x60 x61 x62 x63 : LL) (x64 : Bool) (x65 : Int) (x66 x67 x68 x69 x70 x71 x72 x73 x74 : LL) (x75 x76 : Int) (x77 : LL) : Option (LL × Int) := F7.lp [0, 1, 0] 0 r0 k [.i x0, .i x1, .i x2, .i x3, .i x4, .i x5, .i x6, .i x7, .i x8, .i x9, .i x10, .b x11, .i x12, .i x13, .i x14, .i x15, .i x16, .i x17, .i x18, .i x19, .i x20, .i x21, .i x22, .i x23, .i x24, .i x25, .i x26, .i x27, .i x28, .i x29, .i x30, .i x31, .l x32, .i x33, .i x34, .i x35, .i x36, .i x37, .i x38, .b x39, .l x40, .l x41, .l x42, .l x43, .i x44, .i x45, .l x46, .l x47, .l x48, .l x49, .l x50, .l x51, .l x52, .l x53, .i x54, .i x55, .l x56, .l x57, .l x58, .l x59, .l x60, .l x61, .l x62, .l x63, .b x64, .i x65, .l x66, .l x67, .l x68, .l x69, .l x70, .l x71, .l x72, .l x73, .l x74, .i x75, .i x76, .l x77]
theorem g7L1_eq (k : Nat) (x0 x1 x2 x3 x4 x5 x6 x7 x8 x9 x10 : Int) (x11 : Bool) (x12 x13 x14 x15 x16 x17 x18 x19 x20 x21 x22 x23 x24 x25 x26 x27 x28 x29 x30 x31 : Int) (x32 : LL) (x33 x34 x35 x36 x37 x38 : Int) (x39 : Bool) (x40 x41 x42 x43 : LL) (x44 x45 : Int) (x46 x47 x48 x49 x50 x51 x52 x53 : LL) (x54 x55 : Int) (x56 x57 x58 x59 x60 x61 x62 x63 : LL) (x64 : Bool) (x65 : Int) (x66 x67 x68 x69 x70 x71 x72 x73 x74 : LL) (x75 x76 : Int) (x77 : LL) : g7L1 (k + 1) x0 x1 x2 x3 x4 x5 x6 x7 x8 x9 x10 x11 x12 x13 x14 x15 x16 x17 x18 x19 x20 x21 x22 x23 x24 x25 x26 x27 x28 x29 x30 x31 x32 x33 x34 x35 x36 x37 x38 x39 x40 x41 x42 x43 x44 x45 x46 x47 x48 x49 x50 x51 x52 x53 x54 x55 x56 x57 x58 x59 x60 x61 x62 x63 x64 x65 x66 x67 x68 x69 x70 x71 x72 x73 x74 x75 x76 x77 =
 (if (cop .lss x76 x75) = true then
 elemK x74 x76 [.int .i64] fun (r78 : Int) =>
 (g18 x77 r78).bind fun (r79 : LL) =>
 g7L1 k x0 x1 x2 x3 x4 x5 x6 x7 x8 x9 x10 x11 x12 x13 x14 x15 x16 x17 x18 x19 x20 x21 x22 x23 x24 x25 x26 x27 x28 x29 x30 x31 x32 x33 x34 x35 x36 x37 x38 x39 x40 x41 x42 x43 x44 x45 x46 x47 x48 x49 x50 x51 x52 x53 x54 x55 x56 x57 x58 x59 x60 x61 x62 x63 x64 x65 x66 x67 x68 x69 x70 x71 x72 x73 x74 x75 (iop .add .i64 x76 1) r79
 else
 (g19 x0).bind fun (r78 : LL × Bool) =>
 g7L0 FUEL x0 x1 x2 x3 x4 x5 x6 x7 x8 x9 x10 x11 x12 x13 x14 x15 x16 x17 x18 x19 x20 x21 x22 x23 x24 x25 x26 x27 x28 x29 x30 x31 x32 x33 x34 x35 x36 x37 x38 x39 x40 x41 x42 x43 x44 x45 x46 x47 x48 x49 x50 x51 x52 x53 x54 x55 x56 x57 x58 x59 x60 x61 x62 x63 x64 x65 x66 x67 x68 x69 x70 x71 x72 x73 r78.1 (List.length r78.1 : Int) 0 x77) := by kernel_rfl
theorem g7_eq (x0 x1 x2 x3 x4 x5 x6 x7 x8 x9 x10 : Int) (x11 : Bool) (x12 x13 x14 x15 x16 x17 x18 x19 x20 x21 x22 x23 x24 x25 x26 x27 x28 x29 x30 x31 : Int) (x32 : LL) (x33 x34 x35 x36 x37 x38 : Int) (x39 : Bool) (x40 x41 x42 x43 : LL) (x44 x45 : Int) (x46 x47 x48 x49 x50 x51 x52 x53 : LL) (x54 x55 : Int) (x56 x57 x58 x59 x60 x61 x62 x63 : LL) (x64 : Bool) (x65 : Int) (x66 x67 x68 x69 x70 x71 x72 x73 : LL) : g7 x0 x1 x2 x3 x4 x5 x6 x7 x8 x9 x10 x11 x12 x13 x14 x15 x16 x17 x18 x19 x20 x21 x22 x23 x24 x25 x26 x27 x28 x29 x30 x31 x32 x33 x34 x35 x36 x37 x38 x39 x40 x41 x42 x43 x44 x45 x46 x47 x48 x49 x50 x51 x52 x53 x54 x55 x56 x57 x58 x59 x60 x61 x62 x63 x64 x65 x66 x67 x68 x69 x70 x71 x72 x73 =
 ((g9 x0 x1 x2 x3 x4 x5 x6 x7 x8 x9 x10 x11 x12 x13 x14 x15 x16 x17 x18 x19 x20 x21 x22 x23 x24 x25 x26 x27 x28 x29 x30 x31 x32 x33 x34 x35 x36 x37 x38 x39 x40 x41 x42 x43 x44 x45 x46 x47 x48 x49 x50 x51 x52 x53 x54 x55 x56 x57 x58 x59 x60 x61 x62 x63 x64 x65 x66 x67 x68 x69 x70 x71 x72 x73).bind fun (r74 : Bool) =>
 if (!r74) = true then
 some (([] : LL), 1)
 else
 g7L1 FUEL x0 x1 x2 x3 x4 x5 x6 x7 x8 x9 x10 x11 x12 x13 x14 x15 x16 x17 x18 x19 x20 x21 x22 x23 x24 x25 x26 x27 x28 x29 x30 x31 x32 x33 x34 x35 x36 x37 x38 x39 x40 x41 x42 x43 x44 x45 x46 x47 x48 x49 x50 x51 x52 x53 x54 x55 x56 x57 x58 x59 x60 x61 x62 x63 x64 x65 x66 x67 x68 x69 x70 x71 x72 x73 ((((([] : LL) ++ [[AV.val (.int .i64 x0)]]) ++ [[AV.val (.int .i64 x1)]]) ++ [[AV.val (.int .i64 x2)]]) ++ [[AV.val (.int .i64 x3)]]) (List.length ((((([] : LL) ++ [[AV.val (.int .i64 x0)]]) ++ [[AV.val (.int .i64 x1)]]) ++ [[AV.val (.int .i64 x2)]]) ++ [[AV.val (.int .i64 x3)]]) : Int) 0 ([] : LL)) := by kernel_rfl

/- multikernel/multikernelref10.PutUvarint -/
noncomputable def F83 : Fn := ⟨21, [4], [(1, [(0, .c (.own 5)), (1, .c (.int .i64))])], [], 0, Tryz.f83, [.c (.own 5), .c (.int .i64)], [.c (.own 5)], []⟩
theorem ok83 : F83.S.Ok Tryz.prog 83 := F83.ok Tryz.func83 (by kernel_rfl) trivial
noncomputable def g83 (x0 : LL) (x1 : Int) : Option (LL) := F83.S.g [.l x0, .i x1]
noncomputable def g83L0 (k : Nat) (x0 : LL) (x1 : Int) : Option (LL) := F83.lp [0] 0 r0 k [.l x0, .i x1]
theorem g83L0_eq (k : Nat) (x0 : LL) (x1 : Int) : g83L0 (k + 1) x0 x1 =
 (if (cop .geq x1 128) = true then
 reqK ((128 : Int) ≠ 0) <|
 reqK (roomP x0 (([] : LL) ++ [[AV.val (.int .u8 (IntKind.wrap .u8 (iop .add .i64 (iop .rem .i64 x1 128) 128)))]]) 1) <|
 reqK ((128 : Int) ≠ 0) <|
 g83L0 k (x0 ++ (([] : LL) ++ [[AV.val (.int .u8 (IntKind.wrap .u8 (iop .add .i64 (iop .rem .i64 x1 128) 128)))]])) (iop .quo .i64 x1 128)
 else
 reqK (roomP x0 (([] : LL) ++ [[AV.val (.int .u8 (IntKind.wrap .u8 x1))]]) 1) <|
 some ((x0 ++ (([] : LL) ++ [[AV.val (.int .u8 (IntKind.wrap .u8 x1))]])))) := by kernel_rfl
theorem g83_eq (x0 : LL) (x1 : Int) : g83 x0 x1 =
 (g83L0 FUEL x0 x1) := by kernel_rfl

/- multikernel/multikernelref18.num -/
noncomputable def F21 : Fn := ⟨8, [4], [], [], 0, Tryz.f21, [.c (.own 5), .c (.int .i64)], [.c (.own 5)], [(83, F83.S)]⟩
theorem ok21 : F21.S.Ok Tryz.prog 21 := F21.ok Tryz.func21 (by kernel_rfl) ⟨ok83, trivial⟩
noncomputable def g21 (x0 : LL) (x1 : Int) : Option (LL) := F21.S.g [.l x0, .i x1]
theorem g21_eq (x0 : LL) (x1 : Int) : g21 x0 x1 =
 ((g83 x0 x1).bind fun (r2 : LL) =>
 some (r2)) := by kernel_rfl

/- multikernel/multikernelref10.PutId -/
noncomputable def F24 : Fn := ⟨15, [4], [], [], 0, Tryz.f24, [.c (.own 5), .agg [.int .i64, .int .i64, .int .i64]], [.c (.own 5)], [(83, F83.S)]⟩
theorem ok24 : F24.S.Ok Tryz.prog 24 := F24.ok Tryz.func24 (by kernel_rfl) ⟨ok83, trivial⟩
noncomputable def g24 (x0 : LL) (x1 x2 x3 : Int) : Option (LL) := F24.S.g [.l x0, .i x1, .i x2, .i x3]
theorem g24_eq (x0 : LL) (x1 x2 x3 : Int) : g24 x0 x1 x2 x3 =
 ((g83 x0 x1).bind fun (r4 : LL) =>
 (g83 r4 x2).bind fun (r5 : LL) =>
 (g83 r5 x3).bind fun (r6 : LL) =>
 some (r6)) := by kernel_rfl

/- multikernel/multikernelref18.signed -/
noncomputable def F148 : Fn := ⟨29, [4], [(4, [(0, .c (.own 5)), (5, .c (.int .u64))])], [], 0, Tryz.f148, [.c (.own 5), .c (.int .i64)], [.c (.own 5)], []⟩
theorem ok148 : F148.S.Ok Tryz.prog 148 := F148.ok Tryz.func148 (by kernel_rfl) trivial
noncomputable def g148 (x0 : LL) (x1 : Int) : Option (LL) := F148.S.g [.l x0, .i x1]
noncomputable def g148L0 (k : Nat) (x0 : LL) (x1 : Int) : Option (LL) := F148.lp [2, 0] 0 r0 k [.l x0, .i x1]
theorem g148L0_eq (k : Nat) (x0 : LL) (x1 : Int) : g148L0 (k + 1) x0 x1 =
 (if (cop .geq x1 128) = true then
 reqK ((128 : Int) ≠ 0) <|
 reqK (roomP x0 (([] : LL) ++ [[AV.val (.int .u8 (IntKind.wrap .u8 (iop .add .u64 (iop .rem .u64 x1 128) 128)))]]) 1) <|
 reqK ((128 : Int) ≠ 0) <|
 g148L0 k (x0 ++ (([] : LL) ++ [[AV.val (.int .u8 (IntKind.wrap .u8 (iop .add .u64 (iop .rem .u64 x1 128) 128)))]])) (iop .quo .u64 x1 128)
 else
 reqK (roomP x0 (([] : LL) ++ [[AV.val (.int .u8 (IntKind.wrap .u8 x1))]]) 1) <|
 some ((x0 ++ (([] : LL) ++ [[AV.val (.int .u8 (IntKind.wrap .u8 x1))]])))) := by kernel_rfl
theorem g148_eq (x0 : LL) (x1 : Int) : g148 x0 x1 =
 (reqK ((0 : Int) ≤ 1) <|
 if (cop .lss x1 0) = true then
 g148L0 FUEL x0 (iop .xor .u64 18446744073709551615 (iop .shl .u64 (IntKind.wrap .u64 x1) 1))
 else
 g148L0 FUEL x0 (iop .shl .u64 (IntKind.wrap .u64 x1) 1)) := by kernel_rfl

/- multikernel/multikernelref18.call -/
noncomputable def F84 : Fn := ⟨45, [4], [(3, [(0, .c (.own 5)), (5, .c (.slice 1)), (6, .c (.int .i64))])], [], 0, Tryz.f84, [.c (.own 5), .agg hs9], [.c (.own 5)], [(148, F148.S)]⟩
theorem ok84 : F84.S.Ok Tryz.prog 84 := F84.ok Tryz.func84 (by kernel_rfl) ⟨ok148, trivial⟩
noncomputable def g84 (x0 : LL) (x1 x2 x3 x4 x5 x6 x7 x8 x9 x10 x11 x12 : Int) : Option (LL) := F84.S.g [.l x0, .i x1, .i x2, .i x3, .i x4, .i x5, .i x6, .i x7, .i x8, .i x9, .i x10, .i x11, .i x12]
noncomputable def g84L0 (k : Nat) (x0 x1 : LL) (x2 : Int) : Option (LL) := F84.lp [0] 0 r0 k [.l x0, .l x1, .i x2]
theorem g84L0_eq (k : Nat) (x0 x1 : LL) (x2 : Int) : g84L0 (k + 1) x0 x1 x2 =
 (if (cop .lss x2 (List.length x1 : Int)) = true then
 elemK x1 x2 [.int .i64] fun (r3 : Int) =>
 (g148 x0 r3).bind fun (r4 : LL) =>
 g84L0 k r4 x1 (iop .add .i64 x2 1)
 else
 some (x0)) := by kernel_rfl
theorem g84_eq (x0 : LL) (x1 x2 x3 x4 x5 x6 x7 x8 x9 x10 x11 x12 : Int) : g84 x0 x1 x2 x3 x4 x5 x6 x7 x8 x9 x10 x11 x12 =
 (g84L0 FUEL x0 ((((((((((((([] : LL) ++ [[AV.val (.int .i64 x1)]]) ++ [[AV.val (.int .i64 x2)]]) ++ [[AV.val (.int .i64 x3)]]) ++ [[AV.val (.int .i64 x4)]]) ++ [[AV.val (.int .i64 x5)]]) ++ [[AV.val (.int .i64 x6)]]) ++ [[AV.val (.int .i64 x7)]]) ++ [[AV.val (.int .i64 x8)]]) ++ [[AV.val (.int .i64 x9)]]) ++ [[AV.val (.int .i64 x10)]]) ++ [[AV.val (.int .i64 x11)]]) ++ [[AV.val (.int .i64 x12)]]) 0) := by kernel_rfl

/- multikernel/multikernelref10.EncodeCap -/
noncomputable def F149 : Fn := ⟨47, [2, 3], [(8, [(1, .box hs13), (5, .c (.own 5)), (6, .c (.int .i64))])], [], 0, Tryz.f149, [.agg hs13], [.c (.own 5), .c (.int .i64)], [(106, F106.S)]⟩
theorem ok149 : F149.S.Ok Tryz.prog 149 := F149.ok Tryz.func149 (by kernel_rfl) ⟨ok106, trivial⟩
noncomputable def g149 (x0 x1 x2 x3 x4 x5 : Int) (x6 : Bool) : Option (LL × Int) := F149.S.g [.i x0, .i x1, .i x2, .i x3, .i x4, .i x5, .b x6]
noncomputable def g149L0 (k : Nat) (x0 x1 x2 x3 x4 x5 : Int) (x6 : Bool) (x7 : LL) (x8 : Int) : Option (LL × Int) := F149.lp [0, 1, 0, 0] 0 r0 k [.i x0, .i x1, .i x2, .i x3, .i x4, .i x5, .b x6, .l x7, .i x8]
theorem g149L0_eq (k : Nat) (x0 x1 x2 x3 x4 x5 : Int) (x6 : Bool) (x7 : LL) (x8 : Int) : g149L0 (k + 1) x0 x1 x2 x3 x4 x5 x6 x7 x8 =
 (if (cop .lss x8 5) = true then
 reqK ((0 : Int) ≤ (IntKind.wrap .u64 (iop .mul .i64 8 x8))) <|
 reqK (roomP x7 (([] : LL) ++ [[AV.val (.int .u8 (IntKind.wrap .u8 (iop .and .i64 (iop .shr .i64 x1 (IntKind.wrap .u64 (iop .mul .i64 8 x8))) 255)))]]) 1) <|
 g149L0 k x0 x1 x2 x3 x4 x5 x6 (x7 ++ (([] : LL) ++ [[AV.val (.int .u8 (IntKind.wrap .u8 (iop .and .i64 (iop .shr .i64 x1 (IntKind.wrap .u64 (iop .mul .i64 8 x8))) 255)))]])) (iop .add .i64 x8 1)
 else
 some (x7, 0)) := by kernel_rfl
theorem g149_eq (x0 x1 x2 x3 x4 x5 : Int) (x6 : Bool) : g149 x0 x1 x2 x3 x4 x5 x6 =
 ((g106 x0 x1 x2 x3 x4 x5 x6).bind fun (r7 : Bool) =>
 if (!r7) = true then
 some (([] : LL), 1)
 else
 if x6 = true then
 g149L0 FUEL x0 x1 x2 x3 x4 x5 x6 (((((([] : LL) ++ [[AV.val (.int .u8 (IntKind.wrap .u8 x0))]]) ++ [[AV.val (.int .u8 (IntKind.wrap .u8 x2))]]) ++ [[AV.val (.int .u8 (IntKind.wrap .u8 (iop .add .i64 x3 8)))]]) ++ [[AV.val (.int .u8 (IntKind.wrap .u8 x4))]]) ++ [[AV.val (.int .u8 (IntKind.wrap .u8 x5))]]) 0
 else
 g149L0 FUEL x0 x1 x2 x3 x4 x5 x6 (((((([] : LL) ++ [[AV.val (.int .u8 (IntKind.wrap .u8 x0))]]) ++ [[AV.val (.int .u8 (IntKind.wrap .u8 x2))]]) ++ [[AV.val (.int .u8 (IntKind.wrap .u8 x3))]]) ++ [[AV.val (.int .u8 (IntKind.wrap .u8 x4))]]) ++ [[AV.val (.int .u8 (IntKind.wrap .u8 x5))]]) 0) := by kernel_rfl

/- multikernel/multikernelref10.EncodeNode -/
noncomputable def F85 : Fn := ⟨41, [2, 3], [(5, [(1, .box hs10), (4, .c (.own 5)), (5, .c (.int .i64))])], [], 0, Tryz.f85, [.agg hs10], [.c (.own 5), .c (.int .i64)], [(45, F45.S), (24, F24.S), (83, F83.S), (149, F149.S)]⟩
theorem ok85 : F85.S.Ok Tryz.prog 85 := F85.ok Tryz.func85 (by kernel_rfl) ⟨ok45, ⟨ok24, ⟨ok83, ⟨ok149, trivial⟩⟩⟩⟩
noncomputable def g85 (x0 x1 x2 : Int) (x3 : LL) (x4 x5 x6 x7 x8 x9 : Int) (x10 : Bool) : Option (LL × Int) := F85.S.g [.i x0, .i x1, .i x2, .l x3, .i x4, .i x5, .i x6, .i x7, .i x8, .i x9, .b x10]
noncomputable def g85L0 (k : Nat) (x0 x1 x2 : Int) (x3 : LL) (x4 x5 x6 x7 x8 x9 : Int) (x10 : Bool) (x11 : LL) (x12 : Int) : Option (LL × Int) := F85.lp [0, 1, 3] 0 r0 k [.i x0, .i x1, .i x2, .l x3, .i x4, .i x5, .i x6, .i x7, .i x8, .i x9, .b x10, .l x11, .i x12]
theorem g85L0_eq (k : Nat) (x0 x1 x2 : Int) (x3 : LL) (x4 x5 x6 x7 x8 x9 : Int) (x10 : Bool) (x11 : LL) (x12 : Int) : g85L0 (k + 1) x0 x1 x2 x3 x4 x5 x6 x7 x8 x9 x10 x11 x12 =
 (if (cop .lss x12 (List.length x3 : Int)) = true then
 elemK x3 x12 [.int .i64, .int .i64, .int .i64] fun (r13 : Int × Int × Int) =>
 (g24 x11 r13.1 r13.2.1 r13.2.2).bind fun (r16 : LL) =>
 g85L0 k x0 x1 x2 x3 x4 x5 x6 x7 x8 x9 x10 r16 (iop .add .i64 x12 1)
 else
 (g149 x4 x5 x6 x7 x8 x9 x10).bind fun (r13 : LL × Int) =>
 reqK (roomP x11 r13.1 1) <|
 some ((x11 ++ r13.1), 0)) := by kernel_rfl
theorem g85_eq (x0 x1 x2 : Int) (x3 : LL) (x4 x5 x6 x7 x8 x9 : Int) (x10 : Bool) : g85 x0 x1 x2 x3 x4 x5 x6 x7 x8 x9 x10 =
 ((g45 x0 x1 x2 x3 x4 x5 x6 x7 x8 x9 x10).bind fun (r11 : Bool) =>
 if (!r11) = true then
 some (([] : LL), 1)
 else
 (g24 ([] : LL) x0 x1 x2).bind fun (r12 : LL) =>
 (g83 r12 (List.length x3 : Int)).bind fun (r13 : LL) =>
 g85L0 FUEL x0 x1 x2 x3 x4 x5 x6 x7 x8 x9 x10 r13 0) := by kernel_rfl

/- multikernel/multikernelref18.node -/
noncomputable def F30 : Fn := ⟨18, [4], [], [], 0, Tryz.f30, [.c (.own 5), .agg hs10], [.c (.own 5)], [(85, F85.S), (21, F21.S)]⟩
theorem ok30 : F30.S.Ok Tryz.prog 30 := F30.ok Tryz.func30 (by kernel_rfl) ⟨ok85, ⟨ok21, trivial⟩⟩
noncomputable def g30 (x0 : LL) (x1 x2 x3 : Int) (x4 : LL) (x5 x6 x7 x8 x9 x10 : Int) (x11 : Bool) : Option (LL) := F30.S.g [.l x0, .i x1, .i x2, .i x3, .l x4, .i x5, .i x6, .i x7, .i x8, .i x9, .i x10, .b x11]
theorem g30_eq (x0 : LL) (x1 x2 x3 : Int) (x4 : LL) (x5 x6 x7 x8 x9 x10 : Int) (x11 : Bool) : g30 x0 x1 x2 x3 x4 x5 x6 x7 x8 x9 x10 x11 =
 ((g85 x1 x2 x3 x4 x5 x6 x7 x8 x9 x10 x11).bind fun (r12 : LL × Int) =>
 (g21 x0 (List.length r12.1 : Int)).bind fun (r14 : LL) =>
 reqK (roomP r14 r12.1 1) <|
 some ((r14 ++ r12.1))) := by kernel_rfl

/- multikernel/multikernelref18.request -/
noncomputable def F22 : Fn := ⟨22, [4], [], [], 0, Tryz.f22, [.c (.own 5), .agg hs4], [.c (.own 5)], [(24, F24.S), (84, F84.S), (21, F21.S), (30, F30.S)]⟩
theorem ok22 : F22.S.Ok Tryz.prog 22 := F22.ok Tryz.func22 (by kernel_rfl) ⟨ok24, ⟨ok84, ⟨ok21, ⟨ok30, trivial⟩⟩⟩⟩
noncomputable def g22 (x0 : LL) (x1 x2 x3 x4 x5 x6 x7 x8 x9 x10 x11 x12 x13 x14 x15 x16 x17 x18 x19 x20 : Int) (x21 : LL) (x22 x23 x24 x25 x26 x27 : Int) (x28 : Bool) : Option (LL) := F22.S.g [.l x0, .i x1, .i x2, .i x3, .i x4, .i x5, .i x6, .i x7, .i x8, .i x9, .i x10, .i x11, .i x12, .i x13, .i x14, .i x15, .i x16, .i x17, .i x18, .i x19, .i x20, .l x21, .i x22, .i x23, .i x24, .i x25, .i x26, .i x27, .b x28]
theorem g22_eq (x0 : LL) (x1 x2 x3 x4 x5 x6 x7 x8 x9 x10 x11 x12 x13 x14 x15 x16 x17 x18 x19 x20 : Int) (x21 : LL) (x22 x23 x24 x25 x26 x27 : Int) (x28 : Bool) : g22 x0 x1 x2 x3 x4 x5 x6 x7 x8 x9 x10 x11 x12 x13 x14 x15 x16 x17 x18 x19 x20 x21 x22 x23 x24 x25 x26 x27 x28 =
 ((g24 x0 x1 x2 x3).bind fun (r29 : LL) =>
 (g84 r29 x4 x5 x6 x7 x8 x9 x10 x11 x12 x13 x14 x15).bind fun (r30 : LL) =>
 (g21 r30 x16).bind fun (r31 : LL) =>
 (g21 r31 x17).bind fun (r32 : LL) =>
 (g30 r32 x18 x19 x20 x21 x22 x23 x24 x25 x26 x27 x28).bind fun (r33 : LL) =>
 some (r33)) := by kernel_rfl

/- multikernel/multikernelref18.bit -/
noncomputable def F23 : Fn := ⟨10, [4], [], [], 0, Tryz.f23, [.c (.own 5), .c (.bool)], [.c (.own 5)], [(21, F21.S)]⟩
theorem ok23 : F23.S.Ok Tryz.prog 23 := F23.ok Tryz.func23 (by kernel_rfl) ⟨ok21, trivial⟩
noncomputable def g23 (x0 : LL) (x1 : Bool) : Option (LL) := F23.S.g [.l x0, .b x1]
theorem g23_eq (x0 : LL) (x1 : Bool) : g23 x0 x1 =
 (if x1 = true then
 (g21 x0 1).bind fun (r2 : LL) =>
 some (r2)
 else
 (g21 x0 0).bind fun (r2 : LL) =>
 some (r2)) := by kernel_rfl

/- multikernel/multikernelref18.idList -/
noncomputable def F25 : Fn := ⟨23, [4], [(3, [(0, .c (.own 5)), (1, .c (.slice 3)), (5, .c (.int .i64))])], [], 0, Tryz.f25, [.c (.own 5), .c (.slice 3)], [.c (.own 5)], [(21, F21.S), (24, F24.S)]⟩
theorem ok25 : F25.S.Ok Tryz.prog 25 := F25.ok Tryz.func25 (by kernel_rfl) ⟨ok21, ⟨ok24, trivial⟩⟩
noncomputable def g25 (x0 x1 : LL) : Option (LL) := F25.S.g [.l x0, .l x1]
noncomputable def g25L0 (k : Nat) (x0 x1 : LL) (x2 : Int) : Option (LL) := F25.lp [2] 0 r0 k [.l x0, .l x1, .i x2]
theorem g25L0_eq (k : Nat) (x0 x1 : LL) (x2 : Int) : g25L0 (k + 1) x0 x1 x2 =
 (if (cop .lss x2 (List.length x1 : Int)) = true then
 elemK x1 x2 [.int .i64, .int .i64, .int .i64] fun (r3 : Int × Int × Int) =>
 (g24 x0 r3.1 r3.2.1 r3.2.2).bind fun (r6 : LL) =>
 g25L0 k r6 x1 (iop .add .i64 x2 1)
 else
 some (x0)) := by kernel_rfl
theorem g25_eq (x0 x1 : LL) : g25 x0 x1 =
 ((g21 x0 (List.length x1 : Int)).bind fun (r2 : LL) =>
 g25L0 FUEL r2 x1 0) := by kernel_rfl

/- multikernel/multikernelref18.nums -/
noncomputable def F26 : Fn := ⟨23, [4], [(3, [(0, .c (.own 5)), (1, .c (.slice 1)), (5, .c (.int .i64))])], [], 0, Tryz.f26, [.c (.own 5), .c (.slice 1)], [.c (.own 5)], [(21, F21.S)]⟩
theorem ok26 : F26.S.Ok Tryz.prog 26 := F26.ok Tryz.func26 (by kernel_rfl) ⟨ok21, trivial⟩
noncomputable def g26 (x0 x1 : LL) : Option (LL) := F26.S.g [.l x0, .l x1]
noncomputable def g26L0 (k : Nat) (x0 x1 : LL) (x2 : Int) : Option (LL) := F26.lp [2] 0 r0 k [.l x0, .l x1, .i x2]
theorem g26L0_eq (k : Nat) (x0 x1 : LL) (x2 : Int) : g26L0 (k + 1) x0 x1 x2 =
 (if (cop .lss x2 (List.length x1 : Int)) = true then
 elemK x1 x2 [.int .i64] fun (r3 : Int) =>
 (g21 x0 r3).bind fun (r4 : LL) =>
 g26L0 k r4 x1 (iop .add .i64 x2 1)
 else
 some (x0)) := by kernel_rfl
theorem g26_eq (x0 x1 : LL) : g26 x0 x1 =
 ((g21 x0 (List.length x1 : Int)).bind fun (r2 : LL) =>
 g26L0 FUEL r2 x1 0) := by kernel_rfl

/- multikernel/multikernelref18.putView -/
noncomputable def F29 : Fn := ⟨15, [4], [], [], 0, Tryz.f29, [.c (.own 5), .agg [.int .i64, .slice 1, .slice 1]], [.c (.own 5)], [(21, F21.S), (26, F26.S)]⟩
theorem ok29 : F29.S.Ok Tryz.prog 29 := F29.ok Tryz.func29 (by kernel_rfl) ⟨ok21, ⟨ok26, trivial⟩⟩
noncomputable def g29 (x0 : LL) (x1 : Int) (x2 x3 : LL) : Option (LL) := F29.S.g [.l x0, .i x1, .l x2, .l x3]
theorem g29_eq (x0 : LL) (x1 : Int) (x2 x3 : LL) : g29 x0 x1 x2 x3 =
 ((g21 x0 x1).bind fun (r4 : LL) =>
 (g26 r4 x2).bind fun (r5 : LL) =>
 (g26 r5 x3).bind fun (r6 : LL) =>
 some (r6)) := by kernel_rfl

/- multikernel/multikernelref18.state -/
noncomputable def F28 : Fn := ⟨155, [4], [(3, [(0, .c (.own 5)), (3, .box hs14), (5, .c (.int .i64))]), (8, [(0, .c (.own 5)), (3, .box hs14), (6, .c (.int .i64))]), (13, [(0, .c (.own 5)), (3, .box hs14), (7, .c (.int .i64))]), (18, [(0, .c (.own 5)), (3, .box hs14), (8, .c (.int .i64))]), (23, [(0, .c (.own 5)), (3, .box hs14), (9, .c (.int .i64))])], [], 0, Tryz.f28, [.c (.own 5), .agg hs14], [.c (.own 5)], [(21, F21.S), (30, F30.S), (24, F24.S), (22, F22.S), (25, F25.S)]⟩
theorem ok28 : F28.S.Ok Tryz.prog 28 := F28.ok Tryz.func28 (by kernel_rfl) ⟨ok21, ⟨ok30, ⟨ok24, ⟨ok22, ⟨ok25, trivial⟩⟩⟩⟩⟩
noncomputable def g28 (x0 x1 x2 x3 x4 x5 x6 : LL) : Option (LL) := F28.S.g [.l x0, .l x1, .l x2, .l x3, .l x4, .l x5, .l x6]
noncomputable def g28L0 (k : Nat) (x0 x1 x2 x3 x4 x5 x6 : LL) (x7 : Int) : Option (LL) := F28.lp [2, 1, 2, 1, 2, 1, 2, 1, 2] 0 r0 k [.l x0, .l x1, .l x2, .l x3, .l x4, .l x5, .l x6, .i x7]
theorem g28L0_eq (k : Nat) (x0 x1 x2 x3 x4 x5 x6 : LL) (x7 : Int) : g28L0 (k + 1) x0 x1 x2 x3 x4 x5 x6 x7 =
 (if (cop .lss x7 (List.length x5 : Int)) = true then
 elemK x5 x7 hs8 fun (r8 : Qt12) =>
 (g21 x0 r8.1).bind fun (r21 : LL) =>
 elemK x5 x7 hs8 fun (r22 : Qt12) =>
 (g21 r21 r22.2.1).bind fun (r35 : LL) =>
 elemK x5 x7 hs8 fun (r36 : Qt12) =>
 (g30 r35 r36.2.2.1 r36.2.2.2.1 r36.2.2.2.2.1 r36.2.2.2.2.2.1 r36.2.2.2.2.2.2.1 r36.2.2.2.2.2.2.2.1 r36.2.2.2.2.2.2.2.2.1 r36.2.2.2.2.2.2.2.2.2.1 r36.2.2.2.2.2.2.2.2.2.2.1 r36.2.2.2.2.2.2.2.2.2.2.2.1 (d4 (d8 r36))).bind fun (r49 : LL) =>
 g28L0 k r49 x1 x2 x3 x4 x5 x6 (iop .add .i64 x7 1)
 else
 (g25 x0 x6).bind fun (r8 : LL) =>
 some (r8)) := by kernel_rfl
noncomputable def g28L1 (k : Nat) (x0 x1 x2 x3 x4 x5 x6 : LL) (x7 : Int) : Option (LL) := F28.lp [2, 1, 2, 1, 2, 1, 2] 0 r0 k [.l x0, .l x1, .l x2, .l x3, .l x4, .l x5, .l x6, .i x7]
theorem g28L1_eq (k : Nat) (x0 x1 x2 x3 x4 x5 x6 : LL) (x7 : Int) : g28L1 (k + 1) x0 x1 x2 x3 x4 x5 x6 x7 =
 (if (cop .lss x7 (List.length x4 : Int)) = true then
 elemK x4 x7 [.int .i64, .int .i64] fun (r8 : Int × Int) =>
 (g21 x0 r8.1).bind fun (r10 : LL) =>
 elemK x4 x7 [.int .i64, .int .i64] fun (r11 : Int × Int) =>
 (g21 r10 r11.2).bind fun (r13 : LL) =>
 g28L1 k r13 x1 x2 x3 x4 x5 x6 (iop .add .i64 x7 1)
 else
 (g21 x0 (List.length x5 : Int)).bind fun (r8 : LL) =>
 g28L0 FUEL r8 x1 x2 x3 x4 x5 x6 0) := by kernel_rfl
noncomputable def g28L2 (k : Nat) (x0 x1 x2 x3 x4 x5 x6 : LL) (x7 : Int) : Option (LL) := F28.lp [2, 1, 2, 1, 2] 0 r0 k [.l x0, .l x1, .l x2, .l x3, .l x4, .l x5, .l x6, .i x7]
theorem g28L2_eq (k : Nat) (x0 x1 x2 x3 x4 x5 x6 : LL) (x7 : Int) : g28L2 (k + 1) x0 x1 x2 x3 x4 x5 x6 x7 =
 (if (cop .lss x7 (List.length x3 : Int)) = true then
 elemK x3 x7 [.int .i64, .int .i64, .int .i64, .int .i64] fun (r8 : Int × Int × Int × Int) =>
 (g21 x0 r8.1).bind fun (r12 : LL) =>
 elemK x3 x7 [.int .i64, .int .i64, .int .i64, .int .i64] fun (r13 : Int × Int × Int × Int) =>
 (g24 r12 r13.2.1 r13.2.2.1 r13.2.2.2).bind fun (r17 : LL) =>
 g28L2 k r17 x1 x2 x3 x4 x5 x6 (iop .add .i64 x7 1)
 else
 (g21 x0 (List.length x4 : Int)).bind fun (r8 : LL) =>
 g28L1 FUEL r8 x1 x2 x3 x4 x5 x6 0) := by kernel_rfl
noncomputable def g28L3 (k : Nat) (x0 x1 x2 x3 x4 x5 x6 : LL) (x7 : Int) : Option (LL) := F28.lp [2, 1, 2] 0 r0 k [.l x0, .l x1, .l x2, .l x3, .l x4, .l x5, .l x6, .i x7]
theorem g28L3_eq (k : Nat) (x0 x1 x2 x3 x4 x5 x6 : LL) (x7 : Int) : g28L3 (k + 1) x0 x1 x2 x3 x4 x5 x6 x7 =
 (if (cop .lss x7 (List.length x2 : Int)) = true then
 elemK x2 x7 hs4 fun (r8 : Qt6) =>
 (g22 x0 r8.1 r8.2.1 r8.2.2.1 r8.2.2.2.1 r8.2.2.2.2.1 r8.2.2.2.2.2.1 r8.2.2.2.2.2.2.1 r8.2.2.2.2.2.2.2.1 r8.2.2.2.2.2.2.2.2.1 r8.2.2.2.2.2.2.2.2.2.1 r8.2.2.2.2.2.2.2.2.2.2.1 r8.2.2.2.2.2.2.2.2.2.2.2.1 (d4 (d8 r8)).1 (d4 (d8 r8)).2.1 (d2 (d4 (d8 r8))).1 (d2 (d4 (d8 r8))).2.1 (d16 r8).1 (d16 r8).2.1 (d2 (d16 r8)).1 (d2 (d16 r8)).2.1 (d4 (d16 r8)).1 (d4 (d16 r8)).2.1 (d2 (d4 (d16 r8))).1 (d2 (d4 (d16 r8))).2.1 (d8 (d16 r8)).1 (d8 (d16 r8)).2.1 (d2 (d8 (d16 r8))).1 (d2 (d8 (d16 r8))).2).bind fun (r36 : LL) =>
 g28L3 k r36 x1 x2 x3 x4 x5 x6 (iop .add .i64 x7 1)
 else
 (g21 x0 (List.length x3 : Int)).bind fun (r8 : LL) =>
 g28L2 FUEL r8 x1 x2 x3 x4 x5 x6 0) := by kernel_rfl
noncomputable def g28L4 (k : Nat) (x0 x1 x2 x3 x4 x5 x6 : LL) (x7 : Int) : Option (LL) := F28.lp [2] 0 r0 k [.l x0, .l x1, .l x2, .l x3, .l x4, .l x5, .l x6, .i x7]
theorem g28L4_eq (k : Nat) (x0 x1 x2 x3 x4 x5 x6 : LL) (x7 : Int) : g28L4 (k + 1) x0 x1 x2 x3 x4 x5 x6 x7 =
 (if (cop .lss x7 (List.length x1 : Int)) = true then
 elemK x1 x7 hs7 fun (r8 : Qt11) =>
 (g30 x0 r8.1 r8.2.1 r8.2.2.1 r8.2.2.2.1 r8.2.2.2.2.1 r8.2.2.2.2.2.1 r8.2.2.2.2.2.2.1 r8.2.2.2.2.2.2.2.1 r8.2.2.2.2.2.2.2.2.1 r8.2.2.2.2.2.2.2.2.2.1 r8.2.2.2.2.2.2.2.2.2.2.1).bind fun (r23 : LL) =>
 elemK x1 x7 hs7 fun (r24 : Qt11) =>
 (g21 r23 r24.2.2.2.2.2.2.2.2.2.2.2.1).bind fun (r39 : LL) =>
 elemK x1 x7 hs7 fun (r40 : Qt11) =>
 (g24 r39 (d4 (d8 r40)).1 (d4 (d8 r40)).2.1 (d2 (d4 (d8 r40)))).bind fun (r55 : LL) =>
 g28L4 k r55 x1 x2 x3 x4 x5 x6 (iop .add .i64 x7 1)
 else
 (g21 x0 (List.length x2 : Int)).bind fun (r8 : LL) =>
 g28L3 FUEL r8 x1 x2 x3 x4 x5 x6 0) := by kernel_rfl
theorem g28_eq (x0 x1 x2 x3 x4 x5 x6 : LL) : g28 x0 x1 x2 x3 x4 x5 x6 =
 ((g21 x0 (List.length x1 : Int)).bind fun (r7 : LL) =>
 g28L4 FUEL r7 x1 x2 x3 x4 x5 x6 0) := by kernel_rfl

/- multikernel/multikernelref18.putReport -/
noncomputable def F27 : Fn := ⟨25, [4], [], [], 0, Tryz.f27, [.c (.own 5), .agg hs5], [.c (.own 5)], [(21, F21.S), (29, F29.S), (28, F28.S), (23, F23.S)]⟩
theorem ok27 : F27.S.Ok Tryz.prog 27 := F27.ok Tryz.func27 (by kernel_rfl) ⟨ok21, ⟨ok29, ⟨ok28, ⟨ok23, trivial⟩⟩⟩⟩
noncomputable def g27 (x0 : LL) (x1 x2 : Int) (x3 x4 x5 x6 x7 x8 x9 x10 : LL) (x11 : Bool) (x12 : Int) (x13 x14 x15 x16 x17 x18 x19 x20 : LL) : Option (LL) := F27.S.g [.l x0, .i x1, .i x2, .l x3, .l x4, .l x5, .l x6, .l x7, .l x8, .l x9, .l x10, .b x11, .i x12, .l x13, .l x14, .l x15, .l x16, .l x17, .l x18, .l x19, .l x20]
theorem g27_eq (x0 : LL) (x1 x2 : Int) (x3 x4 x5 x6 x7 x8 x9 x10 : LL) (x11 : Bool) (x12 : Int) (x13 x14 x15 x16 x17 x18 x19 x20 : LL) : g27 x0 x1 x2 x3 x4 x5 x6 x7 x8 x9 x10 x11 x12 x13 x14 x15 x16 x17 x18 x19 x20 =
 ((g21 x0 x1).bind fun (r21 : LL) =>
 (g29 r21 x2 x3 x4).bind fun (r22 : LL) =>
 (g28 r22 x5 x6 x7 x8 x9 x10).bind fun (r23 : LL) =>
 (g23 r23 x11).bind fun (r24 : LL) =>
 (g29 r24 x12 x13 x14).bind fun (r25 : LL) =>
 (g28 r25 x15 x16 x17 x18 x19 x20).bind fun (r26 : LL) =>
 some (r26)) := by kernel_rfl

/- multikernel/multikernelref18.Encode -/
noncomputable def F8 : Fn := ⟨195, [2, 3], [(29, [(1, .box hs0), (4, .c (.own 5)), (5, .c (.int .i64))]), (35, [(1, .box hs0), (4, .c (.own 5)), (6, .c (.int .i64))])], [], 0, Tryz.f8, [.agg hs0], [.c (.own 5), .c (.int .i64)], [(10, F10.S), (21, F21.S), (22, F22.S), (30, F30.S), (24, F24.S), (23, F23.S), (25, F25.S), (26, F26.S), (27, F27.S), (29, F29.S), (28, F28.S)]⟩
theorem ok8 : F8.S.Ok Tryz.prog 8 := F8.ok Tryz.func8 (by kernel_rfl) ⟨ok10, ⟨ok21, ⟨ok22, ⟨ok30, ⟨ok24, ⟨ok23, ⟨ok25, ⟨ok26, ⟨ok27, ⟨ok29, ⟨ok28, trivial⟩⟩⟩⟩⟩⟩⟩⟩⟩⟩⟩
noncomputable def g8 (x0 x1 x2 x3 x4 x5 x6 x7 x8 x9 x10 : Int) (x11 : Bool) (x12 x13 x14 x15 x16 x17 x18 x19 x20 x21 x22 x23 x24 x25 x26 x27 x28 x29 x30 x31 : Int) (x32 : LL) (x33 x34 x35 x36 x37 x38 : Int) (x39 : Bool) (x40 x41 x42 x43 : LL) (x44 x45 : Int) (x46 x47 x48 x49 x50 x51 x52 x53 : LL) (x54 x55 : Int) (x56 x57 x58 x59 x60 x61 x62 x63 : LL) (x64 : Bool) (x65 : Int) (x66 x67 x68 x69 x70 x71 x72 x73 : LL) : Option (LL × Int) := F8.S.g [.i x0, .i x1, .i x2, .i x3, .i x4, .i x5, .i x6, .i x7, .i x8, .i x9, .i x10, .b x11, .i x12, .i x13, .i x14, .i x15, .i x16, .i x17, .i x18, .i x19, .i x20, .i x21, .i x22, .i x23, .i x24, .i x25, .i x26, .i x27, .i x28, .i x29, .i x30, .i x31, .l x32, .i x33, .i x34, .i x35, .i x36, .i x37, .i x38, .b x39, .l x40, .l x41, .l x42, .l x43, .i x44, .i x45, .l x46, .l x47, .l x48, .l x49, .l x50, .l x51, .l x52, .l x53, .i x54, .i x55, .l x56, .l x57, .l x58, .l x59, .l x60, .l x61, .l x62, .l x63, .b x64, .i x65, .l x66, .l x67, .l x68, .l x69, .l x70, .l x71, .l x72, .l x73]
noncomputable def g8L0 (k : Nat) (x0 x1 x2 x3 x4 x5 x6 x7 x8 x9 x10 : Int) (x11 : Bool) (x12 x13 x14 x15 x16 x17 x18 x19 x20 x21 x22 x23 x24 x25 x26 x27 x28 x29 x30 x31 : Int) (x32 : LL) (x33 x34 x35 x36 x37 x38 : Int) (x39 : Bool) (x40 x41 x42 x43 : LL) (x44 x45 : Int) (x46 x47 x48 x49 x50 x51 x52 x53 : LL) (x54 x55 : Int) (x56 x57 x58 x59 x60 x61 x62 x63 : LL) (x64 : Bool) (x65 : Int) (x66 x67 x68 x69 x70 x71 x72 x73 x74 : LL) (x75 : Int) : Option (LL × Int) := F8.lp [0, 1, 5, 3, 2] 0 r0 k [.i x0, .i x1, .i x2, .i x3, .i x4, .i x5, .i x6, .i x7, .i x8, .i x9, .i x10, .b x11, .i x12, .i x13, .i x14, .i x15, .i x16, .i x17, .i x18, .i x19, .i x20, .i x21, .i x22, .i x23, .i x24, .i x25, .i x26, .i x27, .i x28, .i x29, .i x30, .i x31, .l x32, .i x33, .i x34, .i x35, .i x36, .i x37, .i x38, .b x39, .l x40, .l x41, .l x42, .l x43, .i x44, .i x45, .l x46, .l x47, .l x48, .l x49, .l x50, .l x51, .l x52, .l x53, .i x54, .i x55, .l x56, .l x57, .l x58, .l x59, .l x60, .l x61, .l x62, .l x63, .b x64, .i x65, .l x66, .l x67, .l x68, .l x69, .l x70, .l x71, .l x72, .l x73, .l x74, .i x75]
theorem g8L0_eq (k : Nat) (x0 x1 x2 x3 x4 x5 x6 x7 x8 x9 x10 : Int) (x11 : Bool) (x12 x13 x14 x15 x16 x17 x18 x19 x20 x21 x22 x23 x24 x25 x26 x27 x28 x29 x30 x31 : Int) (x32 : LL) (x33 x34 x35 x36 x37 x38 : Int) (x39 : Bool) (x40 x41 x42 x43 : LL) (x44 x45 : Int) (x46 x47 x48 x49 x50 x51 x52 x53 : LL) (x54 x55 : Int) (x56 x57 x58 x59 x60 x61 x62 x63 : LL) (x64 : Bool) (x65 : Int) (x66 x67 x68 x69 x70 x71 x72 x73 x74 : LL) (x75 : Int) : g8L0 (k + 1) x0 x1 x2 x3 x4 x5 x6 x7 x8 x9 x10 x11 x12 x13 x14 x15 x16 x17 x18 x19 x20 x21 x22 x23 x24 x25 x26 x27 x28 x29 x30 x31 x32 x33 x34 x35 x36 x37 x38 x39 x40 x41 x42 x43 x44 x45 x46 x47 x48 x49 x50 x51 x52 x53 x54 x55 x56 x57 x58 x59 x60 x61 x62 x63 x64 x65 x66 x67 x68 x69 x70 x71 x72 x73 x74 x75 =
 (if (cop .lss x75 (List.length x41 : Int)) = true then
 elemK x41 x75 hs10 fun (r76 : Qt15) =>
 (g30 x74 r76.1 r76.2.1 r76.2.2.1 r76.2.2.2.1 r76.2.2.2.2.1 r76.2.2.2.2.2.1 r76.2.2.2.2.2.2.1 r76.2.2.2.2.2.2.2.1 r76.2.2.2.2.2.2.2.2.1 r76.2.2.2.2.2.2.2.2.2.1 r76.2.2.2.2.2.2.2.2.2.2).bind fun (r87 : LL) =>
 g8L0 k x0 x1 x2 x3 x4 x5 x6 x7 x8 x9 x10 x11 x12 x13 x14 x15 x16 x17 x18 x19 x20 x21 x22 x23 x24 x25 x26 x27 x28 x29 x30 x31 x32 x33 x34 x35 x36 x37 x38 x39 x40 x41 x42 x43 x44 x45 x46 x47 x48 x49 x50 x51 x52 x53 x54 x55 x56 x57 x58 x59 x60 x61 x62 x63 x64 x65 x66 x67 x68 x69 x70 x71 x72 x73 r87 (iop .add .i64 x75 1)
 else
 some (x74, 0)) := by kernel_rfl
noncomputable def g8L1 (k : Nat) (x0 x1 x2 x3 x4 x5 x6 x7 x8 x9 x10 : Int) (x11 : Bool) (x12 x13 x14 x15 x16 x17 x18 x19 x20 x21 x22 x23 x24 x25 x26 x27 x28 x29 x30 x31 : Int) (x32 : LL) (x33 x34 x35 x36 x37 x38 : Int) (x39 : Bool) (x40 x41 x42 x43 : LL) (x44 x45 : Int) (x46 x47 x48 x49 x50 x51 x52 x53 : LL) (x54 x55 : Int) (x56 x57 x58 x59 x60 x61 x62 x63 : LL) (x64 : Bool) (x65 : Int) (x66 x67 x68 x69 x70 x71 x72 x73 x74 : LL) (x75 : Int) : Option (LL × Int) := F8.lp [0, 1, 4, 1, 1, 1, 1, 1, 1, 1, 1, 1, 1, 0, 3] 0 r0 k [.i x0, .i x1, .i x2, .i x3, .i x4, .i x5, .i x6, .i x7, .i x8, .i x9, .i x10, .b x11, .i x12, .i x13, .i x14, .i x15, .i x16, .i x17, .i x18, .i x19, .i x20, .i x21, .i x22, .i x23, .i x24, .i x25, .i x26, .i x27, .i x28, .i x29, .i x30, .i x31, .l x32, .i x33, .i x34, .i x35, .i x36, .i x37, .i x38, .b x39, .l x40, .l x41, .l x42, .l x43, .i x44, .i x45, .l x46, .l x47, .l x48, .l x49, .l x50, .l x51, .l x52, .l x53, .i x54, .i x55, .l x56, .l x57, .l x58, .l x59, .l x60, .l x61, .l x62, .l x63, .b x64, .i x65, .l x66, .l x67, .l x68, .l x69, .l x70, .l x71, .l x72, .l x73, .l x74, .i x75]
theorem g8L1_eq (k : Nat) (x0 x1 x2 x3 x4 x5 x6 x7 x8 x9 x10 : Int) (x11 : Bool) (x12 x13 x14 x15 x16 x17 x18 x19 x20 x21 x22 x23 x24 x25 x26 x27 x28 x29 x30 x31 : Int) (x32 : LL) (x33 x34 x35 x36 x37 x38 : Int) (x39 : Bool) (x40 x41 x42 x43 : LL) (x44 x45 : Int) (x46 x47 x48 x49 x50 x51 x52 x53 : LL) (x54 x55 : Int) (x56 x57 x58 x59 x60 x61 x62 x63 : LL) (x64 : Bool) (x65 : Int) (x66 x67 x68 x69 x70 x71 x72 x73 x74 : LL) (x75 : Int) : g8L1 (k + 1) x0 x1 x2 x3 x4 x5 x6 x7 x8 x9 x10 x11 x12 x13 x14 x15 x16 x17 x18 x19 x20 x21 x22 x23 x24 x25 x26 x27 x28 x29 x30 x31 x32 x33 x34 x35 x36 x37 x38 x39 x40 x41 x42 x43 x44 x45 x46 x47 x48 x49 x50 x51 x52 x53 x54 x55 x56 x57 x58 x59 x60 x61 x62 x63 x64 x65 x66 x67 x68 x69 x70 x71 x72 x73 x74 x75 =
 (if (cop .lss x75 (List.length x43 : Int)) = true then
 elemK x43 x75 [.int .i64, .int .i64] fun (r76 : Int × Int) =>
 (g21 x74 r76.1).bind fun (r78 : LL) =>
 elemK x43 x75 [.int .i64, .int .i64] fun (r79 : Int × Int) =>
 (g21 r78 r79.2).bind fun (r81 : LL) =>
 g8L1 k x0 x1 x2 x3 x4 x5 x6 x7 x8 x9 x10 x11 x12 x13 x14 x15 x16 x17 x18 x19 x20 x21 x22 x23 x24 x25 x26 x27 x28 x29 x30 x31 x32 x33 x34 x35 x36 x37 x38 x39 x40 x41 x42 x43 x44 x45 x46 x47 x48 x49 x50 x51 x52 x53 x54 x55 x56 x57 x58 x59 x60 x61 x62 x63 x64 x65 x66 x67 x68 x69 x70 x71 x72 x73 r81 (iop .add .i64 x75 1)
 else
 if (cop .eql x0 2) = true then
 (g21 x74 (List.length x41 : Int)).bind fun (r76 : LL) =>
 g8L0 FUEL x0 x1 x2 x3 x4 x5 x6 x7 x8 x9 x10 x11 x12 x13 x14 x15 x16 x17 x18 x19 x20 x21 x22 x23 x24 x25 x26 x27 x28 x29 x30 x31 x32 x33 x34 x35 x36 x37 x38 x39 x40 x41 x42 x43 x44 x45 x46 x47 x48 x49 x50 x51 x52 x53 x54 x55 x56 x57 x58 x59 x60 x61 x62 x63 x64 x65 x66 x67 x68 x69 x70 x71 x72 x73 r76 0
 else
 if (cop .eql x0 4) = true then
 (g21 x74 (List.length x41 : Int)).bind fun (r76 : LL) =>
 g8L0 FUEL x0 x1 x2 x3 x4 x5 x6 x7 x8 x9 x10 x11 x12 x13 x14 x15 x16 x17 x18 x19 x20 x21 x22 x23 x24 x25 x26 x27 x28 x29 x30 x31 x32 x33 x34 x35 x36 x37 x38 x39 x40 x41 x42 x43 x44 x45 x46 x47 x48 x49 x50 x51 x52 x53 x54 x55 x56 x57 x58 x59 x60 x61 x62 x63 x64 x65 x66 x67 x68 x69 x70 x71 x72 x73 r76 0
 else
 some (x74, 0)) := by kernel_rfl
theorem g8_eq (x0 x1 x2 x3 x4 x5 x6 x7 x8 x9 x10 : Int) (x11 : Bool) (x12 x13 x14 x15 x16 x17 x18 x19 x20 x21 x22 x23 x24 x25 x26 x27 x28 x29 x30 x31 : Int) (x32 : LL) (x33 x34 x35 x36 x37 x38 : Int) (x39 : Bool) (x40 x41 x42 x43 : LL) (x44 x45 : Int) (x46 x47 x48 x49 x50 x51 x52 x53 : LL) (x54 x55 : Int) (x56 x57 x58 x59 x60 x61 x62 x63 : LL) (x64 : Bool) (x65 : Int) (x66 x67 x68 x69 x70 x71 x72 x73 : LL) : g8 x0 x1 x2 x3 x4 x5 x6 x7 x8 x9 x10 x11 x12 x13 x14 x15 x16 x17 x18 x19 x20 x21 x22 x23 x24 x25 x26 x27 x28 x29 x30 x31 x32 x33 x34 x35 x36 x37 x38 x39 x40 x41 x42 x43 x44 x45 x46 x47 x48 x49 x50 x51 x52 x53 x54 x55 x56 x57 x58 x59 x60 x61 x62 x63 x64 x65 x66 x67 x68 x69 x70 x71 x72 x73 =
 ((g10 x0 x1 x2 x3 x4 x5 x6 x7 x8 x9 x10 x11 x12 x13 x14 x15 x16 x17 x18 x19 x20 x21 x22 x23 x24 x25 x26 x27 x28 x29 x30 x31 x32 x33 x34 x35 x36 x37 x38 x39 x40 x41 x42 x43 x44 x45 x46 x47 x48 x49 x50 x51 x52 x53 x54 x55 x56 x57 x58 x59 x60 x61 x62 x63 x64 x65 x66 x67 x68 x69 x70 x71 x72 x73).bind fun (r74 : Bool) =>
 if (!r74) = true then
 some (([] : LL), 1)
 else
 (g21 ([] : LL) x0).bind fun (r75 : LL) =>
 (g21 r75 x1).bind fun (r76 : LL) =>
 (g21 r76 x2).bind fun (r77 : LL) =>
 (g21 r77 x3).bind fun (r78 : LL) =>
 if (cop .eql x0 1) = true then
 (g21 r78 x5).bind fun (r79 : LL) =>
 (g22 r79 x12 x13 x14 x15 x16 x17 x18 x19 x20 x21 x22 x23 x24 x25 x26 x27 x28 x29 x30 x31 x32 x33 x34 x35 x36 x37 x38 x39).bind fun (r80 : LL) =>
 if (cop .eql x0 2) = true then
 (g21 r80 (List.length x41 : Int)).bind fun (r81 : LL) =>
 g8L0 FUEL x0 x1 x2 x3 x4 x5 x6 x7 x8 x9 x10 x11 x12 x13 x14 x15 x16 x17 x18 x19 x20 x21 x22 x23 x24 x25 x26 x27 x28 x29 x30 x31 x32 x33 x34 x35 x36 x37 x38 x39 x40 x41 x42 x43 x44 x45 x46 x47 x48 x49 x50 x51 x52 x53 x54 x55 x56 x57 x58 x59 x60 x61 x62 x63 x64 x65 x66 x67 x68 x69 x70 x71 x72 x73 r81 0
 else
 if (cop .eql x0 4) = true then
 (g21 r80 (List.length x41 : Int)).bind fun (r81 : LL) =>
 g8L0 FUEL x0 x1 x2 x3 x4 x5 x6 x7 x8 x9 x10 x11 x12 x13 x14 x15 x16 x17 x18 x19 x20 x21 x22 x23 x24 x25 x26 x27 x28 x29 x30 x31 x32 x33 x34 x35 x36 x37 x38 x39 x40 x41 x42 x43 x44 x45 x46 x47 x48 x49 x50 x51 x52 x53 x54 x55 x56 x57 x58 x59 x60 x61 x62 x63 x64 x65 x66 x67 x68 x69 x70 x71 x72 x73 r81 0
 else
 some (r80, 0)
 else
 if (cop .eql x0 2) = true then
 (g21 r78 x5).bind fun (r79 : LL) =>
 (g24 r79 x7 x8 x9).bind fun (r80 : LL) =>
 (g21 r80 x10).bind fun (r81 : LL) =>
 (g23 r81 x11).bind fun (r82 : LL) =>
 if (cop .eql x0 2) = true then
 (g21 r82 (List.length x41 : Int)).bind fun (r83 : LL) =>
 g8L0 FUEL x0 x1 x2 x3 x4 x5 x6 x7 x8 x9 x10 x11 x12 x13 x14 x15 x16 x17 x18 x19 x20 x21 x22 x23 x24 x25 x26 x27 x28 x29 x30 x31 x32 x33 x34 x35 x36 x37 x38 x39 x40 x41 x42 x43 x44 x45 x46 x47 x48 x49 x50 x51 x52 x53 x54 x55 x56 x57 x58 x59 x60 x61 x62 x63 x64 x65 x66 x67 x68 x69 x70 x71 x72 x73 r83 0
 else
 if (cop .eql x0 4) = true then
 (g21 r82 (List.length x41 : Int)).bind fun (r83 : LL) =>
 g8L0 FUEL x0 x1 x2 x3 x4 x5 x6 x7 x8 x9 x10 x11 x12 x13 x14 x15 x16 x17 x18 x19 x20 x21 x22 x23 x24 x25 x26 x27 x28 x29 x30 x31 x32 x33 x34 x35 x36 x37 x38 x39 x40 x41 x42 x43 x44 x45 x46 x47 x48 x49 x50 x51 x52 x53 x54 x55 x56 x57 x58 x59 x60 x61 x62 x63 x64 x65 x66 x67 x68 x69 x70 x71 x72 x73 r83 0
 else
 some (r82, 0)
 else
 if (cop .eql x0 4) = true then
 (g21 r78 x5).bind fun (r79 : LL) =>
 (g24 r79 x7 x8 x9).bind fun (r80 : LL) =>
 (g21 r80 x6).bind fun (r81 : LL) =>
 if (cop .eql x0 2) = true then
 (g21 r81 (List.length x41 : Int)).bind fun (r82 : LL) =>
 g8L0 FUEL x0 x1 x2 x3 x4 x5 x6 x7 x8 x9 x10 x11 x12 x13 x14 x15 x16 x17 x18 x19 x20 x21 x22 x23 x24 x25 x26 x27 x28 x29 x30 x31 x32 x33 x34 x35 x36 x37 x38 x39 x40 x41 x42 x43 x44 x45 x46 x47 x48 x49 x50 x51 x52 x53 x54 x55 x56 x57 x58 x59 x60 x61 x62 x63 x64 x65 x66 x67 x68 x69 x70 x71 x72 x73 r82 0
 else
 if (cop .eql x0 4) = true then
 (g21 r81 (List.length x41 : Int)).bind fun (r82 : LL) =>
 g8L0 FUEL x0 x1 x2 x3 x4 x5 x6 x7 x8 x9 x10 x11 x12 x13 x14 x15 x16 x17 x18 x19 x20 x21 x22 x23 x24 x25 x26 x27 x28 x29 x30 x31 x32 x33 x34 x35 x36 x37 x38 x39 x40 x41 x42 x43 x44 x45 x46 x47 x48 x49 x50 x51 x52 x53 x54 x55 x56 x57 x58 x59 x60 x61 x62 x63 x64 x65 x66 x67 x68 x69 x70 x71 x72 x73 r82 0
 else
 some (r81, 0)
 else
 if (cop .eql x0 5) = true then
 (g21 r78 x5).bind fun (r79 : LL) =>
 (g24 r79 x7 x8 x9).bind fun (r80 : LL) =>
 (g21 r80 x10).bind fun (r81 : LL) =>
 if (cop .eql x0 2) = true then
 (g21 r81 (List.length x41 : Int)).bind fun (r82 : LL) =>
 g8L0 FUEL x0 x1 x2 x3 x4 x5 x6 x7 x8 x9 x10 x11 x12 x13 x14 x15 x16 x17 x18 x19 x20 x21 x22 x23 x24 x25 x26 x27 x28 x29 x30 x31 x32 x33 x34 x35 x36 x37 x38 x39 x40 x41 x42 x43 x44 x45 x46 x47 x48 x49 x50 x51 x52 x53 x54 x55 x56 x57 x58 x59 x60 x61 x62 x63 x64 x65 x66 x67 x68 x69 x70 x71 x72 x73 r82 0
 else
 if (cop .eql x0 4) = true then
 (g21 r81 (List.length x41 : Int)).bind fun (r82 : LL) =>
 g8L0 FUEL x0 x1 x2 x3 x4 x5 x6 x7 x8 x9 x10 x11 x12 x13 x14 x15 x16 x17 x18 x19 x20 x21 x22 x23 x24 x25 x26 x27 x28 x29 x30 x31 x32 x33 x34 x35 x36 x37 x38 x39 x40 x41 x42 x43 x44 x45 x46 x47 x48 x49 x50 x51 x52 x53 x54 x55 x56 x57 x58 x59 x60 x61 x62 x63 x64 x65 x66 x67 x68 x69 x70 x71 x72 x73 r82 0
 else
 some (r81, 0)
 else
 if (cop .eql x0 6) = true then
 (g21 r78 x5).bind fun (r79 : LL) =>
 (g24 r79 x7 x8 x9).bind fun (r80 : LL) =>
 (g25 r80 x40).bind fun (r81 : LL) =>
 if (cop .eql x0 2) = true then
 (g21 r81 (List.length x41 : Int)).bind fun (r82 : LL) =>
 g8L0 FUEL x0 x1 x2 x3 x4 x5 x6 x7 x8 x9 x10 x11 x12 x13 x14 x15 x16 x17 x18 x19 x20 x21 x22 x23 x24 x25 x26 x27 x28 x29 x30 x31 x32 x33 x34 x35 x36 x37 x38 x39 x40 x41 x42 x43 x44 x45 x46 x47 x48 x49 x50 x51 x52 x53 x54 x55 x56 x57 x58 x59 x60 x61 x62 x63 x64 x65 x66 x67 x68 x69 x70 x71 x72 x73 r82 0
 else
 if (cop .eql x0 4) = true then
 (g21 r81 (List.length x41 : Int)).bind fun (r82 : LL) =>
 g8L0 FUEL x0 x1 x2 x3 x4 x5 x6 x7 x8 x9 x10 x11 x12 x13 x14 x15 x16 x17 x18 x19 x20 x21 x22 x23 x24 x25 x26 x27 x28 x29 x30 x31 x32 x33 x34 x35 x36 x37 x38 x39 x40 x41 x42 x43 x44 x45 x46 x47 x48 x49 x50 x51 x52 x53 x54 x55 x56 x57 x58 x59 x60 x61 x62 x63 x64 x65 x66 x67 x68 x69 x70 x71 x72 x73 r82 0
 else
 some (r81, 0)
 else
 if (cop .eql x0 12) = true then
 (g21 r78 x4).bind fun (r79 : LL) =>
 (g26 r79 x42).bind fun (r80 : LL) =>
 if (cop .eql x0 2) = true then
 (g21 r80 (List.length x41 : Int)).bind fun (r81 : LL) =>
 g8L0 FUEL x0 x1 x2 x3 x4 x5 x6 x7 x8 x9 x10 x11 x12 x13 x14 x15 x16 x17 x18 x19 x20 x21 x22 x23 x24 x25 x26 x27 x28 x29 x30 x31 x32 x33 x34 x35 x36 x37 x38 x39 x40 x41 x42 x43 x44 x45 x46 x47 x48 x49 x50 x51 x52 x53 x54 x55 x56 x57 x58 x59 x60 x61 x62 x63 x64 x65 x66 x67 x68 x69 x70 x71 x72 x73 r81 0
 else
 if (cop .eql x0 4) = true then
 (g21 r80 (List.length x41 : Int)).bind fun (r81 : LL) =>
 g8L0 FUEL x0 x1 x2 x3 x4 x5 x6 x7 x8 x9 x10 x11 x12 x13 x14 x15 x16 x17 x18 x19 x20 x21 x22 x23 x24 x25 x26 x27 x28 x29 x30 x31 x32 x33 x34 x35 x36 x37 x38 x39 x40 x41 x42 x43 x44 x45 x46 x47 x48 x49 x50 x51 x52 x53 x54 x55 x56 x57 x58 x59 x60 x61 x62 x63 x64 x65 x66 x67 x68 x69 x70 x71 x72 x73 r81 0
 else
 some (r80, 0)
 else
 if (cop .eql x0 13) = true then
 (g21 r78 x4).bind fun (r79 : LL) =>
 (g27 r79 x54 x55 x56 x57 x58 x59 x60 x61 x62 x63 x64 x65 x66 x67 x68 x69 x70 x71 x72 x73).bind fun (r80 : LL) =>
 if (cop .eql x0 2) = true then
 (g21 r80 (List.length x41 : Int)).bind fun (r81 : LL) =>
 g8L0 FUEL x0 x1 x2 x3 x4 x5 x6 x7 x8 x9 x10 x11 x12 x13 x14 x15 x16 x17 x18 x19 x20 x21 x22 x23 x24 x25 x26 x27 x28 x29 x30 x31 x32 x33 x34 x35 x36 x37 x38 x39 x40 x41 x42 x43 x44 x45 x46 x47 x48 x49 x50 x51 x52 x53 x54 x55 x56 x57 x58 x59 x60 x61 x62 x63 x64 x65 x66 x67 x68 x69 x70 x71 x72 x73 r81 0
 else
 if (cop .eql x0 4) = true then
 (g21 r80 (List.length x41 : Int)).bind fun (r81 : LL) =>
 g8L0 FUEL x0 x1 x2 x3 x4 x5 x6 x7 x8 x9 x10 x11 x12 x13 x14 x15 x16 x17 x18 x19 x20 x21 x22 x23 x24 x25 x26 x27 x28 x29 x30 x31 x32 x33 x34 x35 x36 x37 x38 x39 x40 x41 x42 x43 x44 x45 x46 x47 x48 x49 x50 x51 x52 x53 x54 x55 x56 x57 x58 x59 x60 x61 x62 x63 x64 x65 x66 x67 x68 x69 x70 x71 x72 x73 r81 0
 else
 some (r80, 0)
 else
 if (cop .eql x0 14) = true then
 (g21 r78 x4).bind fun (r79 : LL) =>
 (g21 r79 x44).bind fun (r80 : LL) =>
 (g26 r80 x42).bind fun (r81 : LL) =>
 (g29 r81 x45 x46 x47).bind fun (r82 : LL) =>
 (g28 r82 x48 x49 x50 x51 x52 x53).bind fun (r83 : LL) =>
 if (cop .eql x0 2) = true then
 (g21 r83 (List.length x41 : Int)).bind fun (r84 : LL) =>
 g8L0 FUEL x0 x1 x2 x3 x4 x5 x6 x7 x8 x9 x10 x11 x12 x13 x14 x15 x16 x17 x18 x19 x20 x21 x22 x23 x24 x25 x26 x27 x28 x29 x30 x31 x32 x33 x34 x35 x36 x37 x38 x39 x40 x41 x42 x43 x44 x45 x46 x47 x48 x49 x50 x51 x52 x53 x54 x55 x56 x57 x58 x59 x60 x61 x62 x63 x64 x65 x66 x67 x68 x69 x70 x71 x72 x73 r84 0
 else
 if (cop .eql x0 4) = true then
 (g21 r83 (List.length x41 : Int)).bind fun (r84 : LL) =>
 g8L0 FUEL x0 x1 x2 x3 x4 x5 x6 x7 x8 x9 x10 x11 x12 x13 x14 x15 x16 x17 x18 x19 x20 x21 x22 x23 x24 x25 x26 x27 x28 x29 x30 x31 x32 x33 x34 x35 x36 x37 x38 x39 x40 x41 x42 x43 x44 x45 x46 x47 x48 x49 x50 x51 x52 x53 x54 x55 x56 x57 x58 x59 x60 x61 x62 x63 x64 x65 x66 x67 x68 x69 x70 x71 x72 x73 r84 0
 else
 some (r83, 0)
 else
 if (cop .eql x0 15) = true then
 (g21 r78 x4).bind fun (r79 : LL) =>
 if (cop .eql x0 2) = true then
 (g21 r79 (List.length x41 : Int)).bind fun (r80 : LL) =>
 g8L0 FUEL x0 x1 x2 x3 x4 x5 x6 x7 x8 x9 x10 x11 x12 x13 x14 x15 x16 x17 x18 x19 x20 x21 x22 x23 x24 x25 x26 x27 x28 x29 x30 x31 x32 x33 x34 x35 x36 x37 x38 x39 x40 x41 x42 x43 x44 x45 x46 x47 x48 x49 x50 x51 x52 x53 x54 x55 x56 x57 x58 x59 x60 x61 x62 x63 x64 x65 x66 x67 x68 x69 x70 x71 x72 x73 r80 0
 else
 if (cop .eql x0 4) = true then
 (g21 r79 (List.length x41 : Int)).bind fun (r80 : LL) =>
 g8L0 FUEL x0 x1 x2 x3 x4 x5 x6 x7 x8 x9 x10 x11 x12 x13 x14 x15 x16 x17 x18 x19 x20 x21 x22 x23 x24 x25 x26 x27 x28 x29 x30 x31 x32 x33 x34 x35 x36 x37 x38 x39 x40 x41 x42 x43 x44 x45 x46 x47 x48 x49 x50 x51 x52 x53 x54 x55 x56 x57 x58 x59 x60 x61 x62 x63 x64 x65 x66 x67 x68 x69 x70 x71 x72 x73 r80 0
 else
 some (r79, 0)
 else
 if (cop .eql x0 16) = true then
 (g21 r78 x4).bind fun (r79 : LL) =>
 if (cop .eql x0 2) = true then
 (g21 r79 (List.length x41 : Int)).bind fun (r80 : LL) =>
 g8L0 FUEL x0 x1 x2 x3 x4 x5 x6 x7 x8 x9 x10 x11 x12 x13 x14 x15 x16 x17 x18 x19 x20 x21 x22 x23 x24 x25 x26 x27 x28 x29 x30 x31 x32 x33 x34 x35 x36 x37 x38 x39 x40 x41 x42 x43 x44 x45 x46 x47 x48 x49 x50 x51 x52 x53 x54 x55 x56 x57 x58 x59 x60 x61 x62 x63 x64 x65 x66 x67 x68 x69 x70 x71 x72 x73 r80 0
 else
 if (cop .eql x0 4) = true then
 (g21 r79 (List.length x41 : Int)).bind fun (r80 : LL) =>
 g8L0 FUEL x0 x1 x2 x3 x4 x5 x6 x7 x8 x9 x10 x11 x12 x13 x14 x15 x16 x17 x18 x19 x20 x21 x22 x23 x24 x25 x26 x27 x28 x29 x30 x31 x32 x33 x34 x35 x36 x37 x38 x39 x40 x41 x42 x43 x44 x45 x46 x47 x48 x49 x50 x51 x52 x53 x54 x55 x56 x57 x58 x59 x60 x61 x62 x63 x64 x65 x66 x67 x68 x69 x70 x71 x72 x73 r80 0
 else
 some (r79, 0)
 else
 if (cop .eql x0 17) = true then
 (g26 r78 x42).bind fun (r79 : LL) =>
 (g21 r79 (List.length x43 : Int)).bind fun (r80 : LL) =>
 g8L1 FUEL x0 x1 x2 x3 x4 x5 x6 x7 x8 x9 x10 x11 x12 x13 x14 x15 x16 x17 x18 x19 x20 x21 x22 x23 x24 x25 x26 x27 x28 x29 x30 x31 x32 x33 x34 x35 x36 x37 x38 x39 x40 x41 x42 x43 x44 x45 x46 x47 x48 x49 x50 x51 x52 x53 x54 x55 x56 x57 x58 x59 x60 x61 x62 x63 x64 x65 x66 x67 x68 x69 x70 x71 x72 x73 r80 0
 else
 (g21 r78 x5).bind fun (r79 : LL) =>
 (g24 r79 x7 x8 x9).bind fun (r80 : LL) =>
 if (cop .eql x0 2) = true then
 (g21 r80 (List.length x41 : Int)).bind fun (r81 : LL) =>
 g8L0 FUEL x0 x1 x2 x3 x4 x5 x6 x7 x8 x9 x10 x11 x12 x13 x14 x15 x16 x17 x18 x19 x20 x21 x22 x23 x24 x25 x26 x27 x28 x29 x30 x31 x32 x33 x34 x35 x36 x37 x38 x39 x40 x41 x42 x43 x44 x45 x46 x47 x48 x49 x50 x51 x52 x53 x54 x55 x56 x57 x58 x59 x60 x61 x62 x63 x64 x65 x66 x67 x68 x69 x70 x71 x72 x73 r81 0
 else
 if (cop .eql x0 4) = true then
 (g21 r80 (List.length x41 : Int)).bind fun (r81 : LL) =>
 g8L0 FUEL x0 x1 x2 x3 x4 x5 x6 x7 x8 x9 x10 x11 x12 x13 x14 x15 x16 x17 x18 x19 x20 x21 x22 x23 x24 x25 x26 x27 x28 x29 x30 x31 x32 x33 x34 x35 x36 x37 x38 x39 x40 x41 x42 x43 x44 x45 x46 x47 x48 x49 x50 x51 x52 x53 x54 x55 x56 x57 x58 x59 x60 x61 x62 x63 x64 x65 x66 x67 x68 x69 x70 x71 x72 x73 r81 0
 else
 some (r80, 0)) := by kernel_rfl

/- multikernel/multikernellaw18.small -/
noncomputable def F5 : Fn := ⟨95, [2], [(6, [(1, .box hs0), (4, .c (.int .i64))])], [], 0, Tryz.f5, [.agg hs0], [.c (.bool)], [(11, F11.S)]⟩
theorem ok5 : F5.S.Ok Tryz.prog 5 := F5.ok Tryz.func5 (by kernel_rfl) ⟨ok11, trivial⟩
noncomputable def g5 (x0 x1 x2 x3 x4 x5 x6 x7 x8 x9 x10 : Int) (x11 : Bool) (x12 x13 x14 x15 x16 x17 x18 x19 x20 x21 x22 x23 x24 x25 x26 x27 x28 x29 x30 x31 : Int) (x32 : LL) (x33 x34 x35 x36 x37 x38 : Int) (x39 : Bool) (x40 x41 x42 x43 : LL) (x44 x45 : Int) (x46 x47 x48 x49 x50 x51 x52 x53 : LL) (x54 x55 : Int) (x56 x57 x58 x59 x60 x61 x62 x63 : LL) (x64 : Bool) (x65 : Int) (x66 x67 x68 x69 x70 x71 x72 x73 : LL) : Option (Bool) := F5.S.g [.i x0, .i x1, .i x2, .i x3, .i x4, .i x5, .i x6, .i x7, .i x8, .i x9, .i x10, .b x11, .i x12, .i x13, .i x14, .i x15, .i x16, .i x17, .i x18, .i x19, .i x20, .i x21, .i x22, .i x23, .i x24, .i x25, .i x26, .i x27, .i x28, .i x29, .i x30, .i x31, .l x32, .i x33, .i x34, .i x35, .i x36, .i x37, .i x38, .b x39, .l x40, .l x41, .l x42, .l x43, .i x44, .i x45, .l x46, .l x47, .l x48, .l x49, .l x50, .l x51, .l x52, .l x53, .i x54, .i x55, .l x56, .l x57, .l x58, .l x59, .l x60, .l x61, .l x62, .l x63, .b x64, .i x65, .l x66, .l x67, .l x68, .l x69, .l x70, .l x71, .l x72, .l x73]
noncomputable def g5L0 (k : Nat) (x0 x1 x2 x3 x4 x5 x6 x7 x8 x9 x10 : Int) (x11 : Bool) (x12 x13 x14 x15 x16 x17 x18 x19 x20 x21 x22 x23 x24 x25 x26 x27 x28 x29 x30 x31 : Int) (x32 : LL) (x33 x34 x35 x36 x37 x38 : Int) (x39 : Bool) (x40 x41 x42 x43 : LL) (x44 x45 : Int) (x46 x47 x48 x49 x50 x51 x52 x53 : LL) (x54 x55 : Int) (x56 x57 x58 x59 x60 x61 x62 x63 : LL) (x64 : Bool) (x65 : Int) (x66 x67 x68 x69 x70 x71 x72 x73 : LL) (x74 : Int) : Option (Bool) := F5.lp [1, 1, 0] 0 r0 k [.i x0, .i x1, .i x2, .i x3, .i x4, .i x5, .i x6, .i x7, .i x8, .i x9, .i x10, .b x11, .i x12, .i x13, .i x14, .i x15, .i x16, .i x17, .i x18, .i x19, .i x20, .i x21, .i x22, .i x23, .i x24, .i x25, .i x26, .i x27, .i x28, .i x29, .i x30, .i x31, .l x32, .i x33, .i x34, .i x35, .i x36, .i x37, .i x38, .b x39, .l x40, .l x41, .l x42, .l x43, .i x44, .i x45, .l x46, .l x47, .l x48, .l x49, .l x50, .l x51, .l x52, .l x53, .i x54, .i x55, .l x56, .l x57, .l x58, .l x59, .l x60, .l x61, .l x62, .l x63, .b x64, .i x65, .l x66, .l x67, .l x68, .l x69, .l x70, .l x71, .l x72, .l x73, .i x74]
theorem g5L0_eq (k : Nat) (x0 x1 x2 x3 x4 x5 x6 x7 x8 x9 x10 : Int) (x11 : Bool) (x12 x13 x14 x15 x16 x17 x18 x19 x20 x21 x22 x23 x24 x25 x26 x27 x28 x29 x30 x31 : Int) (x32 : LL) (x33 x34 x35 x36 x37 x38 : Int) (x39 : Bool) (x40 x41 x42 x43 : LL) (x44 x45 : Int) (x46 x47 x48 x49 x50 x51 x52 x53 : LL) (x54 x55 : Int) (x56 x57 x58 x59 x60 x61 x62 x63 : LL) (x64 : Bool) (x65 : Int) (x66 x67 x68 x69 x70 x71 x72 x73 : LL) (x74 : Int) : g5L0 (k + 1) x0 x1 x2 x3 x4 x5 x6 x7 x8 x9 x10 x11 x12 x13 x14 x15 x16 x17 x18 x19 x20 x21 x22 x23 x24 x25 x26 x27 x28 x29 x30 x31 x32 x33 x34 x35 x36 x37 x38 x39 x40 x41 x42 x43 x44 x45 x46 x47 x48 x49 x50 x51 x52 x53 x54 x55 x56 x57 x58 x59 x60 x61 x62 x63 x64 x65 x66 x67 x68 x69 x70 x71 x72 x73 x74 =
 (if (cop .lss x74 (List.length x41 : Int)) = true then
 elemK x41 x74 hs10 fun (r75 : Qt15) =>
 if (cop .gtr (List.length r75.2.2.2.1 : Int) 30) = true then
 some (false)
 else
 g5L0 k x0 x1 x2 x3 x4 x5 x6 x7 x8 x9 x10 x11 x12 x13 x14 x15 x16 x17 x18 x19 x20 x21 x22 x23 x24 x25 x26 x27 x28 x29 x30 x31 x32 x33 x34 x35 x36 x37 x38 x39 x40 x41 x42 x43 x44 x45 x46 x47 x48 x49 x50 x51 x52 x53 x54 x55 x56 x57 x58 x59 x60 x61 x62 x63 x64 x65 x66 x67 x68 x69 x70 x71 x72 x73 (iop .add .i64 x74 1)
 else
 (g11 x48 x49 x50 x51 x52 x53).bind fun (r75 : Bool) =>
 if r75 = true then
 (g11 x58 x59 x60 x61 x62 x63).bind fun (r76 : Bool) =>
 if r76 = true then
 (g11 x68 x69 x70 x71 x72 x73).bind fun (r77 : Bool) =>
 some (r77)
 else
 some (false)
 else
 some (false)) := by kernel_rfl
theorem g5_eq (x0 x1 x2 x3 x4 x5 x6 x7 x8 x9 x10 : Int) (x11 : Bool) (x12 x13 x14 x15 x16 x17 x18 x19 x20 x21 x22 x23 x24 x25 x26 x27 x28 x29 x30 x31 : Int) (x32 : LL) (x33 x34 x35 x36 x37 x38 : Int) (x39 : Bool) (x40 x41 x42 x43 : LL) (x44 x45 : Int) (x46 x47 x48 x49 x50 x51 x52 x53 : LL) (x54 x55 : Int) (x56 x57 x58 x59 x60 x61 x62 x63 : LL) (x64 : Bool) (x65 : Int) (x66 x67 x68 x69 x70 x71 x72 x73 : LL) : g5 x0 x1 x2 x3 x4 x5 x6 x7 x8 x9 x10 x11 x12 x13 x14 x15 x16 x17 x18 x19 x20 x21 x22 x23 x24 x25 x26 x27 x28 x29 x30 x31 x32 x33 x34 x35 x36 x37 x38 x39 x40 x41 x42 x43 x44 x45 x46 x47 x48 x49 x50 x51 x52 x53 x54 x55 x56 x57 x58 x59 x60 x61 x62 x63 x64 x65 x66 x67 x68 x69 x70 x71 x72 x73 =
 (if (cop .gtr (iop .add .i64 (iop .add .i64 (iop .add .i64 (iop .add .i64 (iop .add .i64 (iop .add .i64 (iop .add .i64 (iop .add .i64 (iop .add .i64 (List.length x40 : Int) (List.length x41 : Int)) (List.length x42 : Int)) (List.length x43 : Int)) (List.length x46 : Int)) (List.length x47 : Int)) (List.length x56 : Int)) (List.length x57 : Int)) (List.length x66 : Int)) (List.length x67 : Int)) 300) = true then
 some (false)
 else
 if (cop .gtr (List.length x32 : Int) 30) = true then
 some (false)
 else
 g5L0 FUEL x0 x1 x2 x3 x4 x5 x6 x7 x8 x9 x10 x11 x12 x13 x14 x15 x16 x17 x18 x19 x20 x21 x22 x23 x24 x25 x26 x27 x28 x29 x30 x31 x32 x33 x34 x35 x36 x37 x38 x39 x40 x41 x42 x43 x44 x45 x46 x47 x48 x49 x50 x51 x52 x53 x54 x55 x56 x57 x58 x59 x60 x61 x62 x63 x64 x65 x66 x67 x68 x69 x70 x71 x72 x73 0) := by kernel_rfl

end Go.Proofs.YtceopohbfkamiaaGreat
