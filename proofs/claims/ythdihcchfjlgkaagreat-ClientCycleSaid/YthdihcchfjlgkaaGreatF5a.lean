/- Functions of the program, as what they compute. -/
import Derived.Test.YthdihcchfjlgkaaGreatGT5
namespace Go.Proofs.YthdihcchfjlgkaaGreat
open Go Go.AM
set_option linter.unusedVariables false
set_option maxRecDepth 100000
noncomputable def F75 : Fn := ⟨44, [2, 3], [], [], 0, [], [], Tryz.f75, [.c (.int .i64)], [.c (.own false 136), .c (.bool)], []⟩
theorem ok75 : F75.S.Ok Tryz.prog 75 := F75.ok Tryz.func75 (by kernel_rfl) trivial
noncomputable def g75 (x0 : Int) : Option (LL × Bool) := F75.S.g [.i x0]
theorem g75_eq (x0 : Int) : g75 x0 =
 (if (cop .eql x0 1) = true then
 some (((([] : LL) ++ [[AV.val (.int .i64 0)]]) ++ [[AV.val (.int .i64 1)]]), true)
 else
 if (cop .eql x0 2) = true then
 some ((((((([] : LL) ++ [[AV.val (.int .i64 0)]]) ++ [[AV.val (.int .i64 2)]]) ++ [[AV.val (.int .i64 3)]]) ++ [[AV.val (.int .i64 4)]]) ++ [[AV.val (.int .i64 5)]]), true)
 else
 if (cop .eql x0 3) = true then
 some (((([] : LL) ++ [[AV.val (.int .i64 0)]]) ++ [[AV.val (.int .i64 2)]]), true)
 else
 if (cop .eql x0 7) = true then
 some (((([] : LL) ++ [[AV.val (.int .i64 0)]]) ++ [[AV.val (.int .i64 2)]]), true)
 else
 if (cop .eql x0 8) = true then
 some (((([] : LL) ++ [[AV.val (.int .i64 0)]]) ++ [[AV.val (.int .i64 2)]]), true)
 else
 if (cop .eql x0 9) = true then
 some (((([] : LL) ++ [[AV.val (.int .i64 0)]]) ++ [[AV.val (.int .i64 2)]]), true)
 else
 if (cop .eql x0 10) = true then
 some (((([] : LL) ++ [[AV.val (.int .i64 0)]]) ++ [[AV.val (.int .i64 2)]]), true)
 else
 if (cop .eql x0 11) = true then
 some (((([] : LL) ++ [[AV.val (.int .i64 0)]]) ++ [[AV.val (.int .i64 2)]]), true)
 else
 if (cop .eql x0 4) = true then
 some (((((([] : LL) ++ [[AV.val (.int .i64 0)]]) ++ [[AV.val (.int .i64 2)]]) ++ [[AV.val (.int .i64 6)]]) ++ [[AV.val (.int .i64 5)]]), true)
 else
 if (cop .eql x0 5) = true then
 some ((((([] : LL) ++ [[AV.val (.int .i64 0)]]) ++ [[AV.val (.int .i64 2)]]) ++ [[AV.val (.int .i64 3)]]), true)
 else
 if (cop .eql x0 6) = true then
 some ((((([] : LL) ++ [[AV.val (.int .i64 0)]]) ++ [[AV.val (.int .i64 2)]]) ++ [[AV.val (.int .i64 7)]]), true)
 else
 if (cop .eql x0 12) = true then
 some (((([] : LL) ++ [[AV.val (.int .i64 8)]]) ++ [[AV.val (.int .i64 9)]]), true)
 else
 if (cop .eql x0 13) = true then
 some (((([] : LL) ++ [[AV.val (.int .i64 8)]]) ++ [[AV.val (.int .i64 10)]]), true)
 else
 if (cop .eql x0 14) = true then
 some ((((((([] : LL) ++ [[AV.val (.int .i64 8)]]) ++ [[AV.val (.int .i64 11)]]) ++ [[AV.val (.int .i64 9)]]) ++ [[AV.val (.int .i64 12)]]) ++ [[AV.val (.int .i64 13)]]), true)
 else
 if (cop .eql x0 15) = true then
 some ((([] : LL) ++ [[AV.val (.int .i64 8)]]), true)
 else
 if (cop .eql x0 16) = true then
 some ((([] : LL) ++ [[AV.val (.int .i64 8)]]), true)
 else
 if (cop .eql x0 17) = true then
 some (((([] : LL) ++ [[AV.val (.int .i64 9)]]) ++ [[AV.val (.int .i64 14)]]), true)
 else
 some (([] : LL), false)) := by kernel_rfl
noncomputable def F76 : Fn := ⟨9, [2], [], [], 0, [], [], Tryz.f76, [.c (.int .i64)], [.c (.bool)], []⟩
theorem ok76 : F76.S.Ok Tryz.prog 76 := F76.ok Tryz.func76 (by kernel_rfl) trivial
noncomputable def g76 (x0 : Int) : Option (Bool) := F76.S.g [.i x0]
theorem g76_eq (x0 : Int) : g76 x0 =
 (if (cop .geq x0 0) = true then
 some ((cop .leq x0 1073741824))
 else
 some (false)) := by kernel_rfl
noncomputable def F77 : Fn := ⟨9, [2], [], [], 0, [], [], Tryz.f77, [.c (.int .i64)], [.c (.bool)], []⟩
theorem ok77 : F77.S.Ok Tryz.prog 77 := F77.ok Tryz.func77 (by kernel_rfl) trivial
noncomputable def g77 (x0 : Int) : Option (Bool) := F77.S.g [.i x0]
theorem g77_eq (x0 : Int) : g77 x0 =
 (if (cop .geq x0 0) = true then
 some ((cop .lss x0 32))
 else
 some (false)) := by kernel_rfl
noncomputable def F119 : Fn := ⟨9, [2], [], [], 0, [], [], Tryz.f119, [.c (.int .i64)], [.c (.bool)], []⟩
theorem ok119 : F119.S.Ok Tryz.prog 119 := F119.ok Tryz.func119 (by kernel_rfl) trivial
noncomputable def g119 (x0 : Int) : Option (Bool) := F119.S.g [.i x0]
theorem g119_eq (x0 : Int) : g119 x0 =
 (if (cop .geq x0 0) = true then
 some ((cop .lss x0 16))
 else
 some (false)) := by kernel_rfl
noncomputable def F129 : Fn := ⟨31, [2], [], [], 0, [], [], Tryz.f129, [.agg [.int .i64, .int .i64, .int .i64]], [.c (.bool)], []⟩
theorem ok129 : F129.S.Ok Tryz.prog 129 := F129.ok Tryz.func129 (by kernel_rfl) trivial
noncomputable def g129 (x0 x1 x2 : Int) : Option (Bool) := F129.S.g [.i x0, .i x1, .i x2]
theorem g129_eq (x0 x1 x2 : Int) : g129 x0 x1 x2 =
 (if (cop .geq x0 0) = true then
 if (cop .lss x0 32) = true then
 if (cop .geq x1 1) = true then
 if (cop .leq x1 1073741824) = true then
 if (cop .geq x2 0) = true then
 some ((cop .lss x2 8))
 else
 some (false)
 else
 some (false)
 else
 some (false)
 else
 some (false)
 else
 some (false)) := by kernel_rfl
noncomputable def F121 : Fn := ⟨10, [2], [], [], 0, [], [], Tryz.f121, [.agg [.int .i64, .int .i64, .int .i64]], [.c (.bool)], [(129, F129.S)]⟩
theorem ok121 : F121.S.Ok Tryz.prog 121 := F121.ok Tryz.func121 (by kernel_rfl) ⟨ok129, trivial⟩
noncomputable def g121 (x0 x1 x2 : Int) : Option (Bool) := F121.S.g [.i x0, .i x1, .i x2]
theorem g121_eq (x0 x1 x2 : Int) : g121 x0 x1 x2 =
 ((g129 x0 x1 x2).bind fun (r3 : Bool) =>
 if r3 = true then
 some ((cop .eql x2 0))
 else
 some (false)) := by kernel_rfl
noncomputable def F170 : Fn := ⟨26, [4], [(4, [(0, .c (.slice 3)), (1, .c (.slice 3)), (12, .c (.int .i64)), (13, .c (.int .i64))])], [], 0, [], [], Tryz.f170, [.c (.slice 3), .c (.slice 3)], [.c (.bool)], []⟩
theorem ok170 : F170.S.Ok Tryz.prog 170 := F170.ok Tryz.func170 (by kernel_rfl) trivial
noncomputable def g170 (x0 x1 : LL) : Option (Bool) := F170.S.g [.l x0, .l x1]
noncomputable def g170L0 (k : Nat) (x0 x1 : LL) (x2 x3 : Int) : Option (Bool) := F170.lp [1, 0] 0 r0 k [.l x0, .l x1, .i x2, .i x3]
theorem g170L0_eq (k : Nat) (x0 x1 : LL) (x2 x3 : Int) : g170L0 (k + 1) x0 x1 x2 x3 =
 (if (cop .lss x3 x2) = true then
 elemK x0 x3 [.int .i64, .int .i64, .int .i64] fun (r4 : Int × Int × Int) =>
 elemK x1 x3 [.int .i64, .int .i64, .int .i64] fun (r7 : Int × Int × Int) =>
 if (!((cop .eql r4.1 r7.1) && ((cop .eql r4.2.1 r7.2.1) && ((cop .eql r4.2.2 r7.2.2) && true)))) = true then
 some (false)
 else
 g170L0 k x0 x1 x2 (iop .add .i64 x3 1)
 else
 some (true)) := by kernel_rfl
theorem g170_eq (x0 x1 : LL) : g170 x0 x1 =
 (if (cop .neq (List.length x0 : Int) (List.length x1 : Int)) = true then
 some (false)
 else
 g170L0 FUEL x0 x1 (List.length x0 : Int) 0) := by kernel_rfl
noncomputable def F156 : Fn := ⟨24, [4], [], [], 0, [], [], Tryz.f156, [.agg hs10, .agg hs10], [.c (.bool)], [(170, F170.S)]⟩
theorem ok156 : F156.S.Ok Tryz.prog 156 := F156.ok Tryz.func156 (by kernel_rfl) ⟨ok170, trivial⟩
noncomputable def g156 (x0 x1 x2 : Int) (x3 : LL) (x4 x5 x6 x7 x8 x9 : Int) (x10 : Bool) (x11 x12 x13 : Int) (x14 : LL) (x15 x16 x17 x18 x19 x20 : Int) (x21 : Bool) : Option (Bool) := F156.S.g [.i x0, .i x1, .i x2, .l x3, .i x4, .i x5, .i x6, .i x7, .i x8, .i x9, .b x10, .i x11, .i x12, .i x13, .l x14, .i x15, .i x16, .i x17, .i x18, .i x19, .i x20, .b x21]
theorem g156_eq (x0 x1 x2 : Int) (x3 : LL) (x4 x5 x6 x7 x8 x9 : Int) (x10 : Bool) (x11 x12 x13 : Int) (x14 : LL) (x15 x16 x17 x18 x19 x20 : Int) (x21 : Bool) : g156 x0 x1 x2 x3 x4 x5 x6 x7 x8 x9 x10 x11 x12 x13 x14 x15 x16 x17 x18 x19 x20 x21 =
 (if ((cop .eql x0 x11) && ((cop .eql x1 x12) && ((cop .eql x2 x13) && true))) = true then
 if ((cop .eql x4 x15) && ((cop .eql x5 x16) && ((cop .eql x6 x17) && ((cop .eql x7 x18) && ((cop .eql x8 x19) && ((cop .eql x9 x20) && ((x10 == x21) && true))))))) = true then
 (g170 x3 x14).bind fun (r22 : Bool) =>
 some (r22)
 else
 some (false)
 else
 some (false)) := by kernel_rfl
noncomputable def F171 : Fn := ⟨38, [4], [], [], 0, [], [], Tryz.f171, [.c (.int .i64), .c (.int .i64)], [.c (.bool)], []⟩
theorem ok171 : F171.S.Ok Tryz.prog 171 := F171.ok Tryz.func171 (by kernel_rfl) trivial
noncomputable def g171 (x0 x1 : Int) : Option (Bool) := F171.S.g [.i x0, .i x1]
theorem g171_eq (x0 x1 : Int) : g171 x0 x1 =
 (if (cop .eql x0 1) = true then
 if (cop .geq x1 6) = true then
 some ((cop .leq x1 40))
 else
 some (false)
 else
 if (cop .eql x0 2) = true then
 if (cop .geq x1 12) = true then
 some ((cop .leq x1 40))
 else
 some (false)
 else
 if (cop .eql x0 3) = true then
 some ((cop .eql x1 12))
 else
 if (cop .eql x0 4) = true then
 some ((cop .eql x1 6))
 else
 if (cop .eql x0 5) = true then
 some ((cop .eql x1 10))
 else
 if (cop .eql x0 6) = true then
 some ((cop .eql x1 16))
 else
 some (false)) := by kernel_rfl
noncomputable def F173 : Fn := ⟨8, [2], [], [], 0, [], [], Tryz.f173, [.agg hs16], [.agg [.int .i64, .int .i64]], []⟩
theorem ok173 : F173.S.Ok Tryz.prog 173 := F173.ok Tryz.func173 (by kernel_rfl) trivial
noncomputable def g173 (x0 x1 x2 x3 x4 x5 : Int) (x6 : Bool) : Option (Int × Int) := F173.S.g [.i x0, .i x1, .i x2, .i x3, .i x4, .i x5, .b x6]
theorem g173_eq (x0 x1 x2 x3 x4 x5 : Int) (x6 : Bool) : g173 x0 x1 x2 x3 x4 x5 x6 =
 (some (x1, x2)) := by kernel_rfl
noncomputable def F172 : Fn := ⟨32, [2], [], [], 0, [], [], Tryz.f172, [.agg [.int .i64, .int .i64]], [.c (.bool)], []⟩
theorem ok172 : F172.S.Ok Tryz.prog 172 := F172.ok Tryz.func172 (by kernel_rfl) trivial
noncomputable def g172 (x0 x1 : Int) : Option (Bool) := F172.S.g [.i x0, .i x1]
theorem g172_eq (x0 x1 : Int) : g172 x0 x1 =
 (if (cop .lss x1 6) = true then
 some (false)
 else
 if (cop .gtr x1 40) = true then
 some (false)
 else
 if (cop .lss x0 0) = true then
 some (false)
 else
 reqK ((0 : Int) ≤ x1) <|
 reqK (((iop .shl .i64 1 x1) : Int) ≠ 0) <|
 if (cop .eql (iop .rem .i64 x0 (iop .shl .i64 1 x1)) 0) = true then
 some ((cop .leq x0 (iop .sub .i64 1099511627776 (iop .shl .i64 1 x1))))
 else
 some (false)) := by kernel_rfl
noncomputable def F174 : Fn := ⟨22, [4], [], [], 0, [], [], Tryz.f174, [.c (.int .i64), .c (.int .i64)], [.c (.bool)], []⟩
theorem ok174 : F174.S.Ok Tryz.prog 174 := F174.ok Tryz.func174 (by kernel_rfl) trivial
noncomputable def g174 (x0 x1 : Int) : Option (Bool) := F174.S.g [.i x0, .i x1]
theorem g174_eq (x0 x1 : Int) : g174 x0 x1 =
 (if (cop .eql x0 32) = true then
 if (cop .geq x1 0) = true then
 some ((cop .leq x1 1))
 else
 some (false)
 else
 if (cop .eql x0 39) = true then
 if (cop .geq x1 0) = true then
 some ((cop .leq x1 2))
 else
 some (false)
 else
 some (false)) := by kernel_rfl
noncomputable def F158 : Fn := ⟨55, [2], [], [], 0, [], [], Tryz.f158, [.agg hs16], [.c (.bool)], [(171, F171.S), (173, F173.S), (172, F172.S), (174, F174.S)]⟩
theorem ok158 : F158.S.Ok Tryz.prog 158 := F158.ok Tryz.func158 (by kernel_rfl) ⟨ok171, ⟨ok173, ⟨ok172, ⟨ok174, trivial⟩⟩⟩⟩
noncomputable def g158 (x0 x1 x2 x3 x4 x5 : Int) (x6 : Bool) : Option (Bool) := F158.S.g [.i x0, .i x1, .i x2, .i x3, .i x4, .i x5, .b x6]
theorem g158_eq (x0 x1 x2 x3 x4 x5 : Int) (x6 : Bool) : g158 x0 x1 x2 x3 x4 x5 x6 =
 ((g171 x0 x2).bind fun (r7 : Bool) =>
 if (!r7) = true then
 some (false)
 else
 (g173 x0 x1 x2 x3 x4 x5 x6).bind fun (r8 : Int × Int) =>
 (g172 r8.1 r8.2).bind fun (r10 : Bool) =>
 if (!r10) = true then
 some (false)
 else
 if (cop .lss x3 0) = true then
 some (false)
 else
 if (cop .gtr x3 7) = true then
 some (false)
 else
 if (cop .eql x0 3) = true then
 (g174 x4 x5).bind fun (r11 : Bool) =>
 if (!r11) = true then
 some (false)
 else
 if (!x6) = true then
 some (true)
 else
 if (cop .eql x0 1) = true then
 some (true)
 else
 some ((cop .eql x0 2))
 else
 if (cop .neq x4 0) = true then
 some (false)
 else
 if (cop .neq x5 0) = true then
 some (false)
 else
 if (!x6) = true then
 some (true)
 else
 if (cop .eql x0 1) = true then
 some (true)
 else
 some ((cop .eql x0 2))) := by kernel_rfl
noncomputable def F175 : Fn := ⟨19, [4], [(2, [(0, .c (.slice 3)), (3, .box [.int .i64, .int .i64, .int .i64]), (7, .c (.int .i64)), (8, .c (.int .i64))])], [], 0, [], [], Tryz.f175, [.c (.slice 3), .agg [.int .i64, .int .i64, .int .i64]], [.c (.int .i64)], []⟩
theorem ok175 : F175.S.Ok Tryz.prog 175 := F175.ok Tryz.func175 (by kernel_rfl) trivial
noncomputable def g175 (x0 : LL) (x1 x2 x3 : Int) : Option (Int) := F175.S.g [.l x0, .i x1, .i x2, .i x3]
noncomputable def g175L0 (k : Nat) (x0 : LL) (x1 x2 x3 x4 x5 : Int) : Option (Int) := F175.lp [0] 0 r0 k [.l x0, .i x1, .i x2, .i x3, .i x4, .i x5]
theorem g175L0_eq (k : Nat) (x0 : LL) (x1 x2 x3 x4 x5 : Int) : g175L0 (k + 1) x0 x1 x2 x3 x4 x5 =
 (if (cop .lss x5 x4) = true then
 elemK x0 x5 [.int .i64, .int .i64, .int .i64] fun (r6 : Int × Int × Int) =>
 if ((cop .eql x1 r6.1) && ((cop .eql x2 r6.2.1) && ((cop .eql x3 r6.2.2) && true))) = true then
 some (x5)
 else
 g175L0 k x0 x1 x2 x3 x4 (iop .add .i64 x5 1)
 else
 some ((-1))) := by kernel_rfl
theorem g175_eq (x0 : LL) (x1 x2 x3 : Int) : g175 x0 x1 x2 x3 =
 (g175L0 FUEL x0 x1 x2 x3 (List.length x0 : Int) 0) := by kernel_rfl
noncomputable def F159 : Fn := ⟨9, [4], [], [], 0, [], [], Tryz.f159, [.c (.slice 3), .agg [.int .i64, .int .i64, .int .i64]], [.c (.bool)], [(175, F175.S)]⟩
theorem ok159 : F159.S.Ok Tryz.prog 159 := F159.ok Tryz.func159 (by kernel_rfl) ⟨ok175, trivial⟩
noncomputable def g159 (x0 : LL) (x1 x2 x3 : Int) : Option (Bool) := F159.S.g [.l x0, .i x1, .i x2, .i x3]
theorem g159_eq (x0 : LL) (x1 x2 x3 : Int) : g159 x0 x1 x2 x3 =
 ((g175 x0 x1 x2 x3).bind fun (r4 : Int) =>
 some ((cop .geq r4 0))) := by kernel_rfl
noncomputable def F125 : Fn := ⟨47, [2], [(4, [(1, .box hs10), (22, .c (.slice 3)), (23, .c (.int .i64)), (24, .c (.int .i64))])], [], 0, [], [], Tryz.f125, [.agg hs10], [.c (.bool)], [(129, F129.S), (158, F158.S), (159, F159.S)]⟩
theorem ok125 : F125.S.Ok Tryz.prog 125 := F125.ok Tryz.func125 (by kernel_rfl) ⟨ok129, ⟨ok158, ⟨ok159, trivial⟩⟩⟩
noncomputable def g125 (x0 x1 x2 : Int) (x3 : LL) (x4 x5 x6 x7 x8 x9 : Int) (x10 : Bool) : Option (Bool) := F125.S.g [.i x0, .i x1, .i x2, .l x3, .i x4, .i x5, .i x6, .i x7, .i x8, .i x9, .b x10]
noncomputable def g125L0 (k : Nat) (x0 x1 x2 : Int) (x3 : LL) (x4 x5 x6 x7 x8 x9 : Int) (x10 : Bool) (x11 : LL) (x12 x13 : Int) : Option (Bool) := F125.lp [0, 1, 0, 1, 1, 0] 0 r0 k [.i x0, .i x1, .i x2, .l x3, .i x4, .i x5, .i x6, .i x7, .i x8, .i x9, .b x10, .l x11, .i x12, .i x13]
theorem g125L0_eq (k : Nat) (x0 x1 x2 : Int) (x3 : LL) (x4 x5 x6 x7 x8 x9 : Int) (x10 : Bool) (x11 : LL) (x12 x13 : Int) : g125L0 (k + 1) x0 x1 x2 x3 x4 x5 x6 x7 x8 x9 x10 x11 x12 x13 =
 (if (cop .lss x13 x12) = true then
 elemK x11 x13 [.int .i64, .int .i64, .int .i64] fun (r14 : Int × Int × Int) =>
 (g129 r14.1 r14.2.1 r14.2.2).bind fun (r17 : Bool) =>
 if (!r17) = true then
 some (false)
 else
 if ((cop .eql r14.1 x0) && ((cop .eql r14.2.1 x1) && ((cop .eql r14.2.2 x2) && true))) = true then
 some (false)
 else
 reqK ((0 : Int) ≤ x13) <|
 reqK ((x13 : Int) ≤ (List.length x3 : Int)) <|
 (g159 (List.take (Int.toNat x13) x3) r14.1 r14.2.1 r14.2.2).bind fun (r18 : Bool) =>
 if r18 = true then
 some (false)
 else
 g125L0 k x0 x1 x2 x3 x4 x5 x6 x7 x8 x9 x10 x11 x12 (iop .add .i64 x13 1)
 else
 some (true)) := by kernel_rfl
theorem g125_eq (x0 x1 x2 : Int) (x3 : LL) (x4 x5 x6 x7 x8 x9 : Int) (x10 : Bool) : g125 x0 x1 x2 x3 x4 x5 x6 x7 x8 x9 x10 =
 ((g129 x0 x1 x2).bind fun (r11 : Bool) =>
 if (!r11) = true then
 some (false)
 else
 (g158 x4 x5 x6 x7 x8 x9 x10).bind fun (r12 : Bool) =>
 if (!r12) = true then
 some (false)
 else
 if (cop .gtr (List.length x3 : Int) 8) = true then
 some (false)
 else
 g125L0 FUEL x0 x1 x2 x3 x4 x5 x6 x7 x8 x9 x10 x3 (List.length x3 : Int) 0) := by kernel_rfl
noncomputable def F120 : Fn := ⟨46, [2], [], [], 0, [], [], Tryz.f120, [.agg hs3], [.c (.bool)], [(121, F121.S), (119, F119.S), (156, F156.S), (125, F125.S)]⟩
theorem ok120 : F120.S.Ok Tryz.prog 120 := F120.ok Tryz.func120 (by kernel_rfl) ⟨ok121, ⟨ok119, ⟨ok156, ⟨ok125, trivial⟩⟩⟩⟩
noncomputable def g120 (x0 x1 x2 x3 x4 x5 x6 x7 x8 x9 x10 x11 x12 x13 x14 x15 x16 x17 x18 x19 : Int) (x20 : LL) (x21 x22 x23 x24 x25 x26 : Int) (x27 : Bool) : Option (Bool) := F120.S.g [.i x0, .i x1, .i x2, .i x3, .i x4, .i x5, .i x6, .i x7, .i x8, .i x9, .i x10, .i x11, .i x12, .i x13, .i x14, .i x15, .i x16, .i x17, .i x18, .i x19, .l x20, .i x21, .i x22, .i x23, .i x24, .i x25, .i x26, .b x27]
theorem g120_eq (x0 x1 x2 x3 x4 x5 x6 x7 x8 x9 x10 x11 x12 x13 x14 x15 x16 x17 x18 x19 : Int) (x20 : LL) (x21 x22 x23 x24 x25 x26 : Int) (x27 : Bool) : g120 x0 x1 x2 x3 x4 x5 x6 x7 x8 x9 x10 x11 x12 x13 x14 x15 x16 x17 x18 x19 x20 x21 x22 x23 x24 x25 x26 x27 =
 ((g121 x0 x1 x2).bind fun (r28 : Bool) =>
 if (!r28) = true then
 some (false)
 else
 if (cop .lss x3 1) = true then
 some (false)
 else
 if (cop .gtr x3 6) = true then
 some (false)
 else
 (g119 x15).bind fun (r29 : Bool) =>
 if (!r29) = true then
 some (false)
 else
 if (cop .neq x16 32) = true then
 if (cop .neq x16 39) = true then
 some (false)
 else
 if (cop .eql x3 1) = true then
 (g156 x17 x18 x19 x20 x21 x22 x23 x24 x25 x26 x27 0 0 0 ([] : LL) 0 0 0 0 0 0 false).bind fun (r30 : Bool) =>
 some (r30)
 else
 (g125 x17 x18 x19 x20 x21 x22 x23 x24 x25 x26 x27).bind fun (r30 : Bool) =>
 some (r30)
 else
 if (cop .eql x3 1) = true then
 (g156 x17 x18 x19 x20 x21 x22 x23 x24 x25 x26 x27 0 0 0 ([] : LL) 0 0 0 0 0 0 false).bind fun (r30 : Bool) =>
 some (r30)
 else
 (g125 x17 x18 x19 x20 x21 x22 x23 x24 x25 x26 x27).bind fun (r30 : Bool) =>
 some (r30)) := by kernel_rfl
noncomputable def F122 : Fn := ⟨9, [2], [], [], 0, [], [], Tryz.f122, [.c (.int .i64)], [.c (.bool)], []⟩
theorem ok122 : F122.S.Ok Tryz.prog 122 := F122.ok Tryz.func122 (by kernel_rfl) trivial
noncomputable def g122 (x0 : Int) : Option (Bool) := F122.S.g [.i x0]
theorem g122_eq (x0 : Int) : g122 x0 =
 (if (cop .geq x0 0) = true then
 some ((cop .leq x0 99))
 else
 some (false)) := by kernel_rfl
noncomputable def F126 : Fn := ⟨9, [2], [], [], 0, [], [], Tryz.f126, [.c (.int .i64)], [.c (.bool)], []⟩
theorem ok126 : F126.S.Ok Tryz.prog 126 := F126.ok Tryz.func126 (by kernel_rfl) trivial
noncomputable def g126 (x0 : Int) : Option (Bool) := F126.S.g [.i x0]
theorem g126_eq (x0 : Int) : g126 x0 =
 (if (cop .geq x0 0) = true then
 some ((cop .lss x0 64))
 else
 some (false)) := by kernel_rfl
noncomputable def F115 : Fn := ⟨19, [4], [(2, [(0, .c (.slice 1)), (1, .c (.int .i64)), (7, .c (.int .i64)), (8, .c (.int .i64))])], [], 0, [], [], Tryz.f115, [.c (.slice 1), .c (.int .i64)], [.c (.int .i64)], []⟩
theorem ok115 : F115.S.Ok Tryz.prog 115 := F115.ok Tryz.func115 (by kernel_rfl) trivial
noncomputable def g115 (x0 : LL) (x1 : Int) : Option (Int) := F115.S.g [.l x0, .i x1]
noncomputable def g115L0 (k : Nat) (x0 : LL) (x1 x2 x3 : Int) : Option (Int) := F115.lp [0] 0 r0 k [.l x0, .i x1, .i x2, .i x3]
theorem g115L0_eq (k : Nat) (x0 : LL) (x1 x2 x3 : Int) : g115L0 (k + 1) x0 x1 x2 x3 =
 (if (cop .lss x3 x2) = true then
 elemK x0 x3 [.int .i64] fun (r4 : Int) =>
 if (cop .eql x1 r4) = true then
 some (x3)
 else
 g115L0 k x0 x1 x2 (iop .add .i64 x3 1)
 else
 some ((-1))) := by kernel_rfl
theorem g115_eq (x0 : LL) (x1 : Int) : g115 x0 x1 =
 (g115L0 FUEL x0 x1 (List.length x0 : Int) 0) := by kernel_rfl
noncomputable def F67 : Fn := ⟨9, [4], [], [], 0, [], [], Tryz.f67, [.c (.slice 1), .c (.int .i64)], [.c (.bool)], [(115, F115.S)]⟩
theorem ok67 : F67.S.Ok Tryz.prog 67 := F67.ok Tryz.func67 (by kernel_rfl) ⟨ok115, trivial⟩
noncomputable def g67 (x0 : LL) (x1 : Int) : Option (Bool) := F67.S.g [.l x0, .i x1]
theorem g67_eq (x0 : LL) (x1 : Int) : g67 x0 x1 =
 ((g115 x0 x1).bind fun (r2 : Int) =>
 some ((cop .geq r2 0))) := by kernel_rfl
noncomputable def F162 : Fn := ⟨6, [2], [], [], 0, [], [], Tryz.f162, [.c (.int .i64)], [.c (.bool)], [(77, F77.S)]⟩
theorem ok162 : F162.S.Ok Tryz.prog 162 := F162.ok Tryz.func162 (by kernel_rfl) ⟨ok77, trivial⟩
noncomputable def g162 (x0 : Int) : Option (Bool) := F162.S.g [.i x0]
theorem g162_eq (x0 : Int) : g162 x0 =
 ((g77 x0).bind fun (r1 : Bool) =>
 some ((!r1))) := by kernel_rfl
noncomputable def F161c162 : Fn := ⟨19, [4], [(2, [(0, .c (.slice 1)), (1, .clo 162 []), (7, .c (.int .i64)), (8, .c (.int .i64))])], [], 0, [], [], Tryz.f161, [.c (.slice 1), .clo 162 []], [.c (.int .i64)], [(162, F162.S)]⟩
theorem ok161c162 : F161c162.S.Ok Tryz.prog 161 := F161c162.ok Tryz.func161 (by kernel_rfl) ⟨ok162, trivial⟩
noncomputable def g161c162 (x0 : LL) : Option (Int) := F161c162.S.g [.l x0]
noncomputable def g161c162L0 (k : Nat) (x0 : LL) (x1 x2 : Int) : Option (Int) := F161c162.lp [0] 0 r0 k [.l x0, .i x1, .i x2]
theorem g161c162L0_eq (k : Nat) (x0 : LL) (x1 x2 : Int) : g161c162L0 (k + 1) x0 x1 x2 =
 (if (cop .lss x2 x1) = true then
 elemK x0 x2 [.int .i64] fun (r3 : Int) =>
 (g162 r3).bind fun (r4 : Bool) =>
 if r4 = true then
 some (x2)
 else
 g161c162L0 k x0 x1 (iop .add .i64 x2 1)
 else
 some ((-1))) := by kernel_rfl
theorem g161c162_eq (x0 : LL) : g161c162 x0 =
 (g161c162L0 FUEL x0 (List.length x0 : Int) 0) := by kernel_rfl
noncomputable def F130c162 : Fn := ⟨9, [4], [], [], 0, [], [], Tryz.f130, [.c (.slice 1), .clo 162 []], [.c (.bool)], [(161, F161c162.S)]⟩
theorem ok130c162 : F130c162.S.Ok Tryz.prog 130 := F130c162.ok Tryz.func130 (by kernel_rfl) ⟨ok161c162, trivial⟩
noncomputable def g130c162 (x0 : LL) : Option (Bool) := F130c162.S.g [.l x0]
theorem g130c162_eq (x0 : LL) : g130c162 x0 =
 ((g161c162 x0).bind fun (r1 : Int) =>
 some ((cop .geq r1 0))) := by kernel_rfl
noncomputable def F135 : Fn := ⟨45, [2], [(4, [(1, .box [.int .i64, .slice 1, .slice 1]), (22, .c (.slice 1)), (23, .c (.int .i64)), (24, .c (.int .i64))])], [], 0, [], [], Tryz.f135, [.agg [.int .i64, .slice 1, .slice 1]], [.c (.bool)], [(76, F76.S), (77, F77.S), (67, F67.S), (130, F130c162.S)]⟩
theorem ok135 : F135.S.Ok Tryz.prog 135 := F135.ok Tryz.func135 (by kernel_rfl) ⟨ok76, ⟨ok77, ⟨ok67, ⟨ok130c162, trivial⟩⟩⟩⟩
noncomputable def g135 (x0 : Int) (x1 x2 : LL) : Option (Bool) := F135.S.g [.i x0, .l x1, .l x2]
noncomputable def g135L0 (k : Nat) (x0 : Int) (x1 x2 x3 : LL) (x4 x5 : Int) : Option (Bool) := F135.lp [0, 1, 1, 1, 0] 0 r0 k [.i x0, .l x1, .l x2, .l x3, .i x4, .i x5]
theorem g135L0_eq (k : Nat) (x0 : Int) (x1 x2 x3 : LL) (x4 x5 : Int) : g135L0 (k + 1) x0 x1 x2 x3 x4 x5 =
 (if (cop .lss x5 x4) = true then
 elemK x3 x5 [.int .i64] fun (r6 : Int) =>
 (g77 r6).bind fun (r7 : Bool) =>
 if (!r7) = true then
 some (false)
 else
 reqK ((0 : Int) ≤ x5) <|
 reqK ((x5 : Int) ≤ (List.length x1 : Int)) <|
 (g67 (List.take (Int.toNat x5) x1) r6).bind fun (r8 : Bool) =>
 if r8 = true then
 some (false)
 else
 g135L0 k x0 x1 x2 x3 x4 (iop .add .i64 x5 1)
 else
 (g130c162 x2).bind fun (r6 : Bool) =>
 some ((!r6))) := by kernel_rfl
theorem g135_eq (x0 : Int) (x1 x2 : LL) : g135 x0 x1 x2 =
 ((g76 x0).bind fun (r3 : Bool) =>
 if (!r3) = true then
 some (false)
 else
 if (cop .gtr (List.length x1 : Int) 32) = true then
 some (false)
 else
 if (cop .gtr (List.length x2 : Int) 16) = true then
 some (false)
 else
 g135L0 FUEL x0 x1 x2 x1 (List.length x1 : Int) 0) := by kernel_rfl
noncomputable def F144 : Fn := ⟨8, [2], [], [], 0, [], [], Tryz.f144, [.agg hs8], [.c (.bool)], []⟩
theorem ok144 : F144.S.Ok Tryz.prog 144 := F144.ok Tryz.func144 (by kernel_rfl) trivial
noncomputable def g144 (x0 x1 x2 : Int) (x3 : LL) (x4 x5 x6 x7 x8 x9 : Int) (x10 : Bool) (x11 x12 x13 x14 : Int) : Option (Bool) := F144.S.g [.i x0, .i x1, .i x2, .l x3, .i x4, .i x5, .i x6, .i x7, .i x8, .i x9, .b x10, .i x11, .i x12, .i x13, .i x14]
theorem g144_eq (x0 x1 x2 : Int) (x3 : LL) (x4 x5 x6 x7 x8 x9 : Int) (x10 : Bool) (x11 x12 x13 x14 : Int) : g144 x0 x1 x2 x3 x4 x5 x6 x7 x8 x9 x10 x11 x12 x13 x14 =
 (some (((cop .eql x0 0) && ((cop .eql x1 0) && ((cop .eql x2 0) && true))))) := by kernel_rfl
noncomputable def F176 : Fn := ⟨43, [2], [], [], 0, [], [], Tryz.f176, [.agg hs8], [.c (.bool)], [(144, F144.S), (156, F156.S), (125, F125.S), (129, F129.S)]⟩
theorem ok176 : F176.S.Ok Tryz.prog 176 := F176.ok Tryz.func176 (by kernel_rfl) ⟨ok144, ⟨ok156, ⟨ok125, ⟨ok129, trivial⟩⟩⟩⟩
noncomputable def g176 (x0 x1 x2 : Int) (x3 : LL) (x4 x5 x6 x7 x8 x9 : Int) (x10 : Bool) (x11 x12 x13 x14 : Int) : Option (Bool) := F176.S.g [.i x0, .i x1, .i x2, .l x3, .i x4, .i x5, .i x6, .i x7, .i x8, .i x9, .b x10, .i x11, .i x12, .i x13, .i x14]
theorem g176_eq (x0 x1 x2 : Int) (x3 : LL) (x4 x5 x6 x7 x8 x9 : Int) (x10 : Bool) (x11 x12 x13 x14 : Int) : g176 x0 x1 x2 x3 x4 x5 x6 x7 x8 x9 x10 x11 x12 x13 x14 =
 (if (cop .lss x11 0) = true then
 some (false)
 else
 if (cop .gtr x11 1073741824) = true then
 some (false)
 else
 (g144 x0 x1 x2 x3 x4 x5 x6 x7 x8 x9 x10 x11 x12 x13 x14).bind fun (r15 : Bool) =>
 if r15 = true then
 (g156 x0 x1 x2 x3 x4 x5 x6 x7 x8 x9 x10 0 0 0 ([] : LL) 0 0 0 0 0 0 false).bind fun (r16 : Bool) =>
 if r16 = true then
 some (((cop .eql x12 0) && ((cop .eql x13 0) && ((cop .eql x14 0) && true))))
 else
 some (false)
 else
 (g125 x0 x1 x2 x3 x4 x5 x6 x7 x8 x9 x10).bind fun (r16 : Bool) =>
 if r16 = true then
 if ((cop .eql x12 0) && ((cop .eql x13 0) && ((cop .eql x14 0) && true))) = true then
 some (true)
 else
 (g129 x12 x13 x14).bind fun (r17 : Bool) =>
 if r17 = true then
 some ((cop .eql x14 0))
 else
 some (false)
 else
 some (false)) := by kernel_rfl
noncomputable def F143 : Fn := ⟨27, [4, 5], [(2, [(3, .box [.int .i64, .int .i64, .int .i64]), (8, .c (.slice 15)), (9, .c (.int .i64)), (10, .c (.int .i64))])], [], 0, [], [], Tryz.f143, [.c (.slice 15), .agg [.int .i64, .int .i64, .int .i64]], [.c (.int .i64), .c (.bool)], [(144, F144.S)]⟩
theorem ok143 : F143.S.Ok Tryz.prog 143 := F143.ok Tryz.func143 (by kernel_rfl) ⟨ok144, trivial⟩
noncomputable def g143 (x0 : LL) (x1 x2 x3 : Int) : Option (Int × Bool) := F143.S.g [.l x0, .i x1, .i x2, .i x3]
noncomputable def g143L0 (k : Nat) (x0 x1 x2 : Int) (x3 : LL) (x4 x5 : Int) : Option (Int × Bool) := F143.lp [0] 0 r0 k [.i x0, .i x1, .i x2, .l x3, .i x4, .i x5]
theorem g143L0_eq (k : Nat) (x0 x1 x2 : Int) (x3 : LL) (x4 x5 : Int) : g143L0 (k + 1) x0 x1 x2 x3 x4 x5 =
 (if (cop .lss x5 x4) = true then
 elemK x3 x5 hs8 fun (r6 : Qt13) =>
 (g144 r6.1 r6.2.1 r6.2.2.1 r6.2.2.2.1 r6.2.2.2.2.1 r6.2.2.2.2.2.1 r6.2.2.2.2.2.2.1 r6.2.2.2.2.2.2.2.1 r6.2.2.2.2.2.2.2.2.1 r6.2.2.2.2.2.2.2.2.2.1 r6.2.2.2.2.2.2.2.2.2.2.1 r6.2.2.2.2.2.2.2.2.2.2.2.1 (d4 (d8 r6)).1 (d4 (d8 r6)).2.1 (d2 (d4 (d8 r6)))).bind fun (r21 : Bool) =>
 if (!r21) = true then
 if ((cop .eql r6.1 x0) && ((cop .eql r6.2.1 x1) && ((cop .eql r6.2.2.1 x2) && true))) = true then
 some (x5, true)
 else
 g143L0 k x0 x1 x2 x3 x4 (iop .add .i64 x5 1)
 else
 g143L0 k x0 x1 x2 x3 x4 (iop .add .i64 x5 1)
 else
 some (0, false)) := by kernel_rfl
theorem g143_eq (x0 : LL) (x1 x2 x3 : Int) : g143 x0 x1 x2 x3 =
 (g143L0 FUEL x1 x2 x3 x0 (List.length x0 : Int) 0) := by kernel_rfl
noncomputable def F163 : Fn := ⟨32, [2], [(4, [(0, .c (.slice 15)), (10, .c (.slice 15)), (11, .c (.int .i64)), (12, .c (.int .i64))])], [], 0, [], [], Tryz.f163, [.c (.slice 15)], [.c (.bool)], [(176, F176.S), (143, F143.S)]⟩
theorem ok163 : F163.S.Ok Tryz.prog 163 := F163.ok Tryz.func163 (by kernel_rfl) ⟨ok176, ⟨ok143, trivial⟩⟩
noncomputable def g163 (x0 : LL) : Option (Bool) := F163.S.g [.l x0]
noncomputable def g163L0 (k : Nat) (x0 x1 : LL) (x2 x3 : Int) : Option (Bool) := F163.lp [1, 0] 0 r0 k [.l x0, .l x1, .i x2, .i x3]
theorem g163L0_eq (k : Nat) (x0 x1 : LL) (x2 x3 : Int) : g163L0 (k + 1) x0 x1 x2 x3 =
 (if (cop .lss x3 x2) = true then
 elemK x1 x3 hs8 fun (r4 : Qt13) =>
 (g176 r4.1 r4.2.1 r4.2.2.1 r4.2.2.2.1 r4.2.2.2.2.1 r4.2.2.2.2.2.1 r4.2.2.2.2.2.2.1 r4.2.2.2.2.2.2.2.1 r4.2.2.2.2.2.2.2.2.1 r4.2.2.2.2.2.2.2.2.2.1 r4.2.2.2.2.2.2.2.2.2.2.1 r4.2.2.2.2.2.2.2.2.2.2.2.1 (d4 (d8 r4)).1 (d4 (d8 r4)).2.1 (d2 (d4 (d8 r4)))).bind fun (r19 : Bool) =>
 if (!r19) = true then
 some (false)
 else
 reqK ((0 : Int) ≤ x3) <|
 reqK ((x3 : Int) ≤ (List.length x0 : Int)) <|
 (g143 (List.take (Int.toNat x3) x0) r4.1 r4.2.1 r4.2.2.1).bind fun (r20 : Int × Bool) =>
 if r20.2 = true then
 some (false)
 else
 g163L0 k x0 x1 x2 (iop .add .i64 x3 1)
 else
 some (true)) := by kernel_rfl
theorem g163_eq (x0 : LL) : g163 x0 =
 (if (cop .gtr (List.length x0 : Int) 64) = true then
 some (false)
 else
 g163L0 FUEL x0 x0 (List.length x0 : Int) 0) := by kernel_rfl
noncomputable def F178 : Fn := ⟨6, [2], [], [], 0, [], [], Tryz.f178, [.agg hs3], [.c (.bool)], [(120, F120.S)]⟩
theorem ok178 : F178.S.Ok Tryz.prog 178 := F178.ok Tryz.func178 (by kernel_rfl) ⟨ok120, trivial⟩
noncomputable def g178 (x0 x1 x2 x3 x4 x5 x6 x7 x8 x9 x10 x11 x12 x13 x14 x15 x16 x17 x18 x19 : Int) (x20 : LL) (x21 x22 x23 x24 x25 x26 : Int) (x27 : Bool) : Option (Bool) := F178.S.g [.i x0, .i x1, .i x2, .i x3, .i x4, .i x5, .i x6, .i x7, .i x8, .i x9, .i x10, .i x11, .i x12, .i x13, .i x14, .i x15, .i x16, .i x17, .i x18, .i x19, .l x20, .i x21, .i x22, .i x23, .i x24, .i x25, .i x26, .b x27]
theorem g178_eq (x0 x1 x2 x3 x4 x5 x6 x7 x8 x9 x10 x11 x12 x13 x14 x15 x16 x17 x18 x19 : Int) (x20 : LL) (x21 x22 x23 x24 x25 x26 : Int) (x27 : Bool) : g178 x0 x1 x2 x3 x4 x5 x6 x7 x8 x9 x10 x11 x12 x13 x14 x15 x16 x17 x18 x19 x20 x21 x22 x23 x24 x25 x26 x27 =
 ((g120 x0 x1 x2 x3 x4 x5 x6 x7 x8 x9 x10 x11 x12 x13 x14 x15 x16 x17 x18 x19 x20 x21 x22 x23 x24 x25 x26 x27).bind fun (r28 : Bool) =>
 some ((!r28))) := by kernel_rfl
noncomputable def F37c178 : Fn := ⟨19, [4], [(2, [(0, .c (.slice 28)), (1, .clo 178 []), (7, .c (.int .i64)), (8, .c (.int .i64))])], [], 0, [], [], Tryz.f37, [.c (.slice 28), .clo 178 []], [.c (.int .i64)], [(178, F178.S)]⟩
theorem ok37c178 : F37c178.S.Ok Tryz.prog 37 := F37c178.ok Tryz.func37 (by kernel_rfl) ⟨ok178, trivial⟩
noncomputable def g37c178 (x0 : LL) : Option (Int) := F37c178.S.g [.l x0]
noncomputable def g37c178L0 (k : Nat) (x0 : LL) (x1 x2 : Int) : Option (Int) := F37c178.lp [0] 0 r0 k [.l x0, .i x1, .i x2]
theorem g37c178L0_eq (k : Nat) (x0 : LL) (x1 x2 : Int) : g37c178L0 (k + 1) x0 x1 x2 =
 (if (cop .lss x2 x1) = true then
 elemK x0 x2 hs3 fun (r3 : Qt7) =>
 (g178 r3.1 r3.2.1 r3.2.2.1 r3.2.2.2.1 r3.2.2.2.2.1 r3.2.2.2.2.2.1 r3.2.2.2.2.2.2.1 r3.2.2.2.2.2.2.2.1 r3.2.2.2.2.2.2.2.2.1 r3.2.2.2.2.2.2.2.2.2.1 r3.2.2.2.2.2.2.2.2.2.2.1 r3.2.2.2.2.2.2.2.2.2.2.2.1 (d4 (d8 r3)).1 (d4 (d8 r3)).2.1 (d2 (d4 (d8 r3))).1 (d2 (d4 (d8 r3))).2.1 (d16 r3).1 (d16 r3).2.1 (d2 (d16 r3)).1 (d2 (d16 r3)).2.1 (d4 (d16 r3)).1 (d4 (d16 r3)).2.1 (d2 (d4 (d16 r3))).1 (d2 (d4 (d16 r3))).2.1 (d8 (d16 r3)).1 (d8 (d16 r3)).2.1 (d2 (d8 (d16 r3))).1 (d2 (d8 (d16 r3))).2).bind fun (r31 : Bool) =>
 if r31 = true then
 some (x2)
 else
 g37c178L0 k x0 x1 (iop .add .i64 x2 1)
 else
 some ((-1))) := by kernel_rfl
theorem g37c178_eq (x0 : LL) : g37c178 x0 =
 (g37c178L0 FUEL x0 (List.length x0 : Int) 0) := by kernel_rfl
noncomputable def F177c178 : Fn := ⟨9, [4], [], [], 0, [], [], Tryz.f177, [.c (.slice 28), .clo 178 []], [.c (.bool)], [(37, F37c178.S)]⟩
theorem ok177c178 : F177c178.S.Ok Tryz.prog 177 := F177c178.ok Tryz.func177 (by kernel_rfl) ⟨ok37c178, trivial⟩
noncomputable def g177c178 (x0 : LL) : Option (Bool) := F177c178.S.g [.l x0]
theorem g177c178_eq (x0 : LL) : g177c178 x0 =
 ((g37c178 x0).bind fun (r1 : Int) =>
 some ((cop .geq r1 0))) := by kernel_rfl
noncomputable def F154 : Fn := ⟨6, [2], [], [], 0, [], [], Tryz.f154, [.c (.int .i64)], [.c (.bool)], []⟩
theorem ok154 : F154.S.Ok Tryz.prog 154 := F154.ok Tryz.func154 (by kernel_rfl) trivial
noncomputable def g154 (x0 : Int) : Option (Bool) := F154.S.g [.i x0]
theorem g154_eq (x0 : Int) : g154 x0 =
 (some ((cop .neq x0 x0))) := by kernel_rfl
noncomputable def F117 : Fn := ⟨20, [4], [], [], 0, [], [], Tryz.f117, [.c (.int .i64), .c (.int .i64)], [.c (.int .i64)], [(154, F154.S)]⟩
theorem ok117 : F117.S.Ok Tryz.prog 117 := F117.ok Tryz.func117 (by kernel_rfl) ⟨ok154, trivial⟩
noncomputable def g117 (x0 x1 : Int) : Option (Int) := F117.S.g [.i x0, .i x1]
theorem g117_eq (x0 x1 : Int) : g117 x0 x1 =
 ((g154 x0).bind fun (r2 : Bool) =>
 (g154 x1).bind fun (r3 : Bool) =>
 if r2 = true then
 if r3 = true then
 some (0)
 else
 some ((-1))
 else
 if r3 = true then
 some (1)
 else
 if (cop .lss x0 x1) = true then
 some ((-1))
 else
 if (cop .gtr x0 x1) = true then
 some (1)
 else
 some (0)) := by kernel_rfl
noncomputable def F116 : Fn := ⟨18, [2], [(3, [(3, .c (.int .i64)), (6, .c (.slice 1)), (7, .c (.int .i64)), (8, .c (.int .i64))])], [], 0, [], [], Tryz.f116, [.c (.slice 1)], [.c (.int .i64)], []⟩
theorem ok116 : F116.S.Ok Tryz.prog 116 := F116.ok Tryz.func116 (by kernel_rfl) trivial
noncomputable def g116 (x0 : LL) : Option (Int) := F116.S.g [.l x0]
noncomputable def g116L0 (k : Nat) (x0 : Int) (x1 : LL) (x2 x3 : Int) : Option (Int) := F116.lp [0] 0 r0 k [.i x0, .l x1, .i x2, .i x3]
theorem g116L0_eq (k : Nat) (x0 : Int) (x1 : LL) (x2 x3 : Int) : g116L0 (k + 1) x0 x1 x2 x3 =
 (if (cop .lss x3 x2) = true then
 elemK x1 x3 [.int .i64] fun (r4 : Int) =>
 if (cop .neq r4 x0) = true then
 some (r4)
 else
 g116L0 k x0 x1 x2 (iop .add .i64 x3 1)
 else
 some (x0)) := by kernel_rfl
theorem g116_eq (x0 : LL) : g116 x0 =
 (g116L0 FUEL 0 x0 (List.length x0 : Int) 0) := by kernel_rfl
noncomputable def F69 : Fn := ⟨22, [4], [], [], 0, [], [], Tryz.f69, [.agg [.int .i64, .int .i64, .int .i64], .agg [.int .i64, .int .i64, .int .i64]], [.c (.int .i64)], [(117, F117.S), (116, F116.S)]⟩
theorem ok69 : F69.S.Ok Tryz.prog 69 := F69.ok Tryz.func69 (by kernel_rfl) ⟨ok117, ⟨ok116, trivial⟩⟩
noncomputable def g69 (x0 x1 x2 x3 x4 x5 : Int) : Option (Int) := F69.S.g [.i x0, .i x1, .i x2, .i x3, .i x4, .i x5]
theorem g69_eq (x0 x1 x2 x3 x4 x5 : Int) : g69 x0 x1 x2 x3 x4 x5 =
 ((g117 x0 x3).bind fun (r6 : Int) =>
 (g117 x1 x4).bind fun (r7 : Int) =>
 (g117 x2 x5).bind fun (r8 : Int) =>
 (g116 (((([] : LL) ++ [[AV.val (.int .i64 r6)]]) ++ [[AV.val (.int .i64 r7)]]) ++ [[AV.val (.int .i64 r8)]])).bind fun (r9 : Int) =>
 some (r9)) := by kernel_rfl
noncomputable def F39 : Fn := ⟨9, [4], [], [], 0, [], [], Tryz.f39, [.agg [.int .i64, .int .i64, .int .i64], .agg [.int .i64, .int .i64, .int .i64]], [.c (.bool)], [(69, F69.S)]⟩
theorem ok39 : F39.S.Ok Tryz.prog 39 := F39.ok Tryz.func39 (by kernel_rfl) ⟨ok69, trivial⟩
noncomputable def g39 (x0 x1 x2 x3 x4 x5 : Int) : Option (Bool) := F39.S.g [.i x0, .i x1, .i x2, .i x3, .i x4, .i x5]
theorem g39_eq (x0 x1 x2 x3 x4 x5 : Int) : g39 x0 x1 x2 x3 x4 x5 =
 ((g69 x0 x1 x2 x3 x4 x5).bind fun (r6 : Int) =>
 some ((cop .lss r6 0))) := by kernel_rfl
noncomputable def F179 : Fn := ⟨17, [5], [], [2], 0, [], [], Tryz.f179, [.c (.int .i64), .c (.int .i64), .box [.slice 28]], [.c (.bool)], [(39, F39.S)]⟩
theorem ok179 : F179.S.Ok Tryz.prog 179 := F179.ok Tryz.func179 (by kernel_rfl) ⟨ok39, trivial⟩
noncomputable def g179 (x0 x1 : Int) (x2 : LL) : Option (Bool × LL) := F179.S.g [.i x0, .i x1, .l x2]
theorem g179_eq (x0 x1 : Int) (x2 : LL) : g179 x0 x1 x2 =
 (elemK x2 x0 hs3 fun (r3 : Qt7) =>
 elemK x2 x1 hs3 fun (r31 : Qt7) =>
 (g39 r3.1 r3.2.1 r3.2.2.1 r31.1 r31.2.1 r31.2.2.1).bind fun (r59 : Bool) =>
 some (r59, x2)) := by kernel_rfl
noncomputable def F132c179 : Fn := ⟨17, [4], [(2, [(0, .c (.int .i64)), (1, .clo 179 [17]), (5, .c (.int .i64)), (17, .gbox [.slice 28])])], [], 1, [], [], Tryz.f132, [.c (.int .i64), .clo 179 [17], .dead, .dead, .dead, .dead, .dead, .dead, .dead, .dead, .dead, .dead, .dead, .dead, .dead, .dead, .dead, .gbox [.slice 28]], [.c (.bool)], [(179, F179.S)]⟩
theorem ok132c179 : F132c179.S.Ok Tryz.prog 132 := F132c179.ok Tryz.func132 (by kernel_rfl) ⟨ok179, trivial⟩
noncomputable def g132c179 (x0 : Int) (x1 : LL) : Option (Bool × LL) := F132c179.S.g [.i x0, .l x1]
noncomputable def g132c179L0 (k : Nat) (x0 x1 : Int) (x2 : LL) : Option (Bool × LL) := F132c179.lp [0] 0 r0 k [.i x0, .i x1, .l x2]
theorem g132c179L0_eq (k : Nat) (x0 x1 : Int) (x2 : LL) : g132c179L0 (k + 1) x0 x1 x2 =
 (if (cop .lss x1 x0) = true then
 (g179 (iop .sub .i64 x1 1) x1 x2).bind fun (r3 : Bool × LL) =>
 if (!r3.1) = true then
 some (false, r3.2)
 else
 g132c179L0 k x0 (iop .add .i64 x1 1) r3.2
 else
 some (true, x2)) := by kernel_rfl
theorem g132c179_eq (x0 : Int) (x1 : LL) : g132c179 x0 x1 =
 (g132c179L0 FUEL x0 1 x1) := by kernel_rfl
noncomputable def F164 : Fn := ⟨12, [2], [], [], 0, [], [], Tryz.f164, [.c (.slice 28)], [.c (.bool)], [(177, F177c178.S), (132, F132c179.S)]⟩
theorem ok164 : F164.S.Ok Tryz.prog 164 := F164.ok Tryz.func164 (by kernel_rfl) ⟨ok177c178, ⟨ok132c179, trivial⟩⟩
noncomputable def g164 (x0 : LL) : Option (Bool) := F164.S.g [.l x0]
theorem g164_eq (x0 : LL) : g164 x0 =
 ((g177c178 x0).bind fun (r1 : Bool) =>
 if (!r1) = true then
 (g132c179 (List.length x0 : Int) x0).bind fun (r2 : Bool × LL) =>
 some (r2.1)
 else
 some (false)) := by kernel_rfl
noncomputable def F181 : Fn := ⟨13, [2], [], [], 0, [], [], Tryz.f181, [.agg [.int .i64, .int .i64, .int .i64, .int .i64]], [.c (.bool)], [(119, F119.S), (121, F121.S)]⟩
theorem ok181 : F181.S.Ok Tryz.prog 181 := F181.ok Tryz.func181 (by kernel_rfl) ⟨ok119, ⟨ok121, trivial⟩⟩
noncomputable def g181 (x0 x1 x2 x3 : Int) : Option (Bool) := F181.S.g [.i x0, .i x1, .i x2, .i x3]
theorem g181_eq (x0 x1 x2 x3 : Int) : g181 x0 x1 x2 x3 =
 ((g119 x0).bind fun (r4 : Bool) =>
 if (!r4) = true then
 some (true)
 else
 (g121 x1 x2 x3).bind fun (r5 : Bool) =>
 some ((!r5))) := by kernel_rfl
noncomputable def F189c181 : Fn := ⟨19, [4], [(2, [(0, .c (.slice 4)), (1, .clo 181 []), (7, .c (.int .i64)), (8, .c (.int .i64))])], [], 0, [], [], Tryz.f189, [.c (.slice 4), .clo 181 []], [.c (.int .i64)], [(181, F181.S)]⟩
theorem ok189c181 : F189c181.S.Ok Tryz.prog 189 := F189c181.ok Tryz.func189 (by kernel_rfl) ⟨ok181, trivial⟩
noncomputable def g189c181 (x0 : LL) : Option (Int) := F189c181.S.g [.l x0]
noncomputable def g189c181L0 (k : Nat) (x0 : LL) (x1 x2 : Int) : Option (Int) := F189c181.lp [0] 0 r0 k [.l x0, .i x1, .i x2]
theorem g189c181L0_eq (k : Nat) (x0 : LL) (x1 x2 : Int) : g189c181L0 (k + 1) x0 x1 x2 =
 (if (cop .lss x2 x1) = true then
 elemK x0 x2 [.int .i64, .int .i64, .int .i64, .int .i64] fun (r3 : Int × Int × Int × Int) =>
 (g181 r3.1 r3.2.1 r3.2.2.1 r3.2.2.2).bind fun (r7 : Bool) =>
 if r7 = true then
 some (x2)
 else
 g189c181L0 k x0 x1 (iop .add .i64 x2 1)
 else
 some ((-1))) := by kernel_rfl
theorem g189c181_eq (x0 : LL) : g189c181 x0 =
 (g189c181L0 FUEL x0 (List.length x0 : Int) 0) := by kernel_rfl
noncomputable def F180c181 : Fn := ⟨9, [4], [], [], 0, [], [], Tryz.f180, [.c (.slice 4), .clo 181 []], [.c (.bool)], [(189, F189c181.S)]⟩
theorem ok180c181 : F180c181.S.Ok Tryz.prog 180 := F180c181.ok Tryz.func180 (by kernel_rfl) ⟨ok189c181, trivial⟩
noncomputable def g180c181 (x0 : LL) : Option (Bool) := F180c181.S.g [.l x0]
theorem g180c181_eq (x0 : LL) : g180c181 x0 =
 ((g189c181 x0).bind fun (r1 : Int) =>
 some ((cop .geq r1 0))) := by kernel_rfl
noncomputable def F182 : Fn := ⟨17, [5], [], [2], 0, [], [], Tryz.f182, [.c (.int .i64), .c (.int .i64), .box [.slice 4]], [.c (.bool)], []⟩
theorem ok182 : F182.S.Ok Tryz.prog 182 := F182.ok Tryz.func182 (by kernel_rfl) trivial
noncomputable def g182 (x0 x1 : Int) (x2 : LL) : Option (Bool × LL) := F182.S.g [.i x0, .i x1, .l x2]
theorem g182_eq (x0 x1 : Int) (x2 : LL) : g182 x0 x1 x2 =
 (elemK x2 x0 [.int .i64, .int .i64, .int .i64, .int .i64] fun (r3 : Int × Int × Int × Int) =>
 elemK x2 x1 [.int .i64, .int .i64, .int .i64, .int .i64] fun (r7 : Int × Int × Int × Int) =>
 some ((cop .lss r3.1 r7.1), x2)) := by kernel_rfl
noncomputable def F132c182 : Fn := ⟨17, [4], [(2, [(0, .c (.int .i64)), (1, .clo 182 [17]), (5, .c (.int .i64)), (17, .gbox [.slice 4])])], [], 1, [], [], Tryz.f132, [.c (.int .i64), .clo 182 [17], .dead, .dead, .dead, .dead, .dead, .dead, .dead, .dead, .dead, .dead, .dead, .dead, .dead, .dead, .dead, .gbox [.slice 4]], [.c (.bool)], [(182, F182.S)]⟩
theorem ok132c182 : F132c182.S.Ok Tryz.prog 132 := F132c182.ok Tryz.func132 (by kernel_rfl) ⟨ok182, trivial⟩
noncomputable def g132c182 (x0 : Int) (x1 : LL) : Option (Bool × LL) := F132c182.S.g [.i x0, .l x1]
noncomputable def g132c182L0 (k : Nat) (x0 x1 : Int) (x2 : LL) : Option (Bool × LL) := F132c182.lp [0] 0 r0 k [.i x0, .i x1, .l x2]
theorem g132c182L0_eq (k : Nat) (x0 x1 : Int) (x2 : LL) : g132c182L0 (k + 1) x0 x1 x2 =
 (if (cop .lss x1 x0) = true then
 (g182 (iop .sub .i64 x1 1) x1 x2).bind fun (r3 : Bool × LL) =>
 if (!r3.1) = true then
 some (false, r3.2)
 else
 g132c182L0 k x0 (iop .add .i64 x1 1) r3.2
 else
 some (true, x2)) := by kernel_rfl
theorem g132c182_eq (x0 : Int) (x1 : LL) : g132c182 x0 x1 =
 (g132c182L0 FUEL x0 1 x1) := by kernel_rfl
noncomputable def F165 : Fn := ⟨12, [2], [], [], 0, [], [], Tryz.f165, [.c (.slice 4)], [.c (.bool)], [(180, F180c181.S), (132, F132c182.S)]⟩
theorem ok165 : F165.S.Ok Tryz.prog 165 := F165.ok Tryz.func165 (by kernel_rfl) ⟨ok180c181, ⟨ok132c182, trivial⟩⟩
noncomputable def g165 (x0 : LL) : Option (Bool) := F165.S.g [.l x0]
theorem g165_eq (x0 : LL) : g165 x0 =
 ((g180c181 x0).bind fun (r1 : Bool) =>
 if (!r1) = true then
 (g132c182 (List.length x0 : Int) x0).bind fun (r2 : Bool × LL) =>
 some (r2.1)
 else
 some (false)) := by kernel_rfl
noncomputable def F184 : Fn := ⟨17, [2], [], [], 0, [], [], Tryz.f184, [.agg [.int .i64, .int .i64]], [.c (.bool)], [(122, F122.S)]⟩
theorem ok184 : F184.S.Ok Tryz.prog 184 := F184.ok Tryz.func184 (by kernel_rfl) ⟨ok122, trivial⟩
noncomputable def g184 (x0 x1 : Int) : Option (Bool) := F184.S.g [.i x0, .i x1]
theorem g184_eq (x0 x1 : Int) : g184 x0 x1 =
 (if (cop .lss x0 1) = true then
 some (true)
 else
 if (cop .gtr x0 1073741824) = true then
 some (true)
 else
 (g122 x1).bind fun (r2 : Bool) =>
 some ((!r2))) := by kernel_rfl
noncomputable def F190c184 : Fn := ⟨19, [4], [(2, [(0, .c (.slice 2)), (1, .clo 184 []), (7, .c (.int .i64)), (8, .c (.int .i64))])], [], 0, [], [], Tryz.f190, [.c (.slice 2), .clo 184 []], [.c (.int .i64)], [(184, F184.S)]⟩
theorem ok190c184 : F190c184.S.Ok Tryz.prog 190 := F190c184.ok Tryz.func190 (by kernel_rfl) ⟨ok184, trivial⟩
noncomputable def g190c184 (x0 : LL) : Option (Int) := F190c184.S.g [.l x0]
noncomputable def g190c184L0 (k : Nat) (x0 : LL) (x1 x2 : Int) : Option (Int) := F190c184.lp [0] 0 r0 k [.l x0, .i x1, .i x2]
theorem g190c184L0_eq (k : Nat) (x0 : LL) (x1 x2 : Int) : g190c184L0 (k + 1) x0 x1 x2 =
 (if (cop .lss x2 x1) = true then
 elemK x0 x2 [.int .i64, .int .i64] fun (r3 : Int × Int) =>
 (g184 r3.1 r3.2).bind fun (r5 : Bool) =>
 if r5 = true then
 some (x2)
 else
 g190c184L0 k x0 x1 (iop .add .i64 x2 1)
 else
 some ((-1))) := by kernel_rfl
theorem g190c184_eq (x0 : LL) : g190c184 x0 =
 (g190c184L0 FUEL x0 (List.length x0 : Int) 0) := by kernel_rfl
noncomputable def F183c184 : Fn := ⟨9, [4], [], [], 0, [], [], Tryz.f183, [.c (.slice 2), .clo 184 []], [.c (.bool)], [(190, F190c184.S)]⟩
theorem ok183c184 : F183c184.S.Ok Tryz.prog 183 := F183c184.ok Tryz.func183 (by kernel_rfl) ⟨ok190c184, trivial⟩
noncomputable def g183c184 (x0 : LL) : Option (Bool) := F183c184.S.g [.l x0]
theorem g183c184_eq (x0 : LL) : g183c184 x0 =
 ((g190c184 x0).bind fun (r1 : Int) =>
 some ((cop .geq r1 0))) := by kernel_rfl
noncomputable def F185 : Fn := ⟨17, [5], [], [2], 0, [], [], Tryz.f185, [.c (.int .i64), .c (.int .i64), .box [.slice 2]], [.c (.bool)], []⟩
theorem ok185 : F185.S.Ok Tryz.prog 185 := F185.ok Tryz.func185 (by kernel_rfl) trivial
noncomputable def g185 (x0 x1 : Int) (x2 : LL) : Option (Bool × LL) := F185.S.g [.i x0, .i x1, .l x2]
theorem g185_eq (x0 x1 : Int) (x2 : LL) : g185 x0 x1 x2 =
 (elemK x2 x0 [.int .i64, .int .i64] fun (r3 : Int × Int) =>
 elemK x2 x1 [.int .i64, .int .i64] fun (r5 : Int × Int) =>
 some ((cop .lss r3.1 r5.1), x2)) := by kernel_rfl
noncomputable def F132c185 : Fn := ⟨17, [4], [(2, [(0, .c (.int .i64)), (1, .clo 185 [17]), (5, .c (.int .i64)), (17, .gbox [.slice 2])])], [], 1, [], [], Tryz.f132, [.c (.int .i64), .clo 185 [17], .dead, .dead, .dead, .dead, .dead, .dead, .dead, .dead, .dead, .dead, .dead, .dead, .dead, .dead, .dead, .gbox [.slice 2]], [.c (.bool)], [(185, F185.S)]⟩
theorem ok132c185 : F132c185.S.Ok Tryz.prog 132 := F132c185.ok Tryz.func132 (by kernel_rfl) ⟨ok185, trivial⟩
noncomputable def g132c185 (x0 : Int) (x1 : LL) : Option (Bool × LL) := F132c185.S.g [.i x0, .l x1]
noncomputable def g132c185L0 (k : Nat) (x0 x1 : Int) (x2 : LL) : Option (Bool × LL) := F132c185.lp [0] 0 r0 k [.i x0, .i x1, .l x2]
theorem g132c185L0_eq (k : Nat) (x0 x1 : Int) (x2 : LL) : g132c185L0 (k + 1) x0 x1 x2 =
 (if (cop .lss x1 x0) = true then
 (g185 (iop .sub .i64 x1 1) x1 x2).bind fun (r3 : Bool × LL) =>
 if (!r3.1) = true then
 some (false, r3.2)
 else
 g132c185L0 k x0 (iop .add .i64 x1 1) r3.2
 else
 some (true, x2)) := by kernel_rfl
theorem g132c185_eq (x0 : Int) (x1 : LL) : g132c185 x0 x1 =
 (g132c185L0 FUEL x0 1 x1) := by kernel_rfl
noncomputable def F166 : Fn := ⟨12, [2], [], [], 0, [], [], Tryz.f166, [.c (.slice 2)], [.c (.bool)], [(183, F183c184.S), (132, F132c185.S)]⟩
theorem ok166 : F166.S.Ok Tryz.prog 166 := F166.ok Tryz.func166 (by kernel_rfl) ⟨ok183c184, ⟨ok132c185, trivial⟩⟩
noncomputable def g166 (x0 : LL) : Option (Bool) := F166.S.g [.l x0]
theorem g166_eq (x0 : LL) : g166 x0 =
 ((g183c184 x0).bind fun (r1 : Bool) =>
 if (!r1) = true then
 (g132c185 (List.length x0 : Int) x0).bind fun (r2 : Bool × LL) =>
 some (r2.1)
 else
 some (false)) := by kernel_rfl
noncomputable def F187 : Fn := ⟨19, [2], [], [], 0, [], [], Tryz.f187, [.agg hs9], [.c (.bool)], [(77, F77.S), (126, F126.S), (125, F125.S)]⟩
theorem ok187 : F187.S.Ok Tryz.prog 187 := F187.ok Tryz.func187 (by kernel_rfl) ⟨ok77, ⟨ok126, ⟨ok125, trivial⟩⟩⟩
noncomputable def g187 (x0 x1 x2 x3 x4 : Int) (x5 : LL) (x6 x7 x8 x9 x10 x11 : Int) (x12 : Bool) : Option (Bool) := F187.S.g [.i x0, .i x1, .i x2, .i x3, .i x4, .l x5, .i x6, .i x7, .i x8, .i x9, .i x10, .i x11, .b x12]
theorem g187_eq (x0 x1 x2 x3 x4 : Int) (x5 : LL) (x6 x7 x8 x9 x10 x11 : Int) (x12 : Bool) : g187 x0 x1 x2 x3 x4 x5 x6 x7 x8 x9 x10 x11 x12 =
 ((g77 x0).bind fun (r13 : Bool) =>
 if (!r13) = true then
 some (true)
 else
 (g126 x1).bind fun (r14 : Bool) =>
 if (!r14) = true then
 some (true)
 else
 (g125 x2 x3 x4 x5 x6 x7 x8 x9 x10 x11 x12).bind fun (r15 : Bool) =>
 some ((!r15))) := by kernel_rfl
noncomputable def F191c187 : Fn := ⟨19, [4], [(2, [(0, .c (.slice 13)), (1, .clo 187 []), (7, .c (.int .i64)), (8, .c (.int .i64))])], [], 0, [], [], Tryz.f191, [.c (.slice 13), .clo 187 []], [.c (.int .i64)], [(187, F187.S)]⟩
theorem ok191c187 : F191c187.S.Ok Tryz.prog 191 := F191c187.ok Tryz.func191 (by kernel_rfl) ⟨ok187, trivial⟩
noncomputable def g191c187 (x0 : LL) : Option (Int) := F191c187.S.g [.l x0]
noncomputable def g191c187L0 (k : Nat) (x0 : LL) (x1 x2 : Int) : Option (Int) := F191c187.lp [0] 0 r0 k [.l x0, .i x1, .i x2]
theorem g191c187L0_eq (k : Nat) (x0 : LL) (x1 x2 : Int) : g191c187L0 (k + 1) x0 x1 x2 =
 (if (cop .lss x2 x1) = true then
 elemK x0 x2 hs9 fun (r3 : Qt14) =>
 (g187 r3.1 r3.2.1 r3.2.2.1 r3.2.2.2.1 r3.2.2.2.2.1 r3.2.2.2.2.2.1 r3.2.2.2.2.2.2.1 r3.2.2.2.2.2.2.2.1 r3.2.2.2.2.2.2.2.2.1 r3.2.2.2.2.2.2.2.2.2.1 r3.2.2.2.2.2.2.2.2.2.2.1 r3.2.2.2.2.2.2.2.2.2.2.2.1 (d4 (d8 r3))).bind fun (r16 : Bool) =>
 if r16 = true then
 some (x2)
 else
 g191c187L0 k x0 x1 (iop .add .i64 x2 1)
 else
 some ((-1))) := by kernel_rfl
theorem g191c187_eq (x0 : LL) : g191c187 x0 =
 (g191c187L0 FUEL x0 (List.length x0 : Int) 0) := by kernel_rfl
noncomputable def F186c187 : Fn := ⟨9, [4], [], [], 0, [], [], Tryz.f186, [.c (.slice 13), .clo 187 []], [.c (.bool)], [(191, F191c187.S)]⟩
theorem ok186c187 : F186c187.S.Ok Tryz.prog 186 := F186c187.ok Tryz.func186 (by kernel_rfl) ⟨ok191c187, trivial⟩
noncomputable def g186c187 (x0 : LL) : Option (Bool) := F186c187.S.g [.l x0]
theorem g186c187_eq (x0 : LL) : g186c187 x0 =
 ((g191c187 x0).bind fun (r1 : Int) =>
 some ((cop .geq r1 0))) := by kernel_rfl
noncomputable def F188 : Fn := ⟨19, [5], [], [2], 0, [], [], Tryz.f188, [.c (.int .i64), .c (.int .i64), .box [.slice 13]], [.c (.bool)], [(39, F39.S)]⟩
theorem ok188 : F188.S.Ok Tryz.prog 188 := F188.ok Tryz.func188 (by kernel_rfl) ⟨ok39, trivial⟩
noncomputable def g188 (x0 x1 : Int) (x2 : LL) : Option (Bool × LL) := F188.S.g [.i x0, .i x1, .l x2]
theorem g188_eq (x0 x1 : Int) (x2 : LL) : g188 x0 x1 x2 =
 (elemK x2 x0 hs9 fun (r3 : Qt14) =>
 elemK x2 x1 hs9 fun (r16 : Qt14) =>
 (g39 r3.2.2.1 r3.2.2.2.1 r3.2.2.2.2.1 r16.2.2.1 r16.2.2.2.1 r16.2.2.2.2.1).bind fun (r29 : Bool) =>
 some (r29, x2)) := by kernel_rfl
noncomputable def F132c188 : Fn := ⟨17, [4], [(2, [(0, .c (.int .i64)), (1, .clo 188 [17]), (5, .c (.int .i64)), (17, .gbox [.slice 13])])], [], 1, [], [], Tryz.f132, [.c (.int .i64), .clo 188 [17], .dead, .dead, .dead, .dead, .dead, .dead, .dead, .dead, .dead, .dead, .dead, .dead, .dead, .dead, .dead, .gbox [.slice 13]], [.c (.bool)], [(188, F188.S)]⟩
theorem ok132c188 : F132c188.S.Ok Tryz.prog 132 := F132c188.ok Tryz.func132 (by kernel_rfl) ⟨ok188, trivial⟩
noncomputable def g132c188 (x0 : Int) (x1 : LL) : Option (Bool × LL) := F132c188.S.g [.i x0, .l x1]
noncomputable def g132c188L0 (k : Nat) (x0 x1 : Int) (x2 : LL) : Option (Bool × LL) := F132c188.lp [0] 0 r0 k [.i x0, .i x1, .l x2]
theorem g132c188L0_eq (k : Nat) (x0 x1 : Int) (x2 : LL) : g132c188L0 (k + 1) x0 x1 x2 =
 (if (cop .lss x1 x0) = true then
 (g188 (iop .sub .i64 x1 1) x1 x2).bind fun (r3 : Bool × LL) =>
 if (!r3.1) = true then
 some (false, r3.2)
 else
 g132c188L0 k x0 (iop .add .i64 x1 1) r3.2
 else
 some (true, x2)) := by kernel_rfl
theorem g132c188_eq (x0 : Int) (x1 : LL) : g132c188 x0 x1 =
 (g132c188L0 FUEL x0 1 x1) := by kernel_rfl
noncomputable def F167 : Fn := ⟨12, [2], [], [], 0, [], [], Tryz.f167, [.c (.slice 13)], [.c (.bool)], [(186, F186c187.S), (132, F132c188.S)]⟩
theorem ok167 : F167.S.Ok Tryz.prog 167 := F167.ok Tryz.func167 (by kernel_rfl) ⟨ok186c187, ⟨ok132c188, trivial⟩⟩
noncomputable def g167 (x0 : LL) : Option (Bool) := F167.S.g [.l x0]
theorem g167_eq (x0 : LL) : g167 x0 =
 ((g186c187 x0).bind fun (r1 : Bool) =>
 if (!r1) = true then
 (g132c188 (List.length x0 : Int) x0).bind fun (r2 : Bool × LL) =>
 some (r2.1)
 else
 some (false)) := by kernel_rfl
noncomputable def F168 : Fn := ⟨6, [2], [], [], 0, [], [], Tryz.f168, [.agg [.int .i64, .int .i64, .int .i64]], [.c (.bool)], [(121, F121.S)]⟩
theorem ok168 : F168.S.Ok Tryz.prog 168 := F168.ok Tryz.func168 (by kernel_rfl) ⟨ok121, trivial⟩
noncomputable def g168 (x0 x1 x2 : Int) : Option (Bool) := F168.S.g [.i x0, .i x1, .i x2]
theorem g168_eq (x0 x1 x2 : Int) : g168 x0 x1 x2 =
 ((g121 x0 x1 x2).bind fun (r3 : Bool) =>
 some ((!r3))) := by kernel_rfl
noncomputable def F160c168 : Fn := ⟨19, [4], [(2, [(0, .c (.slice 3)), (1, .clo 168 []), (7, .c (.int .i64)), (8, .c (.int .i64))])], [], 0, [], [], Tryz.f160, [.c (.slice 3), .clo 168 []], [.c (.int .i64)], [(168, F168.S)]⟩
theorem ok160c168 : F160c168.S.Ok Tryz.prog 160 := F160c168.ok Tryz.func160 (by kernel_rfl) ⟨ok168, trivial⟩
noncomputable def g160c168 (x0 : LL) : Option (Int) := F160c168.S.g [.l x0]
noncomputable def g160c168L0 (k : Nat) (x0 : LL) (x1 x2 : Int) : Option (Int) := F160c168.lp [0] 0 r0 k [.l x0, .i x1, .i x2]
theorem g160c168L0_eq (k : Nat) (x0 : LL) (x1 x2 : Int) : g160c168L0 (k + 1) x0 x1 x2 =
 (if (cop .lss x2 x1) = true then
 elemK x0 x2 [.int .i64, .int .i64, .int .i64] fun (r3 : Int × Int × Int) =>
 (g168 r3.1 r3.2.1 r3.2.2).bind fun (r6 : Bool) =>
 if r6 = true then
 some (x2)
 else
 g160c168L0 k x0 x1 (iop .add .i64 x2 1)
 else
 some ((-1))) := by kernel_rfl
theorem g160c168_eq (x0 : LL) : g160c168 x0 =
 (g160c168L0 FUEL x0 (List.length x0 : Int) 0) := by kernel_rfl
noncomputable def F127c168 : Fn := ⟨9, [4], [], [], 0, [], [], Tryz.f127, [.c (.slice 3), .clo 168 []], [.c (.bool)], [(160, F160c168.S)]⟩
theorem ok127c168 : F127c168.S.Ok Tryz.prog 127 := F127c168.ok Tryz.func127 (by kernel_rfl) ⟨ok160c168, trivial⟩
noncomputable def g127c168 (x0 : LL) : Option (Bool) := F127c168.S.g [.l x0]
theorem g127c168_eq (x0 : LL) : g127c168 x0 =
 ((g160c168 x0).bind fun (r1 : Int) =>
 some ((cop .geq r1 0))) := by kernel_rfl
noncomputable def F136 : Fn := ⟨32, [2], [], [], 0, [], [], Tryz.f136, [.agg hs19], [.c (.bool)], [(163, F163.S), (164, F164.S), (165, F165.S), (166, F166.S), (167, F167.S), (127, F127c168.S)]⟩
theorem ok136 : F136.S.Ok Tryz.prog 136 := F136.ok Tryz.func136 (by kernel_rfl) ⟨ok163, ⟨ok164, ⟨ok165, ⟨ok166, ⟨ok167, ⟨ok127c168, trivial⟩⟩⟩⟩⟩⟩
noncomputable def g136 (x0 x1 x2 x3 x4 x5 : LL) : Option (Bool) := F136.S.g [.l x0, .l x1, .l x2, .l x3, .l x4, .l x5]
theorem g136_eq (x0 x1 x2 x3 x4 x5 : LL) : g136 x0 x1 x2 x3 x4 x5 =
 ((g163 x0).bind fun (r6 : Bool) =>
 if r6 = true then
 (g164 x1).bind fun (r7 : Bool) =>
 if r7 = true then
 (g165 x2).bind fun (r8 : Bool) =>
 if r8 = true then
 (g166 x3).bind fun (r9 : Bool) =>
 if r9 = true then
 (g167 x4).bind fun (r10 : Bool) =>
 if r10 = true then
 (g127c168 x5).bind fun (r11 : Bool) =>
 some ((!r11))
 else
 some (false)
 else
 some (false)
 else
 some (false)
 else
 some (false)
 else
 some (false)) := by kernel_rfl
noncomputable def F134 : Fn := ⟨26, [2], [], [], 0, [], [], Tryz.f134, [.agg hs4], [.c (.bool)], [(77, F77.S), (135, F135.S), (136, F136.S)]⟩
theorem ok134 : F134.S.Ok Tryz.prog 134 := F134.ok Tryz.func134 (by kernel_rfl) ⟨ok77, ⟨ok135, ⟨ok136, trivial⟩⟩⟩
noncomputable def g134 (x0 x1 : Int) (x2 x3 x4 x5 x6 x7 x8 x9 : LL) (x10 : Bool) (x11 : Int) (x12 x13 x14 x15 x16 x17 x18 x19 : LL) : Option (Bool) := F134.S.g [.i x0, .i x1, .l x2, .l x3, .l x4, .l x5, .l x6, .l x7, .l x8, .l x9, .b x10, .i x11, .l x12, .l x13, .l x14, .l x15, .l x16, .l x17, .l x18, .l x19]
theorem g134_eq (x0 x1 : Int) (x2 x3 x4 x5 x6 x7 x8 x9 : LL) (x10 : Bool) (x11 : Int) (x12 x13 x14 x15 x16 x17 x18 x19 : LL) : g134 x0 x1 x2 x3 x4 x5 x6 x7 x8 x9 x10 x11 x12 x13 x14 x15 x16 x17 x18 x19 =
 ((g77 x0).bind fun (r20 : Bool) =>
 if r20 = true then
 (g135 x1 x2 x3).bind fun (r21 : Bool) =>
 if r21 = true then
 (g136 x4 x5 x6 x7 x8 x9).bind fun (r22 : Bool) =>
 if r22 = true then
 (g135 x11 x12 x13).bind fun (r23 : Bool) =>
 if r23 = true then
 (g136 x14 x15 x16 x17 x18 x19).bind fun (r24 : Bool) =>
 some (r24)
 else
 some (false)
 else
 some (false)
 else
 some (false)
 else
 some (false)) := by kernel_rfl
noncomputable def F124 : Fn := ⟨6, [2], [], [], 0, [], [], Tryz.f124, [.agg hs10], [.c (.bool)], [(125, F125.S)]⟩
theorem ok124 : F124.S.Ok Tryz.prog 124 := F124.ok Tryz.func124 (by kernel_rfl) ⟨ok125, trivial⟩
noncomputable def g124 (x0 x1 x2 : Int) (x3 : LL) (x4 x5 x6 x7 x8 x9 : Int) (x10 : Bool) : Option (Bool) := F124.S.g [.i x0, .i x1, .i x2, .l x3, .i x4, .i x5, .i x6, .i x7, .i x8, .i x9, .b x10]
theorem g124_eq (x0 x1 x2 : Int) (x3 : LL) (x4 x5 x6 x7 x8 x9 : Int) (x10 : Bool) : g124 x0 x1 x2 x3 x4 x5 x6 x7 x8 x9 x10 =
 ((g125 x0 x1 x2 x3 x4 x5 x6 x7 x8 x9 x10).bind fun (r11 : Bool) =>
 some ((!r11))) := by kernel_rfl
noncomputable def F157c124 : Fn := ⟨19, [4], [(2, [(0, .c (.slice 11)), (1, .clo 124 []), (7, .c (.int .i64)), (8, .c (.int .i64))])], [], 0, [], [], Tryz.f157, [.c (.slice 11), .clo 124 []], [.c (.int .i64)], [(124, F124.S)]⟩
theorem ok157c124 : F157c124.S.Ok Tryz.prog 157 := F157c124.ok Tryz.func157 (by kernel_rfl) ⟨ok124, trivial⟩
noncomputable def g157c124 (x0 : LL) : Option (Int) := F157c124.S.g [.l x0]
noncomputable def g157c124L0 (k : Nat) (x0 : LL) (x1 x2 : Int) : Option (Int) := F157c124.lp [0] 0 r0 k [.l x0, .i x1, .i x2]
theorem g157c124L0_eq (k : Nat) (x0 : LL) (x1 x2 : Int) : g157c124L0 (k + 1) x0 x1 x2 =
 (if (cop .lss x2 x1) = true then
 elemK x0 x2 hs10 fun (r3 : Qt20) =>
 (g124 r3.1 r3.2.1 r3.2.2.1 r3.2.2.2.1 r3.2.2.2.2.1 r3.2.2.2.2.2.1 r3.2.2.2.2.2.2.1 r3.2.2.2.2.2.2.2.1 r3.2.2.2.2.2.2.2.2.1 r3.2.2.2.2.2.2.2.2.2.1 r3.2.2.2.2.2.2.2.2.2.2).bind fun (r14 : Bool) =>
 if r14 = true then
 some (x2)
 else
 g157c124L0 k x0 x1 (iop .add .i64 x2 1)
 else
 some ((-1))) := by kernel_rfl
theorem g157c124_eq (x0 : LL) : g157c124 x0 =
 (g157c124L0 FUEL x0 (List.length x0 : Int) 0) := by kernel_rfl
noncomputable def F123c124 : Fn := ⟨9, [4], [], [], 0, [], [], Tryz.f123, [.c (.slice 11), .clo 124 []], [.c (.bool)], [(157, F157c124.S)]⟩
theorem ok123c124 : F123c124.S.Ok Tryz.prog 123 := F123c124.ok Tryz.func123 (by kernel_rfl) ⟨ok157c124, trivial⟩
noncomputable def g123c124 (x0 : LL) : Option (Bool) := F123c124.S.g [.l x0]
theorem g123c124_eq (x0 : LL) : g123c124 x0 =
 ((g157c124 x0).bind fun (r1 : Int) =>
 some ((cop .geq r1 0))) := by kernel_rfl
noncomputable def F128 : Fn := ⟨6, [2], [], [], 0, [], [], Tryz.f128, [.agg [.int .i64, .int .i64, .int .i64]], [.c (.bool)], [(129, F129.S)]⟩
theorem ok128 : F128.S.Ok Tryz.prog 128 := F128.ok Tryz.func128 (by kernel_rfl) ⟨ok129, trivial⟩
noncomputable def g128 (x0 x1 x2 : Int) : Option (Bool) := F128.S.g [.i x0, .i x1, .i x2]
theorem g128_eq (x0 x1 x2 : Int) : g128 x0 x1 x2 =
 ((g129 x0 x1 x2).bind fun (r3 : Bool) =>
 some ((!r3))) := by kernel_rfl
noncomputable def F160c128 : Fn := ⟨19, [4], [(2, [(0, .c (.slice 3)), (1, .clo 128 []), (7, .c (.int .i64)), (8, .c (.int .i64))])], [], 0, [], [], Tryz.f160, [.c (.slice 3), .clo 128 []], [.c (.int .i64)], [(128, F128.S)]⟩
theorem ok160c128 : F160c128.S.Ok Tryz.prog 160 := F160c128.ok Tryz.func160 (by kernel_rfl) ⟨ok128, trivial⟩
noncomputable def g160c128 (x0 : LL) : Option (Int) := F160c128.S.g [.l x0]
noncomputable def g160c128L0 (k : Nat) (x0 : LL) (x1 x2 : Int) : Option (Int) := F160c128.lp [0] 0 r0 k [.l x0, .i x1, .i x2]
theorem g160c128L0_eq (k : Nat) (x0 : LL) (x1 x2 : Int) : g160c128L0 (k + 1) x0 x1 x2 =
 (if (cop .lss x2 x1) = true then
 elemK x0 x2 [.int .i64, .int .i64, .int .i64] fun (r3 : Int × Int × Int) =>
 (g128 r3.1 r3.2.1 r3.2.2).bind fun (r6 : Bool) =>
 if r6 = true then
 some (x2)
 else
 g160c128L0 k x0 x1 (iop .add .i64 x2 1)
 else
 some ((-1))) := by kernel_rfl
theorem g160c128_eq (x0 : LL) : g160c128 x0 =
 (g160c128L0 FUEL x0 (List.length x0 : Int) 0) := by kernel_rfl
noncomputable def F127c128 : Fn := ⟨9, [4], [], [], 0, [], [], Tryz.f127, [.c (.slice 3), .clo 128 []], [.c (.bool)], [(160, F160c128.S)]⟩
theorem ok127c128 : F127c128.S.Ok Tryz.prog 127 := F127c128.ok Tryz.func127 (by kernel_rfl) ⟨ok160c128, trivial⟩
noncomputable def g127c128 (x0 : LL) : Option (Bool) := F127c128.S.g [.l x0]
theorem g127c128_eq (x0 : LL) : g127c128 x0 =
 ((g160c128 x0).bind fun (r1 : Int) =>
 some ((cop .geq r1 0))) := by kernel_rfl
noncomputable def F131 : Fn := ⟨6, [2], [], [], 0, [], [], Tryz.f131, [.c (.int .i64)], [.c (.bool)], [(77, F77.S)]⟩
theorem ok131 : F131.S.Ok Tryz.prog 131 := F131.ok Tryz.func131 (by kernel_rfl) ⟨ok77, trivial⟩
noncomputable def g131 (x0 : Int) : Option (Bool) := F131.S.g [.i x0]
theorem g131_eq (x0 : Int) : g131 x0 =
 ((g77 x0).bind fun (r1 : Bool) =>
 some ((!r1))) := by kernel_rfl
noncomputable def F161c131 : Fn := ⟨19, [4], [(2, [(0, .c (.slice 1)), (1, .clo 131 []), (7, .c (.int .i64)), (8, .c (.int .i64))])], [], 0, [], [], Tryz.f161, [.c (.slice 1), .clo 131 []], [.c (.int .i64)], [(131, F131.S)]⟩
theorem ok161c131 : F161c131.S.Ok Tryz.prog 161 := F161c131.ok Tryz.func161 (by kernel_rfl) ⟨ok131, trivial⟩
noncomputable def g161c131 (x0 : LL) : Option (Int) := F161c131.S.g [.l x0]
noncomputable def g161c131L0 (k : Nat) (x0 : LL) (x1 x2 : Int) : Option (Int) := F161c131.lp [0] 0 r0 k [.l x0, .i x1, .i x2]
theorem g161c131L0_eq (k : Nat) (x0 : LL) (x1 x2 : Int) : g161c131L0 (k + 1) x0 x1 x2 =
 (if (cop .lss x2 x1) = true then
 elemK x0 x2 [.int .i64] fun (r3 : Int) =>
 (g131 r3).bind fun (r4 : Bool) =>
 if r4 = true then
 some (x2)
 else
 g161c131L0 k x0 x1 (iop .add .i64 x2 1)
 else
 some ((-1))) := by kernel_rfl
theorem g161c131_eq (x0 : LL) : g161c131 x0 =
 (g161c131L0 FUEL x0 (List.length x0 : Int) 0) := by kernel_rfl
noncomputable def F130c131 : Fn := ⟨9, [4], [], [], 0, [], [], Tryz.f130, [.c (.slice 1), .clo 131 []], [.c (.bool)], [(161, F161c131.S)]⟩
theorem ok130c131 : F130c131.S.Ok Tryz.prog 130 := F130c131.ok Tryz.func130 (by kernel_rfl) ⟨ok161c131, trivial⟩
noncomputable def g130c131 (x0 : LL) : Option (Bool) := F130c131.S.g [.l x0]
theorem g130c131_eq (x0 : LL) : g130c131 x0 =
 ((g161c131 x0).bind fun (r1 : Int) =>
 some ((cop .geq r1 0))) := by kernel_rfl
noncomputable def F133 : Fn := ⟨17, [5], [], [2], 0, [], [], Tryz.f133, [.c (.int .i64), .c (.int .i64), .box hs0], [.c (.bool)], []⟩
theorem ok133 : F133.S.Ok Tryz.prog 133 := F133.ok Tryz.func133 (by kernel_rfl) trivial
noncomputable def g133 (x0 x1 x2 x3 x4 x5 x6 x7 x8 x9 x10 x11 x12 : Int) (x13 : Bool) (x14 x15 x16 x17 x18 x19 x20 x21 x22 x23 x24 x25 x26 x27 x28 x29 x30 x31 x32 x33 : Int) (x34 : LL) (x35 x36 x37 x38 x39 x40 : Int) (x41 : Bool) (x42 x43 x44 x45 : LL) (x46 x47 : Int) (x48 x49 x50 x51 x52 x53 x54 x55 : LL) (x56 x57 : Int) (x58 x59 x60 x61 x62 x63 x64 x65 : LL) (x66 : Bool) (x67 : Int) (x68 x69 x70 x71 x72 x73 x74 x75 : LL) : Option (Qt1) := F133.S.g [.i x0, .i x1, .i x2, .i x3, .i x4, .i x5, .i x6, .i x7, .i x8, .i x9, .i x10, .i x11, .i x12, .b x13, .i x14, .i x15, .i x16, .i x17, .i x18, .i x19, .i x20, .i x21, .i x22, .i x23, .i x24, .i x25, .i x26, .i x27, .i x28, .i x29, .i x30, .i x31, .i x32, .i x33, .l x34, .i x35, .i x36, .i x37, .i x38, .i x39, .i x40, .b x41, .l x42, .l x43, .l x44, .l x45, .i x46, .i x47, .l x48, .l x49, .l x50, .l x51, .l x52, .l x53, .l x54, .l x55, .i x56, .i x57, .l x58, .l x59, .l x60, .l x61, .l x62, .l x63, .l x64, .l x65, .b x66, .i x67, .l x68, .l x69, .l x70, .l x71, .l x72, .l x73, .l x74, .l x75]
theorem g133_eq (x0 x1 x2 x3 x4 x5 x6 x7 x8 x9 x10 x11 x12 : Int) (x13 : Bool) (x14 x15 x16 x17 x18 x19 x20 x21 x22 x23 x24 x25 x26 x27 x28 x29 x30 x31 x32 x33 : Int) (x34 : LL) (x35 x36 x37 x38 x39 x40 : Int) (x41 : Bool) (x42 x43 x44 x45 : LL) (x46 x47 : Int) (x48 x49 x50 x51 x52 x53 x54 x55 : LL) (x56 x57 : Int) (x58 x59 x60 x61 x62 x63 x64 x65 : LL) (x66 : Bool) (x67 : Int) (x68 x69 x70 x71 x72 x73 x74 x75 : LL) : g133 x0 x1 x2 x3 x4 x5 x6 x7 x8 x9 x10 x11 x12 x13 x14 x15 x16 x17 x18 x19 x20 x21 x22 x23 x24 x25 x26 x27 x28 x29 x30 x31 x32 x33 x34 x35 x36 x37 x38 x39 x40 x41 x42 x43 x44 x45 x46 x47 x48 x49 x50 x51 x52 x53 x54 x55 x56 x57 x58 x59 x60 x61 x62 x63 x64 x65 x66 x67 x68 x69 x70 x71 x72 x73 x74 x75 =
 (elemK x44 x0 [.int .i64] fun (r76 : Int) =>
 elemK x44 x1 [.int .i64] fun (r77 : Int) =>
 some ((cop .lss r76 r77), x2, x3, x4, x5, x6, x7, x8, x9, x10, x11, x12, x13, x14, x15, x16, x17, x18, x19, x20, x21, x22, x23, x24, x25, x26, x27, x28, x29, x30, x31, x32, x33, x34, x35, x36, x37, x38, x39, x40, x41, x42, x43, x44, x45, x46, x47, x48, x49, x50, x51, x52, x53, x54, x55, x56, x57, x58, x59, x60, x61, x62, x63, x64, x65, x66, x67, x68, x69, x70, x71, x72, x73, x74, x75)) := by kernel_rfl
noncomputable def F132c133 : Fn := ⟨17, [4], [(2, [(0, .c (.int .i64)), (1, .clo 133 [17]), (5, .c (.int .i64)), (17, .gbox hs0)])], [], 1, [], [], Tryz.f132, [.c (.int .i64), .clo 133 [17], .dead, .dead, .dead, .dead, .dead, .dead, .dead, .dead, .dead, .dead, .dead, .dead, .dead, .dead, .dead, .gbox hs0], [.c (.bool)], [(133, F133.S)]⟩
theorem ok132c133 : F132c133.S.Ok Tryz.prog 132 := F132c133.ok Tryz.func132 (by kernel_rfl) ⟨ok133, trivial⟩
noncomputable def g132c133 (x0 x1 x2 x3 x4 x5 x6 x7 x8 x9 x10 x11 : Int) (x12 : Bool) (x13 x14 x15 x16 x17 x18 x19 x20 x21 x22 x23 x24 x25 x26 x27 x28 x29 x30 x31 x32 : Int) (x33 : LL) (x34 x35 x36 x37 x38 x39 : Int) (x40 : Bool) (x41 x42 x43 x44 : LL) (x45 x46 : Int) (x47 x48 x49 x50 x51 x52 x53 x54 : LL) (x55 x56 : Int) (x57 x58 x59 x60 x61 x62 x63 x64 : LL) (x65 : Bool) (x66 : Int) (x67 x68 x69 x70 x71 x72 x73 x74 : LL) : Option (Qt1) := F132c133.S.g [.i x0, .i x1, .i x2, .i x3, .i x4, .i x5, .i x6, .i x7, .i x8, .i x9, .i x10, .i x11, .b x12, .i x13, .i x14, .i x15, .i x16, .i x17, .i x18, .i x19, .i x20, .i x21, .i x22, .i x23, .i x24, .i x25, .i x26, .i x27, .i x28, .i x29, .i x30, .i x31, .i x32, .l x33, .i x34, .i x35, .i x36, .i x37, .i x38, .i x39, .b x40, .l x41, .l x42, .l x43, .l x44, .i x45, .i x46, .l x47, .l x48, .l x49, .l x50, .l x51, .l x52, .l x53, .l x54, .i x55, .i x56, .l x57, .l x58, .l x59, .l x60, .l x61, .l x62, .l x63, .l x64, .b x65, .i x66, .l x67, .l x68, .l x69, .l x70, .l x71, .l x72, .l x73, .l x74]
noncomputable def g132c133L0 (k : Nat) (x0 x1 x2 x3 x4 x5 x6 x7 x8 x9 x10 x11 x12 : Int) (x13 : Bool) (x14 x15 x16 x17 x18 x19 x20 x21 x22 x23 x24 x25 x26 x27 x28 x29 x30 x31 x32 x33 : Int) (x34 : LL) (x35 x36 x37 x38 x39 x40 : Int) (x41 : Bool) (x42 x43 x44 x45 : LL) (x46 x47 : Int) (x48 x49 x50 x51 x52 x53 x54 x55 : LL) (x56 x57 : Int) (x58 x59 x60 x61 x62 x63 x64 x65 : LL) (x66 : Bool) (x67 : Int) (x68 x69 x70 x71 x72 x73 x74 x75 : LL) : Option (Qt1) := F132c133.lp [0] 0 r0 k [.i x0, .i x1, .i x2, .i x3, .i x4, .i x5, .i x6, .i x7, .i x8, .i x9, .i x10, .i x11, .i x12, .b x13, .i x14, .i x15, .i x16, .i x17, .i x18, .i x19, .i x20, .i x21, .i x22, .i x23, .i x24, .i x25, .i x26, .i x27, .i x28, .i x29, .i x30, .i x31, .i x32, .i x33, .l x34, .i x35, .i x36, .i x37, .i x38, .i x39, .i x40, .b x41, .l x42, .l x43, .l x44, .l x45, .i x46, .i x47, .l x48, .l x49, .l x50, .l x51, .l x52, .l x53, .l x54, .l x55, .i x56, .i x57, .l x58, .l x59, .l x60, .l x61, .l x62, .l x63, .l x64, .l x65, .b x66, .i x67, .l x68, .l x69, .l x70, .l x71, .l x72, .l x73, .l x74, .l x75]
theorem g132c133L0_eq (k : Nat) (x0 x1 x2 x3 x4 x5 x6 x7 x8 x9 x10 x11 x12 : Int) (x13 : Bool) (x14 x15 x16 x17 x18 x19 x20 x21 x22 x23 x24 x25 x26 x27 x28 x29 x30 x31 x32 x33 : Int) (x34 : LL) (x35 x36 x37 x38 x39 x40 : Int) (x41 : Bool) (x42 x43 x44 x45 : LL) (x46 x47 : Int) (x48 x49 x50 x51 x52 x53 x54 x55 : LL) (x56 x57 : Int) (x58 x59 x60 x61 x62 x63 x64 x65 : LL) (x66 : Bool) (x67 : Int) (x68 x69 x70 x71 x72 x73 x74 x75 : LL) : g132c133L0 (k + 1) x0 x1 x2 x3 x4 x5 x6 x7 x8 x9 x10 x11 x12 x13 x14 x15 x16 x17 x18 x19 x20 x21 x22 x23 x24 x25 x26 x27 x28 x29 x30 x31 x32 x33 x34 x35 x36 x37 x38 x39 x40 x41 x42 x43 x44 x45 x46 x47 x48 x49 x50 x51 x52 x53 x54 x55 x56 x57 x58 x59 x60 x61 x62 x63 x64 x65 x66 x67 x68 x69 x70 x71 x72 x73 x74 x75 =
 (if (cop .lss x1 x0) = true then
 (g133 (iop .sub .i64 x1 1) x1 x2 x3 x4 x5 x6 x7 x8 x9 x10 x11 x12 x13 x14 x15 x16 x17 x18 x19 x20 x21 x22 x23 x24 x25 x26 x27 x28 x29 x30 x31 x32 x33 x34 x35 x36 x37 x38 x39 x40 x41 x42 x43 x44 x45 x46 x47 x48 x49 x50 x51 x52 x53 x54 x55 x56 x57 x58 x59 x60 x61 x62 x63 x64 x65 x66 x67 x68 x69 x70 x71 x72 x73 x74 x75).bind fun (r76 : Qt1) =>
 if (!r76.1) = true then
 some (false, r76.2.1, r76.2.2.1, r76.2.2.2.1, r76.2.2.2.2.1, r76.2.2.2.2.2.1, r76.2.2.2.2.2.2.1, r76.2.2.2.2.2.2.2.1, r76.2.2.2.2.2.2.2.2.1, r76.2.2.2.2.2.2.2.2.2.1, r76.2.2.2.2.2.2.2.2.2.2.1, r76.2.2.2.2.2.2.2.2.2.2.2.1, (d4 (d8 r76)).1, (d4 (d8 r76)).2.1, (d2 (d4 (d8 r76))).1, (d2 (d4 (d8 r76))).2.1, (d16 r76).1, (d16 r76).2.1, (d2 (d16 r76)).1, (d2 (d16 r76)).2.1, (d4 (d16 r76)).1, (d4 (d16 r76)).2.1, (d2 (d4 (d16 r76))).1, (d2 (d4 (d16 r76))).2.1, (d8 (d16 r76)).1, (d8 (d16 r76)).2.1, (d2 (d8 (d16 r76))).1, (d2 (d8 (d16 r76))).2.1, (d4 (d8 (d16 r76))).1, (d4 (d8 (d16 r76))).2.1, (d2 (d4 (d8 (d16 r76)))).1, (d2 (d4 (d8 (d16 r76)))).2.1, (d16 (d16 r76)).1, (d16 (d16 r76)).2.1, (d2 (d16 (d16 r76))).1, (d2 (d16 (d16 r76))).2.1, (d4 (d16 (d16 r76))).1, (d4 (d16 (d16 r76))).2.1, (d2 (d4 (d16 (d16 r76)))).1, (d2 (d4 (d16 (d16 r76)))).2.1, (d8 (d16 (d16 r76))).1, (d8 (d16 (d16 r76))).2.1, (d2 (d8 (d16 (d16 r76)))).1, (d2 (d8 (d16 (d16 r76)))).2.1, (d4 (d8 (d16 (d16 r76)))).1, (d4 (d8 (d16 (d16 r76)))).2.1, (d2 (d4 (d8 (d16 (d16 r76))))).1, (d2 (d4 (d8 (d16 (d16 r76))))).2.1, (d16 (d16 (d16 r76))).1, (d16 (d16 (d16 r76))).2.1, (d2 (d16 (d16 (d16 r76)))).1, (d2 (d16 (d16 (d16 r76)))).2.1, (d4 (d16 (d16 (d16 r76)))).1, (d4 (d16 (d16 (d16 r76)))).2.1, (d2 (d4 (d16 (d16 (d16 r76))))).1, (d2 (d4 (d16 (d16 (d16 r76))))).2.1, (d8 (d16 (d16 (d16 r76)))).1, (d8 (d16 (d16 (d16 r76)))).2.1, (d2 (d8 (d16 (d16 (d16 r76))))).1, (d2 (d8 (d16 (d16 (d16 r76))))).2.1, (d4 (d8 (d16 (d16 (d16 r76))))).1, (d4 (d8 (d16 (d16 (d16 r76))))).2.1, (d2 (d4 (d8 (d16 (d16 (d16 r76)))))).1, (d2 (d4 (d8 (d16 (d16 (d16 r76)))))).2.1, (d16 (d16 (d16 (d16 r76)))).1, (d16 (d16 (d16 (d16 r76)))).2.1, (d2 (d16 (d16 (d16 (d16 r76))))).1, (d2 (d16 (d16 (d16 (d16 r76))))).2.1, (d4 (d16 (d16 (d16 (d16 r76))))).1, (d4 (d16 (d16 (d16 (d16 r76))))).2.1, (d2 (d4 (d16 (d16 (d16 (d16 r76)))))).1, (d2 (d4 (d16 (d16 (d16 (d16 r76)))))).2.1, (d8 (d16 (d16 (d16 (d16 r76))))).1, (d8 (d16 (d16 (d16 (d16 r76))))).2.1, (d2 (d8 (d16 (d16 (d16 (d16 r76)))))))
 else
 g132c133L0 k x0 (iop .add .i64 x1 1) r76.2.1 r76.2.2.1 r76.2.2.2.1 r76.2.2.2.2.1 r76.2.2.2.2.2.1 r76.2.2.2.2.2.2.1 r76.2.2.2.2.2.2.2.1 r76.2.2.2.2.2.2.2.2.1 r76.2.2.2.2.2.2.2.2.2.1 r76.2.2.2.2.2.2.2.2.2.2.1 r76.2.2.2.2.2.2.2.2.2.2.2.1 (d4 (d8 r76)).1 (d4 (d8 r76)).2.1 (d2 (d4 (d8 r76))).1 (d2 (d4 (d8 r76))).2.1 (d16 r76).1 (d16 r76).2.1 (d2 (d16 r76)).1 (d2 (d16 r76)).2.1 (d4 (d16 r76)).1 (d4 (d16 r76)).2.1 (d2 (d4 (d16 r76))).1 (d2 (d4 (d16 r76))).2.1 (d8 (d16 r76)).1 (d8 (d16 r76)).2.1 (d2 (d8 (d16 r76))).1 (d2 (d8 (d16 r76))).2.1 (d4 (d8 (d16 r76))).1 (d4 (d8 (d16 r76))).2.1 (d2 (d4 (d8 (d16 r76)))).1 (d2 (d4 (d8 (d16 r76)))).2.1 (d16 (d16 r76)).1 (d16 (d16 r76)).2.1 (d2 (d16 (d16 r76))).1 (d2 (d16 (d16 r76))).2.1 (d4 (d16 (d16 r76))).1 (d4 (d16 (d16 r76))).2.1 (d2 (d4 (d16 (d16 r76)))).1 (d2 (d4 (d16 (d16 r76)))).2.1 (d8 (d16 (d16 r76))).1 (d8 (d16 (d16 r76))).2.1 (d2 (d8 (d16 (d16 r76)))).1 (d2 (d8 (d16 (d16 r76)))).2.1 (d4 (d8 (d16 (d16 r76)))).1 (d4 (d8 (d16 (d16 r76)))).2.1 (d2 (d4 (d8 (d16 (d16 r76))))).1 (d2 (d4 (d8 (d16 (d16 r76))))).2.1 (d16 (d16 (d16 r76))).1 (d16 (d16 (d16 r76))).2.1 (d2 (d16 (d16 (d16 r76)))).1 (d2 (d16 (d16 (d16 r76)))).2.1 (d4 (d16 (d16 (d16 r76)))).1 (d4 (d16 (d16 (d16 r76)))).2.1 (d2 (d4 (d16 (d16 (d16 r76))))).1 (d2 (d4 (d16 (d16 (d16 r76))))).2.1 (d8 (d16 (d16 (d16 r76)))).1 (d8 (d16 (d16 (d16 r76)))).2.1 (d2 (d8 (d16 (d16 (d16 r76))))).1 (d2 (d8 (d16 (d16 (d16 r76))))).2.1 (d4 (d8 (d16 (d16 (d16 r76))))).1 (d4 (d8 (d16 (d16 (d16 r76))))).2.1 (d2 (d4 (d8 (d16 (d16 (d16 r76)))))).1 (d2 (d4 (d8 (d16 (d16 (d16 r76)))))).2.1 (d16 (d16 (d16 (d16 r76)))).1 (d16 (d16 (d16 (d16 r76)))).2.1 (d2 (d16 (d16 (d16 (d16 r76))))).1 (d2 (d16 (d16 (d16 (d16 r76))))).2.1 (d4 (d16 (d16 (d16 (d16 r76))))).1 (d4 (d16 (d16 (d16 (d16 r76))))).2.1 (d2 (d4 (d16 (d16 (d16 (d16 r76)))))).1 (d2 (d4 (d16 (d16 (d16 (d16 r76)))))).2.1 (d8 (d16 (d16 (d16 (d16 r76))))).1 (d8 (d16 (d16 (d16 (d16 r76))))).2.1 (d2 (d8 (d16 (d16 (d16 (d16 r76))))))
 else
 some (true, x2, x3, x4, x5, x6, x7, x8, x9, x10, x11, x12, x13, x14, x15, x16, x17, x18, x19, x20, x21, x22, x23, x24, x25, x26, x27, x28, x29, x30, x31, x32, x33, x34, x35, x36, x37, x38, x39, x40, x41, x42, x43, x44, x45, x46, x47, x48, x49, x50, x51, x52, x53, x54, x55, x56, x57, x58, x59, x60, x61, x62, x63, x64, x65, x66, x67, x68, x69, x70, x71, x72, x73, x74, x75)) := by kernel_rfl
theorem g132c133_eq (x0 x1 x2 x3 x4 x5 x6 x7 x8 x9 x10 x11 : Int) (x12 : Bool) (x13 x14 x15 x16 x17 x18 x19 x20 x21 x22 x23 x24 x25 x26 x27 x28 x29 x30 x31 x32 : Int) (x33 : LL) (x34 x35 x36 x37 x38 x39 : Int) (x40 : Bool) (x41 x42 x43 x44 : LL) (x45 x46 : Int) (x47 x48 x49 x50 x51 x52 x53 x54 : LL) (x55 x56 : Int) (x57 x58 x59 x60 x61 x62 x63 x64 : LL) (x65 : Bool) (x66 : Int) (x67 x68 x69 x70 x71 x72 x73 x74 : LL) : g132c133 x0 x1 x2 x3 x4 x5 x6 x7 x8 x9 x10 x11 x12 x13 x14 x15 x16 x17 x18 x19 x20 x21 x22 x23 x24 x25 x26 x27 x28 x29 x30 x31 x32 x33 x34 x35 x36 x37 x38 x39 x40 x41 x42 x43 x44 x45 x46 x47 x48 x49 x50 x51 x52 x53 x54 x55 x56 x57 x58 x59 x60 x61 x62 x63 x64 x65 x66 x67 x68 x69 x70 x71 x72 x73 x74 =
 (g132c133L0 FUEL x0 1 x1 x2 x3 x4 x5 x6 x7 x8 x9 x10 x11 x12 x13 x14 x15 x16 x17 x18 x19 x20 x21 x22 x23 x24 x25 x26 x27 x28 x29 x30 x31 x32 x33 x34 x35 x36 x37 x38 x39 x40 x41 x42 x43 x44 x45 x46 x47 x48 x49 x50 x51 x52 x53 x54 x55 x56 x57 x58 x59 x60 x61 x62 x63 x64 x65 x66 x67 x68 x69 x70 x71 x72 x73 x74) := by kernel_rfl
noncomputable def F138 : Fn := ⟨13, [2], [], [], 0, [], [], Tryz.f138, [.agg [.int .i64, .int .i64]], [.c (.bool)], [(119, F119.S), (77, F77.S)]⟩
theorem ok138 : F138.S.Ok Tryz.prog 138 := F138.ok Tryz.func138 (by kernel_rfl) ⟨ok119, ⟨ok77, trivial⟩⟩
noncomputable def g138 (x0 x1 : Int) : Option (Bool) := F138.S.g [.i x0, .i x1]
theorem g138_eq (x0 x1 : Int) : g138 x0 x1 =
 ((g119 x0).bind fun (r2 : Bool) =>
 if (!r2) = true then
 some (true)
 else
 (g77 x1).bind fun (r3 : Bool) =>
 some ((!r3))) := by kernel_rfl
noncomputable def F169c138 : Fn := ⟨19, [4], [(2, [(0, .c (.slice 2)), (1, .clo 138 []), (7, .c (.int .i64)), (8, .c (.int .i64))])], [], 0, [], [], Tryz.f169, [.c (.slice 2), .clo 138 []], [.c (.int .i64)], [(138, F138.S)]⟩
theorem ok169c138 : F169c138.S.Ok Tryz.prog 169 := F169c138.ok Tryz.func169 (by kernel_rfl) ⟨ok138, trivial⟩
noncomputable def g169c138 (x0 : LL) : Option (Int) := F169c138.S.g [.l x0]
noncomputable def g169c138L0 (k : Nat) (x0 : LL) (x1 x2 : Int) : Option (Int) := F169c138.lp [0] 0 r0 k [.l x0, .i x1, .i x2]
theorem g169c138L0_eq (k : Nat) (x0 : LL) (x1 x2 : Int) : g169c138L0 (k + 1) x0 x1 x2 =
 (if (cop .lss x2 x1) = true then
 elemK x0 x2 [.int .i64, .int .i64] fun (r3 : Int × Int) =>
 (g138 r3.1 r3.2).bind fun (r5 : Bool) =>
 if r5 = true then
 some (x2)
 else
 g169c138L0 k x0 x1 (iop .add .i64 x2 1)
 else
 some ((-1))) := by kernel_rfl
theorem g169c138_eq (x0 : LL) : g169c138 x0 =
 (g169c138L0 FUEL x0 (List.length x0 : Int) 0) := by kernel_rfl
noncomputable def F137c138 : Fn := ⟨9, [4], [], [], 0, [], [], Tryz.f137, [.c (.slice 2), .clo 138 []], [.c (.bool)], [(169, F169c138.S)]⟩
theorem ok137c138 : F137c138.S.Ok Tryz.prog 137 := F137c138.ok Tryz.func137 (by kernel_rfl) ⟨ok169c138, trivial⟩
noncomputable def g137c138 (x0 : LL) : Option (Bool) := F137c138.S.g [.l x0]
theorem g137c138_eq (x0 : LL) : g137c138 x0 =
 ((g169c138 x0).bind fun (r1 : Int) =>
 some ((cop .geq r1 0))) := by kernel_rfl
noncomputable def F78 : Fn := ⟨114, [4], [], [], 0, [], [], Tryz.f78, [.agg hs0, .c (.int .i64)], [.c (.bool)], [(119, F119.S), (120, F120.S), (121, F121.S), (122, F122.S), (123, F123c124.S), (126, F126.S), (127, F127c128.S), (76, F76.S), (130, F130c131.S), (132, F132c133.S), (134, F134.S), (135, F135.S), (136, F136.S), (137, F137c138.S)]⟩
theorem ok78 : F78.S.Ok Tryz.prog 78 := F78.ok Tryz.func78 (by kernel_rfl) ⟨ok119, ⟨ok120, ⟨ok121, ⟨ok122, ⟨ok123c124, ⟨ok126, ⟨ok127c128, ⟨ok76, ⟨ok130c131, ⟨ok132c133, ⟨ok134, ⟨ok135, ⟨ok136, ⟨ok137c138, trivial⟩⟩⟩⟩⟩⟩⟩⟩⟩⟩⟩⟩⟩⟩
noncomputable def g78 (x0 x1 x2 x3 x4 x5 x6 x7 x8 x9 x10 : Int) (x11 : Bool) (x12 x13 x14 x15 x16 x17 x18 x19 x20 x21 x22 x23 x24 x25 x26 x27 x28 x29 x30 x31 : Int) (x32 : LL) (x33 x34 x35 x36 x37 x38 : Int) (x39 : Bool) (x40 x41 x42 x43 : LL) (x44 x45 : Int) (x46 x47 x48 x49 x50 x51 x52 x53 : LL) (x54 x55 : Int) (x56 x57 x58 x59 x60 x61 x62 x63 : LL) (x64 : Bool) (x65 : Int) (x66 x67 x68 x69 x70 x71 x72 x73 : LL) (x74 : Int) : Option (Bool) := F78.S.g [.i x0, .i x1, .i x2, .i x3, .i x4, .i x5, .i x6, .i x7, .i x8, .i x9, .i x10, .b x11, .i x12, .i x13, .i x14, .i x15, .i x16, .i x17, .i x18, .i x19, .i x20, .i x21, .i x22, .i x23, .i x24, .i x25, .i x26, .i x27, .i x28, .i x29, .i x30, .i x31, .l x32, .i x33, .i x34, .i x35, .i x36, .i x37, .i x38, .b x39, .l x40, .l x41, .l x42, .l x43, .i x44, .i x45, .l x46, .l x47, .l x48, .l x49, .l x50, .l x51, .l x52, .l x53, .i x54, .i x55, .l x56, .l x57, .l x58, .l x59, .l x60, .l x61, .l x62, .l x63, .b x64, .i x65, .l x66, .l x67, .l x68, .l x69, .l x70, .l x71, .l x72, .l x73, .i x74]
theorem g78_eq (x0 x1 x2 x3 x4 x5 x6 x7 x8 x9 x10 : Int) (x11 : Bool) (x12 x13 x14 x15 x16 x17 x18 x19 x20 x21 x22 x23 x24 x25 x26 x27 x28 x29 x30 x31 : Int) (x32 : LL) (x33 x34 x35 x36 x37 x38 : Int) (x39 : Bool) (x40 x41 x42 x43 : LL) (x44 x45 : Int) (x46 x47 x48 x49 x50 x51 x52 x53 : LL) (x54 x55 : Int) (x56 x57 x58 x59 x60 x61 x62 x63 : LL) (x64 : Bool) (x65 : Int) (x66 x67 x68 x69 x70 x71 x72 x73 : LL) (x74 : Int) : g78 x0 x1 x2 x3 x4 x5 x6 x7 x8 x9 x10 x11 x12 x13 x14 x15 x16 x17 x18 x19 x20 x21 x22 x23 x24 x25 x26 x27 x28 x29 x30 x31 x32 x33 x34 x35 x36 x37 x38 x39 x40 x41 x42 x43 x44 x45 x46 x47 x48 x49 x50 x51 x52 x53 x54 x55 x56 x57 x58 x59 x60 x61 x62 x63 x64 x65 x66 x67 x68 x69 x70 x71 x72 x73 x74 =
 (if (cop .eql x74 0) = true then
 (g119 x5).bind fun (r75 : Bool) =>
 some (r75)
 else
 if (cop .eql x74 1) = true then
 (g120 x12 x13 x14 x15 x16 x17 x18 x19 x20 x21 x22 x23 x24 x25 x26 x27 x28 x29 x30 x31 x32 x33 x34 x35 x36 x37 x38 x39).bind fun (r75 : Bool) =>
 some (r75)
 else
 if (cop .eql x74 2) = true then
 (g121 x7 x8 x9).bind fun (r75 : Bool) =>
 some (r75)
 else
 if (cop .eql x74 3) = true then
 (g122 x10).bind fun (r75 : Bool) =>
 some (r75)
 else
 if (cop .eql x74 5) = true then
 if (cop .gtr (List.length x41 : Int) 8) = true then
 some (false)
 else
 if (cop .eql x0 4) = true then
 if (cop .neq (List.length x41 : Int) 1) = true then
 some (false)
 else
 (g123c124 x41).bind fun (r75 : Bool) =>
 some ((!r75))
 else
 (g123c124 x41).bind fun (r75 : Bool) =>
 some ((!r75))
 else
 if (cop .eql x74 6) = true then
 (g126 x6).bind fun (r75 : Bool) =>
 some (r75)
 else
 if (cop .eql x74 7) = true then
 if (cop .leq (List.length x40 : Int) 64) = true then
 (g127c128 x40).bind fun (r75 : Bool) =>
 some ((!r75))
 else
 some (false)
 else
 if (cop .eql x74 8) = true then
 (g76 x4).bind fun (r75 : Bool) =>
 some (r75)
 else
 if (cop .eql x74 9) = true then
 (g130c131 x42).bind fun (r75 : Bool) =>
 if (!r75) = true then
 (g132c133 (List.length x42 : Int) x0 x1 x2 x3 x4 x5 x6 x7 x8 x9 x10 x11 x12 x13 x14 x15 x16 x17 x18 x19 x20 x21 x22 x23 x24 x25 x26 x27 x28 x29 x30 x31 x32 x33 x34 x35 x36 x37 x38 x39 x40 x41 x42 x43 x44 x45 x46 x47 x48 x49 x50 x51 x52 x53 x54 x55 x56 x57 x58 x59 x60 x61 x62 x63 x64 x65 x66 x67 x68 x69 x70 x71 x72 x73).bind fun (r76 : Qt1) =>
 some (r76.1)
 else
 some (false)
 else
 if (cop .eql x74 10) = true then
 (g134 x54 x55 x56 x57 x58 x59 x60 x61 x62 x63 x64 x65 x66 x67 x68 x69 x70 x71 x72 x73).bind fun (r75 : Bool) =>
 some (r75)
 else
 if (cop .eql x74 11) = true then
 (g76 x44).bind fun (r75 : Bool) =>
 some (r75)
 else
 if (cop .eql x74 12) = true then
 (g135 x45 x46 x47).bind fun (r75 : Bool) =>
 some (r75)
 else
 if (cop .eql x74 13) = true then
 (g136 x48 x49 x50 x51 x52 x53).bind fun (r75 : Bool) =>
 some (r75)
 else
 if (cop .eql x74 14) = true then
 if (cop .leq (List.length x43 : Int) 16) = true then
 (g137c138 x43).bind fun (r75 : Bool) =>
 some ((!r75))
 else
 some (false)
 else
 some (true)) := by kernel_rfl
noncomputable def F79 : Fn := ⟨85, [], [], [0], 0, [], [], Tryz.f79, [.box hs0, .c (.int .i64)], [], []⟩
theorem ok79 : F79.S.Ok Tryz.prog 79 := F79.ok Tryz.func79 (by kernel_rfl) trivial
noncomputable def g79 (x0 x1 x2 x3 x4 x5 x6 x7 x8 x9 x10 : Int) (x11 : Bool) (x12 x13 x14 x15 x16 x17 x18 x19 x20 x21 x22 x23 x24 x25 x26 x27 x28 x29 x30 x31 : Int) (x32 : LL) (x33 x34 x35 x36 x37 x38 : Int) (x39 : Bool) (x40 x41 x42 x43 : LL) (x44 x45 : Int) (x46 x47 x48 x49 x50 x51 x52 x53 : LL) (x54 x55 : Int) (x56 x57 x58 x59 x60 x61 x62 x63 : LL) (x64 : Bool) (x65 : Int) (x66 x67 x68 x69 x70 x71 x72 x73 : LL) (x74 : Int) : Option (Qt2) := F79.S.g [.i x0, .i x1, .i x2, .i x3, .i x4, .i x5, .i x6, .i x7, .i x8, .i x9, .i x10, .b x11, .i x12, .i x13, .i x14, .i x15, .i x16, .i x17, .i x18, .i x19, .i x20, .i x21, .i x22, .i x23, .i x24, .i x25, .i x26, .i x27, .i x28, .i x29, .i x30, .i x31, .l x32, .i x33, .i x34, .i x35, .i x36, .i x37, .i x38, .b x39, .l x40, .l x41, .l x42, .l x43, .i x44, .i x45, .l x46, .l x47, .l x48, .l x49, .l x50, .l x51, .l x52, .l x53, .i x54, .i x55, .l x56, .l x57, .l x58, .l x59, .l x60, .l x61, .l x62, .l x63, .b x64, .i x65, .l x66, .l x67, .l x68, .l x69, .l x70, .l x71, .l x72, .l x73, .i x74]
theorem g79_eq (x0 x1 x2 x3 x4 x5 x6 x7 x8 x9 x10 : Int) (x11 : Bool) (x12 x13 x14 x15 x16 x17 x18 x19 x20 x21 x22 x23 x24 x25 x26 x27 x28 x29 x30 x31 : Int) (x32 : LL) (x33 x34 x35 x36 x37 x38 : Int) (x39 : Bool) (x40 x41 x42 x43 : LL) (x44 x45 : Int) (x46 x47 x48 x49 x50 x51 x52 x53 : LL) (x54 x55 : Int) (x56 x57 x58 x59 x60 x61 x62 x63 : LL) (x64 : Bool) (x65 : Int) (x66 x67 x68 x69 x70 x71 x72 x73 : LL) (x74 : Int) : g79 x0 x1 x2 x3 x4 x5 x6 x7 x8 x9 x10 x11 x12 x13 x14 x15 x16 x17 x18 x19 x20 x21 x22 x23 x24 x25 x26 x27 x28 x29 x30 x31 x32 x33 x34 x35 x36 x37 x38 x39 x40 x41 x42 x43 x44 x45 x46 x47 x48 x49 x50 x51 x52 x53 x54 x55 x56 x57 x58 x59 x60 x61 x62 x63 x64 x65 x66 x67 x68 x69 x70 x71 x72 x73 x74 =
 (if (cop .eql x74 0) = true then
 some (x0, x1, x2, x3, x4, 0, x6, x7, x8, x9, x10, x11, x12, x13, x14, x15, x16, x17, x18, x19, x20, x21, x22, x23, x24, x25, x26, x27, x28, x29, x30, x31, x32, x33, x34, x35, x36, x37, x38, x39, x40, x41, x42, x43, x44, x45, x46, x47, x48, x49, x50, x51, x52, x53, x54, x55, x56, x57, x58, x59, x60, x61, x62, x63, x64, x65, x66, x67, x68, x69, x70, x71, x72, x73)
 else
 if (cop .eql x74 1) = true then
 some (x0, x1, x2, x3, x4, x5, x6, x7, x8, x9, x10, x11, 0, 0, 0, 0, 0, 0, 0, 0, 0, 0, 0, 0, 0, 0, 0, 0, 0, 0, 0, 0, ([] : LL), 0, 0, 0, 0, 0, 0, false, x40, x41, x42, x43, x44, x45, x46, x47, x48, x49, x50, x51, x52, x53, x54, x55, x56, x57, x58, x59, x60, x61, x62, x63, x64, x65, x66, x67, x68, x69, x70, x71, x72, x73)
 else
 if (cop .eql x74 2) = true then
 some (x0, x1, x2, x3, x4, x5, x6, 0, 0, 0, x10, x11, x12, x13, x14, x15, x16, x17, x18, x19, x20, x21, x22, x23, x24, x25, x26, x27, x28, x29, x30, x31, x32, x33, x34, x35, x36, x37, x38, x39, x40, x41, x42, x43, x44, x45, x46, x47, x48, x49, x50, x51, x52, x53, x54, x55, x56, x57, x58, x59, x60, x61, x62, x63, x64, x65, x66, x67, x68, x69, x70, x71, x72, x73)
 else
 if (cop .eql x74 3) = true then
 some (x0, x1, x2, x3, x4, x5, x6, x7, x8, x9, 0, x11, x12, x13, x14, x15, x16, x17, x18, x19, x20, x21, x22, x23, x24, x25, x26, x27, x28, x29, x30, x31, x32, x33, x34, x35, x36, x37, x38, x39, x40, x41, x42, x43, x44, x45, x46, x47, x48, x49, x50, x51, x52, x53, x54, x55, x56, x57, x58, x59, x60, x61, x62, x63, x64, x65, x66, x67, x68, x69, x70, x71, x72, x73)
 else
 if (cop .eql x74 4) = true then
 some (x0, x1, x2, x3, x4, x5, x6, x7, x8, x9, x10, false, x12, x13, x14, x15, x16, x17, x18, x19, x20, x21, x22, x23, x24, x25, x26, x27, x28, x29, x30, x31, x32, x33, x34, x35, x36, x37, x38, x39, x40, x41, x42, x43, x44, x45, x46, x47, x48, x49, x50, x51, x52, x53, x54, x55, x56, x57, x58, x59, x60, x61, x62, x63, x64, x65, x66, x67, x68, x69, x70, x71, x72, x73)
 else
 if (cop .eql x74 5) = true then
 some (x0, x1, x2, x3, x4, x5, x6, x7, x8, x9, x10, x11, x12, x13, x14, x15, x16, x17, x18, x19, x20, x21, x22, x23, x24, x25, x26, x27, x28, x29, x30, x31, x32, x33, x34, x35, x36, x37, x38, x39, x40, ([] : LL), x42, x43, x44, x45, x46, x47, x48, x49, x50, x51, x52, x53, x54, x55, x56, x57, x58, x59, x60, x61, x62, x63, x64, x65, x66, x67, x68, x69, x70, x71, x72, x73)
 else
 if (cop .eql x74 6) = true then
 some (x0, x1, x2, x3, x4, x5, 0, x7, x8, x9, x10, x11, x12, x13, x14, x15, x16, x17, x18, x19, x20, x21, x22, x23, x24, x25, x26, x27, x28, x29, x30, x31, x32, x33, x34, x35, x36, x37, x38, x39, x40, x41, x42, x43, x44, x45, x46, x47, x48, x49, x50, x51, x52, x53, x54, x55, x56, x57, x58, x59, x60, x61, x62, x63, x64, x65, x66, x67, x68, x69, x70, x71, x72, x73)
 else
 if (cop .eql x74 7) = true then
 some (x0, x1, x2, x3, x4, x5, x6, x7, x8, x9, x10, x11, x12, x13, x14, x15, x16, x17, x18, x19, x20, x21, x22, x23, x24, x25, x26, x27, x28, x29, x30, x31, x32, x33, x34, x35, x36, x37, x38, x39, ([] : LL), x41, x42, x43, x44, x45, x46, x47, x48, x49, x50, x51, x52, x53, x54, x55, x56, x57, x58, x59, x60, x61, x62, x63, x64, x65, x66, x67, x68, x69, x70, x71, x72, x73)
 else
 if (cop .eql x74 8) = true then
 some (x0, x1, x2, x3, 0, x5, x6, x7, x8, x9, x10, x11, x12, x13, x14, x15, x16, x17, x18, x19, x20, x21, x22, x23, x24, x25, x26, x27, x28, x29, x30, x31, x32, x33, x34, x35, x36, x37, x38, x39, x40, x41, x42, x43, x44, x45, x46, x47, x48, x49, x50, x51, x52, x53, x54, x55, x56, x57, x58, x59, x60, x61, x62, x63, x64, x65, x66, x67, x68, x69, x70, x71, x72, x73)
 else
 if (cop .eql x74 9) = true then
 some (x0, x1, x2, x3, x4, x5, x6, x7, x8, x9, x10, x11, x12, x13, x14, x15, x16, x17, x18, x19, x20, x21, x22, x23, x24, x25, x26, x27, x28, x29, x30, x31, x32, x33, x34, x35, x36, x37, x38, x39, x40, x41, ([] : LL), x43, x44, x45, x46, x47, x48, x49, x50, x51, x52, x53, x54, x55, x56, x57, x58, x59, x60, x61, x62, x63, x64, x65, x66, x67, x68, x69, x70, x71, x72, x73)
 else
 if (cop .eql x74 10) = true then
 some (x0, x1, x2, x3, x4, x5, x6, x7, x8, x9, x10, x11, x12, x13, x14, x15, x16, x17, x18, x19, x20, x21, x22, x23, x24, x25, x26, x27, x28, x29, x30, x31, x32, x33, x34, x35, x36, x37, x38, x39, x40, x41, x42, x43, x44, x45, x46, x47, x48, x49, x50, x51, x52, x53, 0, 0, ([] : LL), ([] : LL), ([] : LL), ([] : LL), ([] : LL), ([] : LL), ([] : LL), ([] : LL), false, 0, ([] : LL), ([] : LL), ([] : LL), ([] : LL), ([] : LL), ([] : LL), ([] : LL), ([] : LL))
 else
 if (cop .eql x74 11) = true then
 some (x0, x1, x2, x3, x4, x5, x6, x7, x8, x9, x10, x11, x12, x13, x14, x15, x16, x17, x18, x19, x20, x21, x22, x23, x24, x25, x26, x27, x28, x29, x30, x31, x32, x33, x34, x35, x36, x37, x38, x39, x40, x41, x42, x43, 0, x45, x46, x47, x48, x49, x50, x51, x52, x53, x54, x55, x56, x57, x58, x59, x60, x61, x62, x63, x64, x65, x66, x67, x68, x69, x70, x71, x72, x73)
 else
 if (cop .eql x74 12) = true then
 some (x0, x1, x2, x3, x4, x5, x6, x7, x8, x9, x10, x11, x12, x13, x14, x15, x16, x17, x18, x19, x20, x21, x22, x23, x24, x25, x26, x27, x28, x29, x30, x31, x32, x33, x34, x35, x36, x37, x38, x39, x40, x41, x42, x43, x44, 0, ([] : LL), ([] : LL), x48, x49, x50, x51, x52, x53, x54, x55, x56, x57, x58, x59, x60, x61, x62, x63, x64, x65, x66, x67, x68, x69, x70, x71, x72, x73)
 else
 if (cop .eql x74 13) = true then
 some (x0, x1, x2, x3, x4, x5, x6, x7, x8, x9, x10, x11, x12, x13, x14, x15, x16, x17, x18, x19, x20, x21, x22, x23, x24, x25, x26, x27, x28, x29, x30, x31, x32, x33, x34, x35, x36, x37, x38, x39, x40, x41, x42, x43, x44, x45, x46, x47, ([] : LL), ([] : LL), ([] : LL), ([] : LL), ([] : LL), ([] : LL), x54, x55, x56, x57, x58, x59, x60, x61, x62, x63, x64, x65, x66, x67, x68, x69, x70, x71, x72, x73)
 else
 if (cop .eql x74 14) = true then
 some (x0, x1, x2, x3, x4, x5, x6, x7, x8, x9, x10, x11, x12, x13, x14, x15, x16, x17, x18, x19, x20, x21, x22, x23, x24, x25, x26, x27, x28, x29, x30, x31, x32, x33, x34, x35, x36, x37, x38, x39, x40, x41, x42, ([] : LL), x44, x45, x46, x47, x48, x49, x50, x51, x52, x53, x54, x55, x56, x57, x58, x59, x60, x61, x62, x63, x64, x65, x66, x67, x68, x69, x70, x71, x72, x73)
 else
 some (x0, x1, x2, x3, x4, x5, x6, x7, x8, x9, x10, x11, x12, x13, x14, x15, x16, x17, x18, x19, x20, x21, x22, x23, x24, x25, x26, x27, x28, x29, x30, x31, x32, x33, x34, x35, x36, x37, x38, x39, x40, x41, x42, x43, x44, x45, x46, x47, x48, x49, x50, x51, x52, x53, x54, x55, x56, x57, x58, x59, x60, x61, x62, x63, x64, x65, x66, x67, x68, x69, x70, x71, x72, x73)) := by kernel_rfl
noncomputable def F139 : Fn := ⟨29, [2], [], [], 0, [], [], Tryz.f139, [.agg hs3], [.c (.bool)], [(156, F156.S)]⟩
theorem ok139 : F139.S.Ok Tryz.prog 139 := F139.ok Tryz.func139 (by kernel_rfl) ⟨ok156, trivial⟩
noncomputable def g139 (x0 x1 x2 x3 x4 x5 x6 x7 x8 x9 x10 x11 x12 x13 x14 x15 x16 x17 x18 x19 : Int) (x20 : LL) (x21 x22 x23 x24 x25 x26 : Int) (x27 : Bool) : Option (Bool) := F139.S.g [.i x0, .i x1, .i x2, .i x3, .i x4, .i x5, .i x6, .i x7, .i x8, .i x9, .i x10, .i x11, .i x12, .i x13, .i x14, .i x15, .i x16, .i x17, .i x18, .i x19, .l x20, .i x21, .i x22, .i x23, .i x24, .i x25, .i x26, .b x27]
theorem g139_eq (x0 x1 x2 x3 x4 x5 x6 x7 x8 x9 x10 x11 x12 x13 x14 x15 x16 x17 x18 x19 : Int) (x20 : LL) (x21 x22 x23 x24 x25 x26 : Int) (x27 : Bool) : g139 x0 x1 x2 x3 x4 x5 x6 x7 x8 x9 x10 x11 x12 x13 x14 x15 x16 x17 x18 x19 x20 x21 x22 x23 x24 x25 x26 x27 =
 (if ((cop .eql x0 0) && ((cop .eql x1 0) && ((cop .eql x2 0) && true))) = true then
 if ((cop .eql x3 0) && ((cop .eql x4 0) && ((cop .eql x5 0) && ((cop .eql x6 0) && ((cop .eql x7 0) && ((cop .eql x8 0) && ((cop .eql x9 0) && ((cop .eql x10 0) && ((cop .eql x11 0) && ((cop .eql x12 0) && ((cop .eql x13 0) && ((cop .eql x14 0) && true)))))))))))) = true then
 if (cop .eql x15 0) = true then
 if (cop .eql x16 0) = true then
 (g156 x17 x18 x19 x20 x21 x22 x23 x24 x25 x26 x27 0 0 0 ([] : LL) 0 0 0 0 0 0 false).bind fun (r28 : Bool) =>
 some (r28)
 else
 some (false)
 else
 some (false)
 else
 some (false)
 else
 some (false)) := by kernel_rfl
noncomputable def F140 : Fn := ⟨18, [2], [], [], 0, [], [], Tryz.f140, [.agg [.int .i64, .slice 1, .slice 1]], [.c (.bool)], []⟩
theorem ok140 : F140.S.Ok Tryz.prog 140 := F140.ok Tryz.func140 (by kernel_rfl) trivial
noncomputable def g140 (x0 : Int) (x1 x2 : LL) : Option (Bool) := F140.S.g [.i x0, .l x1, .l x2]
theorem g140_eq (x0 : Int) (x1 x2 : LL) : g140 x0 x1 x2 =
 (if (cop .eql x0 0) = true then
 if (cop .eql (List.length x1 : Int) 0) = true then
 some ((cop .eql (List.length x2 : Int) 0))
 else
 some (false)
 else
 some (false)) := by kernel_rfl
noncomputable def F141 : Fn := ⟨37, [2], [], [], 0, [], [], Tryz.f141, [.agg hs19], [.c (.bool)], []⟩
theorem ok141 : F141.S.Ok Tryz.prog 141 := F141.ok Tryz.func141 (by kernel_rfl) trivial
noncomputable def g141 (x0 x1 x2 x3 x4 x5 : LL) : Option (Bool) := F141.S.g [.l x0, .l x1, .l x2, .l x3, .l x4, .l x5]
theorem g141_eq (x0 x1 x2 x3 x4 x5 : LL) : g141 x0 x1 x2 x3 x4 x5 =
 (if (cop .eql (List.length x0 : Int) 0) = true then
 if (cop .eql (List.length x1 : Int) 0) = true then
 if (cop .eql (List.length x2 : Int) 0) = true then
 if (cop .eql (List.length x3 : Int) 0) = true then
 if (cop .eql (List.length x4 : Int) 0) = true then
 some ((cop .eql (List.length x5 : Int) 0))
 else
 some (false)
 else
 some (false)
 else
 some (false)
 else
 some (false)
 else
 some (false)) := by kernel_rfl
noncomputable def F142 : Fn := ⟨31, [2], [], [], 0, [], [], Tryz.f142, [.agg hs4], [.c (.bool)], [(140, F140.S), (141, F141.S)]⟩
theorem ok142 : F142.S.Ok Tryz.prog 142 := F142.ok Tryz.func142 (by kernel_rfl) ⟨ok140, ⟨ok141, trivial⟩⟩
noncomputable def g142 (x0 x1 : Int) (x2 x3 x4 x5 x6 x7 x8 x9 : LL) (x10 : Bool) (x11 : Int) (x12 x13 x14 x15 x16 x17 x18 x19 : LL) : Option (Bool) := F142.S.g [.i x0, .i x1, .l x2, .l x3, .l x4, .l x5, .l x6, .l x7, .l x8, .l x9, .b x10, .i x11, .l x12, .l x13, .l x14, .l x15, .l x16, .l x17, .l x18, .l x19]
theorem g142_eq (x0 x1 : Int) (x2 x3 x4 x5 x6 x7 x8 x9 : LL) (x10 : Bool) (x11 : Int) (x12 x13 x14 x15 x16 x17 x18 x19 : LL) : g142 x0 x1 x2 x3 x4 x5 x6 x7 x8 x9 x10 x11 x12 x13 x14 x15 x16 x17 x18 x19 =
 (if (cop .eql x0 0) = true then
 (g140 x1 x2 x3).bind fun (r20 : Bool) =>
 if r20 = true then
 (g141 x4 x5 x6 x7 x8 x9).bind fun (r21 : Bool) =>
 if r21 = true then
 if (!x10) = true then
 (g140 x11 x12 x13).bind fun (r22 : Bool) =>
 if r22 = true then
 (g141 x14 x15 x16 x17 x18 x19).bind fun (r23 : Bool) =>
 some (r23)
 else
 some (false)
 else
 some (false)
 else
 some (false)
 else
 some (false)
 else
 some (false)) := by kernel_rfl
noncomputable def F80 : Fn := ⟨81, [2], [], [], 0, [], [], Tryz.f80, [.agg hs0], [.c (.bool)], [(139, F139.S), (140, F140.S), (141, F141.S), (142, F142.S)]⟩
theorem ok80 : F80.S.Ok Tryz.prog 80 := F80.ok Tryz.func80 (by kernel_rfl) ⟨ok139, ⟨ok140, ⟨ok141, ⟨ok142, trivial⟩⟩⟩⟩
noncomputable def g80 (x0 x1 x2 x3 x4 x5 x6 x7 x8 x9 x10 : Int) (x11 : Bool) (x12 x13 x14 x15 x16 x17 x18 x19 x20 x21 x22 x23 x24 x25 x26 x27 x28 x29 x30 x31 : Int) (x32 : LL) (x33 x34 x35 x36 x37 x38 : Int) (x39 : Bool) (x40 x41 x42 x43 : LL) (x44 x45 : Int) (x46 x47 x48 x49 x50 x51 x52 x53 : LL) (x54 x55 : Int) (x56 x57 x58 x59 x60 x61 x62 x63 : LL) (x64 : Bool) (x65 : Int) (x66 x67 x68 x69 x70 x71 x72 x73 : LL) : Option (Bool) := F80.S.g [.i x0, .i x1, .i x2, .i x3, .i x4, .i x5, .i x6, .i x7, .i x8, .i x9, .i x10, .b x11, .i x12, .i x13, .i x14, .i x15, .i x16, .i x17, .i x18, .i x19, .i x20, .i x21, .i x22, .i x23, .i x24, .i x25, .i x26, .i x27, .i x28, .i x29, .i x30, .i x31, .l x32, .i x33, .i x34, .i x35, .i x36, .i x37, .i x38, .b x39, .l x40, .l x41, .l x42, .l x43, .i x44, .i x45, .l x46, .l x47, .l x48, .l x49, .l x50, .l x51, .l x52, .l x53, .i x54, .i x55, .l x56, .l x57, .l x58, .l x59, .l x60, .l x61, .l x62, .l x63, .b x64, .i x65, .l x66, .l x67, .l x68, .l x69, .l x70, .l x71, .l x72, .l x73]
theorem g80_eq (x0 x1 x2 x3 x4 x5 x6 x7 x8 x9 x10 : Int) (x11 : Bool) (x12 x13 x14 x15 x16 x17 x18 x19 x20 x21 x22 x23 x24 x25 x26 x27 x28 x29 x30 x31 : Int) (x32 : LL) (x33 x34 x35 x36 x37 x38 : Int) (x39 : Bool) (x40 x41 x42 x43 : LL) (x44 x45 : Int) (x46 x47 x48 x49 x50 x51 x52 x53 : LL) (x54 x55 : Int) (x56 x57 x58 x59 x60 x61 x62 x63 : LL) (x64 : Bool) (x65 : Int) (x66 x67 x68 x69 x70 x71 x72 x73 : LL) : g80 x0 x1 x2 x3 x4 x5 x6 x7 x8 x9 x10 x11 x12 x13 x14 x15 x16 x17 x18 x19 x20 x21 x22 x23 x24 x25 x26 x27 x28 x29 x30 x31 x32 x33 x34 x35 x36 x37 x38 x39 x40 x41 x42 x43 x44 x45 x46 x47 x48 x49 x50 x51 x52 x53 x54 x55 x56 x57 x58 x59 x60 x61 x62 x63 x64 x65 x66 x67 x68 x69 x70 x71 x72 x73 =
 (if (cop .eql x4 0) = true then
 if (cop .eql x5 0) = true then
 if (cop .eql x6 0) = true then
 if ((cop .eql x7 0) && ((cop .eql x8 0) && ((cop .eql x9 0) && true))) = true then
 if (cop .eql x10 0) = true then
 if (!x11) = true then
 (g139 x12 x13 x14 x15 x16 x17 x18 x19 x20 x21 x22 x23 x24 x25 x26 x27 x28 x29 x30 x31 x32 x33 x34 x35 x36 x37 x38 x39).bind fun (r74 : Bool) =>
 if r74 = true then
 if (cop .eql (List.length x40 : Int) 0) = true then
 if (cop .eql (List.length x41 : Int) 0) = true then
 if (cop .eql (List.length x42 : Int) 0) = true then
 if (cop .eql (List.length x43 : Int) 0) = true then
 if (cop .eql x44 0) = true then
 (g140 x45 x46 x47).bind fun (r75 : Bool) =>
 if r75 = true then
 (g141 x48 x49 x50 x51 x52 x53).bind fun (r76 : Bool) =>
 if r76 = true then
 (g142 x54 x55 x56 x57 x58 x59 x60 x61 x62 x63 x64 x65 x66 x67 x68 x69 x70 x71 x72 x73).bind fun (r77 : Bool) =>
 some (r77)
 else
 some (false)
 else
 some (false)
 else
 some (false)
 else
 some (false)
 else
 some (false)
 else
 some (false)
 else
 some (false)
 else
 some (false)
 else
 some (false)
 else
 some (false)
 else
 some (false)
 else
 some (false)
 else
 some (false)
 else
 some (false)) := by kernel_rfl
noncomputable def F44 : Fn := ⟨50, [2], [(6, [(1, .box hs0), (5, .box hs0), (35, .c (.slice 1)), (36, .c (.int .i64)), (37, .c (.int .i64))])], [], 0, [], [], Tryz.f44, [.agg hs0], [.c (.bool)], [(75, F75.S), (76, F76.S), (77, F77.S), (78, F78.S), (79, F79.S), (80, F80.S)]⟩
theorem ok44 : F44.S.Ok Tryz.prog 44 := F44.ok Tryz.func44 (by kernel_rfl) ⟨ok75, ⟨ok76, ⟨ok77, ⟨ok78, ⟨ok79, ⟨ok80, trivial⟩⟩⟩⟩⟩⟩
noncomputable def g44 (x0 x1 x2 x3 x4 x5 x6 x7 x8 x9 x10 : Int) (x11 : Bool) (x12 x13 x14 x15 x16 x17 x18 x19 x20 x21 x22 x23 x24 x25 x26 x27 x28 x29 x30 x31 : Int) (x32 : LL) (x33 x34 x35 x36 x37 x38 : Int) (x39 : Bool) (x40 x41 x42 x43 : LL) (x44 x45 : Int) (x46 x47 x48 x49 x50 x51 x52 x53 : LL) (x54 x55 : Int) (x56 x57 x58 x59 x60 x61 x62 x63 : LL) (x64 : Bool) (x65 : Int) (x66 x67 x68 x69 x70 x71 x72 x73 : LL) : Option (Bool) := F44.S.g [.i x0, .i x1, .i x2, .i x3, .i x4, .i x5, .i x6, .i x7, .i x8, .i x9, .i x10, .b x11, .i x12, .i x13, .i x14, .i x15, .i x16, .i x17, .i x18, .i x19, .i x20, .i x21, .i x22, .i x23, .i x24, .i x25, .i x26, .i x27, .i x28, .i x29, .i x30, .i x31, .l x32, .i x33, .i x34, .i x35, .i x36, .i x37, .i x38, .b x39, .l x40, .l x41, .l x42, .l x43, .i x44, .i x45, .l x46, .l x47, .l x48, .l x49, .l x50, .l x51, .l x52, .l x53, .i x54, .i x55, .l x56, .l x57, .l x58, .l x59, .l x60, .l x61, .l x62, .l x63, .b x64, .i x65, .l x66, .l x67, .l x68, .l x69, .l x70, .l x71, .l x72, .l x73]
noncomputable def g44L0 (k : Nat) (x0 x1 x2 x3 x4 x5 x6 x7 x8 x9 x10 : Int) (x11 : Bool) (x12 x13 x14 x15 x16 x17 x18 x19 x20 x21 x22 x23 x24 x25 x26 x27 x28 x29 x30 x31 : Int) (x32 : LL) (x33 x34 x35 x36 x37 x38 : Int) (x39 : Bool) (x40 x41 x42 x43 : LL) (x44 x45 : Int) (x46 x47 x48 x49 x50 x51 x52 x53 : LL) (x54 x55 : Int) (x56 x57 x58 x59 x60 x61 x62 x63 : LL) (x64 : Bool) (x65 : Int) (x66 x67 x68 x69 x70 x71 x72 x73 : LL) (x74 x75 x76 x77 x78 x79 x80 x81 x82 x83 x84 : Int) (x85 : Bool) (x86 x87 x88 x89 x90 x91 x92 x93 x94 x95 x96 x97 x98 x99 x100 x101 x102 x103 x104 x105 : Int) (x106 : LL) (x107 x108 x109 x110 x111 x112 : Int) (x113 : Bool) (x114 x115 x116 x117 : LL) (x118 x119 : Int) (x120 x121 x122 x123 x124 x125 x126 x127 : LL) (x128 x129 : Int) (x130 x131 x132 x133 x134 x135 x136 x137 : LL) (x138 : Bool) (x139 : Int) (x140 x141 x142 x143 x144 x145 x146 x147 x148 : LL) (x149 x150 : Int) : Option (Bool) := F44.lp [0, 1, 0, 1, 0, 1, 0, 1, 0] 0 r0 k [.i x0, .i x1, .i x2, .i x3, .i x4, .i x5, .i x6, .i x7, .i x8, .i x9, .i x10, .b x11, .i x12, .i x13, .i x14, .i x15, .i x16, .i x17, .i x18, .i x19, .i x20, .i x21, .i x22, .i x23, .i x24, .i x25, .i x26, .i x27, .i x28, .i x29, .i x30, .i x31, .l x32, .i x33, .i x34, .i x35, .i x36, .i x37, .i x38, .b x39, .l x40, .l x41, .l x42, .l x43, .i x44, .i x45, .l x46, .l x47, .l x48, .l x49, .l x50, .l x51, .l x52, .l x53, .i x54, .i x55, .l x56, .l x57, .l x58, .l x59, .l x60, .l x61, .l x62, .l x63, .b x64, .i x65, .l x66, .l x67, .l x68, .l x69, .l x70, .l x71, .l x72, .l x73, .i x74, .i x75, .i x76, .i x77, .i x78, .i x79, .i x80, .i x81, .i x82, .i x83, .i x84, .b x85, .i x86, .i x87, .i x88, .i x89, .i x90, .i x91, .i x92, .i x93, .i x94, .i x95, .i x96, .i x97, .i x98, .i x99, .i x100, .i x101, .i x102, .i x103, .i x104, .i x105, .l x106, .i x107, .i x108, .i x109, .i x110, .i x111, .i x112, .b x113, .l x114, .l x115, .l x116, .l x117, .i x118, .i x119, .l x120, .l x121, .l x122, .l x123, .l x124, .l x125, .l x126, .l x127, .i x128, .i x129, .l x130, .l x131, .l x132, .l x133, .l x134, .l x135, .l x136, .l x137, .b x138, .i x139, .l x140, .l x141, .l x142, .l x143, .l x144, .l x145, .l x146, .l x147, .l x148, .i x149, .i x150]
theorem g44L0_eq (k : Nat) (x0 x1 x2 x3 x4 x5 x6 x7 x8 x9 x10 : Int) (x11 : Bool) (x12 x13 x14 x15 x16 x17 x18 x19 x20 x21 x22 x23 x24 x25 x26 x27 x28 x29 x30 x31 : Int) (x32 : LL) (x33 x34 x35 x36 x37 x38 : Int) (x39 : Bool) (x40 x41 x42 x43 : LL) (x44 x45 : Int) (x46 x47 x48 x49 x50 x51 x52 x53 : LL) (x54 x55 : Int) (x56 x57 x58 x59 x60 x61 x62 x63 : LL) (x64 : Bool) (x65 : Int) (x66 x67 x68 x69 x70 x71 x72 x73 : LL) (x74 x75 x76 x77 x78 x79 x80 x81 x82 x83 x84 : Int) (x85 : Bool) (x86 x87 x88 x89 x90 x91 x92 x93 x94 x95 x96 x97 x98 x99 x100 x101 x102 x103 x104 x105 : Int) (x106 : LL) (x107 x108 x109 x110 x111 x112 : Int) (x113 : Bool) (x114 x115 x116 x117 : LL) (x118 x119 : Int) (x120 x121 x122 x123 x124 x125 x126 x127 : LL) (x128 x129 : Int) (x130 x131 x132 x133 x134 x135 x136 x137 : LL) (x138 : Bool) (x139 : Int) (x140 x141 x142 x143 x144 x145 x146 x147 x148 : LL) (x149 x150 : Int) : g44L0 (k + 1) x0 x1 x2 x3 x4 x5 x6 x7 x8 x9 x10 x11 x12 x13 x14 x15 x16 x17 x18 x19 x20 x21 x22 x23 x24 x25 x26 x27 x28 x29 x30 x31 x32 x33 x34 x35 x36 x37 x38 x39 x40 x41 x42 x43 x44 x45 x46 x47 x48 x49 x50 x51 x52 x53 x54 x55 x56 x57 x58 x59 x60 x61 x62 x63 x64 x65 x66 x67 x68 x69 x70 x71 x72 x73 x74 x75 x76 x77 x78 x79 x80 x81 x82 x83 x84 x85 x86 x87 x88 x89 x90 x91 x92 x93 x94 x95 x96 x97 x98 x99 x100 x101 x102 x103 x104 x105 x106 x107 x108 x109 x110 x111 x112 x113 x114 x115 x116 x117 x118 x119 x120 x121 x122 x123 x124 x125 x126 x127 x128 x129 x130 x131 x132 x133 x134 x135 x136 x137 x138 x139 x140 x141 x142 x143 x144 x145 x146 x147 x148 x149 x150 =
 (if (cop .lss x150 x149) = true then
 elemK x148 x150 [.int .i64] fun (r151 : Int) =>
 (g78 x0 x1 x2 x3 x4 x5 x6 x7 x8 x9 x10 x11 x12 x13 x14 x15 x16 x17 x18 x19 x20 x21 x22 x23 x24 x25 x26 x27 x28 x29 x30 x31 x32 x33 x34 x35 x36 x37 x38 x39 x40 x41 x42 x43 x44 x45 x46 x47 x48 x49 x50 x51 x52 x53 x54 x55 x56 x57 x58 x59 x60 x61 x62 x63 x64 x65 x66 x67 x68 x69 x70 x71 x72 x73 r151).bind fun (r152 : Bool) =>
 if (!r152) = true then
 some (false)
 else
 (g79 x74 x75 x76 x77 x78 x79 x80 x81 x82 x83 x84 x85 x86 x87 x88 x89 x90 x91 x92 x93 x94 x95 x96 x97 x98 x99 x100 x101 x102 x103 x104 x105 x106 x107 x108 x109 x110 x111 x112 x113 x114 x115 x116 x117 x118 x119 x120 x121 x122 x123 x124 x125 x126 x127 x128 x129 x130 x131 x132 x133 x134 x135 x136 x137 x138 x139 x140 x141 x142 x143 x144 x145 x146 x147 r151).bind fun (r153 : Qt2) =>
 g44L0 k x0 x1 x2 x3 x4 x5 x6 x7 x8 x9 x10 x11 x12 x13 x14 x15 x16 x17 x18 x19 x20 x21 x22 x23 x24 x25 x26 x27 x28 x29 x30 x31 x32 x33 x34 x35 x36 x37 x38 x39 x40 x41 x42 x43 x44 x45 x46 x47 x48 x49 x50 x51 x52 x53 x54 x55 x56 x57 x58 x59 x60 x61 x62 x63 x64 x65 x66 x67 x68 x69 x70 x71 x72 x73 r153.1 r153.2.1 r153.2.2.1 r153.2.2.2.1 r153.2.2.2.2.1 r153.2.2.2.2.2.1 r153.2.2.2.2.2.2.1 r153.2.2.2.2.2.2.2.1 r153.2.2.2.2.2.2.2.2.1 r153.2.2.2.2.2.2.2.2.2.1 r153.2.2.2.2.2.2.2.2.2.2.1 r153.2.2.2.2.2.2.2.2.2.2.2.1 (d4 (d8 r153)).1 (d4 (d8 r153)).2.1 (d2 (d4 (d8 r153))).1 (d2 (d4 (d8 r153))).2.1 (d16 r153).1 (d16 r153).2.1 (d2 (d16 r153)).1 (d2 (d16 r153)).2.1 (d4 (d16 r153)).1 (d4 (d16 r153)).2.1 (d2 (d4 (d16 r153))).1 (d2 (d4 (d16 r153))).2.1 (d8 (d16 r153)).1 (d8 (d16 r153)).2.1 (d2 (d8 (d16 r153))).1 (d2 (d8 (d16 r153))).2.1 (d4 (d8 (d16 r153))).1 (d4 (d8 (d16 r153))).2.1 (d2 (d4 (d8 (d16 r153)))).1 (d2 (d4 (d8 (d16 r153)))).2.1 (d16 (d16 r153)).1 (d16 (d16 r153)).2.1 (d2 (d16 (d16 r153))).1 (d2 (d16 (d16 r153))).2.1 (d4 (d16 (d16 r153))).1 (d4 (d16 (d16 r153))).2.1 (d2 (d4 (d16 (d16 r153)))).1 (d2 (d4 (d16 (d16 r153)))).2.1 (d8 (d16 (d16 r153))).1 (d8 (d16 (d16 r153))).2.1 (d2 (d8 (d16 (d16 r153)))).1 (d2 (d8 (d16 (d16 r153)))).2.1 (d4 (d8 (d16 (d16 r153)))).1 (d4 (d8 (d16 (d16 r153)))).2.1 (d2 (d4 (d8 (d16 (d16 r153))))).1 (d2 (d4 (d8 (d16 (d16 r153))))).2.1 (d16 (d16 (d16 r153))).1 (d16 (d16 (d16 r153))).2.1 (d2 (d16 (d16 (d16 r153)))).1 (d2 (d16 (d16 (d16 r153)))).2.1 (d4 (d16 (d16 (d16 r153)))).1 (d4 (d16 (d16 (d16 r153)))).2.1 (d2 (d4 (d16 (d16 (d16 r153))))).1 (d2 (d4 (d16 (d16 (d16 r153))))).2.1 (d8 (d16 (d16 (d16 r153)))).1 (d8 (d16 (d16 (d16 r153)))).2.1 (d2 (d8 (d16 (d16 (d16 r153))))).1 (d2 (d8 (d16 (d16 (d16 r153))))).2.1 (d4 (d8 (d16 (d16 (d16 r153))))).1 (d4 (d8 (d16 (d16 (d16 r153))))).2.1 (d2 (d4 (d8 (d16 (d16 (d16 r153)))))).1 (d2 (d4 (d8 (d16 (d16 (d16 r153)))))).2.1 (d16 (d16 (d16 (d16 r153)))).1 (d16 (d16 (d16 (d16 r153)))).2.1 (d2 (d16 (d16 (d16 (d16 r153))))).1 (d2 (d16 (d16 (d16 (d16 r153))))).2.1 (d4 (d16 (d16 (d16 (d16 r153))))).1 (d4 (d16 (d16 (d16 (d16 r153))))).2.1 (d2 (d4 (d16 (d16 (d16 (d16 r153)))))).1 (d2 (d4 (d16 (d16 (d16 (d16 r153)))))).2.1 (d8 (d16 (d16 (d16 (d16 r153))))).1 (d8 (d16 (d16 (d16 (d16 r153))))).2 x148 x149 (iop .add .i64 x150 1)
 else
 (g80 x74 x75 x76 x77 x78 x79 x80 x81 x82 x83 x84 x85 x86 x87 x88 x89 x90 x91 x92 x93 x94 x95 x96 x97 x98 x99 x100 x101 x102 x103 x104 x105 x106 x107 x108 x109 x110 x111 x112 x113 x114 x115 x116 x117 x118 x119 x120 x121 x122 x123 x124 x125 x126 x127 x128 x129 x130 x131 x132 x133 x134 x135 x136 x137 x138 x139 x140 x141 x142 x143 x144 x145 x146 x147).bind fun (r151 : Bool) =>
 some (r151)) := by kernel_rfl
theorem g44_eq (x0 x1 x2 x3 x4 x5 x6 x7 x8 x9 x10 : Int) (x11 : Bool) (x12 x13 x14 x15 x16 x17 x18 x19 x20 x21 x22 x23 x24 x25 x26 x27 x28 x29 x30 x31 : Int) (x32 : LL) (x33 x34 x35 x36 x37 x38 : Int) (x39 : Bool) (x40 x41 x42 x43 : LL) (x44 x45 : Int) (x46 x47 x48 x49 x50 x51 x52 x53 : LL) (x54 x55 : Int) (x56 x57 x58 x59 x60 x61 x62 x63 : LL) (x64 : Bool) (x65 : Int) (x66 x67 x68 x69 x70 x71 x72 x73 : LL) : g44 x0 x1 x2 x3 x4 x5 x6 x7 x8 x9 x10 x11 x12 x13 x14 x15 x16 x17 x18 x19 x20 x21 x22 x23 x24 x25 x26 x27 x28 x29 x30 x31 x32 x33 x34 x35 x36 x37 x38 x39 x40 x41 x42 x43 x44 x45 x46 x47 x48 x49 x50 x51 x52 x53 x54 x55 x56 x57 x58 x59 x60 x61 x62 x63 x64 x65 x66 x67 x68 x69 x70 x71 x72 x73 =
 ((g75 x0).bind fun (r74 : LL × Bool) =>
 if (!r74.2) = true then
 some (false)
 else
 (g76 x1).bind fun (r76 : Bool) =>
 if (!r76) = true then
 some (false)
 else
 (g77 x2).bind fun (r77 : Bool) =>
 if (!r77) = true then
 some (false)
 else
 (g77 x3).bind fun (r78 : Bool) =>
 if (!r78) = true then
 some (false)
 else
 g44L0 FUEL x0 x1 x2 x3 x4 x5 x6 x7 x8 x9 x10 x11 x12 x13 x14 x15 x16 x17 x18 x19 x20 x21 x22 x23 x24 x25 x26 x27 x28 x29 x30 x31 x32 x33 x34 x35 x36 x37 x38 x39 x40 x41 x42 x43 x44 x45 x46 x47 x48 x49 x50 x51 x52 x53 x54 x55 x56 x57 x58 x59 x60 x61 x62 x63 x64 x65 x66 x67 x68 x69 x70 x71 x72 x73 x0 x1 x2 x3 x4 x5 x6 x7 x8 x9 x10 x11 x12 x13 x14 x15 x16 x17 x18 x19 x20 x21 x22 x23 x24 x25 x26 x27 x28 x29 x30 x31 x32 x33 x34 x35 x36 x37 x38 x39 x40 x41 x42 x43 x44 x45 x46 x47 x48 x49 x50 x51 x52 x53 x54 x55 x56 x57 x58 x59 x60 x61 x62 x63 x64 x65 x66 x67 x68 x69 x70 x71 x72 x73 r74.1 (List.length r74.1 : Int) 0) := by kernel_rfl
noncomputable def F94 : Fn := ⟨31, [2], [], [], 0, [], [], Tryz.f94, [.agg [.int .i64, .int .i64, .int .i64]], [.c (.bool)], []⟩
theorem ok94 : F94.S.Ok Tryz.prog 94 := F94.ok Tryz.func94 (by kernel_rfl) trivial
noncomputable def g94 (x0 x1 x2 : Int) : Option (Bool) := F94.S.g [.i x0, .i x1, .i x2]
theorem g94_eq (x0 x1 x2 : Int) : g94 x0 x1 x2 =
 (if (cop .geq x0 0) = true then
 if (cop .lss x0 32) = true then
 if (cop .geq x1 1) = true then
 if (cop .leq x1 1073741824) = true then
 if (cop .geq x2 0) = true then
 some ((cop .lss x2 8))
 else
 some (false)
 else
 some (false)
 else
 some (false)
 else
 some (false)
 else
 some (false)) := by kernel_rfl
noncomputable def F83 : Fn := ⟨26, [4], [(4, [(0, .c (.slice 3)), (1, .c (.slice 3)), (5, .c (.int .i64))])], [], 0, [], [], Tryz.f83, [.c (.slice 3), .c (.slice 3)], [.c (.bool)], []⟩
theorem ok83 : F83.S.Ok Tryz.prog 83 := F83.ok Tryz.func83 (by kernel_rfl) trivial
noncomputable def g83 (x0 x1 : LL) : Option (Bool) := F83.S.g [.l x0, .l x1]
noncomputable def g83L0 (k : Nat) (x0 x1 : LL) (x2 : Int) : Option (Bool) := F83.lp [1, 0] 0 r0 k [.l x0, .l x1, .i x2]
theorem g83L0_eq (k : Nat) (x0 x1 : LL) (x2 : Int) : g83L0 (k + 1) x0 x1 x2 =
 (if (cop .lss x2 (List.length x0 : Int)) = true then
 elemK x0 x2 [.int .i64, .int .i64, .int .i64] fun (r3 : Int × Int × Int) =>
 elemK x1 x2 [.int .i64, .int .i64, .int .i64] fun (r6 : Int × Int × Int) =>
 if (!((cop .eql r3.1 r6.1) && ((cop .eql r3.2.1 r6.2.1) && ((cop .eql r3.2.2 r6.2.2) && true)))) = true then
 some (false)
 else
 g83L0 k x0 x1 (iop .add .i64 x2 1)
 else
 some (true)) := by kernel_rfl
theorem g83_eq (x0 x1 : LL) : g83 x0 x1 =
 (if (cop .neq (List.length x0 : Int) (List.length x1 : Int)) = true then
 some (false)
 else
 g83L0 FUEL x0 x1 0) := by kernel_rfl
noncomputable def F49 : Fn := ⟨24, [4], [], [], 0, [], [], Tryz.f49, [.agg hs10, .agg hs10], [.c (.bool)], [(83, F83.S)]⟩
theorem ok49 : F49.S.Ok Tryz.prog 49 := F49.ok Tryz.func49 (by kernel_rfl) ⟨ok83, trivial⟩
noncomputable def g49 (x0 x1 x2 : Int) (x3 : LL) (x4 x5 x6 x7 x8 x9 : Int) (x10 : Bool) (x11 x12 x13 : Int) (x14 : LL) (x15 x16 x17 x18 x19 x20 : Int) (x21 : Bool) : Option (Bool) := F49.S.g [.i x0, .i x1, .i x2, .l x3, .i x4, .i x5, .i x6, .i x7, .i x8, .i x9, .b x10, .i x11, .i x12, .i x13, .l x14, .i x15, .i x16, .i x17, .i x18, .i x19, .i x20, .b x21]
theorem g49_eq (x0 x1 x2 : Int) (x3 : LL) (x4 x5 x6 x7 x8 x9 : Int) (x10 : Bool) (x11 x12 x13 : Int) (x14 : LL) (x15 x16 x17 x18 x19 x20 : Int) (x21 : Bool) : g49 x0 x1 x2 x3 x4 x5 x6 x7 x8 x9 x10 x11 x12 x13 x14 x15 x16 x17 x18 x19 x20 x21 =
 (if ((cop .eql x0 x11) && ((cop .eql x1 x12) && ((cop .eql x2 x13) && true))) = true then
 if ((cop .eql x4 x15) && ((cop .eql x5 x16) && ((cop .eql x6 x17) && ((cop .eql x7 x18) && ((cop .eql x8 x19) && ((cop .eql x9 x20) && ((x10 == x21) && true))))))) = true then
 (g83 x3 x14).bind fun (r22 : Bool) =>
 some (r22)
 else
 some (false)
 else
 some (false)) := by kernel_rfl
noncomputable def F149 : Fn := ⟨12, [2], [], [], 0, [], [], Tryz.f149, [.c (.int .i64)], [.c (.int .i64)], []⟩
theorem ok149 : F149.S.Ok Tryz.prog 149 := F149.ok Tryz.func149 (by kernel_rfl) trivial
noncomputable def g149 (x0 : Int) : Option (Int) := F149.S.g [.i x0]
theorem g149_eq (x0 : Int) : g149 x0 =
 (if (cop .eql x0 3) = true then
 some (12)
 else
 if (cop .eql x0 4) = true then
 some (6)
 else
 if (cop .eql x0 5) = true then
 some (10)
 else
 if (cop .eql x0 6) = true then
 some (16)
 else
 some (0)) := by kernel_rfl
noncomputable def F91 : Fn := ⟨35, [4], [], [], 0, [], [], Tryz.f91, [.c (.int .i64), .c (.int .i64)], [.c (.bool)], [(149, F149.S)]⟩
theorem ok91 : F91.S.Ok Tryz.prog 91 := F91.ok Tryz.func91 (by kernel_rfl) ⟨ok149, trivial⟩
noncomputable def g91 (x0 x1 : Int) : Option (Bool) := F91.S.g [.i x0, .i x1]
theorem g91_eq (x0 x1 : Int) : g91 x0 x1 =
 (if (cop .eql x0 1) = true then
 if (cop .geq x1 6) = true then
 some ((cop .leq x1 40))
 else
 some (false)
 else
 if (cop .eql x0 2) = true then
 if (cop .geq x1 12) = true then
 some ((cop .leq x1 40))
 else
 some (false)
 else
 if (cop .geq x0 3) = true then
 if (cop .leq x0 6) = true then
 (g149 x0).bind fun (r2 : Int) =>
 some ((cop .eql x1 r2))
 else
 some (false)
 else
 some (false)) := by kernel_rfl
noncomputable def F87 : Fn := ⟨8, [2], [], [], 0, [], [], Tryz.f87, [.agg hs16], [.agg [.int .i64, .int .i64]], []⟩
theorem ok87 : F87.S.Ok Tryz.prog 87 := F87.ok Tryz.func87 (by kernel_rfl) trivial
noncomputable def g87 (x0 x1 x2 x3 x4 x5 : Int) (x6 : Bool) : Option (Int × Int) := F87.S.g [.i x0, .i x1, .i x2, .i x3, .i x4, .i x5, .b x6]
theorem g87_eq (x0 x1 x2 x3 x4 x5 : Int) (x6 : Bool) : g87 x0 x1 x2 x3 x4 x5 x6 =
 (some (x1, x2)) := by kernel_rfl
noncomputable def F145 : Fn := ⟨38, [2], [], [], 0, [], [], Tryz.f145, [.agg [.int .i64, .int .i64]], [.c (.bool)], []⟩
theorem ok145 : F145.S.Ok Tryz.prog 145 := F145.ok Tryz.func145 (by kernel_rfl) trivial
noncomputable def g145 (x0 x1 : Int) : Option (Bool) := F145.S.g [.i x0, .i x1]
theorem g145_eq (x0 x1 : Int) : g145 x0 x1 =
 (if (cop .lss x1 6) = true then
 some (false)
 else
 if (cop .gtr x1 40) = true then
 some (false)
 else
 if (cop .lss x0 0) = true then
 some (false)
 else
 if (cop .geq x0 1099511627776) = true then
 some (false)
 else
 reqK ((0 : Int) ≤ (IntKind.wrap .u64 x1)) <|
 reqK (((iop .shl .i64 1 (IntKind.wrap .u64 x1)) : Int) ≠ 0) <|
 if (cop .eql (iop .rem .i64 x0 (iop .shl .i64 1 (IntKind.wrap .u64 x1))) 0) = true then
 some ((cop .leq (iop .add .i64 x0 (iop .shl .i64 1 (IntKind.wrap .u64 x1))) 1099511627776))
 else
 some (false)) := by kernel_rfl
noncomputable def F92 : Fn := ⟨23, [4], [], [], 0, [], [], Tryz.f92, [.c (.int .i64), .c (.int .i64)], [.c (.bool)], []⟩
theorem ok92 : F92.S.Ok Tryz.prog 92 := F92.ok Tryz.func92 (by kernel_rfl) trivial
noncomputable def g92 (x0 x1 : Int) : Option (Bool) := F92.S.g [.i x0, .i x1]
theorem g92_eq (x0 x1 : Int) : g92 x0 x1 =
 (if (cop .geq x1 0) = true then
 if (cop .eql x0 32) = true then
 if (cop .leq x1 1) = true then
 some (true)
 else
 if (cop .eql x0 39) = true then
 some ((cop .leq x1 2))
 else
 some (false)
 else
 if (cop .eql x0 39) = true then
 some ((cop .leq x1 2))
 else
 some (false)
 else
 some (false)) := by kernel_rfl
noncomputable def F90 : Fn := ⟨64, [2], [], [], 0, [], [], Tryz.f90, [.agg hs16], [.c (.bool)], [(91, F91.S), (87, F87.S), (145, F145.S), (92, F92.S)]⟩
theorem ok90 : F90.S.Ok Tryz.prog 90 := F90.ok Tryz.func90 (by kernel_rfl) ⟨ok91, ⟨ok87, ⟨ok145, ⟨ok92, trivial⟩⟩⟩⟩
noncomputable def g90 (x0 x1 x2 x3 x4 x5 : Int) (x6 : Bool) : Option (Bool) := F90.S.g [.i x0, .i x1, .i x2, .i x3, .i x4, .i x5, .b x6]
theorem g90_eq (x0 x1 x2 x3 x4 x5 : Int) (x6 : Bool) : g90 x0 x1 x2 x3 x4 x5 x6 =
 ((g91 x0 x2).bind fun (r7 : Bool) =>
 if (!r7) = true then
 some (false)
 else
 (g87 x0 x1 x2 x3 x4 x5 x6).bind fun (r8 : Int × Int) =>
 (g145 r8.1 r8.2).bind fun (r10 : Bool) =>
 if (!r10) = true then
 some (false)
 else
 if (cop .lss x3 0) = true then
 some (false)
 else
 if (cop .gtr x3 7) = true then
 some (false)
 else
 if (cop .eql x0 3) = true then
 (g92 x4 x5).bind fun (r11 : Bool) =>
 if (!r11) = true then
 some (false)
 else
 if (cop .neq x0 3) = true then
 if (cop .neq x4 0) = true then
 some (false)
 else
 if (cop .neq x5 0) = true then
 some (false)
 else
 if (!x6) = true then
 some (true)
 else
 if (cop .eql x0 1) = true then
 some (true)
 else
 some ((cop .eql x0 2))
 else
 if (!x6) = true then
 some (true)
 else
 if (cop .eql x0 1) = true then
 some (true)
 else
 some ((cop .eql x0 2))
 else
 if (cop .neq x0 3) = true then
 if (cop .neq x4 0) = true then
 some (false)
 else
 if (cop .neq x5 0) = true then
 some (false)
 else
 if (!x6) = true then
 some (true)
 else
 if (cop .eql x0 1) = true then
 some (true)
 else
 some ((cop .eql x0 2))
 else
 if (!x6) = true then
 some (true)
 else
 if (cop .eql x0 1) = true then
 some (true)
 else
 some ((cop .eql x0 2))) := by kernel_rfl
noncomputable def F58 : Fn := ⟨18, [4], [(2, [(0, .c (.slice 3)), (3, .box [.int .i64, .int .i64, .int .i64]), (5, .c (.int .i64))])], [], 0, [], [], Tryz.f58, [.c (.slice 3), .agg [.int .i64, .int .i64, .int .i64]], [.c (.bool)], []⟩
theorem ok58 : F58.S.Ok Tryz.prog 58 := F58.ok Tryz.func58 (by kernel_rfl) trivial
noncomputable def g58 (x0 : LL) (x1 x2 x3 : Int) : Option (Bool) := F58.S.g [.l x0, .i x1, .i x2, .i x3]
noncomputable def g58L0 (k : Nat) (x0 : LL) (x1 x2 x3 x4 : Int) : Option (Bool) := F58.lp [0] 0 r0 k [.l x0, .i x1, .i x2, .i x3, .i x4]
theorem g58L0_eq (k : Nat) (x0 : LL) (x1 x2 x3 x4 : Int) : g58L0 (k + 1) x0 x1 x2 x3 x4 =
 (if (cop .lss x4 (List.length x0 : Int)) = true then
 elemK x0 x4 [.int .i64, .int .i64, .int .i64] fun (r5 : Int × Int × Int) =>
 if ((cop .eql r5.1 x1) && ((cop .eql r5.2.1 x2) && ((cop .eql r5.2.2 x3) && true))) = true then
 some (true)
 else
 g58L0 k x0 x1 x2 x3 (iop .add .i64 x4 1)
 else
 some (false)) := by kernel_rfl
theorem g58_eq (x0 : LL) (x1 x2 x3 : Int) : g58 x0 x1 x2 x3 =
 (g58L0 FUEL x0 x1 x2 x3 0) := by kernel_rfl
noncomputable def F93 : Fn := ⟨53, [2], [(4, [(1, .box hs10), (3, .c (.int .i64))])], [], 0, [], [], Tryz.f93, [.agg hs10], [.c (.bool)], [(94, F94.S), (90, F90.S), (58, F58.S)]⟩
theorem ok93 : F93.S.Ok Tryz.prog 93 := F93.ok Tryz.func93 (by kernel_rfl) ⟨ok94, ⟨ok90, ⟨ok58, trivial⟩⟩⟩
noncomputable def g93 (x0 x1 x2 : Int) (x3 : LL) (x4 x5 x6 x7 x8 x9 : Int) (x10 : Bool) : Option (Bool) := F93.S.g [.i x0, .i x1, .i x2, .l x3, .i x4, .i x5, .i x6, .i x7, .i x8, .i x9, .b x10]
noncomputable def g93L0 (k : Nat) (x0 x1 x2 : Int) (x3 : LL) (x4 x5 x6 x7 x8 x9 : Int) (x10 : Bool) (x11 : Int) : Option (Bool) := F93.lp [0, 1, 0, 1, 1, 0, 1, 0] 0 r0 k [.i x0, .i x1, .i x2, .l x3, .i x4, .i x5, .i x6, .i x7, .i x8, .i x9, .b x10, .i x11]
theorem g93L0_eq (k : Nat) (x0 x1 x2 : Int) (x3 : LL) (x4 x5 x6 x7 x8 x9 : Int) (x10 : Bool) (x11 : Int) : g93L0 (k + 1) x0 x1 x2 x3 x4 x5 x6 x7 x8 x9 x10 x11 =
 (if (cop .lss x11 (List.length x3 : Int)) = true then
 elemK x3 x11 [.int .i64, .int .i64, .int .i64] fun (r12 : Int × Int × Int) =>
 (g94 r12.1 r12.2.1 r12.2.2).bind fun (r15 : Bool) =>
 if (!r15) = true then
 some (false)
 else
 reqK ((0 : Int) ≤ x11) <|
 reqK ((x11 : Int) ≤ (List.length x3 : Int)) <|
 elemK x3 x11 [.int .i64, .int .i64, .int .i64] fun (r16 : Int × Int × Int) =>
 (g58 (List.take (Int.toNat x11) x3) r16.1 r16.2.1 r16.2.2).bind fun (r19 : Bool) =>
 if r19 = true then
 some (false)
 else
 g93L0 k x0 x1 x2 x3 x4 x5 x6 x7 x8 x9 x10 (iop .add .i64 x11 1)
 else
 some (true)) := by kernel_rfl
theorem g93_eq (x0 x1 x2 : Int) (x3 : LL) (x4 x5 x6 x7 x8 x9 : Int) (x10 : Bool) : g93 x0 x1 x2 x3 x4 x5 x6 x7 x8 x9 x10 =
 ((g94 x0 x1 x2).bind fun (r11 : Bool) =>
 if (!r11) = true then
 some (false)
 else
 (g90 x4 x5 x6 x7 x8 x9 x10).bind fun (r12 : Bool) =>
 if (!r12) = true then
 some (false)
 else
 if (cop .gtr (List.length x3 : Int) 8) = true then
 some (false)
 else
 (g58 x3 x0 x1 x2).bind fun (r13 : Bool) =>
 if r13 = true then
 some (false)
 else
 g93L0 FUEL x0 x1 x2 x3 x4 x5 x6 x7 x8 x9 x10 0) := by kernel_rfl
noncomputable def F13 : Fn := ⟨8, [2], [], [], 0, [], [], Tryz.f13, [.agg hs8], [.c (.bool)], []⟩
theorem ok13 : F13.S.Ok Tryz.prog 13 := F13.ok Tryz.func13 (by kernel_rfl) trivial
noncomputable def g13 (x0 x1 x2 : Int) (x3 : LL) (x4 x5 x6 x7 x8 x9 : Int) (x10 : Bool) (x11 x12 x13 x14 : Int) : Option (Bool) := F13.S.g [.i x0, .i x1, .i x2, .l x3, .i x4, .i x5, .i x6, .i x7, .i x8, .i x9, .b x10, .i x11, .i x12, .i x13, .i x14]
theorem g13_eq (x0 x1 x2 : Int) (x3 : LL) (x4 x5 x6 x7 x8 x9 : Int) (x10 : Bool) (x11 x12 x13 x14 : Int) : g13 x0 x1 x2 x3 x4 x5 x6 x7 x8 x9 x10 x11 x12 x13 x14 =
 (some (((cop .eql x0 0) && ((cop .eql x1 0) && ((cop .eql x2 0) && true))))) := by kernel_rfl
noncomputable def F25 : Fn := ⟨30, [4], [], [], 0, [], [], Tryz.f25, [.agg [.int .i64, .int .i64, .int .i64], .agg [.int .i64, .int .i64, .int .i64]], [.c (.bool)], []⟩
theorem ok25 : F25.S.Ok Tryz.prog 25 := F25.ok Tryz.func25 (by kernel_rfl) trivial
noncomputable def g25 (x0 x1 x2 x3 x4 x5 : Int) : Option (Bool) := F25.S.g [.i x0, .i x1, .i x2, .i x3, .i x4, .i x5]
theorem g25_eq (x0 x1 x2 x3 x4 x5 : Int) : g25 x0 x1 x2 x3 x4 x5 =
 (if (cop .neq x0 x3) = true then
 some ((cop .lss x0 x3))
 else
 if (cop .neq x1 x4) = true then
 some ((cop .lss x1 x4))
 else
 some ((cop .lss x2 x5))) := by kernel_rfl
noncomputable def F18 : Fn := ⟨55, [4], [(4, [(0, .c (.slice 15)), (1, .c (.slice 15)), (5, .c (.int .i64))])], [], 0, [], [], Tryz.f18, [.c (.slice 15), .c (.slice 15)], [.c (.bool)], [(49, F49.S)]⟩
theorem ok18 : F18.S.Ok Tryz.prog 18 := F18.ok Tryz.func18 (by kernel_rfl) ⟨ok49, trivial⟩
noncomputable def g18 (x0 x1 : LL) : Option (Bool) := F18.S.g [.l x0, .l x1]
noncomputable def g18L0 (k : Nat) (x0 x1 : LL) (x2 : Int) : Option (Bool) := F18.lp [1, 0] 0 r0 k [.l x0, .l x1, .i x2]
theorem g18L0_eq (k : Nat) (x0 x1 : LL) (x2 : Int) : g18L0 (k + 1) x0 x1 x2 =
 (if (cop .lss x2 (List.length x0 : Int)) = true then
 elemK x0 x2 hs8 fun (r3 : Qt13) =>
 elemK x1 x2 hs8 fun (r18 : Qt13) =>
 if (cop .neq r3.2.2.2.2.2.2.2.2.2.2.2.1 r18.2.2.2.2.2.2.2.2.2.2.2.1) = true then
 some (false)
 else
 elemK x0 x2 hs8 fun (r33 : Qt13) =>
 elemK x1 x2 hs8 fun (r48 : Qt13) =>
 if (!((cop .eql (d4 (d8 r33)).1 (d4 (d8 r48)).1) && ((cop .eql (d4 (d8 r33)).2.1 (d4 (d8 r48)).2.1) && ((cop .eql (d2 (d4 (d8 r33))) (d2 (d4 (d8 r48)))) && true)))) = true then
 some (false)
 else
 elemK x0 x2 hs8 fun (r63 : Qt13) =>
 elemK x1 x2 hs8 fun (r78 : Qt13) =>
 (g49 r63.1 r63.2.1 r63.2.2.1 r63.2.2.2.1 r63.2.2.2.2.1 r63.2.2.2.2.2.1 r63.2.2.2.2.2.2.1 r63.2.2.2.2.2.2.2.1 r63.2.2.2.2.2.2.2.2.1 r63.2.2.2.2.2.2.2.2.2.1 r63.2.2.2.2.2.2.2.2.2.2.1 r78.1 r78.2.1 r78.2.2.1 r78.2.2.2.1 r78.2.2.2.2.1 r78.2.2.2.2.2.1 r78.2.2.2.2.2.2.1 r78.2.2.2.2.2.2.2.1 r78.2.2.2.2.2.2.2.2.1 r78.2.2.2.2.2.2.2.2.2.1 r78.2.2.2.2.2.2.2.2.2.2.1).bind fun (r93 : Bool) =>
 if (!r93) = true then
 some (false)
 else
 g18L0 k x0 x1 (iop .add .i64 x2 1)
 else
 some (true)) := by kernel_rfl
theorem g18_eq (x0 x1 : LL) : g18 x0 x1 =
 (if (cop .neq (List.length x0 : Int) (List.length x1 : Int)) = true then
 some (false)
 else
 g18L0 FUEL x0 x1 0) := by kernel_rfl
end Go.Proofs.YthdihcchfjlgkaaGreat
