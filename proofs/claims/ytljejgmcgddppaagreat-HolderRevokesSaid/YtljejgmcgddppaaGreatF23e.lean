/- Functions of the program, as what they compute. -/
import Derived.Test.YtljejgmcgddppaaGreatF23d
namespace Go.Proofs.YtljejgmcgddppaaGreat
open Go Go.AM
set_option linter.unusedVariables false
set_option maxRecDepth 100000
noncomputable def F4 : Fn := ⟨70, [10], [(4, [(0, .c (.int .i64)), (1, .c (.slice 15)), (2, .c (.int .i64)), (8, .box [.int .i64, .int .i64, .int .i64]), (9, .box hs0), (11, .c (.int .i64))])], [], 0, [], [], Tryz.f4, [.c (.int .i64), .c (.slice 15), .c (.int .i64), .agg [.int .i64, .int .i64, .int .i64], .agg hs0], [.c (.bool)], [(7, F7.S), (9, F9.S), (13, F13.S)]⟩
noncomputable def g4 (x0 : Int) (x1 : LL) (x2 x3 x4 x5 x6 x7 x8 x9 x10 x11 x12 x13 x14 x15 x16 : Int) (x17 : Bool) (x18 x19 x20 x21 x22 x23 x24 x25 x26 x27 x28 x29 x30 x31 x32 x33 x34 x35 x36 x37 : Int) (x38 : LL) (x39 x40 x41 x42 x43 x44 : Int) (x45 : Bool) (x46 x47 x48 x49 : LL) (x50 x51 : Int) (x52 x53 x54 x55 x56 x57 x58 x59 : LL) (x60 x61 : Int) (x62 x63 x64 x65 x66 x67 x68 x69 : LL) (x70 : Bool) (x71 : Int) (x72 x73 x74 x75 x76 x77 x78 x79 : LL) : Option (Bool) := F4.S.g [.i x0, .l x1, .i x2, .i x3, .i x4, .i x5, .i x6, .i x7, .i x8, .i x9, .i x10, .i x11, .i x12, .i x13, .i x14, .i x15, .i x16, .b x17, .i x18, .i x19, .i x20, .i x21, .i x22, .i x23, .i x24, .i x25, .i x26, .i x27, .i x28, .i x29, .i x30, .i x31, .i x32, .i x33, .i x34, .i x35, .i x36, .i x37, .l x38, .i x39, .i x40, .i x41, .i x42, .i x43, .i x44, .b x45, .l x46, .l x47, .l x48, .l x49, .i x50, .i x51, .l x52, .l x53, .l x54, .l x55, .l x56, .l x57, .l x58, .l x59, .i x60, .i x61, .l x62, .l x63, .l x64, .l x65, .l x66, .l x67, .l x68, .l x69, .b x70, .i x71, .l x72, .l x73, .l x74, .l x75, .l x76, .l x77, .l x78, .l x79]
noncomputable def F3 : Fn := ⟨60, [12], [], [], 0, [], [], Tryz.f3, [.c (.int .i64), .c (.slice 1), .c (.slice 10), .c (.int .i64), .c (.slice 1), .c (.int .i64)], [.c (.bool)], [(7, F7.S), (8, F8.S), (9, F9.S), (10, F10.S), (11, F11.S), (12, F12.S), (13, F13.S)]⟩
noncomputable def g3 (x0 : Int) (x1 x2 : LL) (x3 : Int) (x4 : LL) (x5 : Int) : Option (Bool) := F3.S.g [.i x0, .l x1, .l x2, .i x3, .l x4, .i x5]
noncomputable def F6 : Fn := ⟨165, [10], [], [], 0, [], [], Tryz.f6, [.c (.int .i64), .c (.slice 1), .c (.slice 10), .c (.int .i64), .c (.int .i64)], [.c (.bool)], [(7, F7.S), (9, F9.S), (8, F8.S), (10, F10.S), (16, F16.S), (15, F15.S), (22, F22.S), (23, F23.S), (20, F20.S), (21, F21.S)]⟩
noncomputable def g6 (x0 : Int) (x1 x2 : LL) (x3 x4 : Int) : Option (Bool) := F6.S.g [.i x0, .l x1, .l x2, .i x3, .i x4]
noncomputable def F5 : Fn := ⟨243, [6], [(14, [(9, .c (.slice 15)), (10, .c (.slice 3)), (12, .c (.slice 15)), (16, .c (.slice 15)), (20, .c (.slice 15)), (24, .c (.int .i64))])], [], 0, [], [(6, [(9, 0)])], Tryz.f5, [.c (.int .i64), .c (.slice 10), .c (.slice 1)], [.c (.bool)], [(8, F8.S), (9, F9.S), (14, F14.S), (12, F12.S), (16, F16.S), (17, F17.S), (15, F15.S), (18, F18.S), (19, F19.S), (20, F20.S), (21, F21.S), (7, F7.S)]⟩
theorem ok5 : F5.S.Ok Tryz.prog 5 := F5.ok Tryz.func5 (by kernel_rfl) ⟨ok8, ⟨ok9, ⟨ok14, ⟨ok12, ⟨ok16, ⟨ok17, ⟨ok15, ⟨ok18, ⟨ok19, ⟨ok20, ⟨ok21, ⟨ok7, trivial⟩⟩⟩⟩⟩⟩⟩⟩⟩⟩⟩⟩
noncomputable def g5 (x0 : Int) (x1 x2 : LL) : Option (Bool) := F5.S.g [.i x0, .l x1, .l x2]
noncomputable def g5L0 (k : Nat) (x0 x1 x2 x3 x4 : LL) (x5 : Int) : Option (Bool) := F5.lp [11, 1, 1, 1, 0, 1, 0, 1, 0, 1, 1, 1, 1, 1, 0, 1, 1, 1, 1, 0] 0 r0 k [.l x0, .l x1, .l x2, .l x3, .l x4, .i x5]
theorem g5L0_eq (k : Nat) (x0 x1 x2 x3 x4 : LL) (x5 : Int) : g5L0 (k + 1) x0 x1 x2 x3 x4 x5 =
 (if (cop .lss x5 (List.length x0 : Int)) = true then
 elemK x0 x5 hs6 fun (r6 : Qt11) =>
 (g18 x1 r6.1 r6.2.1 r6.2.2.1).bind fun (r21 : Bool) =>
 elemK x2 x5 hs6 fun (r22 : Qt11) =>
 elemK x0 x5 hs6 fun (r37 : Qt11) =>
 (g19 r22.1 r22.2.1 r22.2.2.1 r22.2.2.2.1 r22.2.2.2.2.1 r22.2.2.2.2.2.1 r22.2.2.2.2.2.2.1 r22.2.2.2.2.2.2.2.1 r22.2.2.2.2.2.2.2.2.1 r22.2.2.2.2.2.2.2.2.2.1 r22.2.2.2.2.2.2.2.2.2.2.1 r37.1 r37.2.1 r37.2.2.1 r37.2.2.2.1 r37.2.2.2.2.1 r37.2.2.2.2.2.1 r37.2.2.2.2.2.2.1 r37.2.2.2.2.2.2.2.1 r37.2.2.2.2.2.2.2.2.1 r37.2.2.2.2.2.2.2.2.2.1 r37.2.2.2.2.2.2.2.2.2.2.1).bind fun (r52 : Bool) =>
 if (!r52) = true then
 some (false)
 else
 elemK x3 x5 hs6 fun (r53 : Qt11) =>
 elemK x0 x5 hs6 fun (r68 : Qt11) =>
 (g19 r53.1 r53.2.1 r53.2.2.1 r53.2.2.2.1 r53.2.2.2.2.1 r53.2.2.2.2.2.1 r53.2.2.2.2.2.2.1 r53.2.2.2.2.2.2.2.1 r53.2.2.2.2.2.2.2.2.1 r53.2.2.2.2.2.2.2.2.2.1 r53.2.2.2.2.2.2.2.2.2.2.1 r68.1 r68.2.1 r68.2.2.1 r68.2.2.2.1 r68.2.2.2.2.1 r68.2.2.2.2.2.1 r68.2.2.2.2.2.2.1 r68.2.2.2.2.2.2.2.1 r68.2.2.2.2.2.2.2.2.1 r68.2.2.2.2.2.2.2.2.2.1 r68.2.2.2.2.2.2.2.2.2.2.1).bind fun (r83 : Bool) =>
 if (!r83) = true then
 some (false)
 else
 elemK x2 x5 hs6 fun (r84 : Qt11) =>
 (g20 r84.1 r84.2.1 r84.2.2.1 r84.2.2.2.1 r84.2.2.2.2.1 r84.2.2.2.2.2.1 r84.2.2.2.2.2.2.1 r84.2.2.2.2.2.2.2.1 r84.2.2.2.2.2.2.2.2.1 r84.2.2.2.2.2.2.2.2.2.1 r84.2.2.2.2.2.2.2.2.2.2.1 r84.2.2.2.2.2.2.2.2.2.2.2.1 (d4 (d8 r84)).1 (d4 (d8 r84)).2.1 (d2 (d4 (d8 r84)))).bind fun (r99 : Bool) =>
 if (!(r99 == r21)) = true then
 some (false)
 else
 elemK x3 x5 hs6 fun (r100 : Qt11) =>
 (g20 r100.1 r100.2.1 r100.2.2.1 r100.2.2.2.1 r100.2.2.2.2.1 r100.2.2.2.2.2.1 r100.2.2.2.2.2.2.1 r100.2.2.2.2.2.2.2.1 r100.2.2.2.2.2.2.2.2.1 r100.2.2.2.2.2.2.2.2.2.1 r100.2.2.2.2.2.2.2.2.2.2.1 r100.2.2.2.2.2.2.2.2.2.2.2.1 (d4 (d8 r100)).1 (d4 (d8 r100)).2.1 (d2 (d4 (d8 r100)))).bind fun (r115 : Bool) =>
 if (!(r115 == r21)) = true then
 some (false)
 else
 elemK x4 x5 hs6 fun (r116 : Qt11) =>
 (g20 r116.1 r116.2.1 r116.2.2.1 r116.2.2.2.1 r116.2.2.2.2.1 r116.2.2.2.2.2.1 r116.2.2.2.2.2.2.1 r116.2.2.2.2.2.2.2.1 r116.2.2.2.2.2.2.2.2.1 r116.2.2.2.2.2.2.2.2.2.1 r116.2.2.2.2.2.2.2.2.2.2.1 r116.2.2.2.2.2.2.2.2.2.2.2.1 (d4 (d8 r116)).1 (d4 (d8 r116)).2.1 (d2 (d4 (d8 r116)))).bind fun (r131 : Bool) =>
 if r131 = true then
 some (false)
 else
 elemK x4 x5 hs6 fun (r132 : Qt11) =>
 (g21 r132.1 r132.2.1 r132.2.2.1 r132.2.2.2.1 r132.2.2.2.2.1 r132.2.2.2.2.2.1 r132.2.2.2.2.2.2.1 r132.2.2.2.2.2.2.2.1 r132.2.2.2.2.2.2.2.2.1 r132.2.2.2.2.2.2.2.2.2.1 r132.2.2.2.2.2.2.2.2.2.2.1 r132.2.2.2.2.2.2.2.2.2.2.2.1 (d4 (d8 r132)).1 (d4 (d8 r132)).2.1 (d2 (d4 (d8 r132)))).bind fun (r147 : Bool) =>
 if r21 = true then
 if (!(r147 == true)) = true then
 some (false)
 else
 g5L0 k x0 x1 x2 x3 x4 (iop .add .i64 x5 1)
 else
 elemK x0 x5 hs6 fun (r148 : Qt11) =>
 (g21 r148.1 r148.2.1 r148.2.2.1 r148.2.2.2.1 r148.2.2.2.2.1 r148.2.2.2.2.2.1 r148.2.2.2.2.2.2.1 r148.2.2.2.2.2.2.2.1 r148.2.2.2.2.2.2.2.2.1 r148.2.2.2.2.2.2.2.2.2.1 r148.2.2.2.2.2.2.2.2.2.2.1 r148.2.2.2.2.2.2.2.2.2.2.2.1 (d4 (d8 r148)).1 (d4 (d8 r148)).2.1 (d2 (d4 (d8 r148)))).bind fun (r163 : Bool) =>
 if (!(r147 == r163)) = true then
 some (false)
 else
 g5L0 k x0 x1 x2 x3 x4 (iop .add .i64 x5 1)
 else
 (g7).bind fun (r6 : Bool) =>
 some (r6)) := by kernel_rfl
theorem g5_eq (x0 : Int) (x1 x2 : LL) : g5 x0 x1 x2 =
 ((g8 x1).bind fun (r3 : LL) =>
 (g9 x0 4).bind fun (r4 : Int) =>
 (g14 r3 r4).bind fun (r5 : LL) =>
 (g12 r3 x2).bind fun (r6 : LL) =>
 (g16 r5).bind fun (r7 : LL) =>
 (g17 6 r4 3 9 0 r6).bind fun (r8 : Qt2) =>
 (g15 r4 r7 ([] : LL) r8.1 r8.2.1 r8.2.2.1 r8.2.2.2.1 r8.2.2.2.2.1 r8.2.2.2.2.2.1 r8.2.2.2.2.2.2.1 r8.2.2.2.2.2.2.2.1 r8.2.2.2.2.2.2.2.2.1 r8.2.2.2.2.2.2.2.2.2.1 r8.2.2.2.2.2.2.2.2.2.2.1 r8.2.2.2.2.2.2.2.2.2.2.2.1 (d4 (d8 r8)).1 (d4 (d8 r8)).2.1 (d2 (d4 (d8 r8))).1 (d2 (d4 (d8 r8))).2.1 (d16 r8).1 (d16 r8).2.1 (d2 (d16 r8)).1 (d2 (d16 r8)).2.1 (d4 (d16 r8)).1 (d4 (d16 r8)).2.1 (d2 (d4 (d16 r8))).1 (d2 (d4 (d16 r8))).2.1 (d8 (d16 r8)).1 (d8 (d16 r8)).2.1 (d2 (d8 (d16 r8))).1 (d2 (d8 (d16 r8))).2.1 (d4 (d8 (d16 r8))).1 (d4 (d8 (d16 r8))).2.1 (d2 (d4 (d8 (d16 r8)))).1 (d2 (d4 (d8 (d16 r8)))).2.1 (d16 (d16 r8)).1 (d16 (d16 r8)).2.1 (d2 (d16 (d16 r8))).1 (d2 (d16 (d16 r8))).2.1 (d4 (d16 (d16 r8))).1 (d4 (d16 (d16 r8))).2.1 (d2 (d4 (d16 (d16 r8)))).1 (d2 (d4 (d16 (d16 r8)))).2.1 (d8 (d16 (d16 r8))).1 (d8 (d16 (d16 r8))).2.1 (d2 (d8 (d16 (d16 r8)))).1 (d2 (d8 (d16 (d16 r8)))).2.1 (d4 (d8 (d16 (d16 r8)))).1 (d4 (d8 (d16 (d16 r8)))).2.1 (d2 (d4 (d8 (d16 (d16 r8))))).1 (d2 (d4 (d8 (d16 (d16 r8))))).2.1 (d16 (d16 (d16 r8))).1 (d16 (d16 (d16 r8))).2.1 (d2 (d16 (d16 (d16 r8)))).1 (d2 (d16 (d16 (d16 r8)))).2.1 (d4 (d16 (d16 (d16 r8)))).1 (d4 (d16 (d16 (d16 r8)))).2.1 (d2 (d4 (d16 (d16 (d16 r8))))).1 (d2 (d4 (d16 (d16 (d16 r8))))).2.1 (d8 (d16 (d16 (d16 r8)))).1 (d8 (d16 (d16 (d16 r8)))).2.1 (d2 (d8 (d16 (d16 (d16 r8))))).1 (d2 (d8 (d16 (d16 (d16 r8))))).2.1 (d4 (d8 (d16 (d16 (d16 r8))))).1 (d4 (d8 (d16 (d16 (d16 r8))))).2.1 (d2 (d4 (d8 (d16 (d16 (d16 r8)))))).1 (d2 (d4 (d8 (d16 (d16 (d16 r8)))))).2.1 (d16 (d16 (d16 (d16 r8)))).1 (d16 (d16 (d16 (d16 r8)))).2.1 (d2 (d16 (d16 (d16 (d16 r8))))).1 (d2 (d16 (d16 (d16 (d16 r8))))).2.1 (d4 (d16 (d16 (d16 (d16 r8))))).1 (d4 (d16 (d16 (d16 (d16 r8))))).2.1 (d2 (d4 (d16 (d16 (d16 (d16 r8)))))).1 (d2 (d4 (d16 (d16 (d16 (d16 r8)))))).2.1 (d8 (d16 (d16 (d16 (d16 r8))))).1 (d8 (d16 (d16 (d16 (d16 r8))))).2).bind fun (r82 : LL × LL × LL × LL) =>
 (g17 8 r4 3 9 0 ([] : LL)).bind fun (r86 : Qt2) =>
 (g15 r4 r82.1 r82.2.1 r86.1 r86.2.1 r86.2.2.1 r86.2.2.2.1 r86.2.2.2.2.1 r86.2.2.2.2.2.1 r86.2.2.2.2.2.2.1 r86.2.2.2.2.2.2.2.1 r86.2.2.2.2.2.2.2.2.1 r86.2.2.2.2.2.2.2.2.2.1 r86.2.2.2.2.2.2.2.2.2.2.1 r86.2.2.2.2.2.2.2.2.2.2.2.1 (d4 (d8 r86)).1 (d4 (d8 r86)).2.1 (d2 (d4 (d8 r86))).1 (d2 (d4 (d8 r86))).2.1 (d16 r86).1 (d16 r86).2.1 (d2 (d16 r86)).1 (d2 (d16 r86)).2.1 (d4 (d16 r86)).1 (d4 (d16 r86)).2.1 (d2 (d4 (d16 r86))).1 (d2 (d4 (d16 r86))).2.1 (d8 (d16 r86)).1 (d8 (d16 r86)).2.1 (d2 (d8 (d16 r86))).1 (d2 (d8 (d16 r86))).2.1 (d4 (d8 (d16 r86))).1 (d4 (d8 (d16 r86))).2.1 (d2 (d4 (d8 (d16 r86)))).1 (d2 (d4 (d8 (d16 r86)))).2.1 (d16 (d16 r86)).1 (d16 (d16 r86)).2.1 (d2 (d16 (d16 r86))).1 (d2 (d16 (d16 r86))).2.1 (d4 (d16 (d16 r86))).1 (d4 (d16 (d16 r86))).2.1 (d2 (d4 (d16 (d16 r86)))).1 (d2 (d4 (d16 (d16 r86)))).2.1 (d8 (d16 (d16 r86))).1 (d8 (d16 (d16 r86))).2.1 (d2 (d8 (d16 (d16 r86)))).1 (d2 (d8 (d16 (d16 r86)))).2.1 (d4 (d8 (d16 (d16 r86)))).1 (d4 (d8 (d16 (d16 r86)))).2.1 (d2 (d4 (d8 (d16 (d16 r86))))).1 (d2 (d4 (d8 (d16 (d16 r86))))).2.1 (d16 (d16 (d16 r86))).1 (d16 (d16 (d16 r86))).2.1 (d2 (d16 (d16 (d16 r86)))).1 (d2 (d16 (d16 (d16 r86)))).2.1 (d4 (d16 (d16 (d16 r86)))).1 (d4 (d16 (d16 (d16 r86)))).2.1 (d2 (d4 (d16 (d16 (d16 r86))))).1 (d2 (d4 (d16 (d16 (d16 r86))))).2.1 (d8 (d16 (d16 (d16 r86)))).1 (d8 (d16 (d16 (d16 r86)))).2.1 (d2 (d8 (d16 (d16 (d16 r86))))).1 (d2 (d8 (d16 (d16 (d16 r86))))).2.1 (d4 (d8 (d16 (d16 (d16 r86))))).1 (d4 (d8 (d16 (d16 (d16 r86))))).2.1 (d2 (d4 (d8 (d16 (d16 (d16 r86)))))).1 (d2 (d4 (d8 (d16 (d16 (d16 r86)))))).2.1 (d16 (d16 (d16 (d16 r86)))).1 (d16 (d16 (d16 (d16 r86)))).2.1 (d2 (d16 (d16 (d16 (d16 r86))))).1 (d2 (d16 (d16 (d16 (d16 r86))))).2.1 (d4 (d16 (d16 (d16 (d16 r86))))).1 (d4 (d16 (d16 (d16 (d16 r86))))).2.1 (d2 (d4 (d16 (d16 (d16 (d16 r86)))))).1 (d2 (d4 (d16 (d16 (d16 (d16 r86)))))).2.1 (d8 (d16 (d16 (d16 (d16 r86))))).1 (d8 (d16 (d16 (d16 (d16 r86))))).2).bind fun (r160 : LL × LL × LL × LL) =>
 (g17 10 r4 3 9 0 ([] : LL)).bind fun (r164 : Qt2) =>
 (g15 r4 r160.1 r160.2.1 r164.1 r164.2.1 r164.2.2.1 r164.2.2.2.1 r164.2.2.2.2.1 r164.2.2.2.2.2.1 r164.2.2.2.2.2.2.1 r164.2.2.2.2.2.2.2.1 r164.2.2.2.2.2.2.2.2.1 r164.2.2.2.2.2.2.2.2.2.1 r164.2.2.2.2.2.2.2.2.2.2.1 r164.2.2.2.2.2.2.2.2.2.2.2.1 (d4 (d8 r164)).1 (d4 (d8 r164)).2.1 (d2 (d4 (d8 r164))).1 (d2 (d4 (d8 r164))).2.1 (d16 r164).1 (d16 r164).2.1 (d2 (d16 r164)).1 (d2 (d16 r164)).2.1 (d4 (d16 r164)).1 (d4 (d16 r164)).2.1 (d2 (d4 (d16 r164))).1 (d2 (d4 (d16 r164))).2.1 (d8 (d16 r164)).1 (d8 (d16 r164)).2.1 (d2 (d8 (d16 r164))).1 (d2 (d8 (d16 r164))).2.1 (d4 (d8 (d16 r164))).1 (d4 (d8 (d16 r164))).2.1 (d2 (d4 (d8 (d16 r164)))).1 (d2 (d4 (d8 (d16 r164)))).2.1 (d16 (d16 r164)).1 (d16 (d16 r164)).2.1 (d2 (d16 (d16 r164))).1 (d2 (d16 (d16 r164))).2.1 (d4 (d16 (d16 r164))).1 (d4 (d16 (d16 r164))).2.1 (d2 (d4 (d16 (d16 r164)))).1 (d2 (d4 (d16 (d16 r164)))).2.1 (d8 (d16 (d16 r164))).1 (d8 (d16 (d16 r164))).2.1 (d2 (d8 (d16 (d16 r164)))).1 (d2 (d8 (d16 (d16 r164)))).2.1 (d4 (d8 (d16 (d16 r164)))).1 (d4 (d8 (d16 (d16 r164)))).2.1 (d2 (d4 (d8 (d16 (d16 r164))))).1 (d2 (d4 (d8 (d16 (d16 r164))))).2.1 (d16 (d16 (d16 r164))).1 (d16 (d16 (d16 r164))).2.1 (d2 (d16 (d16 (d16 r164)))).1 (d2 (d16 (d16 (d16 r164)))).2.1 (d4 (d16 (d16 (d16 r164)))).1 (d4 (d16 (d16 (d16 r164)))).2.1 (d2 (d4 (d16 (d16 (d16 r164))))).1 (d2 (d4 (d16 (d16 (d16 r164))))).2.1 (d8 (d16 (d16 (d16 r164)))).1 (d8 (d16 (d16 (d16 r164)))).2.1 (d2 (d8 (d16 (d16 (d16 r164))))).1 (d2 (d8 (d16 (d16 (d16 r164))))).2.1 (d4 (d8 (d16 (d16 (d16 r164))))).1 (d4 (d8 (d16 (d16 (d16 r164))))).2.1 (d2 (d4 (d8 (d16 (d16 (d16 r164)))))).1 (d2 (d4 (d8 (d16 (d16 (d16 r164)))))).2.1 (d16 (d16 (d16 (d16 r164)))).1 (d16 (d16 (d16 (d16 r164)))).2.1 (d2 (d16 (d16 (d16 (d16 r164))))).1 (d2 (d16 (d16 (d16 (d16 r164))))).2.1 (d4 (d16 (d16 (d16 (d16 r164))))).1 (d4 (d16 (d16 (d16 (d16 r164))))).2.1 (d2 (d4 (d16 (d16 (d16 (d16 r164)))))).1 (d2 (d4 (d16 (d16 (d16 (d16 r164)))))).2.1 (d8 (d16 (d16 (d16 (d16 r164))))).1 (d8 (d16 (d16 (d16 (d16 r164))))).2).bind fun (r238 : LL × LL × LL × LL) =>
 if (cop .neq (List.length r82.2.2.1 : Int) 1) = true then
 some (false)
 else
 if (cop .neq (List.length r160.2.2.1 : Int) 1) = true then
 some (false)
 else
 if (cop .neq (List.length r238.2.2.1 : Int) 1) = true then
 some (false)
 else
 elemK r82.2.2.1 0 hs0 fun (r242 : Qt2) =>
 if (cop .neq r242.1 7) = true then
 some (false)
 else
 elemK r160.2.2.1 0 hs0 fun (r316 : Qt2) =>
 if (cop .neq r316.1 9) = true then
 some (false)
 else
 elemK r238.2.2.1 0 hs0 fun (r390 : Qt2) =>
 if (cop .neq r390.1 11) = true then
 some (false)
 else
 if (cop .neq (iop .add .i64 (iop .add .i64 (List.length r82.2.2.2 : Int) (List.length r160.2.2.2 : Int)) (List.length r238.2.2.2 : Int)) 0) = true then
 some (false)
 else
 if (cop .neq (List.length r82.2.1 : Int) 0) = true then
 some (false)
 else
 if (cop .neq (List.length r160.2.1 : Int) 1) = true then
 some (false)
 else
 if (cop .neq (List.length r238.2.1 : Int) 1) = true then
 some (false)
 else
 elemK r160.2.1 0 [.int .i64, .int .i64, .int .i64, .int .i64] fun (r464 : Int × Int × Int × Int) =>
 if (!((cop .eql r464.1 1) && ((cop .eql r464.2.1 3) && ((cop .eql r464.2.2.1 9) && ((cop .eql r464.2.2.2 0) && true))))) = true then
 some (false)
 else
 if (cop .neq (List.length r82.1 : Int) (List.length r5 : Int)) = true then
 some (false)
 else
 if (cop .neq (List.length r160.1 : Int) (List.length r5 : Int)) = true then
 some (false)
 else
 if (cop .neq (List.length r238.1 : Int) (List.length r5 : Int)) = true then
 some (false)
 else
 g5L0 FUEL r5 r6 r82.1 r160.1 r238.1 0) := by kernel_rfl
end Go.Proofs.YtljejgmcgddppaaGreat
