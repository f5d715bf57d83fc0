/- Functions of the program, as what they compute. -/
import Derived.Test.YtceopohbfkamiaaGreatB18
namespace Go.Proofs.YtceopohbfkamiaaGreat
open Go Go.AM
set_option linter.unusedVariables false
set_option maxRecDepth 100000

/- multikernel/multikernellaw18.awake -/
noncomputable def F6 : Fn := ⟨38, [0], [], [], 0, Tryz.f6, [], [.c (.bool)], [(7, F7.S), (16, F16.S), (17, F17.S), (9, F9.S)]⟩
theorem ok6 : F6.S.Ok Tryz.prog 6 := F6.ok Tryz.func6 (by kernel_rfl) ⟨ok7, ⟨ok16, ⟨ok17, ⟨ok9, trivial⟩⟩⟩⟩
noncomputable def g6 : Option (Bool) := F6.S.g []
theorem g6_eq : g6 =
 ((g7 3 1 0 2 0 1 0 0 5 0 0 false 0 0 0 0 0 0 0 0 0 0 0 0 0 0 0 0 0 0 0 0 ([] : LL) 0 0 0 0 0 0 false ([] : LL) ([] : LL) ([] : LL) ([] : LL) 0 0 ([] : LL) ([] : LL) ([] : LL) ([] : LL) ([] : LL) ([] : LL) ([] : LL) ([] : LL) 0 0 ([] : LL) ([] : LL) ([] : LL) ([] : LL) ([] : LL) ([] : LL) ([] : LL) ([] : LL) false 0 ([] : LL) ([] : LL) ([] : LL) ([] : LL) ([] : LL) ([] : LL) ([] : LL) ([] : LL)).bind fun (r0 : LL × Int) =>
 (g16 r0.1).bind fun (r2 : Qt2) =>
 if (cop .eql r0.2 0) = true then
 if (cop .eql (d2 (d8 (d16 (d16 (d16 (d16 r2)))))) 0) = true then
 reqK (bytesP r0.1) <|
 if (ByteArray.toList (bytesOf r0.1) == ByteArray.toList (⟨#[3, 1, 0, 2, 1, 0, 5, 0]⟩ : ByteArray)) = true then
 (g17 r2.1 r2.2.1 r2.2.2.1 r2.2.2.2.1 r2.2.2.2.2.1 r2.2.2.2.2.2.1 r2.2.2.2.2.2.2.1 r2.2.2.2.2.2.2.2.1 r2.2.2.2.2.2.2.2.2.1 r2.2.2.2.2.2.2.2.2.2.1 r2.2.2.2.2.2.2.2.2.2.2.1 r2.2.2.2.2.2.2.2.2.2.2.2.1 (d4 (d8 r2)).1 (d4 (d8 r2)).2.1 (d2 (d4 (d8 r2))).1 (d2 (d4 (d8 r2))).2.1 (d16 r2).1 (d16 r2).2.1 (d2 (d16 r2)).1 (d2 (d16 r2)).2.1 (d4 (d16 r2)).1 (d4 (d16 r2)).2.1 (d2 (d4 (d16 r2))).1 (d2 (d4 (d16 r2))).2.1 (d8 (d16 r2)).1 (d8 (d16 r2)).2.1 (d2 (d8 (d16 r2))).1 (d2 (d8 (d16 r2))).2.1 (d4 (d8 (d16 r2))).1 (d4 (d8 (d16 r2))).2.1 (d2 (d4 (d8 (d16 r2)))).1 (d2 (d4 (d8 (d16 r2)))).2.1 (d16 (d16 r2)).1 (d16 (d16 r2)).2.1 (d2 (d16 (d16 r2))).1 (d2 (d16 (d16 r2))).2.1 (d4 (d16 (d16 r2))).1 (d4 (d16 (d16 r2))).2.1 (d2 (d4 (d16 (d16 r2)))).1 (d2 (d4 (d16 (d16 r2)))).2.1 (d8 (d16 (d16 r2))).1 (d8 (d16 (d16 r2))).2.1 (d2 (d8 (d16 (d16 r2)))).1 (d2 (d8 (d16 (d16 r2)))).2.1 (d4 (d8 (d16 (d16 r2)))).1 (d4 (d8 (d16 (d16 r2)))).2.1 (d2 (d4 (d8 (d16 (d16 r2))))).1 (d2 (d4 (d8 (d16 (d16 r2))))).2.1 (d16 (d16 (d16 r2))).1 (d16 (d16 (d16 r2))).2.1 (d2 (d16 (d16 (d16 r2)))).1 (d2 (d16 (d16 (d16 r2)))).2.1 (d4 (d16 (d16 (d16 r2)))).1 (d4 (d16 (d16 (d16 r2)))).2.1 (d2 (d4 (d16 (d16 (d16 r2))))).1 (d2 (d4 (d16 (d16 (d16 r2))))).2.1 (d8 (d16 (d16 (d16 r2)))).1 (d8 (d16 (d16 (d16 r2)))).2.1 (d2 (d8 (d16 (d16 (d16 r2))))).1 (d2 (d8 (d16 (d16 (d16 r2))))).2.1 (d4 (d8 (d16 (d16 (d16 r2))))).1 (d4 (d8 (d16 (d16 (d16 r2))))).2.1 (d2 (d4 (d8 (d16 (d16 (d16 r2)))))).1 (d2 (d4 (d8 (d16 (d16 (d16 r2)))))).2.1 (d16 (d16 (d16 (d16 r2)))).1 (d16 (d16 (d16 (d16 r2)))).2.1 (d2 (d16 (d16 (d16 (d16 r2))))).1 (d2 (d16 (d16 (d16 (d16 r2))))).2.1 (d4 (d16 (d16 (d16 (d16 r2))))).1 (d4 (d16 (d16 (d16 (d16 r2))))).2.1 (d2 (d4 (d16 (d16 (d16 (d16 r2)))))).1 (d2 (d4 (d16 (d16 (d16 (d16 r2)))))).2.1 (d8 (d16 (d16 (d16 (d16 r2))))).1 (d8 (d16 (d16 (d16 (d16 r2))))).2.1 3 1 0 2 0 1 0 0 5 0 0 false 0 0 0 0 0 0 0 0 0 0 0 0 0 0 0 0 0 0 0 0 ([] : LL) 0 0 0 0 0 0 false ([] : LL) ([] : LL) ([] : LL) ([] : LL) 0 0 ([] : LL) ([] : LL) ([] : LL) ([] : LL) ([] : LL) ([] : LL) ([] : LL) ([] : LL) 0 0 ([] : LL) ([] : LL) ([] : LL) ([] : LL) ([] : LL) ([] : LL) ([] : LL) ([] : LL) false 0 ([] : LL) ([] : LL) ([] : LL) ([] : LL) ([] : LL) ([] : LL) ([] : LL) ([] : LL)).bind fun (r77 : Bool) =>
 if r77 = true then
 (g9 3 1 0 2 0 1 0 0 5 0 0 false 0 0 0 0 0 0 0 0 0 0 0 0 0 0 0 0 0 0 0 0 ([] : LL) 0 0 0 0 0 0 false ([] : LL) ([] : LL) ([] : LL) ([] : LL) 0 0 ([] : LL) ([] : LL) ([] : LL) ([] : LL) ([] : LL) ([] : LL) ([] : LL) ([] : LL) 0 0 ([] : LL) ([] : LL) ([] : LL) ([] : LL) ([] : LL) ([] : LL) ([] : LL) ([] : LL) false 0 ([] : LL) ([] : LL) ([] : LL) ([] : LL) ([] : LL) ([] : LL) ([] : LL) ([] : LL)).bind fun (r78 : Bool) =>
 some (r78)
 else
 some (false)
 else
 some (false)
 else
 some (false)
 else
 some (false)) := by kernel_rfl

/- multikernel/multikernellaw18.WireExact -/
noncomputable def F3 : Fn := ⟨41, [2], [], [], 0, Tryz.f3, [.agg hs0], [.c (.bool)], [(5, F5.S), (6, F6.S), (7, F7.S), (8, F8.S), (9, F9.S), (10, F10.S)]⟩
theorem ok3 : F3.S.Ok Tryz.prog 3 := F3.ok Tryz.func3 (by kernel_rfl) ⟨ok5, ⟨ok6, ⟨ok7, ⟨ok8, ⟨ok9, ⟨ok10, trivial⟩⟩⟩⟩⟩⟩
noncomputable def g3 (x0 x1 x2 x3 x4 x5 x6 x7 x8 x9 x10 : Int) (x11 : Bool) (x12 x13 x14 x15 x16 x17 x18 x19 x20 x21 x22 x23 x24 x25 x26 x27 x28 x29 x30 x31 : Int) (x32 : LL) (x33 x34 x35 x36 x37 x38 : Int) (x39 : Bool) (x40 x41 x42 x43 : LL) (x44 x45 : Int) (x46 x47 x48 x49 x50 x51 x52 x53 : LL) (x54 x55 : Int) (x56 x57 x58 x59 x60 x61 x62 x63 : LL) (x64 : Bool) (x65 : Int) (x66 x67 x68 x69 x70 x71 x72 x73 : LL) : Option (Bool) := F3.S.g [.i x0, .i x1, .i x2, .i x3, .i x4, .i x5, .i x6, .i x7, .i x8, .i x9, .i x10, .b x11, .i x12, .i x13, .i x14, .i x15, .i x16, .i x17, .i x18, .i x19, .i x20, .i x21, .i x22, .i x23, .i x24, .i x25, .i x26, .i x27, .i x28, .i x29, .i x30, .i x31, .l x32, .i x33, .i x34, .i x35, .i x36, .i x37, .i x38, .b x39, .l x40, .l x41, .l x42, .l x43, .i x44, .i x45, .l x46, .l x47, .l x48, .l x49, .l x50, .l x51, .l x52, .l x53, .i x54, .i x55, .l x56, .l x57, .l x58, .l x59, .l x60, .l x61, .l x62, .l x63, .b x64, .i x65, .l x66, .l x67, .l x68, .l x69, .l x70, .l x71, .l x72, .l x73]
theorem g3_eq (x0 x1 x2 x3 x4 x5 x6 x7 x8 x9 x10 : Int) (x11 : Bool) (x12 x13 x14 x15 x16 x17 x18 x19 x20 x21 x22 x23 x24 x25 x26 x27 x28 x29 x30 x31 : Int) (x32 : LL) (x33 x34 x35 x36 x37 x38 : Int) (x39 : Bool) (x40 x41 x42 x43 : LL) (x44 x45 : Int) (x46 x47 x48 x49 x50 x51 x52 x53 : LL) (x54 x55 : Int) (x56 x57 x58 x59 x60 x61 x62 x63 : LL) (x64 : Bool) (x65 : Int) (x66 x67 x68 x69 x70 x71 x72 x73 : LL) : g3 x0 x1 x2 x3 x4 x5 x6 x7 x8 x9 x10 x11 x12 x13 x14 x15 x16 x17 x18 x19 x20 x21 x22 x23 x24 x25 x26 x27 x28 x29 x30 x31 x32 x33 x34 x35 x36 x37 x38 x39 x40 x41 x42 x43 x44 x45 x46 x47 x48 x49 x50 x51 x52 x53 x54 x55 x56 x57 x58 x59 x60 x61 x62 x63 x64 x65 x66 x67 x68 x69 x70 x71 x72 x73 =
 ((g5 x0 x1 x2 x3 x4 x5 x6 x7 x8 x9 x10 x11 x12 x13 x14 x15 x16 x17 x18 x19 x20 x21 x22 x23 x24 x25 x26 x27 x28 x29 x30 x31 x32 x33 x34 x35 x36 x37 x38 x39 x40 x41 x42 x43 x44 x45 x46 x47 x48 x49 x50 x51 x52 x53 x54 x55 x56 x57 x58 x59 x60 x61 x62 x63 x64 x65 x66 x67 x68 x69 x70 x71 x72 x73).bind fun (r74 : Bool) =>
 if (!r74) = true then
 (g6).bind fun (r75 : Bool) =>
 some (r75)
 else
 (g7 x0 x1 x2 x3 x4 x5 x6 x7 x8 x9 x10 x11 x12 x13 x14 x15 x16 x17 x18 x19 x20 x21 x22 x23 x24 x25 x26 x27 x28 x29 x30 x31 x32 x33 x34 x35 x36 x37 x38 x39 x40 x41 x42 x43 x44 x45 x46 x47 x48 x49 x50 x51 x52 x53 x54 x55 x56 x57 x58 x59 x60 x61 x62 x63 x64 x65 x66 x67 x68 x69 x70 x71 x72 x73).bind fun (r75 : LL × Int) =>
 (g8 x0 x1 x2 x3 x4 x5 x6 x7 x8 x9 x10 x11 x12 x13 x14 x15 x16 x17 x18 x19 x20 x21 x22 x23 x24 x25 x26 x27 x28 x29 x30 x31 x32 x33 x34 x35 x36 x37 x38 x39 x40 x41 x42 x43 x44 x45 x46 x47 x48 x49 x50 x51 x52 x53 x54 x55 x56 x57 x58 x59 x60 x61 x62 x63 x64 x65 x66 x67 x68 x69 x70 x71 x72 x73).bind fun (r77 : LL × Int) =>
 (g9 x0 x1 x2 x3 x4 x5 x6 x7 x8 x9 x10 x11 x12 x13 x14 x15 x16 x17 x18 x19 x20 x21 x22 x23 x24 x25 x26 x27 x28 x29 x30 x31 x32 x33 x34 x35 x36 x37 x38 x39 x40 x41 x42 x43 x44 x45 x46 x47 x48 x49 x50 x51 x52 x53 x54 x55 x56 x57 x58 x59 x60 x61 x62 x63 x64 x65 x66 x67 x68 x69 x70 x71 x72 x73).bind fun (r79 : Bool) =>
 (g10 x0 x1 x2 x3 x4 x5 x6 x7 x8 x9 x10 x11 x12 x13 x14 x15 x16 x17 x18 x19 x20 x21 x22 x23 x24 x25 x26 x27 x28 x29 x30 x31 x32 x33 x34 x35 x36 x37 x38 x39 x40 x41 x42 x43 x44 x45 x46 x47 x48 x49 x50 x51 x52 x53 x54 x55 x56 x57 x58 x59 x60 x61 x62 x63 x64 x65 x66 x67 x68 x69 x70 x71 x72 x73).bind fun (r80 : Bool) =>
 if (r79 == r80) = true then
 reqK (bytesP r75.1) <|
 reqK (bytesP r77.1) <|
 if (ByteArray.toList (bytesOf r75.1) == ByteArray.toList (bytesOf r77.1)) = true then
 if (cop .eql r75.2 r77.2) = true then
 (g6).bind fun (r81 : Bool) =>
 some (r81)
 else
 some (false)
 else
 some (false)
 else
 some (false)) := by kernel_rfl

/- multikernel/multikernellaw18.WirePartsExact -/
noncomputable def F4 : Fn := ⟨31, [4], [], [], 0, Tryz.f4, [.agg hs4, .agg hs14], [.c (.bool)], [(6, F6.S), (11, F11.S), (12, F12.S), (13, F13.S), (14, F14.S), (15, F15.S)]⟩
theorem ok4 : F4.S.Ok Tryz.prog 4 := F4.ok Tryz.func4 (by kernel_rfl) ⟨ok6, ⟨ok11, ⟨ok12, ⟨ok13, ⟨ok14, ⟨ok15, trivial⟩⟩⟩⟩⟩⟩
noncomputable def g4 (x0 x1 x2 x3 x4 x5 x6 x7 x8 x9 x10 x11 x12 x13 x14 x15 x16 x17 x18 x19 : Int) (x20 : LL) (x21 x22 x23 x24 x25 x26 : Int) (x27 : Bool) (x28 x29 x30 x31 x32 x33 : LL) : Option (Bool) := F4.S.g [.i x0, .i x1, .i x2, .i x3, .i x4, .i x5, .i x6, .i x7, .i x8, .i x9, .i x10, .i x11, .i x12, .i x13, .i x14, .i x15, .i x16, .i x17, .i x18, .i x19, .l x20, .i x21, .i x22, .i x23, .i x24, .i x25, .i x26, .b x27, .l x28, .l x29, .l x30, .l x31, .l x32, .l x33]
theorem g4_eq (x0 x1 x2 x3 x4 x5 x6 x7 x8 x9 x10 x11 x12 x13 x14 x15 x16 x17 x18 x19 : Int) (x20 : LL) (x21 x22 x23 x24 x25 x26 : Int) (x27 : Bool) (x28 x29 x30 x31 x32 x33 : LL) : g4 x0 x1 x2 x3 x4 x5 x6 x7 x8 x9 x10 x11 x12 x13 x14 x15 x16 x17 x18 x19 x20 x21 x22 x23 x24 x25 x26 x27 x28 x29 x30 x31 x32 x33 =
 (if (cop .gtr (List.length x20 : Int) 30) = true then
 (g6).bind fun (r34 : Bool) =>
 some (r34)
 else
 (g11 x28 x29 x30 x31 x32 x33).bind fun (r34 : Bool) =>
 if (!r34) = true then
 (g6).bind fun (r35 : Bool) =>
 some (r35)
 else
 (g12 x0 x1 x2 x3 x4 x5 x6 x7 x8 x9 x10 x11 x12 x13 x14 x15 x16 x17 x18 x19 x20 x21 x22 x23 x24 x25 x26 x27).bind fun (r35 : Bool) =>
 (g13 x0 x1 x2 x3 x4 x5 x6 x7 x8 x9 x10 x11 x12 x13 x14 x15 x16 x17 x18 x19 x20 x21 x22 x23 x24 x25 x26 x27).bind fun (r36 : Bool) =>
 if (r35 == r36) = true then
 (g14 x28 x29 x30 x31 x32 x33).bind fun (r37 : Bool) =>
 (g15 x28 x29 x30 x31 x32 x33).bind fun (r38 : Bool) =>
 if (r37 == r38) = true then
 (g6).bind fun (r39 : Bool) =>
 some (r39)
 else
 some (false)
 else
 some (false)) := by kernel_rfl

end Go.Proofs.YtceopohbfkamiaaGreat
