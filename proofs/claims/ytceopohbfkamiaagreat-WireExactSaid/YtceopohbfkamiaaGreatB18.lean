/- Functions of the program, as what they compute. -/
import Derived.Test.YtceopohbfkamiaaGreatF18b
namespace Go.Proofs.YtceopohbfkamiaaGreat
open Go Go.AM
set_option linter.unusedVariables false
set_option maxRecDepth 100000

/- multikernel/binenc.Uvarint -/
noncomputable def F129 : Fn := ⟨59, [4, 5, 6], [(4, [(0, .c (.slice 1)), (1, .c (.int .i64)), (4, .c (.int .u64)), (7, .c (.int .i64))])], [], 0, Tryz.f129, [.c (.slice 1), .c (.int .i64)], [.c (.int .u64), .c (.int .i64), .c (.int .i64)], []⟩
theorem ok129 : F129.S.Ok Tryz.prog 129 := F129.ok Tryz.func129 (by kernel_rfl) trivial
noncomputable def g129 (x0 : LL) (x1 : Int) : Option (Int × Int × Int) := F129.S.g [.l x0, .i x1]

/- (*multikernel/wire.reader).uint -/
noncomputable def F61 : Fn := ⟨38, [2], [], [0], 0, Tryz.f61, [.box [.slice 1, .int .i64, .bool]], [.c (.int .i64)], [(129, F129.S)]⟩
theorem ok61 : F61.S.Ok Tryz.prog 61 := F61.ok Tryz.func61 (by kernel_rfl) ⟨ok129, trivial⟩
noncomputable def g61 (x0 : LL) (x1 : Int) (x2 : Bool) : Option (Int × LL × Int × Bool) := F61.S.g [.l x0, .i x1, .b x2]

/- (*multikernel/wire.reader).id -/
noncomputable def F131 : Fn := ⟨10, [2], [], [0], 0, Tryz.f131, [.box [.slice 1, .int .i64, .bool]], [.agg [.int .i64, .int .i64, .int .i64]], [(61, F61.S)]⟩
theorem ok131 : F131.S.Ok Tryz.prog 131 := F131.ok Tryz.func131 (by kernel_rfl) ⟨ok61, trivial⟩
noncomputable def g131 (x0 : LL) (x1 : Int) (x2 : Bool) : Option (Int × Int × Int × LL × Int × Bool) := F131.S.g [.l x0, .i x1, .b x2]

/- multikernel/binenc.Varint -/
noncomputable def F183 : Fn := ⟨29, [4, 5, 6], [], [], 0, Tryz.f183, [.c (.slice 1), .c (.int .i64)], [.c (.int .i64), .c (.int .i64), .c (.int .i64)], [(129, F129.S)]⟩
theorem ok183 : F183.S.Ok Tryz.prog 183 := F183.ok Tryz.func183 (by kernel_rfl) ⟨ok129, trivial⟩
noncomputable def g183 (x0 : LL) (x1 : Int) : Option (Int × Int × Int) := F183.S.g [.l x0, .i x1]

/- (*multikernel/wire.reader).int -/
noncomputable def F179 : Fn := ⟨33, [2], [], [0], 0, Tryz.f179, [.box [.slice 1, .int .i64, .bool]], [.c (.int .i64)], [(183, F183.S)]⟩
theorem ok179 : F179.S.Ok Tryz.prog 179 := F179.ok Tryz.func179 (by kernel_rfl) ⟨ok183, trivial⟩
noncomputable def g179 (x0 : LL) (x1 : Int) (x2 : Bool) : Option (Int × LL × Int × Bool) := F179.S.g [.l x0, .i x1, .b x2]

/- (*multikernel/wire.reader).call -/
noncomputable def F170 : Fn := ⟨28, [2], [], [0], 0, Tryz.f170, [.box [.slice 1, .int .i64, .bool]], [.agg hs9], [(179, F179.S)]⟩
theorem ok170 : F170.S.Ok Tryz.prog 170 := F170.ok Tryz.func170 (by kernel_rfl) ⟨ok179, trivial⟩
noncomputable def g170 (x0 : LL) (x1 : Int) (x2 : Bool) : Option (Int × Int × Int × Int × Int × Int × Int × Int × Int × Int × Int × Int × LL × Int × Bool) := F170.S.g [.l x0, .i x1, .b x2]

/- (*multikernel/wire.reader).count -/
noncomputable def F172 : Fn := ⟨22, [2], [], [0], 0, Tryz.f172, [.box [.slice 1, .int .i64, .bool]], [.c (.int .i64)], [(61, F61.S)]⟩
theorem ok172 : F172.S.Ok Tryz.prog 172 := F172.ok Tryz.func172 (by kernel_rfl) ⟨ok61, trivial⟩
noncomputable def g172 (x0 : LL) (x1 : Int) (x2 : Bool) : Option (Int × LL × Int × Bool) := F172.S.g [.l x0, .i x1, .b x2]

/- (*multikernel/node.reader).integer -/
noncomputable def F185 : Fn := ⟨42, [4], [], [0], 0, Tryz.f185, [.box [.slice 1, .int .i64, .bool], .c (.int .i64)], [.c (.int .i64)], [(129, F129.S)]⟩
theorem ok185 : F185.S.Ok Tryz.prog 185 := F185.ok Tryz.func185 (by kernel_rfl) ⟨ok129, trivial⟩
noncomputable def g185 (x0 : LL) (x1 : Int) (x2 : Bool) (x3 : Int) : Option (Int × LL × Int × Bool) := F185.S.g [.l x0, .i x1, .b x2, .i x3]

/- (*multikernel/node.reader).id -/
noncomputable def F184 : Fn := ⟨10, [2], [], [0], 0, Tryz.f184, [.box [.slice 1, .int .i64, .bool]], [.agg [.int .i64, .int .i64, .int .i64]], [(185, F185.S)]⟩
theorem ok184 : F184.S.Ok Tryz.prog 184 := F184.ok Tryz.func184 (by kernel_rfl) ⟨ok185, trivial⟩
noncomputable def g184 (x0 : LL) (x1 : Int) (x2 : Bool) : Option (Int × Int × Int × LL × Int × Bool) := F184.S.g [.l x0, .i x1, .b x2]

/- multikernel/captype.Decode -/
noncomputable def F186 : Fn := ⟨65, [2, 3], [(5, [(0, .c (.slice 1)), (2, .box hs13), (4, .box hs13), (43, .c (.int .i64))])], [], 0, Tryz.f186, [.c (.slice 1)], [.agg hs13, .c (.int .i64)], [(109, F109.S)]⟩
theorem ok186 : F186.S.Ok Tryz.prog 186 := F186.ok Tryz.func186 (by kernel_rfl) ⟨ok109, trivial⟩
noncomputable def g186 (x0 : LL) : Option (Int × Int × Int × Int × Int × Int × Bool × Int) := F186.S.g [.l x0]

/- multikernel/node.Decode -/
noncomputable def F180 : Fn := ⟨52, [2, 3], [(4, [(0, .c (.slice 1)), (2, .box hs10), (4, .ptr 10 0), (5, .box [.int .i64, .int .i64, .int .i64, .own 23, .int .i64, .int .i64, .int .i64, .int .i64, .int .i64, .int .i64, .bool]), (15, .c (.int .i64)), (16, .c (.int .i64)), (10, .box [.slice 1, .int .i64, .bool])])], [], 0, Tryz.f180, [.c (.slice 1)], [.agg hs10, .c (.int .i64)], [(184, F184.S), (185, F185.S), (186, F186.S), (50, F50.S)]⟩
theorem ok180 : F180.S.Ok Tryz.prog 180 := F180.ok Tryz.func180 (by kernel_rfl) ⟨ok184, ⟨ok185, ⟨ok186, ⟨ok50, trivial⟩⟩⟩⟩
noncomputable def g180 (x0 : LL) : Option (Int × Int × Int × LL × Int × Int × Int × Int × Int × Int × Bool × Int) := F180.S.g [.l x0]

/- (*multikernel/wire.reader).node -/
noncomputable def F171 : Fn := ⟨50, [2], [], [0], 0, Tryz.f171, [.box [.slice 1, .int .i64, .bool]], [.agg hs10], [(172, F172.S), (180, F180.S)]⟩
theorem ok171 : F171.S.Ok Tryz.prog 171 := F171.ok Tryz.func171 (by kernel_rfl) ⟨ok172, ⟨ok180, trivial⟩⟩
noncomputable def g171 (x0 : LL) (x1 : Int) (x2 : Bool) : Option (Int × Int × Int × LL × Int × Int × Int × Int × Int × Int × Bool × LL × Int × Bool) := F171.S.g [.l x0, .i x1, .b x2]

/- (*multikernel/wire.reader).request -/
noncomputable def F130 : Fn := ⟨14, [2], [], [0], 0, Tryz.f130, [.box [.slice 1, .int .i64, .bool]], [.agg hs4], [(131, F131.S), (170, F170.S), (61, F61.S), (171, F171.S)]⟩
theorem ok130 : F130.S.Ok Tryz.prog 130 := F130.ok Tryz.func130 (by kernel_rfl) ⟨ok131, ⟨ok170, ⟨ok61, ⟨ok171, trivial⟩⟩⟩⟩
noncomputable def g130 (x0 : LL) (x1 : Int) (x2 : Bool) : Option (Int × Int × Int × Int × Int × Int × Int × Int × Int × Int × Int × Int × Int × Int × Int × Int × Int × Int × Int × Int × LL × Int × Int × Int × Int × Int × Int × Bool × LL × Int × Bool) := F130.S.g [.l x0, .i x1, .b x2]

/- (*multikernel/wire.reader).bool -/
noncomputable def F132 : Fn := ⟨13, [2], [], [0], 0, Tryz.f132, [.box [.slice 1, .int .i64, .bool]], [.c (.bool)], [(61, F61.S)]⟩
theorem ok132 : F132.S.Ok Tryz.prog 132 := F132.ok Tryz.func132 (by kernel_rfl) ⟨ok61, trivial⟩
noncomputable def g132 (x0 : LL) (x1 : Int) (x2 : Bool) : Option (Bool × LL × Int × Bool) := F132.S.g [.l x0, .i x1, .b x2]

/- (*multikernel/wire.reader).nodes -/
noncomputable def F133 : Fn := ⟨15, [2], [(3, [(0, .box [.slice 1, .int .i64, .bool]), (3, .c (.own 31)), (5, .c (.int .i64)), (6, .c (.int .i64))])], [0], 0, Tryz.f133, [.box [.slice 1, .int .i64, .bool]], [.c (.own 31)], [(172, F172.S), (171, F171.S)]⟩
theorem ok133 : F133.S.Ok Tryz.prog 133 := F133.ok Tryz.func133 (by kernel_rfl) ⟨ok172, ⟨ok171, trivial⟩⟩
noncomputable def g133 (x0 : LL) (x1 : Int) (x2 : Bool) : Option (LL × LL × Int × Bool) := F133.S.g [.l x0, .i x1, .b x2]

/- (*multikernel/wire.reader).ids -/
noncomputable def F134 : Fn := ⟨15, [2], [(3, [(0, .box [.slice 1, .int .i64, .bool]), (3, .c (.own 23)), (5, .c (.int .i64)), (6, .c (.int .i64))])], [0], 0, Tryz.f134, [.box [.slice 1, .int .i64, .bool]], [.c (.own 23)], [(172, F172.S), (131, F131.S)]⟩
theorem ok134 : F134.S.Ok Tryz.prog 134 := F134.ok Tryz.func134 (by kernel_rfl) ⟨ok172, ⟨ok131, trivial⟩⟩
noncomputable def g134 (x0 : LL) (x1 : Int) (x2 : Bool) : Option (LL × LL × Int × Bool) := F134.S.g [.l x0, .i x1, .b x2]

/- (*multikernel/wire.reader).ints -/
noncomputable def F135 : Fn := ⟨15, [2], [(3, [(0, .box [.slice 1, .int .i64, .bool]), (3, .c (.own 3)), (5, .c (.int .i64)), (6, .c (.int .i64))])], [0], 0, Tryz.f135, [.box [.slice 1, .int .i64, .bool]], [.c (.own 3)], [(172, F172.S), (61, F61.S)]⟩
theorem ok135 : F135.S.Ok Tryz.prog 135 := F135.ok Tryz.func135 (by kernel_rfl) ⟨ok172, ⟨ok61, trivial⟩⟩
noncomputable def g135 (x0 : LL) (x1 : Int) (x2 : Bool) : Option (LL × LL × Int × Bool) := F135.S.g [.l x0, .i x1, .b x2]

/- (*multikernel/wire.reader).view -/
noncomputable def F137 : Fn := ⟨10, [2], [], [0], 0, Tryz.f137, [.box [.slice 1, .int .i64, .bool]], [.agg [.int .i64, .slice 1, .slice 1]], [(61, F61.S), (135, F135.S)]⟩
theorem ok137 : F137.S.Ok Tryz.prog 137 := F137.ok Tryz.func137 (by kernel_rfl) ⟨ok61, ⟨ok135, trivial⟩⟩
noncomputable def g137 (x0 : LL) (x1 : Int) (x2 : Bool) : Option (Int × LL × LL × LL × Int × Bool) := F137.S.g [.l x0, .i x1, .b x2]

/- (*multikernel/wire.reader).state -/
noncomputable def F138 : Fn := ⟨84, [2], [(3, [(0, .box [.slice 1, .int .i64, .bool]), (2, .box hs14), (3, .box hs16), (5, .c (.int .i64)), (6, .c (.int .i64))]), (7, [(0, .box [.slice 1, .int .i64, .bool]), (2, .box hs14), (3, .box hs16), (22, .c (.int .i64)), (23, .c (.int .i64))]), (11, [(0, .box [.slice 1, .int .i64, .bool]), (2, .box hs14), (3, .box hs16), (34, .c (.int .i64)), (35, .c (.int .i64))]), (15, [(0, .box [.slice 1, .int .i64, .bool]), (2, .box hs14), (3, .box hs16), (49, .c (.int .i64)), (50, .c (.int .i64))]), (19, [(0, .box [.slice 1, .int .i64, .bool]), (2, .box hs14), (3, .box hs16), (64, .c (.int .i64)), (65, .c (.int .i64))])], [0], 0, Tryz.f138, [.box [.slice 1, .int .i64, .bool]], [.agg hs14], [(172, F172.S), (171, F171.S), (61, F61.S), (131, F131.S), (130, F130.S), (134, F134.S)]⟩
theorem ok138 : F138.S.Ok Tryz.prog 138 := F138.ok Tryz.func138 (by kernel_rfl) ⟨ok172, ⟨ok171, ⟨ok61, ⟨ok131, ⟨ok130, ⟨ok134, trivial⟩⟩⟩⟩⟩⟩
noncomputable def g138 (x0 : LL) (x1 : Int) (x2 : Bool) : Option (LL × LL × LL × LL × LL × LL × LL × Int × Bool) := F138.S.g [.l x0, .i x1, .b x2]

/- (*multikernel/wire.reader).report -/
noncomputable def F136 : Fn := ⟨16, [2], [], [0], 0, Tryz.f136, [.box [.slice 1, .int .i64, .bool]], [.agg hs5], [(61, F61.S), (137, F137.S), (138, F138.S), (132, F132.S)]⟩
theorem ok136 : F136.S.Ok Tryz.prog 136 := F136.ok Tryz.func136 (by kernel_rfl) ⟨ok61, ⟨ok137, ⟨ok138, ⟨ok132, trivial⟩⟩⟩⟩
noncomputable def g136 (x0 : LL) (x1 : Int) (x2 : Bool) : Option (Int × Int × LL × LL × LL × LL × LL × LL × LL × LL × Bool × Int × LL × LL × LL × LL × LL × LL × LL × LL × LL × Int × Bool) := F136.S.g [.l x0, .i x1, .b x2]

/- (*multikernel/wire.reader).moves -/
noncomputable def F139 : Fn := ⟨18, [2], [(3, [(0, .box [.slice 1, .int .i64, .bool]), (3, .c (.own 80)), (5, .c (.int .i64)), (6, .c (.int .i64))])], [0], 0, Tryz.f139, [.box [.slice 1, .int .i64, .bool]], [.c (.own 80)], [(172, F172.S), (61, F61.S)]⟩
theorem ok139 : F139.S.Ok Tryz.prog 139 := F139.ok Tryz.func139 (by kernel_rfl) ⟨ok172, ⟨ok61, trivial⟩⟩
noncomputable def g139 (x0 : LL) (x1 : Int) (x2 : Bool) : Option (LL × LL × Int × Bool) := F139.S.g [.l x0, .i x1, .b x2]

/- (*multikernel/wire.reader).field -/
noncomputable def F62 : Fn := ⟨112, [], [], [0, 1], 0, Tryz.f62, [.box [.slice 1, .int .i64, .bool], .box hs0, .c (.int .i64)], [], [(61, F61.S), (130, F130.S), (131, F131.S), (132, F132.S), (133, F133.S), (134, F134.S), (135, F135.S), (136, F136.S), (137, F137.S), (138, F138.S), (139, F139.S)]⟩
theorem ok62 : F62.S.Ok Tryz.prog 62 := F62.ok Tryz.func62 (by kernel_rfl) ⟨ok61, ⟨ok130, ⟨ok131, ⟨ok132, ⟨ok133, ⟨ok134, ⟨ok135, ⟨ok136, ⟨ok137, ⟨ok138, ⟨ok139, trivial⟩⟩⟩⟩⟩⟩⟩⟩⟩⟩⟩
noncomputable def g62 (x0 : LL) (x1 : Int) (x2 : Bool) (x3 x4 x5 x6 x7 x8 x9 x10 x11 x12 x13 : Int) (x14 : Bool) (x15 x16 x17 x18 x19 x20 x21 x22 x23 x24 x25 x26 x27 x28 x29 x30 x31 x32 x33 x34 : Int) (x35 : LL) (x36 x37 x38 x39 x40 x41 : Int) (x42 : Bool) (x43 x44 x45 x46 : LL) (x47 x48 : Int) (x49 x50 x51 x52 x53 x54 x55 x56 : LL) (x57 x58 : Int) (x59 x60 x61 x62 x63 x64 x65 x66 : LL) (x67 : Bool) (x68 : Int) (x69 x70 x71 x72 x73 x74 x75 x76 : LL) (x77 : Int) : Option (LL × Int × Bool × Int × Int × Int × Int × Int × Int × Int × Int × Int × Int × Int × Bool × Int × Int × Int × Int × Int × Int × Int × Int × Int × Int × Int × Int × Int × Int × Int × Int × Int × Int × Int × Int × LL × Int × Int × Int × Int × Int × Int × Bool × LL × LL × LL × LL × Int × Int × LL × LL × LL × LL × LL × LL × LL × LL × Int × Int × LL × LL × LL × LL × LL × LL × LL × LL × Bool × Int × LL × LL × LL × LL × LL × LL × LL × LL) := F62.S.g [.l x0, .i x1, .b x2, .i x3, .i x4, .i x5, .i x6, .i x7, .i x8, .i x9, .i x10, .i x11, .i x12, .i x13, .b x14, .i x15, .i x16, .i x17, .i x18, .i x19, .i x20, .i x21, .i x22, .i x23, .i x24, .i x25, .i x26, .i x27, .i x28, .i x29, .i x30, .i x31, .i x32, .i x33, .i x34, .l x35, .i x36, .i x37, .i x38, .i x39, .i x40, .i x41, .b x42, .l x43, .l x44, .l x45, .l x46, .i x47, .i x48, .l x49, .l x50, .l x51, .l x52, .l x53, .l x54, .l x55, .l x56, .i x57, .i x58, .l x59, .l x60, .l x61, .l x62, .l x63, .l x64, .l x65, .l x66, .b x67, .i x68, .l x69, .l x70, .l x71, .l x72, .l x73, .l x74, .l x75, .l x76, .i x77]

/- bytes.Equal -/
noncomputable def F63 : Fn := ⟨10, [4], [], [], 0, Tryz.f63, [.c (.slice 1), .c (.slice 1)], [.c (.bool)], []⟩
theorem ok63 : F63.S.Ok Tryz.prog 63 := F63.ok Tryz.func63 (by kernel_rfl) trivial
noncomputable def g63 (x0 x1 : LL) : Option (Bool) := F63.S.g [.l x0, .l x1]

/- multikernel/wire.Decode -/
noncomputable def F16 : Fn := ⟨60, [2, 3], [(5, [(0, .c (.slice 1)), (2, .box hs0), (4, .ptr 14 0), (5, .box hs0), (30, .c (.slice 1)), (31, .c (.int .i64)), (32, .c (.int .i64)), (14, .box [.slice 1, .int .i64, .bool])])], [], 0, Tryz.f16, [.c (.slice 1)], [.agg hs0, .c (.int .i64)], [(61, F61.S), (19, F19.S), (62, F62.S), (7, F7.S), (63, F63.S)]⟩
theorem ok16 : F16.S.Ok Tryz.prog 16 := F16.ok Tryz.func16 (by kernel_rfl) ⟨ok61, ⟨ok19, ⟨ok62, ⟨ok7, ⟨ok63, trivial⟩⟩⟩⟩⟩
noncomputable def g16 (x0 : LL) : Option (Qt2) := F16.S.g [.l x0]

end Go.Proofs.YtceopohbfkamiaaGreat
