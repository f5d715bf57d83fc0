/- Functions of the program, as what they compute. -/
import Derived.Test.YtmgfkjonkdfedaaGreatF24a
namespace Go.Proofs.YtmgfkjonkdfedaaGreat
open Go Go.AM
set_option linter.unusedVariables false
set_option maxRecDepth 100000

/- multikernel/wire.fields -/
noncomputable def F60 : Fn := ⟨44, [2, 3], [], [], 0, [], [], Tryz.f60, [.c (.int .i64)], [.c (.own false 108), .c (.bool)], []⟩
theorem ok60 : F60.S.Ok Tryz.prog 60 := F60.ok Tryz.func60 (by kernel_rfl) trivial
noncomputable def g60 (x0 : Int) : Option (LL × Bool) := F60.S.g [.i x0]

/- multikernel/wire.isNumber -/
noncomputable def F61 : Fn := ⟨9, [2], [], [], 0, [], [], Tryz.f61, [.c (.int .i64)], [.c (.bool)], []⟩
theorem ok61 : F61.S.Ok Tryz.prog 61 := F61.ok Tryz.func61 (by kernel_rfl) trivial
noncomputable def g61 (x0 : Int) : Option (Bool) := F61.S.g [.i x0]

/- multikernel/wire.isCore -/
noncomputable def F62 : Fn := ⟨9, [2], [], [], 0, [], [], Tryz.f62, [.c (.int .i64)], [.c (.bool)], []⟩
theorem ok62 : F62.S.Ok Tryz.prog 62 := F62.ok Tryz.func62 (by kernel_rfl) trivial
noncomputable def g62 (x0 : Int) : Option (Bool) := F62.S.g [.i x0]

/- multikernel/wire.isRegion -/
noncomputable def F75 : Fn := ⟨9, [2], [], [], 0, [], [], Tryz.f75, [.c (.int .i64)], [.c (.bool)], []⟩
theorem ok75 : F75.S.Ok Tryz.prog 75 := F75.ok Tryz.func75 (by kernel_rfl) trivial
noncomputable def g75 (x0 : Int) : Option (Bool) := F75.S.g [.i x0]

/- multikernel/node.ValidId -/
noncomputable def F85 : Fn := ⟨31, [2], [], [], 0, [], [], Tryz.f85, [.agg [.int .i64, .int .i64, .int .i64]], [.c (.bool)], []⟩
theorem ok85 : F85.S.Ok Tryz.prog 85 := F85.ok Tryz.func85 (by kernel_rfl) trivial
noncomputable def g85 (x0 x1 x2 : Int) : Option (Bool) := F85.S.g [.i x0, .i x1, .i x2]

/- multikernel/wire.isOperation -/
noncomputable def F77 : Fn := ⟨10, [2], [], [], 0, [], [], Tryz.f77, [.agg [.int .i64, .int .i64, .int .i64]], [.c (.bool)], [(85, F85.S)]⟩
theorem ok77 : F77.S.Ok Tryz.prog 77 := F77.ok Tryz.func77 (by kernel_rfl) ⟨ok85, trivial⟩
noncomputable def g77 (x0 x1 x2 : Int) : Option (Bool) := F77.S.g [.i x0, .i x1, .i x2]

/- slices.Equal[[]multikernel/api.Id,multikernel/api.Id] -/
noncomputable def F117 : Fn := ⟨26, [4], [(4, [(0, .c (.slice 3)), (1, .c (.slice 3)), (12, .c (.int .i64)), (13, .c (.int .i64))])], [], 0, [], [], Tryz.f117, [.c (.slice 3), .c (.slice 3)], [.c (.bool)], []⟩
theorem ok117 : F117.S.Ok Tryz.prog 117 := F117.ok Tryz.func117 (by kernel_rfl) trivial
noncomputable def g117 (x0 x1 : LL) : Option (Bool) := F117.S.g [.l x0, .l x1]

/- multikernel/node.Equal -/
noncomputable def F103 : Fn := ⟨24, [4], [], [], 0, [], [], Tryz.f103, [.agg hs10, .agg hs10], [.c (.bool)], [(117, F117.S)]⟩
theorem ok103 : F103.S.Ok Tryz.prog 103 := F103.ok Tryz.func103 (by kernel_rfl) ⟨ok117, trivial⟩
noncomputable def g103 (x0 x1 x2 : Int) (x3 : LL) (x4 x5 x6 x7 x8 x9 : Int) (x10 : Bool) (x11 x12 x13 : Int) (x14 : LL) (x15 x16 x17 x18 x19 x20 : Int) (x21 : Bool) : Option (Bool) := F103.S.g [.i x0, .i x1, .i x2, .l x3, .i x4, .i x5, .i x6, .i x7, .i x8, .i x9, .b x10, .i x11, .i x12, .i x13, .l x14, .i x15, .i x16, .i x17, .i x18, .i x19, .i x20, .b x21]

/- multikernel/captype.sizeAllowed -/
noncomputable def F118 : Fn := ⟨38, [4], [], [], 0, [], [], Tryz.f118, [.c (.int .i64), .c (.int .i64)], [.c (.bool)], []⟩
theorem ok118 : F118.S.Ok Tryz.prog 118 := F118.ok Tryz.func118 (by kernel_rfl) trivial
noncomputable def g118 (x0 x1 : Int) : Option (Bool) := F118.S.g [.i x0, .i x1]

/- multikernel/captype.Range -/
noncomputable def F120 : Fn := ⟨8, [2], [], [], 0, [], [], Tryz.f120, [.agg hs13], [.agg [.int .i64, .int .i64]], []⟩
theorem ok120 : F120.S.Ok Tryz.prog 120 := F120.ok Tryz.func120 (by kernel_rfl) trivial
noncomputable def g120 (x0 x1 x2 x3 x4 x5 : Int) (x6 : Bool) : Option (Int × Int) := F120.S.g [.i x0, .i x1, .i x2, .i x3, .i x4, .i x5, .b x6]

/- multikernel/memrange.Valid -/
noncomputable def F119 : Fn := ⟨32, [2], [], [], 0, [], [], Tryz.f119, [.agg [.int .i64, .int .i64]], [.c (.bool)], []⟩
theorem ok119 : F119.S.Ok Tryz.prog 119 := F119.ok Tryz.func119 (by kernel_rfl) trivial
noncomputable def g119 (x0 x1 : Int) : Option (Bool) := F119.S.g [.i x0, .i x1]

/- multikernel/captype.formatAllowed -/
noncomputable def F121 : Fn := ⟨22, [4], [], [], 0, [], [], Tryz.f121, [.c (.int .i64), .c (.int .i64)], [.c (.bool)], []⟩
theorem ok121 : F121.S.Ok Tryz.prog 121 := F121.ok Tryz.func121 (by kernel_rfl) trivial
noncomputable def g121 (x0 x1 : Int) : Option (Bool) := F121.S.g [.i x0, .i x1]

/- multikernel/captype.Valid -/
noncomputable def F105 : Fn := ⟨55, [2], [], [], 0, [], [], Tryz.f105, [.agg hs13], [.c (.bool)], [(118, F118.S), (120, F120.S), (119, F119.S), (121, F121.S)]⟩
theorem ok105 : F105.S.Ok Tryz.prog 105 := F105.ok Tryz.func105 (by kernel_rfl) ⟨ok118, ⟨ok120, ⟨ok119, ⟨ok121, trivial⟩⟩⟩⟩
noncomputable def g105 (x0 x1 x2 x3 x4 x5 : Int) (x6 : Bool) : Option (Bool) := F105.S.g [.i x0, .i x1, .i x2, .i x3, .i x4, .i x5, .b x6]

/- slices.Index[[]multikernel/api.Id,multikernel/api.Id] -/
noncomputable def F122 : Fn := ⟨19, [4], [(2, [(0, .c (.slice 3)), (3, .box [.int .i64, .int .i64, .int .i64]), (7, .c (.int .i64)), (8, .c (.int .i64))])], [], 0, [], [], Tryz.f122, [.c (.slice 3), .agg [.int .i64, .int .i64, .int .i64]], [.c (.int .i64)], []⟩
theorem ok122 : F122.S.Ok Tryz.prog 122 := F122.ok Tryz.func122 (by kernel_rfl) trivial
noncomputable def g122 (x0 : LL) (x1 x2 x3 : Int) : Option (Int) := F122.S.g [.l x0, .i x1, .i x2, .i x3]

/- slices.Contains[[]multikernel/api.Id,multikernel/api.Id] -/
noncomputable def F106 : Fn := ⟨9, [4], [], [], 0, [], [], Tryz.f106, [.c (.slice 3), .agg [.int .i64, .int .i64, .int .i64]], [.c (.bool)], [(122, F122.S)]⟩
theorem ok106 : F106.S.Ok Tryz.prog 106 := F106.ok Tryz.func106 (by kernel_rfl) ⟨ok122, trivial⟩
noncomputable def g106 (x0 : LL) (x1 x2 x3 : Int) : Option (Bool) := F106.S.g [.l x0, .i x1, .i x2, .i x3]

/- multikernel/node.Valid -/
noncomputable def F81 : Fn := ⟨47, [2], [(4, [(1, .box hs10), (22, .c (.slice 3)), (23, .c (.int .i64)), (24, .c (.int .i64))])], [], 0, [], [], Tryz.f81, [.agg hs10], [.c (.bool)], [(85, F85.S), (105, F105.S), (106, F106.S)]⟩
theorem ok81 : F81.S.Ok Tryz.prog 81 := F81.ok Tryz.func81 (by kernel_rfl) ⟨ok85, ⟨ok105, ⟨ok106, trivial⟩⟩⟩
noncomputable def g81 (x0 x1 x2 : Int) (x3 : LL) (x4 x5 x6 x7 x8 x9 : Int) (x10 : Bool) : Option (Bool) := F81.S.g [.i x0, .i x1, .i x2, .l x3, .i x4, .i x5, .i x6, .i x7, .i x8, .i x9, .b x10]

/- multikernel/wire.ValidRequest -/
noncomputable def F76 : Fn := ⟨46, [2], [], [], 0, [], [], Tryz.f76, [.agg hs3], [.c (.bool)], [(77, F77.S), (75, F75.S), (103, F103.S), (81, F81.S)]⟩
theorem ok76 : F76.S.Ok Tryz.prog 76 := F76.ok Tryz.func76 (by kernel_rfl) ⟨ok77, ⟨ok75, ⟨ok103, ⟨ok81, trivial⟩⟩⟩⟩
noncomputable def g76 (x0 x1 x2 x3 x4 x5 x6 x7 x8 x9 x10 x11 x12 x13 x14 x15 x16 x17 x18 x19 : Int) (x20 : LL) (x21 x22 x23 x24 x25 x26 : Int) (x27 : Bool) : Option (Bool) := F76.S.g [.i x0, .i x1, .i x2, .i x3, .i x4, .i x5, .i x6, .i x7, .i x8, .i x9, .i x10, .i x11, .i x12, .i x13, .i x14, .i x15, .i x16, .i x17, .i x18, .i x19, .l x20, .i x21, .i x22, .i x23, .i x24, .i x25, .i x26, .b x27]

/- multikernel/wire.isErr -/
noncomputable def F78 : Fn := ⟨9, [2], [], [], 0, [], [], Tryz.f78, [.c (.int .i64)], [.c (.bool)], []⟩
theorem ok78 : F78.S.Ok Tryz.prog 78 := F78.ok Tryz.func78 (by kernel_rfl) trivial
noncomputable def g78 (x0 : Int) : Option (Bool) := F78.S.g [.i x0]

/- multikernel/wire.isSlot -/
noncomputable def F82 : Fn := ⟨9, [2], [], [], 0, [], [], Tryz.f82, [.c (.int .i64)], [.c (.bool)], []⟩
theorem ok82 : F82.S.Ok Tryz.prog 82 := F82.ok Tryz.func82 (by kernel_rfl) trivial
noncomputable def g82 (x0 : Int) : Option (Bool) := F82.S.g [.i x0]

/- multikernel/wire.validView$1 -/
noncomputable def F109 : Fn := ⟨6, [2], [], [], 0, [], [], Tryz.f109, [.c (.int .i64)], [.c (.bool)], [(62, F62.S)]⟩
theorem ok109 : F109.S.Ok Tryz.prog 109 := F109.ok Tryz.func109 (by kernel_rfl) ⟨ok62, trivial⟩
noncomputable def g109 (x0 : Int) : Option (Bool) := F109.S.g [.i x0]

/- slices.IndexFunc[[]int,int] -/
noncomputable def F108c109 : Fn := ⟨19, [4], [(2, [(0, .c (.slice 1)), (1, .clo 109 []), (7, .c (.int .i64)), (8, .c (.int .i64))])], [], 0, [], [], Tryz.f108, [.c (.slice 1), .clo 109 []], [.c (.int .i64)], [(109, F109.S)]⟩
theorem ok108c109 : F108c109.S.Ok Tryz.prog 108 := F108c109.ok Tryz.func108 (by kernel_rfl) ⟨ok109, trivial⟩
noncomputable def g108c109 (x0 : LL) : Option (Int) := F108c109.S.g [.l x0]

/- slices.ContainsFunc[[]int,int] -/
noncomputable def F86c109 : Fn := ⟨9, [4], [], [], 0, [], [], Tryz.f86, [.c (.slice 1), .clo 109 []], [.c (.bool)], [(108, F108c109.S)]⟩
theorem ok86c109 : F86c109.S.Ok Tryz.prog 86 := F86c109.ok Tryz.func86 (by kernel_rfl) ⟨ok108c109, trivial⟩
noncomputable def g86c109 (x0 : LL) : Option (Bool) := F86c109.S.g [.l x0]

/- multikernel/wire.validView -/
noncomputable def F91 : Fn := ⟨45, [2], [(4, [(1, .box [.int .i64, .slice 1, .slice 1]), (22, .c (.slice 1)), (23, .c (.int .i64)), (24, .c (.int .i64))])], [], 0, [], [], Tryz.f91, [.agg [.int .i64, .slice 1, .slice 1]], [.c (.bool)], [(61, F61.S), (62, F62.S), (42, F42.S), (86, F86c109.S)]⟩
theorem ok91 : F91.S.Ok Tryz.prog 91 := F91.ok Tryz.func91 (by kernel_rfl) ⟨ok61, ⟨ok62, ⟨ok42, ⟨ok86c109, trivial⟩⟩⟩⟩
noncomputable def g91 (x0 : Int) (x1 x2 : LL) : Option (Bool) := F91.S.g [.i x0, .l x1, .l x2]

/- multikernel/cspace.Empty -/
noncomputable def F100 : Fn := ⟨8, [2], [], [], 0, [], [], Tryz.f100, [.agg hs8], [.c (.bool)], []⟩
theorem ok100 : F100.S.Ok Tryz.prog 100 := F100.ok Tryz.func100 (by kernel_rfl) trivial
noncomputable def g100 (x0 x1 x2 : Int) (x3 : LL) (x4 x5 x6 x7 x8 x9 : Int) (x10 : Bool) (x11 x12 x13 x14 : Int) : Option (Bool) := F100.S.g [.i x0, .i x1, .i x2, .l x3, .i x4, .i x5, .i x6, .i x7, .i x8, .i x9, .b x10, .i x11, .i x12, .i x13, .i x14]

/- multikernel/cspace.validSlot -/
noncomputable def F123 : Fn := ⟨43, [2], [], [], 0, [], [], Tryz.f123, [.agg hs8], [.c (.bool)], [(100, F100.S), (103, F103.S), (81, F81.S), (85, F85.S)]⟩
theorem ok123 : F123.S.Ok Tryz.prog 123 := F123.ok Tryz.func123 (by kernel_rfl) ⟨ok100, ⟨ok103, ⟨ok81, ⟨ok85, trivial⟩⟩⟩⟩
noncomputable def g123 (x0 x1 x2 : Int) (x3 : LL) (x4 x5 x6 x7 x8 x9 : Int) (x10 : Bool) (x11 x12 x13 x14 : Int) : Option (Bool) := F123.S.g [.i x0, .i x1, .i x2, .l x3, .i x4, .i x5, .i x6, .i x7, .i x8, .i x9, .b x10, .i x11, .i x12, .i x13, .i x14]

/- multikernel/cspace.Find -/
noncomputable def F99 : Fn := ⟨27, [4, 5], [(2, [(3, .box [.int .i64, .int .i64, .int .i64]), (8, .c (.slice 15)), (9, .c (.int .i64)), (10, .c (.int .i64))])], [], 0, [], [], Tryz.f99, [.c (.slice 15), .agg [.int .i64, .int .i64, .int .i64]], [.c (.int .i64), .c (.bool)], [(100, F100.S)]⟩
theorem ok99 : F99.S.Ok Tryz.prog 99 := F99.ok Tryz.func99 (by kernel_rfl) ⟨ok100, trivial⟩
noncomputable def g99 (x0 : LL) (x1 x2 x3 : Int) : Option (Int × Bool) := F99.S.g [.l x0, .i x1, .i x2, .i x3]

/- multikernel/cspace.Valid -/
noncomputable def F110 : Fn := ⟨32, [2], [(4, [(0, .c (.slice 15)), (10, .c (.slice 15)), (11, .c (.int .i64)), (12, .c (.int .i64))])], [], 0, [], [], Tryz.f110, [.c (.slice 15)], [.c (.bool)], [(123, F123.S), (99, F99.S)]⟩
theorem ok110 : F110.S.Ok Tryz.prog 110 := F110.ok Tryz.func110 (by kernel_rfl) ⟨ok123, ⟨ok99, trivial⟩⟩
noncomputable def g110 (x0 : LL) : Option (Bool) := F110.S.g [.l x0]

/- multikernel/wire.validPending$1 -/
noncomputable def F125 : Fn := ⟨6, [2], [], [], 0, [], [], Tryz.f125, [.agg hs3], [.c (.bool)], [(76, F76.S)]⟩
theorem ok125 : F125.S.Ok Tryz.prog 125 := F125.ok Tryz.func125 (by kernel_rfl) ⟨ok76, trivial⟩
noncomputable def g125 (x0 x1 x2 x3 x4 x5 x6 x7 x8 x9 x10 x11 x12 x13 x14 x15 x16 x17 x18 x19 : Int) (x20 : LL) (x21 x22 x23 x24 x25 x26 : Int) (x27 : Bool) : Option (Bool) := F125.S.g [.i x0, .i x1, .i x2, .i x3, .i x4, .i x5, .i x6, .i x7, .i x8, .i x9, .i x10, .i x11, .i x12, .i x13, .i x14, .i x15, .i x16, .i x17, .i x18, .i x19, .l x20, .i x21, .i x22, .i x23, .i x24, .i x25, .i x26, .b x27]

/- slices.IndexFunc[[]multikernel/api.Request,multikernel/api.Request] -/
noncomputable def F25c125 : Fn := ⟨19, [4], [(2, [(0, .c (.slice 28)), (1, .clo 125 []), (7, .c (.int .i64)), (8, .c (.int .i64))])], [], 0, [], [], Tryz.f25, [.c (.slice 28), .clo 125 []], [.c (.int .i64)], [(125, F125.S)]⟩
theorem ok25c125 : F25c125.S.Ok Tryz.prog 25 := F25c125.ok Tryz.func25 (by kernel_rfl) ⟨ok125, trivial⟩
noncomputable def g25c125 (x0 : LL) : Option (Int) := F25c125.S.g [.l x0]

/- slices.ContainsFunc[[]multikernel/api.Request,multikernel/api.Request] -/
noncomputable def F124c125 : Fn := ⟨9, [4], [], [], 0, [], [], Tryz.f124, [.c (.slice 28), .clo 125 []], [.c (.bool)], [(25, F25c125.S)]⟩
theorem ok124c125 : F124c125.S.Ok Tryz.prog 124 := F124c125.ok Tryz.func124 (by kernel_rfl) ⟨ok25c125, trivial⟩
noncomputable def g124c125 (x0 : LL) : Option (Bool) := F124c125.S.g [.l x0]

/- multikernel/wire.validPending$2 -/
noncomputable def F126 : Fn := ⟨17, [5], [], [2], 0, [], [], Tryz.f126, [.c (.int .i64), .c (.int .i64), .box [.slice 28]], [.c (.bool)], [(27, F27.S)]⟩
theorem ok126 : F126.S.Ok Tryz.prog 126 := F126.ok Tryz.func126 (by kernel_rfl) ⟨ok27, trivial⟩
noncomputable def g126 (x0 x1 : Int) (x2 : LL) : Option (Bool × LL) := F126.S.g [.i x0, .i x1, .l x2]

/- multikernel/wire.ascending -/
noncomputable def F88c126 : Fn := ⟨17, [4], [(2, [(0, .c (.int .i64)), (1, .clo 126 [17]), (5, .c (.int .i64)), (17, .gbox [.slice 28])])], [], 1, [], [], Tryz.f88, [.c (.int .i64), .clo 126 [17], .dead, .dead, .dead, .dead, .dead, .dead, .dead, .dead, .dead, .dead, .dead, .dead, .dead, .dead, .dead, .gbox [.slice 28]], [.c (.bool)], [(126, F126.S)]⟩
theorem ok88c126 : F88c126.S.Ok Tryz.prog 88 := F88c126.ok Tryz.func88 (by kernel_rfl) ⟨ok126, trivial⟩
noncomputable def g88c126 (x0 : Int) (x1 : LL) : Option (Bool × LL) := F88c126.S.g [.i x0, .l x1]

/- multikernel/wire.validPending -/
noncomputable def F111 : Fn := ⟨12, [2], [], [], 0, [], [], Tryz.f111, [.c (.slice 28)], [.c (.bool)], [(124, F124c125.S), (88, F88c126.S)]⟩
theorem ok111 : F111.S.Ok Tryz.prog 111 := F111.ok Tryz.func111 (by kernel_rfl) ⟨ok124c125, ⟨ok88c126, trivial⟩⟩
noncomputable def g111 (x0 : LL) : Option (Bool) := F111.S.g [.l x0]

/- multikernel/wire.validMarks$1 -/
noncomputable def F128 : Fn := ⟨13, [2], [], [], 0, [], [], Tryz.f128, [.agg [.int .i64, .int .i64, .int .i64, .int .i64]], [.c (.bool)], [(75, F75.S), (77, F77.S)]⟩
theorem ok128 : F128.S.Ok Tryz.prog 128 := F128.ok Tryz.func128 (by kernel_rfl) ⟨ok75, ⟨ok77, trivial⟩⟩
noncomputable def g128 (x0 x1 x2 x3 : Int) : Option (Bool) := F128.S.g [.i x0, .i x1, .i x2, .i x3]

/- slices.IndexFunc[[]multikernel/api.Mark,multikernel/api.Mark] -/
noncomputable def F136c128 : Fn := ⟨19, [4], [(2, [(0, .c (.slice 4)), (1, .clo 128 []), (7, .c (.int .i64)), (8, .c (.int .i64))])], [], 0, [], [], Tryz.f136, [.c (.slice 4), .clo 128 []], [.c (.int .i64)], [(128, F128.S)]⟩
theorem ok136c128 : F136c128.S.Ok Tryz.prog 136 := F136c128.ok Tryz.func136 (by kernel_rfl) ⟨ok128, trivial⟩
noncomputable def g136c128 (x0 : LL) : Option (Int) := F136c128.S.g [.l x0]

/- slices.ContainsFunc[[]multikernel/api.Mark,multikernel/api.Mark] -/
noncomputable def F127c128 : Fn := ⟨9, [4], [], [], 0, [], [], Tryz.f127, [.c (.slice 4), .clo 128 []], [.c (.bool)], [(136, F136c128.S)]⟩
theorem ok127c128 : F127c128.S.Ok Tryz.prog 127 := F127c128.ok Tryz.func127 (by kernel_rfl) ⟨ok136c128, trivial⟩
noncomputable def g127c128 (x0 : LL) : Option (Bool) := F127c128.S.g [.l x0]

/- multikernel/wire.validMarks$2 -/
noncomputable def F129 : Fn := ⟨17, [5], [], [2], 0, [], [], Tryz.f129, [.c (.int .i64), .c (.int .i64), .box [.slice 4]], [.c (.bool)], []⟩
theorem ok129 : F129.S.Ok Tryz.prog 129 := F129.ok Tryz.func129 (by kernel_rfl) trivial
noncomputable def g129 (x0 x1 : Int) (x2 : LL) : Option (Bool × LL) := F129.S.g [.i x0, .i x1, .l x2]

/- multikernel/wire.ascending -/
noncomputable def F88c129 : Fn := ⟨17, [4], [(2, [(0, .c (.int .i64)), (1, .clo 129 [17]), (5, .c (.int .i64)), (17, .gbox [.slice 4])])], [], 1, [], [], Tryz.f88, [.c (.int .i64), .clo 129 [17], .dead, .dead, .dead, .dead, .dead, .dead, .dead, .dead, .dead, .dead, .dead, .dead, .dead, .dead, .dead, .gbox [.slice 4]], [.c (.bool)], [(129, F129.S)]⟩
theorem ok88c129 : F88c129.S.Ok Tryz.prog 88 := F88c129.ok Tryz.func88 (by kernel_rfl) ⟨ok129, trivial⟩
noncomputable def g88c129 (x0 : Int) (x1 : LL) : Option (Bool × LL) := F88c129.S.g [.i x0, .l x1]

/- multikernel/wire.validMarks -/
noncomputable def F112 : Fn := ⟨12, [2], [], [], 0, [], [], Tryz.f112, [.c (.slice 4)], [.c (.bool)], [(127, F127c128.S), (88, F88c129.S)]⟩
theorem ok112 : F112.S.Ok Tryz.prog 112 := F112.ok Tryz.func112 (by kernel_rfl) ⟨ok127c128, ⟨ok88c129, trivial⟩⟩
noncomputable def g112 (x0 : LL) : Option (Bool) := F112.S.g [.l x0]

/- multikernel/wire.validAnswers$1 -/
noncomputable def F131 : Fn := ⟨17, [2], [], [], 0, [], [], Tryz.f131, [.agg [.int .i64, .int .i64]], [.c (.bool)], [(78, F78.S)]⟩
theorem ok131 : F131.S.Ok Tryz.prog 131 := F131.ok Tryz.func131 (by kernel_rfl) ⟨ok78, trivial⟩
noncomputable def g131 (x0 x1 : Int) : Option (Bool) := F131.S.g [.i x0, .i x1]

/- slices.IndexFunc[[]multikernel/api.Answer,multikernel/api.Answer] -/
noncomputable def F137c131 : Fn := ⟨19, [4], [(2, [(0, .c (.slice 2)), (1, .clo 131 []), (7, .c (.int .i64)), (8, .c (.int .i64))])], [], 0, [], [], Tryz.f137, [.c (.slice 2), .clo 131 []], [.c (.int .i64)], [(131, F131.S)]⟩
theorem ok137c131 : F137c131.S.Ok Tryz.prog 137 := F137c131.ok Tryz.func137 (by kernel_rfl) ⟨ok131, trivial⟩
noncomputable def g137c131 (x0 : LL) : Option (Int) := F137c131.S.g [.l x0]

/- slices.ContainsFunc[[]multikernel/api.Answer,multikernel/api.Answer] -/
noncomputable def F130c131 : Fn := ⟨9, [4], [], [], 0, [], [], Tryz.f130, [.c (.slice 2), .clo 131 []], [.c (.bool)], [(137, F137c131.S)]⟩
theorem ok130c131 : F130c131.S.Ok Tryz.prog 130 := F130c131.ok Tryz.func130 (by kernel_rfl) ⟨ok137c131, trivial⟩
noncomputable def g130c131 (x0 : LL) : Option (Bool) := F130c131.S.g [.l x0]

/- multikernel/wire.validAnswers$2 -/
noncomputable def F132 : Fn := ⟨17, [5], [], [2], 0, [], [], Tryz.f132, [.c (.int .i64), .c (.int .i64), .box [.slice 2]], [.c (.bool)], []⟩
theorem ok132 : F132.S.Ok Tryz.prog 132 := F132.ok Tryz.func132 (by kernel_rfl) trivial
noncomputable def g132 (x0 x1 : Int) (x2 : LL) : Option (Bool × LL) := F132.S.g [.i x0, .i x1, .l x2]

/- multikernel/wire.ascending -/
noncomputable def F88c132 : Fn := ⟨17, [4], [(2, [(0, .c (.int .i64)), (1, .clo 132 [17]), (5, .c (.int .i64)), (17, .gbox [.slice 2])])], [], 1, [], [], Tryz.f88, [.c (.int .i64), .clo 132 [17], .dead, .dead, .dead, .dead, .dead, .dead, .dead, .dead, .dead, .dead, .dead, .dead, .dead, .dead, .dead, .gbox [.slice 2]], [.c (.bool)], [(132, F132.S)]⟩
theorem ok88c132 : F88c132.S.Ok Tryz.prog 88 := F88c132.ok Tryz.func88 (by kernel_rfl) ⟨ok132, trivial⟩
noncomputable def g88c132 (x0 : Int) (x1 : LL) : Option (Bool × LL) := F88c132.S.g [.i x0, .l x1]

/- multikernel/wire.validAnswers -/
noncomputable def F113 : Fn := ⟨12, [2], [], [], 0, [], [], Tryz.f113, [.c (.slice 2)], [.c (.bool)], [(130, F130c131.S), (88, F88c132.S)]⟩
theorem ok113 : F113.S.Ok Tryz.prog 113 := F113.ok Tryz.func113 (by kernel_rfl) ⟨ok130c131, ⟨ok88c132, trivial⟩⟩
noncomputable def g113 (x0 : LL) : Option (Bool) := F113.S.g [.l x0]

/- multikernel/wire.validEntries$1 -/
noncomputable def F134 : Fn := ⟨19, [2], [], [], 0, [], [], Tryz.f134, [.agg hs9], [.c (.bool)], [(62, F62.S), (82, F82.S), (81, F81.S)]⟩
theorem ok134 : F134.S.Ok Tryz.prog 134 := F134.ok Tryz.func134 (by kernel_rfl) ⟨ok62, ⟨ok82, ⟨ok81, trivial⟩⟩⟩
noncomputable def g134 (x0 x1 x2 x3 x4 : Int) (x5 : LL) (x6 x7 x8 x9 x10 x11 : Int) (x12 : Bool) : Option (Bool) := F134.S.g [.i x0, .i x1, .i x2, .i x3, .i x4, .l x5, .i x6, .i x7, .i x8, .i x9, .i x10, .i x11, .b x12]

/- slices.IndexFunc[[]multikernel/api.Entry,multikernel/api.Entry] -/
noncomputable def F138c134 : Fn := ⟨19, [4], [(2, [(0, .c (.slice 13)), (1, .clo 134 []), (7, .c (.int .i64)), (8, .c (.int .i64))])], [], 0, [], [], Tryz.f138, [.c (.slice 13), .clo 134 []], [.c (.int .i64)], [(134, F134.S)]⟩
theorem ok138c134 : F138c134.S.Ok Tryz.prog 138 := F138c134.ok Tryz.func138 (by kernel_rfl) ⟨ok134, trivial⟩
noncomputable def g138c134 (x0 : LL) : Option (Int) := F138c134.S.g [.l x0]

/- slices.ContainsFunc[[]multikernel/api.Entry,multikernel/api.Entry] -/
noncomputable def F133c134 : Fn := ⟨9, [4], [], [], 0, [], [], Tryz.f133, [.c (.slice 13), .clo 134 []], [.c (.bool)], [(138, F138c134.S)]⟩
theorem ok133c134 : F133c134.S.Ok Tryz.prog 133 := F133c134.ok Tryz.func133 (by kernel_rfl) ⟨ok138c134, trivial⟩
noncomputable def g133c134 (x0 : LL) : Option (Bool) := F133c134.S.g [.l x0]

/- multikernel/wire.validEntries$2 -/
noncomputable def F135 : Fn := ⟨19, [5], [], [2], 0, [], [], Tryz.f135, [.c (.int .i64), .c (.int .i64), .box [.slice 13]], [.c (.bool)], [(27, F27.S)]⟩
theorem ok135 : F135.S.Ok Tryz.prog 135 := F135.ok Tryz.func135 (by kernel_rfl) ⟨ok27, trivial⟩
noncomputable def g135 (x0 x1 : Int) (x2 : LL) : Option (Bool × LL) := F135.S.g [.i x0, .i x1, .l x2]

/- multikernel/wire.ascending -/
noncomputable def F88c135 : Fn := ⟨17, [4], [(2, [(0, .c (.int .i64)), (1, .clo 135 [17]), (5, .c (.int .i64)), (17, .gbox [.slice 13])])], [], 1, [], [], Tryz.f88, [.c (.int .i64), .clo 135 [17], .dead, .dead, .dead, .dead, .dead, .dead, .dead, .dead, .dead, .dead, .dead, .dead, .dead, .dead, .dead, .gbox [.slice 13]], [.c (.bool)], [(135, F135.S)]⟩
theorem ok88c135 : F88c135.S.Ok Tryz.prog 88 := F88c135.ok Tryz.func88 (by kernel_rfl) ⟨ok135, trivial⟩
noncomputable def g88c135 (x0 : Int) (x1 : LL) : Option (Bool × LL) := F88c135.S.g [.i x0, .l x1]

/- multikernel/wire.validEntries -/
noncomputable def F114 : Fn := ⟨12, [2], [], [], 0, [], [], Tryz.f114, [.c (.slice 13)], [.c (.bool)], [(133, F133c134.S), (88, F88c135.S)]⟩
theorem ok114 : F114.S.Ok Tryz.prog 114 := F114.ok Tryz.func114 (by kernel_rfl) ⟨ok133c134, ⟨ok88c135, trivial⟩⟩
noncomputable def g114 (x0 : LL) : Option (Bool) := F114.S.g [.l x0]

/- multikernel/wire.ValidState$1 -/
noncomputable def F115 : Fn := ⟨6, [2], [], [], 0, [], [], Tryz.f115, [.agg [.int .i64, .int .i64, .int .i64]], [.c (.bool)], [(77, F77.S)]⟩
theorem ok115 : F115.S.Ok Tryz.prog 115 := F115.ok Tryz.func115 (by kernel_rfl) ⟨ok77, trivial⟩
noncomputable def g115 (x0 x1 x2 : Int) : Option (Bool) := F115.S.g [.i x0, .i x1, .i x2]

/- slices.IndexFunc[[]multikernel/api.Id,multikernel/api.Id] -/
noncomputable def F107c115 : Fn := ⟨19, [4], [(2, [(0, .c (.slice 3)), (1, .clo 115 []), (7, .c (.int .i64)), (8, .c (.int .i64))])], [], 0, [], [], Tryz.f107, [.c (.slice 3), .clo 115 []], [.c (.int .i64)], [(115, F115.S)]⟩
theorem ok107c115 : F107c115.S.Ok Tryz.prog 107 := F107c115.ok Tryz.func107 (by kernel_rfl) ⟨ok115, trivial⟩
noncomputable def g107c115 (x0 : LL) : Option (Int) := F107c115.S.g [.l x0]

/- slices.ContainsFunc[[]multikernel/api.Id,multikernel/api.Id] -/
noncomputable def F83c115 : Fn := ⟨9, [4], [], [], 0, [], [], Tryz.f83, [.c (.slice 3), .clo 115 []], [.c (.bool)], [(107, F107c115.S)]⟩
theorem ok83c115 : F83c115.S.Ok Tryz.prog 83 := F83c115.ok Tryz.func83 (by kernel_rfl) ⟨ok107c115, trivial⟩
noncomputable def g83c115 (x0 : LL) : Option (Bool) := F83c115.S.g [.l x0]

/- multikernel/wire.ValidState -/
noncomputable def F92 : Fn := ⟨32, [2], [], [], 0, [], [], Tryz.f92, [.agg hs14], [.c (.bool)], [(110, F110.S), (111, F111.S), (112, F112.S), (113, F113.S), (114, F114.S), (83, F83c115.S)]⟩
theorem ok92 : F92.S.Ok Tryz.prog 92 := F92.ok Tryz.func92 (by kernel_rfl) ⟨ok110, ⟨ok111, ⟨ok112, ⟨ok113, ⟨ok114, ⟨ok83c115, trivial⟩⟩⟩⟩⟩⟩
noncomputable def g92 (x0 x1 x2 x3 x4 x5 : LL) : Option (Bool) := F92.S.g [.l x0, .l x1, .l x2, .l x3, .l x4, .l x5]

/- multikernel/wire.validReport -/
noncomputable def F90 : Fn := ⟨26, [2], [], [], 0, [], [], Tryz.f90, [.agg hs4], [.c (.bool)], [(62, F62.S), (91, F91.S), (92, F92.S)]⟩
theorem ok90 : F90.S.Ok Tryz.prog 90 := F90.ok Tryz.func90 (by kernel_rfl) ⟨ok62, ⟨ok91, ⟨ok92, trivial⟩⟩⟩
noncomputable def g90 (x0 x1 : Int) (x2 x3 x4 x5 x6 x7 x8 x9 : LL) (x10 : Bool) (x11 : Int) (x12 x13 x14 x15 x16 x17 x18 x19 : LL) : Option (Bool) := F90.S.g [.i x0, .i x1, .l x2, .l x3, .l x4, .l x5, .l x6, .l x7, .l x8, .l x9, .b x10, .i x11, .l x12, .l x13, .l x14, .l x15, .l x16, .l x17, .l x18, .l x19]

/- multikernel/wire.validField$1 -/
noncomputable def F80 : Fn := ⟨6, [2], [], [], 0, [], [], Tryz.f80, [.agg hs10], [.c (.bool)], [(81, F81.S)]⟩
theorem ok80 : F80.S.Ok Tryz.prog 80 := F80.ok Tryz.func80 (by kernel_rfl) ⟨ok81, trivial⟩
noncomputable def g80 (x0 x1 x2 : Int) (x3 : LL) (x4 x5 x6 x7 x8 x9 : Int) (x10 : Bool) : Option (Bool) := F80.S.g [.i x0, .i x1, .i x2, .l x3, .i x4, .i x5, .i x6, .i x7, .i x8, .i x9, .b x10]

/- slices.IndexFunc[[]multikernel/api.Node,multikernel/api.Node] -/
noncomputable def F104c80 : Fn := ⟨19, [4], [(2, [(0, .c (.slice 11)), (1, .clo 80 []), (7, .c (.int .i64)), (8, .c (.int .i64))])], [], 0, [], [], Tryz.f104, [.c (.slice 11), .clo 80 []], [.c (.int .i64)], [(80, F80.S)]⟩
theorem ok104c80 : F104c80.S.Ok Tryz.prog 104 := F104c80.ok Tryz.func104 (by kernel_rfl) ⟨ok80, trivial⟩
noncomputable def g104c80 (x0 : LL) : Option (Int) := F104c80.S.g [.l x0]

/- slices.ContainsFunc[[]multikernel/api.Node,multikernel/api.Node] -/
noncomputable def F79c80 : Fn := ⟨9, [4], [], [], 0, [], [], Tryz.f79, [.c (.slice 11), .clo 80 []], [.c (.bool)], [(104, F104c80.S)]⟩
theorem ok79c80 : F79c80.S.Ok Tryz.prog 79 := F79c80.ok Tryz.func79 (by kernel_rfl) ⟨ok104c80, trivial⟩
noncomputable def g79c80 (x0 : LL) : Option (Bool) := F79c80.S.g [.l x0]

/- multikernel/wire.validField$2 -/
noncomputable def F84 : Fn := ⟨6, [2], [], [], 0, [], [], Tryz.f84, [.agg [.int .i64, .int .i64, .int .i64]], [.c (.bool)], [(85, F85.S)]⟩
theorem ok84 : F84.S.Ok Tryz.prog 84 := F84.ok Tryz.func84 (by kernel_rfl) ⟨ok85, trivial⟩
noncomputable def g84 (x0 x1 x2 : Int) : Option (Bool) := F84.S.g [.i x0, .i x1, .i x2]

/- slices.IndexFunc[[]multikernel/api.Id,multikernel/api.Id] -/
noncomputable def F107c84 : Fn := ⟨19, [4], [(2, [(0, .c (.slice 3)), (1, .clo 84 []), (7, .c (.int .i64)), (8, .c (.int .i64))])], [], 0, [], [], Tryz.f107, [.c (.slice 3), .clo 84 []], [.c (.int .i64)], [(84, F84.S)]⟩
theorem ok107c84 : F107c84.S.Ok Tryz.prog 107 := F107c84.ok Tryz.func107 (by kernel_rfl) ⟨ok84, trivial⟩
noncomputable def g107c84 (x0 : LL) : Option (Int) := F107c84.S.g [.l x0]

/- slices.ContainsFunc[[]multikernel/api.Id,multikernel/api.Id] -/
noncomputable def F83c84 : Fn := ⟨9, [4], [], [], 0, [], [], Tryz.f83, [.c (.slice 3), .clo 84 []], [.c (.bool)], [(107, F107c84.S)]⟩
theorem ok83c84 : F83c84.S.Ok Tryz.prog 83 := F83c84.ok Tryz.func83 (by kernel_rfl) ⟨ok107c84, trivial⟩
noncomputable def g83c84 (x0 : LL) : Option (Bool) := F83c84.S.g [.l x0]

/- multikernel/wire.validField$3 -/
noncomputable def F87 : Fn := ⟨6, [2], [], [], 0, [], [], Tryz.f87, [.c (.int .i64)], [.c (.bool)], [(62, F62.S)]⟩
theorem ok87 : F87.S.Ok Tryz.prog 87 := F87.ok Tryz.func87 (by kernel_rfl) ⟨ok62, trivial⟩
noncomputable def g87 (x0 : Int) : Option (Bool) := F87.S.g [.i x0]

/- slices.IndexFunc[[]int,int] -/
noncomputable def F108c87 : Fn := ⟨19, [4], [(2, [(0, .c (.slice 1)), (1, .clo 87 []), (7, .c (.int .i64)), (8, .c (.int .i64))])], [], 0, [], [], Tryz.f108, [.c (.slice 1), .clo 87 []], [.c (.int .i64)], [(87, F87.S)]⟩
theorem ok108c87 : F108c87.S.Ok Tryz.prog 108 := F108c87.ok Tryz.func108 (by kernel_rfl) ⟨ok87, trivial⟩
noncomputable def g108c87 (x0 : LL) : Option (Int) := F108c87.S.g [.l x0]

/- slices.ContainsFunc[[]int,int] -/
noncomputable def F86c87 : Fn := ⟨9, [4], [], [], 0, [], [], Tryz.f86, [.c (.slice 1), .clo 87 []], [.c (.bool)], [(108, F108c87.S)]⟩
theorem ok86c87 : F86c87.S.Ok Tryz.prog 86 := F86c87.ok Tryz.func86 (by kernel_rfl) ⟨ok108c87, trivial⟩
noncomputable def g86c87 (x0 : LL) : Option (Bool) := F86c87.S.g [.l x0]

/- multikernel/wire.validField$4 -/
noncomputable def F89 : Fn := ⟨17, [5], [], [2], 0, [], [], Tryz.f89, [.c (.int .i64), .c (.int .i64), .box hs0], [.c (.bool)], []⟩
theorem ok89 : F89.S.Ok Tryz.prog 89 := F89.ok Tryz.func89 (by kernel_rfl) trivial
noncomputable def g89 (x0 x1 x2 x3 x4 x5 x6 x7 x8 x9 x10 x11 x12 : Int) (x13 : Bool) (x14 x15 x16 x17 x18 x19 x20 x21 x22 x23 x24 x25 x26 x27 x28 x29 x30 x31 x32 x33 : Int) (x34 : LL) (x35 x36 x37 x38 x39 x40 : Int) (x41 : Bool) (x42 x43 x44 x45 : LL) (x46 x47 : Int) (x48 x49 x50 x51 x52 x53 x54 x55 : LL) (x56 x57 : Int) (x58 x59 x60 x61 x62 x63 x64 x65 : LL) (x66 : Bool) (x67 : Int) (x68 x69 x70 x71 x72 x73 x74 x75 : LL) : Option (Qt1) := F89.S.g [.i x0, .i x1, .i x2, .i x3, .i x4, .i x5, .i x6, .i x7, .i x8, .i x9, .i x10, .i x11, .i x12, .b x13, .i x14, .i x15, .i x16, .i x17, .i x18, .i x19, .i x20, .i x21, .i x22, .i x23, .i x24, .i x25, .i x26, .i x27, .i x28, .i x29, .i x30, .i x31, .i x32, .i x33, .l x34, .i x35, .i x36, .i x37, .i x38, .i x39, .i x40, .b x41, .l x42, .l x43, .l x44, .l x45, .i x46, .i x47, .l x48, .l x49, .l x50, .l x51, .l x52, .l x53, .l x54, .l x55, .i x56, .i x57, .l x58, .l x59, .l x60, .l x61, .l x62, .l x63, .l x64, .l x65, .b x66, .i x67, .l x68, .l x69, .l x70, .l x71, .l x72, .l x73, .l x74, .l x75]

/- multikernel/wire.ascending -/
noncomputable def F88c89 : Fn := ⟨17, [4], [(2, [(0, .c (.int .i64)), (1, .clo 89 [17]), (5, .c (.int .i64)), (17, .gbox hs0)])], [], 1, [], [], Tryz.f88, [.c (.int .i64), .clo 89 [17], .dead, .dead, .dead, .dead, .dead, .dead, .dead, .dead, .dead, .dead, .dead, .dead, .dead, .dead, .dead, .gbox hs0], [.c (.bool)], [(89, F89.S)]⟩
theorem ok88c89 : F88c89.S.Ok Tryz.prog 88 := F88c89.ok Tryz.func88 (by kernel_rfl) ⟨ok89, trivial⟩
noncomputable def g88c89 (x0 x1 x2 x3 x4 x5 x6 x7 x8 x9 x10 x11 : Int) (x12 : Bool) (x13 x14 x15 x16 x17 x18 x19 x20 x21 x22 x23 x24 x25 x26 x27 x28 x29 x30 x31 x32 : Int) (x33 : LL) (x34 x35 x36 x37 x38 x39 : Int) (x40 : Bool) (x41 x42 x43 x44 : LL) (x45 x46 : Int) (x47 x48 x49 x50 x51 x52 x53 x54 : LL) (x55 x56 : Int) (x57 x58 x59 x60 x61 x62 x63 x64 : LL) (x65 : Bool) (x66 : Int) (x67 x68 x69 x70 x71 x72 x73 x74 : LL) : Option (Qt1) := F88c89.S.g [.i x0, .i x1, .i x2, .i x3, .i x4, .i x5, .i x6, .i x7, .i x8, .i x9, .i x10, .i x11, .b x12, .i x13, .i x14, .i x15, .i x16, .i x17, .i x18, .i x19, .i x20, .i x21, .i x22, .i x23, .i x24, .i x25, .i x26, .i x27, .i x28, .i x29, .i x30, .i x31, .i x32, .l x33, .i x34, .i x35, .i x36, .i x37, .i x38, .i x39, .b x40, .l x41, .l x42, .l x43, .l x44, .i x45, .i x46, .l x47, .l x48, .l x49, .l x50, .l x51, .l x52, .l x53, .l x54, .i x55, .i x56, .l x57, .l x58, .l x59, .l x60, .l x61, .l x62, .l x63, .l x64, .b x65, .i x66, .l x67, .l x68, .l x69, .l x70, .l x71, .l x72, .l x73, .l x74]

/- multikernel/wire.validField$5 -/
noncomputable def F94 : Fn := ⟨13, [2], [], [], 0, [], [], Tryz.f94, [.agg [.int .i64, .int .i64]], [.c (.bool)], [(75, F75.S), (62, F62.S)]⟩
theorem ok94 : F94.S.Ok Tryz.prog 94 := F94.ok Tryz.func94 (by kernel_rfl) ⟨ok75, ⟨ok62, trivial⟩⟩
noncomputable def g94 (x0 x1 : Int) : Option (Bool) := F94.S.g [.i x0, .i x1]

/- slices.IndexFunc[[]multikernel/api.Move,multikernel/api.Move] -/
noncomputable def F116c94 : Fn := ⟨19, [4], [(2, [(0, .c (.slice 2)), (1, .clo 94 []), (7, .c (.int .i64)), (8, .c (.int .i64))])], [], 0, [], [], Tryz.f116, [.c (.slice 2), .clo 94 []], [.c (.int .i64)], [(94, F94.S)]⟩
theorem ok116c94 : F116c94.S.Ok Tryz.prog 116 := F116c94.ok Tryz.func116 (by kernel_rfl) ⟨ok94, trivial⟩
noncomputable def g116c94 (x0 : LL) : Option (Int) := F116c94.S.g [.l x0]

/- slices.ContainsFunc[[]multikernel/api.Move,multikernel/api.Move] -/
noncomputable def F93c94 : Fn := ⟨9, [4], [], [], 0, [], [], Tryz.f93, [.c (.slice 2), .clo 94 []], [.c (.bool)], [(116, F116c94.S)]⟩
theorem ok93c94 : F93c94.S.Ok Tryz.prog 93 := F93c94.ok Tryz.func93 (by kernel_rfl) ⟨ok116c94, trivial⟩
noncomputable def g93c94 (x0 : LL) : Option (Bool) := F93c94.S.g [.l x0]

/- multikernel/wire.validField -/
noncomputable def F63 : Fn := ⟨114, [4], [], [], 0, [], [], Tryz.f63, [.agg hs0, .c (.int .i64)], [.c (.bool)], [(75, F75.S), (76, F76.S), (77, F77.S), (78, F78.S), (79, F79c80.S), (82, F82.S), (83, F83c84.S), (61, F61.S), (86, F86c87.S), (88, F88c89.S), (90, F90.S), (91, F91.S), (92, F92.S), (93, F93c94.S)]⟩
theorem ok63 : F63.S.Ok Tryz.prog 63 := F63.ok Tryz.func63 (by kernel_rfl) ⟨ok75, ⟨ok76, ⟨ok77, ⟨ok78, ⟨ok79c80, ⟨ok82, ⟨ok83c84, ⟨ok61, ⟨ok86c87, ⟨ok88c89, ⟨ok90, ⟨ok91, ⟨ok92, ⟨ok93c94, trivial⟩⟩⟩⟩⟩⟩⟩⟩⟩⟩⟩⟩⟩⟩
noncomputable def g63 (x0 x1 x2 x3 x4 x5 x6 x7 x8 x9 x10 : Int) (x11 : Bool) (x12 x13 x14 x15 x16 x17 x18 x19 x20 x21 x22 x23 x24 x25 x26 x27 x28 x29 x30 x31 : Int) (x32 : LL) (x33 x34 x35 x36 x37 x38 : Int) (x39 : Bool) (x40 x41 x42 x43 : LL) (x44 x45 : Int) (x46 x47 x48 x49 x50 x51 x52 x53 : LL) (x54 x55 : Int) (x56 x57 x58 x59 x60 x61 x62 x63 : LL) (x64 : Bool) (x65 : Int) (x66 x67 x68 x69 x70 x71 x72 x73 : LL) (x74 : Int) : Option (Bool) := F63.S.g [.i x0, .i x1, .i x2, .i x3, .i x4, .i x5, .i x6, .i x7, .i x8, .i x9, .i x10, .b x11, .i x12, .i x13, .i x14, .i x15, .i x16, .i x17, .i x18, .i x19, .i x20, .i x21, .i x22, .i x23, .i x24, .i x25, .i x26, .i x27, .i x28, .i x29, .i x30, .i x31, .l x32, .i x33, .i x34, .i x35, .i x36, .i x37, .i x38, .b x39, .l x40, .l x41, .l x42, .l x43, .i x44, .i x45, .l x46, .l x47, .l x48, .l x49, .l x50, .l x51, .l x52, .l x53, .i x54, .i x55, .l x56, .l x57, .l x58, .l x59, .l x60, .l x61, .l x62, .l x63, .b x64, .i x65, .l x66, .l x67, .l x68, .l x69, .l x70, .l x71, .l x72, .l x73, .i x74]

/- multikernel/wire.clearField -/
noncomputable def F64 : Fn := ⟨85, [], [], [0], 0, [], [], Tryz.f64, [.box hs0, .c (.int .i64)], [], []⟩
theorem ok64 : F64.S.Ok Tryz.prog 64 := F64.ok Tryz.func64 (by kernel_rfl) trivial
noncomputable def g64 (x0 x1 x2 x3 x4 x5 x6 x7 x8 x9 x10 : Int) (x11 : Bool) (x12 x13 x14 x15 x16 x17 x18 x19 x20 x21 x22 x23 x24 x25 x26 x27 x28 x29 x30 x31 : Int) (x32 : LL) (x33 x34 x35 x36 x37 x38 : Int) (x39 : Bool) (x40 x41 x42 x43 : LL) (x44 x45 : Int) (x46 x47 x48 x49 x50 x51 x52 x53 : LL) (x54 x55 : Int) (x56 x57 x58 x59 x60 x61 x62 x63 : LL) (x64 : Bool) (x65 : Int) (x66 x67 x68 x69 x70 x71 x72 x73 : LL) (x74 : Int) : Option (Qt2) := F64.S.g [.i x0, .i x1, .i x2, .i x3, .i x4, .i x5, .i x6, .i x7, .i x8, .i x9, .i x10, .b x11, .i x12, .i x13, .i x14, .i x15, .i x16, .i x17, .i x18, .i x19, .i x20, .i x21, .i x22, .i x23, .i x24, .i x25, .i x26, .i x27, .i x28, .i x29, .i x30, .i x31, .l x32, .i x33, .i x34, .i x35, .i x36, .i x37, .i x38, .b x39, .l x40, .l x41, .l x42, .l x43, .i x44, .i x45, .l x46, .l x47, .l x48, .l x49, .l x50, .l x51, .l x52, .l x53, .i x54, .i x55, .l x56, .l x57, .l x58, .l x59, .l x60, .l x61, .l x62, .l x63, .b x64, .i x65, .l x66, .l x67, .l x68, .l x69, .l x70, .l x71, .l x72, .l x73, .i x74]

/- multikernel/wire.zeroRequest -/
noncomputable def F95 : Fn := ⟨29, [2], [], [], 0, [], [], Tryz.f95, [.agg hs3], [.c (.bool)], [(103, F103.S)]⟩
theorem ok95 : F95.S.Ok Tryz.prog 95 := F95.ok Tryz.func95 (by kernel_rfl) ⟨ok103, trivial⟩
noncomputable def g95 (x0 x1 x2 x3 x4 x5 x6 x7 x8 x9 x10 x11 x12 x13 x14 x15 x16 x17 x18 x19 : Int) (x20 : LL) (x21 x22 x23 x24 x25 x26 : Int) (x27 : Bool) : Option (Bool) := F95.S.g [.i x0, .i x1, .i x2, .i x3, .i x4, .i x5, .i x6, .i x7, .i x8, .i x9, .i x10, .i x11, .i x12, .i x13, .i x14, .i x15, .i x16, .i x17, .i x18, .i x19, .l x20, .i x21, .i x22, .i x23, .i x24, .i x25, .i x26, .b x27]

/- multikernel/wire.zeroView -/
noncomputable def F96 : Fn := ⟨18, [2], [], [], 0, [], [], Tryz.f96, [.agg [.int .i64, .slice 1, .slice 1]], [.c (.bool)], []⟩
theorem ok96 : F96.S.Ok Tryz.prog 96 := F96.ok Tryz.func96 (by kernel_rfl) trivial
noncomputable def g96 (x0 : Int) (x1 x2 : LL) : Option (Bool) := F96.S.g [.i x0, .l x1, .l x2]

/- multikernel/wire.zeroState -/
noncomputable def F97 : Fn := ⟨37, [2], [], [], 0, [], [], Tryz.f97, [.agg hs14], [.c (.bool)], []⟩
theorem ok97 : F97.S.Ok Tryz.prog 97 := F97.ok Tryz.func97 (by kernel_rfl) trivial
noncomputable def g97 (x0 x1 x2 x3 x4 x5 : LL) : Option (Bool) := F97.S.g [.l x0, .l x1, .l x2, .l x3, .l x4, .l x5]

/- multikernel/wire.zeroReport -/
noncomputable def F98 : Fn := ⟨31, [2], [], [], 0, [], [], Tryz.f98, [.agg hs4], [.c (.bool)], [(96, F96.S), (97, F97.S)]⟩
theorem ok98 : F98.S.Ok Tryz.prog 98 := F98.ok Tryz.func98 (by kernel_rfl) ⟨ok96, ⟨ok97, trivial⟩⟩
noncomputable def g98 (x0 x1 : Int) (x2 x3 x4 x5 x6 x7 x8 x9 : LL) (x10 : Bool) (x11 : Int) (x12 x13 x14 x15 x16 x17 x18 x19 : LL) : Option (Bool) := F98.S.g [.i x0, .i x1, .l x2, .l x3, .l x4, .l x5, .l x6, .l x7, .l x8, .l x9, .b x10, .i x11, .l x12, .l x13, .l x14, .l x15, .l x16, .l x17, .l x18, .l x19]

/- multikernel/wire.zeroBody -/
noncomputable def F65 : Fn := ⟨81, [2], [], [], 0, [], [], Tryz.f65, [.agg hs0], [.c (.bool)], [(95, F95.S), (96, F96.S), (97, F97.S), (98, F98.S)]⟩
theorem ok65 : F65.S.Ok Tryz.prog 65 := F65.ok Tryz.func65 (by kernel_rfl) ⟨ok95, ⟨ok96, ⟨ok97, ⟨ok98, trivial⟩⟩⟩⟩
noncomputable def g65 (x0 x1 x2 x3 x4 x5 x6 x7 x8 x9 x10 : Int) (x11 : Bool) (x12 x13 x14 x15 x16 x17 x18 x19 x20 x21 x22 x23 x24 x25 x26 x27 x28 x29 x30 x31 : Int) (x32 : LL) (x33 x34 x35 x36 x37 x38 : Int) (x39 : Bool) (x40 x41 x42 x43 : LL) (x44 x45 : Int) (x46 x47 x48 x49 x50 x51 x52 x53 : LL) (x54 x55 : Int) (x56 x57 x58 x59 x60 x61 x62 x63 : LL) (x64 : Bool) (x65 : Int) (x66 x67 x68 x69 x70 x71 x72 x73 : LL) : Option (Bool) := F65.S.g [.i x0, .i x1, .i x2, .i x3, .i x4, .i x5, .i x6, .i x7, .i x8, .i x9, .i x10, .b x11, .i x12, .i x13, .i x14, .i x15, .i x16, .i x17, .i x18, .i x19, .i x20, .i x21, .i x22, .i x23, .i x24, .i x25, .i x26, .i x27, .i x28, .i x29, .i x30, .i x31, .l x32, .i x33, .i x34, .i x35, .i x36, .i x37, .i x38, .b x39, .l x40, .l x41, .l x42, .l x43, .i x44, .i x45, .l x46, .l x47, .l x48, .l x49, .l x50, .l x51, .l x52, .l x53, .i x54, .i x55, .l x56, .l x57, .l x58, .l x59, .l x60, .l x61, .l x62, .l x63, .b x64, .i x65, .l x66, .l x67, .l x68, .l x69, .l x70, .l x71, .l x72, .l x73]

/- multikernel/wire.Valid -/
noncomputable def F37 : Fn := ⟨50, [2], [(6, [(1, .box hs0), (5, .box hs0), (35, .c (.slice 1)), (36, .c (.int .i64)), (37, .c (.int .i64))])], [], 0, [], [], Tryz.f37, [.agg hs0], [.c (.bool)], [(60, F60.S), (61, F61.S), (62, F62.S), (63, F63.S), (64, F64.S), (65, F65.S)]⟩
theorem ok37 : F37.S.Ok Tryz.prog 37 := F37.ok Tryz.func37 (by kernel_rfl) ⟨ok60, ⟨ok61, ⟨ok62, ⟨ok63, ⟨ok64, ⟨ok65, trivial⟩⟩⟩⟩⟩⟩
noncomputable def g37 (x0 x1 x2 x3 x4 x5 x6 x7 x8 x9 x10 : Int) (x11 : Bool) (x12 x13 x14 x15 x16 x17 x18 x19 x20 x21 x22 x23 x24 x25 x26 x27 x28 x29 x30 x31 : Int) (x32 : LL) (x33 x34 x35 x36 x37 x38 : Int) (x39 : Bool) (x40 x41 x42 x43 : LL) (x44 x45 : Int) (x46 x47 x48 x49 x50 x51 x52 x53 : LL) (x54 x55 : Int) (x56 x57 x58 x59 x60 x61 x62 x63 : LL) (x64 : Bool) (x65 : Int) (x66 x67 x68 x69 x70 x71 x72 x73 : LL) : Option (Bool) := F37.S.g [.i x0, .i x1, .i x2, .i x3, .i x4, .i x5, .i x6, .i x7, .i x8, .i x9, .i x10, .b x11, .i x12, .i x13, .i x14, .i x15, .i x16, .i x17, .i x18, .i x19, .i x20, .i x21, .i x22, .i x23, .i x24, .i x25, .i x26, .i x27, .i x28, .i x29, .i x30, .i x31, .l x32, .i x33, .i x34, .i x35, .i x36, .i x37, .i x38, .b x39, .l x40, .l x41, .l x42, .l x43, .i x44, .i x45, .l x46, .l x47, .l x48, .l x49, .l x50, .l x51, .l x52, .l x53, .i x54, .i x55, .l x56, .l x57, .l x58, .l x59, .l x60, .l x61, .l x62, .l x63, .b x64, .i x65, .l x66, .l x67, .l x68, .l x69, .l x70, .l x71, .l x72, .l x73]

/- slices.Delete[[]multikernel/api.Request,multikernel/api.Request] -/
noncomputable def F38.S : Fun := delF true 34
theorem ok38 : F38.S.Ok Tryz.prog 38 := delF_ok (T := 23) (B := 4) (I := 3) (U := 0) (e := 34) (bytes := 240) mixed (by kernel_rfl) Tryz.func38 (by kernel_rfl) ⟨by kernel_rfl, by kernel_rfl, by kernel_rfl⟩
noncomputable def g38 (x0 : LL) (x1 x2 : Int) : Option LL := F38.S.g [.l x0, .i x1, .i x2]
theorem g38_eq (x0 : LL) (x1 x2 : Int) : g38 x0 x1 x2 = gDel x0 x1 x2 := rfl

/- multikernel/cspace.Put -/
noncomputable def F66 : Fn := ⟨49, [6, 7], [], [], 0, [6], [], Tryz.f66, [.c (.slice 15), .c (.int .i64), .agg hs10], [.c (.own true 70), .c (.int .i64)], [(99, F99.S), (81, F81.S), (100, F100.S), (36, F36.S), (28, F28.S)]⟩
theorem ok66 : F66.S.Ok Tryz.prog 66 := F66.ok Tryz.func66 (by kernel_rfl) ⟨ok99, ⟨ok81, ⟨ok100, ⟨ok36, ⟨ok28, trivial⟩⟩⟩⟩⟩
noncomputable def g66 (x0 : LL) (x1 x2 x3 x4 : Int) (x5 : LL) (x6 x7 x8 x9 x10 x11 : Int) (x12 : Bool) : Option (LL × Int) := F66.S.g [.l x0, .i x1, .i x2, .i x3, .i x4, .l x5, .i x6, .i x7, .i x8, .i x9, .i x10, .i x11, .b x12]

/- multikernel/cspace.Take -/
noncomputable def F67 : Fn := ⟨44, [4, 5, 6], [], [], 0, [4], [(6, [(7, 0)])], Tryz.f67, [.c (.slice 15), .c (.int .i64)], [.c (.own false 70), .agg hs10, .c (.bool)], [(100, F100.S), (36, F36.S)]⟩
theorem ok67 : F67.S.Ok Tryz.prog 67 := F67.ok Tryz.func67 (by kernel_rfl) ⟨ok100, ⟨ok36, trivial⟩⟩
noncomputable def g67 (x0 : LL) (x1 : Int) : Option (LL × Int × Int × Int × LL × Int × Int × Int × Int × Int × Int × Bool × Bool) := F67.S.g [.l x0, .i x1]

/- multikernel/client.apply -/
noncomputable def F39 : Fn := ⟨65, [6], [(6, [(0, .c (.slice 15)), (4, .box hs3), (21, .c (.slice 11)), (22, .c (.int .i64)), (23, .c (.int .i64))])], [], 0, [], [(10, [(9, 0)])], Tryz.f39, [.c (.slice 15), .agg hs3, .c (.slice 11)], [.c (.slice 15)], [(66, F66.S), (67, F67.S)]⟩
theorem ok39 : F39.S.Ok Tryz.prog 39 := F39.ok Tryz.func39 (by kernel_rfl) ⟨ok66, ⟨ok67, trivial⟩⟩
noncomputable def g39 (x0 : LL) (x1 x2 x3 x4 x5 x6 x7 x8 x9 x10 x11 x12 x13 x14 x15 x16 x17 x18 x19 x20 : Int) (x21 : LL) (x22 x23 x24 x25 x26 x27 : Int) (x28 : Bool) (x29 : LL) : Option (LL) := F39.S.g [.l x0, .i x1, .i x2, .i x3, .i x4, .i x5, .i x6, .i x7, .i x8, .i x9, .i x10, .i x11, .i x12, .i x13, .i x14, .i x15, .i x16, .i x17, .i x18, .i x19, .i x20, .l x21, .i x22, .i x23, .i x24, .i x25, .i x26, .i x27, .b x28, .l x29]

/- multikernel/cspace.Release -/
noncomputable def F40 : Fn := ⟨27, [4], [(3, [(1, .c (.int .i64)), (5, .c (.own true 70)), (10, .c (.int .i64)), (11, .c (.int .i64))])], [], 0, [4], [], Tryz.f40, [.c (.slice 15), .c (.int .i64)], [.c (.own true 70)], [(36, F36.S)]⟩
theorem ok40 : F40.S.Ok Tryz.prog 40 := F40.ok Tryz.func40 (by kernel_rfl) ⟨ok36, trivial⟩
noncomputable def g40 (x0 : LL) (x1 : Int) : Option (LL) := F40.S.g [.l x0, .i x1]

/- multikernel/client.Finish -/
noncomputable def F22 : Fn := ⟨112, [8, 9, 10, 11, 12], [], [], 0, [8, 9, 10, 11, 12, 54, 19, 100, 110], [(11, [(13, 0)]), (12, [(13, 0)])], Tryz.f22, [.c (.int .i64), .c (.slice 15), .c (.slice 28), .agg hs0], [.c (.own true 70), .c (.own true 34), .c (.own true 66), .c (.own true 75), .c (.own true 92)], [(36, F36.S), (30, F30.S), (37, F37.S), (23, F23.S), (38, F38.S), (39, F39.S), (40, F40.S)]⟩
theorem ok22 : F22.S.Ok Tryz.prog 22 := F22.ok Tryz.func22 (by kernel_rfl) ⟨ok36, ⟨ok30, ⟨ok37, ⟨ok23, ⟨ok38, ⟨ok39, ⟨ok40, trivial⟩⟩⟩⟩⟩⟩⟩
noncomputable def g22 (x0 : Int) (x1 x2 : LL) (x3 x4 x5 x6 x7 x8 x9 x10 x11 x12 x13 : Int) (x14 : Bool) (x15 x16 x17 x18 x19 x20 x21 x22 x23 x24 x25 x26 x27 x28 x29 x30 x31 x32 x33 x34 : Int) (x35 : LL) (x36 x37 x38 x39 x40 x41 : Int) (x42 : Bool) (x43 x44 x45 x46 : LL) (x47 x48 : Int) (x49 x50 x51 x52 x53 x54 x55 x56 : LL) (x57 x58 : Int) (x59 x60 x61 x62 x63 x64 x65 x66 : LL) (x67 : Bool) (x68 : Int) (x69 x70 x71 x72 x73 x74 x75 x76 : LL) : Option (LL × LL × LL × LL × LL) := F22.S.g [.i x0, .l x1, .l x2, .i x3, .i x4, .i x5, .i x6, .i x7, .i x8, .i x9, .i x10, .i x11, .i x12, .i x13, .b x14, .i x15, .i x16, .i x17, .i x18, .i x19, .i x20, .i x21, .i x22, .i x23, .i x24, .i x25, .i x26, .i x27, .i x28, .i x29, .i x30, .i x31, .i x32, .i x33, .i x34, .l x35, .i x36, .i x37, .i x38, .i x39, .i x40, .i x41, .b x42, .l x43, .l x44, .l x45, .l x46, .i x47, .i x48, .l x49, .l x50, .l x51, .l x52, .l x53, .l x54, .l x55, .l x56, .i x57, .i x58, .l x59, .l x60, .l x61, .l x62, .l x63, .l x64, .l x65, .l x66, .b x67, .i x68, .l x69, .l x70, .l x71, .l x72, .l x73, .l x74, .l x75, .l x76]

end Go.Proofs.YtmgfkjonkdfedaaGreat
