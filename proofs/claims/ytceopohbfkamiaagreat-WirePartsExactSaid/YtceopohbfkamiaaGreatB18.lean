/- Functions of the program, as what they compute. -/
import Derived.Test.YtceopohbfkamiaaGreatF18b
namespace Go.Proofs.YtceopohbfkamiaaGreat
open Go Go.AM
set_option linter.unusedVariables false
set_option maxRecDepth 100000

/- multikernel/binenc.Uvarint -/
def E129 : Env := envG 59 [4, 5, 6] [(4, [(0, .c (.slice 1)), (1, .c (.int .i64)), (4, .c (.int .u64)), (7, .c (.int .i64))])] [] 0
def A129 : List AP := [.c (.slice 1), .c (.int .i64)]
def R129 : List RSh := [.c (.int .u64), .c (.int .i64), .c (.int .i64)]
noncomputable def T129 : STree := evFn Tryz.prog E129 Tryz.f129 (argsAt A129 0) 2
noncomputable def P129 : List (FuncId × Fun) := []
noncomputable def S129 : Fun := ⟨A129, R129, fun vs => T129.run Tryz.prog P129 A129 R129 (fun _ _ => none) (envL vs)⟩
theorem ok129 : S129.Ok Tryz.prog 129 := fun_ok (Φ := P129) (S := S129) mixed plain_ok Tryz.func129 (by kernel_rfl) (by kernel_rfl) (by kernel_rfl) (T := T129) rfl trivial (fun _ => by kernel_rfl)
noncomputable def g129 (x0 : List (List AV)) (x1 : Int) : Option (Int × Int × Int) := S129.g [.l x0, .i x1]

/- (*multikernel/wire.reader).uint -/
def E61 : Env := envG 38 [2] [] [0] 0
def A61 : List AP := [.box [.slice 1, .int .i64, .bool]]
def R61 : List RSh := [.c (.int .i64)]
noncomputable def T61 : STree := evFn Tryz.prog E61 Tryz.f61 (argsAt A61 0) 3
noncomputable def P61 : List (FuncId × Fun) := [(129, S129)]
noncomputable def S61 : Fun := ⟨A61, R61, fun vs => T61.run Tryz.prog P61 A61 R61 (fun _ _ => none) (envL vs)⟩
theorem ok61 : S61.Ok Tryz.prog 61 := fun_ok (Φ := P61) (S := S61) mixed plain_ok Tryz.func61 (by kernel_rfl) (by kernel_rfl) (by kernel_rfl) (T := T61) rfl (And.intro ok129 trivial) (fun _ => by kernel_rfl)
noncomputable def g61 (x0 : List (List AV)) (x1 : Int) (x2 : Bool) : Option (Int × List (List AV) × Int × Bool) := S61.g [.l x0, .i x1, .b x2]

/- (*multikernel/wire.reader).id -/
def E131 : Env := envG 10 [2] [] [0] 0
def A131 : List AP := [.box [.slice 1, .int .i64, .bool]]
def R131 : List RSh := [.agg [.int .i64, .int .i64, .int .i64]]
noncomputable def T131 : STree := evFn Tryz.prog E131 Tryz.f131 (argsAt A131 0) 3
noncomputable def P131 : List (FuncId × Fun) := [(61, S61)]
noncomputable def S131 : Fun := ⟨A131, R131, fun vs => T131.run Tryz.prog P131 A131 R131 (fun _ _ => none) (envL vs)⟩
theorem ok131 : S131.Ok Tryz.prog 131 := fun_ok (Φ := P131) (S := S131) mixed plain_ok Tryz.func131 (by kernel_rfl) (by kernel_rfl) (by kernel_rfl) (T := T131) rfl (And.intro ok61 trivial) (fun _ => by kernel_rfl)
noncomputable def g131 (x0 : List (List AV)) (x1 : Int) (x2 : Bool) : Option (Int × Int × Int × List (List AV) × Int × Bool) := S131.g [.l x0, .i x1, .b x2]

/- multikernel/binenc.Varint -/
def E183 : Env := envG 29 [4, 5, 6] [] [] 0
def A183 : List AP := [.c (.slice 1), .c (.int .i64)]
def R183 : List RSh := [.c (.int .i64), .c (.int .i64), .c (.int .i64)]
noncomputable def T183 : STree := evFn Tryz.prog E183 Tryz.f183 (argsAt A183 0) 2
noncomputable def P183 : List (FuncId × Fun) := [(129, S129)]
noncomputable def S183 : Fun := ⟨A183, R183, fun vs => T183.run Tryz.prog P183 A183 R183 (fun _ _ => none) (envL vs)⟩
theorem ok183 : S183.Ok Tryz.prog 183 := fun_ok (Φ := P183) (S := S183) mixed plain_ok Tryz.func183 (by kernel_rfl) (by kernel_rfl) (by kernel_rfl) (T := T183) rfl (And.intro ok129 trivial) (fun _ => by kernel_rfl)
noncomputable def g183 (x0 : List (List AV)) (x1 : Int) : Option (Int × Int × Int) := S183.g [.l x0, .i x1]

/- (*multikernel/wire.reader).int -/
def E179 : Env := envG 33 [2] [] [0] 0
def A179 : List AP := [.box [.slice 1, .int .i64, .bool]]
def R179 : List RSh := [.c (.int .i64)]
noncomputable def T179 : STree := evFn Tryz.prog E179 Tryz.f179 (argsAt A179 0) 3
noncomputable def P179 : List (FuncId × Fun) := [(183, S183)]
noncomputable def S179 : Fun := ⟨A179, R179, fun vs => T179.run Tryz.prog P179 A179 R179 (fun _ _ => none) (envL vs)⟩
theorem ok179 : S179.Ok Tryz.prog 179 := fun_ok (Φ := P179) (S := S179) mixed plain_ok Tryz.func179 (by kernel_rfl) (by kernel_rfl) (by kernel_rfl) (T := T179) rfl (And.intro ok183 trivial) (fun _ => by kernel_rfl)
noncomputable def g179 (x0 : List (List AV)) (x1 : Int) (x2 : Bool) : Option (Int × List (List AV) × Int × Bool) := S179.g [.l x0, .i x1, .b x2]

/- (*multikernel/wire.reader).call -/
def E170 : Env := envG 28 [2] [] [0] 0
def A170 : List AP := [.box [.slice 1, .int .i64, .bool]]
def R170 : List RSh := [.agg hs9]
noncomputable def T170 : STree := evFn Tryz.prog E170 Tryz.f170 (argsAt A170 0) 3
noncomputable def P170 : List (FuncId × Fun) := [(179, S179)]
noncomputable def S170 : Fun := ⟨A170, R170, fun vs => T170.run Tryz.prog P170 A170 R170 (fun _ _ => none) (envL vs)⟩
theorem ok170 : S170.Ok Tryz.prog 170 := fun_ok (Φ := P170) (S := S170) mixed plain_ok Tryz.func170 (by kernel_rfl) (by kernel_rfl) (by kernel_rfl) (T := T170) rfl (And.intro ok179 trivial) (fun _ => by kernel_rfl)
noncomputable def g170 (x0 : List (List AV)) (x1 : Int) (x2 : Bool) : Option (Int × Int × Int × Int × Int × Int × Int × Int × Int × Int × Int × Int × List (List AV) × Int × Bool) := S170.g [.l x0, .i x1, .b x2]

/- (*multikernel/wire.reader).count -/
def E172 : Env := envG 22 [2] [] [0] 0
def A172 : List AP := [.box [.slice 1, .int .i64, .bool]]
def R172 : List RSh := [.c (.int .i64)]
noncomputable def T172 : STree := evFn Tryz.prog E172 Tryz.f172 (argsAt A172 0) 3
noncomputable def P172 : List (FuncId × Fun) := [(61, S61)]
noncomputable def S172 : Fun := ⟨A172, R172, fun vs => T172.run Tryz.prog P172 A172 R172 (fun _ _ => none) (envL vs)⟩
theorem ok172 : S172.Ok Tryz.prog 172 := fun_ok (Φ := P172) (S := S172) mixed plain_ok Tryz.func172 (by kernel_rfl) (by kernel_rfl) (by kernel_rfl) (T := T172) rfl (And.intro ok61 trivial) (fun _ => by kernel_rfl)
noncomputable def g172 (x0 : List (List AV)) (x1 : Int) (x2 : Bool) : Option (Int × List (List AV) × Int × Bool) := S172.g [.l x0, .i x1, .b x2]

/- (*multikernel/node.reader).integer -/
def E185 : Env := envG 42 [4] [] [0] 0
def A185 : List AP := [.box [.slice 1, .int .i64, .bool], .c (.int .i64)]
def R185 : List RSh := [.c (.int .i64)]
noncomputable def T185 : STree := evFn Tryz.prog E185 Tryz.f185 (argsAt A185 0) 4
noncomputable def P185 : List (FuncId × Fun) := [(129, S129)]
noncomputable def S185 : Fun := ⟨A185, R185, fun vs => T185.run Tryz.prog P185 A185 R185 (fun _ _ => none) (envL vs)⟩
theorem ok185 : S185.Ok Tryz.prog 185 := fun_ok (Φ := P185) (S := S185) mixed plain_ok Tryz.func185 (by kernel_rfl) (by kernel_rfl) (by kernel_rfl) (T := T185) rfl (And.intro ok129 trivial) (fun _ => by kernel_rfl)
noncomputable def g185 (x0 : List (List AV)) (x1 : Int) (x2 : Bool) (x3 : Int) : Option (Int × List (List AV) × Int × Bool) := S185.g [.l x0, .i x1, .b x2, .i x3]

/- (*multikernel/node.reader).id -/
def E184 : Env := envG 10 [2] [] [0] 0
def A184 : List AP := [.box [.slice 1, .int .i64, .bool]]
def R184 : List RSh := [.agg [.int .i64, .int .i64, .int .i64]]
noncomputable def T184 : STree := evFn Tryz.prog E184 Tryz.f184 (argsAt A184 0) 3
noncomputable def P184 : List (FuncId × Fun) := [(185, S185)]
noncomputable def S184 : Fun := ⟨A184, R184, fun vs => T184.run Tryz.prog P184 A184 R184 (fun _ _ => none) (envL vs)⟩
theorem ok184 : S184.Ok Tryz.prog 184 := fun_ok (Φ := P184) (S := S184) mixed plain_ok Tryz.func184 (by kernel_rfl) (by kernel_rfl) (by kernel_rfl) (T := T184) rfl (And.intro ok185 trivial) (fun _ => by kernel_rfl)
noncomputable def g184 (x0 : List (List AV)) (x1 : Int) (x2 : Bool) : Option (Int × Int × Int × List (List AV) × Int × Bool) := S184.g [.l x0, .i x1, .b x2]

/- multikernel/captype.Decode -/
def E186 : Env := envG 65 [2, 3] [(5, [(0, .c (.slice 1)), (2, .box hs14), (4, .box hs14), (43, .c (.int .i64))])] [] 0
def A186 : List AP := [.c (.slice 1)]
def R186 : List RSh := [.agg hs14, .c (.int .i64)]
noncomputable def T186 : STree := evFn Tryz.prog E186 Tryz.f186 (argsAt A186 0) 1
noncomputable def P186 : List (FuncId × Fun) := [(109, S109)]
noncomputable def S186 : Fun := ⟨A186, R186, fun vs => T186.run Tryz.prog P186 A186 R186 (fun _ _ => none) (envL vs)⟩
theorem ok186 : S186.Ok Tryz.prog 186 := fun_ok (Φ := P186) (S := S186) mixed plain_ok Tryz.func186 (by kernel_rfl) (by kernel_rfl) (by kernel_rfl) (T := T186) rfl (And.intro ok109 trivial) (fun _ => by kernel_rfl)
noncomputable def g186 (x0 : List (List AV)) : Option (Int × Int × Int × Int × Int × Int × Bool × Int) := S186.g [.l x0]

/- multikernel/node.Decode -/
def E180 : Env := envG 52 [2, 3] [(4, [(0, .c (.slice 1)), (2, .box hs10), (4, .ptr 10 0), (5, .box [.int .i64, .int .i64, .int .i64, .own 23, .int .i64, .int .i64, .int .i64, .int .i64, .int .i64, .int .i64, .bool]), (15, .c (.int .i64)), (16, .c (.int .i64)), (10, .box [.slice 1, .int .i64, .bool])])] [] 0
def A180 : List AP := [.c (.slice 1)]
def R180 : List RSh := [.agg hs10, .c (.int .i64)]
noncomputable def T180 : STree := evFn Tryz.prog E180 Tryz.f180 (argsAt A180 0) 1
noncomputable def P180 : List (FuncId × Fun) := [(184, S184), (185, S185), (186, S186), (50, S50)]
noncomputable def S180 : Fun := ⟨A180, R180, fun vs => T180.run Tryz.prog P180 A180 R180 (fun _ _ => none) (envL vs)⟩
theorem ok180 : S180.Ok Tryz.prog 180 := fun_ok (Φ := P180) (S := S180) mixed plain_ok Tryz.func180 (by kernel_rfl) (by kernel_rfl) (by kernel_rfl) (T := T180) rfl (And.intro ok184 (And.intro ok185 (And.intro ok186 (And.intro ok50 trivial)))) (fun _ => by kernel_rfl)
noncomputable def g180 (x0 : List (List AV)) : Option (Int × Int × Int × List (List AV) × Int × Int × Int × Int × Int × Int × Bool × Int) := S180.g [.l x0]

/- (*multikernel/wire.reader).node -/
def E171 : Env := envG 50 [2] [] [0] 0
def A171 : List AP := [.box [.slice 1, .int .i64, .bool]]
def R171 : List RSh := [.agg hs10]
noncomputable def T171 : STree := evFn Tryz.prog E171 Tryz.f171 (argsAt A171 0) 3
noncomputable def P171 : List (FuncId × Fun) := [(172, S172), (180, S180)]
noncomputable def S171 : Fun := ⟨A171, R171, fun vs => T171.run Tryz.prog P171 A171 R171 (fun _ _ => none) (envL vs)⟩
theorem ok171 : S171.Ok Tryz.prog 171 := fun_ok (Φ := P171) (S := S171) mixed plain_ok Tryz.func171 (by kernel_rfl) (by kernel_rfl) (by kernel_rfl) (T := T171) rfl (And.intro ok172 (And.intro ok180 trivial)) (fun _ => by kernel_rfl)
noncomputable def g171 (x0 : List (List AV)) (x1 : Int) (x2 : Bool) : Option (Int × Int × Int × List (List AV) × Int × Int × Int × Int × Int × Int × Bool × List (List AV) × Int × Bool) := S171.g [.l x0, .i x1, .b x2]

/- (*multikernel/wire.reader).request -/
def E130 : Env := envG 14 [2] [] [0] 0
def A130 : List AP := [.box [.slice 1, .int .i64, .bool]]
def R130 : List RSh := [.agg hs4]
noncomputable def T130 : STree := evFn Tryz.prog E130 Tryz.f130 (argsAt A130 0) 3
noncomputable def P130 : List (FuncId × Fun) := [(131, S131), (170, S170), (61, S61), (171, S171)]
noncomputable def S130 : Fun := ⟨A130, R130, fun vs => T130.run Tryz.prog P130 A130 R130 (fun _ _ => none) (envL vs)⟩
theorem ok130 : S130.Ok Tryz.prog 130 := fun_ok (Φ := P130) (S := S130) mixed plain_ok Tryz.func130 (by kernel_rfl) (by kernel_rfl) (by kernel_rfl) (T := T130) rfl (And.intro ok131 (And.intro ok170 (And.intro ok61 (And.intro ok171 trivial)))) (fun _ => by kernel_rfl)
noncomputable def g130 (x0 : List (List AV)) (x1 : Int) (x2 : Bool) : Option (Int × Int × Int × Int × Int × Int × Int × Int × Int × Int × Int × Int × Int × Int × Int × Int × Int × Int × Int × Int × List (List AV) × Int × Int × Int × Int × Int × Int × Bool × List (List AV) × Int × Bool) := S130.g [.l x0, .i x1, .b x2]

/- (*multikernel/wire.reader).bool -/
def E132 : Env := envG 13 [2] [] [0] 0
def A132 : List AP := [.box [.slice 1, .int .i64, .bool]]
def R132 : List RSh := [.c (.bool)]
noncomputable def T132 : STree := evFn Tryz.prog E132 Tryz.f132 (argsAt A132 0) 3
noncomputable def P132 : List (FuncId × Fun) := [(61, S61)]
noncomputable def S132 : Fun := ⟨A132, R132, fun vs => T132.run Tryz.prog P132 A132 R132 (fun _ _ => none) (envL vs)⟩
theorem ok132 : S132.Ok Tryz.prog 132 := fun_ok (Φ := P132) (S := S132) mixed plain_ok Tryz.func132 (by kernel_rfl) (by kernel_rfl) (by kernel_rfl) (T := T132) rfl (And.intro ok61 trivial) (fun _ => by kernel_rfl)
noncomputable def g132 (x0 : List (List AV)) (x1 : Int) (x2 : Bool) : Option (Bool × List (List AV) × Int × Bool) := S132.g [.l x0, .i x1, .b x2]

/- (*multikernel/wire.reader).nodes -/
def E133 : Env := envG 15 [2] [(3, [(0, .box [.slice 1, .int .i64, .bool]), (3, .c (.own 31)), (5, .c (.int .i64)), (6, .c (.int .i64))])] [0] 0
def A133 : List AP := [.box [.slice 1, .int .i64, .bool]]
def R133 : List RSh := [.c (.own 31)]
noncomputable def T133 : STree := evFn Tryz.prog E133 Tryz.f133 (argsAt A133 0) 3
noncomputable def P133 : List (FuncId × Fun) := [(172, S172), (171, S171)]
noncomputable def S133 : Fun := ⟨A133, R133, fun vs => T133.run Tryz.prog P133 A133 R133 (fun _ _ => none) (envL vs)⟩
theorem ok133 : S133.Ok Tryz.prog 133 := fun_ok (Φ := P133) (S := S133) mixed plain_ok Tryz.func133 (by kernel_rfl) (by kernel_rfl) (by kernel_rfl) (T := T133) rfl (And.intro ok172 (And.intro ok171 trivial)) (fun _ => by kernel_rfl)
noncomputable def g133 (x0 : List (List AV)) (x1 : Int) (x2 : Bool) : Option (List (List AV) × List (List AV) × Int × Bool) := S133.g [.l x0, .i x1, .b x2]

/- (*multikernel/wire.reader).ids -/
def E134 : Env := envG 15 [2] [(3, [(0, .box [.slice 1, .int .i64, .bool]), (3, .c (.own 23)), (5, .c (.int .i64)), (6, .c (.int .i64))])] [0] 0
def A134 : List AP := [.box [.slice 1, .int .i64, .bool]]
def R134 : List RSh := [.c (.own 23)]
noncomputable def T134 : STree := evFn Tryz.prog E134 Tryz.f134 (argsAt A134 0) 3
noncomputable def P134 : List (FuncId × Fun) := [(172, S172), (131, S131)]
noncomputable def S134 : Fun := ⟨A134, R134, fun vs => T134.run Tryz.prog P134 A134 R134 (fun _ _ => none) (envL vs)⟩
theorem ok134 : S134.Ok Tryz.prog 134 := fun_ok (Φ := P134) (S := S134) mixed plain_ok Tryz.func134 (by kernel_rfl) (by kernel_rfl) (by kernel_rfl) (T := T134) rfl (And.intro ok172 (And.intro ok131 trivial)) (fun _ => by kernel_rfl)
noncomputable def g134 (x0 : List (List AV)) (x1 : Int) (x2 : Bool) : Option (List (List AV) × List (List AV) × Int × Bool) := S134.g [.l x0, .i x1, .b x2]

/- (*multikernel/wire.reader).ints -/
def E135 : Env := envG 15 [2] [(3, [(0, .box [.slice 1, .int .i64, .bool]), (3, .c (.own 3)), (5, .c (.int .i64)), (6, .c (.int .i64))])] [0] 0
def A135 : List AP := [.box [.slice 1, .int .i64, .bool]]
def R135 : List RSh := [.c (.own 3)]
noncomputable def T135 : STree := evFn Tryz.prog E135 Tryz.f135 (argsAt A135 0) 3
noncomputable def P135 : List (FuncId × Fun) := [(172, S172), (61, S61)]
noncomputable def S135 : Fun := ⟨A135, R135, fun vs => T135.run Tryz.prog P135 A135 R135 (fun _ _ => none) (envL vs)⟩
theorem ok135 : S135.Ok Tryz.prog 135 := fun_ok (Φ := P135) (S := S135) mixed plain_ok Tryz.func135 (by kernel_rfl) (by kernel_rfl) (by kernel_rfl) (T := T135) rfl (And.intro ok172 (And.intro ok61 trivial)) (fun _ => by kernel_rfl)
noncomputable def g135 (x0 : List (List AV)) (x1 : Int) (x2 : Bool) : Option (List (List AV) × List (List AV) × Int × Bool) := S135.g [.l x0, .i x1, .b x2]

/- (*multikernel/wire.reader).view -/
def E137 : Env := envG 10 [2] [] [0] 0
def A137 : List AP := [.box [.slice 1, .int .i64, .bool]]
def R137 : List RSh := [.agg [.int .i64, .slice 1, .slice 1]]
noncomputable def T137 : STree := evFn Tryz.prog E137 Tryz.f137 (argsAt A137 0) 3
noncomputable def P137 : List (FuncId × Fun) := [(61, S61), (135, S135)]
noncomputable def S137 : Fun := ⟨A137, R137, fun vs => T137.run Tryz.prog P137 A137 R137 (fun _ _ => none) (envL vs)⟩
theorem ok137 : S137.Ok Tryz.prog 137 := fun_ok (Φ := P137) (S := S137) mixed plain_ok Tryz.func137 (by kernel_rfl) (by kernel_rfl) (by kernel_rfl) (T := T137) rfl (And.intro ok61 (And.intro ok135 trivial)) (fun _ => by kernel_rfl)
noncomputable def g137 (x0 : List (List AV)) (x1 : Int) (x2 : Bool) : Option (Int × List (List AV) × List (List AV) × List (List AV) × Int × Bool) := S137.g [.l x0, .i x1, .b x2]

/- (*multikernel/wire.reader).state -/
def E138 : Env := envG 84 [2] [(3, [(0, .box [.slice 1, .int .i64, .bool]), (2, .box hs15), (3, .box hs16), (5, .c (.int .i64)), (6, .c (.int .i64))]), (7, [(0, .box [.slice 1, .int .i64, .bool]), (2, .box hs15), (3, .box hs16), (22, .c (.int .i64)), (23, .c (.int .i64))]), (11, [(0, .box [.slice 1, .int .i64, .bool]), (2, .box hs15), (3, .box hs16), (34, .c (.int .i64)), (35, .c (.int .i64))]), (15, [(0, .box [.slice 1, .int .i64, .bool]), (2, .box hs15), (3, .box hs16), (49, .c (.int .i64)), (50, .c (.int .i64))]), (19, [(0, .box [.slice 1, .int .i64, .bool]), (2, .box hs15), (3, .box hs16), (64, .c (.int .i64)), (65, .c (.int .i64))])] [0] 0
def A138 : List AP := [.box [.slice 1, .int .i64, .bool]]
def R138 : List RSh := [.agg hs15]
noncomputable def T138 : STree := evFn Tryz.prog E138 Tryz.f138 (argsAt A138 0) 3
noncomputable def P138 : List (FuncId × Fun) := [(172, S172), (171, S171), (61, S61), (131, S131), (130, S130), (134, S134)]
noncomputable def S138 : Fun := ⟨A138, R138, fun vs => T138.run Tryz.prog P138 A138 R138 (fun _ _ => none) (envL vs)⟩
theorem ok138 : S138.Ok Tryz.prog 138 := fun_ok (Φ := P138) (S := S138) mixed plain_ok Tryz.func138 (by kernel_rfl) (by kernel_rfl) (by kernel_rfl) (T := T138) rfl (And.intro ok172 (And.intro ok171 (And.intro ok61 (And.intro ok131 (And.intro ok130 (And.intro ok134 trivial)))))) (fun _ => by kernel_rfl)
noncomputable def g138 (x0 : List (List AV)) (x1 : Int) (x2 : Bool) : Option (List (List AV) × List (List AV) × List (List AV) × List (List AV) × List (List AV) × List (List AV) × List (List AV) × Int × Bool) := S138.g [.l x0, .i x1, .b x2]

/- (*multikernel/wire.reader).report -/
def E136 : Env := envG 16 [2] [] [0] 0
def A136 : List AP := [.box [.slice 1, .int .i64, .bool]]
def R136 : List RSh := [.agg hs5]
noncomputable def T136 : STree := evFn Tryz.prog E136 Tryz.f136 (argsAt A136 0) 3
noncomputable def P136 : List (FuncId × Fun) := [(61, S61), (137, S137), (138, S138), (132, S132)]
noncomputable def S136 : Fun := ⟨A136, R136, fun vs => T136.run Tryz.prog P136 A136 R136 (fun _ _ => none) (envL vs)⟩
theorem ok136 : S136.Ok Tryz.prog 136 := fun_ok (Φ := P136) (S := S136) mixed plain_ok Tryz.func136 (by kernel_rfl) (by kernel_rfl) (by kernel_rfl) (T := T136) rfl (And.intro ok61 (And.intro ok137 (And.intro ok138 (And.intro ok132 trivial)))) (fun _ => by kernel_rfl)
noncomputable def g136 (x0 : List (List AV)) (x1 : Int) (x2 : Bool) : Option (Int × Int × List (List AV) × List (List AV) × List (List AV) × List (List AV) × List (List AV) × List (List AV) × List (List AV) × List (List AV) × Bool × Int × List (List AV) × List (List AV) × List (List AV) × List (List AV) × List (List AV) × List (List AV) × List (List AV) × List (List AV) × List (List AV) × Int × Bool) := S136.g [.l x0, .i x1, .b x2]

/- (*multikernel/wire.reader).moves -/
def E139 : Env := envG 18 [2] [(3, [(0, .box [.slice 1, .int .i64, .bool]), (3, .c (.own 80)), (5, .c (.int .i64)), (6, .c (.int .i64))])] [0] 0
def A139 : List AP := [.box [.slice 1, .int .i64, .bool]]
def R139 : List RSh := [.c (.own 80)]
noncomputable def T139 : STree := evFn Tryz.prog E139 Tryz.f139 (argsAt A139 0) 3
noncomputable def P139 : List (FuncId × Fun) := [(172, S172), (61, S61)]
noncomputable def S139 : Fun := ⟨A139, R139, fun vs => T139.run Tryz.prog P139 A139 R139 (fun _ _ => none) (envL vs)⟩
theorem ok139 : S139.Ok Tryz.prog 139 := fun_ok (Φ := P139) (S := S139) mixed plain_ok Tryz.func139 (by kernel_rfl) (by kernel_rfl) (by kernel_rfl) (T := T139) rfl (And.intro ok172 (And.intro ok61 trivial)) (fun _ => by kernel_rfl)
noncomputable def g139 (x0 : List (List AV)) (x1 : Int) (x2 : Bool) : Option (List (List AV) × List (List AV) × Int × Bool) := S139.g [.l x0, .i x1, .b x2]

/- (*multikernel/wire.reader).field -/
def E62 : Env := envG 112 [] [] [0, 1] 0
def A62 : List AP := [.box [.slice 1, .int .i64, .bool], .box hs0, .c (.int .i64)]
def R62 : List RSh := []
noncomputable def T62 : STree := evFn Tryz.prog E62 Tryz.f62 (argsAt A62 0) 78
noncomputable def P62 : List (FuncId × Fun) := [(61, S61), (130, S130), (131, S131), (132, S132), (133, S133), (134, S134), (135, S135), (136, S136), (137, S137), (138, S138), (139, S139)]
noncomputable def S62 : Fun := ⟨A62, R62, fun vs => T62.run Tryz.prog P62 A62 R62 (fun _ _ => none) (envL vs)⟩
theorem ok62 : S62.Ok Tryz.prog 62 := fun_ok (Φ := P62) (S := S62) mixed plain_ok Tryz.func62 (by kernel_rfl) (by kernel_rfl) (by kernel_rfl) (T := T62) rfl (And.intro ok61 (And.intro ok130 (And.intro ok131 (And.intro ok132 (And.intro ok133 (And.intro ok134 (And.intro ok135 (And.intro ok136 (And.intro ok137 (And.intro ok138 (And.intro ok139 trivial))))))))))) (fun _ => by kernel_rfl)
noncomputable def g62 (x0 : List (List AV)) (x1 : Int) (x2 : Bool) (x3 x4 x5 x6 x7 x8 x9 x10 x11 x12 x13 : Int) (x14 : Bool) (x15 x16 x17 x18 x19 x20 x21 x22 x23 x24 x25 x26 x27 x28 x29 x30 x31 x32 x33 x34 : Int) (x35 : List (List AV)) (x36 x37 x38 x39 x40 x41 : Int) (x42 : Bool) (x43 x44 x45 x46 : List (List AV)) (x47 x48 : Int) (x49 x50 x51 x52 x53 x54 x55 x56 : List (List AV)) (x57 x58 : Int) (x59 x60 x61 x62 x63 x64 x65 x66 : List (List AV)) (x67 : Bool) (x68 : Int) (x69 x70 x71 x72 x73 x74 x75 x76 : List (List AV)) (x77 : Int) : Option (List (List AV) × Int × Bool × Int × Int × Int × Int × Int × Int × Int × Int × Int × Int × Int × Bool × Int × Int × Int × Int × Int × Int × Int × Int × Int × Int × Int × Int × Int × Int × Int × Int × Int × Int × Int × Int × List (List AV) × Int × Int × Int × Int × Int × Int × Bool × List (List AV) × List (List AV) × List (List AV) × List (List AV) × Int × Int × List (List AV) × List (List AV) × List (List AV) × List (List AV) × List (List AV) × List (List AV) × List (List AV) × List (List AV) × Int × Int × List (List AV) × List (List AV) × List (List AV) × List (List AV) × List (List AV) × List (List AV) × List (List AV) × List (List AV) × Bool × Int × List (List AV) × List (List AV) × List (List AV) × List (List AV) × List (List AV) × List (List AV) × List (List AV) × List (List AV)) := S62.g [.l x0, .i x1, .b x2, .i x3, .i x4, .i x5, .i x6, .i x7, .i x8, .i x9, .i x10, .i x11, .i x12, .i x13, .b x14, .i x15, .i x16, .i x17, .i x18, .i x19, .i x20, .i x21, .i x22, .i x23, .i x24, .i x25, .i x26, .i x27, .i x28, .i x29, .i x30, .i x31, .i x32, .i x33, .i x34, .l x35, .i x36, .i x37, .i x38, .i x39, .i x40, .i x41, .b x42, .l x43, .l x44, .l x45, .l x46, .i x47, .i x48, .l x49, .l x50, .l x51, .l x52, .l x53, .l x54, .l x55, .l x56, .i x57, .i x58, .l x59, .l x60, .l x61, .l x62, .l x63, .l x64, .l x65, .l x66, .b x67, .i x68, .l x69, .l x70, .l x71, .l x72, .l x73, .l x74, .l x75, .l x76, .i x77]

/- bytes.Equal -/
def E63 : Env := envG 10 [4] [] [] 0
def A63 : List AP := [.c (.slice 1), .c (.slice 1)]
def R63 : List RSh := [.c (.bool)]
noncomputable def T63 : STree := evFn Tryz.prog E63 Tryz.f63 (argsAt A63 0) 2
noncomputable def P63 : List (FuncId × Fun) := []
noncomputable def S63 : Fun := ⟨A63, R63, fun vs => T63.run Tryz.prog P63 A63 R63 (fun _ _ => none) (envL vs)⟩
theorem ok63 : S63.Ok Tryz.prog 63 := fun_ok (Φ := P63) (S := S63) mixed plain_ok Tryz.func63 (by kernel_rfl) (by kernel_rfl) (by kernel_rfl) (T := T63) rfl trivial (fun _ => by kernel_rfl)
noncomputable def g63 (x0 x1 : List (List AV)) : Option (Bool) := S63.g [.l x0, .l x1]

/- multikernel/wire.Decode -/
def E16 : Env := envG 60 [2, 3] [(5, [(0, .c (.slice 1)), (2, .box hs0), (4, .ptr 14 0), (5, .box hs0), (30, .c (.slice 1)), (31, .c (.int .i64)), (32, .c (.int .i64)), (14, .box [.slice 1, .int .i64, .bool])])] [] 0
def A16 : List AP := [.c (.slice 1)]
def R16 : List RSh := [.agg hs0, .c (.int .i64)]
noncomputable def T16 : STree := evFn Tryz.prog E16 Tryz.f16 (argsAt A16 0) 1
noncomputable def P16 : List (FuncId × Fun) := [(61, S61), (19, S19), (62, S62), (7, S7), (63, S63)]
noncomputable def S16 : Fun := ⟨A16, R16, fun vs => T16.run Tryz.prog P16 A16 R16 (fun _ _ => none) (envL vs)⟩
theorem ok16 : S16.Ok Tryz.prog 16 := fun_ok (Φ := P16) (S := S16) mixed plain_ok Tryz.func16 (by kernel_rfl) (by kernel_rfl) (by kernel_rfl) (T := T16) rfl (And.intro ok61 (And.intro ok19 (And.intro ok62 (And.intro ok7 (And.intro ok63 trivial))))) (fun _ => by kernel_rfl)
noncomputable def g16 (x0 : List (List AV)) : Option (Qt2) := S16.g [.l x0]

end Go.Proofs.YtceopohbfkamiaaGreat
