/- Functions of the program, as what they compute. -/
import Derived.Test.YtceopohbfkamiaaGreatF18a
namespace Go.Proofs.YtceopohbfkamiaaGreat
open Go Go.AM
set_option linter.unusedVariables false
set_option maxRecDepth 100000

/- multikernel/wire.fields -/
def E19 : Env := envG 44 [2, 3] [] [] 0
def A19 : List AP := [.c (.int .i64)]
def R19 : List RSh := [.c (.own 68), .c (.bool)]
noncomputable def T19 : STree := evFn Tryz.prog E19 Tryz.f19 (argsAt A19 0) 1
noncomputable def P19 : List (FuncId × Fun) := []
noncomputable def S19 : Fun := ⟨A19, R19, fun vs => T19.run Tryz.prog P19 A19 R19 (fun _ _ => none) (envL vs)⟩
theorem ok19 : S19.Ok Tryz.prog 19 := fun_ok (Φ := P19) (S := S19) mixed plain_ok Tryz.func19 (by kernel_rfl) (by kernel_rfl) (by kernel_rfl) (T := T19) rfl trivial (fun _ => by kernel_rfl)
noncomputable def g19 (x0 : Int) : Option (List (List AV) × Bool) := S19.g [.i x0]
theorem g19_eq (x0 : Int) : g19 x0 =
    (if (cop .eql x0 1) = true then
      some (((([] : List (List AV)) ++ [[AV.val (.int .i64 0)]]) ++ [[AV.val (.int .i64 1)]]), true)
    else
      if (cop .eql x0 2) = true then
        some ((((((([] : List (List AV)) ++ [[AV.val (.int .i64 0)]]) ++ [[AV.val (.int .i64 2)]]) ++ [[AV.val (.int .i64 3)]]) ++ [[AV.val (.int .i64 4)]]) ++ [[AV.val (.int .i64 5)]]), true)
      else
        if (cop .eql x0 3) = true then
          some (((([] : List (List AV)) ++ [[AV.val (.int .i64 0)]]) ++ [[AV.val (.int .i64 2)]]), true)
        else
          if (cop .eql x0 7) = true then
            some (((([] : List (List AV)) ++ [[AV.val (.int .i64 0)]]) ++ [[AV.val (.int .i64 2)]]), true)
          else
            if (cop .eql x0 8) = true then
              some (((([] : List (List AV)) ++ [[AV.val (.int .i64 0)]]) ++ [[AV.val (.int .i64 2)]]), true)
            else
              if (cop .eql x0 9) = true then
                some (((([] : List (List AV)) ++ [[AV.val (.int .i64 0)]]) ++ [[AV.val (.int .i64 2)]]), true)
              else
                if (cop .eql x0 10) = true then
                  some (((([] : List (List AV)) ++ [[AV.val (.int .i64 0)]]) ++ [[AV.val (.int .i64 2)]]), true)
                else
                  if (cop .eql x0 11) = true then
                    some (((([] : List (List AV)) ++ [[AV.val (.int .i64 0)]]) ++ [[AV.val (.int .i64 2)]]), true)
                  else
                    if (cop .eql x0 4) = true then
                      some (((((([] : List (List AV)) ++ [[AV.val (.int .i64 0)]]) ++ [[AV.val (.int .i64 2)]]) ++ [[AV.val (.int .i64 6)]]) ++ [[AV.val (.int .i64 5)]]), true)
                    else
                      if (cop .eql x0 5) = true then
                        some ((((([] : List (List AV)) ++ [[AV.val (.int .i64 0)]]) ++ [[AV.val (.int .i64 2)]]) ++ [[AV.val (.int .i64 3)]]), true)
                      else
                        if (cop .eql x0 6) = true then
                          some ((((([] : List (List AV)) ++ [[AV.val (.int .i64 0)]]) ++ [[AV.val (.int .i64 2)]]) ++ [[AV.val (.int .i64 7)]]), true)
                        else
                          if (cop .eql x0 12) = true then
                            some (((([] : List (List AV)) ++ [[AV.val (.int .i64 8)]]) ++ [[AV.val (.int .i64 9)]]), true)
                          else
                            if (cop .eql x0 13) = true then
                              some (((([] : List (List AV)) ++ [[AV.val (.int .i64 8)]]) ++ [[AV.val (.int .i64 10)]]), true)
                            else
                              if (cop .eql x0 14) = true then
                                some ((((((([] : List (List AV)) ++ [[AV.val (.int .i64 8)]]) ++ [[AV.val (.int .i64 11)]]) ++ [[AV.val (.int .i64 9)]]) ++ [[AV.val (.int .i64 12)]]) ++ [[AV.val (.int .i64 13)]]), true)
                              else
                                if (cop .eql x0 15) = true then
                                  some ((([] : List (List AV)) ++ [[AV.val (.int .i64 8)]]), true)
                                else
                                  if (cop .eql x0 16) = true then
                                    some ((([] : List (List AV)) ++ [[AV.val (.int .i64 8)]]), true)
                                  else
                                    if (cop .eql x0 17) = true then
                                      some (((([] : List (List AV)) ++ [[AV.val (.int .i64 9)]]) ++ [[AV.val (.int .i64 14)]]), true)
                                    else
                                      some (([] : List (List AV)), false)) := by kernel_rfl

/- multikernel/wire.isNumber -/
def E31 : Env := envG 9 [2] [] [] 0
def A31 : List AP := [.c (.int .i64)]
def R31 : List RSh := [.c (.bool)]
noncomputable def T31 : STree := evFn Tryz.prog E31 Tryz.f31 (argsAt A31 0) 1
noncomputable def P31 : List (FuncId × Fun) := []
noncomputable def S31 : Fun := ⟨A31, R31, fun vs => T31.run Tryz.prog P31 A31 R31 (fun _ _ => none) (envL vs)⟩
theorem ok31 : S31.Ok Tryz.prog 31 := fun_ok (Φ := P31) (S := S31) mixed plain_ok Tryz.func31 (by kernel_rfl) (by kernel_rfl) (by kernel_rfl) (T := T31) rfl trivial (fun _ => by kernel_rfl)
noncomputable def g31 (x0 : Int) : Option (Bool) := S31.g [.i x0]
theorem g31_eq (x0 : Int) : g31 x0 =
    (if (cop .geq x0 0) = true then
      some ((cop .leq x0 1073741824))
    else
      some (false)) := by kernel_rfl

/- slices.Index[[]int,int] -/
def E175 : Env := envG 19 [4] [(2, [(0, .c (.slice 1)), (1, .c (.int .i64)), (7, .c (.int .i64)), (8, .c (.int .i64))])] [] 0
def A175 : List AP := [.c (.slice 1), .c (.int .i64)]
def R175 : List RSh := [.c (.int .i64)]
noncomputable def T175 : STree := evFn Tryz.prog E175 Tryz.f175 (argsAt A175 0) 2
noncomputable def T175L0 : STree := T175.go [0]
noncomputable def P175 : List (FuncId × Fun) := []
noncomputable def S175 : Fun := ⟨A175, R175, fun vs => T175.run Tryz.prog P175 A175 R175 (fun _ _ => none) (envL vs)⟩
theorem ok175 : S175.Ok Tryz.prog 175 := fun_ok (Φ := P175) (S := S175) mixed plain_ok Tryz.func175 (by kernel_rfl) (by kernel_rfl) (by kernel_rfl) (T := T175) rfl trivial (fun _ => by kernel_rfl)
noncomputable def g175 (x0 : List (List AV)) (x1 : Int) : Option (Int) := S175.g [.l x0, .i x1]
noncomputable def g175L0 (k : Nat) (x0 : List (List AV)) (x1 x2 x3 : Int) : Option (Int) := iterL (fun rec vs => STree.run Tryz.prog P175 A175 R175 T175L0 (updR (fun _ _ => none) 0 rec) (bind zeroE 0 vs)) k [.l x0, .i x1, .i x2, .i x3]
theorem g175L0_eq (k : Nat) (x0 : List (List AV)) (x1 x2 x3 : Int) : g175L0 (k + 1) x0 x1 x2 x3 =
    (if (cop .lss x3 x2) = true then
      elemK x0 x3 [.int .i64] fun (r4 : Int) =>
      if (cop .eql x1 r4) = true then
        some (x3)
      else
        g175L0 k x0 x1 x2 (iop .add .i64 x3 1)
    else
      some ((-1))) := by kernel_rfl
theorem g175_eq (x0 : List (List AV)) (x1 : Int) : g175 x0 x1 =
    (g175L0 FUEL x0 x1 (List.length x0 : Int) 0) := by kernel_rfl

/- slices.Contains[[]int,int] -/
def E152 : Env := envG 9 [4] [] [] 0
def A152 : List AP := [.c (.slice 1), .c (.int .i64)]
def R152 : List RSh := [.c (.bool)]
noncomputable def T152 : STree := evFn Tryz.prog E152 Tryz.f152 (argsAt A152 0) 2
noncomputable def P152 : List (FuncId × Fun) := [(175, S175)]
noncomputable def S152 : Fun := ⟨A152, R152, fun vs => T152.run Tryz.prog P152 A152 R152 (fun _ _ => none) (envL vs)⟩
theorem ok152 : S152.Ok Tryz.prog 152 := fun_ok (Φ := P152) (S := S152) mixed plain_ok Tryz.func152 (by kernel_rfl) (by kernel_rfl) (by kernel_rfl) (T := T152) rfl (And.intro ok175 trivial) (fun _ => by kernel_rfl)
noncomputable def g152 (x0 : List (List AV)) (x1 : Int) : Option (Bool) := S152.g [.l x0, .i x1]
theorem g152_eq (x0 : List (List AV)) (x1 : Int) : g152 x0 x1 =
    ((g175 x0 x1).bind fun (r2 : Int) =>
    some ((cop .geq r2 0))) := by kernel_rfl

/- multikernel/wire.validView$1 -/
def E153 : Env := envG 6 [2] [] [] 0
def A153 : List AP := [.c (.int .i64)]
def R153 : List RSh := [.c (.bool)]
noncomputable def T153 : STree := evFn Tryz.prog E153 Tryz.f153 (argsAt A153 0) 1
noncomputable def P153 : List (FuncId × Fun) := [(32, S32)]
noncomputable def S153 : Fun := ⟨A153, R153, fun vs => T153.run Tryz.prog P153 A153 R153 (fun _ _ => none) (envL vs)⟩
theorem ok153 : S153.Ok Tryz.prog 153 := fun_ok (Φ := P153) (S := S153) mixed plain_ok Tryz.func153 (by kernel_rfl) (by kernel_rfl) (by kernel_rfl) (T := T153) rfl (And.intro ok32 trivial) (fun _ => by kernel_rfl)
noncomputable def g153 (x0 : Int) : Option (Bool) := S153.g [.i x0]
theorem g153_eq (x0 : Int) : g153 x0 =
    ((g32 x0).bind fun (r1 : Bool) =>
    some ((!r1))) := by kernel_rfl

/- slices.IndexFunc[[]int,int] -/
def E151c153 : Env := envG 19 [4] [(2, [(0, .c (.slice 1)), (1, .clo 153 []), (7, .c (.int .i64)), (8, .c (.int .i64))])] [] 0
def A151c153 : List AP := [.c (.slice 1), .clo 153 []]
def R151c153 : List RSh := [.c (.int .i64)]
noncomputable def T151c153 : STree := evFn Tryz.prog E151c153 Tryz.f151 (argsAt A151c153 0) 1
noncomputable def T151c153L0 : STree := T151c153.go [0]
noncomputable def P151c153 : List (FuncId × Fun) := [(153, S153)]
noncomputable def S151c153 : Fun := ⟨A151c153, R151c153, fun vs => T151c153.run Tryz.prog P151c153 A151c153 R151c153 (fun _ _ => none) (envL vs)⟩
theorem ok151c153 : S151c153.Ok Tryz.prog 151 := fun_ok (Φ := P151c153) (S := S151c153) mixed plain_ok Tryz.func151 (by kernel_rfl) (by kernel_rfl) (by kernel_rfl) (T := T151c153) rfl (And.intro ok153 trivial) (fun _ => by kernel_rfl)
noncomputable def g151c153 (x0 : List (List AV)) : Option (Int) := S151c153.g [.l x0]
noncomputable def g151c153L0 (k : Nat) (x0 : List (List AV)) (x1 x2 : Int) : Option (Int) := iterL (fun rec vs => STree.run Tryz.prog P151c153 A151c153 R151c153 T151c153L0 (updR (fun _ _ => none) 0 rec) (bind zeroE 0 vs)) k [.l x0, .i x1, .i x2]
theorem g151c153L0_eq (k : Nat) (x0 : List (List AV)) (x1 x2 : Int) : g151c153L0 (k + 1) x0 x1 x2 =
    (if (cop .lss x2 x1) = true then
      elemK x0 x2 [.int .i64] fun (r3 : Int) =>
      (g153 r3).bind fun (r4 : Bool) =>
      if r4 = true then
        some (x2)
      else
        g151c153L0 k x0 x1 (iop .add .i64 x2 1)
    else
      some ((-1))) := by kernel_rfl
theorem g151c153_eq (x0 : List (List AV)) : g151c153 x0 =
    (g151c153L0 FUEL x0 (List.length x0 : Int) 0) := by kernel_rfl

/- slices.ContainsFunc[[]int,int] -/
def E92c153 : Env := envG 9 [4] [] [] 0
def A92c153 : List AP := [.c (.slice 1), .clo 153 []]
def R92c153 : List RSh := [.c (.bool)]
noncomputable def T92c153 : STree := evFn Tryz.prog E92c153 Tryz.f92 (argsAt A92c153 0) 1
noncomputable def P92c153 : List (FuncId × Fun) := [(151, S151c153)]
noncomputable def S92c153 : Fun := ⟨A92c153, R92c153, fun vs => T92c153.run Tryz.prog P92c153 A92c153 R92c153 (fun _ _ => none) (envL vs)⟩
theorem ok92c153 : S92c153.Ok Tryz.prog 92 := fun_ok (Φ := P92c153) (S := S92c153) mixed plain_ok Tryz.func92 (by kernel_rfl) (by kernel_rfl) (by kernel_rfl) (T := T92c153) rfl (And.intro ok151c153 trivial) (fun _ => by kernel_rfl)
noncomputable def g92c153 (x0 : List (List AV)) : Option (Bool) := S92c153.g [.l x0]
theorem g92c153_eq (x0 : List (List AV)) : g92c153 x0 =
    ((g151c153 x0).bind fun (r1 : Int) =>
    some ((cop .geq r1 0))) := by kernel_rfl

/- multikernel/wire.validView -/
def E97 : Env := envG 45 [2] [(4, [(1, .box [.int .i64, .slice 1, .slice 1]), (22, .c (.slice 1)), (23, .c (.int .i64)), (24, .c (.int .i64))])] [] 0
def A97 : List AP := [.agg [.int .i64, .slice 1, .slice 1]]
def R97 : List RSh := [.c (.bool)]
noncomputable def T97 : STree := evFn Tryz.prog E97 Tryz.f97 (argsAt A97 0) 3
noncomputable def T97L0 : STree := T97.go [0, 1, 1, 1, 0]
noncomputable def P97 : List (FuncId × Fun) := [(31, S31), (32, S32), (152, S152), (92, S92c153)]
noncomputable def S97 : Fun := ⟨A97, R97, fun vs => T97.run Tryz.prog P97 A97 R97 (fun _ _ => none) (envL vs)⟩
theorem ok97 : S97.Ok Tryz.prog 97 := fun_ok (Φ := P97) (S := S97) mixed plain_ok Tryz.func97 (by kernel_rfl) (by kernel_rfl) (by kernel_rfl) (T := T97) rfl (And.intro ok31 (And.intro ok32 (And.intro ok152 (And.intro ok92c153 trivial)))) (fun _ => by kernel_rfl)
noncomputable def g97 (x0 : Int) (x1 x2 : List (List AV)) : Option (Bool) := S97.g [.i x0, .l x1, .l x2]
noncomputable def g97L0 (k : Nat) (x0 : Int) (x1 x2 x3 : List (List AV)) (x4 x5 : Int) : Option (Bool) := iterL (fun rec vs => STree.run Tryz.prog P97 A97 R97 T97L0 (updR (fun _ _ => none) 0 rec) (bind zeroE 0 vs)) k [.i x0, .l x1, .l x2, .l x3, .i x4, .i x5]
theorem g97L0_eq (k : Nat) (x0 : Int) (x1 x2 x3 : List (List AV)) (x4 x5 : Int) : g97L0 (k + 1) x0 x1 x2 x3 x4 x5 =
    (if (cop .lss x5 x4) = true then
      elemK x3 x5 [.int .i64] fun (r6 : Int) =>
      (g32 r6).bind fun (r7 : Bool) =>
      if (!r7) = true then
        some (false)
      else
        reqK ((0 : Int) ≤ x5) <|
        reqK ((x5 : Int) ≤ (List.length x1 : Int)) <|
        (g152 (List.take (Int.toNat x5) x1) r6).bind fun (r8 : Bool) =>
        if r8 = true then
          some (false)
        else
          g97L0 k x0 x1 x2 x3 x4 (iop .add .i64 x5 1)
    else
      (g92c153 x2).bind fun (r6 : Bool) =>
      some ((!r6))) := by kernel_rfl
theorem g97_eq (x0 : Int) (x1 x2 : List (List AV)) : g97 x0 x1 x2 =
    ((g31 x0).bind fun (r3 : Bool) =>
    if (!r3) = true then
      some (false)
    else
      if (cop .gtr (List.length x1 : Int) 32) = true then
        some (false)
      else
        if (cop .gtr (List.length x2 : Int) 16) = true then
          some (false)
        else
          g97L0 FUEL x0 x1 x2 x1 (List.length x1 : Int) 0) := by kernel_rfl

/- multikernel/wire.validReport -/
def E96 : Env := envG 26 [2] [] [] 0
def A96 : List AP := [.agg hs5]
def R96 : List RSh := [.c (.bool)]
noncomputable def T96 : STree := evFn Tryz.prog E96 Tryz.f96 (argsAt A96 0) 20
noncomputable def P96 : List (FuncId × Fun) := [(32, S32), (97, S97), (14, S14)]
noncomputable def S96 : Fun := ⟨A96, R96, fun vs => T96.run Tryz.prog P96 A96 R96 (fun _ _ => none) (envL vs)⟩
theorem ok96 : S96.Ok Tryz.prog 96 := fun_ok (Φ := P96) (S := S96) mixed plain_ok Tryz.func96 (by kernel_rfl) (by kernel_rfl) (by kernel_rfl) (T := T96) rfl (And.intro ok32 (And.intro ok97 (And.intro ok14 trivial))) (fun _ => by kernel_rfl)
noncomputable def g96 (x0 x1 : Int) (x2 x3 x4 x5 x6 x7 x8 x9 : List (List AV)) (x10 : Bool) (x11 : Int) (x12 x13 x14 x15 x16 x17 x18 x19 : List (List AV)) : Option (Bool) := S96.g [.i x0, .i x1, .l x2, .l x3, .l x4, .l x5, .l x6, .l x7, .l x8, .l x9, .b x10, .i x11, .l x12, .l x13, .l x14, .l x15, .l x16, .l x17, .l x18, .l x19]
theorem g96_eq (x0 x1 : Int) (x2 x3 x4 x5 x6 x7 x8 x9 : List (List AV)) (x10 : Bool) (x11 : Int) (x12 x13 x14 x15 x16 x17 x18 x19 : List (List AV)) : g96 x0 x1 x2 x3 x4 x5 x6 x7 x8 x9 x10 x11 x12 x13 x14 x15 x16 x17 x18 x19 =
    ((g32 x0).bind fun (r20 : Bool) =>
    if r20 = true then
      (g97 x1 x2 x3).bind fun (r21 : Bool) =>
      if r21 = true then
        (g14 x4 x5 x6 x7 x8 x9).bind fun (r22 : Bool) =>
        if r22 = true then
          (g97 x11 x12 x13).bind fun (r23 : Bool) =>
          if r23 = true then
            (g14 x14 x15 x16 x17 x18 x19).bind fun (r24 : Bool) =>
            some (r24)
          else
            some (false)
        else
          some (false)
      else
        some (false)
    else
      some (false)) := by kernel_rfl

/- multikernel/wire.validField$1 -/
def E88 : Env := envG 6 [2] [] [] 0
def A88 : List AP := [.agg hs10]
def R88 : List RSh := [.c (.bool)]
noncomputable def T88 : STree := evFn Tryz.prog E88 Tryz.f88 (argsAt A88 0) 11
noncomputable def P88 : List (FuncId × Fun) := [(50, S50)]
noncomputable def S88 : Fun := ⟨A88, R88, fun vs => T88.run Tryz.prog P88 A88 R88 (fun _ _ => none) (envL vs)⟩
theorem ok88 : S88.Ok Tryz.prog 88 := fun_ok (Φ := P88) (S := S88) mixed plain_ok Tryz.func88 (by kernel_rfl) (by kernel_rfl) (by kernel_rfl) (T := T88) rfl (And.intro ok50 trivial) (fun _ => by kernel_rfl)
noncomputable def g88 (x0 x1 x2 : Int) (x3 : List (List AV)) (x4 x5 x6 x7 x8 x9 : Int) (x10 : Bool) : Option (Bool) := S88.g [.i x0, .i x1, .i x2, .l x3, .i x4, .i x5, .i x6, .i x7, .i x8, .i x9, .b x10]
theorem g88_eq (x0 x1 x2 : Int) (x3 : List (List AV)) (x4 x5 x6 x7 x8 x9 : Int) (x10 : Bool) : g88 x0 x1 x2 x3 x4 x5 x6 x7 x8 x9 x10 =
    ((g50 x0 x1 x2 x3 x4 x5 x6 x7 x8 x9 x10).bind fun (r11 : Bool) =>
    some ((!r11))) := by kernel_rfl

/- slices.IndexFunc[[]multikernel/api.Node,multikernel/api.Node] -/
def E150c88 : Env := envG 19 [4] [(2, [(0, .c (.slice 11)), (1, .clo 88 []), (7, .c (.int .i64)), (8, .c (.int .i64))])] [] 0
def A150c88 : List AP := [.c (.slice 11), .clo 88 []]
def R150c88 : List RSh := [.c (.int .i64)]
noncomputable def T150c88 : STree := evFn Tryz.prog E150c88 Tryz.f150 (argsAt A150c88 0) 1
noncomputable def T150c88L0 : STree := T150c88.go [0]
noncomputable def P150c88 : List (FuncId × Fun) := [(88, S88)]
noncomputable def S150c88 : Fun := ⟨A150c88, R150c88, fun vs => T150c88.run Tryz.prog P150c88 A150c88 R150c88 (fun _ _ => none) (envL vs)⟩
theorem ok150c88 : S150c88.Ok Tryz.prog 150 := fun_ok (Φ := P150c88) (S := S150c88) mixed plain_ok Tryz.func150 (by kernel_rfl) (by kernel_rfl) (by kernel_rfl) (T := T150c88) rfl (And.intro ok88 trivial) (fun _ => by kernel_rfl)
noncomputable def g150c88 (x0 : List (List AV)) : Option (Int) := S150c88.g [.l x0]
noncomputable def g150c88L0 (k : Nat) (x0 : List (List AV)) (x1 x2 : Int) : Option (Int) := iterL (fun rec vs => STree.run Tryz.prog P150c88 A150c88 R150c88 T150c88L0 (updR (fun _ _ => none) 0 rec) (bind zeroE 0 vs)) k [.l x0, .i x1, .i x2]
theorem g150c88L0_eq (k : Nat) (x0 : List (List AV)) (x1 x2 : Int) : g150c88L0 (k + 1) x0 x1 x2 =
    (if (cop .lss x2 x1) = true then
      elemK x0 x2 hs10 fun (r3 : Qt13) =>
      (g88 r3.1 r3.2.1 r3.2.2.1 r3.2.2.2.1 r3.2.2.2.2.1 r3.2.2.2.2.2.1 r3.2.2.2.2.2.2.1 r3.2.2.2.2.2.2.2.1 r3.2.2.2.2.2.2.2.2.1 r3.2.2.2.2.2.2.2.2.2.1 r3.2.2.2.2.2.2.2.2.2.2).bind fun (r14 : Bool) =>
      if r14 = true then
        some (x2)
      else
        g150c88L0 k x0 x1 (iop .add .i64 x2 1)
    else
      some ((-1))) := by kernel_rfl
theorem g150c88_eq (x0 : List (List AV)) : g150c88 x0 =
    (g150c88L0 FUEL x0 (List.length x0 : Int) 0) := by kernel_rfl

/- slices.ContainsFunc[[]multikernel/api.Node,multikernel/api.Node] -/
def E87c88 : Env := envG 9 [4] [] [] 0
def A87c88 : List AP := [.c (.slice 11), .clo 88 []]
def R87c88 : List RSh := [.c (.bool)]
noncomputable def T87c88 : STree := evFn Tryz.prog E87c88 Tryz.f87 (argsAt A87c88 0) 1
noncomputable def P87c88 : List (FuncId × Fun) := [(150, S150c88)]
noncomputable def S87c88 : Fun := ⟨A87c88, R87c88, fun vs => T87c88.run Tryz.prog P87c88 A87c88 R87c88 (fun _ _ => none) (envL vs)⟩
theorem ok87c88 : S87c88.Ok Tryz.prog 87 := fun_ok (Φ := P87c88) (S := S87c88) mixed plain_ok Tryz.func87 (by kernel_rfl) (by kernel_rfl) (by kernel_rfl) (T := T87c88) rfl (And.intro ok150c88 trivial) (fun _ => by kernel_rfl)
noncomputable def g87c88 (x0 : List (List AV)) : Option (Bool) := S87c88.g [.l x0]
theorem g87c88_eq (x0 : List (List AV)) : g87c88 x0 =
    ((g150c88 x0).bind fun (r1 : Int) =>
    some ((cop .geq r1 0))) := by kernel_rfl

/- multikernel/wire.validField$2 -/
def E90 : Env := envG 6 [2] [] [] 0
def A90 : List AP := [.agg [.int .i64, .int .i64, .int .i64]]
def R90 : List RSh := [.c (.bool)]
noncomputable def T90 : STree := evFn Tryz.prog E90 Tryz.f90 (argsAt A90 0) 3
noncomputable def P90 : List (FuncId × Fun) := [(91, S91)]
noncomputable def S90 : Fun := ⟨A90, R90, fun vs => T90.run Tryz.prog P90 A90 R90 (fun _ _ => none) (envL vs)⟩
theorem ok90 : S90.Ok Tryz.prog 90 := fun_ok (Φ := P90) (S := S90) mixed plain_ok Tryz.func90 (by kernel_rfl) (by kernel_rfl) (by kernel_rfl) (T := T90) rfl (And.intro ok91 trivial) (fun _ => by kernel_rfl)
noncomputable def g90 (x0 x1 x2 : Int) : Option (Bool) := S90.g [.i x0, .i x1, .i x2]
theorem g90_eq (x0 x1 x2 : Int) : g90 x0 x1 x2 =
    ((g91 x0 x1 x2).bind fun (r3 : Bool) =>
    some ((!r3))) := by kernel_rfl

/- slices.IndexFunc[[]multikernel/api.Id,multikernel/api.Id] -/
def E126c90 : Env := envG 19 [4] [(2, [(0, .c (.slice 3)), (1, .clo 90 []), (7, .c (.int .i64)), (8, .c (.int .i64))])] [] 0
def A126c90 : List AP := [.c (.slice 3), .clo 90 []]
def R126c90 : List RSh := [.c (.int .i64)]
noncomputable def T126c90 : STree := evFn Tryz.prog E126c90 Tryz.f126 (argsAt A126c90 0) 1
noncomputable def T126c90L0 : STree := T126c90.go [0]
noncomputable def P126c90 : List (FuncId × Fun) := [(90, S90)]
noncomputable def S126c90 : Fun := ⟨A126c90, R126c90, fun vs => T126c90.run Tryz.prog P126c90 A126c90 R126c90 (fun _ _ => none) (envL vs)⟩
theorem ok126c90 : S126c90.Ok Tryz.prog 126 := fun_ok (Φ := P126c90) (S := S126c90) mixed plain_ok Tryz.func126 (by kernel_rfl) (by kernel_rfl) (by kernel_rfl) (T := T126c90) rfl (And.intro ok90 trivial) (fun _ => by kernel_rfl)
noncomputable def g126c90 (x0 : List (List AV)) : Option (Int) := S126c90.g [.l x0]
noncomputable def g126c90L0 (k : Nat) (x0 : List (List AV)) (x1 x2 : Int) : Option (Int) := iterL (fun rec vs => STree.run Tryz.prog P126c90 A126c90 R126c90 T126c90L0 (updR (fun _ _ => none) 0 rec) (bind zeroE 0 vs)) k [.l x0, .i x1, .i x2]
theorem g126c90L0_eq (k : Nat) (x0 : List (List AV)) (x1 x2 : Int) : g126c90L0 (k + 1) x0 x1 x2 =
    (if (cop .lss x2 x1) = true then
      elemK x0 x2 [.int .i64, .int .i64, .int .i64] fun (r3 : Int × Int × Int) =>
      (g90 r3.1 r3.2.1 r3.2.2).bind fun (r6 : Bool) =>
      if r6 = true then
        some (x2)
      else
        g126c90L0 k x0 x1 (iop .add .i64 x2 1)
    else
      some ((-1))) := by kernel_rfl
theorem g126c90_eq (x0 : List (List AV)) : g126c90 x0 =
    (g126c90L0 FUEL x0 (List.length x0 : Int) 0) := by kernel_rfl

/- slices.ContainsFunc[[]multikernel/api.Id,multikernel/api.Id] -/
def E57c90 : Env := envG 9 [4] [] [] 0
def A57c90 : List AP := [.c (.slice 3), .clo 90 []]
def R57c90 : List RSh := [.c (.bool)]
noncomputable def T57c90 : STree := evFn Tryz.prog E57c90 Tryz.f57 (argsAt A57c90 0) 1
noncomputable def P57c90 : List (FuncId × Fun) := [(126, S126c90)]
noncomputable def S57c90 : Fun := ⟨A57c90, R57c90, fun vs => T57c90.run Tryz.prog P57c90 A57c90 R57c90 (fun _ _ => none) (envL vs)⟩
theorem ok57c90 : S57c90.Ok Tryz.prog 57 := fun_ok (Φ := P57c90) (S := S57c90) mixed plain_ok Tryz.func57 (by kernel_rfl) (by kernel_rfl) (by kernel_rfl) (T := T57c90) rfl (And.intro ok126c90 trivial) (fun _ => by kernel_rfl)
noncomputable def g57c90 (x0 : List (List AV)) : Option (Bool) := S57c90.g [.l x0]
theorem g57c90_eq (x0 : List (List AV)) : g57c90 x0 =
    ((g126c90 x0).bind fun (r1 : Int) =>
    some ((cop .geq r1 0))) := by kernel_rfl

/- multikernel/wire.validField$3 -/
def E93 : Env := envG 6 [2] [] [] 0
def A93 : List AP := [.c (.int .i64)]
def R93 : List RSh := [.c (.bool)]
noncomputable def T93 : STree := evFn Tryz.prog E93 Tryz.f93 (argsAt A93 0) 1
noncomputable def P93 : List (FuncId × Fun) := [(32, S32)]
noncomputable def S93 : Fun := ⟨A93, R93, fun vs => T93.run Tryz.prog P93 A93 R93 (fun _ _ => none) (envL vs)⟩
theorem ok93 : S93.Ok Tryz.prog 93 := fun_ok (Φ := P93) (S := S93) mixed plain_ok Tryz.func93 (by kernel_rfl) (by kernel_rfl) (by kernel_rfl) (T := T93) rfl (And.intro ok32 trivial) (fun _ => by kernel_rfl)
noncomputable def g93 (x0 : Int) : Option (Bool) := S93.g [.i x0]
theorem g93_eq (x0 : Int) : g93 x0 =
    ((g32 x0).bind fun (r1 : Bool) =>
    some ((!r1))) := by kernel_rfl

/- slices.IndexFunc[[]int,int] -/
def E151c93 : Env := envG 19 [4] [(2, [(0, .c (.slice 1)), (1, .clo 93 []), (7, .c (.int .i64)), (8, .c (.int .i64))])] [] 0
def A151c93 : List AP := [.c (.slice 1), .clo 93 []]
def R151c93 : List RSh := [.c (.int .i64)]
noncomputable def T151c93 : STree := evFn Tryz.prog E151c93 Tryz.f151 (argsAt A151c93 0) 1
noncomputable def T151c93L0 : STree := T151c93.go [0]
noncomputable def P151c93 : List (FuncId × Fun) := [(93, S93)]
noncomputable def S151c93 : Fun := ⟨A151c93, R151c93, fun vs => T151c93.run Tryz.prog P151c93 A151c93 R151c93 (fun _ _ => none) (envL vs)⟩
theorem ok151c93 : S151c93.Ok Tryz.prog 151 := fun_ok (Φ := P151c93) (S := S151c93) mixed plain_ok Tryz.func151 (by kernel_rfl) (by kernel_rfl) (by kernel_rfl) (T := T151c93) rfl (And.intro ok93 trivial) (fun _ => by kernel_rfl)
noncomputable def g151c93 (x0 : List (List AV)) : Option (Int) := S151c93.g [.l x0]
noncomputable def g151c93L0 (k : Nat) (x0 : List (List AV)) (x1 x2 : Int) : Option (Int) := iterL (fun rec vs => STree.run Tryz.prog P151c93 A151c93 R151c93 T151c93L0 (updR (fun _ _ => none) 0 rec) (bind zeroE 0 vs)) k [.l x0, .i x1, .i x2]
theorem g151c93L0_eq (k : Nat) (x0 : List (List AV)) (x1 x2 : Int) : g151c93L0 (k + 1) x0 x1 x2 =
    (if (cop .lss x2 x1) = true then
      elemK x0 x2 [.int .i64] fun (r3 : Int) =>
      (g93 r3).bind fun (r4 : Bool) =>
      if r4 = true then
        some (x2)
      else
        g151c93L0 k x0 x1 (iop .add .i64 x2 1)
    else
      some ((-1))) := by kernel_rfl
theorem g151c93_eq (x0 : List (List AV)) : g151c93 x0 =
    (g151c93L0 FUEL x0 (List.length x0 : Int) 0) := by kernel_rfl

/- slices.ContainsFunc[[]int,int] -/
def E92c93 : Env := envG 9 [4] [] [] 0
def A92c93 : List AP := [.c (.slice 1), .clo 93 []]
def R92c93 : List RSh := [.c (.bool)]
noncomputable def T92c93 : STree := evFn Tryz.prog E92c93 Tryz.f92 (argsAt A92c93 0) 1
noncomputable def P92c93 : List (FuncId × Fun) := [(151, S151c93)]
noncomputable def S92c93 : Fun := ⟨A92c93, R92c93, fun vs => T92c93.run Tryz.prog P92c93 A92c93 R92c93 (fun _ _ => none) (envL vs)⟩
theorem ok92c93 : S92c93.Ok Tryz.prog 92 := fun_ok (Φ := P92c93) (S := S92c93) mixed plain_ok Tryz.func92 (by kernel_rfl) (by kernel_rfl) (by kernel_rfl) (T := T92c93) rfl (And.intro ok151c93 trivial) (fun _ => by kernel_rfl)
noncomputable def g92c93 (x0 : List (List AV)) : Option (Bool) := S92c93.g [.l x0]
theorem g92c93_eq (x0 : List (List AV)) : g92c93 x0 =
    ((g151c93 x0).bind fun (r1 : Int) =>
    some ((cop .geq r1 0))) := by kernel_rfl

/- multikernel/wire.validField$4 -/
def E95 : Env := envG 17 [5] [] [2] 0
def A95 : List AP := [.c (.int .i64), .c (.int .i64), .box hs0]
def R95 : List RSh := [.c (.bool)]
noncomputable def T95 : STree := evFn Tryz.prog E95 Tryz.f95 (argsAt A95 0) 76
noncomputable def P95 : List (FuncId × Fun) := []
noncomputable def S95 : Fun := ⟨A95, R95, fun vs => T95.run Tryz.prog P95 A95 R95 (fun _ _ => none) (envL vs)⟩
theorem ok95 : S95.Ok Tryz.prog 95 := fun_ok (Φ := P95) (S := S95) mixed plain_ok Tryz.func95 (by kernel_rfl) (by kernel_rfl) (by kernel_rfl) (T := T95) rfl trivial (fun _ => by kernel_rfl)
noncomputable def g95 (x0 x1 x2 x3 x4 x5 x6 x7 x8 x9 x10 x11 x12 : Int) (x13 : Bool) (x14 x15 x16 x17 x18 x19 x20 x21 x22 x23 x24 x25 x26 x27 x28 x29 x30 x31 x32 x33 : Int) (x34 : List (List AV)) (x35 x36 x37 x38 x39 x40 : Int) (x41 : Bool) (x42 x43 x44 x45 : List (List AV)) (x46 x47 : Int) (x48 x49 x50 x51 x52 x53 x54 x55 : List (List AV)) (x56 x57 : Int) (x58 x59 x60 x61 x62 x63 x64 x65 : List (List AV)) (x66 : Bool) (x67 : Int) (x68 x69 x70 x71 x72 x73 x74 x75 : List (List AV)) : Option (Qt1) := S95.g [.i x0, .i x1, .i x2, .i x3, .i x4, .i x5, .i x6, .i x7, .i x8, .i x9, .i x10, .i x11, .i x12, .b x13, .i x14, .i x15, .i x16, .i x17, .i x18, .i x19, .i x20, .i x21, .i x22, .i x23, .i x24, .i x25, .i x26, .i x27, .i x28, .i x29, .i x30, .i x31, .i x32, .i x33, .l x34, .i x35, .i x36, .i x37, .i x38, .i x39, .i x40, .b x41, .l x42, .l x43, .l x44, .l x45, .i x46, .i x47, .l x48, .l x49, .l x50, .l x51, .l x52, .l x53, .l x54, .l x55, .i x56, .i x57, .l x58, .l x59, .l x60, .l x61, .l x62, .l x63, .l x64, .l x65, .b x66, .i x67, .l x68, .l x69, .l x70, .l x71, .l x72, .l x73, .l x74, .l x75]
theorem g95_eq (x0 x1 x2 x3 x4 x5 x6 x7 x8 x9 x10 x11 x12 : Int) (x13 : Bool) (x14 x15 x16 x17 x18 x19 x20 x21 x22 x23 x24 x25 x26 x27 x28 x29 x30 x31 x32 x33 : Int) (x34 : List (List AV)) (x35 x36 x37 x38 x39 x40 : Int) (x41 : Bool) (x42 x43 x44 x45 : List (List AV)) (x46 x47 : Int) (x48 x49 x50 x51 x52 x53 x54 x55 : List (List AV)) (x56 x57 : Int) (x58 x59 x60 x61 x62 x63 x64 x65 : List (List AV)) (x66 : Bool) (x67 : Int) (x68 x69 x70 x71 x72 x73 x74 x75 : List (List AV)) : g95 x0 x1 x2 x3 x4 x5 x6 x7 x8 x9 x10 x11 x12 x13 x14 x15 x16 x17 x18 x19 x20 x21 x22 x23 x24 x25 x26 x27 x28 x29 x30 x31 x32 x33 x34 x35 x36 x37 x38 x39 x40 x41 x42 x43 x44 x45 x46 x47 x48 x49 x50 x51 x52 x53 x54 x55 x56 x57 x58 x59 x60 x61 x62 x63 x64 x65 x66 x67 x68 x69 x70 x71 x72 x73 x74 x75 =
    (elemK x44 x0 [.int .i64] fun (r76 : Int) =>
    elemK x44 x1 [.int .i64] fun (r77 : Int) =>
    some ((cop .lss r76 r77), x2, x3, x4, x5, x6, x7, x8, x9, x10, x11, x12, x13, x14, x15, x16, x17, x18, x19, x20, x21, x22, x23, x24, x25, x26, x27, x28, x29, x30, x31, x32, x33, x34, x35, x36, x37, x38, x39, x40, x41, x42, x43, x44, x45, x46, x47, x48, x49, x50, x51, x52, x53, x54, x55, x56, x57, x58, x59, x60, x61, x62, x63, x64, x65, x66, x67, x68, x69, x70, x71, x72, x73, x74, x75)) := by kernel_rfl

/- multikernel/wire.ascending -/
def E94c95 : Env := envG 17 [4] [(2, [(0, .c (.int .i64)), (1, .clo 95 [17]), (5, .c (.int .i64)), (17, .gbox hs0)])] [] 1
def A94c95 : List AP := [.c (.int .i64), .clo 95 [17], .dead, .dead, .dead, .dead, .dead, .dead, .dead, .dead, .dead, .dead, .dead, .dead, .dead, .dead, .dead, .gbox hs0]
def R94c95 : List RSh := [.c (.bool)]
noncomputable def T94c95 : STree := evFn Tryz.prog E94c95 Tryz.f94 (argsAt A94c95 0) 75
noncomputable def T94c95L0 : STree := T94c95.go [0]
noncomputable def P94c95 : List (FuncId × Fun) := [(95, S95)]
noncomputable def S94c95 : Fun := ⟨A94c95, R94c95, fun vs => T94c95.run Tryz.prog P94c95 A94c95 R94c95 (fun _ _ => none) (envL vs)⟩
theorem ok94c95 : S94c95.Ok Tryz.prog 94 := fun_ok (Φ := P94c95) (S := S94c95) mixed plain_ok Tryz.func94 (by kernel_rfl) (by kernel_rfl) (by kernel_rfl) (T := T94c95) rfl (And.intro ok95 trivial) (fun _ => by kernel_rfl)
noncomputable def g94c95 (x0 x1 x2 x3 x4 x5 x6 x7 x8 x9 x10 x11 : Int) (x12 : Bool) (x13 x14 x15 x16 x17 x18 x19 x20 x21 x22 x23 x24 x25 x26 x27 x28 x29 x30 x31 x32 : Int) (x33 : List (List AV)) (x34 x35 x36 x37 x38 x39 : Int) (x40 : Bool) (x41 x42 x43 x44 : List (List AV)) (x45 x46 : Int) (x47 x48 x49 x50 x51 x52 x53 x54 : List (List AV)) (x55 x56 : Int) (x57 x58 x59 x60 x61 x62 x63 x64 : List (List AV)) (x65 : Bool) (x66 : Int) (x67 x68 x69 x70 x71 x72 x73 x74 : List (List AV)) : Option (Qt1) := S94c95.g [.i x0, .i x1, .i x2, .i x3, .i x4, .i x5, .i x6, .i x7, .i x8, .i x9, .i x10, .i x11, .b x12, .i x13, .i x14, .i x15, .i x16, .i x17, .i x18, .i x19, .i x20, .i x21, .i x22, .i x23, .i x24, .i x25, .i x26, .i x27, .i x28, .i x29, .i x30, .i x31, .i x32, .l x33, .i x34, .i x35, .i x36, .i x37, .i x38, .i x39, .b x40, .l x41, .l x42, .l x43, .l x44, .i x45, .i x46, .l x47, .l x48, .l x49, .l x50, .l x51, .l x52, .l x53, .l x54, .i x55, .i x56, .l x57, .l x58, .l x59, .l x60, .l x61, .l x62, .l x63, .l x64, .b x65, .i x66, .l x67, .l x68, .l x69, .l x70, .l x71, .l x72, .l x73, .l x74]
noncomputable def g94c95L0 (k : Nat) (x0 x1 x2 x3 x4 x5 x6 x7 x8 x9 x10 x11 x12 : Int) (x13 : Bool) (x14 x15 x16 x17 x18 x19 x20 x21 x22 x23 x24 x25 x26 x27 x28 x29 x30 x31 x32 x33 : Int) (x34 : List (List AV)) (x35 x36 x37 x38 x39 x40 : Int) (x41 : Bool) (x42 x43 x44 x45 : List (List AV)) (x46 x47 : Int) (x48 x49 x50 x51 x52 x53 x54 x55 : List (List AV)) (x56 x57 : Int) (x58 x59 x60 x61 x62 x63 x64 x65 : List (List AV)) (x66 : Bool) (x67 : Int) (x68 x69 x70 x71 x72 x73 x74 x75 : List (List AV)) : Option (Qt1) := iterL (fun rec vs => STree.run Tryz.prog P94c95 A94c95 R94c95 T94c95L0 (updR (fun _ _ => none) 0 rec) (bind zeroE 0 vs)) k [.i x0, .i x1, .i x2, .i x3, .i x4, .i x5, .i x6, .i x7, .i x8, .i x9, .i x10, .i x11, .i x12, .b x13, .i x14, .i x15, .i x16, .i x17, .i x18, .i x19, .i x20, .i x21, .i x22, .i x23, .i x24, .i x25, .i x26, .i x27, .i x28, .i x29, .i x30, .i x31, .i x32, .i x33, .l x34, .i x35, .i x36, .i x37, .i x38, .i x39, .i x40, .b x41, .l x42, .l x43, .l x44, .l x45, .i x46, .i x47, .l x48, .l x49, .l x50, .l x51, .l x52, .l x53, .l x54, .l x55, .i x56, .i x57, .l x58, .l x59, .l x60, .l x61, .l x62, .l x63, .l x64, .l x65, .b x66, .i x67, .l x68, .l x69, .l x70, .l x71, .l x72, .l x73, .l x74, .l x75]
theorem g94c95L0_eq (k : Nat) (x0 x1 x2 x3 x4 x5 x6 x7 x8 x9 x10 x11 x12 : Int) (x13 : Bool) (x14 x15 x16 x17 x18 x19 x20 x21 x22 x23 x24 x25 x26 x27 x28 x29 x30 x31 x32 x33 : Int) (x34 : List (List AV)) (x35 x36 x37 x38 x39 x40 : Int) (x41 : Bool) (x42 x43 x44 x45 : List (List AV)) (x46 x47 : Int) (x48 x49 x50 x51 x52 x53 x54 x55 : List (List AV)) (x56 x57 : Int) (x58 x59 x60 x61 x62 x63 x64 x65 : List (List AV)) (x66 : Bool) (x67 : Int) (x68 x69 x70 x71 x72 x73 x74 x75 : List (List AV)) : g94c95L0 (k + 1) x0 x1 x2 x3 x4 x5 x6 x7 x8 x9 x10 x11 x12 x13 x14 x15 x16 x17 x18 x19 x20 x21 x22 x23 x24 x25 x26 x27 x28 x29 x30 x31 x32 x33 x34 x35 x36 x37 x38 x39 x40 x41 x42 x43 x44 x45 x46 x47 x48 x49 x50 x51 x52 x53 x54 x55 x56 x57 x58 x59 x60 x61 x62 x63 x64 x65 x66 x67 x68 x69 x70 x71 x72 x73 x74 x75 =
    (if (cop .lss x1 x0) = true then
      (g95 (iop .sub .i64 x1 1) x1 x2 x3 x4 x5 x6 x7 x8 x9 x10 x11 x12 x13 x14 x15 x16 x17 x18 x19 x20 x21 x22 x23 x24 x25 x26 x27 x28 x29 x30 x31 x32 x33 x34 x35 x36 x37 x38 x39 x40 x41 x42 x43 x44 x45 x46 x47 x48 x49 x50 x51 x52 x53 x54 x55 x56 x57 x58 x59 x60 x61 x62 x63 x64 x65 x66 x67 x68 x69 x70 x71 x72 x73 x74 x75).bind fun (r76 : Qt1) =>
      if (!r76.1) = true then
        some (false, r76.2.1, r76.2.2.1, r76.2.2.2.1, r76.2.2.2.2.1, r76.2.2.2.2.2.1, r76.2.2.2.2.2.2.1, r76.2.2.2.2.2.2.2.1, r76.2.2.2.2.2.2.2.2.1, r76.2.2.2.2.2.2.2.2.2.1, r76.2.2.2.2.2.2.2.2.2.2.1, r76.2.2.2.2.2.2.2.2.2.2.2.1, (d4 (d8 r76)).1, (d4 (d8 r76)).2.1, (d2 (d4 (d8 r76))).1, (d2 (d4 (d8 r76))).2.1, (d16 r76).1, (d16 r76).2.1, (d2 (d16 r76)).1, (d2 (d16 r76)).2.1, (d4 (d16 r76)).1, (d4 (d16 r76)).2.1, (d2 (d4 (d16 r76))).1, (d2 (d4 (d16 r76))).2.1, (d8 (d16 r76)).1, (d8 (d16 r76)).2.1, (d2 (d8 (d16 r76))).1, (d2 (d8 (d16 r76))).2.1, (d4 (d8 (d16 r76))).1, (d4 (d8 (d16 r76))).2.1, (d2 (d4 (d8 (d16 r76)))).1, (d2 (d4 (d8 (d16 r76)))).2.1, (d16 (d16 r76)).1, (d16 (d16 r76)).2.1, (d2 (d16 (d16 r76))).1, (d2 (d16 (d16 r76))).2.1, (d4 (d16 (d16 r76))).1, (d4 (d16 (d16 r76))).2.1, (d2 (d4 (d16 (d16 r76)))).1, (d2 (d4 (d16 (d16 r76)))).2.1, (d8 (d16 (d16 r76))).1, (d8 (d16 (d16 r76))).2.1, (d2 (d8 (d16 (d16 r76)))).1, (d2 (d8 (d16 (d16 r76)))).2.1, (d4 (d8 (d16 (d16 r76)))).1, (d4 (d8 (d16 (d16 r76)))).2.1, (d2 (d4 (d8 (d16 (d16 r76))))).1, (d2 (d4 (d8 (d16 (d16 r76))))).2.1, (d16 (d16 (d16 r76))).1, (d16 (d16 (d16 r76))).2.1, (d2 (d16 (d16 (d16 r76)))).1, (d2 (d16 (d16 (d16 r76)))).2.1, (d4 (d16 (d16 (d16 r76)))).1, (d4 (d16 (d16 (d16 r76)))).2.1, (d2 (d4 (d16 (d16 (d16 r76))))).1, (d2 (d4 (d16 (d16 (d16 r76))))).2.1, (d8 (d16 (d16 (d16 r76)))).1, (d8 (d16 (d16 (d16 r76)))).2.1, (d2 (d8 (d16 (d16 (d16 r76))))).1, (d2 (d8 (d16 (d16 (d16 r76))))).2.1, (d4 (d8 (d16 (d16 (d16 r76))))).1, (d4 (d8 (d16 (d16 (d16 r76))))).2.1, (d2 (d4 (d8 (d16 (d16 (d16 r76)))))).1, (d2 (d4 (d8 (d16 (d16 (d16 r76)))))).2.1, (d16 (d16 (d16 (d16 r76)))).1, (d16 (d16 (d16 (d16 r76)))).2.1, (d2 (d16 (d16 (d16 (d16 r76))))).1, (d2 (d16 (d16 (d16 (d16 r76))))).2.1, (d4 (d16 (d16 (d16 (d16 r76))))).1, (d4 (d16 (d16 (d16 (d16 r76))))).2.1, (d2 (d4 (d16 (d16 (d16 (d16 r76)))))).1, (d2 (d4 (d16 (d16 (d16 (d16 r76)))))).2.1, (d8 (d16 (d16 (d16 (d16 r76))))).1, (d8 (d16 (d16 (d16 (d16 r76))))).2.1, (d2 (d8 (d16 (d16 (d16 (d16 r76)))))))
      else
        g94c95L0 k x0 (iop .add .i64 x1 1) r76.2.1 r76.2.2.1 r76.2.2.2.1 r76.2.2.2.2.1 r76.2.2.2.2.2.1 r76.2.2.2.2.2.2.1 r76.2.2.2.2.2.2.2.1 r76.2.2.2.2.2.2.2.2.1 r76.2.2.2.2.2.2.2.2.2.1 r76.2.2.2.2.2.2.2.2.2.2.1 r76.2.2.2.2.2.2.2.2.2.2.2.1 (d4 (d8 r76)).1 (d4 (d8 r76)).2.1 (d2 (d4 (d8 r76))).1 (d2 (d4 (d8 r76))).2.1 (d16 r76).1 (d16 r76).2.1 (d2 (d16 r76)).1 (d2 (d16 r76)).2.1 (d4 (d16 r76)).1 (d4 (d16 r76)).2.1 (d2 (d4 (d16 r76))).1 (d2 (d4 (d16 r76))).2.1 (d8 (d16 r76)).1 (d8 (d16 r76)).2.1 (d2 (d8 (d16 r76))).1 (d2 (d8 (d16 r76))).2.1 (d4 (d8 (d16 r76))).1 (d4 (d8 (d16 r76))).2.1 (d2 (d4 (d8 (d16 r76)))).1 (d2 (d4 (d8 (d16 r76)))).2.1 (d16 (d16 r76)).1 (d16 (d16 r76)).2.1 (d2 (d16 (d16 r76))).1 (d2 (d16 (d16 r76))).2.1 (d4 (d16 (d16 r76))).1 (d4 (d16 (d16 r76))).2.1 (d2 (d4 (d16 (d16 r76)))).1 (d2 (d4 (d16 (d16 r76)))).2.1 (d8 (d16 (d16 r76))).1 (d8 (d16 (d16 r76))).2.1 (d2 (d8 (d16 (d16 r76)))).1 (d2 (d8 (d16 (d16 r76)))).2.1 (d4 (d8 (d16 (d16 r76)))).1 (d4 (d8 (d16 (d16 r76)))).2.1 (d2 (d4 (d8 (d16 (d16 r76))))).1 (d2 (d4 (d8 (d16 (d16 r76))))).2.1 (d16 (d16 (d16 r76))).1 (d16 (d16 (d16 r76))).2.1 (d2 (d16 (d16 (d16 r76)))).1 (d2 (d16 (d16 (d16 r76)))).2.1 (d4 (d16 (d16 (d16 r76)))).1 (d4 (d16 (d16 (d16 r76)))).2.1 (d2 (d4 (d16 (d16 (d16 r76))))).1 (d2 (d4 (d16 (d16 (d16 r76))))).2.1 (d8 (d16 (d16 (d16 r76)))).1 (d8 (d16 (d16 (d16 r76)))).2.1 (d2 (d8 (d16 (d16 (d16 r76))))).1 (d2 (d8 (d16 (d16 (d16 r76))))).2.1 (d4 (d8 (d16 (d16 (d16 r76))))).1 (d4 (d8 (d16 (d16 (d16 r76))))).2.1 (d2 (d4 (d8 (d16 (d16 (d16 r76)))))).1 (d2 (d4 (d8 (d16 (d16 (d16 r76)))))).2.1 (d16 (d16 (d16 (d16 r76)))).1 (d16 (d16 (d16 (d16 r76)))).2.1 (d2 (d16 (d16 (d16 (d16 r76))))).1 (d2 (d16 (d16 (d16 (d16 r76))))).2.1 (d4 (d16 (d16 (d16 (d16 r76))))).1 (d4 (d16 (d16 (d16 (d16 r76))))).2.1 (d2 (d4 (d16 (d16 (d16 (d16 r76)))))).1 (d2 (d4 (d16 (d16 (d16 (d16 r76)))))).2.1 (d8 (d16 (d16 (d16 (d16 r76))))).1 (d8 (d16 (d16 (d16 (d16 r76))))).2.1 (d2 (d8 (d16 (d16 (d16 (d16 r76))))))
    else
      some (true, x2, x3, x4, x5, x6, x7, x8, x9, x10, x11, x12, x13, x14, x15, x16, x17, x18, x19, x20, x21, x22, x23, x24, x25, x26, x27, x28, x29, x30, x31, x32, x33, x34, x35, x36, x37, x38, x39, x40, x41, x42, x43, x44, x45, x46, x47, x48, x49, x50, x51, x52, x53, x54, x55, x56, x57, x58, x59, x60, x61, x62, x63, x64, x65, x66, x67, x68, x69, x70, x71, x72, x73, x74, x75)) := by kernel_rfl
theorem g94c95_eq (x0 x1 x2 x3 x4 x5 x6 x7 x8 x9 x10 x11 : Int) (x12 : Bool) (x13 x14 x15 x16 x17 x18 x19 x20 x21 x22 x23 x24 x25 x26 x27 x28 x29 x30 x31 x32 : Int) (x33 : List (List AV)) (x34 x35 x36 x37 x38 x39 : Int) (x40 : Bool) (x41 x42 x43 x44 : List (List AV)) (x45 x46 : Int) (x47 x48 x49 x50 x51 x52 x53 x54 : List (List AV)) (x55 x56 : Int) (x57 x58 x59 x60 x61 x62 x63 x64 : List (List AV)) (x65 : Bool) (x66 : Int) (x67 x68 x69 x70 x71 x72 x73 x74 : List (List AV)) : g94c95 x0 x1 x2 x3 x4 x5 x6 x7 x8 x9 x10 x11 x12 x13 x14 x15 x16 x17 x18 x19 x20 x21 x22 x23 x24 x25 x26 x27 x28 x29 x30 x31 x32 x33 x34 x35 x36 x37 x38 x39 x40 x41 x42 x43 x44 x45 x46 x47 x48 x49 x50 x51 x52 x53 x54 x55 x56 x57 x58 x59 x60 x61 x62 x63 x64 x65 x66 x67 x68 x69 x70 x71 x72 x73 x74 =
    (g94c95L0 FUEL x0 1 x1 x2 x3 x4 x5 x6 x7 x8 x9 x10 x11 x12 x13 x14 x15 x16 x17 x18 x19 x20 x21 x22 x23 x24 x25 x26 x27 x28 x29 x30 x31 x32 x33 x34 x35 x36 x37 x38 x39 x40 x41 x42 x43 x44 x45 x46 x47 x48 x49 x50 x51 x52 x53 x54 x55 x56 x57 x58 x59 x60 x61 x62 x63 x64 x65 x66 x67 x68 x69 x70 x71 x72 x73 x74) := by kernel_rfl

/- multikernel/wire.validField$5 -/
def E99 : Env := envG 13 [2] [] [] 0
def A99 : List AP := [.agg [.int .i64, .int .i64]]
def R99 : List RSh := [.c (.bool)]
noncomputable def T99 : STree := evFn Tryz.prog E99 Tryz.f99 (argsAt A99 0) 2
noncomputable def P99 : List (FuncId × Fun) := [(48, S48), (32, S32)]
noncomputable def S99 : Fun := ⟨A99, R99, fun vs => T99.run Tryz.prog P99 A99 R99 (fun _ _ => none) (envL vs)⟩
theorem ok99 : S99.Ok Tryz.prog 99 := fun_ok (Φ := P99) (S := S99) mixed plain_ok Tryz.func99 (by kernel_rfl) (by kernel_rfl) (by kernel_rfl) (T := T99) rfl (And.intro ok48 (And.intro ok32 trivial)) (fun _ => by kernel_rfl)
noncomputable def g99 (x0 x1 : Int) : Option (Bool) := S99.g [.i x0, .i x1]
theorem g99_eq (x0 x1 : Int) : g99 x0 x1 =
    ((g48 x0).bind fun (r2 : Bool) =>
    if (!r2) = true then
      some (true)
    else
      (g32 x1).bind fun (r3 : Bool) =>
      some ((!r3))) := by kernel_rfl

/- slices.IndexFunc[[]multikernel/api.Move,multikernel/api.Move] -/
def E154c99 : Env := envG 19 [4] [(2, [(0, .c (.slice 2)), (1, .clo 99 []), (7, .c (.int .i64)), (8, .c (.int .i64))])] [] 0
def A154c99 : List AP := [.c (.slice 2), .clo 99 []]
def R154c99 : List RSh := [.c (.int .i64)]
noncomputable def T154c99 : STree := evFn Tryz.prog E154c99 Tryz.f154 (argsAt A154c99 0) 1
noncomputable def T154c99L0 : STree := T154c99.go [0]
noncomputable def P154c99 : List (FuncId × Fun) := [(99, S99)]
noncomputable def S154c99 : Fun := ⟨A154c99, R154c99, fun vs => T154c99.run Tryz.prog P154c99 A154c99 R154c99 (fun _ _ => none) (envL vs)⟩
theorem ok154c99 : S154c99.Ok Tryz.prog 154 := fun_ok (Φ := P154c99) (S := S154c99) mixed plain_ok Tryz.func154 (by kernel_rfl) (by kernel_rfl) (by kernel_rfl) (T := T154c99) rfl (And.intro ok99 trivial) (fun _ => by kernel_rfl)
noncomputable def g154c99 (x0 : List (List AV)) : Option (Int) := S154c99.g [.l x0]
noncomputable def g154c99L0 (k : Nat) (x0 : List (List AV)) (x1 x2 : Int) : Option (Int) := iterL (fun rec vs => STree.run Tryz.prog P154c99 A154c99 R154c99 T154c99L0 (updR (fun _ _ => none) 0 rec) (bind zeroE 0 vs)) k [.l x0, .i x1, .i x2]
theorem g154c99L0_eq (k : Nat) (x0 : List (List AV)) (x1 x2 : Int) : g154c99L0 (k + 1) x0 x1 x2 =
    (if (cop .lss x2 x1) = true then
      elemK x0 x2 [.int .i64, .int .i64] fun (r3 : Int × Int) =>
      (g99 r3.1 r3.2).bind fun (r5 : Bool) =>
      if r5 = true then
        some (x2)
      else
        g154c99L0 k x0 x1 (iop .add .i64 x2 1)
    else
      some ((-1))) := by kernel_rfl
theorem g154c99_eq (x0 : List (List AV)) : g154c99 x0 =
    (g154c99L0 FUEL x0 (List.length x0 : Int) 0) := by kernel_rfl

/- slices.ContainsFunc[[]multikernel/api.Move,multikernel/api.Move] -/
def E98c99 : Env := envG 9 [4] [] [] 0
def A98c99 : List AP := [.c (.slice 2), .clo 99 []]
def R98c99 : List RSh := [.c (.bool)]
noncomputable def T98c99 : STree := evFn Tryz.prog E98c99 Tryz.f98 (argsAt A98c99 0) 1
noncomputable def P98c99 : List (FuncId × Fun) := [(154, S154c99)]
noncomputable def S98c99 : Fun := ⟨A98c99, R98c99, fun vs => T98c99.run Tryz.prog P98c99 A98c99 R98c99 (fun _ _ => none) (envL vs)⟩
theorem ok98c99 : S98c99.Ok Tryz.prog 98 := fun_ok (Φ := P98c99) (S := S98c99) mixed plain_ok Tryz.func98 (by kernel_rfl) (by kernel_rfl) (by kernel_rfl) (T := T98c99) rfl (And.intro ok154c99 trivial) (fun _ => by kernel_rfl)
noncomputable def g98c99 (x0 : List (List AV)) : Option (Bool) := S98c99.g [.l x0]
theorem g98c99_eq (x0 : List (List AV)) : g98c99 x0 =
    ((g154c99 x0).bind fun (r1 : Int) =>
    some ((cop .geq r1 0))) := by kernel_rfl

/- multikernel/wire.validField -/
def E33 : Env := envG 114 [4] [] [] 0
def A33 : List AP := [.agg hs0, .c (.int .i64)]
def R33 : List RSh := [.c (.bool)]
noncomputable def T33 : STree := evFn Tryz.prog E33 Tryz.f33 (argsAt A33 0) 75
noncomputable def P33 : List (FuncId × Fun) := [(48, S48), (12, S12), (47, S47), (86, S86), (87, S87c88), (89, S89), (57, S57c90), (31, S31), (92, S92c93), (94, S94c95), (96, S96), (97, S97), (14, S14), (98, S98c99)]
noncomputable def S33 : Fun := ⟨A33, R33, fun vs => T33.run Tryz.prog P33 A33 R33 (fun _ _ => none) (envL vs)⟩
theorem ok33 : S33.Ok Tryz.prog 33 := fun_ok (Φ := P33) (S := S33) mixed plain_ok Tryz.func33 (by kernel_rfl) (by kernel_rfl) (by kernel_rfl) (T := T33) rfl (And.intro ok48 (And.intro ok12 (And.intro ok47 (And.intro ok86 (And.intro ok87c88 (And.intro ok89 (And.intro ok57c90 (And.intro ok31 (And.intro ok92c93 (And.intro ok94c95 (And.intro ok96 (And.intro ok97 (And.intro ok14 (And.intro ok98c99 trivial)))))))))))))) (fun _ => by kernel_rfl)
noncomputable def g33 (x0 x1 x2 x3 x4 x5 x6 x7 x8 x9 x10 : Int) (x11 : Bool) (x12 x13 x14 x15 x16 x17 x18 x19 x20 x21 x22 x23 x24 x25 x26 x27 x28 x29 x30 x31 : Int) (x32 : List (List AV)) (x33 x34 x35 x36 x37 x38 : Int) (x39 : Bool) (x40 x41 x42 x43 : List (List AV)) (x44 x45 : Int) (x46 x47 x48 x49 x50 x51 x52 x53 : List (List AV)) (x54 x55 : Int) (x56 x57 x58 x59 x60 x61 x62 x63 : List (List AV)) (x64 : Bool) (x65 : Int) (x66 x67 x68 x69 x70 x71 x72 x73 : List (List AV)) (x74 : Int) : Option (Bool) := S33.g [.i x0, .i x1, .i x2, .i x3, .i x4, .i x5, .i x6, .i x7, .i x8, .i x9, .i x10, .b x11, .i x12, .i x13, .i x14, .i x15, .i x16, .i x17, .i x18, .i x19, .i x20, .i x21, .i x22, .i x23, .i x24, .i x25, .i x26, .i x27, .i x28, .i x29, .i x30, .i x31, .l x32, .i x33, .i x34, .i x35, .i x36, .i x37, .i x38, .b x39, .l x40, .l x41, .l x42, .l x43, .i x44, .i x45, .l x46, .l x47, .l x48, .l x49, .l x50, .l x51, .l x52, .l x53, .i x54, .i x55, .l x56, .l x57, .l x58, .l x59, .l x60, .l x61, .l x62, .l x63, .b x64, .i x65, .l x66, .l x67, .l x68, .l x69, .l x70, .l x71, .l x72, .l x73, .i x74]
theorem g33_eq (x0 x1 x2 x3 x4 x5 x6 x7 x8 x9 x10 : Int) (x11 : Bool) (x12 x13 x14 x15 x16 x17 x18 x19 x20 x21 x22 x23 x24 x25 x26 x27 x28 x29 x30 x31 : Int) (x32 : List (List AV)) (x33 x34 x35 x36 x37 x38 : Int) (x39 : Bool) (x40 x41 x42 x43 : List (List AV)) (x44 x45 : Int) (x46 x47 x48 x49 x50 x51 x52 x53 : List (List AV)) (x54 x55 : Int) (x56 x57 x58 x59 x60 x61 x62 x63 : List (List AV)) (x64 : Bool) (x65 : Int) (x66 x67 x68 x69 x70 x71 x72 x73 : List (List AV)) (x74 : Int) : g33 x0 x1 x2 x3 x4 x5 x6 x7 x8 x9 x10 x11 x12 x13 x14 x15 x16 x17 x18 x19 x20 x21 x22 x23 x24 x25 x26 x27 x28 x29 x30 x31 x32 x33 x34 x35 x36 x37 x38 x39 x40 x41 x42 x43 x44 x45 x46 x47 x48 x49 x50 x51 x52 x53 x54 x55 x56 x57 x58 x59 x60 x61 x62 x63 x64 x65 x66 x67 x68 x69 x70 x71 x72 x73 x74 =
    (if (cop .eql x74 0) = true then
      (g48 x5).bind fun (r75 : Bool) =>
      some (r75)
    else
      if (cop .eql x74 1) = true then
        (g12 x12 x13 x14 x15 x16 x17 x18 x19 x20 x21 x22 x23 x24 x25 x26 x27 x28 x29 x30 x31 x32 x33 x34 x35 x36 x37 x38 x39).bind fun (r75 : Bool) =>
        some (r75)
      else
        if (cop .eql x74 2) = true then
          (g47 x7 x8 x9).bind fun (r75 : Bool) =>
          some (r75)
        else
          if (cop .eql x74 3) = true then
            (g86 x10).bind fun (r75 : Bool) =>
            some (r75)
          else
            if (cop .eql x74 5) = true then
              if (cop .gtr (List.length x41 : Int) 8) = true then
                some (false)
              else
                if (cop .eql x0 4) = true then
                  if (cop .neq (List.length x41 : Int) 1) = true then
                    some (false)
                  else
                    (g87c88 x41).bind fun (r75 : Bool) =>
                    some ((!r75))
                else
                  (g87c88 x41).bind fun (r75 : Bool) =>
                  some ((!r75))
            else
              if (cop .eql x74 6) = true then
                (g89 x6).bind fun (r75 : Bool) =>
                some (r75)
              else
                if (cop .eql x74 7) = true then
                  if (cop .leq (List.length x40 : Int) 64) = true then
                    (g57c90 x40).bind fun (r75 : Bool) =>
                    some ((!r75))
                  else
                    some (false)
                else
                  if (cop .eql x74 8) = true then
                    (g31 x4).bind fun (r75 : Bool) =>
                    some (r75)
                  else
                    if (cop .eql x74 9) = true then
                      (g92c93 x42).bind fun (r75 : Bool) =>
                      if (!r75) = true then
                        (g94c95 (List.length x42 : Int) x0 x1 x2 x3 x4 x5 x6 x7 x8 x9 x10 x11 x12 x13 x14 x15 x16 x17 x18 x19 x20 x21 x22 x23 x24 x25 x26 x27 x28 x29 x30 x31 x32 x33 x34 x35 x36 x37 x38 x39 x40 x41 x42 x43 x44 x45 x46 x47 x48 x49 x50 x51 x52 x53 x54 x55 x56 x57 x58 x59 x60 x61 x62 x63 x64 x65 x66 x67 x68 x69 x70 x71 x72 x73).bind fun (r76 : Qt1) =>
                        some (r76.1)
                      else
                        some (false)
                    else
                      if (cop .eql x74 10) = true then
                        (g96 x54 x55 x56 x57 x58 x59 x60 x61 x62 x63 x64 x65 x66 x67 x68 x69 x70 x71 x72 x73).bind fun (r75 : Bool) =>
                        some (r75)
                      else
                        if (cop .eql x74 11) = true then
                          (g31 x44).bind fun (r75 : Bool) =>
                          some (r75)
                        else
                          if (cop .eql x74 12) = true then
                            (g97 x45 x46 x47).bind fun (r75 : Bool) =>
                            some (r75)
                          else
                            if (cop .eql x74 13) = true then
                              (g14 x48 x49 x50 x51 x52 x53).bind fun (r75 : Bool) =>
                              some (r75)
                            else
                              if (cop .eql x74 14) = true then
                                if (cop .leq (List.length x43 : Int) 16) = true then
                                  (g98c99 x43).bind fun (r75 : Bool) =>
                                  some ((!r75))
                                else
                                  some (false)
                              else
                                some (true)) := by kernel_rfl

/- multikernel/wire.clearField -/
def E34 : Env := envG 85 [] [] [0] 0
def A34 : List AP := [.box hs0, .c (.int .i64)]
def R34 : List RSh := []
noncomputable def T34 : STree := evFn Tryz.prog E34 Tryz.f34 (argsAt A34 0) 75
noncomputable def P34 : List (FuncId × Fun) := []
noncomputable def S34 : Fun := ⟨A34, R34, fun vs => T34.run Tryz.prog P34 A34 R34 (fun _ _ => none) (envL vs)⟩
theorem ok34 : S34.Ok Tryz.prog 34 := fun_ok (Φ := P34) (S := S34) mixed plain_ok Tryz.func34 (by kernel_rfl) (by kernel_rfl) (by kernel_rfl) (T := T34) rfl trivial (fun _ => by kernel_rfl)
noncomputable def g34 (x0 x1 x2 x3 x4 x5 x6 x7 x8 x9 x10 : Int) (x11 : Bool) (x12 x13 x14 x15 x16 x17 x18 x19 x20 x21 x22 x23 x24 x25 x26 x27 x28 x29 x30 x31 : Int) (x32 : List (List AV)) (x33 x34 x35 x36 x37 x38 : Int) (x39 : Bool) (x40 x41 x42 x43 : List (List AV)) (x44 x45 : Int) (x46 x47 x48 x49 x50 x51 x52 x53 : List (List AV)) (x54 x55 : Int) (x56 x57 x58 x59 x60 x61 x62 x63 : List (List AV)) (x64 : Bool) (x65 : Int) (x66 x67 x68 x69 x70 x71 x72 x73 : List (List AV)) (x74 : Int) : Option (Qt3) := S34.g [.i x0, .i x1, .i x2, .i x3, .i x4, .i x5, .i x6, .i x7, .i x8, .i x9, .i x10, .b x11, .i x12, .i x13, .i x14, .i x15, .i x16, .i x17, .i x18, .i x19, .i x20, .i x21, .i x22, .i x23, .i x24, .i x25, .i x26, .i x27, .i x28, .i x29, .i x30, .i x31, .l x32, .i x33, .i x34, .i x35, .i x36, .i x37, .i x38, .b x39, .l x40, .l x41, .l x42, .l x43, .i x44, .i x45, .l x46, .l x47, .l x48, .l x49, .l x50, .l x51, .l x52, .l x53, .i x54, .i x55, .l x56, .l x57, .l x58, .l x59, .l x60, .l x61, .l x62, .l x63, .b x64, .i x65, .l x66, .l x67, .l x68, .l x69, .l x70, .l x71, .l x72, .l x73, .i x74]
theorem g34_eq (x0 x1 x2 x3 x4 x5 x6 x7 x8 x9 x10 : Int) (x11 : Bool) (x12 x13 x14 x15 x16 x17 x18 x19 x20 x21 x22 x23 x24 x25 x26 x27 x28 x29 x30 x31 : Int) (x32 : List (List AV)) (x33 x34 x35 x36 x37 x38 : Int) (x39 : Bool) (x40 x41 x42 x43 : List (List AV)) (x44 x45 : Int) (x46 x47 x48 x49 x50 x51 x52 x53 : List (List AV)) (x54 x55 : Int) (x56 x57 x58 x59 x60 x61 x62 x63 : List (List AV)) (x64 : Bool) (x65 : Int) (x66 x67 x68 x69 x70 x71 x72 x73 : List (List AV)) (x74 : Int) : g34 x0 x1 x2 x3 x4 x5 x6 x7 x8 x9 x10 x11 x12 x13 x14 x15 x16 x17 x18 x19 x20 x21 x22 x23 x24 x25 x26 x27 x28 x29 x30 x31 x32 x33 x34 x35 x36 x37 x38 x39 x40 x41 x42 x43 x44 x45 x46 x47 x48 x49 x50 x51 x52 x53 x54 x55 x56 x57 x58 x59 x60 x61 x62 x63 x64 x65 x66 x67 x68 x69 x70 x71 x72 x73 x74 =
    (if (cop .eql x74 0) = true then
      some (x0, x1, x2, x3, x4, 0, x6, x7, x8, x9, x10, x11, x12, x13, x14, x15, x16, x17, x18, x19, x20, x21, x22, x23, x24, x25, x26, x27, x28, x29, x30, x31, x32, x33, x34, x35, x36, x37, x38, x39, x40, x41, x42, x43, x44, x45, x46, x47, x48, x49, x50, x51, x52, x53, x54, x55, x56, x57, x58, x59, x60, x61, x62, x63, x64, x65, x66, x67, x68, x69, x70, x71, x72, x73)
    else
      if (cop .eql x74 1) = true then
        some (x0, x1, x2, x3, x4, x5, x6, x7, x8, x9, x10, x11, 0, 0, 0, 0, 0, 0, 0, 0, 0, 0, 0, 0, 0, 0, 0, 0, 0, 0, 0, 0, ([] : List (List AV)), 0, 0, 0, 0, 0, 0, false, x40, x41, x42, x43, x44, x45, x46, x47, x48, x49, x50, x51, x52, x53, x54, x55, x56, x57, x58, x59, x60, x61, x62, x63, x64, x65, x66, x67, x68, x69, x70, x71, x72, x73)
      else
        if (cop .eql x74 2) = true then
          some (x0, x1, x2, x3, x4, x5, x6, 0, 0, 0, x10, x11, x12, x13, x14, x15, x16, x17, x18, x19, x20, x21, x22, x23, x24, x25, x26, x27, x28, x29, x30, x31, x32, x33, x34, x35, x36, x37, x38, x39, x40, x41, x42, x43, x44, x45, x46, x47, x48, x49, x50, x51, x52, x53, x54, x55, x56, x57, x58, x59, x60, x61, x62, x63, x64, x65, x66, x67, x68, x69, x70, x71, x72, x73)
        else
          if (cop .eql x74 3) = true then
            some (x0, x1, x2, x3, x4, x5, x6, x7, x8, x9, 0, x11, x12, x13, x14, x15, x16, x17, x18, x19, x20, x21, x22, x23, x24, x25, x26, x27, x28, x29, x30, x31, x32, x33, x34, x35, x36, x37, x38, x39, x40, x41, x42, x43, x44, x45, x46, x47, x48, x49, x50, x51, x52, x53, x54, x55, x56, x57, x58, x59, x60, x61, x62, x63, x64, x65, x66, x67, x68, x69, x70, x71, x72, x73)
          else
            if (cop .eql x74 4) = true then
              some (x0, x1, x2, x3, x4, x5, x6, x7, x8, x9, x10, false, x12, x13, x14, x15, x16, x17, x18, x19, x20, x21, x22, x23, x24, x25, x26, x27, x28, x29, x30, x31, x32, x33, x34, x35, x36, x37, x38, x39, x40, x41, x42, x43, x44, x45, x46, x47, x48, x49, x50, x51, x52, x53, x54, x55, x56, x57, x58, x59, x60, x61, x62, x63, x64, x65, x66, x67, x68, x69, x70, x71, x72, x73)
            else
              if (cop .eql x74 5) = true then
                some (x0, x1, x2, x3, x4, x5, x6, x7, x8, x9, x10, x11, x12, x13, x14, x15, x16, x17, x18, x19, x20, x21, x22, x23, x24, x25, x26, x27, x28, x29, x30, x31, x32, x33, x34, x35, x36, x37, x38, x39, x40, ([] : List (List AV)), x42, x43, x44, x45, x46, x47, x48, x49, x50, x51, x52, x53, x54, x55, x56, x57, x58, x59, x60, x61, x62, x63, x64, x65, x66, x67, x68, x69, x70, x71, x72, x73)
              else
                if (cop .eql x74 6) = true then
                  some (x0, x1, x2, x3, x4, x5, 0, x7, x8, x9, x10, x11, x12, x13, x14, x15, x16, x17, x18, x19, x20, x21, x22, x23, x24, x25, x26, x27, x28, x29, x30, x31, x32, x33, x34, x35, x36, x37, x38, x39, x40, x41, x42, x43, x44, x45, x46, x47, x48, x49, x50, x51, x52, x53, x54, x55, x56, x57, x58, x59, x60, x61, x62, x63, x64, x65, x66, x67, x68, x69, x70, x71, x72, x73)
                else
                  if (cop .eql x74 7) = true then
                    some (x0, x1, x2, x3, x4, x5, x6, x7, x8, x9, x10, x11, x12, x13, x14, x15, x16, x17, x18, x19, x20, x21, x22, x23, x24, x25, x26, x27, x28, x29, x30, x31, x32, x33, x34, x35, x36, x37, x38, x39, ([] : List (List AV)), x41, x42, x43, x44, x45, x46, x47, x48, x49, x50, x51, x52, x53, x54, x55, x56, x57, x58, x59, x60, x61, x62, x63, x64, x65, x66, x67, x68, x69, x70, x71, x72, x73)
                  else
                    if (cop .eql x74 8) = true then
                      some (x0, x1, x2, x3, 0, x5, x6, x7, x8, x9, x10, x11, x12, x13, x14, x15, x16, x17, x18, x19, x20, x21, x22, x23, x24, x25, x26, x27, x28, x29, x30, x31, x32, x33, x34, x35, x36, x37, x38, x39, x40, x41, x42, x43, x44, x45, x46, x47, x48, x49, x50, x51, x52, x53, x54, x55, x56, x57, x58, x59, x60, x61, x62, x63, x64, x65, x66, x67, x68, x69, x70, x71, x72, x73)
                    else
                      if (cop .eql x74 9) = true then
                        some (x0, x1, x2, x3, x4, x5, x6, x7, x8, x9, x10, x11, x12, x13, x14, x15, x16, x17, x18, x19, x20, x21, x22, x23, x24, x25, x26, x27, x28, x29, x30, x31, x32, x33, x34, x35, x36, x37, x38, x39, x40, x41, ([] : List (List AV)), x43, x44, x45, x46, x47, x48, x49, x50, x51, x52, x53, x54, x55, x56, x57, x58, x59, x60, x61, x62, x63, x64, x65, x66, x67, x68, x69, x70, x71, x72, x73)
                      else
                        if (cop .eql x74 10) = true then
                          some (x0, x1, x2, x3, x4, x5, x6, x7, x8, x9, x10, x11, x12, x13, x14, x15, x16, x17, x18, x19, x20, x21, x22, x23, x24, x25, x26, x27, x28, x29, x30, x31, x32, x33, x34, x35, x36, x37, x38, x39, x40, x41, x42, x43, x44, x45, x46, x47, x48, x49, x50, x51, x52, x53, 0, 0, ([] : List (List AV)), ([] : List (List AV)), ([] : List (List AV)), ([] : List (List AV)), ([] : List (List AV)), ([] : List (List AV)), ([] : List (List AV)), ([] : List (List AV)), false, 0, ([] : List (List AV)), ([] : List (List AV)), ([] : List (List AV)), ([] : List (List AV)), ([] : List (List AV)), ([] : List (List AV)), ([] : List (List AV)), ([] : List (List AV)))
                        else
                          if (cop .eql x74 11) = true then
                            some (x0, x1, x2, x3, x4, x5, x6, x7, x8, x9, x10, x11, x12, x13, x14, x15, x16, x17, x18, x19, x20, x21, x22, x23, x24, x25, x26, x27, x28, x29, x30, x31, x32, x33, x34, x35, x36, x37, x38, x39, x40, x41, x42, x43, 0, x45, x46, x47, x48, x49, x50, x51, x52, x53, x54, x55, x56, x57, x58, x59, x60, x61, x62, x63, x64, x65, x66, x67, x68, x69, x70, x71, x72, x73)
                          else
                            if (cop .eql x74 12) = true then
                              some (x0, x1, x2, x3, x4, x5, x6, x7, x8, x9, x10, x11, x12, x13, x14, x15, x16, x17, x18, x19, x20, x21, x22, x23, x24, x25, x26, x27, x28, x29, x30, x31, x32, x33, x34, x35, x36, x37, x38, x39, x40, x41, x42, x43, x44, 0, ([] : List (List AV)), ([] : List (List AV)), x48, x49, x50, x51, x52, x53, x54, x55, x56, x57, x58, x59, x60, x61, x62, x63, x64, x65, x66, x67, x68, x69, x70, x71, x72, x73)
                            else
                              if (cop .eql x74 13) = true then
                                some (x0, x1, x2, x3, x4, x5, x6, x7, x8, x9, x10, x11, x12, x13, x14, x15, x16, x17, x18, x19, x20, x21, x22, x23, x24, x25, x26, x27, x28, x29, x30, x31, x32, x33, x34, x35, x36, x37, x38, x39, x40, x41, x42, x43, x44, x45, x46, x47, ([] : List (List AV)), ([] : List (List AV)), ([] : List (List AV)), ([] : List (List AV)), ([] : List (List AV)), ([] : List (List AV)), x54, x55, x56, x57, x58, x59, x60, x61, x62, x63, x64, x65, x66, x67, x68, x69, x70, x71, x72, x73)
                              else
                                if (cop .eql x74 14) = true then
                                  some (x0, x1, x2, x3, x4, x5, x6, x7, x8, x9, x10, x11, x12, x13, x14, x15, x16, x17, x18, x19, x20, x21, x22, x23, x24, x25, x26, x27, x28, x29, x30, x31, x32, x33, x34, x35, x36, x37, x38, x39, x40, x41, x42, ([] : List (List AV)), x44, x45, x46, x47, x48, x49, x50, x51, x52, x53, x54, x55, x56, x57, x58, x59, x60, x61, x62, x63, x64, x65, x66, x67, x68, x69, x70, x71, x72, x73)
                                else
                                  some (x0, x1, x2, x3, x4, x5, x6, x7, x8, x9, x10, x11, x12, x13, x14, x15, x16, x17, x18, x19, x20, x21, x22, x23, x24, x25, x26, x27, x28, x29, x30, x31, x32, x33, x34, x35, x36, x37, x38, x39, x40, x41, x42, x43, x44, x45, x46, x47, x48, x49, x50, x51, x52, x53, x54, x55, x56, x57, x58, x59, x60, x61, x62, x63, x64, x65, x66, x67, x68, x69, x70, x71, x72, x73)) := by kernel_rfl

/- multikernel/wire.zeroRequest -/
def E100 : Env := envG 29 [2] [] [] 0
def A100 : List AP := [.agg hs4]
def R100 : List RSh := [.c (.bool)]
noncomputable def T100 : STree := evFn Tryz.prog E100 Tryz.f100 (argsAt A100 0) 28
noncomputable def P100 : List (FuncId × Fun) := [(49, S49)]
noncomputable def S100 : Fun := ⟨A100, R100, fun vs => T100.run Tryz.prog P100 A100 R100 (fun _ _ => none) (envL vs)⟩
theorem ok100 : S100.Ok Tryz.prog 100 := fun_ok (Φ := P100) (S := S100) mixed plain_ok Tryz.func100 (by kernel_rfl) (by kernel_rfl) (by kernel_rfl) (T := T100) rfl (And.intro ok49 trivial) (fun _ => by kernel_rfl)
noncomputable def g100 (x0 x1 x2 x3 x4 x5 x6 x7 x8 x9 x10 x11 x12 x13 x14 x15 x16 x17 x18 x19 : Int) (x20 : List (List AV)) (x21 x22 x23 x24 x25 x26 : Int) (x27 : Bool) : Option (Bool) := S100.g [.i x0, .i x1, .i x2, .i x3, .i x4, .i x5, .i x6, .i x7, .i x8, .i x9, .i x10, .i x11, .i x12, .i x13, .i x14, .i x15, .i x16, .i x17, .i x18, .i x19, .l x20, .i x21, .i x22, .i x23, .i x24, .i x25, .i x26, .b x27]
theorem g100_eq (x0 x1 x2 x3 x4 x5 x6 x7 x8 x9 x10 x11 x12 x13 x14 x15 x16 x17 x18 x19 : Int) (x20 : List (List AV)) (x21 x22 x23 x24 x25 x26 : Int) (x27 : Bool) : g100 x0 x1 x2 x3 x4 x5 x6 x7 x8 x9 x10 x11 x12 x13 x14 x15 x16 x17 x18 x19 x20 x21 x22 x23 x24 x25 x26 x27 =
    (if ((cop .eql x0 0) && ((cop .eql x1 0) && ((cop .eql x2 0) && true))) = true then
      if ((cop .eql x3 0) && ((cop .eql x4 0) && ((cop .eql x5 0) && ((cop .eql x6 0) && ((cop .eql x7 0) && ((cop .eql x8 0) && ((cop .eql x9 0) && ((cop .eql x10 0) && ((cop .eql x11 0) && ((cop .eql x12 0) && ((cop .eql x13 0) && ((cop .eql x14 0) && true)))))))))))) = true then
        if (cop .eql x15 0) = true then
          if (cop .eql x16 0) = true then
            (g49 x17 x18 x19 x20 x21 x22 x23 x24 x25 x26 x27 0 0 0 ([] : List (List AV)) 0 0 0 0 0 0 false).bind fun (r28 : Bool) =>
            some (r28)
          else
            some (false)
        else
          some (false)
      else
        some (false)
    else
      some (false)) := by kernel_rfl

/- multikernel/wire.zeroView -/
def E101 : Env := envG 18 [2] [] [] 0
def A101 : List AP := [.agg [.int .i64, .slice 1, .slice 1]]
def R101 : List RSh := [.c (.bool)]
noncomputable def T101 : STree := evFn Tryz.prog E101 Tryz.f101 (argsAt A101 0) 3
noncomputable def P101 : List (FuncId × Fun) := []
noncomputable def S101 : Fun := ⟨A101, R101, fun vs => T101.run Tryz.prog P101 A101 R101 (fun _ _ => none) (envL vs)⟩
theorem ok101 : S101.Ok Tryz.prog 101 := fun_ok (Φ := P101) (S := S101) mixed plain_ok Tryz.func101 (by kernel_rfl) (by kernel_rfl) (by kernel_rfl) (T := T101) rfl trivial (fun _ => by kernel_rfl)
noncomputable def g101 (x0 : Int) (x1 x2 : List (List AV)) : Option (Bool) := S101.g [.i x0, .l x1, .l x2]
theorem g101_eq (x0 : Int) (x1 x2 : List (List AV)) : g101 x0 x1 x2 =
    (if (cop .eql x0 0) = true then
      if (cop .eql (List.length x1 : Int) 0) = true then
        some ((cop .eql (List.length x2 : Int) 0))
      else
        some (false)
    else
      some (false)) := by kernel_rfl

/- multikernel/wire.zeroState -/
def E102 : Env := envG 37 [2] [] [] 0
def A102 : List AP := [.agg hs15]
def R102 : List RSh := [.c (.bool)]
noncomputable def T102 : STree := evFn Tryz.prog E102 Tryz.f102 (argsAt A102 0) 6
noncomputable def P102 : List (FuncId × Fun) := []
noncomputable def S102 : Fun := ⟨A102, R102, fun vs => T102.run Tryz.prog P102 A102 R102 (fun _ _ => none) (envL vs)⟩
theorem ok102 : S102.Ok Tryz.prog 102 := fun_ok (Φ := P102) (S := S102) mixed plain_ok Tryz.func102 (by kernel_rfl) (by kernel_rfl) (by kernel_rfl) (T := T102) rfl trivial (fun _ => by kernel_rfl)
noncomputable def g102 (x0 x1 x2 x3 x4 x5 : List (List AV)) : Option (Bool) := S102.g [.l x0, .l x1, .l x2, .l x3, .l x4, .l x5]
theorem g102_eq (x0 x1 x2 x3 x4 x5 : List (List AV)) : g102 x0 x1 x2 x3 x4 x5 =
    (if (cop .eql (List.length x0 : Int) 0) = true then
      if (cop .eql (List.length x1 : Int) 0) = true then
        if (cop .eql (List.length x2 : Int) 0) = true then
          if (cop .eql (List.length x3 : Int) 0) = true then
            if (cop .eql (List.length x4 : Int) 0) = true then
              some ((cop .eql (List.length x5 : Int) 0))
            else
              some (false)
          else
            some (false)
        else
          some (false)
      else
        some (false)
    else
      some (false)) := by kernel_rfl

/- multikernel/wire.zeroReport -/
def E103 : Env := envG 31 [2] [] [] 0
def A103 : List AP := [.agg hs5]
def R103 : List RSh := [.c (.bool)]
noncomputable def T103 : STree := evFn Tryz.prog E103 Tryz.f103 (argsAt A103 0) 20
noncomputable def P103 : List (FuncId × Fun) := [(101, S101), (102, S102)]
noncomputable def S103 : Fun := ⟨A103, R103, fun vs => T103.run Tryz.prog P103 A103 R103 (fun _ _ => none) (envL vs)⟩
theorem ok103 : S103.Ok Tryz.prog 103 := fun_ok (Φ := P103) (S := S103) mixed plain_ok Tryz.func103 (by kernel_rfl) (by kernel_rfl) (by kernel_rfl) (T := T103) rfl (And.intro ok101 (And.intro ok102 trivial)) (fun _ => by kernel_rfl)
noncomputable def g103 (x0 x1 : Int) (x2 x3 x4 x5 x6 x7 x8 x9 : List (List AV)) (x10 : Bool) (x11 : Int) (x12 x13 x14 x15 x16 x17 x18 x19 : List (List AV)) : Option (Bool) := S103.g [.i x0, .i x1, .l x2, .l x3, .l x4, .l x5, .l x6, .l x7, .l x8, .l x9, .b x10, .i x11, .l x12, .l x13, .l x14, .l x15, .l x16, .l x17, .l x18, .l x19]
theorem g103_eq (x0 x1 : Int) (x2 x3 x4 x5 x6 x7 x8 x9 : List (List AV)) (x10 : Bool) (x11 : Int) (x12 x13 x14 x15 x16 x17 x18 x19 : List (List AV)) : g103 x0 x1 x2 x3 x4 x5 x6 x7 x8 x9 x10 x11 x12 x13 x14 x15 x16 x17 x18 x19 =
    (if (cop .eql x0 0) = true then
      (g101 x1 x2 x3).bind fun (r20 : Bool) =>
      if r20 = true then
        (g102 x4 x5 x6 x7 x8 x9).bind fun (r21 : Bool) =>
        if r21 = true then
          if (!x10) = true then
            (g101 x11 x12 x13).bind fun (r22 : Bool) =>
            if r22 = true then
              (g102 x14 x15 x16 x17 x18 x19).bind fun (r23 : Bool) =>
              some (r23)
            else
              some (false)
          else
            some (false)
        else
          some (false)
      else
        some (false)
    else
      some (false)) := by kernel_rfl

/- multikernel/wire.zeroBody -/
def E35 : Env := envG 81 [2] [] [] 0
def A35 : List AP := [.agg hs0]
def R35 : List RSh := [.c (.bool)]
noncomputable def T35 : STree := evFn Tryz.prog E35 Tryz.f35 (argsAt A35 0) 74
noncomputable def P35 : List (FuncId × Fun) := [(100, S100), (101, S101), (102, S102), (103, S103)]
noncomputable def S35 : Fun := ⟨A35, R35, fun vs => T35.run Tryz.prog P35 A35 R35 (fun _ _ => none) (envL vs)⟩
theorem ok35 : S35.Ok Tryz.prog 35 := fun_ok (Φ := P35) (S := S35) mixed plain_ok Tryz.func35 (by kernel_rfl) (by kernel_rfl) (by kernel_rfl) (T := T35) rfl (And.intro ok100 (And.intro ok101 (And.intro ok102 (And.intro ok103 trivial)))) (fun _ => by kernel_rfl)
noncomputable def g35 (x0 x1 x2 x3 x4 x5 x6 x7 x8 x9 x10 : Int) (x11 : Bool) (x12 x13 x14 x15 x16 x17 x18 x19 x20 x21 x22 x23 x24 x25 x26 x27 x28 x29 x30 x31 : Int) (x32 : List (List AV)) (x33 x34 x35 x36 x37 x38 : Int) (x39 : Bool) (x40 x41 x42 x43 : List (List AV)) (x44 x45 : Int) (x46 x47 x48 x49 x50 x51 x52 x53 : List (List AV)) (x54 x55 : Int) (x56 x57 x58 x59 x60 x61 x62 x63 : List (List AV)) (x64 : Bool) (x65 : Int) (x66 x67 x68 x69 x70 x71 x72 x73 : List (List AV)) : Option (Bool) := S35.g [.i x0, .i x1, .i x2, .i x3, .i x4, .i x5, .i x6, .i x7, .i x8, .i x9, .i x10, .b x11, .i x12, .i x13, .i x14, .i x15, .i x16, .i x17, .i x18, .i x19, .i x20, .i x21, .i x22, .i x23, .i x24, .i x25, .i x26, .i x27, .i x28, .i x29, .i x30, .i x31, .l x32, .i x33, .i x34, .i x35, .i x36, .i x37, .i x38, .b x39, .l x40, .l x41, .l x42, .l x43, .i x44, .i x45, .l x46, .l x47, .l x48, .l x49, .l x50, .l x51, .l x52, .l x53, .i x54, .i x55, .l x56, .l x57, .l x58, .l x59, .l x60, .l x61, .l x62, .l x63, .b x64, .i x65, .l x66, .l x67, .l x68, .l x69, .l x70, .l x71, .l x72, .l x73]
theorem g35_eq (x0 x1 x2 x3 x4 x5 x6 x7 x8 x9 x10 : Int) (x11 : Bool) (x12 x13 x14 x15 x16 x17 x18 x19 x20 x21 x22 x23 x24 x25 x26 x27 x28 x29 x30 x31 : Int) (x32 : List (List AV)) (x33 x34 x35 x36 x37 x38 : Int) (x39 : Bool) (x40 x41 x42 x43 : List (List AV)) (x44 x45 : Int) (x46 x47 x48 x49 x50 x51 x52 x53 : List (List AV)) (x54 x55 : Int) (x56 x57 x58 x59 x60 x61 x62 x63 : List (List AV)) (x64 : Bool) (x65 : Int) (x66 x67 x68 x69 x70 x71 x72 x73 : List (List AV)) : g35 x0 x1 x2 x3 x4 x5 x6 x7 x8 x9 x10 x11 x12 x13 x14 x15 x16 x17 x18 x19 x20 x21 x22 x23 x24 x25 x26 x27 x28 x29 x30 x31 x32 x33 x34 x35 x36 x37 x38 x39 x40 x41 x42 x43 x44 x45 x46 x47 x48 x49 x50 x51 x52 x53 x54 x55 x56 x57 x58 x59 x60 x61 x62 x63 x64 x65 x66 x67 x68 x69 x70 x71 x72 x73 =
    (if (cop .eql x4 0) = true then
      if (cop .eql x5 0) = true then
        if (cop .eql x6 0) = true then
          if ((cop .eql x7 0) && ((cop .eql x8 0) && ((cop .eql x9 0) && true))) = true then
            if (cop .eql x10 0) = true then
              if (!x11) = true then
                (g100 x12 x13 x14 x15 x16 x17 x18 x19 x20 x21 x22 x23 x24 x25 x26 x27 x28 x29 x30 x31 x32 x33 x34 x35 x36 x37 x38 x39).bind fun (r74 : Bool) =>
                if r74 = true then
                  if (cop .eql (List.length x40 : Int) 0) = true then
                    if (cop .eql (List.length x41 : Int) 0) = true then
                      if (cop .eql (List.length x42 : Int) 0) = true then
                        if (cop .eql (List.length x43 : Int) 0) = true then
                          if (cop .eql x44 0) = true then
                            (g101 x45 x46 x47).bind fun (r75 : Bool) =>
                            if r75 = true then
                              (g102 x48 x49 x50 x51 x52 x53).bind fun (r76 : Bool) =>
                              if r76 = true then
                                (g103 x54 x55 x56 x57 x58 x59 x60 x61 x62 x63 x64 x65 x66 x67 x68 x69 x70 x71 x72 x73).bind fun (r77 : Bool) =>
                                some (r77)
                              else
                                some (false)
                            else
                              some (false)
                          else
                            some (false)
                        else
                          some (false)
                      else
                        some (false)
                    else
                      some (false)
                  else
                    some (false)
                else
                  some (false)
              else
                some (false)
            else
              some (false)
          else
            some (false)
        else
          some (false)
      else
        some (false)
    else
      some (false)) := by kernel_rfl

/- multikernel/wire.Valid -/
def E9 : Env := envG 50 [2] [(6, [(1, .box hs0), (5, .box hs0), (35, .c (.slice 1)), (36, .c (.int .i64)), (37, .c (.int .i64))])] [] 0
def A9 : List AP := [.agg hs0]
def R9 : List RSh := [.c (.bool)]
noncomputable def T9 : STree := evFn Tryz.prog E9 Tryz.f9 (argsAt A9 0) 74
noncomputable def T9L0 : STree := T9.go [0, 1, 0, 1, 0, 1, 0, 1, 0]
noncomputable def P9 : List (FuncId × Fun) := [(19, S19), (31, S31), (32, S32), (33, S33), (34, S34), (35, S35)]
noncomputable def S9 : Fun := ⟨A9, R9, fun vs => T9.run Tryz.prog P9 A9 R9 (fun _ _ => none) (envL vs)⟩
theorem ok9 : S9.Ok Tryz.prog 9 := fun_ok (Φ := P9) (S := S9) mixed plain_ok Tryz.func9 (by kernel_rfl) (by kernel_rfl) (by kernel_rfl) (T := T9) rfl (And.intro ok19 (And.intro ok31 (And.intro ok32 (And.intro ok33 (And.intro ok34 (And.intro ok35 trivial)))))) (fun _ => by kernel_rfl)
noncomputable def g9 (x0 x1 x2 x3 x4 x5 x6 x7 x8 x9 x10 : Int) (x11 : Bool) (x12 x13 x14 x15 x16 x17 x18 x19 x20 x21 x22 x23 x24 x25 x26 x27 x28 x29 x30 x31 : Int) (x32 : List (List AV)) (x33 x34 x35 x36 x37 x38 : Int) (x39 : Bool) (x40 x41 x42 x43 : List (List AV)) (x44 x45 : Int) (x46 x47 x48 x49 x50 x51 x52 x53 : List (List AV)) (x54 x55 : Int) (x56 x57 x58 x59 x60 x61 x62 x63 : List (List AV)) (x64 : Bool) (x65 : Int) (x66 x67 x68 x69 x70 x71 x72 x73 : List (List AV)) : Option (Bool) := S9.g [.i x0, .i x1, .i x2, .i x3, .i x4, .i x5, .i x6, .i x7, .i x8, .i x9, .i x10, .b x11, .i x12, .i x13, .i x14, .i x15, .i x16, .i x17, .i x18, .i x19, .i x20, .i x21, .i x22, .i x23, .i x24, .i x25, .i x26, .i x27, .i x28, .i x29, .i x30, .i x31, .l x32, .i x33, .i x34, .i x35, .i x36, .i x37, .i x38, .b x39, .l x40, .l x41, .l x42, .l x43, .i x44, .i x45, .l x46, .l x47, .l x48, .l x49, .l x50, .l x51, .l x52, .l x53, .i x54, .i x55, .l x56, .l x57, .l x58, .l x59, .l x60, .l x61, .l x62, .l x63, .b x64, .i x65, .l x66, .l x67, .l x68, .l x69, .l x70, .l x71, .l x72, .l x73]
noncomputable def g9L0 (k : Nat) (x0 x1 x2 x3 x4 x5 x6 x7 x8 x9 x10 : Int) (x11 : Bool) (x12 x13 x14 x15 x16 x17 x18 x19 x20 x21 x22 x23 x24 x25 x26 x27 x28 x29 x30 x31 : Int) (x32 : List (List AV)) (x33 x34 x35 x36 x37 x38 : Int) (x39 : Bool) (x40 x41 x42 x43 : List (List AV)) (x44 x45 : Int) (x46 x47 x48 x49 x50 x51 x52 x53 : List (List AV)) (x54 x55 : Int) (x56 x57 x58 x59 x60 x61 x62 x63 : List (List AV)) (x64 : Bool) (x65 : Int) (x66 x67 x68 x69 x70 x71 x72 x73 : List (List AV)) (x74 x75 x76 x77 x78 x79 x80 x81 x82 x83 x84 : Int) (x85 : Bool) (x86 x87 x88 x89 x90 x91 x92 x93 x94 x95 x96 x97 x98 x99 x100 x101 x102 x103 x104 x105 : Int) (x106 : List (List AV)) (x107 x108 x109 x110 x111 x112 : Int) (x113 : Bool) (x114 x115 x116 x117 : List (List AV)) (x118 x119 : Int) (x120 x121 x122 x123 x124 x125 x126 x127 : List (List AV)) (x128 x129 : Int) (x130 x131 x132 x133 x134 x135 x136 x137 : List (List AV)) (x138 : Bool) (x139 : Int) (x140 x141 x142 x143 x144 x145 x146 x147 x148 : List (List AV)) (x149 x150 : Int) : Option (Bool) := iterL (fun rec vs => STree.run Tryz.prog P9 A9 R9 T9L0 (updR (fun _ _ => none) 0 rec) (bind zeroE 0 vs)) k [.i x0, .i x1, .i x2, .i x3, .i x4, .i x5, .i x6, .i x7, .i x8, .i x9, .i x10, .b x11, .i x12, .i x13, .i x14, .i x15, .i x16, .i x17, .i x18, .i x19, .i x20, .i x21, .i x22, .i x23, .i x24, .i x25, .i x26, .i x27, .i x28, .i x29, .i x30, .i x31, .l x32, .i x33, .i x34, .i x35, .i x36, .i x37, .i x38, .b x39, .l x40, .l x41, .l x42, .l x43, .i x44, .i x45, .l x46, .l x47, .l x48, .l x49, .l x50, .l x51, .l x52, .l x53, .i x54, .i x55, .l x56, .l x57, .l x58, .l x59, .l x60, .l x61, .l x62, .l x63, .b x64, .i x65, .l x66, .l x67, .l x68, .l x69, .l x70, .l x71, .l x72, .l x73, .i x74, .i x75, .i x76, .i x77, .i x78, .i x79, .i x80, .i x81, .i x82, .i x83, .i x84, .b x85, .i x86, .i x87, .i x88, .i x89, .i x90, .i x91, .i x92, .i x93, .i x94, .i x95, .i x96, .i x97, .i x98, .i x99, .i x100, .i x101, .i x102, .i x103, .i x104, .i x105, .l x106, .i x107, .i x108, .i x109, .i x110, .i x111, .i x112, .b x113, .l x114, .l x115, .l x116, .l x117, .i x118, .i x119, .l x120, .l x121, .l x122, .l x123, .l x124, .l x125, .l x126, .l x127, .i x128, .i x129, .l x130, .l x131, .l x132, .l x133, .l x134, .l x135, .l x136, .l x137, .b x138, .i x139, .l x140, .l x141, .l x142, .l x143, .l x144, .l x145, .l x146, .l x147, .l x148, .i x149, .i x150]
theorem g9L0_eq (k : Nat) (x0 x1 x2 x3 x4 x5 x6 x7 x8 x9 x10 : Int) (x11 : Bool) (x12 x13 x14 x15 x16 x17 x18 x19 x20 x21 x22 x23 x24 x25 x26 x27 x28 x29 x30 x31 : Int) (x32 : List (List AV)) (x33 x34 x35 x36 x37 x38 : Int) (x39 : Bool) (x40 x41 x42 x43 : List (List AV)) (x44 x45 : Int) (x46 x47 x48 x49 x50 x51 x52 x53 : List (List AV)) (x54 x55 : Int) (x56 x57 x58 x59 x60 x61 x62 x63 : List (List AV)) (x64 : Bool) (x65 : Int) (x66 x67 x68 x69 x70 x71 x72 x73 : List (List AV)) (x74 x75 x76 x77 x78 x79 x80 x81 x82 x83 x84 : Int) (x85 : Bool) (x86 x87 x88 x89 x90 x91 x92 x93 x94 x95 x96 x97 x98 x99 x100 x101 x102 x103 x104 x105 : Int) (x106 : List (List AV)) (x107 x108 x109 x110 x111 x112 : Int) (x113 : Bool) (x114 x115 x116 x117 : List (List AV)) (x118 x119 : Int) (x120 x121 x122 x123 x124 x125 x126 x127 : List (List AV)) (x128 x129 : Int) (x130 x131 x132 x133 x134 x135 x136 x137 : List (List AV)) (x138 : Bool) (x139 : Int) (x140 x141 x142 x143 x144 x145 x146 x147 x148 : List (List AV)) (x149 x150 : Int) : g9L0 (k + 1) x0 x1 x2 x3 x4 x5 x6 x7 x8 x9 x10 x11 x12 x13 x14 x15 x16 x17 x18 x19 x20 x21 x22 x23 x24 x25 x26 x27 x28 x29 x30 x31 x32 x33 x34 x35 x36 x37 x38 x39 x40 x41 x42 x43 x44 x45 x46 x47 x48 x49 x50 x51 x52 x53 x54 x55 x56 x57 x58 x59 x60 x61 x62 x63 x64 x65 x66 x67 x68 x69 x70 x71 x72 x73 x74 x75 x76 x77 x78 x79 x80 x81 x82 x83 x84 x85 x86 x87 x88 x89 x90 x91 x92 x93 x94 x95 x96 x97 x98 x99 x100 x101 x102 x103 x104 x105 x106 x107 x108 x109 x110 x111 x112 x113 x114 x115 x116 x117 x118 x119 x120 x121 x122 x123 x124 x125 x126 x127 x128 x129 x130 x131 x132 x133 x134 x135 x136 x137 x138 x139 x140 x141 x142 x143 x144 x145 x146 x147 x148 x149 x150 =
    (if (cop .lss x150 x149) = true then
      elemK x148 x150 [.int .i64] fun (r151 : Int) =>
      (g33 x0 x1 x2 x3 x4 x5 x6 x7 x8 x9 x10 x11 x12 x13 x14 x15 x16 x17 x18 x19 x20 x21 x22 x23 x24 x25 x26 x27 x28 x29 x30 x31 x32 x33 x34 x35 x36 x37 x38 x39 x40 x41 x42 x43 x44 x45 x46 x47 x48 x49 x50 x51 x52 x53 x54 x55 x56 x57 x58 x59 x60 x61 x62 x63 x64 x65 x66 x67 x68 x69 x70 x71 x72 x73 r151).bind fun (r152 : Bool) =>
      if (!r152) = true then
        some (false)
      else
        (g34 x74 x75 x76 x77 x78 x79 x80 x81 x82 x83 x84 x85 x86 x87 x88 x89 x90 x91 x92 x93 x94 x95 x96 x97 x98 x99 x100 x101 x102 x103 x104 x105 x106 x107 x108 x109 x110 x111 x112 x113 x114 x115 x116 x117 x118 x119 x120 x121 x122 x123 x124 x125 x126 x127 x128 x129 x130 x131 x132 x133 x134 x135 x136 x137 x138 x139 x140 x141 x142 x143 x144 x145 x146 x147 r151).bind fun (r153 : Qt3) =>
        g9L0 k x0 x1 x2 x3 x4 x5 x6 x7 x8 x9 x10 x11 x12 x13 x14 x15 x16 x17 x18 x19 x20 x21 x22 x23 x24 x25 x26 x27 x28 x29 x30 x31 x32 x33 x34 x35 x36 x37 x38 x39 x40 x41 x42 x43 x44 x45 x46 x47 x48 x49 x50 x51 x52 x53 x54 x55 x56 x57 x58 x59 x60 x61 x62 x63 x64 x65 x66 x67 x68 x69 x70 x71 x72 x73 r153.1 r153.2.1 r153.2.2.1 r153.2.2.2.1 r153.2.2.2.2.1 r153.2.2.2.2.2.1 r153.2.2.2.2.2.2.1 r153.2.2.2.2.2.2.2.1 r153.2.2.2.2.2.2.2.2.1 r153.2.2.2.2.2.2.2.2.2.1 r153.2.2.2.2.2.2.2.2.2.2.1 r153.2.2.2.2.2.2.2.2.2.2.2.1 (d4 (d8 r153)).1 (d4 (d8 r153)).2.1 (d2 (d4 (d8 r153))).1 (d2 (d4 (d8 r153))).2.1 (d16 r153).1 (d16 r153).2.1 (d2 (d16 r153)).1 (d2 (d16 r153)).2.1 (d4 (d16 r153)).1 (d4 (d16 r153)).2.1 (d2 (d4 (d16 r153))).1 (d2 (d4 (d16 r153))).2.1 (d8 (d16 r153)).1 (d8 (d16 r153)).2.1 (d2 (d8 (d16 r153))).1 (d2 (d8 (d16 r153))).2.1 (d4 (d8 (d16 r153))).1 (d4 (d8 (d16 r153))).2.1 (d2 (d4 (d8 (d16 r153)))).1 (d2 (d4 (d8 (d16 r153)))).2.1 (d16 (d16 r153)).1 (d16 (d16 r153)).2.1 (d2 (d16 (d16 r153))).1 (d2 (d16 (d16 r153))).2.1 (d4 (d16 (d16 r153))).1 (d4 (d16 (d16 r153))).2.1 (d2 (d4 (d16 (d16 r153)))).1 (d2 (d4 (d16 (d16 r153)))).2.1 (d8 (d16 (d16 r153))).1 (d8 (d16 (d16 r153))).2.1 (d2 (d8 (d16 (d16 r153)))).1 (d2 (d8 (d16 (d16 r153)))).2.1 (d4 (d8 (d16 (d16 r153)))).1 (d4 (d8 (d16 (d16 r153)))).2.1 (d2 (d4 (d8 (d16 (d16 r153))))).1 (d2 (d4 (d8 (d16 (d16 r153))))).2.1 (d16 (d16 (d16 r153))).1 (d16 (d16 (d16 r153))).2.1 (d2 (d16 (d16 (d16 r153)))).1 (d2 (d16 (d16 (d16 r153)))).2.1 (d4 (d16 (d16 (d16 r153)))).1 (d4 (d16 (d16 (d16 r153)))).2.1 (d2 (d4 (d16 (d16 (d16 r153))))).1 (d2 (d4 (d16 (d16 (d16 r153))))).2.1 (d8 (d16 (d16 (d16 r153)))).1 (d8 (d16 (d16 (d16 r153)))).2.1 (d2 (d8 (d16 (d16 (d16 r153))))).1 (d2 (d8 (d16 (d16 (d16 r153))))).2.1 (d4 (d8 (d16 (d16 (d16 r153))))).1 (d4 (d8 (d16 (d16 (d16 r153))))).2.1 (d2 (d4 (d8 (d16 (d16 (d16 r153)))))).1 (d2 (d4 (d8 (d16 (d16 (d16 r153)))))).2.1 (d16 (d16 (d16 (d16 r153)))).1 (d16 (d16 (d16 (d16 r153)))).2.1 (d2 (d16 (d16 (d16 (d16 r153))))).1 (d2 (d16 (d16 (d16 (d16 r153))))).2.1 (d4 (d16 (d16 (d16 (d16 r153))))).1 (d4 (d16 (d16 (d16 (d16 r153))))).2.1 (d2 (d4 (d16 (d16 (d16 (d16 r153)))))).1 (d2 (d4 (d16 (d16 (d16 (d16 r153)))))).2.1 (d8 (d16 (d16 (d16 (d16 r153))))).1 (d8 (d16 (d16 (d16 (d16 r153))))).2 x148 x149 (iop .add .i64 x150 1)
    else
      (g35 x74 x75 x76 x77 x78 x79 x80 x81 x82 x83 x84 x85 x86 x87 x88 x89 x90 x91 x92 x93 x94 x95 x96 x97 x98 x99 x100 x101 x102 x103 x104 x105 x106 x107 x108 x109 x110 x111 x112 x113 x114 x115 x116 x117 x118 x119 x120 x121 x122 x123 x124 x125 x126 x127 x128 x129 x130 x131 x132 x133 x134 x135 x136 x137 x138 x139 x140 x141 x142 x143 x144 x145 x146 x147).bind fun (r151 : Bool) =>
      some (r151)) := by kernel_rfl
theorem g9_eq (x0 x1 x2 x3 x4 x5 x6 x7 x8 x9 x10 : Int) (x11 : Bool) (x12 x13 x14 x15 x16 x17 x18 x19 x20 x21 x22 x23 x24 x25 x26 x27 x28 x29 x30 x31 : Int) (x32 : List (List AV)) (x33 x34 x35 x36 x37 x38 : Int) (x39 : Bool) (x40 x41 x42 x43 : List (List AV)) (x44 x45 : Int) (x46 x47 x48 x49 x50 x51 x52 x53 : List (List AV)) (x54 x55 : Int) (x56 x57 x58 x59 x60 x61 x62 x63 : List (List AV)) (x64 : Bool) (x65 : Int) (x66 x67 x68 x69 x70 x71 x72 x73 : List (List AV)) : g9 x0 x1 x2 x3 x4 x5 x6 x7 x8 x9 x10 x11 x12 x13 x14 x15 x16 x17 x18 x19 x20 x21 x22 x23 x24 x25 x26 x27 x28 x29 x30 x31 x32 x33 x34 x35 x36 x37 x38 x39 x40 x41 x42 x43 x44 x45 x46 x47 x48 x49 x50 x51 x52 x53 x54 x55 x56 x57 x58 x59 x60 x61 x62 x63 x64 x65 x66 x67 x68 x69 x70 x71 x72 x73 =
    ((g19 x0).bind fun (r74 : List (List AV) × Bool) =>
    if (!r74.2) = true then
      some (false)
    else
      (g31 x1).bind fun (r76 : Bool) =>
      if (!r76) = true then
        some (false)
      else
        (g32 x2).bind fun (r77 : Bool) =>
        if (!r77) = true then
          some (false)
        else
          (g32 x3).bind fun (r78 : Bool) =>
          if (!r78) = true then
            some (false)
          else
            g9L0 FUEL x0 x1 x2 x3 x4 x5 x6 x7 x8 x9 x10 x11 x12 x13 x14 x15 x16 x17 x18 x19 x20 x21 x22 x23 x24 x25 x26 x27 x28 x29 x30 x31 x32 x33 x34 x35 x36 x37 x38 x39 x40 x41 x42 x43 x44 x45 x46 x47 x48 x49 x50 x51 x52 x53 x54 x55 x56 x57 x58 x59 x60 x61 x62 x63 x64 x65 x66 x67 x68 x69 x70 x71 x72 x73 x0 x1 x2 x3 x4 x5 x6 x7 x8 x9 x10 x11 x12 x13 x14 x15 x16 x17 x18 x19 x20 x21 x22 x23 x24 x25 x26 x27 x28 x29 x30 x31 x32 x33 x34 x35 x36 x37 x38 x39 x40 x41 x42 x43 x44 x45 x46 x47 x48 x49 x50 x51 x52 x53 x54 x55 x56 x57 x58 x59 x60 x61 x62 x63 x64 x65 x66 x67 x68 x69 x70 x71 x72 x73 r74.1 (List.length r74.1 : Int) 0) := by kernel_rfl

/- multikernel/multikernelref18.number -/
def E36 : Env := envG 9 [2] [] [] 0
def A36 : List AP := [.c (.int .i64)]
def R36 : List RSh := [.c (.bool)]
noncomputable def T36 : STree := evFn Tryz.prog E36 Tryz.f36 (argsAt A36 0) 1
noncomputable def P36 : List (FuncId × Fun) := []
noncomputable def S36 : Fun := ⟨A36, R36, fun vs => T36.run Tryz.prog P36 A36 R36 (fun _ _ => none) (envL vs)⟩
theorem ok36 : S36.Ok Tryz.prog 36 := fun_ok (Φ := P36) (S := S36) mixed plain_ok Tryz.func36 (by kernel_rfl) (by kernel_rfl) (by kernel_rfl) (T := T36) rfl trivial (fun _ => by kernel_rfl)
noncomputable def g36 (x0 : Int) : Option (Bool) := S36.g [.i x0]
theorem g36_eq (x0 : Int) : g36 x0 =
    (if (cop .geq x0 0) = true then
      some ((cop .leq x0 1073741824))
    else
      some (false)) := by kernel_rfl

/- multikernel/multikernelref18.cores -/
def E41 : Env := envG 32 [2] [(2, [(0, .c (.slice 1)), (3, .c (.int .i64))])] [] 0
def A41 : List AP := [.c (.slice 1)]
def R41 : List RSh := [.c (.bool)]
noncomputable def T41 : STree := evFn Tryz.prog E41 Tryz.f41 (argsAt A41 0) 1
noncomputable def T41L0 : STree := T41.go [0]
noncomputable def P41 : List (FuncId × Fun) := [(37, S37)]
noncomputable def S41 : Fun := ⟨A41, R41, fun vs => T41.run Tryz.prog P41 A41 R41 (fun _ _ => none) (envL vs)⟩
theorem ok41 : S41.Ok Tryz.prog 41 := fun_ok (Φ := P41) (S := S41) mixed plain_ok Tryz.func41 (by kernel_rfl) (by kernel_rfl) (by kernel_rfl) (T := T41) rfl (And.intro ok37 trivial) (fun _ => by kernel_rfl)
noncomputable def g41 (x0 : List (List AV)) : Option (Bool) := S41.g [.l x0]
noncomputable def g41L0 (k : Nat) (x0 : List (List AV)) (x1 : Int) : Option (Bool) := iterL (fun rec vs => STree.run Tryz.prog P41 A41 R41 T41L0 (updR (fun _ _ => none) 0 rec) (bind zeroE 0 vs)) k [.l x0, .i x1]
theorem g41L0_eq (k : Nat) (x0 : List (List AV)) (x1 : Int) : g41L0 (k + 1) x0 x1 =
    (if (cop .lss x1 (List.length x0 : Int)) = true then
      elemK x0 x1 [.int .i64] fun (r2 : Int) =>
      (g37 r2).bind fun (r3 : Bool) =>
      if (!r3) = true then
        some (false)
      else
        if (cop .gtr x1 0) = true then
          elemK x0 x1 [.int .i64] fun (r4 : Int) =>
          elemK x0 (iop .sub .i64 x1 1) [.int .i64] fun (r5 : Int) =>
          if (cop .leq r4 r5) = true then
            some (false)
          else
            g41L0 k x0 (iop .add .i64 x1 1)
        else
          g41L0 k x0 (iop .add .i64 x1 1)
    else
      some (true)) := by kernel_rfl
theorem g41_eq (x0 : List (List AV)) : g41 x0 =
    (g41L0 FUEL x0 0) := by kernel_rfl

/- multikernel/multikernelref10.HasInt -/
def E105 : Env := envG 18 [4] [(2, [(0, .c (.slice 1)), (1, .c (.int .i64)), (5, .c (.int .i64))])] [] 0
def A105 : List AP := [.c (.slice 1), .c (.int .i64)]
def R105 : List RSh := [.c (.bool)]
noncomputable def T105 : STree := evFn Tryz.prog E105 Tryz.f105 (argsAt A105 0) 2
noncomputable def T105L0 : STree := T105.go [0]
noncomputable def P105 : List (FuncId × Fun) := []
noncomputable def S105 : Fun := ⟨A105, R105, fun vs => T105.run Tryz.prog P105 A105 R105 (fun _ _ => none) (envL vs)⟩
theorem ok105 : S105.Ok Tryz.prog 105 := fun_ok (Φ := P105) (S := S105) mixed plain_ok Tryz.func105 (by kernel_rfl) (by kernel_rfl) (by kernel_rfl) (T := T105) rfl trivial (fun _ => by kernel_rfl)
noncomputable def g105 (x0 : List (List AV)) (x1 : Int) : Option (Bool) := S105.g [.l x0, .i x1]
noncomputable def g105L0 (k : Nat) (x0 : List (List AV)) (x1 x2 : Int) : Option (Bool) := iterL (fun rec vs => STree.run Tryz.prog P105 A105 R105 T105L0 (updR (fun _ _ => none) 0 rec) (bind zeroE 0 vs)) k [.l x0, .i x1, .i x2]
theorem g105L0_eq (k : Nat) (x0 : List (List AV)) (x1 x2 : Int) : g105L0 (k + 1) x0 x1 x2 =
    (if (cop .lss x2 (List.length x0 : Int)) = true then
      elemK x0 x2 [.int .i64] fun (r3 : Int) =>
      if (cop .eql r3 x1) = true then
        some (true)
      else
        g105L0 k x0 x1 (iop .add .i64 x2 1)
    else
      some (false)) := by kernel_rfl
theorem g105_eq (x0 : List (List AV)) (x1 : Int) : g105 x0 x1 =
    (g105L0 FUEL x0 x1 0) := by kernel_rfl

/- multikernel/multikernelref18.view -/
def E43 : Env := envG 61 [2] [(4, [(1, .box [.int .i64, .slice 1, .slice 1]), (3, .c (.int .i64))]), (9, [(1, .box [.int .i64, .slice 1, .slice 1]), (4, .c (.int .i64))])] [] 0
def A43 : List AP := [.agg [.int .i64, .slice 1, .slice 1]]
def R43 : List RSh := [.c (.bool)]
noncomputable def T43 : STree := evFn Tryz.prog E43 Tryz.f43 (argsAt A43 0) 3
noncomputable def T43L0 : STree := T43.go [0, 1, 1, 1, 0, 1, 0]
noncomputable def T43L1 : STree := T43.go [0, 1, 1, 1, 0]
noncomputable def P43 : List (FuncId × Fun) := [(36, S36), (37, S37), (105, S105)]
noncomputable def S43 : Fun := ⟨A43, R43, fun vs => T43.run Tryz.prog P43 A43 R43 (fun _ _ => none) (envL vs)⟩
theorem ok43 : S43.Ok Tryz.prog 43 := fun_ok (Φ := P43) (S := S43) mixed plain_ok Tryz.func43 (by kernel_rfl) (by kernel_rfl) (by kernel_rfl) (T := T43) rfl (And.intro ok36 (And.intro ok37 (And.intro ok105 trivial))) (fun _ => by kernel_rfl)
noncomputable def g43 (x0 : Int) (x1 x2 : List (List AV)) : Option (Bool) := S43.g [.i x0, .l x1, .l x2]
noncomputable def g43L0 (k : Nat) (x0 : Int) (x1 x2 : List (List AV)) (x3 : Int) : Option (Bool) := iterL (fun rec vs => STree.run Tryz.prog P43 A43 R43 T43L0 (updR (fun _ _ => none) 0 rec) (bind zeroE 0 vs)) k [.i x0, .l x1, .l x2, .i x3]
theorem g43L0_eq (k : Nat) (x0 : Int) (x1 x2 : List (List AV)) (x3 : Int) : g43L0 (k + 1) x0 x1 x2 x3 =
    (if (cop .lss x3 (List.length x2 : Int)) = true then
      elemK x2 x3 [.int .i64] fun (r4 : Int) =>
      (g37 r4).bind fun (r5 : Bool) =>
      if (!r5) = true then
        some (false)
      else
        g43L0 k x0 x1 x2 (iop .add .i64 x3 1)
    else
      some (true)) := by kernel_rfl
noncomputable def g43L1 (k : Nat) (x0 : Int) (x1 x2 : List (List AV)) (x3 : Int) : Option (Bool) := iterL (fun rec vs => STree.run Tryz.prog P43 A43 R43 T43L1 (updR (fun _ _ => none) 0 rec) (bind zeroE 0 vs)) k [.i x0, .l x1, .l x2, .i x3]
theorem g43L1_eq (k : Nat) (x0 : Int) (x1 x2 : List (List AV)) (x3 : Int) : g43L1 (k + 1) x0 x1 x2 x3 =
    (if (cop .lss x3 (List.length x1 : Int)) = true then
      elemK x1 x3 [.int .i64] fun (r4 : Int) =>
      (g37 r4).bind fun (r5 : Bool) =>
      if (!r5) = true then
        some (false)
      else
        reqK ((0 : Int) ≤ x3) <|
        reqK ((x3 : Int) ≤ (List.length x1 : Int)) <|
        elemK x1 x3 [.int .i64] fun (r6 : Int) =>
        (g105 (List.take (Int.toNat x3) x1) r6).bind fun (r7 : Bool) =>
        if r7 = true then
          some (false)
        else
          g43L1 k x0 x1 x2 (iop .add .i64 x3 1)
    else
      g43L0 FUEL x0 x1 x2 0) := by kernel_rfl
theorem g43_eq (x0 : Int) (x1 x2 : List (List AV)) : g43 x0 x1 x2 =
    ((g36 x0).bind fun (r3 : Bool) =>
    if (!r3) = true then
      some (false)
    else
      if (cop .gtr (List.length x1 : Int) 32) = true then
        some (false)
      else
        if (cop .gtr (List.length x2 : Int) 16) = true then
          some (false)
        else
          g43L1 FUEL x0 x1 x2 0) := by kernel_rfl

/- multikernel/multikernelref18.report -/
def E42 : Env := envG 26 [2] [] [] 0
def A42 : List AP := [.agg hs5]
def R42 : List RSh := [.c (.bool)]
noncomputable def T42 : STree := evFn Tryz.prog E42 Tryz.f42 (argsAt A42 0) 20
noncomputable def P42 : List (FuncId × Fun) := [(37, S37), (43, S43), (15, S15)]
noncomputable def S42 : Fun := ⟨A42, R42, fun vs => T42.run Tryz.prog P42 A42 R42 (fun _ _ => none) (envL vs)⟩
theorem ok42 : S42.Ok Tryz.prog 42 := fun_ok (Φ := P42) (S := S42) mixed plain_ok Tryz.func42 (by kernel_rfl) (by kernel_rfl) (by kernel_rfl) (T := T42) rfl (And.intro ok37 (And.intro ok43 (And.intro ok15 trivial))) (fun _ => by kernel_rfl)
noncomputable def g42 (x0 x1 : Int) (x2 x3 x4 x5 x6 x7 x8 x9 : List (List AV)) (x10 : Bool) (x11 : Int) (x12 x13 x14 x15 x16 x17 x18 x19 : List (List AV)) : Option (Bool) := S42.g [.i x0, .i x1, .l x2, .l x3, .l x4, .l x5, .l x6, .l x7, .l x8, .l x9, .b x10, .i x11, .l x12, .l x13, .l x14, .l x15, .l x16, .l x17, .l x18, .l x19]
theorem g42_eq (x0 x1 : Int) (x2 x3 x4 x5 x6 x7 x8 x9 : List (List AV)) (x10 : Bool) (x11 : Int) (x12 x13 x14 x15 x16 x17 x18 x19 : List (List AV)) : g42 x0 x1 x2 x3 x4 x5 x6 x7 x8 x9 x10 x11 x12 x13 x14 x15 x16 x17 x18 x19 =
    ((g37 x0).bind fun (r20 : Bool) =>
    if r20 = true then
      (g43 x1 x2 x3).bind fun (r21 : Bool) =>
      if r21 = true then
        (g43 x11 x12 x13).bind fun (r22 : Bool) =>
        if r22 = true then
          (g15 x4 x5 x6 x7 x8 x9).bind fun (r23 : Bool) =>
          if r23 = true then
            (g15 x14 x15 x16 x17 x18 x19).bind fun (r24 : Bool) =>
            some (r24)
          else
            some (false)
        else
          some (false)
      else
        some (false)
    else
      some (false)) := by kernel_rfl

/- multikernel/multikernelref18.moves -/
def E44 : Env := envG 29 [2] [(2, [(0, .c (.slice 2)), (3, .c (.int .i64))])] [] 0
def A44 : List AP := [.c (.slice 2)]
def R44 : List RSh := [.c (.bool)]
noncomputable def T44 : STree := evFn Tryz.prog E44 Tryz.f44 (argsAt A44 0) 1
noncomputable def T44L0 : STree := T44.go [0]
noncomputable def P44 : List (FuncId × Fun) := [(46, S46), (37, S37)]
noncomputable def S44 : Fun := ⟨A44, R44, fun vs => T44.run Tryz.prog P44 A44 R44 (fun _ _ => none) (envL vs)⟩
theorem ok44 : S44.Ok Tryz.prog 44 := fun_ok (Φ := P44) (S := S44) mixed plain_ok Tryz.func44 (by kernel_rfl) (by kernel_rfl) (by kernel_rfl) (T := T44) rfl (And.intro ok46 (And.intro ok37 trivial)) (fun _ => by kernel_rfl)
noncomputable def g44 (x0 : List (List AV)) : Option (Bool) := S44.g [.l x0]
noncomputable def g44L0 (k : Nat) (x0 : List (List AV)) (x1 : Int) : Option (Bool) := iterL (fun rec vs => STree.run Tryz.prog P44 A44 R44 T44L0 (updR (fun _ _ => none) 0 rec) (bind zeroE 0 vs)) k [.l x0, .i x1]
theorem g44L0_eq (k : Nat) (x0 : List (List AV)) (x1 : Int) : g44L0 (k + 1) x0 x1 =
    (if (cop .lss x1 (List.length x0 : Int)) = true then
      elemK x0 x1 [.int .i64, .int .i64] fun (r2 : Int × Int) =>
      (g46 r2.1).bind fun (r4 : Bool) =>
      if (!r4) = true then
        some (false)
      else
        elemK x0 x1 [.int .i64, .int .i64] fun (r5 : Int × Int) =>
        (g37 r5.2).bind fun (r7 : Bool) =>
        if (!r7) = true then
          some (false)
        else
          g44L0 k x0 (iop .add .i64 x1 1)
    else
      some ((cop .leq (List.length x0 : Int) 16))) := by kernel_rfl
theorem g44_eq (x0 : List (List AV)) : g44 x0 =
    (g44L0 FUEL x0 0) := by kernel_rfl

/- multikernel/multikernelref18.SameRequest -/
def E64 : Env := envG 38 [4] [] [] 0
def A64 : List AP := [.agg hs4, .agg hs4]
def R64 : List RSh := [.c (.bool)]
noncomputable def T64 : STree := evFn Tryz.prog E64 Tryz.f64 (argsAt A64 0) 56
noncomputable def P64 : List (FuncId × Fun) := [(51, S51)]
noncomputable def S64 : Fun := ⟨A64, R64, fun vs => T64.run Tryz.prog P64 A64 R64 (fun _ _ => none) (envL vs)⟩
theorem ok64 : S64.Ok Tryz.prog 64 := fun_ok (Φ := P64) (S := S64) mixed plain_ok Tryz.func64 (by kernel_rfl) (by kernel_rfl) (by kernel_rfl) (T := T64) rfl (And.intro ok51 trivial) (fun _ => by kernel_rfl)
noncomputable def g64 (x0 x1 x2 x3 x4 x5 x6 x7 x8 x9 x10 x11 x12 x13 x14 x15 x16 x17 x18 x19 : Int) (x20 : List (List AV)) (x21 x22 x23 x24 x25 x26 : Int) (x27 : Bool) (x28 x29 x30 x31 x32 x33 x34 x35 x36 x37 x38 x39 x40 x41 x42 x43 x44 x45 x46 x47 : Int) (x48 : List (List AV)) (x49 x50 x51 x52 x53 x54 : Int) (x55 : Bool) : Option (Bool) := S64.g [.i x0, .i x1, .i x2, .i x3, .i x4, .i x5, .i x6, .i x7, .i x8, .i x9, .i x10, .i x11, .i x12, .i x13, .i x14, .i x15, .i x16, .i x17, .i x18, .i x19, .l x20, .i x21, .i x22, .i x23, .i x24, .i x25, .i x26, .b x27, .i x28, .i x29, .i x30, .i x31, .i x32, .i x33, .i x34, .i x35, .i x36, .i x37, .i x38, .i x39, .i x40, .i x41, .i x42, .i x43, .i x44, .i x45, .i x46, .i x47, .l x48, .i x49, .i x50, .i x51, .i x52, .i x53, .i x54, .b x55]
theorem g64_eq (x0 x1 x2 x3 x4 x5 x6 x7 x8 x9 x10 x11 x12 x13 x14 x15 x16 x17 x18 x19 : Int) (x20 : List (List AV)) (x21 x22 x23 x24 x25 x26 : Int) (x27 : Bool) (x28 x29 x30 x31 x32 x33 x34 x35 x36 x37 x38 x39 x40 x41 x42 x43 x44 x45 x46 x47 : Int) (x48 : List (List AV)) (x49 x50 x51 x52 x53 x54 : Int) (x55 : Bool) : g64 x0 x1 x2 x3 x4 x5 x6 x7 x8 x9 x10 x11 x12 x13 x14 x15 x16 x17 x18 x19 x20 x21 x22 x23 x24 x25 x26 x27 x28 x29 x30 x31 x32 x33 x34 x35 x36 x37 x38 x39 x40 x41 x42 x43 x44 x45 x46 x47 x48 x49 x50 x51 x52 x53 x54 x55 =
    (if ((cop .eql x0 x28) && ((cop .eql x1 x29) && ((cop .eql x2 x30) && true))) = true then
      if ((cop .eql x3 x31) && ((cop .eql x4 x32) && ((cop .eql x5 x33) && ((cop .eql x6 x34) && ((cop .eql x7 x35) && ((cop .eql x8 x36) && ((cop .eql x9 x37) && ((cop .eql x10 x38) && ((cop .eql x11 x39) && ((cop .eql x12 x40) && ((cop .eql x13 x41) && ((cop .eql x14 x42) && true)))))))))))) = true then
        if (cop .eql x15 x43) = true then
          if (cop .eql x16 x44) = true then
            (g51 x17 x18 x19 x20 x21 x22 x23 x24 x25 x26 x27 x45 x46 x47 x48 x49 x50 x51 x52 x53 x54 x55).bind fun (r56 : Bool) =>
            some (r56)
          else
            some (false)
        else
          some (false)
      else
        some (false)
    else
      some (false)) := by kernel_rfl

/- multikernel/multikernelref18.SameNodes -/
def E66 : Env := envG 27 [4] [(4, [(0, .c (.slice 11)), (1, .c (.slice 11)), (5, .c (.int .i64))])] [] 0
def A66 : List AP := [.c (.slice 11), .c (.slice 11)]
def R66 : List RSh := [.c (.bool)]
noncomputable def T66 : STree := evFn Tryz.prog E66 Tryz.f66 (argsAt A66 0) 2
noncomputable def T66L0 : STree := T66.go [1, 0]
noncomputable def P66 : List (FuncId × Fun) := [(51, S51)]
noncomputable def S66 : Fun := ⟨A66, R66, fun vs => T66.run Tryz.prog P66 A66 R66 (fun _ _ => none) (envL vs)⟩
theorem ok66 : S66.Ok Tryz.prog 66 := fun_ok (Φ := P66) (S := S66) mixed plain_ok Tryz.func66 (by kernel_rfl) (by kernel_rfl) (by kernel_rfl) (T := T66) rfl (And.intro ok51 trivial) (fun _ => by kernel_rfl)
noncomputable def g66 (x0 x1 : List (List AV)) : Option (Bool) := S66.g [.l x0, .l x1]
noncomputable def g66L0 (k : Nat) (x0 x1 : List (List AV)) (x2 : Int) : Option (Bool) := iterL (fun rec vs => STree.run Tryz.prog P66 A66 R66 T66L0 (updR (fun _ _ => none) 0 rec) (bind zeroE 0 vs)) k [.l x0, .l x1, .i x2]
theorem g66L0_eq (k : Nat) (x0 x1 : List (List AV)) (x2 : Int) : g66L0 (k + 1) x0 x1 x2 =
    (if (cop .lss x2 (List.length x0 : Int)) = true then
      elemK x0 x2 hs10 fun (r3 : Qt13) =>
      elemK x1 x2 hs10 fun (r14 : Qt13) =>
      (g51 r3.1 r3.2.1 r3.2.2.1 r3.2.2.2.1 r3.2.2.2.2.1 r3.2.2.2.2.2.1 r3.2.2.2.2.2.2.1 r3.2.2.2.2.2.2.2.1 r3.2.2.2.2.2.2.2.2.1 r3.2.2.2.2.2.2.2.2.2.1 r3.2.2.2.2.2.2.2.2.2.2 r14.1 r14.2.1 r14.2.2.1 r14.2.2.2.1 r14.2.2.2.2.1 r14.2.2.2.2.2.1 r14.2.2.2.2.2.2.1 r14.2.2.2.2.2.2.2.1 r14.2.2.2.2.2.2.2.2.1 r14.2.2.2.2.2.2.2.2.2.1 r14.2.2.2.2.2.2.2.2.2.2).bind fun (r25 : Bool) =>
      if (!r25) = true then
        some (false)
      else
        g66L0 k x0 x1 (iop .add .i64 x2 1)
    else
      some (true)) := by kernel_rfl
theorem g66_eq (x0 x1 : List (List AV)) : g66 x0 x1 =
    (if (cop .neq (List.length x0 : Int) (List.length x1 : Int)) = true then
      some (false)
    else
      g66L0 FUEL x0 x1 0) := by kernel_rfl

/- multikernel/multikernelref10.SameInts -/
def E67 : Env := envG 26 [4] [(4, [(0, .c (.slice 1)), (1, .c (.slice 1)), (5, .c (.int .i64))])] [] 0
def A67 : List AP := [.c (.slice 1), .c (.slice 1)]
def R67 : List RSh := [.c (.bool)]
noncomputable def T67 : STree := evFn Tryz.prog E67 Tryz.f67 (argsAt A67 0) 2
noncomputable def T67L0 : STree := T67.go [1, 0]
noncomputable def P67 : List (FuncId × Fun) := []
noncomputable def S67 : Fun := ⟨A67, R67, fun vs => T67.run Tryz.prog P67 A67 R67 (fun _ _ => none) (envL vs)⟩
theorem ok67 : S67.Ok Tryz.prog 67 := fun_ok (Φ := P67) (S := S67) mixed plain_ok Tryz.func67 (by kernel_rfl) (by kernel_rfl) (by kernel_rfl) (T := T67) rfl trivial (fun _ => by kernel_rfl)
noncomputable def g67 (x0 x1 : List (List AV)) : Option (Bool) := S67.g [.l x0, .l x1]
noncomputable def g67L0 (k : Nat) (x0 x1 : List (List AV)) (x2 : Int) : Option (Bool) := iterL (fun rec vs => STree.run Tryz.prog P67 A67 R67 T67L0 (updR (fun _ _ => none) 0 rec) (bind zeroE 0 vs)) k [.l x0, .l x1, .i x2]
theorem g67L0_eq (k : Nat) (x0 x1 : List (List AV)) (x2 : Int) : g67L0 (k + 1) x0 x1 x2 =
    (if (cop .lss x2 (List.length x0 : Int)) = true then
      elemK x0 x2 [.int .i64] fun (r3 : Int) =>
      elemK x1 x2 [.int .i64] fun (r4 : Int) =>
      if (cop .neq r3 r4) = true then
        some (false)
      else
        g67L0 k x0 x1 (iop .add .i64 x2 1)
    else
      some (true)) := by kernel_rfl
theorem g67_eq (x0 x1 : List (List AV)) : g67 x0 x1 =
    (if (cop .neq (List.length x0 : Int) (List.length x1 : Int)) = true then
      some (false)
    else
      g67L0 FUEL x0 x1 0) := by kernel_rfl

/- multikernel/multikernelref18.SameMoves -/
def E68 : Env := envG 26 [4] [(4, [(0, .c (.slice 2)), (1, .c (.slice 2)), (5, .c (.int .i64))])] [] 0
def A68 : List AP := [.c (.slice 2), .c (.slice 2)]
def R68 : List RSh := [.c (.bool)]
noncomputable def T68 : STree := evFn Tryz.prog E68 Tryz.f68 (argsAt A68 0) 2
noncomputable def T68L0 : STree := T68.go [1, 0]
noncomputable def P68 : List (FuncId × Fun) := []
noncomputable def S68 : Fun := ⟨A68, R68, fun vs => T68.run Tryz.prog P68 A68 R68 (fun _ _ => none) (envL vs)⟩
theorem ok68 : S68.Ok Tryz.prog 68 := fun_ok (Φ := P68) (S := S68) mixed plain_ok Tryz.func68 (by kernel_rfl) (by kernel_rfl) (by kernel_rfl) (T := T68) rfl trivial (fun _ => by kernel_rfl)
noncomputable def g68 (x0 x1 : List (List AV)) : Option (Bool) := S68.g [.l x0, .l x1]
noncomputable def g68L0 (k : Nat) (x0 x1 : List (List AV)) (x2 : Int) : Option (Bool) := iterL (fun rec vs => STree.run Tryz.prog P68 A68 R68 T68L0 (updR (fun _ _ => none) 0 rec) (bind zeroE 0 vs)) k [.l x0, .l x1, .i x2]
theorem g68L0_eq (k : Nat) (x0 x1 : List (List AV)) (x2 : Int) : g68L0 (k + 1) x0 x1 x2 =
    (if (cop .lss x2 (List.length x0 : Int)) = true then
      elemK x0 x2 [.int .i64, .int .i64] fun (r3 : Int × Int) =>
      elemK x1 x2 [.int .i64, .int .i64] fun (r5 : Int × Int) =>
      if (!((cop .eql r3.1 r5.1) && ((cop .eql r3.2 r5.2) && true))) = true then
        some (false)
      else
        g68L0 k x0 x1 (iop .add .i64 x2 1)
    else
      some (true)) := by kernel_rfl
theorem g68_eq (x0 x1 : List (List AV)) : g68 x0 x1 =
    (if (cop .neq (List.length x0 : Int) (List.length x1 : Int)) = true then
      some (false)
    else
      g68L0 FUEL x0 x1 0) := by kernel_rfl

/- multikernel/multikernelref18.SameView -/
def E69 : Env := envG 24 [4] [] [] 0
def A69 : List AP := [.agg [.int .i64, .slice 1, .slice 1], .agg [.int .i64, .slice 1, .slice 1]]
def R69 : List RSh := [.c (.bool)]
noncomputable def T69 : STree := evFn Tryz.prog E69 Tryz.f69 (argsAt A69 0) 6
noncomputable def P69 : List (FuncId × Fun) := [(67, S67)]
noncomputable def S69 : Fun := ⟨A69, R69, fun vs => T69.run Tryz.prog P69 A69 R69 (fun _ _ => none) (envL vs)⟩
theorem ok69 : S69.Ok Tryz.prog 69 := fun_ok (Φ := P69) (S := S69) mixed plain_ok Tryz.func69 (by kernel_rfl) (by kernel_rfl) (by kernel_rfl) (T := T69) rfl (And.intro ok67 trivial) (fun _ => by kernel_rfl)
noncomputable def g69 (x0 : Int) (x1 x2 : List (List AV)) (x3 : Int) (x4 x5 : List (List AV)) : Option (Bool) := S69.g [.i x0, .l x1, .l x2, .i x3, .l x4, .l x5]
theorem g69_eq (x0 : Int) (x1 x2 : List (List AV)) (x3 : Int) (x4 x5 : List (List AV)) : g69 x0 x1 x2 x3 x4 x5 =
    (if (cop .eql x0 x3) = true then
      (g67 x1 x4).bind fun (r6 : Bool) =>
      if r6 = true then
        (g67 x2 x5).bind fun (r7 : Bool) =>
        some (r7)
      else
        some (false)
    else
      some (false)) := by kernel_rfl

/- multikernel/multikernelref10.SameSlots -/
def E140 : Env := envG 55 [4] [(4, [(0, .c (.slice 15)), (1, .c (.slice 15)), (5, .c (.int .i64))])] [] 0
def A140 : List AP := [.c (.slice 15), .c (.slice 15)]
def R140 : List RSh := [.c (.bool)]
noncomputable def T140 : STree := evFn Tryz.prog E140 Tryz.f140 (argsAt A140 0) 2
noncomputable def T140L0 : STree := T140.go [1, 0]
noncomputable def P140 : List (FuncId × Fun) := [(51, S51)]
noncomputable def S140 : Fun := ⟨A140, R140, fun vs => T140.run Tryz.prog P140 A140 R140 (fun _ _ => none) (envL vs)⟩
theorem ok140 : S140.Ok Tryz.prog 140 := fun_ok (Φ := P140) (S := S140) mixed plain_ok Tryz.func140 (by kernel_rfl) (by kernel_rfl) (by kernel_rfl) (T := T140) rfl (And.intro ok51 trivial) (fun _ => by kernel_rfl)
noncomputable def g140 (x0 x1 : List (List AV)) : Option (Bool) := S140.g [.l x0, .l x1]
noncomputable def g140L0 (k : Nat) (x0 x1 : List (List AV)) (x2 : Int) : Option (Bool) := iterL (fun rec vs => STree.run Tryz.prog P140 A140 R140 T140L0 (updR (fun _ _ => none) 0 rec) (bind zeroE 0 vs)) k [.l x0, .l x1, .i x2]
theorem g140L0_eq (k : Nat) (x0 x1 : List (List AV)) (x2 : Int) : g140L0 (k + 1) x0 x1 x2 =
    (if (cop .lss x2 (List.length x0 : Int)) = true then
      elemK x0 x2 hs7 fun (r3 : Qt11) =>
      elemK x1 x2 hs7 fun (r18 : Qt11) =>
      if (cop .neq r3.2.2.2.2.2.2.2.2.2.2.2.1 r18.2.2.2.2.2.2.2.2.2.2.2.1) = true then
        some (false)
      else
        elemK x0 x2 hs7 fun (r33 : Qt11) =>
        elemK x1 x2 hs7 fun (r48 : Qt11) =>
        if (!((cop .eql (d4 (d8 r33)).1 (d4 (d8 r48)).1) && ((cop .eql (d4 (d8 r33)).2.1 (d4 (d8 r48)).2.1) && ((cop .eql (d2 (d4 (d8 r33))) (d2 (d4 (d8 r48)))) && true)))) = true then
          some (false)
        else
          elemK x0 x2 hs7 fun (r63 : Qt11) =>
          elemK x1 x2 hs7 fun (r78 : Qt11) =>
          (g51 r63.1 r63.2.1 r63.2.2.1 r63.2.2.2.1 r63.2.2.2.2.1 r63.2.2.2.2.2.1 r63.2.2.2.2.2.2.1 r63.2.2.2.2.2.2.2.1 r63.2.2.2.2.2.2.2.2.1 r63.2.2.2.2.2.2.2.2.2.1 r63.2.2.2.2.2.2.2.2.2.2.1 r78.1 r78.2.1 r78.2.2.1 r78.2.2.2.1 r78.2.2.2.2.1 r78.2.2.2.2.2.1 r78.2.2.2.2.2.2.1 r78.2.2.2.2.2.2.2.1 r78.2.2.2.2.2.2.2.2.1 r78.2.2.2.2.2.2.2.2.2.1 r78.2.2.2.2.2.2.2.2.2.2.1).bind fun (r93 : Bool) =>
          if (!r93) = true then
            some (false)
          else
            g140L0 k x0 x1 (iop .add .i64 x2 1)
    else
      some (true)) := by kernel_rfl
theorem g140_eq (x0 x1 : List (List AV)) : g140 x0 x1 =
    (if (cop .neq (List.length x0 : Int) (List.length x1 : Int)) = true then
      some (false)
    else
      g140L0 FUEL x0 x1 0) := by kernel_rfl

/- multikernel/multikernelref18.SameRequests -/
def E141 : Env := envG 27 [4] [(4, [(0, .c (.slice 28)), (1, .c (.slice 28)), (5, .c (.int .i64))])] [] 0
def A141 : List AP := [.c (.slice 28), .c (.slice 28)]
def R141 : List RSh := [.c (.bool)]
noncomputable def T141 : STree := evFn Tryz.prog E141 Tryz.f141 (argsAt A141 0) 2
noncomputable def T141L0 : STree := T141.go [1, 0]
noncomputable def P141 : List (FuncId × Fun) := [(64, S64)]
noncomputable def S141 : Fun := ⟨A141, R141, fun vs => T141.run Tryz.prog P141 A141 R141 (fun _ _ => none) (envL vs)⟩
theorem ok141 : S141.Ok Tryz.prog 141 := fun_ok (Φ := P141) (S := S141) mixed plain_ok Tryz.func141 (by kernel_rfl) (by kernel_rfl) (by kernel_rfl) (T := T141) rfl (And.intro ok64 trivial) (fun _ => by kernel_rfl)
noncomputable def g141 (x0 x1 : List (List AV)) : Option (Bool) := S141.g [.l x0, .l x1]
noncomputable def g141L0 (k : Nat) (x0 x1 : List (List AV)) (x2 : Int) : Option (Bool) := iterL (fun rec vs => STree.run Tryz.prog P141 A141 R141 T141L0 (updR (fun _ _ => none) 0 rec) (bind zeroE 0 vs)) k [.l x0, .l x1, .i x2]
theorem g141L0_eq (k : Nat) (x0 x1 : List (List AV)) (x2 : Int) : g141L0 (k + 1) x0 x1 x2 =
    (if (cop .lss x2 (List.length x0 : Int)) = true then
      elemK x0 x2 hs4 fun (r3 : Qt6) =>
      elemK x1 x2 hs4 fun (r31 : Qt6) =>
      (g64 r3.1 r3.2.1 r3.2.2.1 r3.2.2.2.1 r3.2.2.2.2.1 r3.2.2.2.2.2.1 r3.2.2.2.2.2.2.1 r3.2.2.2.2.2.2.2.1 r3.2.2.2.2.2.2.2.2.1 r3.2.2.2.2.2.2.2.2.2.1 r3.2.2.2.2.2.2.2.2.2.2.1 r3.2.2.2.2.2.2.2.2.2.2.2.1 (d4 (d8 r3)).1 (d4 (d8 r3)).2.1 (d2 (d4 (d8 r3))).1 (d2 (d4 (d8 r3))).2.1 (d16 r3).1 (d16 r3).2.1 (d2 (d16 r3)).1 (d2 (d16 r3)).2.1 (d4 (d16 r3)).1 (d4 (d16 r3)).2.1 (d2 (d4 (d16 r3))).1 (d2 (d4 (d16 r3))).2.1 (d8 (d16 r3)).1 (d8 (d16 r3)).2.1 (d2 (d8 (d16 r3))).1 (d2 (d8 (d16 r3))).2 r31.1 r31.2.1 r31.2.2.1 r31.2.2.2.1 r31.2.2.2.2.1 r31.2.2.2.2.2.1 r31.2.2.2.2.2.2.1 r31.2.2.2.2.2.2.2.1 r31.2.2.2.2.2.2.2.2.1 r31.2.2.2.2.2.2.2.2.2.1 r31.2.2.2.2.2.2.2.2.2.2.1 r31.2.2.2.2.2.2.2.2.2.2.2.1 (d4 (d8 r31)).1 (d4 (d8 r31)).2.1 (d2 (d4 (d8 r31))).1 (d2 (d4 (d8 r31))).2.1 (d16 r31).1 (d16 r31).2.1 (d2 (d16 r31)).1 (d2 (d16 r31)).2.1 (d4 (d16 r31)).1 (d4 (d16 r31)).2.1 (d2 (d4 (d16 r31))).1 (d2 (d4 (d16 r31))).2.1 (d8 (d16 r31)).1 (d8 (d16 r31)).2.1 (d2 (d8 (d16 r31))).1 (d2 (d8 (d16 r31))).2).bind fun (r59 : Bool) =>
      if (!r59) = true then
        some (false)
      else
        g141L0 k x0 x1 (iop .add .i64 x2 1)
    else
      some (true)) := by kernel_rfl
theorem g141_eq (x0 x1 : List (List AV)) : g141 x0 x1 =
    (if (cop .neq (List.length x0 : Int) (List.length x1 : Int)) = true then
      some (false)
    else
      g141L0 FUEL x0 x1 0) := by kernel_rfl

/- multikernel/multikernelref18.SameMarks -/
def E142 : Env := envG 26 [4] [(4, [(0, .c (.slice 4)), (1, .c (.slice 4)), (5, .c (.int .i64))])] [] 0
def A142 : List AP := [.c (.slice 4), .c (.slice 4)]
def R142 : List RSh := [.c (.bool)]
noncomputable def T142 : STree := evFn Tryz.prog E142 Tryz.f142 (argsAt A142 0) 2
noncomputable def T142L0 : STree := T142.go [1, 0]
noncomputable def P142 : List (FuncId × Fun) := []
noncomputable def S142 : Fun := ⟨A142, R142, fun vs => T142.run Tryz.prog P142 A142 R142 (fun _ _ => none) (envL vs)⟩
theorem ok142 : S142.Ok Tryz.prog 142 := fun_ok (Φ := P142) (S := S142) mixed plain_ok Tryz.func142 (by kernel_rfl) (by kernel_rfl) (by kernel_rfl) (T := T142) rfl trivial (fun _ => by kernel_rfl)
noncomputable def g142 (x0 x1 : List (List AV)) : Option (Bool) := S142.g [.l x0, .l x1]
noncomputable def g142L0 (k : Nat) (x0 x1 : List (List AV)) (x2 : Int) : Option (Bool) := iterL (fun rec vs => STree.run Tryz.prog P142 A142 R142 T142L0 (updR (fun _ _ => none) 0 rec) (bind zeroE 0 vs)) k [.l x0, .l x1, .i x2]
theorem g142L0_eq (k : Nat) (x0 x1 : List (List AV)) (x2 : Int) : g142L0 (k + 1) x0 x1 x2 =
    (if (cop .lss x2 (List.length x0 : Int)) = true then
      elemK x0 x2 [.int .i64, .int .i64, .int .i64, .int .i64] fun (r3 : Int × Int × Int × Int) =>
      elemK x1 x2 [.int .i64, .int .i64, .int .i64, .int .i64] fun (r7 : Int × Int × Int × Int) =>
      if (!((cop .eql r3.1 r7.1) && ((cop .eql r3.2.1 r7.2.1) && ((cop .eql r3.2.2.1 r7.2.2.1) && ((cop .eql r3.2.2.2 r7.2.2.2) && true))))) = true then
        some (false)
      else
        g142L0 k x0 x1 (iop .add .i64 x2 1)
    else
      some (true)) := by kernel_rfl
theorem g142_eq (x0 x1 : List (List AV)) : g142 x0 x1 =
    (if (cop .neq (List.length x0 : Int) (List.length x1 : Int)) = true then
      some (false)
    else
      g142L0 FUEL x0 x1 0) := by kernel_rfl

/- multikernel/multikernelref18.SameAnswers -/
def E143 : Env := envG 26 [4] [(4, [(0, .c (.slice 2)), (1, .c (.slice 2)), (5, .c (.int .i64))])] [] 0
def A143 : List AP := [.c (.slice 2), .c (.slice 2)]
def R143 : List RSh := [.c (.bool)]
noncomputable def T143 : STree := evFn Tryz.prog E143 Tryz.f143 (argsAt A143 0) 2
noncomputable def T143L0 : STree := T143.go [1, 0]
noncomputable def P143 : List (FuncId × Fun) := []
noncomputable def S143 : Fun := ⟨A143, R143, fun vs => T143.run Tryz.prog P143 A143 R143 (fun _ _ => none) (envL vs)⟩
theorem ok143 : S143.Ok Tryz.prog 143 := fun_ok (Φ := P143) (S := S143) mixed plain_ok Tryz.func143 (by kernel_rfl) (by kernel_rfl) (by kernel_rfl) (T := T143) rfl trivial (fun _ => by kernel_rfl)
noncomputable def g143 (x0 x1 : List (List AV)) : Option (Bool) := S143.g [.l x0, .l x1]
noncomputable def g143L0 (k : Nat) (x0 x1 : List (List AV)) (x2 : Int) : Option (Bool) := iterL (fun rec vs => STree.run Tryz.prog P143 A143 R143 T143L0 (updR (fun _ _ => none) 0 rec) (bind zeroE 0 vs)) k [.l x0, .l x1, .i x2]
theorem g143L0_eq (k : Nat) (x0 x1 : List (List AV)) (x2 : Int) : g143L0 (k + 1) x0 x1 x2 =
    (if (cop .lss x2 (List.length x0 : Int)) = true then
      elemK x0 x2 [.int .i64, .int .i64] fun (r3 : Int × Int) =>
      elemK x1 x2 [.int .i64, .int .i64] fun (r5 : Int × Int) =>
      if (!((cop .eql r3.1 r5.1) && ((cop .eql r3.2 r5.2) && true))) = true then
        some (false)
      else
        g143L0 k x0 x1 (iop .add .i64 x2 1)
    else
      some (true)) := by kernel_rfl
theorem g143_eq (x0 x1 : List (List AV)) : g143 x0 x1 =
    (if (cop .neq (List.length x0 : Int) (List.length x1 : Int)) = true then
      some (false)
    else
      g143L0 FUEL x0 x1 0) := by kernel_rfl

/- multikernel/multikernelref10.SameEntries -/
def E144 : Env := envG 55 [4] [(4, [(0, .c (.slice 13)), (1, .c (.slice 13)), (5, .c (.int .i64))])] [] 0
def A144 : List AP := [.c (.slice 13), .c (.slice 13)]
def R144 : List RSh := [.c (.bool)]
noncomputable def T144 : STree := evFn Tryz.prog E144 Tryz.f144 (argsAt A144 0) 2
noncomputable def T144L0 : STree := T144.go [1, 0]
noncomputable def P144 : List (FuncId × Fun) := [(51, S51)]
noncomputable def S144 : Fun := ⟨A144, R144, fun vs => T144.run Tryz.prog P144 A144 R144 (fun _ _ => none) (envL vs)⟩
theorem ok144 : S144.Ok Tryz.prog 144 := fun_ok (Φ := P144) (S := S144) mixed plain_ok Tryz.func144 (by kernel_rfl) (by kernel_rfl) (by kernel_rfl) (T := T144) rfl (And.intro ok51 trivial) (fun _ => by kernel_rfl)
noncomputable def g144 (x0 x1 : List (List AV)) : Option (Bool) := S144.g [.l x0, .l x1]
noncomputable def g144L0 (k : Nat) (x0 x1 : List (List AV)) (x2 : Int) : Option (Bool) := iterL (fun rec vs => STree.run Tryz.prog P144 A144 R144 T144L0 (updR (fun _ _ => none) 0 rec) (bind zeroE 0 vs)) k [.l x0, .l x1, .i x2]
theorem g144L0_eq (k : Nat) (x0 x1 : List (List AV)) (x2 : Int) : g144L0 (k + 1) x0 x1 x2 =
    (if (cop .lss x2 (List.length x0 : Int)) = true then
      elemK x0 x2 hs8 fun (r3 : Qt12) =>
      elemK x1 x2 hs8 fun (r16 : Qt12) =>
      if (cop .neq r3.1 r16.1) = true then
        some (false)
      else
        elemK x0 x2 hs8 fun (r29 : Qt12) =>
        elemK x1 x2 hs8 fun (r42 : Qt12) =>
        if (cop .neq r29.2.1 r42.2.1) = true then
          some (false)
        else
          elemK x0 x2 hs8 fun (r55 : Qt12) =>
          elemK x1 x2 hs8 fun (r68 : Qt12) =>
          (g51 r55.2.2.1 r55.2.2.2.1 r55.2.2.2.2.1 r55.2.2.2.2.2.1 r55.2.2.2.2.2.2.1 r55.2.2.2.2.2.2.2.1 r55.2.2.2.2.2.2.2.2.1 r55.2.2.2.2.2.2.2.2.2.1 r55.2.2.2.2.2.2.2.2.2.2.1 r55.2.2.2.2.2.2.2.2.2.2.2.1 (d4 (d8 r55)) r68.2.2.1 r68.2.2.2.1 r68.2.2.2.2.1 r68.2.2.2.2.2.1 r68.2.2.2.2.2.2.1 r68.2.2.2.2.2.2.2.1 r68.2.2.2.2.2.2.2.2.1 r68.2.2.2.2.2.2.2.2.2.1 r68.2.2.2.2.2.2.2.2.2.2.1 r68.2.2.2.2.2.2.2.2.2.2.2.1 (d4 (d8 r68))).bind fun (r81 : Bool) =>
          if (!r81) = true then
            some (false)
          else
            g144L0 k x0 x1 (iop .add .i64 x2 1)
    else
      some (true)) := by kernel_rfl
theorem g144_eq (x0 x1 : List (List AV)) : g144 x0 x1 =
    (if (cop .neq (List.length x0 : Int) (List.length x1 : Int)) = true then
      some (false)
    else
      g144L0 FUEL x0 x1 0) := by kernel_rfl

/- multikernel/multikernelref18.SameState -/
def E70 : Env := envG 45 [4] [] [] 0
def A70 : List AP := [.agg hs15, .agg hs15]
def R70 : List RSh := [.c (.bool)]
noncomputable def T70 : STree := evFn Tryz.prog E70 Tryz.f70 (argsAt A70 0) 12
noncomputable def P70 : List (FuncId × Fun) := [(140, S140), (141, S141), (142, S142), (143, S143), (144, S144), (65, S65)]
noncomputable def S70 : Fun := ⟨A70, R70, fun vs => T70.run Tryz.prog P70 A70 R70 (fun _ _ => none) (envL vs)⟩
theorem ok70 : S70.Ok Tryz.prog 70 := fun_ok (Φ := P70) (S := S70) mixed plain_ok Tryz.func70 (by kernel_rfl) (by kernel_rfl) (by kernel_rfl) (T := T70) rfl (And.intro ok140 (And.intro ok141 (And.intro ok142 (And.intro ok143 (And.intro ok144 (And.intro ok65 trivial)))))) (fun _ => by kernel_rfl)
noncomputable def g70 (x0 x1 x2 x3 x4 x5 x6 x7 x8 x9 x10 x11 : List (List AV)) : Option (Bool) := S70.g [.l x0, .l x1, .l x2, .l x3, .l x4, .l x5, .l x6, .l x7, .l x8, .l x9, .l x10, .l x11]
theorem g70_eq (x0 x1 x2 x3 x4 x5 x6 x7 x8 x9 x10 x11 : List (List AV)) : g70 x0 x1 x2 x3 x4 x5 x6 x7 x8 x9 x10 x11 =
    ((g140 x0 x6).bind fun (r12 : Bool) =>
    if r12 = true then
      (g141 x1 x7).bind fun (r13 : Bool) =>
      if r13 = true then
        (g142 x2 x8).bind fun (r14 : Bool) =>
        if r14 = true then
          (g143 x3 x9).bind fun (r15 : Bool) =>
          if r15 = true then
            (g144 x4 x10).bind fun (r16 : Bool) =>
            if r16 = true then
              (g65 x5 x11).bind fun (r17 : Bool) =>
              some (r17)
            else
              some (false)
          else
            some (false)
        else
          some (false)
      else
        some (false)
    else
      some (false)) := by kernel_rfl

/- multikernel/multikernelref18.SameReport -/
def E71 : Env := envG 45 [4] [] [] 0
def A71 : List AP := [.agg hs5, .agg hs5]
def R71 : List RSh := [.c (.bool)]
noncomputable def T71 : STree := evFn Tryz.prog E71 Tryz.f71 (argsAt A71 0) 40
noncomputable def P71 : List (FuncId × Fun) := [(69, S69), (70, S70)]
noncomputable def S71 : Fun := ⟨A71, R71, fun vs => T71.run Tryz.prog P71 A71 R71 (fun _ _ => none) (envL vs)⟩
theorem ok71 : S71.Ok Tryz.prog 71 := fun_ok (Φ := P71) (S := S71) mixed plain_ok Tryz.func71 (by kernel_rfl) (by kernel_rfl) (by kernel_rfl) (T := T71) rfl (And.intro ok69 (And.intro ok70 trivial)) (fun _ => by kernel_rfl)
noncomputable def g71 (x0 x1 : Int) (x2 x3 x4 x5 x6 x7 x8 x9 : List (List AV)) (x10 : Bool) (x11 : Int) (x12 x13 x14 x15 x16 x17 x18 x19 : List (List AV)) (x20 x21 : Int) (x22 x23 x24 x25 x26 x27 x28 x29 : List (List AV)) (x30 : Bool) (x31 : Int) (x32 x33 x34 x35 x36 x37 x38 x39 : List (List AV)) : Option (Bool) := S71.g [.i x0, .i x1, .l x2, .l x3, .l x4, .l x5, .l x6, .l x7, .l x8, .l x9, .b x10, .i x11, .l x12, .l x13, .l x14, .l x15, .l x16, .l x17, .l x18, .l x19, .i x20, .i x21, .l x22, .l x23, .l x24, .l x25, .l x26, .l x27, .l x28, .l x29, .b x30, .i x31, .l x32, .l x33, .l x34, .l x35, .l x36, .l x37, .l x38, .l x39]
theorem g71_eq (x0 x1 : Int) (x2 x3 x4 x5 x6 x7 x8 x9 : List (List AV)) (x10 : Bool) (x11 : Int) (x12 x13 x14 x15 x16 x17 x18 x19 : List (List AV)) (x20 x21 : Int) (x22 x23 x24 x25 x26 x27 x28 x29 : List (List AV)) (x30 : Bool) (x31 : Int) (x32 x33 x34 x35 x36 x37 x38 x39 : List (List AV)) : g71 x0 x1 x2 x3 x4 x5 x6 x7 x8 x9 x10 x11 x12 x13 x14 x15 x16 x17 x18 x19 x20 x21 x22 x23 x24 x25 x26 x27 x28 x29 x30 x31 x32 x33 x34 x35 x36 x37 x38 x39 =
    (if (cop .eql x0 x20) = true then
      (g69 x1 x2 x3 x21 x22 x23).bind fun (r40 : Bool) =>
      if r40 = true then
        (g70 x4 x5 x6 x7 x8 x9 x24 x25 x26 x27 x28 x29).bind fun (r41 : Bool) =>
        if r41 = true then
          if (x10 == x30) = true then
            (g69 x11 x12 x13 x31 x32 x33).bind fun (r42 : Bool) =>
            if r42 = true then
              (g70 x14 x15 x16 x17 x18 x19 x34 x35 x36 x37 x38 x39).bind fun (r43 : Bool) =>
              some (r43)
            else
              some (false)
          else
            some (false)
        else
          some (false)
      else
        some (false)
    else
      some (false)) := by kernel_rfl

/- multikernel/multikernelref18.Same -/
def E17 : Env := envG 134 [4] [] [] 0
def A17 : List AP := [.agg hs0, .agg hs0]
def R17 : List RSh := [.c (.bool)]
noncomputable def T17 : STree := evFn Tryz.prog E17 Tryz.f17 (argsAt A17 0) 148
noncomputable def P17 : List (FuncId × Fun) := [(64, S64), (65, S65), (66, S66), (67, S67), (68, S68), (69, S69), (70, S70), (71, S71)]
noncomputable def S17 : Fun := ⟨A17, R17, fun vs => T17.run Tryz.prog P17 A17 R17 (fun _ _ => none) (envL vs)⟩
theorem ok17 : S17.Ok Tryz.prog 17 := fun_ok (Φ := P17) (S := S17) mixed plain_ok Tryz.func17 (by kernel_rfl) (by kernel_rfl) (by kernel_rfl) (T := T17) rfl (And.intro ok64 (And.intro ok65 (And.intro ok66 (And.intro ok67 (And.intro ok68 (And.intro ok69 (And.intro ok70 (And.intro ok71 trivial)))))))) (fun _ => by kernel_rfl)
noncomputable def g17 (x0 x1 x2 x3 x4 x5 x6 x7 x8 x9 x10 : Int) (x11 : Bool) (x12 x13 x14 x15 x16 x17 x18 x19 x20 x21 x22 x23 x24 x25 x26 x27 x28 x29 x30 x31 : Int) (x32 : List (List AV)) (x33 x34 x35 x36 x37 x38 : Int) (x39 : Bool) (x40 x41 x42 x43 : List (List AV)) (x44 x45 : Int) (x46 x47 x48 x49 x50 x51 x52 x53 : List (List AV)) (x54 x55 : Int) (x56 x57 x58 x59 x60 x61 x62 x63 : List (List AV)) (x64 : Bool) (x65 : Int) (x66 x67 x68 x69 x70 x71 x72 x73 : List (List AV)) (x74 x75 x76 x77 x78 x79 x80 x81 x82 x83 x84 : Int) (x85 : Bool) (x86 x87 x88 x89 x90 x91 x92 x93 x94 x95 x96 x97 x98 x99 x100 x101 x102 x103 x104 x105 : Int) (x106 : List (List AV)) (x107 x108 x109 x110 x111 x112 : Int) (x113 : Bool) (x114 x115 x116 x117 : List (List AV)) (x118 x119 : Int) (x120 x121 x122 x123 x124 x125 x126 x127 : List (List AV)) (x128 x129 : Int) (x130 x131 x132 x133 x134 x135 x136 x137 : List (List AV)) (x138 : Bool) (x139 : Int) (x140 x141 x142 x143 x144 x145 x146 x147 : List (List AV)) : Option (Bool) := S17.g [.i x0, .i x1, .i x2, .i x3, .i x4, .i x5, .i x6, .i x7, .i x8, .i x9, .i x10, .b x11, .i x12, .i x13, .i x14, .i x15, .i x16, .i x17, .i x18, .i x19, .i x20, .i x21, .i x22, .i x23, .i x24, .i x25, .i x26, .i x27, .i x28, .i x29, .i x30, .i x31, .l x32, .i x33, .i x34, .i x35, .i x36, .i x37, .i x38, .b x39, .l x40, .l x41, .l x42, .l x43, .i x44, .i x45, .l x46, .l x47, .l x48, .l x49, .l x50, .l x51, .l x52, .l x53, .i x54, .i x55, .l x56, .l x57, .l x58, .l x59, .l x60, .l x61, .l x62, .l x63, .b x64, .i x65, .l x66, .l x67, .l x68, .l x69, .l x70, .l x71, .l x72, .l x73, .i x74, .i x75, .i x76, .i x77, .i x78, .i x79, .i x80, .i x81, .i x82, .i x83, .i x84, .b x85, .i x86, .i x87, .i x88, .i x89, .i x90, .i x91, .i x92, .i x93, .i x94, .i x95, .i x96, .i x97, .i x98, .i x99, .i x100, .i x101, .i x102, .i x103, .i x104, .i x105, .l x106, .i x107, .i x108, .i x109, .i x110, .i x111, .i x112, .b x113, .l x114, .l x115, .l x116, .l x117, .i x118, .i x119, .l x120, .l x121, .l x122, .l x123, .l x124, .l x125, .l x126, .l x127, .i x128, .i x129, .l x130, .l x131, .l x132, .l x133, .l x134, .l x135, .l x136, .l x137, .b x138, .i x139, .l x140, .l x141, .l x142, .l x143, .l x144, .l x145, .l x146, .l x147]
theorem g17_eq (x0 x1 x2 x3 x4 x5 x6 x7 x8 x9 x10 : Int) (x11 : Bool) (x12 x13 x14 x15 x16 x17 x18 x19 x20 x21 x22 x23 x24 x25 x26 x27 x28 x29 x30 x31 : Int) (x32 : List (List AV)) (x33 x34 x35 x36 x37 x38 : Int) (x39 : Bool) (x40 x41 x42 x43 : List (List AV)) (x44 x45 : Int) (x46 x47 x48 x49 x50 x51 x52 x53 : List (List AV)) (x54 x55 : Int) (x56 x57 x58 x59 x60 x61 x62 x63 : List (List AV)) (x64 : Bool) (x65 : Int) (x66 x67 x68 x69 x70 x71 x72 x73 : List (List AV)) (x74 x75 x76 x77 x78 x79 x80 x81 x82 x83 x84 : Int) (x85 : Bool) (x86 x87 x88 x89 x90 x91 x92 x93 x94 x95 x96 x97 x98 x99 x100 x101 x102 x103 x104 x105 : Int) (x106 : List (List AV)) (x107 x108 x109 x110 x111 x112 : Int) (x113 : Bool) (x114 x115 x116 x117 : List (List AV)) (x118 x119 : Int) (x120 x121 x122 x123 x124 x125 x126 x127 : List (List AV)) (x128 x129 : Int) (x130 x131 x132 x133 x134 x135 x136 x137 : List (List AV)) (x138 : Bool) (x139 : Int) (x140 x141 x142 x143 x144 x145 x146 x147 : List (List AV)) : g17 x0 x1 x2 x3 x4 x5 x6 x7 x8 x9 x10 x11 x12 x13 x14 x15 x16 x17 x18 x19 x20 x21 x22 x23 x24 x25 x26 x27 x28 x29 x30 x31 x32 x33 x34 x35 x36 x37 x38 x39 x40 x41 x42 x43 x44 x45 x46 x47 x48 x49 x50 x51 x52 x53 x54 x55 x56 x57 x58 x59 x60 x61 x62 x63 x64 x65 x66 x67 x68 x69 x70 x71 x72 x73 x74 x75 x76 x77 x78 x79 x80 x81 x82 x83 x84 x85 x86 x87 x88 x89 x90 x91 x92 x93 x94 x95 x96 x97 x98 x99 x100 x101 x102 x103 x104 x105 x106 x107 x108 x109 x110 x111 x112 x113 x114 x115 x116 x117 x118 x119 x120 x121 x122 x123 x124 x125 x126 x127 x128 x129 x130 x131 x132 x133 x134 x135 x136 x137 x138 x139 x140 x141 x142 x143 x144 x145 x146 x147 =
    (if (cop .neq x0 x74) = true then
      some (false)
    else
      if (cop .neq x1 x75) = true then
        some (false)
      else
        if (cop .neq x2 x76) = true then
          some (false)
        else
          if (cop .neq x3 x77) = true then
            some (false)
          else
            if (cop .neq x4 x78) = true then
              some (false)
            else
              if (cop .neq x5 x79) = true then
                some (false)
              else
                if (cop .neq x6 x80) = true then
                  some (false)
                else
                  if (!((cop .eql x7 x81) && ((cop .eql x8 x82) && ((cop .eql x9 x83) && true)))) = true then
                    some (false)
                  else
                    if (cop .neq x10 x84) = true then
                      some (false)
                    else
                      if (!(x11 == x85)) = true then
                        some (false)
                      else
                        if (cop .neq x44 x118) = true then
                          some (false)
                        else
                          (g64 x12 x13 x14 x15 x16 x17 x18 x19 x20 x21 x22 x23 x24 x25 x26 x27 x28 x29 x30 x31 x32 x33 x34 x35 x36 x37 x38 x39 x86 x87 x88 x89 x90 x91 x92 x93 x94 x95 x96 x97 x98 x99 x100 x101 x102 x103 x104 x105 x106 x107 x108 x109 x110 x111 x112 x113).bind fun (r148 : Bool) =>
                          if r148 = true then
                            (g65 x40 x114).bind fun (r149 : Bool) =>
                            if r149 = true then
                              (g66 x41 x115).bind fun (r150 : Bool) =>
                              if r150 = true then
                                (g67 x42 x116).bind fun (r151 : Bool) =>
                                if r151 = true then
                                  (g68 x43 x117).bind fun (r152 : Bool) =>
                                  if r152 = true then
                                    (g69 x45 x46 x47 x119 x120 x121).bind fun (r153 : Bool) =>
                                    if r153 = true then
                                      (g70 x48 x49 x50 x51 x52 x53 x122 x123 x124 x125 x126 x127).bind fun (r154 : Bool) =>
                                      if r154 = true then
                                        (g71 x54 x55 x56 x57 x58 x59 x60 x61 x62 x63 x64 x65 x66 x67 x68 x69 x70 x71 x72 x73 x128 x129 x130 x131 x132 x133 x134 x135 x136 x137 x138 x139 x140 x141 x142 x143 x144 x145 x146 x147).bind fun (r155 : Bool) =>
                                        some (r155)
                                      else
                                        some (false)
                                    else
                                      some (false)
                                  else
                                    some (false)
                                else
                                  some (false)
                              else
                                some (false)
                            else
                              some (false)
                          else
                            some (false)) := by kernel_rfl

/- multikernel/multikernelref18.Valid -/
def E10 : Env := envG 295 [2] [(60, [(1, .box hs0), (3, .box hs0), (4, .c (.bool)), (5, .c (.int .i64))])] [] 0
def A10 : List AP := [.agg hs0]
def R10 : List RSh := [.c (.bool)]
noncomputable def T10 : STree := evFn Tryz.prog E10 Tryz.f10 (argsAt A10 0) 74
noncomputable def T10L0 : STree := T10.go [1, 1, 0, 1, 0, 1, 0, 1, 0, 2]
noncomputable def P10 : List (FuncId × Fun) := [(36, S36), (37, S37), (13, S13), (45, S45), (46, S46), (17, S17), (38, S38), (39, S39), (40, S40), (41, S41), (42, S42), (43, S43), (15, S15), (44, S44)]
noncomputable def S10 : Fun := ⟨A10, R10, fun vs => T10.run Tryz.prog P10 A10 R10 (fun _ _ => none) (envL vs)⟩
theorem ok10 : S10.Ok Tryz.prog 10 := fun_ok (Φ := P10) (S := S10) mixed plain_ok Tryz.func10 (by kernel_rfl) (by kernel_rfl) (by kernel_rfl) (T := T10) rfl (And.intro ok36 (And.intro ok37 (And.intro ok13 (And.intro ok45 (And.intro ok46 (And.intro ok17 (And.intro ok38 (And.intro ok39 (And.intro ok40 (And.intro ok41 (And.intro ok42 (And.intro ok43 (And.intro ok15 (And.intro ok44 trivial)))))))))))))) (fun _ => by kernel_rfl)
noncomputable def g10 (x0 x1 x2 x3 x4 x5 x6 x7 x8 x9 x10 : Int) (x11 : Bool) (x12 x13 x14 x15 x16 x17 x18 x19 x20 x21 x22 x23 x24 x25 x26 x27 x28 x29 x30 x31 : Int) (x32 : List (List AV)) (x33 x34 x35 x36 x37 x38 : Int) (x39 : Bool) (x40 x41 x42 x43 : List (List AV)) (x44 x45 : Int) (x46 x47 x48 x49 x50 x51 x52 x53 : List (List AV)) (x54 x55 : Int) (x56 x57 x58 x59 x60 x61 x62 x63 : List (List AV)) (x64 : Bool) (x65 : Int) (x66 x67 x68 x69 x70 x71 x72 x73 : List (List AV)) : Option (Bool) := S10.g [.i x0, .i x1, .i x2, .i x3, .i x4, .i x5, .i x6, .i x7, .i x8, .i x9, .i x10, .b x11, .i x12, .i x13, .i x14, .i x15, .i x16, .i x17, .i x18, .i x19, .i x20, .i x21, .i x22, .i x23, .i x24, .i x25, .i x26, .i x27, .i x28, .i x29, .i x30, .i x31, .l x32, .i x33, .i x34, .i x35, .i x36, .i x37, .i x38, .b x39, .l x40, .l x41, .l x42, .l x43, .i x44, .i x45, .l x46, .l x47, .l x48, .l x49, .l x50, .l x51, .l x52, .l x53, .i x54, .i x55, .l x56, .l x57, .l x58, .l x59, .l x60, .l x61, .l x62, .l x63, .b x64, .i x65, .l x66, .l x67, .l x68, .l x69, .l x70, .l x71, .l x72, .l x73]
noncomputable def g10L0 (k : Nat) (x0 x1 x2 x3 x4 x5 x6 x7 x8 x9 x10 : Int) (x11 : Bool) (x12 x13 x14 x15 x16 x17 x18 x19 x20 x21 x22 x23 x24 x25 x26 x27 x28 x29 x30 x31 : Int) (x32 : List (List AV)) (x33 x34 x35 x36 x37 x38 : Int) (x39 : Bool) (x40 x41 x42 x43 : List (List AV)) (x44 x45 : Int) (x46 x47 x48 x49 x50 x51 x52 x53 : List (List AV)) (x54 x55 : Int) (x56 x57 x58 x59 x60 x61 x62 x63 : List (List AV)) (x64 : Bool) (x65 : Int) (x66 x67 x68 x69 x70 x71 x72 x73 : List (List AV)) (x74 x75 x76 x77 x78 x79 x80 x81 x82 x83 x84 : Int) (x85 : Bool) (x86 x87 x88 x89 x90 x91 x92 x93 x94 x95 x96 x97 x98 x99 x100 x101 x102 x103 x104 x105 : Int) (x106 : List (List AV)) (x107 x108 x109 x110 x111 x112 : Int) (x113 : Bool) (x114 x115 x116 x117 : List (List AV)) (x118 x119 : Int) (x120 x121 x122 x123 x124 x125 x126 x127 : List (List AV)) (x128 x129 : Int) (x130 x131 x132 x133 x134 x135 x136 x137 : List (List AV)) (x138 : Bool) (x139 : Int) (x140 x141 x142 x143 x144 x145 x146 x147 : List (List AV)) (x148 : Bool) (x149 : Int) : Option (Bool) := iterL (fun rec vs => STree.run Tryz.prog P10 A10 R10 T10L0 (updR (fun _ _ => none) 0 rec) (bind zeroE 0 vs)) k [.i x0, .i x1, .i x2, .i x3, .i x4, .i x5, .i x6, .i x7, .i x8, .i x9, .i x10, .b x11, .i x12, .i x13, .i x14, .i x15, .i x16, .i x17, .i x18, .i x19, .i x20, .i x21, .i x22, .i x23, .i x24, .i x25, .i x26, .i x27, .i x28, .i x29, .i x30, .i x31, .l x32, .i x33, .i x34, .i x35, .i x36, .i x37, .i x38, .b x39, .l x40, .l x41, .l x42, .l x43, .i x44, .i x45, .l x46, .l x47, .l x48, .l x49, .l x50, .l x51, .l x52, .l x53, .i x54, .i x55, .l x56, .l x57, .l x58, .l x59, .l x60, .l x61, .l x62, .l x63, .b x64, .i x65, .l x66, .l x67, .l x68, .l x69, .l x70, .l x71, .l x72, .l x73, .i x74, .i x75, .i x76, .i x77, .i x78, .i x79, .i x80, .i x81, .i x82, .i x83, .i x84, .b x85, .i x86, .i x87, .i x88, .i x89, .i x90, .i x91, .i x92, .i x93, .i x94, .i x95, .i x96, .i x97, .i x98, .i x99, .i x100, .i x101, .i x102, .i x103, .i x104, .i x105, .l x106, .i x107, .i x108, .i x109, .i x110, .i x111, .i x112, .b x113, .l x114, .l x115, .l x116, .l x117, .i x118, .i x119, .l x120, .l x121, .l x122, .l x123, .l x124, .l x125, .l x126, .l x127, .i x128, .i x129, .l x130, .l x131, .l x132, .l x133, .l x134, .l x135, .l x136, .l x137, .b x138, .i x139, .l x140, .l x141, .l x142, .l x143, .l x144, .l x145, .l x146, .l x147, .b x148, .i x149]
theorem g10L0_eq (k : Nat) (x0 x1 x2 x3 x4 x5 x6 x7 x8 x9 x10 : Int) (x11 : Bool) (x12 x13 x14 x15 x16 x17 x18 x19 x20 x21 x22 x23 x24 x25 x26 x27 x28 x29 x30 x31 : Int) (x32 : List (List AV)) (x33 x34 x35 x36 x37 x38 : Int) (x39 : Bool) (x40 x41 x42 x43 : List (List AV)) (x44 x45 : Int) (x46 x47 x48 x49 x50 x51 x52 x53 : List (List AV)) (x54 x55 : Int) (x56 x57 x58 x59 x60 x61 x62 x63 : List (List AV)) (x64 : Bool) (x65 : Int) (x66 x67 x68 x69 x70 x71 x72 x73 : List (List AV)) (x74 x75 x76 x77 x78 x79 x80 x81 x82 x83 x84 : Int) (x85 : Bool) (x86 x87 x88 x89 x90 x91 x92 x93 x94 x95 x96 x97 x98 x99 x100 x101 x102 x103 x104 x105 : Int) (x106 : List (List AV)) (x107 x108 x109 x110 x111 x112 : Int) (x113 : Bool) (x114 x115 x116 x117 : List (List AV)) (x118 x119 : Int) (x120 x121 x122 x123 x124 x125 x126 x127 : List (List AV)) (x128 x129 : Int) (x130 x131 x132 x133 x134 x135 x136 x137 : List (List AV)) (x138 : Bool) (x139 : Int) (x140 x141 x142 x143 x144 x145 x146 x147 : List (List AV)) (x148 : Bool) (x149 : Int) : g10L0 (k + 1) x0 x1 x2 x3 x4 x5 x6 x7 x8 x9 x10 x11 x12 x13 x14 x15 x16 x17 x18 x19 x20 x21 x22 x23 x24 x25 x26 x27 x28 x29 x30 x31 x32 x33 x34 x35 x36 x37 x38 x39 x40 x41 x42 x43 x44 x45 x46 x47 x48 x49 x50 x51 x52 x53 x54 x55 x56 x57 x58 x59 x60 x61 x62 x63 x64 x65 x66 x67 x68 x69 x70 x71 x72 x73 x74 x75 x76 x77 x78 x79 x80 x81 x82 x83 x84 x85 x86 x87 x88 x89 x90 x91 x92 x93 x94 x95 x96 x97 x98 x99 x100 x101 x102 x103 x104 x105 x106 x107 x108 x109 x110 x111 x112 x113 x114 x115 x116 x117 x118 x119 x120 x121 x122 x123 x124 x125 x126 x127 x128 x129 x130 x131 x132 x133 x134 x135 x136 x137 x138 x139 x140 x141 x142 x143 x144 x145 x146 x147 x148 x149 =
    (if (cop .lss x149 (List.length x41 : Int)) = true then
      if x148 = true then
        elemK x41 x149 hs10 fun (r150 : Qt13) =>
        (g45 r150.1 r150.2.1 r150.2.2.1 r150.2.2.2.1 r150.2.2.2.2.1 r150.2.2.2.2.2.1 r150.2.2.2.2.2.2.1 r150.2.2.2.2.2.2.2.1 r150.2.2.2.2.2.2.2.2.1 r150.2.2.2.2.2.2.2.2.2.1 r150.2.2.2.2.2.2.2.2.2.2).bind fun (r161 : Bool) =>
        g10L0 k x0 x1 x2 x3 x4 x5 x6 x7 x8 x9 x10 x11 x12 x13 x14 x15 x16 x17 x18 x19 x20 x21 x22 x23 x24 x25 x26 x27 x28 x29 x30 x31 x32 x33 x34 x35 x36 x37 x38 x39 x40 x41 x42 x43 x44 x45 x46 x47 x48 x49 x50 x51 x52 x53 x54 x55 x56 x57 x58 x59 x60 x61 x62 x63 x64 x65 x66 x67 x68 x69 x70 x71 x72 x73 x74 x75 x76 x77 x78 x79 x80 x81 x82 x83 x84 x85 x86 x87 x88 x89 x90 x91 x92 x93 x94 x95 x96 x97 x98 x99 x100 x101 x102 x103 x104 x105 x106 x107 x108 x109 x110 x111 x112 x113 x114 x115 x116 x117 x118 x119 x120 x121 x122 x123 x124 x125 x126 x127 x128 x129 x130 x131 x132 x133 x134 x135 x136 x137 x138 x139 x140 x141 x142 x143 x144 x145 x146 x147 r161 (iop .add .i64 x149 1)
      else
        if x148 = true then
          (g46 x5).bind fun (r150 : Bool) =>
          if r150 = true then
            (g17 x0 x1 x2 x3 x4 x5 x6 x7 x8 x9 x10 x11 x12 x13 x14 x15 x16 x17 x18 x19 x20 x21 x22 x23 x24 x25 x26 x27 x28 x29 x30 x31 x32 x33 x34 x35 x36 x37 x38 x39 x40 x41 x42 x43 x44 x45 x46 x47 x48 x49 x50 x51 x52 x53 x54 x55 x56 x57 x58 x59 x60 x61 x62 x63 x64 x65 x66 x67 x68 x69 x70 x71 x72 x73 x74 x75 x76 x77 x78 x79 x80 x81 x82 x83 x84 x85 x86 x87 x88 x89 x90 x91 x92 x93 x94 x95 x96 x97 x98 x99 x100 x101 x102 x103 x104 x105 x106 x107 x108 x109 x110 x111 x112 x113 x114 x115 x116 x117 x118 x119 x120 x121 x122 x123 x124 x125 x126 x127 x128 x129 x130 x131 x132 x133 x134 x135 x136 x137 x138 x139 x140 x141 x142 x143 x144 x145 x146 x147).bind fun (r151 : Bool) =>
            some (r151)
          else
            some (false)
        else
          some (false)
    else
      if x148 = true then
        (g46 x5).bind fun (r150 : Bool) =>
        if r150 = true then
          (g17 x0 x1 x2 x3 x4 x5 x6 x7 x8 x9 x10 x11 x12 x13 x14 x15 x16 x17 x18 x19 x20 x21 x22 x23 x24 x25 x26 x27 x28 x29 x30 x31 x32 x33 x34 x35 x36 x37 x38 x39 x40 x41 x42 x43 x44 x45 x46 x47 x48 x49 x50 x51 x52 x53 x54 x55 x56 x57 x58 x59 x60 x61 x62 x63 x64 x65 x66 x67 x68 x69 x70 x71 x72 x73 x74 x75 x76 x77 x78 x79 x80 x81 x82 x83 x84 x85 x86 x87 x88 x89 x90 x91 x92 x93 x94 x95 x96 x97 x98 x99 x100 x101 x102 x103 x104 x105 x106 x107 x108 x109 x110 x111 x112 x113 x114 x115 x116 x117 x118 x119 x120 x121 x122 x123 x124 x125 x126 x127 x128 x129 x130 x131 x132 x133 x134 x135 x136 x137 x138 x139 x140 x141 x142 x143 x144 x145 x146 x147).bind fun (r151 : Bool) =>
          some (r151)
        else
          some (false)
      else
        some (false)) := by kernel_rfl
theorem g10_eq (x0 x1 x2 x3 x4 x5 x6 x7 x8 x9 x10 : Int) (x11 : Bool) (x12 x13 x14 x15 x16 x17 x18 x19 x20 x21 x22 x23 x24 x25 x26 x27 x28 x29 x30 x31 : Int) (x32 : List (List AV)) (x33 x34 x35 x36 x37 x38 : Int) (x39 : Bool) (x40 x41 x42 x43 : List (List AV)) (x44 x45 : Int) (x46 x47 x48 x49 x50 x51 x52 x53 : List (List AV)) (x54 x55 : Int) (x56 x57 x58 x59 x60 x61 x62 x63 : List (List AV)) (x64 : Bool) (x65 : Int) (x66 x67 x68 x69 x70 x71 x72 x73 : List (List AV)) : g10 x0 x1 x2 x3 x4 x5 x6 x7 x8 x9 x10 x11 x12 x13 x14 x15 x16 x17 x18 x19 x20 x21 x22 x23 x24 x25 x26 x27 x28 x29 x30 x31 x32 x33 x34 x35 x36 x37 x38 x39 x40 x41 x42 x43 x44 x45 x46 x47 x48 x49 x50 x51 x52 x53 x54 x55 x56 x57 x58 x59 x60 x61 x62 x63 x64 x65 x66 x67 x68 x69 x70 x71 x72 x73 =
    (if (cop .lss x0 1) = true then
      some (false)
    else
      if (cop .gtr x0 17) = true then
        some (false)
      else
        (g36 x1).bind fun (r74 : Bool) =>
        if (!r74) = true then
          some (false)
        else
          (g37 x2).bind fun (r75 : Bool) =>
          if (!r75) = true then
            some (false)
          else
            (g37 x3).bind fun (r76 : Bool) =>
            if (!r76) = true then
              some (false)
            else
              if (cop .eql x0 1) = true then
                (g13 x12 x13 x14 x15 x16 x17 x18 x19 x20 x21 x22 x23 x24 x25 x26 x27 x28 x29 x30 x31 x32 x33 x34 x35 x36 x37 x38 x39).bind fun (r77 : Bool) =>
                g10L0 FUEL x0 x1 x2 x3 x4 x5 x6 x7 x8 x9 x10 x11 x12 x13 x14 x15 x16 x17 x18 x19 x20 x21 x22 x23 x24 x25 x26 x27 x28 x29 x30 x31 x32 x33 x34 x35 x36 x37 x38 x39 x40 x41 x42 x43 x44 x45 x46 x47 x48 x49 x50 x51 x52 x53 x54 x55 x56 x57 x58 x59 x60 x61 x62 x63 x64 x65 x66 x67 x68 x69 x70 x71 x72 x73 x0 x1 x2 x3 0 x5 0 0 0 0 0 false x12 x13 x14 x15 x16 x17 x18 x19 x20 x21 x22 x23 x24 x25 x26 x27 x28 x29 x30 x31 x32 x33 x34 x35 x36 x37 x38 x39 ([] : List (List AV)) ([] : List (List AV)) ([] : List (List AV)) ([] : List (List AV)) 0 0 ([] : List (List AV)) ([] : List (List AV)) ([] : List (List AV)) ([] : List (List AV)) ([] : List (List AV)) ([] : List (List AV)) ([] : List (List AV)) ([] : List (List AV)) 0 0 ([] : List (List AV)) ([] : List (List AV)) ([] : List (List AV)) ([] : List (List AV)) ([] : List (List AV)) ([] : List (List AV)) ([] : List (List AV)) ([] : List (List AV)) false 0 ([] : List (List AV)) ([] : List (List AV)) ([] : List (List AV)) ([] : List (List AV)) ([] : List (List AV)) ([] : List (List AV)) ([] : List (List AV)) ([] : List (List AV)) r77 0
              else
                if (cop .eql x0 2) = true then
                  (g38 x7 x8 x9).bind fun (r77 : Bool) =>
                  if r77 = true then
                    (g39 x10).bind fun (r78 : Bool) =>
                    if r78 = true then
                      g10L0 FUEL x0 x1 x2 x3 x4 x5 x6 x7 x8 x9 x10 x11 x12 x13 x14 x15 x16 x17 x18 x19 x20 x21 x22 x23 x24 x25 x26 x27 x28 x29 x30 x31 x32 x33 x34 x35 x36 x37 x38 x39 x40 x41 x42 x43 x44 x45 x46 x47 x48 x49 x50 x51 x52 x53 x54 x55 x56 x57 x58 x59 x60 x61 x62 x63 x64 x65 x66 x67 x68 x69 x70 x71 x72 x73 x0 x1 x2 x3 0 x5 0 x7 x8 x9 x10 x11 0 0 0 0 0 0 0 0 0 0 0 0 0 0 0 0 0 0 0 0 ([] : List (List AV)) 0 0 0 0 0 0 false ([] : List (List AV)) x41 ([] : List (List AV)) ([] : List (List AV)) 0 0 ([] : List (List AV)) ([] : List (List AV)) ([] : List (List AV)) ([] : List (List AV)) ([] : List (List AV)) ([] : List (List AV)) ([] : List (List AV)) ([] : List (List AV)) 0 0 ([] : List (List AV)) ([] : List (List AV)) ([] : List (List AV)) ([] : List (List AV)) ([] : List (List AV)) ([] : List (List AV)) ([] : List (List AV)) ([] : List (List AV)) false 0 ([] : List (List AV)) ([] : List (List AV)) ([] : List (List AV)) ([] : List (List AV)) ([] : List (List AV)) ([] : List (List AV)) ([] : List (List AV)) ([] : List (List AV)) (cop .leq (List.length x41 : Int) 8) 0
                    else
                      g10L0 FUEL x0 x1 x2 x3 x4 x5 x6 x7 x8 x9 x10 x11 x12 x13 x14 x15 x16 x17 x18 x19 x20 x21 x22 x23 x24 x25 x26 x27 x28 x29 x30 x31 x32 x33 x34 x35 x36 x37 x38 x39 x40 x41 x42 x43 x44 x45 x46 x47 x48 x49 x50 x51 x52 x53 x54 x55 x56 x57 x58 x59 x60 x61 x62 x63 x64 x65 x66 x67 x68 x69 x70 x71 x72 x73 x0 x1 x2 x3 0 x5 0 x7 x8 x9 x10 x11 0 0 0 0 0 0 0 0 0 0 0 0 0 0 0 0 0 0 0 0 ([] : List (List AV)) 0 0 0 0 0 0 false ([] : List (List AV)) x41 ([] : List (List AV)) ([] : List (List AV)) 0 0 ([] : List (List AV)) ([] : List (List AV)) ([] : List (List AV)) ([] : List (List AV)) ([] : List (List AV)) ([] : List (List AV)) ([] : List (List AV)) ([] : List (List AV)) 0 0 ([] : List (List AV)) ([] : List (List AV)) ([] : List (List AV)) ([] : List (List AV)) ([] : List (List AV)) ([] : List (List AV)) ([] : List (List AV)) ([] : List (List AV)) false 0 ([] : List (List AV)) ([] : List (List AV)) ([] : List (List AV)) ([] : List (List AV)) ([] : List (List AV)) ([] : List (List AV)) ([] : List (List AV)) ([] : List (List AV)) false 0
                  else
                    g10L0 FUEL x0 x1 x2 x3 x4 x5 x6 x7 x8 x9 x10 x11 x12 x13 x14 x15 x16 x17 x18 x19 x20 x21 x22 x23 x24 x25 x26 x27 x28 x29 x30 x31 x32 x33 x34 x35 x36 x37 x38 x39 x40 x41 x42 x43 x44 x45 x46 x47 x48 x49 x50 x51 x52 x53 x54 x55 x56 x57 x58 x59 x60 x61 x62 x63 x64 x65 x66 x67 x68 x69 x70 x71 x72 x73 x0 x1 x2 x3 0 x5 0 x7 x8 x9 x10 x11 0 0 0 0 0 0 0 0 0 0 0 0 0 0 0 0 0 0 0 0 ([] : List (List AV)) 0 0 0 0 0 0 false ([] : List (List AV)) x41 ([] : List (List AV)) ([] : List (List AV)) 0 0 ([] : List (List AV)) ([] : List (List AV)) ([] : List (List AV)) ([] : List (List AV)) ([] : List (List AV)) ([] : List (List AV)) ([] : List (List AV)) ([] : List (List AV)) 0 0 ([] : List (List AV)) ([] : List (List AV)) ([] : List (List AV)) ([] : List (List AV)) ([] : List (List AV)) ([] : List (List AV)) ([] : List (List AV)) ([] : List (List AV)) false 0 ([] : List (List AV)) ([] : List (List AV)) ([] : List (List AV)) ([] : List (List AV)) ([] : List (List AV)) ([] : List (List AV)) ([] : List (List AV)) ([] : List (List AV)) false 0
                else
                  if (cop .eql x0 4) = true then
                    (g38 x7 x8 x9).bind fun (r77 : Bool) =>
                    if r77 = true then
                      if (cop .geq x6 0) = true then
                        if (cop .lss x6 64) = true then
                          g10L0 FUEL x0 x1 x2 x3 x4 x5 x6 x7 x8 x9 x10 x11 x12 x13 x14 x15 x16 x17 x18 x19 x20 x21 x22 x23 x24 x25 x26 x27 x28 x29 x30 x31 x32 x33 x34 x35 x36 x37 x38 x39 x40 x41 x42 x43 x44 x45 x46 x47 x48 x49 x50 x51 x52 x53 x54 x55 x56 x57 x58 x59 x60 x61 x62 x63 x64 x65 x66 x67 x68 x69 x70 x71 x72 x73 x0 x1 x2 x3 0 x5 x6 x7 x8 x9 0 false 0 0 0 0 0 0 0 0 0 0 0 0 0 0 0 0 0 0 0 0 ([] : List (List AV)) 0 0 0 0 0 0 false ([] : List (List AV)) x41 ([] : List (List AV)) ([] : List (List AV)) 0 0 ([] : List (List AV)) ([] : List (List AV)) ([] : List (List AV)) ([] : List (List AV)) ([] : List (List AV)) ([] : List (List AV)) ([] : List (List AV)) ([] : List (List AV)) 0 0 ([] : List (List AV)) ([] : List (List AV)) ([] : List (List AV)) ([] : List (List AV)) ([] : List (List AV)) ([] : List (List AV)) ([] : List (List AV)) ([] : List (List AV)) false 0 ([] : List (List AV)) ([] : List (List AV)) ([] : List (List AV)) ([] : List (List AV)) ([] : List (List AV)) ([] : List (List AV)) ([] : List (List AV)) ([] : List (List AV)) (cop .eql (List.length x41 : Int) 1) 0
                        else
                          g10L0 FUEL x0 x1 x2 x3 x4 x5 x6 x7 x8 x9 x10 x11 x12 x13 x14 x15 x16 x17 x18 x19 x20 x21 x22 x23 x24 x25 x26 x27 x28 x29 x30 x31 x32 x33 x34 x35 x36 x37 x38 x39 x40 x41 x42 x43 x44 x45 x46 x47 x48 x49 x50 x51 x52 x53 x54 x55 x56 x57 x58 x59 x60 x61 x62 x63 x64 x65 x66 x67 x68 x69 x70 x71 x72 x73 x0 x1 x2 x3 0 x5 x6 x7 x8 x9 0 false 0 0 0 0 0 0 0 0 0 0 0 0 0 0 0 0 0 0 0 0 ([] : List (List AV)) 0 0 0 0 0 0 false ([] : List (List AV)) x41 ([] : List (List AV)) ([] : List (List AV)) 0 0 ([] : List (List AV)) ([] : List (List AV)) ([] : List (List AV)) ([] : List (List AV)) ([] : List (List AV)) ([] : List (List AV)) ([] : List (List AV)) ([] : List (List AV)) 0 0 ([] : List (List AV)) ([] : List (List AV)) ([] : List (List AV)) ([] : List (List AV)) ([] : List (List AV)) ([] : List (List AV)) ([] : List (List AV)) ([] : List (List AV)) false 0 ([] : List (List AV)) ([] : List (List AV)) ([] : List (List AV)) ([] : List (List AV)) ([] : List (List AV)) ([] : List (List AV)) ([] : List (List AV)) ([] : List (List AV)) false 0
                      else
                        g10L0 FUEL x0 x1 x2 x3 x4 x5 x6 x7 x8 x9 x10 x11 x12 x13 x14 x15 x16 x17 x18 x19 x20 x21 x22 x23 x24 x25 x26 x27 x28 x29 x30 x31 x32 x33 x34 x35 x36 x37 x38 x39 x40 x41 x42 x43 x44 x45 x46 x47 x48 x49 x50 x51 x52 x53 x54 x55 x56 x57 x58 x59 x60 x61 x62 x63 x64 x65 x66 x67 x68 x69 x70 x71 x72 x73 x0 x1 x2 x3 0 x5 x6 x7 x8 x9 0 false 0 0 0 0 0 0 0 0 0 0 0 0 0 0 0 0 0 0 0 0 ([] : List (List AV)) 0 0 0 0 0 0 false ([] : List (List AV)) x41 ([] : List (List AV)) ([] : List (List AV)) 0 0 ([] : List (List AV)) ([] : List (List AV)) ([] : List (List AV)) ([] : List (List AV)) ([] : List (List AV)) ([] : List (List AV)) ([] : List (List AV)) ([] : List (List AV)) 0 0 ([] : List (List AV)) ([] : List (List AV)) ([] : List (List AV)) ([] : List (List AV)) ([] : List (List AV)) ([] : List (List AV)) ([] : List (List AV)) ([] : List (List AV)) false 0 ([] : List (List AV)) ([] : List (List AV)) ([] : List (List AV)) ([] : List (List AV)) ([] : List (List AV)) ([] : List (List AV)) ([] : List (List AV)) ([] : List (List AV)) false 0
                    else
                      g10L0 FUEL x0 x1 x2 x3 x4 x5 x6 x7 x8 x9 x10 x11 x12 x13 x14 x15 x16 x17 x18 x19 x20 x21 x22 x23 x24 x25 x26 x27 x28 x29 x30 x31 x32 x33 x34 x35 x36 x37 x38 x39 x40 x41 x42 x43 x44 x45 x46 x47 x48 x49 x50 x51 x52 x53 x54 x55 x56 x57 x58 x59 x60 x61 x62 x63 x64 x65 x66 x67 x68 x69 x70 x71 x72 x73 x0 x1 x2 x3 0 x5 x6 x7 x8 x9 0 false 0 0 0 0 0 0 0 0 0 0 0 0 0 0 0 0 0 0 0 0 ([] : List (List AV)) 0 0 0 0 0 0 false ([] : List (List AV)) x41 ([] : List (List AV)) ([] : List (List AV)) 0 0 ([] : List (List AV)) ([] : List (List AV)) ([] : List (List AV)) ([] : List (List AV)) ([] : List (List AV)) ([] : List (List AV)) ([] : List (List AV)) ([] : List (List AV)) 0 0 ([] : List (List AV)) ([] : List (List AV)) ([] : List (List AV)) ([] : List (List AV)) ([] : List (List AV)) ([] : List (List AV)) ([] : List (List AV)) ([] : List (List AV)) false 0 ([] : List (List AV)) ([] : List (List AV)) ([] : List (List AV)) ([] : List (List AV)) ([] : List (List AV)) ([] : List (List AV)) ([] : List (List AV)) ([] : List (List AV)) false 0
                  else
                    if (cop .eql x0 5) = true then
                      (g38 x7 x8 x9).bind fun (r77 : Bool) =>
                      if r77 = true then
                        (g39 x10).bind fun (r78 : Bool) =>
                        g10L0 FUEL x0 x1 x2 x3 x4 x5 x6 x7 x8 x9 x10 x11 x12 x13 x14 x15 x16 x17 x18 x19 x20 x21 x22 x23 x24 x25 x26 x27 x28 x29 x30 x31 x32 x33 x34 x35 x36 x37 x38 x39 x40 x41 x42 x43 x44 x45 x46 x47 x48 x49 x50 x51 x52 x53 x54 x55 x56 x57 x58 x59 x60 x61 x62 x63 x64 x65 x66 x67 x68 x69 x70 x71 x72 x73 x0 x1 x2 x3 0 x5 0 x7 x8 x9 x10 false 0 0 0 0 0 0 0 0 0 0 0 0 0 0 0 0 0 0 0 0 ([] : List (List AV)) 0 0 0 0 0 0 false ([] : List (List AV)) ([] : List (List AV)) ([] : List (List AV)) ([] : List (List AV)) 0 0 ([] : List (List AV)) ([] : List (List AV)) ([] : List (List AV)) ([] : List (List AV)) ([] : List (List AV)) ([] : List (List AV)) ([] : List (List AV)) ([] : List (List AV)) 0 0 ([] : List (List AV)) ([] : List (List AV)) ([] : List (List AV)) ([] : List (List AV)) ([] : List (List AV)) ([] : List (List AV)) ([] : List (List AV)) ([] : List (List AV)) false 0 ([] : List (List AV)) ([] : List (List AV)) ([] : List (List AV)) ([] : List (List AV)) ([] : List (List AV)) ([] : List (List AV)) ([] : List (List AV)) ([] : List (List AV)) r78 0
                      else
                        g10L0 FUEL x0 x1 x2 x3 x4 x5 x6 x7 x8 x9 x10 x11 x12 x13 x14 x15 x16 x17 x18 x19 x20 x21 x22 x23 x24 x25 x26 x27 x28 x29 x30 x31 x32 x33 x34 x35 x36 x37 x38 x39 x40 x41 x42 x43 x44 x45 x46 x47 x48 x49 x50 x51 x52 x53 x54 x55 x56 x57 x58 x59 x60 x61 x62 x63 x64 x65 x66 x67 x68 x69 x70 x71 x72 x73 x0 x1 x2 x3 0 x5 0 x7 x8 x9 x10 false 0 0 0 0 0 0 0 0 0 0 0 0 0 0 0 0 0 0 0 0 ([] : List (List AV)) 0 0 0 0 0 0 false ([] : List (List AV)) ([] : List (List AV)) ([] : List (List AV)) ([] : List (List AV)) 0 0 ([] : List (List AV)) ([] : List (List AV)) ([] : List (List AV)) ([] : List (List AV)) ([] : List (List AV)) ([] : List (List AV)) ([] : List (List AV)) ([] : List (List AV)) 0 0 ([] : List (List AV)) ([] : List (List AV)) ([] : List (List AV)) ([] : List (List AV)) ([] : List (List AV)) ([] : List (List AV)) ([] : List (List AV)) ([] : List (List AV)) false 0 ([] : List (List AV)) ([] : List (List AV)) ([] : List (List AV)) ([] : List (List AV)) ([] : List (List AV)) ([] : List (List AV)) ([] : List (List AV)) ([] : List (List AV)) false 0
                    else
                      if (cop .eql x0 6) = true then
                        (g38 x7 x8 x9).bind fun (r77 : Bool) =>
                        if r77 = true then
                          (g40 x40 false).bind fun (r78 : Bool) =>
                          if r78 = true then
                            g10L0 FUEL x0 x1 x2 x3 x4 x5 x6 x7 x8 x9 x10 x11 x12 x13 x14 x15 x16 x17 x18 x19 x20 x21 x22 x23 x24 x25 x26 x27 x28 x29 x30 x31 x32 x33 x34 x35 x36 x37 x38 x39 x40 x41 x42 x43 x44 x45 x46 x47 x48 x49 x50 x51 x52 x53 x54 x55 x56 x57 x58 x59 x60 x61 x62 x63 x64 x65 x66 x67 x68 x69 x70 x71 x72 x73 x0 x1 x2 x3 0 x5 0 x7 x8 x9 0 false 0 0 0 0 0 0 0 0 0 0 0 0 0 0 0 0 0 0 0 0 ([] : List (List AV)) 0 0 0 0 0 0 false x40 ([] : List (List AV)) ([] : List (List AV)) ([] : List (List AV)) 0 0 ([] : List (List AV)) ([] : List (List AV)) ([] : List (List AV)) ([] : List (List AV)) ([] : List (List AV)) ([] : List (List AV)) ([] : List (List AV)) ([] : List (List AV)) 0 0 ([] : List (List AV)) ([] : List (List AV)) ([] : List (List AV)) ([] : List (List AV)) ([] : List (List AV)) ([] : List (List AV)) ([] : List (List AV)) ([] : List (List AV)) false 0 ([] : List (List AV)) ([] : List (List AV)) ([] : List (List AV)) ([] : List (List AV)) ([] : List (List AV)) ([] : List (List AV)) ([] : List (List AV)) ([] : List (List AV)) (cop .leq (List.length x40 : Int) 64) 0
                          else
                            g10L0 FUEL x0 x1 x2 x3 x4 x5 x6 x7 x8 x9 x10 x11 x12 x13 x14 x15 x16 x17 x18 x19 x20 x21 x22 x23 x24 x25 x26 x27 x28 x29 x30 x31 x32 x33 x34 x35 x36 x37 x38 x39 x40 x41 x42 x43 x44 x45 x46 x47 x48 x49 x50 x51 x52 x53 x54 x55 x56 x57 x58 x59 x60 x61 x62 x63 x64 x65 x66 x67 x68 x69 x70 x71 x72 x73 x0 x1 x2 x3 0 x5 0 x7 x8 x9 0 false 0 0 0 0 0 0 0 0 0 0 0 0 0 0 0 0 0 0 0 0 ([] : List (List AV)) 0 0 0 0 0 0 false x40 ([] : List (List AV)) ([] : List (List AV)) ([] : List (List AV)) 0 0 ([] : List (List AV)) ([] : List (List AV)) ([] : List (List AV)) ([] : List (List AV)) ([] : List (List AV)) ([] : List (List AV)) ([] : List (List AV)) ([] : List (List AV)) 0 0 ([] : List (List AV)) ([] : List (List AV)) ([] : List (List AV)) ([] : List (List AV)) ([] : List (List AV)) ([] : List (List AV)) ([] : List (List AV)) ([] : List (List AV)) false 0 ([] : List (List AV)) ([] : List (List AV)) ([] : List (List AV)) ([] : List (List AV)) ([] : List (List AV)) ([] : List (List AV)) ([] : List (List AV)) ([] : List (List AV)) false 0
                        else
                          g10L0 FUEL x0 x1 x2 x3 x4 x5 x6 x7 x8 x9 x10 x11 x12 x13 x14 x15 x16 x17 x18 x19 x20 x21 x22 x23 x24 x25 x26 x27 x28 x29 x30 x31 x32 x33 x34 x35 x36 x37 x38 x39 x40 x41 x42 x43 x44 x45 x46 x47 x48 x49 x50 x51 x52 x53 x54 x55 x56 x57 x58 x59 x60 x61 x62 x63 x64 x65 x66 x67 x68 x69 x70 x71 x72 x73 x0 x1 x2 x3 0 x5 0 x7 x8 x9 0 false 0 0 0 0 0 0 0 0 0 0 0 0 0 0 0 0 0 0 0 0 ([] : List (List AV)) 0 0 0 0 0 0 false x40 ([] : List (List AV)) ([] : List (List AV)) ([] : List (List AV)) 0 0 ([] : List (List AV)) ([] : List (List AV)) ([] : List (List AV)) ([] : List (List AV)) ([] : List (List AV)) ([] : List (List AV)) ([] : List (List AV)) ([] : List (List AV)) 0 0 ([] : List (List AV)) ([] : List (List AV)) ([] : List (List AV)) ([] : List (List AV)) ([] : List (List AV)) ([] : List (List AV)) ([] : List (List AV)) ([] : List (List AV)) false 0 ([] : List (List AV)) ([] : List (List AV)) ([] : List (List AV)) ([] : List (List AV)) ([] : List (List AV)) ([] : List (List AV)) ([] : List (List AV)) ([] : List (List AV)) false 0
                      else
                        if (cop .eql x0 12) = true then
                          (g36 x4).bind fun (r77 : Bool) =>
                          if r77 = true then
                            (g41 x42).bind fun (r78 : Bool) =>
                            g10L0 FUEL x0 x1 x2 x3 x4 x5 x6 x7 x8 x9 x10 x11 x12 x13 x14 x15 x16 x17 x18 x19 x20 x21 x22 x23 x24 x25 x26 x27 x28 x29 x30 x31 x32 x33 x34 x35 x36 x37 x38 x39 x40 x41 x42 x43 x44 x45 x46 x47 x48 x49 x50 x51 x52 x53 x54 x55 x56 x57 x58 x59 x60 x61 x62 x63 x64 x65 x66 x67 x68 x69 x70 x71 x72 x73 x0 x1 x2 x3 x4 0 0 0 0 0 0 false 0 0 0 0 0 0 0 0 0 0 0 0 0 0 0 0 0 0 0 0 ([] : List (List AV)) 0 0 0 0 0 0 false ([] : List (List AV)) ([] : List (List AV)) x42 ([] : List (List AV)) 0 0 ([] : List (List AV)) ([] : List (List AV)) ([] : List (List AV)) ([] : List (List AV)) ([] : List (List AV)) ([] : List (List AV)) ([] : List (List AV)) ([] : List (List AV)) 0 0 ([] : List (List AV)) ([] : List (List AV)) ([] : List (List AV)) ([] : List (List AV)) ([] : List (List AV)) ([] : List (List AV)) ([] : List (List AV)) ([] : List (List AV)) false 0 ([] : List (List AV)) ([] : List (List AV)) ([] : List (List AV)) ([] : List (List AV)) ([] : List (List AV)) ([] : List (List AV)) ([] : List (List AV)) ([] : List (List AV)) r78 0
                          else
                            g10L0 FUEL x0 x1 x2 x3 x4 x5 x6 x7 x8 x9 x10 x11 x12 x13 x14 x15 x16 x17 x18 x19 x20 x21 x22 x23 x24 x25 x26 x27 x28 x29 x30 x31 x32 x33 x34 x35 x36 x37 x38 x39 x40 x41 x42 x43 x44 x45 x46 x47 x48 x49 x50 x51 x52 x53 x54 x55 x56 x57 x58 x59 x60 x61 x62 x63 x64 x65 x66 x67 x68 x69 x70 x71 x72 x73 x0 x1 x2 x3 x4 0 0 0 0 0 0 false 0 0 0 0 0 0 0 0 0 0 0 0 0 0 0 0 0 0 0 0 ([] : List (List AV)) 0 0 0 0 0 0 false ([] : List (List AV)) ([] : List (List AV)) x42 ([] : List (List AV)) 0 0 ([] : List (List AV)) ([] : List (List AV)) ([] : List (List AV)) ([] : List (List AV)) ([] : List (List AV)) ([] : List (List AV)) ([] : List (List AV)) ([] : List (List AV)) 0 0 ([] : List (List AV)) ([] : List (List AV)) ([] : List (List AV)) ([] : List (List AV)) ([] : List (List AV)) ([] : List (List AV)) ([] : List (List AV)) ([] : List (List AV)) false 0 ([] : List (List AV)) ([] : List (List AV)) ([] : List (List AV)) ([] : List (List AV)) ([] : List (List AV)) ([] : List (List AV)) ([] : List (List AV)) ([] : List (List AV)) false 0
                        else
                          if (cop .eql x0 13) = true then
                            (g36 x4).bind fun (r77 : Bool) =>
                            if r77 = true then
                              (g42 x54 x55 x56 x57 x58 x59 x60 x61 x62 x63 x64 x65 x66 x67 x68 x69 x70 x71 x72 x73).bind fun (r78 : Bool) =>
                              g10L0 FUEL x0 x1 x2 x3 x4 x5 x6 x7 x8 x9 x10 x11 x12 x13 x14 x15 x16 x17 x18 x19 x20 x21 x22 x23 x24 x25 x26 x27 x28 x29 x30 x31 x32 x33 x34 x35 x36 x37 x38 x39 x40 x41 x42 x43 x44 x45 x46 x47 x48 x49 x50 x51 x52 x53 x54 x55 x56 x57 x58 x59 x60 x61 x62 x63 x64 x65 x66 x67 x68 x69 x70 x71 x72 x73 x0 x1 x2 x3 x4 0 0 0 0 0 0 false 0 0 0 0 0 0 0 0 0 0 0 0 0 0 0 0 0 0 0 0 ([] : List (List AV)) 0 0 0 0 0 0 false ([] : List (List AV)) ([] : List (List AV)) ([] : List (List AV)) ([] : List (List AV)) 0 0 ([] : List (List AV)) ([] : List (List AV)) ([] : List (List AV)) ([] : List (List AV)) ([] : List (List AV)) ([] : List (List AV)) ([] : List (List AV)) ([] : List (List AV)) x54 x55 x56 x57 x58 x59 x60 x61 x62 x63 x64 x65 x66 x67 x68 x69 x70 x71 x72 x73 r78 0
                            else
                              g10L0 FUEL x0 x1 x2 x3 x4 x5 x6 x7 x8 x9 x10 x11 x12 x13 x14 x15 x16 x17 x18 x19 x20 x21 x22 x23 x24 x25 x26 x27 x28 x29 x30 x31 x32 x33 x34 x35 x36 x37 x38 x39 x40 x41 x42 x43 x44 x45 x46 x47 x48 x49 x50 x51 x52 x53 x54 x55 x56 x57 x58 x59 x60 x61 x62 x63 x64 x65 x66 x67 x68 x69 x70 x71 x72 x73 x0 x1 x2 x3 x4 0 0 0 0 0 0 false 0 0 0 0 0 0 0 0 0 0 0 0 0 0 0 0 0 0 0 0 ([] : List (List AV)) 0 0 0 0 0 0 false ([] : List (List AV)) ([] : List (List AV)) ([] : List (List AV)) ([] : List (List AV)) 0 0 ([] : List (List AV)) ([] : List (List AV)) ([] : List (List AV)) ([] : List (List AV)) ([] : List (List AV)) ([] : List (List AV)) ([] : List (List AV)) ([] : List (List AV)) x54 x55 x56 x57 x58 x59 x60 x61 x62 x63 x64 x65 x66 x67 x68 x69 x70 x71 x72 x73 false 0
                          else
                            if (cop .eql x0 14) = true then
                              (g36 x4).bind fun (r77 : Bool) =>
                              if r77 = true then
                                (g36 x44).bind fun (r78 : Bool) =>
                                if r78 = true then
                                  (g41 x42).bind fun (r79 : Bool) =>
                                  if r79 = true then
                                    (g43 x45 x46 x47).bind fun (r80 : Bool) =>
                                    if r80 = true then
                                      (g15 x48 x49 x50 x51 x52 x53).bind fun (r81 : Bool) =>
                                      g10L0 FUEL x0 x1 x2 x3 x4 x5 x6 x7 x8 x9 x10 x11 x12 x13 x14 x15 x16 x17 x18 x19 x20 x21 x22 x23 x24 x25 x26 x27 x28 x29 x30 x31 x32 x33 x34 x35 x36 x37 x38 x39 x40 x41 x42 x43 x44 x45 x46 x47 x48 x49 x50 x51 x52 x53 x54 x55 x56 x57 x58 x59 x60 x61 x62 x63 x64 x65 x66 x67 x68 x69 x70 x71 x72 x73 x0 x1 x2 x3 x4 0 0 0 0 0 0 false 0 0 0 0 0 0 0 0 0 0 0 0 0 0 0 0 0 0 0 0 ([] : List (List AV)) 0 0 0 0 0 0 false ([] : List (List AV)) ([] : List (List AV)) x42 ([] : List (List AV)) x44 x45 x46 x47 x48 x49 x50 x51 x52 x53 0 0 ([] : List (List AV)) ([] : List (List AV)) ([] : List (List AV)) ([] : List (List AV)) ([] : List (List AV)) ([] : List (List AV)) ([] : List (List AV)) ([] : List (List AV)) false 0 ([] : List (List AV)) ([] : List (List AV)) ([] : List (List AV)) ([] : List (List AV)) ([] : List (List AV)) ([] : List (List AV)) ([] : List (List AV)) ([] : List (List AV)) r81 0
                                    else
                                      g10L0 FUEL x0 x1 x2 x3 x4 x5 x6 x7 x8 x9 x10 x11 x12 x13 x14 x15 x16 x17 x18 x19 x20 x21 x22 x23 x24 x25 x26 x27 x28 x29 x30 x31 x32 x33 x34 x35 x36 x37 x38 x39 x40 x41 x42 x43 x44 x45 x46 x47 x48 x49 x50 x51 x52 x53 x54 x55 x56 x57 x58 x59 x60 x61 x62 x63 x64 x65 x66 x67 x68 x69 x70 x71 x72 x73 x0 x1 x2 x3 x4 0 0 0 0 0 0 false 0 0 0 0 0 0 0 0 0 0 0 0 0 0 0 0 0 0 0 0 ([] : List (List AV)) 0 0 0 0 0 0 false ([] : List (List AV)) ([] : List (List AV)) x42 ([] : List (List AV)) x44 x45 x46 x47 x48 x49 x50 x51 x52 x53 0 0 ([] : List (List AV)) ([] : List (List AV)) ([] : List (List AV)) ([] : List (List AV)) ([] : List (List AV)) ([] : List (List AV)) ([] : List (List AV)) ([] : List (List AV)) false 0 ([] : List (List AV)) ([] : List (List AV)) ([] : List (List AV)) ([] : List (List AV)) ([] : List (List AV)) ([] : List (List AV)) ([] : List (List AV)) ([] : List (List AV)) false 0
                                  else
                                    g10L0 FUEL x0 x1 x2 x3 x4 x5 x6 x7 x8 x9 x10 x11 x12 x13 x14 x15 x16 x17 x18 x19 x20 x21 x22 x23 x24 x25 x26 x27 x28 x29 x30 x31 x32 x33 x34 x35 x36 x37 x38 x39 x40 x41 x42 x43 x44 x45 x46 x47 x48 x49 x50 x51 x52 x53 x54 x55 x56 x57 x58 x59 x60 x61 x62 x63 x64 x65 x66 x67 x68 x69 x70 x71 x72 x73 x0 x1 x2 x3 x4 0 0 0 0 0 0 false 0 0 0 0 0 0 0 0 0 0 0 0 0 0 0 0 0 0 0 0 ([] : List (List AV)) 0 0 0 0 0 0 false ([] : List (List AV)) ([] : List (List AV)) x42 ([] : List (List AV)) x44 x45 x46 x47 x48 x49 x50 x51 x52 x53 0 0 ([] : List (List AV)) ([] : List (List AV)) ([] : List (List AV)) ([] : List (List AV)) ([] : List (List AV)) ([] : List (List AV)) ([] : List (List AV)) ([] : List (List AV)) false 0 ([] : List (List AV)) ([] : List (List AV)) ([] : List (List AV)) ([] : List (List AV)) ([] : List (List AV)) ([] : List (List AV)) ([] : List (List AV)) ([] : List (List AV)) false 0
                                else
                                  g10L0 FUEL x0 x1 x2 x3 x4 x5 x6 x7 x8 x9 x10 x11 x12 x13 x14 x15 x16 x17 x18 x19 x20 x21 x22 x23 x24 x25 x26 x27 x28 x29 x30 x31 x32 x33 x34 x35 x36 x37 x38 x39 x40 x41 x42 x43 x44 x45 x46 x47 x48 x49 x50 x51 x52 x53 x54 x55 x56 x57 x58 x59 x60 x61 x62 x63 x64 x65 x66 x67 x68 x69 x70 x71 x72 x73 x0 x1 x2 x3 x4 0 0 0 0 0 0 false 0 0 0 0 0 0 0 0 0 0 0 0 0 0 0 0 0 0 0 0 ([] : List (List AV)) 0 0 0 0 0 0 false ([] : List (List AV)) ([] : List (List AV)) x42 ([] : List (List AV)) x44 x45 x46 x47 x48 x49 x50 x51 x52 x53 0 0 ([] : List (List AV)) ([] : List (List AV)) ([] : List (List AV)) ([] : List (List AV)) ([] : List (List AV)) ([] : List (List AV)) ([] : List (List AV)) ([] : List (List AV)) false 0 ([] : List (List AV)) ([] : List (List AV)) ([] : List (List AV)) ([] : List (List AV)) ([] : List (List AV)) ([] : List (List AV)) ([] : List (List AV)) ([] : List (List AV)) false 0
                              else
                                g10L0 FUEL x0 x1 x2 x3 x4 x5 x6 x7 x8 x9 x10 x11 x12 x13 x14 x15 x16 x17 x18 x19 x20 x21 x22 x23 x24 x25 x26 x27 x28 x29 x30 x31 x32 x33 x34 x35 x36 x37 x38 x39 x40 x41 x42 x43 x44 x45 x46 x47 x48 x49 x50 x51 x52 x53 x54 x55 x56 x57 x58 x59 x60 x61 x62 x63 x64 x65 x66 x67 x68 x69 x70 x71 x72 x73 x0 x1 x2 x3 x4 0 0 0 0 0 0 false 0 0 0 0 0 0 0 0 0 0 0 0 0 0 0 0 0 0 0 0 ([] : List (List AV)) 0 0 0 0 0 0 false ([] : List (List AV)) ([] : List (List AV)) x42 ([] : List (List AV)) x44 x45 x46 x47 x48 x49 x50 x51 x52 x53 0 0 ([] : List (List AV)) ([] : List (List AV)) ([] : List (List AV)) ([] : List (List AV)) ([] : List (List AV)) ([] : List (List AV)) ([] : List (List AV)) ([] : List (List AV)) false 0 ([] : List (List AV)) ([] : List (List AV)) ([] : List (List AV)) ([] : List (List AV)) ([] : List (List AV)) ([] : List (List AV)) ([] : List (List AV)) ([] : List (List AV)) false 0
                            else
                              if (cop .eql x0 15) = true then
                                (g36 x4).bind fun (r77 : Bool) =>
                                g10L0 FUEL x0 x1 x2 x3 x4 x5 x6 x7 x8 x9 x10 x11 x12 x13 x14 x15 x16 x17 x18 x19 x20 x21 x22 x23 x24 x25 x26 x27 x28 x29 x30 x31 x32 x33 x34 x35 x36 x37 x38 x39 x40 x41 x42 x43 x44 x45 x46 x47 x48 x49 x50 x51 x52 x53 x54 x55 x56 x57 x58 x59 x60 x61 x62 x63 x64 x65 x66 x67 x68 x69 x70 x71 x72 x73 x0 x1 x2 x3 x4 0 0 0 0 0 0 false 0 0 0 0 0 0 0 0 0 0 0 0 0 0 0 0 0 0 0 0 ([] : List (List AV)) 0 0 0 0 0 0 false ([] : List (List AV)) ([] : List (List AV)) ([] : List (List AV)) ([] : List (List AV)) 0 0 ([] : List (List AV)) ([] : List (List AV)) ([] : List (List AV)) ([] : List (List AV)) ([] : List (List AV)) ([] : List (List AV)) ([] : List (List AV)) ([] : List (List AV)) 0 0 ([] : List (List AV)) ([] : List (List AV)) ([] : List (List AV)) ([] : List (List AV)) ([] : List (List AV)) ([] : List (List AV)) ([] : List (List AV)) ([] : List (List AV)) false 0 ([] : List (List AV)) ([] : List (List AV)) ([] : List (List AV)) ([] : List (List AV)) ([] : List (List AV)) ([] : List (List AV)) ([] : List (List AV)) ([] : List (List AV)) r77 0
                              else
                                if (cop .eql x0 16) = true then
                                  (g36 x4).bind fun (r77 : Bool) =>
                                  g10L0 FUEL x0 x1 x2 x3 x4 x5 x6 x7 x8 x9 x10 x11 x12 x13 x14 x15 x16 x17 x18 x19 x20 x21 x22 x23 x24 x25 x26 x27 x28 x29 x30 x31 x32 x33 x34 x35 x36 x37 x38 x39 x40 x41 x42 x43 x44 x45 x46 x47 x48 x49 x50 x51 x52 x53 x54 x55 x56 x57 x58 x59 x60 x61 x62 x63 x64 x65 x66 x67 x68 x69 x70 x71 x72 x73 x0 x1 x2 x3 x4 0 0 0 0 0 0 false 0 0 0 0 0 0 0 0 0 0 0 0 0 0 0 0 0 0 0 0 ([] : List (List AV)) 0 0 0 0 0 0 false ([] : List (List AV)) ([] : List (List AV)) ([] : List (List AV)) ([] : List (List AV)) 0 0 ([] : List (List AV)) ([] : List (List AV)) ([] : List (List AV)) ([] : List (List AV)) ([] : List (List AV)) ([] : List (List AV)) ([] : List (List AV)) ([] : List (List AV)) 0 0 ([] : List (List AV)) ([] : List (List AV)) ([] : List (List AV)) ([] : List (List AV)) ([] : List (List AV)) ([] : List (List AV)) ([] : List (List AV)) ([] : List (List AV)) false 0 ([] : List (List AV)) ([] : List (List AV)) ([] : List (List AV)) ([] : List (List AV)) ([] : List (List AV)) ([] : List (List AV)) ([] : List (List AV)) ([] : List (List AV)) r77 0
                                else
                                  if (cop .eql x0 17) = true then
                                    (g41 x42).bind fun (r77 : Bool) =>
                                    if r77 = true then
                                      (g44 x43).bind fun (r78 : Bool) =>
                                      g10L0 FUEL x0 x1 x2 x3 x4 x5 x6 x7 x8 x9 x10 x11 x12 x13 x14 x15 x16 x17 x18 x19 x20 x21 x22 x23 x24 x25 x26 x27 x28 x29 x30 x31 x32 x33 x34 x35 x36 x37 x38 x39 x40 x41 x42 x43 x44 x45 x46 x47 x48 x49 x50 x51 x52 x53 x54 x55 x56 x57 x58 x59 x60 x61 x62 x63 x64 x65 x66 x67 x68 x69 x70 x71 x72 x73 x0 x1 x2 x3 0 0 0 0 0 0 0 false 0 0 0 0 0 0 0 0 0 0 0 0 0 0 0 0 0 0 0 0 ([] : List (List AV)) 0 0 0 0 0 0 false ([] : List (List AV)) ([] : List (List AV)) x42 x43 0 0 ([] : List (List AV)) ([] : List (List AV)) ([] : List (List AV)) ([] : List (List AV)) ([] : List (List AV)) ([] : List (List AV)) ([] : List (List AV)) ([] : List (List AV)) 0 0 ([] : List (List AV)) ([] : List (List AV)) ([] : List (List AV)) ([] : List (List AV)) ([] : List (List AV)) ([] : List (List AV)) ([] : List (List AV)) ([] : List (List AV)) false 0 ([] : List (List AV)) ([] : List (List AV)) ([] : List (List AV)) ([] : List (List AV)) ([] : List (List AV)) ([] : List (List AV)) ([] : List (List AV)) ([] : List (List AV)) r78 0
                                    else
                                      g10L0 FUEL x0 x1 x2 x3 x4 x5 x6 x7 x8 x9 x10 x11 x12 x13 x14 x15 x16 x17 x18 x19 x20 x21 x22 x23 x24 x25 x26 x27 x28 x29 x30 x31 x32 x33 x34 x35 x36 x37 x38 x39 x40 x41 x42 x43 x44 x45 x46 x47 x48 x49 x50 x51 x52 x53 x54 x55 x56 x57 x58 x59 x60 x61 x62 x63 x64 x65 x66 x67 x68 x69 x70 x71 x72 x73 x0 x1 x2 x3 0 0 0 0 0 0 0 false 0 0 0 0 0 0 0 0 0 0 0 0 0 0 0 0 0 0 0 0 ([] : List (List AV)) 0 0 0 0 0 0 false ([] : List (List AV)) ([] : List (List AV)) x42 x43 0 0 ([] : List (List AV)) ([] : List (List AV)) ([] : List (List AV)) ([] : List (List AV)) ([] : List (List AV)) ([] : List (List AV)) ([] : List (List AV)) ([] : List (List AV)) 0 0 ([] : List (List AV)) ([] : List (List AV)) ([] : List (List AV)) ([] : List (List AV)) ([] : List (List AV)) ([] : List (List AV)) ([] : List (List AV)) ([] : List (List AV)) false 0 ([] : List (List AV)) ([] : List (List AV)) ([] : List (List AV)) ([] : List (List AV)) ([] : List (List AV)) ([] : List (List AV)) ([] : List (List AV)) ([] : List (List AV)) false 0
                                  else
                                    (g38 x7 x8 x9).bind fun (r77 : Bool) =>
                                    g10L0 FUEL x0 x1 x2 x3 x4 x5 x6 x7 x8 x9 x10 x11 x12 x13 x14 x15 x16 x17 x18 x19 x20 x21 x22 x23 x24 x25 x26 x27 x28 x29 x30 x31 x32 x33 x34 x35 x36 x37 x38 x39 x40 x41 x42 x43 x44 x45 x46 x47 x48 x49 x50 x51 x52 x53 x54 x55 x56 x57 x58 x59 x60 x61 x62 x63 x64 x65 x66 x67 x68 x69 x70 x71 x72 x73 x0 x1 x2 x3 0 x5 0 x7 x8 x9 0 false 0 0 0 0 0 0 0 0 0 0 0 0 0 0 0 0 0 0 0 0 ([] : List (List AV)) 0 0 0 0 0 0 false ([] : List (List AV)) ([] : List (List AV)) ([] : List (List AV)) ([] : List (List AV)) 0 0 ([] : List (List AV)) ([] : List (List AV)) ([] : List (List AV)) ([] : List (List AV)) ([] : List (List AV)) ([] : List (List AV)) ([] : List (List AV)) ([] : List (List AV)) 0 0 ([] : List (List AV)) ([] : List (List AV)) ([] : List (List AV)) ([] : List (List AV)) ([] : List (List AV)) ([] : List (List AV)) ([] : List (List AV)) ([] : List (List AV)) false 0 ([] : List (List AV)) ([] : List (List AV)) ([] : List (List AV)) ([] : List (List AV)) ([] : List (List AV)) ([] : List (List AV)) ([] : List (List AV)) ([] : List (List AV)) r77 0) := by kernel_rfl

/- multikernel/binenc.AppendUvarint -/
def E72 : Env := envG 50 [4] [(3, [(0, .c (.slice 1)), (1, .c (.int .u64)), (5, .c (.int .i64)), (6, .c (.int .u64))]), (9, [(0, .c (.slice 1)), (1, .c (.int .u64)), (5, .c (.int .i64)), (7, .mref 22), (8, .c (.int .i64)), (22, .row 5)])] [] 0
def A72 : List AP := [.c (.slice 1), .c (.int .u64)]
def R72 : List RSh := [.c (.own 5)]
noncomputable def T72 : STree := evFn Tryz.prog E72 Tryz.f72 (argsAt A72 0) 2
noncomputable def T72L0 : STree := T72.go [2, 1, 2]
noncomputable def T72L1 : STree := T72.go [2]
noncomputable def P72 : List (FuncId × Fun) := []
noncomputable def S72 : Fun := ⟨A72, R72, fun vs => T72.run Tryz.prog P72 A72 R72 (fun _ _ => none) (envL vs)⟩
theorem ok72 : S72.Ok Tryz.prog 72 := fun_ok (Φ := P72) (S := S72) mixed plain_ok Tryz.func72 (by kernel_rfl) (by kernel_rfl) (by kernel_rfl) (T := T72) rfl trivial (fun _ => by kernel_rfl)
noncomputable def g72 (x0 : List (List AV)) (x1 : Int) : Option (List (List AV)) := S72.g [.l x0, .i x1]
noncomputable def g72L0 (k : Nat) (x0 : List (List AV)) (x1 x2 x3 x4 x5 : Int) (x6 : List (List AV)) : Option (List (List AV)) := iterL (fun rec vs => STree.run Tryz.prog P72 A72 R72 T72L0 (updR (fun _ _ => none) 0 rec) (bind zeroE 0 vs)) k [.l x0, .i x1, .i x2, .i x3, .i x4, .i x5, .l x6]
theorem g72L0_eq (k : Nat) (x0 : List (List AV)) (x1 x2 x3 x4 x5 : Int) (x6 : List (List AV)) : g72L0 (k + 1) x0 x1 x2 x3 x4 x5 x6 =
    (if (cop .lss x3 x2) = true then
      if (cop .lss x3 (iop .sub .i64 x2 1)) = true then
        reqK ((0 : Int) ≤ (iop .add .i64 (List.length x0 : Int) x3)) <|
        reqK (((iop .add .i64 (List.length x0 : Int) x3) : Int) < x4) <|
        reqK ((0 : Int) ≤ (iop .add .i64 (List.length x0 : Int) x3)) <|
        reqK (((iop .add .i64 (List.length x0 : Int) x3) : Int) < x4) <|
        reqK ((0 : Int) ≤ 7) <|
        g72L0 k x0 (iop .shr .u64 x1 7) x2 (iop .add .i64 x3 1) x4 x5 (setElem x6 (Int.toNat (iop .add .i64 (List.length x0 : Int) x3)) 0 [AV.val (.int .u8 (iop .or .u8 (IntKind.wrap .u8 (iop .and .u64 x1 127)) 128))])
      else
        reqK ((0 : Int) ≤ (iop .add .i64 (List.length x0 : Int) x3)) <|
        reqK (((iop .add .i64 (List.length x0 : Int) x3) : Int) < x4) <|
        reqK ((0 : Int) ≤ (iop .add .i64 (List.length x0 : Int) x3)) <|
        reqK (((iop .add .i64 (List.length x0 : Int) x3) : Int) < x4) <|
        reqK ((0 : Int) ≤ 7) <|
        g72L0 k x0 (iop .shr .u64 x1 7) x2 (iop .add .i64 x3 1) x4 x5 (setElem x6 (Int.toNat (iop .add .i64 (List.length x0 : Int) x3)) 0 [AV.val (.int .u8 (IntKind.wrap .u8 (iop .and .u64 x1 127)))])
    else
      some (x6)) := by kernel_rfl
noncomputable def g72L1 (k : Nat) (x0 : List (List AV)) (x1 x2 x3 : Int) : Option (List (List AV)) := iterL (fun rec vs => STree.run Tryz.prog P72 A72 R72 T72L1 (updR (fun _ _ => none) 0 rec) (bind zeroE 0 vs)) k [.l x0, .i x1, .i x2, .i x3]
theorem g72L1_eq (k : Nat) (x0 : List (List AV)) (x1 x2 x3 : Int) : g72L1 (k + 1) x0 x1 x2 x3 =
    (if (cop .gtr x3 0) = true then
      reqK ((0 : Int) ≤ 7) <|
      g72L1 k x0 x1 (iop .add .i64 x2 1) (iop .shr .u64 x3 7)
    else
      reqK (makeP (iop .add .i64 (List.length x0 : Int) x2) 1) <|
      g72L0 FUEL x0 x1 x2 0 (iop .add .i64 (List.length x0 : Int) x2) (iop .add .i64 (List.length x0 : Int) x2) (splL (List.replicate (Int.toNat (iop .add .i64 (List.length x0 : Int) x2)) [AV.val (.int .u8 0)]) x0)) := by kernel_rfl
theorem g72_eq (x0 : List (List AV)) (x1 : Int) : g72 x0 x1 =
    (reqK ((0 : Int) ≤ 7) <|
    g72L1 FUEL x0 x1 1 (iop .shr .u64 x1 7)) := by kernel_rfl

/- (*multikernel/wire.writer).uint -/
def E18 : Env := envG 14 [] [] [0] 0
def A18 : List AP := [.box [.own 5], .c (.int .i64)]
def R18 : List RSh := []
noncomputable def T18 : STree := evFn Tryz.prog E18 Tryz.f18 (argsAt A18 0) 2
noncomputable def P18 : List (FuncId × Fun) := [(72, S72)]
noncomputable def S18 : Fun := ⟨A18, R18, fun vs => T18.run Tryz.prog P18 A18 R18 (fun _ _ => none) (envL vs)⟩
theorem ok18 : S18.Ok Tryz.prog 18 := fun_ok (Φ := P18) (S := S18) mixed plain_ok Tryz.func18 (by kernel_rfl) (by kernel_rfl) (by kernel_rfl) (T := T18) rfl (And.intro ok72 trivial) (fun _ => by kernel_rfl)
noncomputable def g18 (x0 : List (List AV)) (x1 : Int) : Option (List (List AV)) := S18.g [.l x0, .i x1]
theorem g18_eq (x0 : List (List AV)) (x1 : Int) : g18 x0 x1 =
    ((g72 x0 (IntKind.wrap .u64 x1)).bind fun (r2 : List (List AV)) =>
    some (r2)) := by kernel_rfl

/- multikernel/node.AppendId -/
def E147 : Env := envG 25 [4] [(2, [(0, .c (.own 5)), (13, .c (.slice 1)), (14, .c (.int .i64)), (15, .c (.int .i64))])] [] 0
def A147 : List AP := [.c (.own 5), .agg [.int .i64, .int .i64, .int .i64]]
def R147 : List RSh := [.c (.own 5)]
noncomputable def T147 : STree := evFn Tryz.prog E147 Tryz.f147 (argsAt A147 0) 4
noncomputable def T147L0 : STree := T147.go [0]
noncomputable def P147 : List (FuncId × Fun) := [(72, S72)]
noncomputable def S147 : Fun := ⟨A147, R147, fun vs => T147.run Tryz.prog P147 A147 R147 (fun _ _ => none) (envL vs)⟩
theorem ok147 : S147.Ok Tryz.prog 147 := fun_ok (Φ := P147) (S := S147) mixed plain_ok Tryz.func147 (by kernel_rfl) (by kernel_rfl) (by kernel_rfl) (T := T147) rfl (And.intro ok72 trivial) (fun _ => by kernel_rfl)
noncomputable def g147 (x0 : List (List AV)) (x1 x2 x3 : Int) : Option (List (List AV)) := S147.g [.l x0, .i x1, .i x2, .i x3]
noncomputable def g147L0 (k : Nat) (x0 x1 : List (List AV)) (x2 x3 : Int) : Option (List (List AV)) := iterL (fun rec vs => STree.run Tryz.prog P147 A147 R147 T147L0 (updR (fun _ _ => none) 0 rec) (bind zeroE 0 vs)) k [.l x0, .l x1, .i x2, .i x3]
theorem g147L0_eq (k : Nat) (x0 x1 : List (List AV)) (x2 x3 : Int) : g147L0 (k + 1) x0 x1 x2 x3 =
    (if (cop .lss x3 x2) = true then
      elemK x1 x3 [.int .i64] fun (r4 : Int) =>
      (g72 x0 (IntKind.wrap .u64 r4)).bind fun (r5 : List (List AV)) =>
      g147L0 k r5 x1 x2 (iop .add .i64 x3 1)
    else
      some (x0)) := by kernel_rfl
theorem g147_eq (x0 : List (List AV)) (x1 x2 x3 : Int) : g147 x0 x1 x2 x3 =
    (g147L0 FUEL x0 (((([] : List (List AV)) ++ [[AV.val (.int .i64 x1)]]) ++ [[AV.val (.int .i64 x2)]]) ++ [[AV.val (.int .i64 x3)]]) (List.length (((([] : List (List AV)) ++ [[AV.val (.int .i64 x1)]]) ++ [[AV.val (.int .i64 x2)]]) ++ [[AV.val (.int .i64 x3)]]) : Int) 0) := by kernel_rfl

/- (*multikernel/wire.writer).id -/
def E74 : Env := envG 13 [] [] [0] 0
def A74 : List AP := [.box [.own 5], .agg [.int .i64, .int .i64, .int .i64]]
def R74 : List RSh := []
noncomputable def T74 : STree := evFn Tryz.prog E74 Tryz.f74 (argsAt A74 0) 4
noncomputable def P74 : List (FuncId × Fun) := [(147, S147)]
noncomputable def S74 : Fun := ⟨A74, R74, fun vs => T74.run Tryz.prog P74 A74 R74 (fun _ _ => none) (envL vs)⟩
theorem ok74 : S74.Ok Tryz.prog 74 := fun_ok (Φ := P74) (S := S74) mixed plain_ok Tryz.func74 (by kernel_rfl) (by kernel_rfl) (by kernel_rfl) (T := T74) rfl (And.intro ok147 trivial) (fun _ => by kernel_rfl)
noncomputable def g74 (x0 : List (List AV)) (x1 x2 x3 : Int) : Option (List (List AV)) := S74.g [.l x0, .i x1, .i x2, .i x3]
theorem g74_eq (x0 : List (List AV)) (x1 x2 x3 : Int) : g74 x0 x1 x2 x3 =
    ((g147 x0 x1 x2 x3).bind fun (r4 : List (List AV)) =>
    some (r4)) := by kernel_rfl

/- multikernel/binenc.AppendVarint -/
def E173 : Env := envG 14 [4] [] [] 0
def A173 : List AP := [.c (.slice 1), .c (.int .i64)]
def R173 : List RSh := [.c (.own 5)]
noncomputable def T173 : STree := evFn Tryz.prog E173 Tryz.f173 (argsAt A173 0) 2
noncomputable def P173 : List (FuncId × Fun) := [(72, S72)]
noncomputable def S173 : Fun := ⟨A173, R173, fun vs => T173.run Tryz.prog P173 A173 R173 (fun _ _ => none) (envL vs)⟩
theorem ok173 : S173.Ok Tryz.prog 173 := fun_ok (Φ := P173) (S := S173) mixed plain_ok Tryz.func173 (by kernel_rfl) (by kernel_rfl) (by kernel_rfl) (T := T173) rfl (And.intro ok72 trivial) (fun _ => by kernel_rfl)
noncomputable def g173 (x0 : List (List AV)) (x1 : Int) : Option (List (List AV)) := S173.g [.l x0, .i x1]
theorem g173_eq (x0 : List (List AV)) (x1 : Int) : g173 x0 x1 =
    (reqK ((0 : Int) ≤ 1) <|
    reqK ((0 : Int) ≤ 63) <|
    (g72 x0 (iop .xor .u64 (iop .shl .u64 (IntKind.wrap .u64 x1) 1) (IntKind.wrap .u64 (iop .shr .i64 x1 63)))).bind fun (r2 : List (List AV)) =>
    some (r2)) := by kernel_rfl

/- (*multikernel/wire.writer).call -/
def E145 : Env := envG 46 [] [(2, [(0, .box [.own 5]), (30, .c (.slice 1)), (31, .c (.int .i64)), (32, .c (.int .i64))])] [0] 0
def A145 : List AP := [.box [.own 5], .agg hs9]
def R145 : List RSh := []
noncomputable def T145 : STree := evFn Tryz.prog E145 Tryz.f145 (argsAt A145 0) 13
noncomputable def T145L0 : STree := T145.go [0]
noncomputable def P145 : List (FuncId × Fun) := [(173, S173)]
noncomputable def S145 : Fun := ⟨A145, R145, fun vs => T145.run Tryz.prog P145 A145 R145 (fun _ _ => none) (envL vs)⟩
theorem ok145 : S145.Ok Tryz.prog 145 := fun_ok (Φ := P145) (S := S145) mixed plain_ok Tryz.func145 (by kernel_rfl) (by kernel_rfl) (by kernel_rfl) (T := T145) rfl (And.intro ok173 trivial) (fun _ => by kernel_rfl)
noncomputable def g145 (x0 : List (List AV)) (x1 x2 x3 x4 x5 x6 x7 x8 x9 x10 x11 x12 : Int) : Option (List (List AV)) := S145.g [.l x0, .i x1, .i x2, .i x3, .i x4, .i x5, .i x6, .i x7, .i x8, .i x9, .i x10, .i x11, .i x12]
noncomputable def g145L0 (k : Nat) (x0 x1 : List (List AV)) (x2 x3 : Int) : Option (List (List AV)) := iterL (fun rec vs => STree.run Tryz.prog P145 A145 R145 T145L0 (updR (fun _ _ => none) 0 rec) (bind zeroE 0 vs)) k [.l x0, .l x1, .i x2, .i x3]
theorem g145L0_eq (k : Nat) (x0 x1 : List (List AV)) (x2 x3 : Int) : g145L0 (k + 1) x0 x1 x2 x3 =
    (if (cop .lss x3 x2) = true then
      elemK x1 x3 [.int .i64] fun (r4 : Int) =>
      (g173 x0 r4).bind fun (r5 : List (List AV)) =>
      g145L0 k r5 x1 x2 (iop .add .i64 x3 1)
    else
      some (x0)) := by kernel_rfl
theorem g145_eq (x0 : List (List AV)) (x1 x2 x3 x4 x5 x6 x7 x8 x9 x10 x11 x12 : Int) : g145 x0 x1 x2 x3 x4 x5 x6 x7 x8 x9 x10 x11 x12 =
    (g145L0 FUEL x0 ((((((((((((([] : List (List AV)) ++ [[AV.val (.int .i64 x1)]]) ++ [[AV.val (.int .i64 x2)]]) ++ [[AV.val (.int .i64 x3)]]) ++ [[AV.val (.int .i64 x4)]]) ++ [[AV.val (.int .i64 x5)]]) ++ [[AV.val (.int .i64 x6)]]) ++ [[AV.val (.int .i64 x7)]]) ++ [[AV.val (.int .i64 x8)]]) ++ [[AV.val (.int .i64 x9)]]) ++ [[AV.val (.int .i64 x10)]]) ++ [[AV.val (.int .i64 x11)]]) ++ [[AV.val (.int .i64 x12)]]) (List.length ((((((((((((([] : List (List AV)) ++ [[AV.val (.int .i64 x1)]]) ++ [[AV.val (.int .i64 x2)]]) ++ [[AV.val (.int .i64 x3)]]) ++ [[AV.val (.int .i64 x4)]]) ++ [[AV.val (.int .i64 x5)]]) ++ [[AV.val (.int .i64 x6)]]) ++ [[AV.val (.int .i64 x7)]]) ++ [[AV.val (.int .i64 x8)]]) ++ [[AV.val (.int .i64 x9)]]) ++ [[AV.val (.int .i64 x10)]]) ++ [[AV.val (.int .i64 x11)]]) ++ [[AV.val (.int .i64 x12)]]) : Int) 0) := by kernel_rfl

/- multikernel/captype.Encode -/
def E181 : Env := envG 45 [2, 3] [(8, [(1, .box hs14), (5, .c (.own 5)), (31, .c (.int .i64))])] [] 0
def A181 : List AP := [.agg hs14]
def R181 : List RSh := [.c (.own 5), .c (.int .i64)]
noncomputable def T181 : STree := evFn Tryz.prog E181 Tryz.f181 (argsAt A181 0) 7
noncomputable def T181L0 : STree := T181.go [0, 1, 0, 0]
noncomputable def P181 : List (FuncId × Fun) := [(109, S109)]
noncomputable def S181 : Fun := ⟨A181, R181, fun vs => T181.run Tryz.prog P181 A181 R181 (fun _ _ => none) (envL vs)⟩
theorem ok181 : S181.Ok Tryz.prog 181 := fun_ok (Φ := P181) (S := S181) mixed plain_ok Tryz.func181 (by kernel_rfl) (by kernel_rfl) (by kernel_rfl) (T := T181) rfl (And.intro ok109 trivial) (fun _ => by kernel_rfl)
noncomputable def g181 (x0 x1 x2 x3 x4 x5 : Int) (x6 : Bool) : Option (List (List AV) × Int) := S181.g [.i x0, .i x1, .i x2, .i x3, .i x4, .i x5, .b x6]
noncomputable def g181L0 (k : Nat) (x0 x1 x2 x3 x4 x5 : Int) (x6 : Bool) (x7 : List (List AV)) (x8 : Int) : Option (List (List AV) × Int) := iterL (fun rec vs => STree.run Tryz.prog P181 A181 R181 T181L0 (updR (fun _ _ => none) 0 rec) (bind zeroE 0 vs)) k [.i x0, .i x1, .i x2, .i x3, .i x4, .i x5, .b x6, .l x7, .i x8]
theorem g181L0_eq (k : Nat) (x0 x1 x2 x3 x4 x5 : Int) (x6 : Bool) (x7 : List (List AV)) (x8 : Int) : g181L0 (k + 1) x0 x1 x2 x3 x4 x5 x6 x7 x8 =
    (if (cop .lss x8 5) = true then
      reqK ((0 : Int) ≤ (iop .mul .i64 8 x8)) <|
      reqK (roomP x7 (([] : List (List AV)) ++ [[AV.val (.int .u8 (IntKind.wrap .u8 (iop .shr .i64 x1 (iop .mul .i64 8 x8))))]]) 1) <|
      g181L0 k x0 x1 x2 x3 x4 x5 x6 (x7 ++ (([] : List (List AV)) ++ [[AV.val (.int .u8 (IntKind.wrap .u8 (iop .shr .i64 x1 (iop .mul .i64 8 x8))))]])) (iop .add .i64 x8 1)
    else
      some (x7, 0)) := by kernel_rfl
theorem g181_eq (x0 x1 x2 x3 x4 x5 : Int) (x6 : Bool) : g181 x0 x1 x2 x3 x4 x5 x6 =
    ((g109 x0 x1 x2 x3 x4 x5 x6).bind fun (r7 : Bool) =>
    if (!r7) = true then
      some (([] : List (List AV)), 1)
    else
      if x6 = true then
        g181L0 FUEL x0 x1 x2 x3 x4 x5 x6 (((((([] : List (List AV)) ++ [[AV.val (.int .u8 (IntKind.wrap .u8 x0))]]) ++ [[AV.val (.int .u8 (IntKind.wrap .u8 x2))]]) ++ [[AV.val (.int .u8 (IntKind.wrap .u8 (iop .add .i64 x3 8)))]]) ++ [[AV.val (.int .u8 (IntKind.wrap .u8 x4))]]) ++ [[AV.val (.int .u8 (IntKind.wrap .u8 x5))]]) 0
      else
        g181L0 FUEL x0 x1 x2 x3 x4 x5 x6 (((((([] : List (List AV)) ++ [[AV.val (.int .u8 (IntKind.wrap .u8 x0))]]) ++ [[AV.val (.int .u8 (IntKind.wrap .u8 x2))]]) ++ [[AV.val (.int .u8 (IntKind.wrap .u8 x3))]]) ++ [[AV.val (.int .u8 (IntKind.wrap .u8 x4))]]) ++ [[AV.val (.int .u8 (IntKind.wrap .u8 x5))]]) 0) := by kernel_rfl

/- multikernel/node.Encode -/
def E174 : Env := envG 40 [2, 3] [(5, [(1, .box hs10), (4, .c (.own 5)), (21, .c (.slice 3)), (22, .c (.int .i64)), (23, .c (.int .i64))])] [] 0
def A174 : List AP := [.agg hs10]
def R174 : List RSh := [.c (.own 5), .c (.int .i64)]
noncomputable def T174 : STree := evFn Tryz.prog E174 Tryz.f174 (argsAt A174 0) 11
noncomputable def T174L0 : STree := T174.go [0, 1, 3]
noncomputable def P174 : List (FuncId × Fun) := [(50, S50), (147, S147), (72, S72), (181, S181)]
noncomputable def S174 : Fun := ⟨A174, R174, fun vs => T174.run Tryz.prog P174 A174 R174 (fun _ _ => none) (envL vs)⟩
theorem ok174 : S174.Ok Tryz.prog 174 := fun_ok (Φ := P174) (S := S174) mixed plain_ok Tryz.func174 (by kernel_rfl) (by kernel_rfl) (by kernel_rfl) (T := T174) rfl (And.intro ok50 (And.intro ok147 (And.intro ok72 (And.intro ok181 trivial)))) (fun _ => by kernel_rfl)
noncomputable def g174 (x0 x1 x2 : Int) (x3 : List (List AV)) (x4 x5 x6 x7 x8 x9 : Int) (x10 : Bool) : Option (List (List AV) × Int) := S174.g [.i x0, .i x1, .i x2, .l x3, .i x4, .i x5, .i x6, .i x7, .i x8, .i x9, .b x10]
noncomputable def g174L0 (k : Nat) (x0 x1 x2 : Int) (x3 : List (List AV)) (x4 x5 x6 x7 x8 x9 : Int) (x10 : Bool) (x11 x12 : List (List AV)) (x13 x14 : Int) : Option (List (List AV) × Int) := iterL (fun rec vs => STree.run Tryz.prog P174 A174 R174 T174L0 (updR (fun _ _ => none) 0 rec) (bind zeroE 0 vs)) k [.i x0, .i x1, .i x2, .l x3, .i x4, .i x5, .i x6, .i x7, .i x8, .i x9, .b x10, .l x11, .l x12, .i x13, .i x14]
theorem g174L0_eq (k : Nat) (x0 x1 x2 : Int) (x3 : List (List AV)) (x4 x5 x6 x7 x8 x9 : Int) (x10 : Bool) (x11 x12 : List (List AV)) (x13 x14 : Int) : g174L0 (k + 1) x0 x1 x2 x3 x4 x5 x6 x7 x8 x9 x10 x11 x12 x13 x14 =
    (if (cop .lss x14 x13) = true then
      elemK x12 x14 [.int .i64, .int .i64, .int .i64] fun (r15 : Int × Int × Int) =>
      (g147 x11 r15.1 r15.2.1 r15.2.2).bind fun (r18 : List (List AV)) =>
      g174L0 k x0 x1 x2 x3 x4 x5 x6 x7 x8 x9 x10 r18 x12 x13 (iop .add .i64 x14 1)
    else
      (g181 x4 x5 x6 x7 x8 x9 x10).bind fun (r15 : List (List AV) × Int) =>
      reqK (roomP x11 r15.1 1) <|
      some ((x11 ++ r15.1), 0)) := by kernel_rfl
theorem g174_eq (x0 x1 x2 : Int) (x3 : List (List AV)) (x4 x5 x6 x7 x8 x9 : Int) (x10 : Bool) : g174 x0 x1 x2 x3 x4 x5 x6 x7 x8 x9 x10 =
    ((g50 x0 x1 x2 x3 x4 x5 x6 x7 x8 x9 x10).bind fun (r11 : Bool) =>
    if (!r11) = true then
      some (([] : List (List AV)), 1)
    else
      (g147 ([] : List (List AV)) x0 x1 x2).bind fun (r12 : List (List AV)) =>
      (g72 r12 (IntKind.wrap .u64 (List.length x3 : Int))).bind fun (r13 : List (List AV)) =>
      g174L0 FUEL x0 x1 x2 x3 x4 x5 x6 x7 x8 x9 x10 r13 x3 (List.length x3 : Int) 0) := by kernel_rfl

/- (*multikernel/wire.writer).node -/
def E146 : Env := envG 24 [] [] [0] 0
def A146 : List AP := [.box [.own 5], .agg hs10]
def R146 : List RSh := []
noncomputable def T146 : STree := evFn Tryz.prog E146 Tryz.f146 (argsAt A146 0) 12
noncomputable def P146 : List (FuncId × Fun) := [(174, S174), (18, S18)]
noncomputable def S146 : Fun := ⟨A146, R146, fun vs => T146.run Tryz.prog P146 A146 R146 (fun _ _ => none) (envL vs)⟩
theorem ok146 : S146.Ok Tryz.prog 146 := fun_ok (Φ := P146) (S := S146) mixed plain_ok Tryz.func146 (by kernel_rfl) (by kernel_rfl) (by kernel_rfl) (T := T146) rfl (And.intro ok174 (And.intro ok18 trivial)) (fun _ => by kernel_rfl)
noncomputable def g146 (x0 : List (List AV)) (x1 x2 x3 : Int) (x4 : List (List AV)) (x5 x6 x7 x8 x9 x10 : Int) (x11 : Bool) : Option (List (List AV)) := S146.g [.l x0, .i x1, .i x2, .i x3, .l x4, .i x5, .i x6, .i x7, .i x8, .i x9, .i x10, .b x11]
theorem g146_eq (x0 : List (List AV)) (x1 x2 x3 : Int) (x4 : List (List AV)) (x5 x6 x7 x8 x9 x10 : Int) (x11 : Bool) : g146 x0 x1 x2 x3 x4 x5 x6 x7 x8 x9 x10 x11 =
    ((g174 x1 x2 x3 x4 x5 x6 x7 x8 x9 x10 x11).bind fun (r12 : List (List AV) × Int) =>
    (g18 x0 (List.length r12.1 : Int)).bind fun (r14 : List (List AV)) =>
    reqK (roomP r14 r12.1 1) <|
    some ((r14 ++ r12.1))) := by kernel_rfl

/- (*multikernel/wire.writer).request -/
def E73 : Env := envG 24 [] [] [0] 0
def A73 : List AP := [.box [.own 5], .agg hs4]
def R73 : List RSh := []
noncomputable def T73 : STree := evFn Tryz.prog E73 Tryz.f73 (argsAt A73 0) 29
noncomputable def P73 : List (FuncId × Fun) := [(74, S74), (145, S145), (18, S18), (146, S146)]
noncomputable def S73 : Fun := ⟨A73, R73, fun vs => T73.run Tryz.prog P73 A73 R73 (fun _ _ => none) (envL vs)⟩
theorem ok73 : S73.Ok Tryz.prog 73 := fun_ok (Φ := P73) (S := S73) mixed plain_ok Tryz.func73 (by kernel_rfl) (by kernel_rfl) (by kernel_rfl) (T := T73) rfl (And.intro ok74 (And.intro ok145 (And.intro ok18 (And.intro ok146 trivial)))) (fun _ => by kernel_rfl)
noncomputable def g73 (x0 : List (List AV)) (x1 x2 x3 x4 x5 x6 x7 x8 x9 x10 x11 x12 x13 x14 x15 x16 x17 x18 x19 x20 : Int) (x21 : List (List AV)) (x22 x23 x24 x25 x26 x27 : Int) (x28 : Bool) : Option (List (List AV)) := S73.g [.l x0, .i x1, .i x2, .i x3, .i x4, .i x5, .i x6, .i x7, .i x8, .i x9, .i x10, .i x11, .i x12, .i x13, .i x14, .i x15, .i x16, .i x17, .i x18, .i x19, .i x20, .l x21, .i x22, .i x23, .i x24, .i x25, .i x26, .i x27, .b x28]
theorem g73_eq (x0 : List (List AV)) (x1 x2 x3 x4 x5 x6 x7 x8 x9 x10 x11 x12 x13 x14 x15 x16 x17 x18 x19 x20 : Int) (x21 : List (List AV)) (x22 x23 x24 x25 x26 x27 : Int) (x28 : Bool) : g73 x0 x1 x2 x3 x4 x5 x6 x7 x8 x9 x10 x11 x12 x13 x14 x15 x16 x17 x18 x19 x20 x21 x22 x23 x24 x25 x26 x27 x28 =
    ((g74 x0 x1 x2 x3).bind fun (r29 : List (List AV)) =>
    (g145 r29 x4 x5 x6 x7 x8 x9 x10 x11 x12 x13 x14 x15).bind fun (r30 : List (List AV)) =>
    (g18 r30 x16).bind fun (r31 : List (List AV)) =>
    (g18 r31 x17).bind fun (r32 : List (List AV)) =>
    (g146 r32 x18 x19 x20 x21 x22 x23 x24 x25 x26 x27 x28).bind fun (r33 : List (List AV)) =>
    some (r33)) := by kernel_rfl

/- (*multikernel/wire.writer).bool -/
def E75 : Env := envG 9 [] [] [0] 0
def A75 : List AP := [.box [.own 5], .c (.bool)]
def R75 : List RSh := []
noncomputable def T75 : STree := evFn Tryz.prog E75 Tryz.f75 (argsAt A75 0) 2
noncomputable def P75 : List (FuncId × Fun) := [(18, S18)]
noncomputable def S75 : Fun := ⟨A75, R75, fun vs => T75.run Tryz.prog P75 A75 R75 (fun _ _ => none) (envL vs)⟩
theorem ok75 : S75.Ok Tryz.prog 75 := fun_ok (Φ := P75) (S := S75) mixed plain_ok Tryz.func75 (by kernel_rfl) (by kernel_rfl) (by kernel_rfl) (T := T75) rfl (And.intro ok18 trivial) (fun _ => by kernel_rfl)
noncomputable def g75 (x0 : List (List AV)) (x1 : Bool) : Option (List (List AV)) := S75.g [.l x0, .b x1]
theorem g75_eq (x0 : List (List AV)) (x1 : Bool) : g75 x0 x1 =
    (if x1 = true then
      (g18 x0 1).bind fun (r2 : List (List AV)) =>
      some (r2)
    else
      (g18 x0 0).bind fun (r2 : List (List AV)) =>
      some (r2)) := by kernel_rfl

/- (*multikernel/wire.writer).nodes -/
def E76 : Env := envG 20 [] [(2, [(0, .box [.own 5]), (10, .c (.slice 11)), (11, .c (.int .i64)), (12, .c (.int .i64))])] [0] 0
def A76 : List AP := [.box [.own 5], .c (.slice 11)]
def R76 : List RSh := []
noncomputable def T76 : STree := evFn Tryz.prog E76 Tryz.f76 (argsAt A76 0) 2
noncomputable def T76L0 : STree := T76.go [2]
noncomputable def P76 : List (FuncId × Fun) := [(18, S18), (146, S146)]
noncomputable def S76 : Fun := ⟨A76, R76, fun vs => T76.run Tryz.prog P76 A76 R76 (fun _ _ => none) (envL vs)⟩
theorem ok76 : S76.Ok Tryz.prog 76 := fun_ok (Φ := P76) (S := S76) mixed plain_ok Tryz.func76 (by kernel_rfl) (by kernel_rfl) (by kernel_rfl) (T := T76) rfl (And.intro ok18 (And.intro ok146 trivial)) (fun _ => by kernel_rfl)
noncomputable def g76 (x0 x1 : List (List AV)) : Option (List (List AV)) := S76.g [.l x0, .l x1]
noncomputable def g76L0 (k : Nat) (x0 x1 : List (List AV)) (x2 x3 : Int) : Option (List (List AV)) := iterL (fun rec vs => STree.run Tryz.prog P76 A76 R76 T76L0 (updR (fun _ _ => none) 0 rec) (bind zeroE 0 vs)) k [.l x0, .l x1, .i x2, .i x3]
theorem g76L0_eq (k : Nat) (x0 x1 : List (List AV)) (x2 x3 : Int) : g76L0 (k + 1) x0 x1 x2 x3 =
    (if (cop .lss x3 x2) = true then
      elemK x1 x3 hs10 fun (r4 : Qt13) =>
      (g146 x0 r4.1 r4.2.1 r4.2.2.1 r4.2.2.2.1 r4.2.2.2.2.1 r4.2.2.2.2.2.1 r4.2.2.2.2.2.2.1 r4.2.2.2.2.2.2.2.1 r4.2.2.2.2.2.2.2.2.1 r4.2.2.2.2.2.2.2.2.2.1 r4.2.2.2.2.2.2.2.2.2.2).bind fun (r15 : List (List AV)) =>
      g76L0 k r15 x1 x2 (iop .add .i64 x3 1)
    else
      some (x0)) := by kernel_rfl
theorem g76_eq (x0 x1 : List (List AV)) : g76 x0 x1 =
    ((g18 x0 (List.length x1 : Int)).bind fun (r2 : List (List AV)) =>
    g76L0 FUEL r2 x1 (List.length x1 : Int) 0) := by kernel_rfl

/- (*multikernel/wire.writer).ids -/
def E77 : Env := envG 20 [] [(2, [(0, .box [.own 5]), (10, .c (.slice 3)), (11, .c (.int .i64)), (12, .c (.int .i64))])] [0] 0
def A77 : List AP := [.box [.own 5], .c (.slice 3)]
def R77 : List RSh := []
noncomputable def T77 : STree := evFn Tryz.prog E77 Tryz.f77 (argsAt A77 0) 2
noncomputable def T77L0 : STree := T77.go [2]
noncomputable def P77 : List (FuncId × Fun) := [(18, S18), (74, S74)]
noncomputable def S77 : Fun := ⟨A77, R77, fun vs => T77.run Tryz.prog P77 A77 R77 (fun _ _ => none) (envL vs)⟩
theorem ok77 : S77.Ok Tryz.prog 77 := fun_ok (Φ := P77) (S := S77) mixed plain_ok Tryz.func77 (by kernel_rfl) (by kernel_rfl) (by kernel_rfl) (T := T77) rfl (And.intro ok18 (And.intro ok74 trivial)) (fun _ => by kernel_rfl)
noncomputable def g77 (x0 x1 : List (List AV)) : Option (List (List AV)) := S77.g [.l x0, .l x1]
noncomputable def g77L0 (k : Nat) (x0 x1 : List (List AV)) (x2 x3 : Int) : Option (List (List AV)) := iterL (fun rec vs => STree.run Tryz.prog P77 A77 R77 T77L0 (updR (fun _ _ => none) 0 rec) (bind zeroE 0 vs)) k [.l x0, .l x1, .i x2, .i x3]
theorem g77L0_eq (k : Nat) (x0 x1 : List (List AV)) (x2 x3 : Int) : g77L0 (k + 1) x0 x1 x2 x3 =
    (if (cop .lss x3 x2) = true then
      elemK x1 x3 [.int .i64, .int .i64, .int .i64] fun (r4 : Int × Int × Int) =>
      (g74 x0 r4.1 r4.2.1 r4.2.2).bind fun (r7 : List (List AV)) =>
      g77L0 k r7 x1 x2 (iop .add .i64 x3 1)
    else
      some (x0)) := by kernel_rfl
theorem g77_eq (x0 x1 : List (List AV)) : g77 x0 x1 =
    ((g18 x0 (List.length x1 : Int)).bind fun (r2 : List (List AV)) =>
    g77L0 FUEL r2 x1 (List.length x1 : Int) 0) := by kernel_rfl

/- (*multikernel/wire.writer).ints -/
def E78 : Env := envG 20 [] [(2, [(0, .box [.own 5]), (10, .c (.slice 1)), (11, .c (.int .i64)), (12, .c (.int .i64))])] [0] 0
def A78 : List AP := [.box [.own 5], .c (.slice 1)]
def R78 : List RSh := []
noncomputable def T78 : STree := evFn Tryz.prog E78 Tryz.f78 (argsAt A78 0) 2
noncomputable def T78L0 : STree := T78.go [2]
noncomputable def P78 : List (FuncId × Fun) := [(18, S18)]
noncomputable def S78 : Fun := ⟨A78, R78, fun vs => T78.run Tryz.prog P78 A78 R78 (fun _ _ => none) (envL vs)⟩
theorem ok78 : S78.Ok Tryz.prog 78 := fun_ok (Φ := P78) (S := S78) mixed plain_ok Tryz.func78 (by kernel_rfl) (by kernel_rfl) (by kernel_rfl) (T := T78) rfl (And.intro ok18 trivial) (fun _ => by kernel_rfl)
noncomputable def g78 (x0 x1 : List (List AV)) : Option (List (List AV)) := S78.g [.l x0, .l x1]
noncomputable def g78L0 (k : Nat) (x0 x1 : List (List AV)) (x2 x3 : Int) : Option (List (List AV)) := iterL (fun rec vs => STree.run Tryz.prog P78 A78 R78 T78L0 (updR (fun _ _ => none) 0 rec) (bind zeroE 0 vs)) k [.l x0, .l x1, .i x2, .i x3]
theorem g78L0_eq (k : Nat) (x0 x1 : List (List AV)) (x2 x3 : Int) : g78L0 (k + 1) x0 x1 x2 x3 =
    (if (cop .lss x3 x2) = true then
      elemK x1 x3 [.int .i64] fun (r4 : Int) =>
      (g18 x0 r4).bind fun (r5 : List (List AV)) =>
      g78L0 k r5 x1 x2 (iop .add .i64 x3 1)
    else
      some (x0)) := by kernel_rfl
theorem g78_eq (x0 x1 : List (List AV)) : g78 x0 x1 =
    ((g18 x0 (List.length x1 : Int)).bind fun (r2 : List (List AV)) =>
    g78L0 FUEL r2 x1 (List.length x1 : Int) 0) := by kernel_rfl

/- (*multikernel/wire.writer).view -/
def E80 : Env := envG 16 [] [] [0] 0
def A80 : List AP := [.box [.own 5], .agg [.int .i64, .slice 1, .slice 1]]
def R80 : List RSh := []
noncomputable def T80 : STree := evFn Tryz.prog E80 Tryz.f80 (argsAt A80 0) 4
noncomputable def P80 : List (FuncId × Fun) := [(18, S18), (78, S78)]
noncomputable def S80 : Fun := ⟨A80, R80, fun vs => T80.run Tryz.prog P80 A80 R80 (fun _ _ => none) (envL vs)⟩
theorem ok80 : S80.Ok Tryz.prog 80 := fun_ok (Φ := P80) (S := S80) mixed plain_ok Tryz.func80 (by kernel_rfl) (by kernel_rfl) (by kernel_rfl) (T := T80) rfl (And.intro ok18 (And.intro ok78 trivial)) (fun _ => by kernel_rfl)
noncomputable def g80 (x0 : List (List AV)) (x1 : Int) (x2 x3 : List (List AV)) : Option (List (List AV)) := S80.g [.l x0, .i x1, .l x2, .l x3]
theorem g80_eq (x0 : List (List AV)) (x1 : Int) (x2 x3 : List (List AV)) : g80 x0 x1 x2 x3 =
    ((g18 x0 x1).bind fun (r4 : List (List AV)) =>
    (g78 r4 x2).bind fun (r5 : List (List AV)) =>
    (g78 r5 x3).bind fun (r6 : List (List AV)) =>
    some (r6)) := by kernel_rfl

/- (*multikernel/wire.writer).state -/
def E81 : Env := envG 126 [] [(3, [(0, .box [.own 5]), (3, .box hs15), (20, .c (.slice 15)), (21, .c (.int .i64)), (22, .c (.int .i64))]), (11, [(0, .box [.own 5]), (3, .box hs15), (45, .c (.slice 28)), (46, .c (.int .i64)), (47, .c (.int .i64))]), (17, [(0, .box [.own 5]), (3, .box hs15), (61, .c (.slice 4)), (62, .c (.int .i64)), (63, .c (.int .i64))]), (24, [(0, .box [.own 5]), (3, .box hs15), (82, .c (.slice 2)), (83, .c (.int .i64)), (84, .c (.int .i64))]), (31, [(0, .box [.own 5]), (3, .box hs15), (103, .c (.slice 13)), (104, .c (.int .i64)), (105, .c (.int .i64))])] [0] 0
def A81 : List AP := [.box [.own 5], .agg hs15]
def R81 : List RSh := []
noncomputable def T81 : STree := evFn Tryz.prog E81 Tryz.f81 (argsAt A81 0) 7
noncomputable def T81L0 : STree := T81.go [2, 1, 2, 1, 2, 1, 2, 1, 2]
noncomputable def T81L1 : STree := T81.go [2, 1, 2, 1, 2, 1, 2]
noncomputable def T81L2 : STree := T81.go [2, 1, 2, 1, 2]
noncomputable def T81L3 : STree := T81.go [2, 1, 2]
noncomputable def T81L4 : STree := T81.go [2]
noncomputable def P81 : List (FuncId × Fun) := [(18, S18), (146, S146), (74, S74), (73, S73), (77, S77)]
noncomputable def S81 : Fun := ⟨A81, R81, fun vs => T81.run Tryz.prog P81 A81 R81 (fun _ _ => none) (envL vs)⟩
theorem ok81 : S81.Ok Tryz.prog 81 := fun_ok (Φ := P81) (S := S81) mixed plain_ok Tryz.func81 (by kernel_rfl) (by kernel_rfl) (by kernel_rfl) (T := T81) rfl (And.intro ok18 (And.intro ok146 (And.intro ok74 (And.intro ok73 (And.intro ok77 trivial))))) (fun _ => by kernel_rfl)
noncomputable def g81 (x0 x1 x2 x3 x4 x5 x6 : List (List AV)) : Option (List (List AV)) := S81.g [.l x0, .l x1, .l x2, .l x3, .l x4, .l x5, .l x6]
noncomputable def g81L0 (k : Nat) (x0 x1 x2 x3 x4 x5 x6 x7 : List (List AV)) (x8 x9 : Int) : Option (List (List AV)) := iterL (fun rec vs => STree.run Tryz.prog P81 A81 R81 T81L0 (updR (fun _ _ => none) 0 rec) (bind zeroE 0 vs)) k [.l x0, .l x1, .l x2, .l x3, .l x4, .l x5, .l x6, .l x7, .i x8, .i x9]
theorem g81L0_eq (k : Nat) (x0 x1 x2 x3 x4 x5 x6 x7 : List (List AV)) (x8 x9 : Int) : g81L0 (k + 1) x0 x1 x2 x3 x4 x5 x6 x7 x8 x9 =
    (if (cop .lss x9 x8) = true then
      elemK x7 x9 hs8 fun (r10 : Qt12) =>
      (g18 x0 r10.1).bind fun (r23 : List (List AV)) =>
      (g18 r23 r10.2.1).bind fun (r24 : List (List AV)) =>
      (g146 r24 r10.2.2.1 r10.2.2.2.1 r10.2.2.2.2.1 r10.2.2.2.2.2.1 r10.2.2.2.2.2.2.1 r10.2.2.2.2.2.2.2.1 r10.2.2.2.2.2.2.2.2.1 r10.2.2.2.2.2.2.2.2.2.1 r10.2.2.2.2.2.2.2.2.2.2.1 r10.2.2.2.2.2.2.2.2.2.2.2.1 (d4 (d8 r10))).bind fun (r25 : List (List AV)) =>
      g81L0 k r25 x1 x2 x3 x4 x5 x6 x7 x8 (iop .add .i64 x9 1)
    else
      (g77 x0 x6).bind fun (r10 : List (List AV)) =>
      some (r10)) := by kernel_rfl
noncomputable def g81L1 (k : Nat) (x0 x1 x2 x3 x4 x5 x6 x7 : List (List AV)) (x8 x9 : Int) : Option (List (List AV)) := iterL (fun rec vs => STree.run Tryz.prog P81 A81 R81 T81L1 (updR (fun _ _ => none) 0 rec) (bind zeroE 0 vs)) k [.l x0, .l x1, .l x2, .l x3, .l x4, .l x5, .l x6, .l x7, .i x8, .i x9]
theorem g81L1_eq (k : Nat) (x0 x1 x2 x3 x4 x5 x6 x7 : List (List AV)) (x8 x9 : Int) : g81L1 (k + 1) x0 x1 x2 x3 x4 x5 x6 x7 x8 x9 =
    (if (cop .lss x9 x8) = true then
      elemK x7 x9 [.int .i64, .int .i64] fun (r10 : Int × Int) =>
      (g18 x0 r10.1).bind fun (r12 : List (List AV)) =>
      (g18 r12 r10.2).bind fun (r13 : List (List AV)) =>
      g81L1 k r13 x1 x2 x3 x4 x5 x6 x7 x8 (iop .add .i64 x9 1)
    else
      (g18 x0 (List.length x5 : Int)).bind fun (r10 : List (List AV)) =>
      g81L0 FUEL r10 x1 x2 x3 x4 x5 x6 x5 (List.length x5 : Int) 0) := by kernel_rfl
noncomputable def g81L2 (k : Nat) (x0 x1 x2 x3 x4 x5 x6 x7 : List (List AV)) (x8 x9 : Int) : Option (List (List AV)) := iterL (fun rec vs => STree.run Tryz.prog P81 A81 R81 T81L2 (updR (fun _ _ => none) 0 rec) (bind zeroE 0 vs)) k [.l x0, .l x1, .l x2, .l x3, .l x4, .l x5, .l x6, .l x7, .i x8, .i x9]
theorem g81L2_eq (k : Nat) (x0 x1 x2 x3 x4 x5 x6 x7 : List (List AV)) (x8 x9 : Int) : g81L2 (k + 1) x0 x1 x2 x3 x4 x5 x6 x7 x8 x9 =
    (if (cop .lss x9 x8) = true then
      elemK x7 x9 [.int .i64, .int .i64, .int .i64, .int .i64] fun (r10 : Int × Int × Int × Int) =>
      (g18 x0 r10.1).bind fun (r14 : List (List AV)) =>
      (g74 r14 r10.2.1 r10.2.2.1 r10.2.2.2).bind fun (r15 : List (List AV)) =>
      g81L2 k r15 x1 x2 x3 x4 x5 x6 x7 x8 (iop .add .i64 x9 1)
    else
      (g18 x0 (List.length x4 : Int)).bind fun (r10 : List (List AV)) =>
      g81L1 FUEL r10 x1 x2 x3 x4 x5 x6 x4 (List.length x4 : Int) 0) := by kernel_rfl
noncomputable def g81L3 (k : Nat) (x0 x1 x2 x3 x4 x5 x6 x7 : List (List AV)) (x8 x9 : Int) : Option (List (List AV)) := iterL (fun rec vs => STree.run Tryz.prog P81 A81 R81 T81L3 (updR (fun _ _ => none) 0 rec) (bind zeroE 0 vs)) k [.l x0, .l x1, .l x2, .l x3, .l x4, .l x5, .l x6, .l x7, .i x8, .i x9]
theorem g81L3_eq (k : Nat) (x0 x1 x2 x3 x4 x5 x6 x7 : List (List AV)) (x8 x9 : Int) : g81L3 (k + 1) x0 x1 x2 x3 x4 x5 x6 x7 x8 x9 =
    (if (cop .lss x9 x8) = true then
      elemK x7 x9 hs4 fun (r10 : Qt6) =>
      (g73 x0 r10.1 r10.2.1 r10.2.2.1 r10.2.2.2.1 r10.2.2.2.2.1 r10.2.2.2.2.2.1 r10.2.2.2.2.2.2.1 r10.2.2.2.2.2.2.2.1 r10.2.2.2.2.2.2.2.2.1 r10.2.2.2.2.2.2.2.2.2.1 r10.2.2.2.2.2.2.2.2.2.2.1 r10.2.2.2.2.2.2.2.2.2.2.2.1 (d4 (d8 r10)).1 (d4 (d8 r10)).2.1 (d2 (d4 (d8 r10))).1 (d2 (d4 (d8 r10))).2.1 (d16 r10).1 (d16 r10).2.1 (d2 (d16 r10)).1 (d2 (d16 r10)).2.1 (d4 (d16 r10)).1 (d4 (d16 r10)).2.1 (d2 (d4 (d16 r10))).1 (d2 (d4 (d16 r10))).2.1 (d8 (d16 r10)).1 (d8 (d16 r10)).2.1 (d2 (d8 (d16 r10))).1 (d2 (d8 (d16 r10))).2).bind fun (r38 : List (List AV)) =>
      g81L3 k r38 x1 x2 x3 x4 x5 x6 x7 x8 (iop .add .i64 x9 1)
    else
      (g18 x0 (List.length x3 : Int)).bind fun (r10 : List (List AV)) =>
      g81L2 FUEL r10 x1 x2 x3 x4 x5 x6 x3 (List.length x3 : Int) 0) := by kernel_rfl
noncomputable def g81L4 (k : Nat) (x0 x1 x2 x3 x4 x5 x6 x7 : List (List AV)) (x8 x9 : Int) : Option (List (List AV)) := iterL (fun rec vs => STree.run Tryz.prog P81 A81 R81 T81L4 (updR (fun _ _ => none) 0 rec) (bind zeroE 0 vs)) k [.l x0, .l x1, .l x2, .l x3, .l x4, .l x5, .l x6, .l x7, .i x8, .i x9]
theorem g81L4_eq (k : Nat) (x0 x1 x2 x3 x4 x5 x6 x7 : List (List AV)) (x8 x9 : Int) : g81L4 (k + 1) x0 x1 x2 x3 x4 x5 x6 x7 x8 x9 =
    (if (cop .lss x9 x8) = true then
      elemK x7 x9 hs7 fun (r10 : Qt11) =>
      (g146 x0 r10.1 r10.2.1 r10.2.2.1 r10.2.2.2.1 r10.2.2.2.2.1 r10.2.2.2.2.2.1 r10.2.2.2.2.2.2.1 r10.2.2.2.2.2.2.2.1 r10.2.2.2.2.2.2.2.2.1 r10.2.2.2.2.2.2.2.2.2.1 r10.2.2.2.2.2.2.2.2.2.2.1).bind fun (r25 : List (List AV)) =>
      (g18 r25 r10.2.2.2.2.2.2.2.2.2.2.2.1).bind fun (r26 : List (List AV)) =>
      (g74 r26 (d4 (d8 r10)).1 (d4 (d8 r10)).2.1 (d2 (d4 (d8 r10)))).bind fun (r27 : List (List AV)) =>
      g81L4 k r27 x1 x2 x3 x4 x5 x6 x7 x8 (iop .add .i64 x9 1)
    else
      (g18 x0 (List.length x2 : Int)).bind fun (r10 : List (List AV)) =>
      g81L3 FUEL r10 x1 x2 x3 x4 x5 x6 x2 (List.length x2 : Int) 0) := by kernel_rfl
theorem g81_eq (x0 x1 x2 x3 x4 x5 x6 : List (List AV)) : g81 x0 x1 x2 x3 x4 x5 x6 =
    ((g18 x0 (List.length x1 : Int)).bind fun (r7 : List (List AV)) =>
    g81L4 FUEL r7 x1 x2 x3 x4 x5 x6 x1 (List.length x1 : Int) 0) := by kernel_rfl

/- (*multikernel/wire.writer).report -/
def E79 : Env := envG 28 [] [] [0] 0
def A79 : List AP := [.box [.own 5], .agg hs5]
def R79 : List RSh := []
noncomputable def T79 : STree := evFn Tryz.prog E79 Tryz.f79 (argsAt A79 0) 21
noncomputable def P79 : List (FuncId × Fun) := [(18, S18), (80, S80), (81, S81), (75, S75)]
noncomputable def S79 : Fun := ⟨A79, R79, fun vs => T79.run Tryz.prog P79 A79 R79 (fun _ _ => none) (envL vs)⟩
theorem ok79 : S79.Ok Tryz.prog 79 := fun_ok (Φ := P79) (S := S79) mixed plain_ok Tryz.func79 (by kernel_rfl) (by kernel_rfl) (by kernel_rfl) (T := T79) rfl (And.intro ok18 (And.intro ok80 (And.intro ok81 (And.intro ok75 trivial)))) (fun _ => by kernel_rfl)
noncomputable def g79 (x0 : List (List AV)) (x1 x2 : Int) (x3 x4 x5 x6 x7 x8 x9 x10 : List (List AV)) (x11 : Bool) (x12 : Int) (x13 x14 x15 x16 x17 x18 x19 x20 : List (List AV)) : Option (List (List AV)) := S79.g [.l x0, .i x1, .i x2, .l x3, .l x4, .l x5, .l x6, .l x7, .l x8, .l x9, .l x10, .b x11, .i x12, .l x13, .l x14, .l x15, .l x16, .l x17, .l x18, .l x19, .l x20]
theorem g79_eq (x0 : List (List AV)) (x1 x2 : Int) (x3 x4 x5 x6 x7 x8 x9 x10 : List (List AV)) (x11 : Bool) (x12 : Int) (x13 x14 x15 x16 x17 x18 x19 x20 : List (List AV)) : g79 x0 x1 x2 x3 x4 x5 x6 x7 x8 x9 x10 x11 x12 x13 x14 x15 x16 x17 x18 x19 x20 =
    ((g18 x0 x1).bind fun (r21 : List (List AV)) =>
    (g80 r21 x2 x3 x4).bind fun (r22 : List (List AV)) =>
    (g81 r22 x5 x6 x7 x8 x9 x10).bind fun (r23 : List (List AV)) =>
    (g75 r23 x11).bind fun (r24 : List (List AV)) =>
    (g80 r24 x12 x13 x14).bind fun (r25 : List (List AV)) =>
    (g81 r25 x15 x16 x17 x18 x19 x20).bind fun (r26 : List (List AV)) =>
    some (r26)) := by kernel_rfl

/- (*multikernel/wire.writer).moves -/
def E82 : Env := envG 25 [] [(2, [(0, .box [.own 5]), (10, .c (.slice 2)), (11, .c (.int .i64)), (12, .c (.int .i64))])] [0] 0
def A82 : List AP := [.box [.own 5], .c (.slice 2)]
def R82 : List RSh := []
noncomputable def T82 : STree := evFn Tryz.prog E82 Tryz.f82 (argsAt A82 0) 2
noncomputable def T82L0 : STree := T82.go [2]
noncomputable def P82 : List (FuncId × Fun) := [(18, S18)]
noncomputable def S82 : Fun := ⟨A82, R82, fun vs => T82.run Tryz.prog P82 A82 R82 (fun _ _ => none) (envL vs)⟩
theorem ok82 : S82.Ok Tryz.prog 82 := fun_ok (Φ := P82) (S := S82) mixed plain_ok Tryz.func82 (by kernel_rfl) (by kernel_rfl) (by kernel_rfl) (T := T82) rfl (And.intro ok18 trivial) (fun _ => by kernel_rfl)
noncomputable def g82 (x0 x1 : List (List AV)) : Option (List (List AV)) := S82.g [.l x0, .l x1]
noncomputable def g82L0 (k : Nat) (x0 x1 : List (List AV)) (x2 x3 : Int) : Option (List (List AV)) := iterL (fun rec vs => STree.run Tryz.prog P82 A82 R82 T82L0 (updR (fun _ _ => none) 0 rec) (bind zeroE 0 vs)) k [.l x0, .l x1, .i x2, .i x3]
theorem g82L0_eq (k : Nat) (x0 x1 : List (List AV)) (x2 x3 : Int) : g82L0 (k + 1) x0 x1 x2 x3 =
    (if (cop .lss x3 x2) = true then
      elemK x1 x3 [.int .i64, .int .i64] fun (r4 : Int × Int) =>
      (g18 x0 r4.1).bind fun (r6 : List (List AV)) =>
      (g18 r6 r4.2).bind fun (r7 : List (List AV)) =>
      g82L0 k r7 x1 x2 (iop .add .i64 x3 1)
    else
      some (x0)) := by kernel_rfl
theorem g82_eq (x0 x1 : List (List AV)) : g82 x0 x1 =
    ((g18 x0 (List.length x1 : Int)).bind fun (r2 : List (List AV)) =>
    g82L0 FUEL r2 x1 (List.length x1 : Int) 0) := by kernel_rfl

/- (*multikernel/wire.writer).field -/
def E20 : Env := envG 97 [] [] [0] 0
def A20 : List AP := [.box [.own 5], .agg hs0, .c (.int .i64)]
def R20 : List RSh := []
noncomputable def T20 : STree := evFn Tryz.prog E20 Tryz.f20 (argsAt A20 0) 76
noncomputable def P20 : List (FuncId × Fun) := [(18, S18), (73, S73), (74, S74), (75, S75), (76, S76), (77, S77), (78, S78), (79, S79), (80, S80), (81, S81), (82, S82)]
noncomputable def S20 : Fun := ⟨A20, R20, fun vs => T20.run Tryz.prog P20 A20 R20 (fun _ _ => none) (envL vs)⟩
theorem ok20 : S20.Ok Tryz.prog 20 := fun_ok (Φ := P20) (S := S20) mixed plain_ok Tryz.func20 (by kernel_rfl) (by kernel_rfl) (by kernel_rfl) (T := T20) rfl (And.intro ok18 (And.intro ok73 (And.intro ok74 (And.intro ok75 (And.intro ok76 (And.intro ok77 (And.intro ok78 (And.intro ok79 (And.intro ok80 (And.intro ok81 (And.intro ok82 trivial))))))))))) (fun _ => by kernel_rfl)
noncomputable def g20 (x0 : List (List AV)) (x1 x2 x3 x4 x5 x6 x7 x8 x9 x10 x11 : Int) (x12 : Bool) (x13 x14 x15 x16 x17 x18 x19 x20 x21 x22 x23 x24 x25 x26 x27 x28 x29 x30 x31 x32 : Int) (x33 : List (List AV)) (x34 x35 x36 x37 x38 x39 : Int) (x40 : Bool) (x41 x42 x43 x44 : List (List AV)) (x45 x46 : Int) (x47 x48 x49 x50 x51 x52 x53 x54 : List (List AV)) (x55 x56 : Int) (x57 x58 x59 x60 x61 x62 x63 x64 : List (List AV)) (x65 : Bool) (x66 : Int) (x67 x68 x69 x70 x71 x72 x73 x74 : List (List AV)) (x75 : Int) : Option (List (List AV)) := S20.g [.l x0, .i x1, .i x2, .i x3, .i x4, .i x5, .i x6, .i x7, .i x8, .i x9, .i x10, .i x11, .b x12, .i x13, .i x14, .i x15, .i x16, .i x17, .i x18, .i x19, .i x20, .i x21, .i x22, .i x23, .i x24, .i x25, .i x26, .i x27, .i x28, .i x29, .i x30, .i x31, .i x32, .l x33, .i x34, .i x35, .i x36, .i x37, .i x38, .i x39, .b x40, .l x41, .l x42, .l x43, .l x44, .i x45, .i x46, .l x47, .l x48, .l x49, .l x50, .l x51, .l x52, .l x53, .l x54, .i x55, .i x56, .l x57, .l x58, .l x59, .l x60, .l x61, .l x62, .l x63, .l x64, .b x65, .i x66, .l x67, .l x68, .l x69, .l x70, .l x71, .l x72, .l x73, .l x74, .i x75]
theorem g20_eq (x0 : List (List AV)) (x1 x2 x3 x4 x5 x6 x7 x8 x9 x10 x11 : Int) (x12 : Bool) (x13 x14 x15 x16 x17 x18 x19 x20 x21 x22 x23 x24 x25 x26 x27 x28 x29 x30 x31 x32 : Int) (x33 : List (List AV)) (x34 x35 x36 x37 x38 x39 : Int) (x40 : Bool) (x41 x42 x43 x44 : List (List AV)) (x45 x46 : Int) (x47 x48 x49 x50 x51 x52 x53 x54 : List (List AV)) (x55 x56 : Int) (x57 x58 x59 x60 x61 x62 x63 x64 : List (List AV)) (x65 : Bool) (x66 : Int) (x67 x68 x69 x70 x71 x72 x73 x74 : List (List AV)) (x75 : Int) : g20 x0 x1 x2 x3 x4 x5 x6 x7 x8 x9 x10 x11 x12 x13 x14 x15 x16 x17 x18 x19 x20 x21 x22 x23 x24 x25 x26 x27 x28 x29 x30 x31 x32 x33 x34 x35 x36 x37 x38 x39 x40 x41 x42 x43 x44 x45 x46 x47 x48 x49 x50 x51 x52 x53 x54 x55 x56 x57 x58 x59 x60 x61 x62 x63 x64 x65 x66 x67 x68 x69 x70 x71 x72 x73 x74 x75 =
    (if (cop .eql x75 0) = true then
      (g18 x0 x6).bind fun (r76 : List (List AV)) =>
      some (r76)
    else
      if (cop .eql x75 1) = true then
        (g73 x0 x13 x14 x15 x16 x17 x18 x19 x20 x21 x22 x23 x24 x25 x26 x27 x28 x29 x30 x31 x32 x33 x34 x35 x36 x37 x38 x39 x40).bind fun (r76 : List (List AV)) =>
        some (r76)
      else
        if (cop .eql x75 2) = true then
          (g74 x0 x8 x9 x10).bind fun (r76 : List (List AV)) =>
          some (r76)
        else
          if (cop .eql x75 3) = true then
            (g18 x0 x11).bind fun (r76 : List (List AV)) =>
            some (r76)
          else
            if (cop .eql x75 4) = true then
              (g75 x0 x12).bind fun (r76 : List (List AV)) =>
              some (r76)
            else
              if (cop .eql x75 5) = true then
                (g76 x0 x42).bind fun (r76 : List (List AV)) =>
                some (r76)
              else
                if (cop .eql x75 6) = true then
                  (g18 x0 x7).bind fun (r76 : List (List AV)) =>
                  some (r76)
                else
                  if (cop .eql x75 7) = true then
                    (g77 x0 x41).bind fun (r76 : List (List AV)) =>
                    some (r76)
                  else
                    if (cop .eql x75 8) = true then
                      (g18 x0 x5).bind fun (r76 : List (List AV)) =>
                      some (r76)
                    else
                      if (cop .eql x75 9) = true then
                        (g78 x0 x43).bind fun (r76 : List (List AV)) =>
                        some (r76)
                      else
                        if (cop .eql x75 10) = true then
                          (g79 x0 x55 x56 x57 x58 x59 x60 x61 x62 x63 x64 x65 x66 x67 x68 x69 x70 x71 x72 x73 x74).bind fun (r76 : List (List AV)) =>
                          some (r76)
                        else
                          if (cop .eql x75 11) = true then
                            (g18 x0 x45).bind fun (r76 : List (List AV)) =>
                            some (r76)
                          else
                            if (cop .eql x75 12) = true then
                              (g80 x0 x46 x47 x48).bind fun (r76 : List (List AV)) =>
                              some (r76)
                            else
                              if (cop .eql x75 13) = true then
                                (g81 x0 x49 x50 x51 x52 x53 x54).bind fun (r76 : List (List AV)) =>
                                some (r76)
                              else
                                if (cop .eql x75 14) = true then
                                  (g82 x0 x44).bind fun (r76 : List (List AV)) =>
                                  some (r76)
                                else
                                  some (x0)) := by kernel_rfl

/- multikernel/wire.Encode -/
def E7 : Env := envG 55 [2, 3] [(5, [(1, .box hs0), (4, .ptr 15 0), (24, .c (.slice 1)), (25, .c (.int .i64)), (26, .c (.int .i64)), (15, .box [.own 5])]), (11, [(1, .box hs0), (4, .ptr 15 0), (40, .c (.slice 1)), (41, .c (.int .i64)), (42, .c (.int .i64)), (15, .box [.own 5])])] [] 0
def A7 : List AP := [.agg hs0]
def R7 : List RSh := [.c (.own 5), .c (.int .i64)]
noncomputable def T7 : STree := evFn Tryz.prog E7 Tryz.f7 (argsAt A7 0) 74
noncomputable def T7L0 : STree := T7.go [0, 1, 0, 1, 2]
noncomputable def T7L1 : STree := T7.go [0, 1, 0]
noncomputable def P7 : List (FuncId × Fun) := [(9, S9), (18, S18), (19, S19), (20, S20)]
noncomputable def S7 : Fun := ⟨A7, R7, fun vs => T7.run Tryz.prog P7 A7 R7 (fun _ _ => none) (envL vs)⟩
theorem ok7 : S7.Ok Tryz.prog 7 := fun_ok (Φ := P7) (S := S7) mixed plain_ok Tryz.func7 (by kernel_rfl) (by kernel_rfl) (by kernel_rfl) (T := T7) rfl (And.intro ok9 (And.intro ok18 (And.intro ok19 (And.intro ok20 trivial)))) (fun _ => by kernel_rfl)
noncomputable def g7 (x0 x1 x2 x3 x4 x5 x6 x7 x8 x9 x10 : Int) (x11 : Bool) (x12 x13 x14 x15 x16 x17 x18 x19 x20 x21 x22 x23 x24 x25 x26 x27 x28 x29 x30 x31 : Int) (x32 : List (List AV)) (x33 x34 x35 x36 x37 x38 : Int) (x39 : Bool) (x40 x41 x42 x43 : List (List AV)) (x44 x45 : Int) (x46 x47 x48 x49 x50 x51 x52 x53 : List (List AV)) (x54 x55 : Int) (x56 x57 x58 x59 x60 x61 x62 x63 : List (List AV)) (x64 : Bool) (x65 : Int) (x66 x67 x68 x69 x70 x71 x72 x73 : List (List AV)) : Option (List (List AV) × Int) := S7.g [.i x0, .i x1, .i x2, .i x3, .i x4, .i x5, .i x6, .i x7, .i x8, .i x9, .i x10, .b x11, .i x12, .i x13, .i x14, .i x15, .i x16, .i x17, .i x18, .i x19, .i x20, .i x21, .i x22, .i x23, .i x24, .i x25, .i x26, .i x27, .i x28, .i x29, .i x30, .i x31, .l x32, .i x33, .i x34, .i x35, .i x36, .i x37, .i x38, .b x39, .l x40, .l x41, .l x42, .l x43, .i x44, .i x45, .l x46, .l x47, .l x48, .l x49, .l x50, .l x51, .l x52, .l x53, .i x54, .i x55, .l x56, .l x57, .l x58, .l x59, .l x60, .l x61, .l x62, .l x63, .b x64, .i x65, .l x66, .l x67, .l x68, .l x69, .l x70, .l x71, .l x72, .l x73]
noncomputable def g7L0 (k : Nat) (x0 x1 x2 x3 x4 x5 x6 x7 x8 x9 x10 : Int) (x11 : Bool) (x12 x13 x14 x15 x16 x17 x18 x19 x20 x21 x22 x23 x24 x25 x26 x27 x28 x29 x30 x31 : Int) (x32 : List (List AV)) (x33 x34 x35 x36 x37 x38 : Int) (x39 : Bool) (x40 x41 x42 x43 : List (List AV)) (x44 x45 : Int) (x46 x47 x48 x49 x50 x51 x52 x53 : List (List AV)) (x54 x55 : Int) (x56 x57 x58 x59 x60 x61 x62 x63 : List (List AV)) (x64 : Bool) (x65 : Int) (x66 x67 x68 x69 x70 x71 x72 x73 x74 : List (List AV)) (x75 x76 : Int) (x77 : List (List AV)) : Option (List (List AV) × Int) := iterL (fun rec vs => STree.run Tryz.prog P7 A7 R7 T7L0 (updR (fun _ _ => none) 0 rec) (bind zeroE 0 vs)) k [.i x0, .i x1, .i x2, .i x3, .i x4, .i x5, .i x6, .i x7, .i x8, .i x9, .i x10, .b x11, .i x12, .i x13, .i x14, .i x15, .i x16, .i x17, .i x18, .i x19, .i x20, .i x21, .i x22, .i x23, .i x24, .i x25, .i x26, .i x27, .i x28, .i x29, .i x30, .i x31, .l x32, .i x33, .i x34, .i x35, .i x36, .i x37, .i x38, .b x39, .l x40, .l x41, .l x42, .l x43, .i x44, .i x45, .l x46, .l x47, .l x48, .l x49, .l x50, .l x51, .l x52, .l x53, .i x54, .i x55, .l x56, .l x57, .l x58, .l x59, .l x60, .l x61, .l x62, .l x63, .b x64, .i x65, .l x66, .l x67, .l x68, .l x69, .l x70, .l x71, .l x72, .l x73, .l x74, .i x75, .i x76, .l x77]
theorem g7L0_eq (k : Nat) (x0 x1 x2 x3 x4 x5 x6 x7 x8 x9 x10 : Int) (x11 : Bool) (x12 x13 x14 x15 x16 x17 x18 x19 x20 x21 x22 x23 x24 x25 x26 x27 x28 x29 x30 x31 : Int) (x32 : List (List AV)) (x33 x34 x35 x36 x37 x38 : Int) (x39 : Bool) (x40 x41 x42 x43 : List (List AV)) (x44 x45 : Int) (x46 x47 x48 x49 x50 x51 x52 x53 : List (List AV)) (x54 x55 : Int) (x56 x57 x58 x59 x60 x61 x62 x63 : List (List AV)) (x64 : Bool) (x65 : Int) (x66 x67 x68 x69 x70 x71 x72 x73 x74 : List (List AV)) (x75 x76 : Int) (x77 : List (List AV)) : g7L0 (k + 1) x0 x1 x2 x3 x4 x5 x6 x7 x8 x9 x10 x11 x12 x13 x14 x15 x16 x17 x18 x19 x20 x21 x22 x23 x24 x25 x26 x27 x28 x29 x30 x31 x32 x33 x34 x35 x36 x37 x38 x39 x40 x41 x42 x43 x44 x45 x46 x47 x48 x49 x50 x51 x52 x53 x54 x55 x56 x57 x58 x59 x60 x61 x62 x63 x64 x65 x66 x67 x68 x69 x70 x71 x72 x73 x74 x75 x76 x77 =
    (if (cop .lss x76 x75) = true then
      elemK x74 x76 [.int .i64] fun (r78 : Int) =>
      (g20 x77 x0 x1 x2 x3 x4 x5 x6 x7 x8 x9 x10 x11 x12 x13 x14 x15 x16 x17 x18 x19 x20 x21 x22 x23 x24 x25 x26 x27 x28 x29 x30 x31 x32 x33 x34 x35 x36 x37 x38 x39 x40 x41 x42 x43 x44 x45 x46 x47 x48 x49 x50 x51 x52 x53 x54 x55 x56 x57 x58 x59 x60 x61 x62 x63 x64 x65 x66 x67 x68 x69 x70 x71 x72 x73 r78).bind fun (r79 : List (List AV)) =>
      g7L0 k x0 x1 x2 x3 x4 x5 x6 x7 x8 x9 x10 x11 x12 x13 x14 x15 x16 x17 x18 x19 x20 x21 x22 x23 x24 x25 x26 x27 x28 x29 x30 x31 x32 x33 x34 x35 x36 x37 x38 x39 x40 x41 x42 x43 x44 x45 x46 x47 x48 x49 x50 x51 x52 x53 x54 x55 x56 x57 x58 x59 x60 x61 x62 x63 x64 x65 x66 x67 x68 x69 x70 x71 x72 x73 x74 x75 (iop .add .i64 x76 1) r79
    else
      some (x77, 0)) := by kernel_rfl
noncomputable def g7L1 (k : Nat) (x0 x1 x2 x3 x4 x5 x6 x7 x8 x9 x10 : Int) (x11 : Bool) (x12 x13 x14 x15 x16 x17 x18 x19 x20 x21 x22 x23 x24 x25 x26 x27 x28 x29 x30 x31 : Int) (x32 : List (List AV)) (x33 x34 x35 x36 x37 x38 : Int) (x39 : Bool) (x40 x41 x42 x43 : List (List AV)) (x44 x45 : Int) (x46 x47 x48 x49 x50 x51 x52 x53 : List (List AV)) (x54 x55 : Int) (x56 x57 x58 x59 x60 x61 x62 x63 : List (List AV)) (x64 : Bool) (x65 : Int) (x66 x67 x68 x69 x70 x71 x72 x73 x74 : List (List AV)) (x75 x76 : Int) (x77 : List (List AV)) : Option (List (List AV) × Int) := iterL (fun rec vs => STree.run Tryz.prog P7 A7 R7 T7L1 (updR (fun _ _ => none) 0 rec) (bind zeroE 0 vs)) k [.i x0, .i x1, .i x2, .i x3, .i x4, .i x5, .i x6, .i x7, .i x8, .i x9, .i x10, .b x11, .i x12, .i x13, .i x14, .i x15, .i x16, .i x17, .i x18, .i x19, .i x20, .i x21, .i x22, .i x23, .i x24, .i x25, .i x26, .i x27, .i x28, .i x29, .i x30, .i x31, .l x32, .i x33, .i x34, .i x35, .i x36, .i x37, .i x38, .b x39, .l x40, .l x41, .l x42, .l x43, .i x44, .i x45, .l x46, .l x47, .l x48, .l x49, .l x50, .l x51, .l x52, .l x53, .i x54, .i x55, .l x56, .l x57, .l x58, .l x59, .l x60, .l x61, .l x62, .l x63, .b x64, .i x65, .l x66, .l x67, .l x68, .l x69, .l x70, .l x71, .l x72, .l x73, .l x74, .i x75, .i x76, .l x77]
theorem g7L1_eq (k : Nat) (x0 x1 x2 x3 x4 x5 x6 x7 x8 x9 x10 : Int) (x11 : Bool) (x12 x13 x14 x15 x16 x17 x18 x19 x20 x21 x22 x23 x24 x25 x26 x27 x28 x29 x30 x31 : Int) (x32 : List (List AV)) (x33 x34 x35 x36 x37 x38 : Int) (x39 : Bool) (x40 x41 x42 x43 : List (List AV)) (x44 x45 : Int) (x46 x47 x48 x49 x50 x51 x52 x53 : List (List AV)) (x54 x55 : Int) (x56 x57 x58 x59 x60 x61 x62 x63 : List (List AV)) (x64 : Bool) (x65 : Int) (x66 x67 x68 x69 x70 x71 x72 x73 x74 : List (List AV)) (x75 x76 : Int) (x77 : List (List AV)) : g7L1 (k + 1) x0 x1 x2 x3 x4 x5 x6 x7 x8 x9 x10 x11 x12 x13 x14 x15 x16 x17 x18 x19 x20 x21 x22 x23 x24 x25 x26 x27 x28 x29 x30 x31 x32 x33 x34 x35 x36 x37 x38 x39 x40 x41 x42 x43 x44 x45 x46 x47 x48 x49 x50 x51 x52 x53 x54 x55 x56 x57 x58 x59 x60 x61 x62 x63 x64 x65 x66 x67 x68 x69 x70 x71 x72 x73 x74 x75 x76 x77 =
    (if (cop .lss x76 x75) = true then
      elemK x74 x76 [.int .i64] fun (r78 : Int) =>
      (g18 x77 r78).bind fun (r79 : List (List AV)) =>
      g7L1 k x0 x1 x2 x3 x4 x5 x6 x7 x8 x9 x10 x11 x12 x13 x14 x15 x16 x17 x18 x19 x20 x21 x22 x23 x24 x25 x26 x27 x28 x29 x30 x31 x32 x33 x34 x35 x36 x37 x38 x39 x40 x41 x42 x43 x44 x45 x46 x47 x48 x49 x50 x51 x52 x53 x54 x55 x56 x57 x58 x59 x60 x61 x62 x63 x64 x65 x66 x67 x68 x69 x70 x71 x72 x73 x74 x75 (iop .add .i64 x76 1) r79
    else
      (g19 x0).bind fun (r78 : List (List AV) × Bool) =>
      g7L0 FUEL x0 x1 x2 x3 x4 x5 x6 x7 x8 x9 x10 x11 x12 x13 x14 x15 x16 x17 x18 x19 x20 x21 x22 x23 x24 x25 x26 x27 x28 x29 x30 x31 x32 x33 x34 x35 x36 x37 x38 x39 x40 x41 x42 x43 x44 x45 x46 x47 x48 x49 x50 x51 x52 x53 x54 x55 x56 x57 x58 x59 x60 x61 x62 x63 x64 x65 x66 x67 x68 x69 x70 x71 x72 x73 r78.1 (List.length r78.1 : Int) 0 x77) := by kernel_rfl
theorem g7_eq (x0 x1 x2 x3 x4 x5 x6 x7 x8 x9 x10 : Int) (x11 : Bool) (x12 x13 x14 x15 x16 x17 x18 x19 x20 x21 x22 x23 x24 x25 x26 x27 x28 x29 x30 x31 : Int) (x32 : List (List AV)) (x33 x34 x35 x36 x37 x38 : Int) (x39 : Bool) (x40 x41 x42 x43 : List (List AV)) (x44 x45 : Int) (x46 x47 x48 x49 x50 x51 x52 x53 : List (List AV)) (x54 x55 : Int) (x56 x57 x58 x59 x60 x61 x62 x63 : List (List AV)) (x64 : Bool) (x65 : Int) (x66 x67 x68 x69 x70 x71 x72 x73 : List (List AV)) : g7 x0 x1 x2 x3 x4 x5 x6 x7 x8 x9 x10 x11 x12 x13 x14 x15 x16 x17 x18 x19 x20 x21 x22 x23 x24 x25 x26 x27 x28 x29 x30 x31 x32 x33 x34 x35 x36 x37 x38 x39 x40 x41 x42 x43 x44 x45 x46 x47 x48 x49 x50 x51 x52 x53 x54 x55 x56 x57 x58 x59 x60 x61 x62 x63 x64 x65 x66 x67 x68 x69 x70 x71 x72 x73 =
    ((g9 x0 x1 x2 x3 x4 x5 x6 x7 x8 x9 x10 x11 x12 x13 x14 x15 x16 x17 x18 x19 x20 x21 x22 x23 x24 x25 x26 x27 x28 x29 x30 x31 x32 x33 x34 x35 x36 x37 x38 x39 x40 x41 x42 x43 x44 x45 x46 x47 x48 x49 x50 x51 x52 x53 x54 x55 x56 x57 x58 x59 x60 x61 x62 x63 x64 x65 x66 x67 x68 x69 x70 x71 x72 x73).bind fun (r74 : Bool) =>
    if (!r74) = true then
      some (([] : List (List AV)), 1)
    else
      g7L1 FUEL x0 x1 x2 x3 x4 x5 x6 x7 x8 x9 x10 x11 x12 x13 x14 x15 x16 x17 x18 x19 x20 x21 x22 x23 x24 x25 x26 x27 x28 x29 x30 x31 x32 x33 x34 x35 x36 x37 x38 x39 x40 x41 x42 x43 x44 x45 x46 x47 x48 x49 x50 x51 x52 x53 x54 x55 x56 x57 x58 x59 x60 x61 x62 x63 x64 x65 x66 x67 x68 x69 x70 x71 x72 x73 ((((([] : List (List AV)) ++ [[AV.val (.int .i64 x0)]]) ++ [[AV.val (.int .i64 x1)]]) ++ [[AV.val (.int .i64 x2)]]) ++ [[AV.val (.int .i64 x3)]]) (List.length ((((([] : List (List AV)) ++ [[AV.val (.int .i64 x0)]]) ++ [[AV.val (.int .i64 x1)]]) ++ [[AV.val (.int .i64 x2)]]) ++ [[AV.val (.int .i64 x3)]]) : Int) 0 ([] : List (List AV))) := by kernel_rfl

/- multikernel/multikernelref10.PutUvarint -/
def E83 : Env := envG 21 [4] [(1, [(0, .c (.own 5)), (1, .c (.int .i64))])] [] 0
def A83 : List AP := [.c (.own 5), .c (.int .i64)]
def R83 : List RSh := [.c (.own 5)]
noncomputable def T83 : STree := evFn Tryz.prog E83 Tryz.f83 (argsAt A83 0) 2
noncomputable def T83L0 : STree := T83.go [0]
noncomputable def P83 : List (FuncId × Fun) := []
noncomputable def S83 : Fun := ⟨A83, R83, fun vs => T83.run Tryz.prog P83 A83 R83 (fun _ _ => none) (envL vs)⟩
theorem ok83 : S83.Ok Tryz.prog 83 := fun_ok (Φ := P83) (S := S83) mixed plain_ok Tryz.func83 (by kernel_rfl) (by kernel_rfl) (by kernel_rfl) (T := T83) rfl trivial (fun _ => by kernel_rfl)
noncomputable def g83 (x0 : List (List AV)) (x1 : Int) : Option (List (List AV)) := S83.g [.l x0, .i x1]
noncomputable def g83L0 (k : Nat) (x0 : List (List AV)) (x1 : Int) : Option (List (List AV)) := iterL (fun rec vs => STree.run Tryz.prog P83 A83 R83 T83L0 (updR (fun _ _ => none) 0 rec) (bind zeroE 0 vs)) k [.l x0, .i x1]
theorem g83L0_eq (k : Nat) (x0 : List (List AV)) (x1 : Int) : g83L0 (k + 1) x0 x1 =
    (if (cop .geq x1 128) = true then
      reqK ((128 : Int) ≠ 0) <|
      reqK (roomP x0 (([] : List (List AV)) ++ [[AV.val (.int .u8 (IntKind.wrap .u8 (iop .add .i64 (iop .rem .i64 x1 128) 128)))]]) 1) <|
      reqK ((128 : Int) ≠ 0) <|
      g83L0 k (x0 ++ (([] : List (List AV)) ++ [[AV.val (.int .u8 (IntKind.wrap .u8 (iop .add .i64 (iop .rem .i64 x1 128) 128)))]])) (iop .quo .i64 x1 128)
    else
      reqK (roomP x0 (([] : List (List AV)) ++ [[AV.val (.int .u8 (IntKind.wrap .u8 x1))]]) 1) <|
      some ((x0 ++ (([] : List (List AV)) ++ [[AV.val (.int .u8 (IntKind.wrap .u8 x1))]])))) := by kernel_rfl
theorem g83_eq (x0 : List (List AV)) (x1 : Int) : g83 x0 x1 =
    (g83L0 FUEL x0 x1) := by kernel_rfl

/- multikernel/multikernelref18.num -/
def E21 : Env := envG 8 [4] [] [] 0
def A21 : List AP := [.c (.own 5), .c (.int .i64)]
def R21 : List RSh := [.c (.own 5)]
noncomputable def T21 : STree := evFn Tryz.prog E21 Tryz.f21 (argsAt A21 0) 2
noncomputable def P21 : List (FuncId × Fun) := [(83, S83)]
noncomputable def S21 : Fun := ⟨A21, R21, fun vs => T21.run Tryz.prog P21 A21 R21 (fun _ _ => none) (envL vs)⟩
theorem ok21 : S21.Ok Tryz.prog 21 := fun_ok (Φ := P21) (S := S21) mixed plain_ok Tryz.func21 (by kernel_rfl) (by kernel_rfl) (by kernel_rfl) (T := T21) rfl (And.intro ok83 trivial) (fun _ => by kernel_rfl)
noncomputable def g21 (x0 : List (List AV)) (x1 : Int) : Option (List (List AV)) := S21.g [.l x0, .i x1]
theorem g21_eq (x0 : List (List AV)) (x1 : Int) : g21 x0 x1 =
    ((g83 x0 x1).bind fun (r2 : List (List AV)) =>
    some (r2)) := by kernel_rfl

/- multikernel/multikernelref10.PutId -/
def E24 : Env := envG 15 [4] [] [] 0
def A24 : List AP := [.c (.own 5), .agg [.int .i64, .int .i64, .int .i64]]
def R24 : List RSh := [.c (.own 5)]
noncomputable def T24 : STree := evFn Tryz.prog E24 Tryz.f24 (argsAt A24 0) 4
noncomputable def P24 : List (FuncId × Fun) := [(83, S83)]
noncomputable def S24 : Fun := ⟨A24, R24, fun vs => T24.run Tryz.prog P24 A24 R24 (fun _ _ => none) (envL vs)⟩
theorem ok24 : S24.Ok Tryz.prog 24 := fun_ok (Φ := P24) (S := S24) mixed plain_ok Tryz.func24 (by kernel_rfl) (by kernel_rfl) (by kernel_rfl) (T := T24) rfl (And.intro ok83 trivial) (fun _ => by kernel_rfl)
noncomputable def g24 (x0 : List (List AV)) (x1 x2 x3 : Int) : Option (List (List AV)) := S24.g [.l x0, .i x1, .i x2, .i x3]
theorem g24_eq (x0 : List (List AV)) (x1 x2 x3 : Int) : g24 x0 x1 x2 x3 =
    ((g83 x0 x1).bind fun (r4 : List (List AV)) =>
    (g83 r4 x2).bind fun (r5 : List (List AV)) =>
    (g83 r5 x3).bind fun (r6 : List (List AV)) =>
    some (r6)) := by kernel_rfl

/- multikernel/multikernelref18.signed -/
def E148 : Env := envG 29 [4] [(4, [(0, .c (.own 5)), (5, .c (.int .u64))])] [] 0
def A148 : List AP := [.c (.own 5), .c (.int .i64)]
def R148 : List RSh := [.c (.own 5)]
noncomputable def T148 : STree := evFn Tryz.prog E148 Tryz.f148 (argsAt A148 0) 2
noncomputable def T148L0 : STree := T148.go [2, 0]
noncomputable def P148 : List (FuncId × Fun) := []
noncomputable def S148 : Fun := ⟨A148, R148, fun vs => T148.run Tryz.prog P148 A148 R148 (fun _ _ => none) (envL vs)⟩
theorem ok148 : S148.Ok Tryz.prog 148 := fun_ok (Φ := P148) (S := S148) mixed plain_ok Tryz.func148 (by kernel_rfl) (by kernel_rfl) (by kernel_rfl) (T := T148) rfl trivial (fun _ => by kernel_rfl)
noncomputable def g148 (x0 : List (List AV)) (x1 : Int) : Option (List (List AV)) := S148.g [.l x0, .i x1]
noncomputable def g148L0 (k : Nat) (x0 : List (List AV)) (x1 : Int) : Option (List (List AV)) := iterL (fun rec vs => STree.run Tryz.prog P148 A148 R148 T148L0 (updR (fun _ _ => none) 0 rec) (bind zeroE 0 vs)) k [.l x0, .i x1]
theorem g148L0_eq (k : Nat) (x0 : List (List AV)) (x1 : Int) : g148L0 (k + 1) x0 x1 =
    (if (cop .geq x1 128) = true then
      reqK ((128 : Int) ≠ 0) <|
      reqK (roomP x0 (([] : List (List AV)) ++ [[AV.val (.int .u8 (IntKind.wrap .u8 (iop .add .u64 (iop .rem .u64 x1 128) 128)))]]) 1) <|
      reqK ((128 : Int) ≠ 0) <|
      g148L0 k (x0 ++ (([] : List (List AV)) ++ [[AV.val (.int .u8 (IntKind.wrap .u8 (iop .add .u64 (iop .rem .u64 x1 128) 128)))]])) (iop .quo .u64 x1 128)
    else
      reqK (roomP x0 (([] : List (List AV)) ++ [[AV.val (.int .u8 (IntKind.wrap .u8 x1))]]) 1) <|
      some ((x0 ++ (([] : List (List AV)) ++ [[AV.val (.int .u8 (IntKind.wrap .u8 x1))]])))) := by kernel_rfl
theorem g148_eq (x0 : List (List AV)) (x1 : Int) : g148 x0 x1 =
    (reqK ((0 : Int) ≤ 1) <|
    if (cop .lss x1 0) = true then
      g148L0 FUEL x0 (iop .xor .u64 18446744073709551615 (iop .shl .u64 (IntKind.wrap .u64 x1) 1))
    else
      g148L0 FUEL x0 (iop .shl .u64 (IntKind.wrap .u64 x1) 1)) := by kernel_rfl

/- multikernel/multikernelref18.call -/
def E84 : Env := envG 45 [4] [(3, [(0, .c (.own 5)), (5, .c (.slice 1)), (6, .c (.int .i64))])] [] 0
def A84 : List AP := [.c (.own 5), .agg hs9]
def R84 : List RSh := [.c (.own 5)]
noncomputable def T84 : STree := evFn Tryz.prog E84 Tryz.f84 (argsAt A84 0) 13
noncomputable def T84L0 : STree := T84.go [0]
noncomputable def P84 : List (FuncId × Fun) := [(148, S148)]
noncomputable def S84 : Fun := ⟨A84, R84, fun vs => T84.run Tryz.prog P84 A84 R84 (fun _ _ => none) (envL vs)⟩
theorem ok84 : S84.Ok Tryz.prog 84 := fun_ok (Φ := P84) (S := S84) mixed plain_ok Tryz.func84 (by kernel_rfl) (by kernel_rfl) (by kernel_rfl) (T := T84) rfl (And.intro ok148 trivial) (fun _ => by kernel_rfl)
noncomputable def g84 (x0 : List (List AV)) (x1 x2 x3 x4 x5 x6 x7 x8 x9 x10 x11 x12 : Int) : Option (List (List AV)) := S84.g [.l x0, .i x1, .i x2, .i x3, .i x4, .i x5, .i x6, .i x7, .i x8, .i x9, .i x10, .i x11, .i x12]
noncomputable def g84L0 (k : Nat) (x0 x1 : List (List AV)) (x2 : Int) : Option (List (List AV)) := iterL (fun rec vs => STree.run Tryz.prog P84 A84 R84 T84L0 (updR (fun _ _ => none) 0 rec) (bind zeroE 0 vs)) k [.l x0, .l x1, .i x2]
theorem g84L0_eq (k : Nat) (x0 x1 : List (List AV)) (x2 : Int) : g84L0 (k + 1) x0 x1 x2 =
    (if (cop .lss x2 (List.length x1 : Int)) = true then
      elemK x1 x2 [.int .i64] fun (r3 : Int) =>
      (g148 x0 r3).bind fun (r4 : List (List AV)) =>
      g84L0 k r4 x1 (iop .add .i64 x2 1)
    else
      some (x0)) := by kernel_rfl
theorem g84_eq (x0 : List (List AV)) (x1 x2 x3 x4 x5 x6 x7 x8 x9 x10 x11 x12 : Int) : g84 x0 x1 x2 x3 x4 x5 x6 x7 x8 x9 x10 x11 x12 =
    (g84L0 FUEL x0 ((((((((((((([] : List (List AV)) ++ [[AV.val (.int .i64 x1)]]) ++ [[AV.val (.int .i64 x2)]]) ++ [[AV.val (.int .i64 x3)]]) ++ [[AV.val (.int .i64 x4)]]) ++ [[AV.val (.int .i64 x5)]]) ++ [[AV.val (.int .i64 x6)]]) ++ [[AV.val (.int .i64 x7)]]) ++ [[AV.val (.int .i64 x8)]]) ++ [[AV.val (.int .i64 x9)]]) ++ [[AV.val (.int .i64 x10)]]) ++ [[AV.val (.int .i64 x11)]]) ++ [[AV.val (.int .i64 x12)]]) 0) := by kernel_rfl

/- multikernel/multikernelref10.EncodeCap -/
def E149 : Env := envG 47 [2, 3] [(8, [(1, .box hs14), (5, .c (.own 5)), (6, .c (.int .i64))])] [] 0
def A149 : List AP := [.agg hs14]
def R149 : List RSh := [.c (.own 5), .c (.int .i64)]
noncomputable def T149 : STree := evFn Tryz.prog E149 Tryz.f149 (argsAt A149 0) 7
noncomputable def T149L0 : STree := T149.go [0, 1, 0, 0]
noncomputable def P149 : List (FuncId × Fun) := [(106, S106)]
noncomputable def S149 : Fun := ⟨A149, R149, fun vs => T149.run Tryz.prog P149 A149 R149 (fun _ _ => none) (envL vs)⟩
theorem ok149 : S149.Ok Tryz.prog 149 := fun_ok (Φ := P149) (S := S149) mixed plain_ok Tryz.func149 (by kernel_rfl) (by kernel_rfl) (by kernel_rfl) (T := T149) rfl (And.intro ok106 trivial) (fun _ => by kernel_rfl)
noncomputable def g149 (x0 x1 x2 x3 x4 x5 : Int) (x6 : Bool) : Option (List (List AV) × Int) := S149.g [.i x0, .i x1, .i x2, .i x3, .i x4, .i x5, .b x6]
noncomputable def g149L0 (k : Nat) (x0 x1 x2 x3 x4 x5 : Int) (x6 : Bool) (x7 : List (List AV)) (x8 : Int) : Option (List (List AV) × Int) := iterL (fun rec vs => STree.run Tryz.prog P149 A149 R149 T149L0 (updR (fun _ _ => none) 0 rec) (bind zeroE 0 vs)) k [.i x0, .i x1, .i x2, .i x3, .i x4, .i x5, .b x6, .l x7, .i x8]
theorem g149L0_eq (k : Nat) (x0 x1 x2 x3 x4 x5 : Int) (x6 : Bool) (x7 : List (List AV)) (x8 : Int) : g149L0 (k + 1) x0 x1 x2 x3 x4 x5 x6 x7 x8 =
    (if (cop .lss x8 5) = true then
      reqK ((0 : Int) ≤ (IntKind.wrap .u64 (iop .mul .i64 8 x8))) <|
      reqK (roomP x7 (([] : List (List AV)) ++ [[AV.val (.int .u8 (IntKind.wrap .u8 (iop .and .i64 (iop .shr .i64 x1 (IntKind.wrap .u64 (iop .mul .i64 8 x8))) 255)))]]) 1) <|
      g149L0 k x0 x1 x2 x3 x4 x5 x6 (x7 ++ (([] : List (List AV)) ++ [[AV.val (.int .u8 (IntKind.wrap .u8 (iop .and .i64 (iop .shr .i64 x1 (IntKind.wrap .u64 (iop .mul .i64 8 x8))) 255)))]])) (iop .add .i64 x8 1)
    else
      some (x7, 0)) := by kernel_rfl
theorem g149_eq (x0 x1 x2 x3 x4 x5 : Int) (x6 : Bool) : g149 x0 x1 x2 x3 x4 x5 x6 =
    ((g106 x0 x1 x2 x3 x4 x5 x6).bind fun (r7 : Bool) =>
    if (!r7) = true then
      some (([] : List (List AV)), 1)
    else
      if x6 = true then
        g149L0 FUEL x0 x1 x2 x3 x4 x5 x6 (((((([] : List (List AV)) ++ [[AV.val (.int .u8 (IntKind.wrap .u8 x0))]]) ++ [[AV.val (.int .u8 (IntKind.wrap .u8 x2))]]) ++ [[AV.val (.int .u8 (IntKind.wrap .u8 (iop .add .i64 x3 8)))]]) ++ [[AV.val (.int .u8 (IntKind.wrap .u8 x4))]]) ++ [[AV.val (.int .u8 (IntKind.wrap .u8 x5))]]) 0
      else
        g149L0 FUEL x0 x1 x2 x3 x4 x5 x6 (((((([] : List (List AV)) ++ [[AV.val (.int .u8 (IntKind.wrap .u8 x0))]]) ++ [[AV.val (.int .u8 (IntKind.wrap .u8 x2))]]) ++ [[AV.val (.int .u8 (IntKind.wrap .u8 x3))]]) ++ [[AV.val (.int .u8 (IntKind.wrap .u8 x4))]]) ++ [[AV.val (.int .u8 (IntKind.wrap .u8 x5))]]) 0) := by kernel_rfl

/- multikernel/multikernelref10.EncodeNode -/
def E85 : Env := envG 41 [2, 3] [(5, [(1, .box hs10), (4, .c (.own 5)), (5, .c (.int .i64))])] [] 0
def A85 : List AP := [.agg hs10]
def R85 : List RSh := [.c (.own 5), .c (.int .i64)]
noncomputable def T85 : STree := evFn Tryz.prog E85 Tryz.f85 (argsAt A85 0) 11
noncomputable def T85L0 : STree := T85.go [0, 1, 3]
noncomputable def P85 : List (FuncId × Fun) := [(45, S45), (24, S24), (83, S83), (149, S149)]
noncomputable def S85 : Fun := ⟨A85, R85, fun vs => T85.run Tryz.prog P85 A85 R85 (fun _ _ => none) (envL vs)⟩
theorem ok85 : S85.Ok Tryz.prog 85 := fun_ok (Φ := P85) (S := S85) mixed plain_ok Tryz.func85 (by kernel_rfl) (by kernel_rfl) (by kernel_rfl) (T := T85) rfl (And.intro ok45 (And.intro ok24 (And.intro ok83 (And.intro ok149 trivial)))) (fun _ => by kernel_rfl)
noncomputable def g85 (x0 x1 x2 : Int) (x3 : List (List AV)) (x4 x5 x6 x7 x8 x9 : Int) (x10 : Bool) : Option (List (List AV) × Int) := S85.g [.i x0, .i x1, .i x2, .l x3, .i x4, .i x5, .i x6, .i x7, .i x8, .i x9, .b x10]
noncomputable def g85L0 (k : Nat) (x0 x1 x2 : Int) (x3 : List (List AV)) (x4 x5 x6 x7 x8 x9 : Int) (x10 : Bool) (x11 : List (List AV)) (x12 : Int) : Option (List (List AV) × Int) := iterL (fun rec vs => STree.run Tryz.prog P85 A85 R85 T85L0 (updR (fun _ _ => none) 0 rec) (bind zeroE 0 vs)) k [.i x0, .i x1, .i x2, .l x3, .i x4, .i x5, .i x6, .i x7, .i x8, .i x9, .b x10, .l x11, .i x12]
theorem g85L0_eq (k : Nat) (x0 x1 x2 : Int) (x3 : List (List AV)) (x4 x5 x6 x7 x8 x9 : Int) (x10 : Bool) (x11 : List (List AV)) (x12 : Int) : g85L0 (k + 1) x0 x1 x2 x3 x4 x5 x6 x7 x8 x9 x10 x11 x12 =
    (if (cop .lss x12 (List.length x3 : Int)) = true then
      elemK x3 x12 [.int .i64, .int .i64, .int .i64] fun (r13 : Int × Int × Int) =>
      (g24 x11 r13.1 r13.2.1 r13.2.2).bind fun (r16 : List (List AV)) =>
      g85L0 k x0 x1 x2 x3 x4 x5 x6 x7 x8 x9 x10 r16 (iop .add .i64 x12 1)
    else
      (g149 x4 x5 x6 x7 x8 x9 x10).bind fun (r13 : List (List AV) × Int) =>
      reqK (roomP x11 r13.1 1) <|
      some ((x11 ++ r13.1), 0)) := by kernel_rfl
theorem g85_eq (x0 x1 x2 : Int) (x3 : List (List AV)) (x4 x5 x6 x7 x8 x9 : Int) (x10 : Bool) : g85 x0 x1 x2 x3 x4 x5 x6 x7 x8 x9 x10 =
    ((g45 x0 x1 x2 x3 x4 x5 x6 x7 x8 x9 x10).bind fun (r11 : Bool) =>
    if (!r11) = true then
      some (([] : List (List AV)), 1)
    else
      (g24 ([] : List (List AV)) x0 x1 x2).bind fun (r12 : List (List AV)) =>
      (g83 r12 (List.length x3 : Int)).bind fun (r13 : List (List AV)) =>
      g85L0 FUEL x0 x1 x2 x3 x4 x5 x6 x7 x8 x9 x10 r13 0) := by kernel_rfl

/- multikernel/multikernelref18.node -/
def E30 : Env := envG 18 [4] [] [] 0
def A30 : List AP := [.c (.own 5), .agg hs10]
def R30 : List RSh := [.c (.own 5)]
noncomputable def T30 : STree := evFn Tryz.prog E30 Tryz.f30 (argsAt A30 0) 12
noncomputable def P30 : List (FuncId × Fun) := [(85, S85), (21, S21)]
noncomputable def S30 : Fun := ⟨A30, R30, fun vs => T30.run Tryz.prog P30 A30 R30 (fun _ _ => none) (envL vs)⟩
theorem ok30 : S30.Ok Tryz.prog 30 := fun_ok (Φ := P30) (S := S30) mixed plain_ok Tryz.func30 (by kernel_rfl) (by kernel_rfl) (by kernel_rfl) (T := T30) rfl (And.intro ok85 (And.intro ok21 trivial)) (fun _ => by kernel_rfl)
noncomputable def g30 (x0 : List (List AV)) (x1 x2 x3 : Int) (x4 : List (List AV)) (x5 x6 x7 x8 x9 x10 : Int) (x11 : Bool) : Option (List (List AV)) := S30.g [.l x0, .i x1, .i x2, .i x3, .l x4, .i x5, .i x6, .i x7, .i x8, .i x9, .i x10, .b x11]
theorem g30_eq (x0 : List (List AV)) (x1 x2 x3 : Int) (x4 : List (List AV)) (x5 x6 x7 x8 x9 x10 : Int) (x11 : Bool) : g30 x0 x1 x2 x3 x4 x5 x6 x7 x8 x9 x10 x11 =
    ((g85 x1 x2 x3 x4 x5 x6 x7 x8 x9 x10 x11).bind fun (r12 : List (List AV) × Int) =>
    (g21 x0 (List.length r12.1 : Int)).bind fun (r14 : List (List AV)) =>
    reqK (roomP r14 r12.1 1) <|
    some ((r14 ++ r12.1))) := by kernel_rfl

/- multikernel/multikernelref18.request -/
def E22 : Env := envG 22 [4] [] [] 0
def A22 : List AP := [.c (.own 5), .agg hs4]
def R22 : List RSh := [.c (.own 5)]
noncomputable def T22 : STree := evFn Tryz.prog E22 Tryz.f22 (argsAt A22 0) 29
noncomputable def P22 : List (FuncId × Fun) := [(24, S24), (84, S84), (21, S21), (30, S30)]
noncomputable def S22 : Fun := ⟨A22, R22, fun vs => T22.run Tryz.prog P22 A22 R22 (fun _ _ => none) (envL vs)⟩
theorem ok22 : S22.Ok Tryz.prog 22 := fun_ok (Φ := P22) (S := S22) mixed plain_ok Tryz.func22 (by kernel_rfl) (by kernel_rfl) (by kernel_rfl) (T := T22) rfl (And.intro ok24 (And.intro ok84 (And.intro ok21 (And.intro ok30 trivial)))) (fun _ => by kernel_rfl)
noncomputable def g22 (x0 : List (List AV)) (x1 x2 x3 x4 x5 x6 x7 x8 x9 x10 x11 x12 x13 x14 x15 x16 x17 x18 x19 x20 : Int) (x21 : List (List AV)) (x22 x23 x24 x25 x26 x27 : Int) (x28 : Bool) : Option (List (List AV)) := S22.g [.l x0, .i x1, .i x2, .i x3, .i x4, .i x5, .i x6, .i x7, .i x8, .i x9, .i x10, .i x11, .i x12, .i x13, .i x14, .i x15, .i x16, .i x17, .i x18, .i x19, .i x20, .l x21, .i x22, .i x23, .i x24, .i x25, .i x26, .i x27, .b x28]
theorem g22_eq (x0 : List (List AV)) (x1 x2 x3 x4 x5 x6 x7 x8 x9 x10 x11 x12 x13 x14 x15 x16 x17 x18 x19 x20 : Int) (x21 : List (List AV)) (x22 x23 x24 x25 x26 x27 : Int) (x28 : Bool) : g22 x0 x1 x2 x3 x4 x5 x6 x7 x8 x9 x10 x11 x12 x13 x14 x15 x16 x17 x18 x19 x20 x21 x22 x23 x24 x25 x26 x27 x28 =
    ((g24 x0 x1 x2 x3).bind fun (r29 : List (List AV)) =>
    (g84 r29 x4 x5 x6 x7 x8 x9 x10 x11 x12 x13 x14 x15).bind fun (r30 : List (List AV)) =>
    (g21 r30 x16).bind fun (r31 : List (List AV)) =>
    (g21 r31 x17).bind fun (r32 : List (List AV)) =>
    (g30 r32 x18 x19 x20 x21 x22 x23 x24 x25 x26 x27 x28).bind fun (r33 : List (List AV)) =>
    some (r33)) := by kernel_rfl

/- multikernel/multikernelref18.bit -/
def E23 : Env := envG 10 [4] [] [] 0
def A23 : List AP := [.c (.own 5), .c (.bool)]
def R23 : List RSh := [.c (.own 5)]
noncomputable def T23 : STree := evFn Tryz.prog E23 Tryz.f23 (argsAt A23 0) 2
noncomputable def P23 : List (FuncId × Fun) := [(21, S21)]
noncomputable def S23 : Fun := ⟨A23, R23, fun vs => T23.run Tryz.prog P23 A23 R23 (fun _ _ => none) (envL vs)⟩
theorem ok23 : S23.Ok Tryz.prog 23 := fun_ok (Φ := P23) (S := S23) mixed plain_ok Tryz.func23 (by kernel_rfl) (by kernel_rfl) (by kernel_rfl) (T := T23) rfl (And.intro ok21 trivial) (fun _ => by kernel_rfl)
noncomputable def g23 (x0 : List (List AV)) (x1 : Bool) : Option (List (List AV)) := S23.g [.l x0, .b x1]
theorem g23_eq (x0 : List (List AV)) (x1 : Bool) : g23 x0 x1 =
    (if x1 = true then
      (g21 x0 1).bind fun (r2 : List (List AV)) =>
      some (r2)
    else
      (g21 x0 0).bind fun (r2 : List (List AV)) =>
      some (r2)) := by kernel_rfl

/- multikernel/multikernelref18.idList -/
def E25 : Env := envG 23 [4] [(3, [(0, .c (.own 5)), (1, .c (.slice 3)), (5, .c (.int .i64))])] [] 0
def A25 : List AP := [.c (.own 5), .c (.slice 3)]
def R25 : List RSh := [.c (.own 5)]
noncomputable def T25 : STree := evFn Tryz.prog E25 Tryz.f25 (argsAt A25 0) 2
noncomputable def T25L0 : STree := T25.go [2]
noncomputable def P25 : List (FuncId × Fun) := [(21, S21), (24, S24)]
noncomputable def S25 : Fun := ⟨A25, R25, fun vs => T25.run Tryz.prog P25 A25 R25 (fun _ _ => none) (envL vs)⟩
theorem ok25 : S25.Ok Tryz.prog 25 := fun_ok (Φ := P25) (S := S25) mixed plain_ok Tryz.func25 (by kernel_rfl) (by kernel_rfl) (by kernel_rfl) (T := T25) rfl (And.intro ok21 (And.intro ok24 trivial)) (fun _ => by kernel_rfl)
noncomputable def g25 (x0 x1 : List (List AV)) : Option (List (List AV)) := S25.g [.l x0, .l x1]
noncomputable def g25L0 (k : Nat) (x0 x1 : List (List AV)) (x2 : Int) : Option (List (List AV)) := iterL (fun rec vs => STree.run Tryz.prog P25 A25 R25 T25L0 (updR (fun _ _ => none) 0 rec) (bind zeroE 0 vs)) k [.l x0, .l x1, .i x2]
theorem g25L0_eq (k : Nat) (x0 x1 : List (List AV)) (x2 : Int) : g25L0 (k + 1) x0 x1 x2 =
    (if (cop .lss x2 (List.length x1 : Int)) = true then
      elemK x1 x2 [.int .i64, .int .i64, .int .i64] fun (r3 : Int × Int × Int) =>
      (g24 x0 r3.1 r3.2.1 r3.2.2).bind fun (r6 : List (List AV)) =>
      g25L0 k r6 x1 (iop .add .i64 x2 1)
    else
      some (x0)) := by kernel_rfl
theorem g25_eq (x0 x1 : List (List AV)) : g25 x0 x1 =
    ((g21 x0 (List.length x1 : Int)).bind fun (r2 : List (List AV)) =>
    g25L0 FUEL r2 x1 0) := by kernel_rfl

/- multikernel/multikernelref18.nums -/
def E26 : Env := envG 23 [4] [(3, [(0, .c (.own 5)), (1, .c (.slice 1)), (5, .c (.int .i64))])] [] 0
def A26 : List AP := [.c (.own 5), .c (.slice 1)]
def R26 : List RSh := [.c (.own 5)]
noncomputable def T26 : STree := evFn Tryz.prog E26 Tryz.f26 (argsAt A26 0) 2
noncomputable def T26L0 : STree := T26.go [2]
noncomputable def P26 : List (FuncId × Fun) := [(21, S21)]
noncomputable def S26 : Fun := ⟨A26, R26, fun vs => T26.run Tryz.prog P26 A26 R26 (fun _ _ => none) (envL vs)⟩
theorem ok26 : S26.Ok Tryz.prog 26 := fun_ok (Φ := P26) (S := S26) mixed plain_ok Tryz.func26 (by kernel_rfl) (by kernel_rfl) (by kernel_rfl) (T := T26) rfl (And.intro ok21 trivial) (fun _ => by kernel_rfl)
noncomputable def g26 (x0 x1 : List (List AV)) : Option (List (List AV)) := S26.g [.l x0, .l x1]
noncomputable def g26L0 (k : Nat) (x0 x1 : List (List AV)) (x2 : Int) : Option (List (List AV)) := iterL (fun rec vs => STree.run Tryz.prog P26 A26 R26 T26L0 (updR (fun _ _ => none) 0 rec) (bind zeroE 0 vs)) k [.l x0, .l x1, .i x2]
theorem g26L0_eq (k : Nat) (x0 x1 : List (List AV)) (x2 : Int) : g26L0 (k + 1) x0 x1 x2 =
    (if (cop .lss x2 (List.length x1 : Int)) = true then
      elemK x1 x2 [.int .i64] fun (r3 : Int) =>
      (g21 x0 r3).bind fun (r4 : List (List AV)) =>
      g26L0 k r4 x1 (iop .add .i64 x2 1)
    else
      some (x0)) := by kernel_rfl
theorem g26_eq (x0 x1 : List (List AV)) : g26 x0 x1 =
    ((g21 x0 (List.length x1 : Int)).bind fun (r2 : List (List AV)) =>
    g26L0 FUEL r2 x1 0) := by kernel_rfl

/- multikernel/multikernelref18.putView -/
def E29 : Env := envG 15 [4] [] [] 0
def A29 : List AP := [.c (.own 5), .agg [.int .i64, .slice 1, .slice 1]]
def R29 : List RSh := [.c (.own 5)]
noncomputable def T29 : STree := evFn Tryz.prog E29 Tryz.f29 (argsAt A29 0) 4
noncomputable def P29 : List (FuncId × Fun) := [(21, S21), (26, S26)]
noncomputable def S29 : Fun := ⟨A29, R29, fun vs => T29.run Tryz.prog P29 A29 R29 (fun _ _ => none) (envL vs)⟩
theorem ok29 : S29.Ok Tryz.prog 29 := fun_ok (Φ := P29) (S := S29) mixed plain_ok Tryz.func29 (by kernel_rfl) (by kernel_rfl) (by kernel_rfl) (T := T29) rfl (And.intro ok21 (And.intro ok26 trivial)) (fun _ => by kernel_rfl)
noncomputable def g29 (x0 : List (List AV)) (x1 : Int) (x2 x3 : List (List AV)) : Option (List (List AV)) := S29.g [.l x0, .i x1, .l x2, .l x3]
theorem g29_eq (x0 : List (List AV)) (x1 : Int) (x2 x3 : List (List AV)) : g29 x0 x1 x2 x3 =
    ((g21 x0 x1).bind fun (r4 : List (List AV)) =>
    (g26 r4 x2).bind fun (r5 : List (List AV)) =>
    (g26 r5 x3).bind fun (r6 : List (List AV)) =>
    some (r6)) := by kernel_rfl

/- multikernel/multikernelref18.state -/
def E28 : Env := envG 155 [4] [(3, [(0, .c (.own 5)), (3, .box hs15), (5, .c (.int .i64))]), (8, [(0, .c (.own 5)), (3, .box hs15), (6, .c (.int .i64))]), (13, [(0, .c (.own 5)), (3, .box hs15), (7, .c (.int .i64))]), (18, [(0, .c (.own 5)), (3, .box hs15), (8, .c (.int .i64))]), (23, [(0, .c (.own 5)), (3, .box hs15), (9, .c (.int .i64))])] [] 0
def A28 : List AP := [.c (.own 5), .agg hs15]
def R28 : List RSh := [.c (.own 5)]
noncomputable def T28 : STree := evFn Tryz.prog E28 Tryz.f28 (argsAt A28 0) 7
noncomputable def T28L0 : STree := T28.go [2, 1, 2, 1, 2, 1, 2, 1, 2]
noncomputable def T28L1 : STree := T28.go [2, 1, 2, 1, 2, 1, 2]
noncomputable def T28L2 : STree := T28.go [2, 1, 2, 1, 2]
noncomputable def T28L3 : STree := T28.go [2, 1, 2]
noncomputable def T28L4 : STree := T28.go [2]
noncomputable def P28 : List (FuncId × Fun) := [(21, S21), (30, S30), (24, S24), (22, S22), (25, S25)]
noncomputable def S28 : Fun := ⟨A28, R28, fun vs => T28.run Tryz.prog P28 A28 R28 (fun _ _ => none) (envL vs)⟩
theorem ok28 : S28.Ok Tryz.prog 28 := fun_ok (Φ := P28) (S := S28) mixed plain_ok Tryz.func28 (by kernel_rfl) (by kernel_rfl) (by kernel_rfl) (T := T28) rfl (And.intro ok21 (And.intro ok30 (And.intro ok24 (And.intro ok22 (And.intro ok25 trivial))))) (fun _ => by kernel_rfl)
noncomputable def g28 (x0 x1 x2 x3 x4 x5 x6 : List (List AV)) : Option (List (List AV)) := S28.g [.l x0, .l x1, .l x2, .l x3, .l x4, .l x5, .l x6]
noncomputable def g28L0 (k : Nat) (x0 x1 x2 x3 x4 x5 x6 : List (List AV)) (x7 : Int) : Option (List (List AV)) := iterL (fun rec vs => STree.run Tryz.prog P28 A28 R28 T28L0 (updR (fun _ _ => none) 0 rec) (bind zeroE 0 vs)) k [.l x0, .l x1, .l x2, .l x3, .l x4, .l x5, .l x6, .i x7]
theorem g28L0_eq (k : Nat) (x0 x1 x2 x3 x4 x5 x6 : List (List AV)) (x7 : Int) : g28L0 (k + 1) x0 x1 x2 x3 x4 x5 x6 x7 =
    (if (cop .lss x7 (List.length x5 : Int)) = true then
      elemK x5 x7 hs8 fun (r8 : Qt12) =>
      (g21 x0 r8.1).bind fun (r21 : List (List AV)) =>
      elemK x5 x7 hs8 fun (r22 : Qt12) =>
      (g21 r21 r22.2.1).bind fun (r35 : List (List AV)) =>
      elemK x5 x7 hs8 fun (r36 : Qt12) =>
      (g30 r35 r36.2.2.1 r36.2.2.2.1 r36.2.2.2.2.1 r36.2.2.2.2.2.1 r36.2.2.2.2.2.2.1 r36.2.2.2.2.2.2.2.1 r36.2.2.2.2.2.2.2.2.1 r36.2.2.2.2.2.2.2.2.2.1 r36.2.2.2.2.2.2.2.2.2.2.1 r36.2.2.2.2.2.2.2.2.2.2.2.1 (d4 (d8 r36))).bind fun (r49 : List (List AV)) =>
      g28L0 k r49 x1 x2 x3 x4 x5 x6 (iop .add .i64 x7 1)
    else
      (g25 x0 x6).bind fun (r8 : List (List AV)) =>
      some (r8)) := by kernel_rfl
noncomputable def g28L1 (k : Nat) (x0 x1 x2 x3 x4 x5 x6 : List (List AV)) (x7 : Int) : Option (List (List AV)) := iterL (fun rec vs => STree.run Tryz.prog P28 A28 R28 T28L1 (updR (fun _ _ => none) 0 rec) (bind zeroE 0 vs)) k [.l x0, .l x1, .l x2, .l x3, .l x4, .l x5, .l x6, .i x7]
theorem g28L1_eq (k : Nat) (x0 x1 x2 x3 x4 x5 x6 : List (List AV)) (x7 : Int) : g28L1 (k + 1) x0 x1 x2 x3 x4 x5 x6 x7 =
    (if (cop .lss x7 (List.length x4 : Int)) = true then
      elemK x4 x7 [.int .i64, .int .i64] fun (r8 : Int × Int) =>
      (g21 x0 r8.1).bind fun (r10 : List (List AV)) =>
      elemK x4 x7 [.int .i64, .int .i64] fun (r11 : Int × Int) =>
      (g21 r10 r11.2).bind fun (r13 : List (List AV)) =>
      g28L1 k r13 x1 x2 x3 x4 x5 x6 (iop .add .i64 x7 1)
    else
      (g21 x0 (List.length x5 : Int)).bind fun (r8 : List (List AV)) =>
      g28L0 FUEL r8 x1 x2 x3 x4 x5 x6 0) := by kernel_rfl
noncomputable def g28L2 (k : Nat) (x0 x1 x2 x3 x4 x5 x6 : List (List AV)) (x7 : Int) : Option (List (List AV)) := iterL (fun rec vs => STree.run Tryz.prog P28 A28 R28 T28L2 (updR (fun _ _ => none) 0 rec) (bind zeroE 0 vs)) k [.l x0, .l x1, .l x2, .l x3, .l x4, .l x5, .l x6, .i x7]
theorem g28L2_eq (k : Nat) (x0 x1 x2 x3 x4 x5 x6 : List (List AV)) (x7 : Int) : g28L2 (k + 1) x0 x1 x2 x3 x4 x5 x6 x7 =
    (if (cop .lss x7 (List.length x3 : Int)) = true then
      elemK x3 x7 [.int .i64, .int .i64, .int .i64, .int .i64] fun (r8 : Int × Int × Int × Int) =>
      (g21 x0 r8.1).bind fun (r12 : List (List AV)) =>
      elemK x3 x7 [.int .i64, .int .i64, .int .i64, .int .i64] fun (r13 : Int × Int × Int × Int) =>
      (g24 r12 r13.2.1 r13.2.2.1 r13.2.2.2).bind fun (r17 : List (List AV)) =>
      g28L2 k r17 x1 x2 x3 x4 x5 x6 (iop .add .i64 x7 1)
    else
      (g21 x0 (List.length x4 : Int)).bind fun (r8 : List (List AV)) =>
      g28L1 FUEL r8 x1 x2 x3 x4 x5 x6 0) := by kernel_rfl
noncomputable def g28L3 (k : Nat) (x0 x1 x2 x3 x4 x5 x6 : List (List AV)) (x7 : Int) : Option (List (List AV)) := iterL (fun rec vs => STree.run Tryz.prog P28 A28 R28 T28L3 (updR (fun _ _ => none) 0 rec) (bind zeroE 0 vs)) k [.l x0, .l x1, .l x2, .l x3, .l x4, .l x5, .l x6, .i x7]
theorem g28L3_eq (k : Nat) (x0 x1 x2 x3 x4 x5 x6 : List (List AV)) (x7 : Int) : g28L3 (k + 1) x0 x1 x2 x3 x4 x5 x6 x7 =
    (if (cop .lss x7 (List.length x2 : Int)) = true then
      elemK x2 x7 hs4 fun (r8 : Qt6) =>
      (g22 x0 r8.1 r8.2.1 r8.2.2.1 r8.2.2.2.1 r8.2.2.2.2.1 r8.2.2.2.2.2.1 r8.2.2.2.2.2.2.1 r8.2.2.2.2.2.2.2.1 r8.2.2.2.2.2.2.2.2.1 r8.2.2.2.2.2.2.2.2.2.1 r8.2.2.2.2.2.2.2.2.2.2.1 r8.2.2.2.2.2.2.2.2.2.2.2.1 (d4 (d8 r8)).1 (d4 (d8 r8)).2.1 (d2 (d4 (d8 r8))).1 (d2 (d4 (d8 r8))).2.1 (d16 r8).1 (d16 r8).2.1 (d2 (d16 r8)).1 (d2 (d16 r8)).2.1 (d4 (d16 r8)).1 (d4 (d16 r8)).2.1 (d2 (d4 (d16 r8))).1 (d2 (d4 (d16 r8))).2.1 (d8 (d16 r8)).1 (d8 (d16 r8)).2.1 (d2 (d8 (d16 r8))).1 (d2 (d8 (d16 r8))).2).bind fun (r36 : List (List AV)) =>
      g28L3 k r36 x1 x2 x3 x4 x5 x6 (iop .add .i64 x7 1)
    else
      (g21 x0 (List.length x3 : Int)).bind fun (r8 : List (List AV)) =>
      g28L2 FUEL r8 x1 x2 x3 x4 x5 x6 0) := by kernel_rfl
noncomputable def g28L4 (k : Nat) (x0 x1 x2 x3 x4 x5 x6 : List (List AV)) (x7 : Int) : Option (List (List AV)) := iterL (fun rec vs => STree.run Tryz.prog P28 A28 R28 T28L4 (updR (fun _ _ => none) 0 rec) (bind zeroE 0 vs)) k [.l x0, .l x1, .l x2, .l x3, .l x4, .l x5, .l x6, .i x7]
theorem g28L4_eq (k : Nat) (x0 x1 x2 x3 x4 x5 x6 : List (List AV)) (x7 : Int) : g28L4 (k + 1) x0 x1 x2 x3 x4 x5 x6 x7 =
    (if (cop .lss x7 (List.length x1 : Int)) = true then
      elemK x1 x7 hs7 fun (r8 : Qt11) =>
      (g30 x0 r8.1 r8.2.1 r8.2.2.1 r8.2.2.2.1 r8.2.2.2.2.1 r8.2.2.2.2.2.1 r8.2.2.2.2.2.2.1 r8.2.2.2.2.2.2.2.1 r8.2.2.2.2.2.2.2.2.1 r8.2.2.2.2.2.2.2.2.2.1 r8.2.2.2.2.2.2.2.2.2.2.1).bind fun (r23 : List (List AV)) =>
      elemK x1 x7 hs7 fun (r24 : Qt11) =>
      (g21 r23 r24.2.2.2.2.2.2.2.2.2.2.2.1).bind fun (r39 : List (List AV)) =>
      elemK x1 x7 hs7 fun (r40 : Qt11) =>
      (g24 r39 (d4 (d8 r40)).1 (d4 (d8 r40)).2.1 (d2 (d4 (d8 r40)))).bind fun (r55 : List (List AV)) =>
      g28L4 k r55 x1 x2 x3 x4 x5 x6 (iop .add .i64 x7 1)
    else
      (g21 x0 (List.length x2 : Int)).bind fun (r8 : List (List AV)) =>
      g28L3 FUEL r8 x1 x2 x3 x4 x5 x6 0) := by kernel_rfl
theorem g28_eq (x0 x1 x2 x3 x4 x5 x6 : List (List AV)) : g28 x0 x1 x2 x3 x4 x5 x6 =
    ((g21 x0 (List.length x1 : Int)).bind fun (r7 : List (List AV)) =>
    g28L4 FUEL r7 x1 x2 x3 x4 x5 x6 0) := by kernel_rfl

/- multikernel/multikernelref18.putReport -/
def E27 : Env := envG 25 [4] [] [] 0
def A27 : List AP := [.c (.own 5), .agg hs5]
def R27 : List RSh := [.c (.own 5)]
noncomputable def T27 : STree := evFn Tryz.prog E27 Tryz.f27 (argsAt A27 0) 21
noncomputable def P27 : List (FuncId × Fun) := [(21, S21), (29, S29), (28, S28), (23, S23)]
noncomputable def S27 : Fun := ⟨A27, R27, fun vs => T27.run Tryz.prog P27 A27 R27 (fun _ _ => none) (envL vs)⟩
theorem ok27 : S27.Ok Tryz.prog 27 := fun_ok (Φ := P27) (S := S27) mixed plain_ok Tryz.func27 (by kernel_rfl) (by kernel_rfl) (by kernel_rfl) (T := T27) rfl (And.intro ok21 (And.intro ok29 (And.intro ok28 (And.intro ok23 trivial)))) (fun _ => by kernel_rfl)
noncomputable def g27 (x0 : List (List AV)) (x1 x2 : Int) (x3 x4 x5 x6 x7 x8 x9 x10 : List (List AV)) (x11 : Bool) (x12 : Int) (x13 x14 x15 x16 x17 x18 x19 x20 : List (List AV)) : Option (List (List AV)) := S27.g [.l x0, .i x1, .i x2, .l x3, .l x4, .l x5, .l x6, .l x7, .l x8, .l x9, .l x10, .b x11, .i x12, .l x13, .l x14, .l x15, .l x16, .l x17, .l x18, .l x19, .l x20]
theorem g27_eq (x0 : List (List AV)) (x1 x2 : Int) (x3 x4 x5 x6 x7 x8 x9 x10 : List (List AV)) (x11 : Bool) (x12 : Int) (x13 x14 x15 x16 x17 x18 x19 x20 : List (List AV)) : g27 x0 x1 x2 x3 x4 x5 x6 x7 x8 x9 x10 x11 x12 x13 x14 x15 x16 x17 x18 x19 x20 =
    ((g21 x0 x1).bind fun (r21 : List (List AV)) =>
    (g29 r21 x2 x3 x4).bind fun (r22 : List (List AV)) =>
    (g28 r22 x5 x6 x7 x8 x9 x10).bind fun (r23 : List (List AV)) =>
    (g23 r23 x11).bind fun (r24 : List (List AV)) =>
    (g29 r24 x12 x13 x14).bind fun (r25 : List (List AV)) =>
    (g28 r25 x15 x16 x17 x18 x19 x20).bind fun (r26 : List (List AV)) =>
    some (r26)) := by kernel_rfl

/- multikernel/multikernelref18.Encode -/
def E8 : Env := envG 195 [2, 3] [(29, [(1, .box hs0), (4, .c (.own 5)), (5, .c (.int .i64))]), (35, [(1, .box hs0), (4, .c (.own 5)), (6, .c (.int .i64))])] [] 0
def A8 : List AP := [.agg hs0]
def R8 : List RSh := [.c (.own 5), .c (.int .i64)]
noncomputable def T8 : STree := evFn Tryz.prog E8 Tryz.f8 (argsAt A8 0) 74
noncomputable def T8L0 : STree := T8.go [0, 1, 5, 3, 2]
noncomputable def T8L1 : STree := T8.go [0, 1, 4, 1, 1, 1, 1, 1, 1, 1, 1, 1, 1, 0, 3]
noncomputable def P8 : List (FuncId × Fun) := [(10, S10), (21, S21), (22, S22), (30, S30), (24, S24), (23, S23), (25, S25), (26, S26), (27, S27), (29, S29), (28, S28)]
noncomputable def S8 : Fun := ⟨A8, R8, fun vs => T8.run Tryz.prog P8 A8 R8 (fun _ _ => none) (envL vs)⟩
theorem ok8 : S8.Ok Tryz.prog 8 := fun_ok (Φ := P8) (S := S8) mixed plain_ok Tryz.func8 (by kernel_rfl) (by kernel_rfl) (by kernel_rfl) (T := T8) rfl (And.intro ok10 (And.intro ok21 (And.intro ok22 (And.intro ok30 (And.intro ok24 (And.intro ok23 (And.intro ok25 (And.intro ok26 (And.intro ok27 (And.intro ok29 (And.intro ok28 trivial))))))))))) (fun _ => by kernel_rfl)
noncomputable def g8 (x0 x1 x2 x3 x4 x5 x6 x7 x8 x9 x10 : Int) (x11 : Bool) (x12 x13 x14 x15 x16 x17 x18 x19 x20 x21 x22 x23 x24 x25 x26 x27 x28 x29 x30 x31 : Int) (x32 : List (List AV)) (x33 x34 x35 x36 x37 x38 : Int) (x39 : Bool) (x40 x41 x42 x43 : List (List AV)) (x44 x45 : Int) (x46 x47 x48 x49 x50 x51 x52 x53 : List (List AV)) (x54 x55 : Int) (x56 x57 x58 x59 x60 x61 x62 x63 : List (List AV)) (x64 : Bool) (x65 : Int) (x66 x67 x68 x69 x70 x71 x72 x73 : List (List AV)) : Option (List (List AV) × Int) := S8.g [.i x0, .i x1, .i x2, .i x3, .i x4, .i x5, .i x6, .i x7, .i x8, .i x9, .i x10, .b x11, .i x12, .i x13, .i x14, .i x15, .i x16, .i x17, .i x18, .i x19, .i x20, .i x21, .i x22, .i x23, .i x24, .i x25, .i x26, .i x27, .i x28, .i x29, .i x30, .i x31, .l x32, .i x33, .i x34, .i x35, .i x36, .i x37, .i x38, .b x39, .l x40, .l x41, .l x42, .l x43, .i x44, .i x45, .l x46, .l x47, .l x48, .l x49, .l x50, .l x51, .l x52, .l x53, .i x54, .i x55, .l x56, .l x57, .l x58, .l x59, .l x60, .l x61, .l x62, .l x63, .b x64, .i x65, .l x66, .l x67, .l x68, .l x69, .l x70, .l x71, .l x72, .l x73]
noncomputable def g8L0 (k : Nat) (x0 x1 x2 x3 x4 x5 x6 x7 x8 x9 x10 : Int) (x11 : Bool) (x12 x13 x14 x15 x16 x17 x18 x19 x20 x21 x22 x23 x24 x25 x26 x27 x28 x29 x30 x31 : Int) (x32 : List (List AV)) (x33 x34 x35 x36 x37 x38 : Int) (x39 : Bool) (x40 x41 x42 x43 : List (List AV)) (x44 x45 : Int) (x46 x47 x48 x49 x50 x51 x52 x53 : List (List AV)) (x54 x55 : Int) (x56 x57 x58 x59 x60 x61 x62 x63 : List (List AV)) (x64 : Bool) (x65 : Int) (x66 x67 x68 x69 x70 x71 x72 x73 x74 : List (List AV)) (x75 : Int) : Option (List (List AV) × Int) := iterL (fun rec vs => STree.run Tryz.prog P8 A8 R8 T8L0 (updR (fun _ _ => none) 0 rec) (bind zeroE 0 vs)) k [.i x0, .i x1, .i x2, .i x3, .i x4, .i x5, .i x6, .i x7, .i x8, .i x9, .i x10, .b x11, .i x12, .i x13, .i x14, .i x15, .i x16, .i x17, .i x18, .i x19, .i x20, .i x21, .i x22, .i x23, .i x24, .i x25, .i x26, .i x27, .i x28, .i x29, .i x30, .i x31, .l x32, .i x33, .i x34, .i x35, .i x36, .i x37, .i x38, .b x39, .l x40, .l x41, .l x42, .l x43, .i x44, .i x45, .l x46, .l x47, .l x48, .l x49, .l x50, .l x51, .l x52, .l x53, .i x54, .i x55, .l x56, .l x57, .l x58, .l x59, .l x60, .l x61, .l x62, .l x63, .b x64, .i x65, .l x66, .l x67, .l x68, .l x69, .l x70, .l x71, .l x72, .l x73, .l x74, .i x75]
theorem g8L0_eq (k : Nat) (x0 x1 x2 x3 x4 x5 x6 x7 x8 x9 x10 : Int) (x11 : Bool) (x12 x13 x14 x15 x16 x17 x18 x19 x20 x21 x22 x23 x24 x25 x26 x27 x28 x29 x30 x31 : Int) (x32 : List (List AV)) (x33 x34 x35 x36 x37 x38 : Int) (x39 : Bool) (x40 x41 x42 x43 : List (List AV)) (x44 x45 : Int) (x46 x47 x48 x49 x50 x51 x52 x53 : List (List AV)) (x54 x55 : Int) (x56 x57 x58 x59 x60 x61 x62 x63 : List (List AV)) (x64 : Bool) (x65 : Int) (x66 x67 x68 x69 x70 x71 x72 x73 x74 : List (List AV)) (x75 : Int) : g8L0 (k + 1) x0 x1 x2 x3 x4 x5 x6 x7 x8 x9 x10 x11 x12 x13 x14 x15 x16 x17 x18 x19 x20 x21 x22 x23 x24 x25 x26 x27 x28 x29 x30 x31 x32 x33 x34 x35 x36 x37 x38 x39 x40 x41 x42 x43 x44 x45 x46 x47 x48 x49 x50 x51 x52 x53 x54 x55 x56 x57 x58 x59 x60 x61 x62 x63 x64 x65 x66 x67 x68 x69 x70 x71 x72 x73 x74 x75 =
    (if (cop .lss x75 (List.length x41 : Int)) = true then
      elemK x41 x75 hs10 fun (r76 : Qt13) =>
      (g30 x74 r76.1 r76.2.1 r76.2.2.1 r76.2.2.2.1 r76.2.2.2.2.1 r76.2.2.2.2.2.1 r76.2.2.2.2.2.2.1 r76.2.2.2.2.2.2.2.1 r76.2.2.2.2.2.2.2.2.1 r76.2.2.2.2.2.2.2.2.2.1 r76.2.2.2.2.2.2.2.2.2.2).bind fun (r87 : List (List AV)) =>
      g8L0 k x0 x1 x2 x3 x4 x5 x6 x7 x8 x9 x10 x11 x12 x13 x14 x15 x16 x17 x18 x19 x20 x21 x22 x23 x24 x25 x26 x27 x28 x29 x30 x31 x32 x33 x34 x35 x36 x37 x38 x39 x40 x41 x42 x43 x44 x45 x46 x47 x48 x49 x50 x51 x52 x53 x54 x55 x56 x57 x58 x59 x60 x61 x62 x63 x64 x65 x66 x67 x68 x69 x70 x71 x72 x73 r87 (iop .add .i64 x75 1)
    else
      some (x74, 0)) := by kernel_rfl
noncomputable def g8L1 (k : Nat) (x0 x1 x2 x3 x4 x5 x6 x7 x8 x9 x10 : Int) (x11 : Bool) (x12 x13 x14 x15 x16 x17 x18 x19 x20 x21 x22 x23 x24 x25 x26 x27 x28 x29 x30 x31 : Int) (x32 : List (List AV)) (x33 x34 x35 x36 x37 x38 : Int) (x39 : Bool) (x40 x41 x42 x43 : List (List AV)) (x44 x45 : Int) (x46 x47 x48 x49 x50 x51 x52 x53 : List (List AV)) (x54 x55 : Int) (x56 x57 x58 x59 x60 x61 x62 x63 : List (List AV)) (x64 : Bool) (x65 : Int) (x66 x67 x68 x69 x70 x71 x72 x73 x74 : List (List AV)) (x75 : Int) : Option (List (List AV) × Int) := iterL (fun rec vs => STree.run Tryz.prog P8 A8 R8 T8L1 (updR (fun _ _ => none) 0 rec) (bind zeroE 0 vs)) k [.i x0, .i x1, .i x2, .i x3, .i x4, .i x5, .i x6, .i x7, .i x8, .i x9, .i x10, .b x11, .i x12, .i x13, .i x14, .i x15, .i x16, .i x17, .i x18, .i x19, .i x20, .i x21, .i x22, .i x23, .i x24, .i x25, .i x26, .i x27, .i x28, .i x29, .i x30, .i x31, .l x32, .i x33, .i x34, .i x35, .i x36, .i x37, .i x38, .b x39, .l x40, .l x41, .l x42, .l x43, .i x44, .i x45, .l x46, .l x47, .l x48, .l x49, .l x50, .l x51, .l x52, .l x53, .i x54, .i x55, .l x56, .l x57, .l x58, .l x59, .l x60, .l x61, .l x62, .l x63, .b x64, .i x65, .l x66, .l x67, .l x68, .l x69, .l x70, .l x71, .l x72, .l x73, .l x74, .i x75]
theorem g8L1_eq (k : Nat) (x0 x1 x2 x3 x4 x5 x6 x7 x8 x9 x10 : Int) (x11 : Bool) (x12 x13 x14 x15 x16 x17 x18 x19 x20 x21 x22 x23 x24 x25 x26 x27 x28 x29 x30 x31 : Int) (x32 : List (List AV)) (x33 x34 x35 x36 x37 x38 : Int) (x39 : Bool) (x40 x41 x42 x43 : List (List AV)) (x44 x45 : Int) (x46 x47 x48 x49 x50 x51 x52 x53 : List (List AV)) (x54 x55 : Int) (x56 x57 x58 x59 x60 x61 x62 x63 : List (List AV)) (x64 : Bool) (x65 : Int) (x66 x67 x68 x69 x70 x71 x72 x73 x74 : List (List AV)) (x75 : Int) : g8L1 (k + 1) x0 x1 x2 x3 x4 x5 x6 x7 x8 x9 x10 x11 x12 x13 x14 x15 x16 x17 x18 x19 x20 x21 x22 x23 x24 x25 x26 x27 x28 x29 x30 x31 x32 x33 x34 x35 x36 x37 x38 x39 x40 x41 x42 x43 x44 x45 x46 x47 x48 x49 x50 x51 x52 x53 x54 x55 x56 x57 x58 x59 x60 x61 x62 x63 x64 x65 x66 x67 x68 x69 x70 x71 x72 x73 x74 x75 =
    (if (cop .lss x75 (List.length x43 : Int)) = true then
      elemK x43 x75 [.int .i64, .int .i64] fun (r76 : Int × Int) =>
      (g21 x74 r76.1).bind fun (r78 : List (List AV)) =>
      elemK x43 x75 [.int .i64, .int .i64] fun (r79 : Int × Int) =>
      (g21 r78 r79.2).bind fun (r81 : List (List AV)) =>
      g8L1 k x0 x1 x2 x3 x4 x5 x6 x7 x8 x9 x10 x11 x12 x13 x14 x15 x16 x17 x18 x19 x20 x21 x22 x23 x24 x25 x26 x27 x28 x29 x30 x31 x32 x33 x34 x35 x36 x37 x38 x39 x40 x41 x42 x43 x44 x45 x46 x47 x48 x49 x50 x51 x52 x53 x54 x55 x56 x57 x58 x59 x60 x61 x62 x63 x64 x65 x66 x67 x68 x69 x70 x71 x72 x73 r81 (iop .add .i64 x75 1)
    else
      if (cop .eql x0 2) = true then
        (g21 x74 (List.length x41 : Int)).bind fun (r76 : List (List AV)) =>
        g8L0 FUEL x0 x1 x2 x3 x4 x5 x6 x7 x8 x9 x10 x11 x12 x13 x14 x15 x16 x17 x18 x19 x20 x21 x22 x23 x24 x25 x26 x27 x28 x29 x30 x31 x32 x33 x34 x35 x36 x37 x38 x39 x40 x41 x42 x43 x44 x45 x46 x47 x48 x49 x50 x51 x52 x53 x54 x55 x56 x57 x58 x59 x60 x61 x62 x63 x64 x65 x66 x67 x68 x69 x70 x71 x72 x73 r76 0
      else
        if (cop .eql x0 4) = true then
          (g21 x74 (List.length x41 : Int)).bind fun (r76 : List (List AV)) =>
          g8L0 FUEL x0 x1 x2 x3 x4 x5 x6 x7 x8 x9 x10 x11 x12 x13 x14 x15 x16 x17 x18 x19 x20 x21 x22 x23 x24 x25 x26 x27 x28 x29 x30 x31 x32 x33 x34 x35 x36 x37 x38 x39 x40 x41 x42 x43 x44 x45 x46 x47 x48 x49 x50 x51 x52 x53 x54 x55 x56 x57 x58 x59 x60 x61 x62 x63 x64 x65 x66 x67 x68 x69 x70 x71 x72 x73 r76 0
        else
          some (x74, 0)) := by kernel_rfl
theorem g8_eq (x0 x1 x2 x3 x4 x5 x6 x7 x8 x9 x10 : Int) (x11 : Bool) (x12 x13 x14 x15 x16 x17 x18 x19 x20 x21 x22 x23 x24 x25 x26 x27 x28 x29 x30 x31 : Int) (x32 : List (List AV)) (x33 x34 x35 x36 x37 x38 : Int) (x39 : Bool) (x40 x41 x42 x43 : List (List AV)) (x44 x45 : Int) (x46 x47 x48 x49 x50 x51 x52 x53 : List (List AV)) (x54 x55 : Int) (x56 x57 x58 x59 x60 x61 x62 x63 : List (List AV)) (x64 : Bool) (x65 : Int) (x66 x67 x68 x69 x70 x71 x72 x73 : List (List AV)) : g8 x0 x1 x2 x3 x4 x5 x6 x7 x8 x9 x10 x11 x12 x13 x14 x15 x16 x17 x18 x19 x20 x21 x22 x23 x24 x25 x26 x27 x28 x29 x30 x31 x32 x33 x34 x35 x36 x37 x38 x39 x40 x41 x42 x43 x44 x45 x46 x47 x48 x49 x50 x51 x52 x53 x54 x55 x56 x57 x58 x59 x60 x61 x62 x63 x64 x65 x66 x67 x68 x69 x70 x71 x72 x73 =
    ((g10 x0 x1 x2 x3 x4 x5 x6 x7 x8 x9 x10 x11 x12 x13 x14 x15 x16 x17 x18 x19 x20 x21 x22 x23 x24 x25 x26 x27 x28 x29 x30 x31 x32 x33 x34 x35 x36 x37 x38 x39 x40 x41 x42 x43 x44 x45 x46 x47 x48 x49 x50 x51 x52 x53 x54 x55 x56 x57 x58 x59 x60 x61 x62 x63 x64 x65 x66 x67 x68 x69 x70 x71 x72 x73).bind fun (r74 : Bool) =>
    if (!r74) = true then
      some (([] : List (List AV)), 1)
    else
      (g21 ([] : List (List AV)) x0).bind fun (r75 : List (List AV)) =>
      (g21 r75 x1).bind fun (r76 : List (List AV)) =>
      (g21 r76 x2).bind fun (r77 : List (List AV)) =>
      (g21 r77 x3).bind fun (r78 : List (List AV)) =>
      if (cop .eql x0 1) = true then
        (g21 r78 x5).bind fun (r79 : List (List AV)) =>
        (g22 r79 x12 x13 x14 x15 x16 x17 x18 x19 x20 x21 x22 x23 x24 x25 x26 x27 x28 x29 x30 x31 x32 x33 x34 x35 x36 x37 x38 x39).bind fun (r80 : List (List AV)) =>
        if (cop .eql x0 2) = true then
          (g21 r80 (List.length x41 : Int)).bind fun (r81 : List (List AV)) =>
          g8L0 FUEL x0 x1 x2 x3 x4 x5 x6 x7 x8 x9 x10 x11 x12 x13 x14 x15 x16 x17 x18 x19 x20 x21 x22 x23 x24 x25 x26 x27 x28 x29 x30 x31 x32 x33 x34 x35 x36 x37 x38 x39 x40 x41 x42 x43 x44 x45 x46 x47 x48 x49 x50 x51 x52 x53 x54 x55 x56 x57 x58 x59 x60 x61 x62 x63 x64 x65 x66 x67 x68 x69 x70 x71 x72 x73 r81 0
        else
          if (cop .eql x0 4) = true then
            (g21 r80 (List.length x41 : Int)).bind fun (r81 : List (List AV)) =>
            g8L0 FUEL x0 x1 x2 x3 x4 x5 x6 x7 x8 x9 x10 x11 x12 x13 x14 x15 x16 x17 x18 x19 x20 x21 x22 x23 x24 x25 x26 x27 x28 x29 x30 x31 x32 x33 x34 x35 x36 x37 x38 x39 x40 x41 x42 x43 x44 x45 x46 x47 x48 x49 x50 x51 x52 x53 x54 x55 x56 x57 x58 x59 x60 x61 x62 x63 x64 x65 x66 x67 x68 x69 x70 x71 x72 x73 r81 0
          else
            some (r80, 0)
      else
        if (cop .eql x0 2) = true then
          (g21 r78 x5).bind fun (r79 : List (List AV)) =>
          (g24 r79 x7 x8 x9).bind fun (r80 : List (List AV)) =>
          (g21 r80 x10).bind fun (r81 : List (List AV)) =>
          (g23 r81 x11).bind fun (r82 : List (List AV)) =>
          if (cop .eql x0 2) = true then
            (g21 r82 (List.length x41 : Int)).bind fun (r83 : List (List AV)) =>
            g8L0 FUEL x0 x1 x2 x3 x4 x5 x6 x7 x8 x9 x10 x11 x12 x13 x14 x15 x16 x17 x18 x19 x20 x21 x22 x23 x24 x25 x26 x27 x28 x29 x30 x31 x32 x33 x34 x35 x36 x37 x38 x39 x40 x41 x42 x43 x44 x45 x46 x47 x48 x49 x50 x51 x52 x53 x54 x55 x56 x57 x58 x59 x60 x61 x62 x63 x64 x65 x66 x67 x68 x69 x70 x71 x72 x73 r83 0
          else
            if (cop .eql x0 4) = true then
              (g21 r82 (List.length x41 : Int)).bind fun (r83 : List (List AV)) =>
              g8L0 FUEL x0 x1 x2 x3 x4 x5 x6 x7 x8 x9 x10 x11 x12 x13 x14 x15 x16 x17 x18 x19 x20 x21 x22 x23 x24 x25 x26 x27 x28 x29 x30 x31 x32 x33 x34 x35 x36 x37 x38 x39 x40 x41 x42 x43 x44 x45 x46 x47 x48 x49 x50 x51 x52 x53 x54 x55 x56 x57 x58 x59 x60 x61 x62 x63 x64 x65 x66 x67 x68 x69 x70 x71 x72 x73 r83 0
            else
              some (r82, 0)
        else
          if (cop .eql x0 4) = true then
            (g21 r78 x5).bind fun (r79 : List (List AV)) =>
            (g24 r79 x7 x8 x9).bind fun (r80 : List (List AV)) =>
            (g21 r80 x6).bind fun (r81 : List (List AV)) =>
            if (cop .eql x0 2) = true then
              (g21 r81 (List.length x41 : Int)).bind fun (r82 : List (List AV)) =>
              g8L0 FUEL x0 x1 x2 x3 x4 x5 x6 x7 x8 x9 x10 x11 x12 x13 x14 x15 x16 x17 x18 x19 x20 x21 x22 x23 x24 x25 x26 x27 x28 x29 x30 x31 x32 x33 x34 x35 x36 x37 x38 x39 x40 x41 x42 x43 x44 x45 x46 x47 x48 x49 x50 x51 x52 x53 x54 x55 x56 x57 x58 x59 x60 x61 x62 x63 x64 x65 x66 x67 x68 x69 x70 x71 x72 x73 r82 0
            else
              if (cop .eql x0 4) = true then
                (g21 r81 (List.length x41 : Int)).bind fun (r82 : List (List AV)) =>
                g8L0 FUEL x0 x1 x2 x3 x4 x5 x6 x7 x8 x9 x10 x11 x12 x13 x14 x15 x16 x17 x18 x19 x20 x21 x22 x23 x24 x25 x26 x27 x28 x29 x30 x31 x32 x33 x34 x35 x36 x37 x38 x39 x40 x41 x42 x43 x44 x45 x46 x47 x48 x49 x50 x51 x52 x53 x54 x55 x56 x57 x58 x59 x60 x61 x62 x63 x64 x65 x66 x67 x68 x69 x70 x71 x72 x73 r82 0
              else
                some (r81, 0)
          else
            if (cop .eql x0 5) = true then
              (g21 r78 x5).bind fun (r79 : List (List AV)) =>
              (g24 r79 x7 x8 x9).bind fun (r80 : List (List AV)) =>
              (g21 r80 x10).bind fun (r81 : List (List AV)) =>
              if (cop .eql x0 2) = true then
                (g21 r81 (List.length x41 : Int)).bind fun (r82 : List (List AV)) =>
                g8L0 FUEL x0 x1 x2 x3 x4 x5 x6 x7 x8 x9 x10 x11 x12 x13 x14 x15 x16 x17 x18 x19 x20 x21 x22 x23 x24 x25 x26 x27 x28 x29 x30 x31 x32 x33 x34 x35 x36 x37 x38 x39 x40 x41 x42 x43 x44 x45 x46 x47 x48 x49 x50 x51 x52 x53 x54 x55 x56 x57 x58 x59 x60 x61 x62 x63 x64 x65 x66 x67 x68 x69 x70 x71 x72 x73 r82 0
              else
                if (cop .eql x0 4) = true then
                  (g21 r81 (List.length x41 : Int)).bind fun (r82 : List (List AV)) =>
                  g8L0 FUEL x0 x1 x2 x3 x4 x5 x6 x7 x8 x9 x10 x11 x12 x13 x14 x15 x16 x17 x18 x19 x20 x21 x22 x23 x24 x25 x26 x27 x28 x29 x30 x31 x32 x33 x34 x35 x36 x37 x38 x39 x40 x41 x42 x43 x44 x45 x46 x47 x48 x49 x50 x51 x52 x53 x54 x55 x56 x57 x58 x59 x60 x61 x62 x63 x64 x65 x66 x67 x68 x69 x70 x71 x72 x73 r82 0
                else
                  some (r81, 0)
            else
              if (cop .eql x0 6) = true then
                (g21 r78 x5).bind fun (r79 : List (List AV)) =>
                (g24 r79 x7 x8 x9).bind fun (r80 : List (List AV)) =>
                (g25 r80 x40).bind fun (r81 : List (List AV)) =>
                if (cop .eql x0 2) = true then
                  (g21 r81 (List.length x41 : Int)).bind fun (r82 : List (List AV)) =>
                  g8L0 FUEL x0 x1 x2 x3 x4 x5 x6 x7 x8 x9 x10 x11 x12 x13 x14 x15 x16 x17 x18 x19 x20 x21 x22 x23 x24 x25 x26 x27 x28 x29 x30 x31 x32 x33 x34 x35 x36 x37 x38 x39 x40 x41 x42 x43 x44 x45 x46 x47 x48 x49 x50 x51 x52 x53 x54 x55 x56 x57 x58 x59 x60 x61 x62 x63 x64 x65 x66 x67 x68 x69 x70 x71 x72 x73 r82 0
                else
                  if (cop .eql x0 4) = true then
                    (g21 r81 (List.length x41 : Int)).bind fun (r82 : List (List AV)) =>
                    g8L0 FUEL x0 x1 x2 x3 x4 x5 x6 x7 x8 x9 x10 x11 x12 x13 x14 x15 x16 x17 x18 x19 x20 x21 x22 x23 x24 x25 x26 x27 x28 x29 x30 x31 x32 x33 x34 x35 x36 x37 x38 x39 x40 x41 x42 x43 x44 x45 x46 x47 x48 x49 x50 x51 x52 x53 x54 x55 x56 x57 x58 x59 x60 x61 x62 x63 x64 x65 x66 x67 x68 x69 x70 x71 x72 x73 r82 0
                  else
                    some (r81, 0)
              else
                if (cop .eql x0 12) = true then
                  (g21 r78 x4).bind fun (r79 : List (List AV)) =>
                  (g26 r79 x42).bind fun (r80 : List (List AV)) =>
                  if (cop .eql x0 2) = true then
                    (g21 r80 (List.length x41 : Int)).bind fun (r81 : List (List AV)) =>
                    g8L0 FUEL x0 x1 x2 x3 x4 x5 x6 x7 x8 x9 x10 x11 x12 x13 x14 x15 x16 x17 x18 x19 x20 x21 x22 x23 x24 x25 x26 x27 x28 x29 x30 x31 x32 x33 x34 x35 x36 x37 x38 x39 x40 x41 x42 x43 x44 x45 x46 x47 x48 x49 x50 x51 x52 x53 x54 x55 x56 x57 x58 x59 x60 x61 x62 x63 x64 x65 x66 x67 x68 x69 x70 x71 x72 x73 r81 0
                  else
                    if (cop .eql x0 4) = true then
                      (g21 r80 (List.length x41 : Int)).bind fun (r81 : List (List AV)) =>
                      g8L0 FUEL x0 x1 x2 x3 x4 x5 x6 x7 x8 x9 x10 x11 x12 x13 x14 x15 x16 x17 x18 x19 x20 x21 x22 x23 x24 x25 x26 x27 x28 x29 x30 x31 x32 x33 x34 x35 x36 x37 x38 x39 x40 x41 x42 x43 x44 x45 x46 x47 x48 x49 x50 x51 x52 x53 x54 x55 x56 x57 x58 x59 x60 x61 x62 x63 x64 x65 x66 x67 x68 x69 x70 x71 x72 x73 r81 0
                    else
                      some (r80, 0)
                else
                  if (cop .eql x0 13) = true then
                    (g21 r78 x4).bind fun (r79 : List (List AV)) =>
                    (g27 r79 x54 x55 x56 x57 x58 x59 x60 x61 x62 x63 x64 x65 x66 x67 x68 x69 x70 x71 x72 x73).bind fun (r80 : List (List AV)) =>
                    if (cop .eql x0 2) = true then
                      (g21 r80 (List.length x41 : Int)).bind fun (r81 : List (List AV)) =>
                      g8L0 FUEL x0 x1 x2 x3 x4 x5 x6 x7 x8 x9 x10 x11 x12 x13 x14 x15 x16 x17 x18 x19 x20 x21 x22 x23 x24 x25 x26 x27 x28 x29 x30 x31 x32 x33 x34 x35 x36 x37 x38 x39 x40 x41 x42 x43 x44 x45 x46 x47 x48 x49 x50 x51 x52 x53 x54 x55 x56 x57 x58 x59 x60 x61 x62 x63 x64 x65 x66 x67 x68 x69 x70 x71 x72 x73 r81 0
                    else
                      if (cop .eql x0 4) = true then
                        (g21 r80 (List.length x41 : Int)).bind fun (r81 : List (List AV)) =>
                        g8L0 FUEL x0 x1 x2 x3 x4 x5 x6 x7 x8 x9 x10 x11 x12 x13 x14 x15 x16 x17 x18 x19 x20 x21 x22 x23 x24 x25 x26 x27 x28 x29 x30 x31 x32 x33 x34 x35 x36 x37 x38 x39 x40 x41 x42 x43 x44 x45 x46 x47 x48 x49 x50 x51 x52 x53 x54 x55 x56 x57 x58 x59 x60 x61 x62 x63 x64 x65 x66 x67 x68 x69 x70 x71 x72 x73 r81 0
                      else
                        some (r80, 0)
                  else
                    if (cop .eql x0 14) = true then
                      (g21 r78 x4).bind fun (r79 : List (List AV)) =>
                      (g21 r79 x44).bind fun (r80 : List (List AV)) =>
                      (g26 r80 x42).bind fun (r81 : List (List AV)) =>
                      (g29 r81 x45 x46 x47).bind fun (r82 : List (List AV)) =>
                      (g28 r82 x48 x49 x50 x51 x52 x53).bind fun (r83 : List (List AV)) =>
                      if (cop .eql x0 2) = true then
                        (g21 r83 (List.length x41 : Int)).bind fun (r84 : List (List AV)) =>
                        g8L0 FUEL x0 x1 x2 x3 x4 x5 x6 x7 x8 x9 x10 x11 x12 x13 x14 x15 x16 x17 x18 x19 x20 x21 x22 x23 x24 x25 x26 x27 x28 x29 x30 x31 x32 x33 x34 x35 x36 x37 x38 x39 x40 x41 x42 x43 x44 x45 x46 x47 x48 x49 x50 x51 x52 x53 x54 x55 x56 x57 x58 x59 x60 x61 x62 x63 x64 x65 x66 x67 x68 x69 x70 x71 x72 x73 r84 0
                      else
                        if (cop .eql x0 4) = true then
                          (g21 r83 (List.length x41 : Int)).bind fun (r84 : List (List AV)) =>
                          g8L0 FUEL x0 x1 x2 x3 x4 x5 x6 x7 x8 x9 x10 x11 x12 x13 x14 x15 x16 x17 x18 x19 x20 x21 x22 x23 x24 x25 x26 x27 x28 x29 x30 x31 x32 x33 x34 x35 x36 x37 x38 x39 x40 x41 x42 x43 x44 x45 x46 x47 x48 x49 x50 x51 x52 x53 x54 x55 x56 x57 x58 x59 x60 x61 x62 x63 x64 x65 x66 x67 x68 x69 x70 x71 x72 x73 r84 0
                        else
                          some (r83, 0)
                    else
                      if (cop .eql x0 15) = true then
                        (g21 r78 x4).bind fun (r79 : List (List AV)) =>
                        if (cop .eql x0 2) = true then
                          (g21 r79 (List.length x41 : Int)).bind fun (r80 : List (List AV)) =>
                          g8L0 FUEL x0 x1 x2 x3 x4 x5 x6 x7 x8 x9 x10 x11 x12 x13 x14 x15 x16 x17 x18 x19 x20 x21 x22 x23 x24 x25 x26 x27 x28 x29 x30 x31 x32 x33 x34 x35 x36 x37 x38 x39 x40 x41 x42 x43 x44 x45 x46 x47 x48 x49 x50 x51 x52 x53 x54 x55 x56 x57 x58 x59 x60 x61 x62 x63 x64 x65 x66 x67 x68 x69 x70 x71 x72 x73 r80 0
                        else
                          if (cop .eql x0 4) = true then
                            (g21 r79 (List.length x41 : Int)).bind fun (r80 : List (List AV)) =>
                            g8L0 FUEL x0 x1 x2 x3 x4 x5 x6 x7 x8 x9 x10 x11 x12 x13 x14 x15 x16 x17 x18 x19 x20 x21 x22 x23 x24 x25 x26 x27 x28 x29 x30 x31 x32 x33 x34 x35 x36 x37 x38 x39 x40 x41 x42 x43 x44 x45 x46 x47 x48 x49 x50 x51 x52 x53 x54 x55 x56 x57 x58 x59 x60 x61 x62 x63 x64 x65 x66 x67 x68 x69 x70 x71 x72 x73 r80 0
                          else
                            some (r79, 0)
                      else
                        if (cop .eql x0 16) = true then
                          (g21 r78 x4).bind fun (r79 : List (List AV)) =>
                          if (cop .eql x0 2) = true then
                            (g21 r79 (List.length x41 : Int)).bind fun (r80 : List (List AV)) =>
                            g8L0 FUEL x0 x1 x2 x3 x4 x5 x6 x7 x8 x9 x10 x11 x12 x13 x14 x15 x16 x17 x18 x19 x20 x21 x22 x23 x24 x25 x26 x27 x28 x29 x30 x31 x32 x33 x34 x35 x36 x37 x38 x39 x40 x41 x42 x43 x44 x45 x46 x47 x48 x49 x50 x51 x52 x53 x54 x55 x56 x57 x58 x59 x60 x61 x62 x63 x64 x65 x66 x67 x68 x69 x70 x71 x72 x73 r80 0
                          else
                            if (cop .eql x0 4) = true then
                              (g21 r79 (List.length x41 : Int)).bind fun (r80 : List (List AV)) =>
                              g8L0 FUEL x0 x1 x2 x3 x4 x5 x6 x7 x8 x9 x10 x11 x12 x13 x14 x15 x16 x17 x18 x19 x20 x21 x22 x23 x24 x25 x26 x27 x28 x29 x30 x31 x32 x33 x34 x35 x36 x37 x38 x39 x40 x41 x42 x43 x44 x45 x46 x47 x48 x49 x50 x51 x52 x53 x54 x55 x56 x57 x58 x59 x60 x61 x62 x63 x64 x65 x66 x67 x68 x69 x70 x71 x72 x73 r80 0
                            else
                              some (r79, 0)
                        else
                          if (cop .eql x0 17) = true then
                            (g26 r78 x42).bind fun (r79 : List (List AV)) =>
                            (g21 r79 (List.length x43 : Int)).bind fun (r80 : List (List AV)) =>
                            g8L1 FUEL x0 x1 x2 x3 x4 x5 x6 x7 x8 x9 x10 x11 x12 x13 x14 x15 x16 x17 x18 x19 x20 x21 x22 x23 x24 x25 x26 x27 x28 x29 x30 x31 x32 x33 x34 x35 x36 x37 x38 x39 x40 x41 x42 x43 x44 x45 x46 x47 x48 x49 x50 x51 x52 x53 x54 x55 x56 x57 x58 x59 x60 x61 x62 x63 x64 x65 x66 x67 x68 x69 x70 x71 x72 x73 r80 0
                          else
                            (g21 r78 x5).bind fun (r79 : List (List AV)) =>
                            (g24 r79 x7 x8 x9).bind fun (r80 : List (List AV)) =>
                            if (cop .eql x0 2) = true then
                              (g21 r80 (List.length x41 : Int)).bind fun (r81 : List (List AV)) =>
                              g8L0 FUEL x0 x1 x2 x3 x4 x5 x6 x7 x8 x9 x10 x11 x12 x13 x14 x15 x16 x17 x18 x19 x20 x21 x22 x23 x24 x25 x26 x27 x28 x29 x30 x31 x32 x33 x34 x35 x36 x37 x38 x39 x40 x41 x42 x43 x44 x45 x46 x47 x48 x49 x50 x51 x52 x53 x54 x55 x56 x57 x58 x59 x60 x61 x62 x63 x64 x65 x66 x67 x68 x69 x70 x71 x72 x73 r81 0
                            else
                              if (cop .eql x0 4) = true then
                                (g21 r80 (List.length x41 : Int)).bind fun (r81 : List (List AV)) =>
                                g8L0 FUEL x0 x1 x2 x3 x4 x5 x6 x7 x8 x9 x10 x11 x12 x13 x14 x15 x16 x17 x18 x19 x20 x21 x22 x23 x24 x25 x26 x27 x28 x29 x30 x31 x32 x33 x34 x35 x36 x37 x38 x39 x40 x41 x42 x43 x44 x45 x46 x47 x48 x49 x50 x51 x52 x53 x54 x55 x56 x57 x58 x59 x60 x61 x62 x63 x64 x65 x66 x67 x68 x69 x70 x71 x72 x73 r81 0
                              else
                                some (r80, 0)) := by kernel_rfl

/- multikernel/multikernellaw18.small -/
def E5 : Env := envG 95 [2] [(6, [(1, .box hs0), (4, .c (.int .i64))])] [] 0
def A5 : List AP := [.agg hs0]
def R5 : List RSh := [.c (.bool)]
noncomputable def T5 : STree := evFn Tryz.prog E5 Tryz.f5 (argsAt A5 0) 74
noncomputable def T5L0 : STree := T5.go [1, 1, 0]
noncomputable def P5 : List (FuncId × Fun) := [(11, S11)]
noncomputable def S5 : Fun := ⟨A5, R5, fun vs => T5.run Tryz.prog P5 A5 R5 (fun _ _ => none) (envL vs)⟩
theorem ok5 : S5.Ok Tryz.prog 5 := fun_ok (Φ := P5) (S := S5) mixed plain_ok Tryz.func5 (by kernel_rfl) (by kernel_rfl) (by kernel_rfl) (T := T5) rfl (And.intro ok11 trivial) (fun _ => by kernel_rfl)
noncomputable def g5 (x0 x1 x2 x3 x4 x5 x6 x7 x8 x9 x10 : Int) (x11 : Bool) (x12 x13 x14 x15 x16 x17 x18 x19 x20 x21 x22 x23 x24 x25 x26 x27 x28 x29 x30 x31 : Int) (x32 : List (List AV)) (x33 x34 x35 x36 x37 x38 : Int) (x39 : Bool) (x40 x41 x42 x43 : List (List AV)) (x44 x45 : Int) (x46 x47 x48 x49 x50 x51 x52 x53 : List (List AV)) (x54 x55 : Int) (x56 x57 x58 x59 x60 x61 x62 x63 : List (List AV)) (x64 : Bool) (x65 : Int) (x66 x67 x68 x69 x70 x71 x72 x73 : List (List AV)) : Option (Bool) := S5.g [.i x0, .i x1, .i x2, .i x3, .i x4, .i x5, .i x6, .i x7, .i x8, .i x9, .i x10, .b x11, .i x12, .i x13, .i x14, .i x15, .i x16, .i x17, .i x18, .i x19, .i x20, .i x21, .i x22, .i x23, .i x24, .i x25, .i x26, .i x27, .i x28, .i x29, .i x30, .i x31, .l x32, .i x33, .i x34, .i x35, .i x36, .i x37, .i x38, .b x39, .l x40, .l x41, .l x42, .l x43, .i x44, .i x45, .l x46, .l x47, .l x48, .l x49, .l x50, .l x51, .l x52, .l x53, .i x54, .i x55, .l x56, .l x57, .l x58, .l x59, .l x60, .l x61, .l x62, .l x63, .b x64, .i x65, .l x66, .l x67, .l x68, .l x69, .l x70, .l x71, .l x72, .l x73]
noncomputable def g5L0 (k : Nat) (x0 x1 x2 x3 x4 x5 x6 x7 x8 x9 x10 : Int) (x11 : Bool) (x12 x13 x14 x15 x16 x17 x18 x19 x20 x21 x22 x23 x24 x25 x26 x27 x28 x29 x30 x31 : Int) (x32 : List (List AV)) (x33 x34 x35 x36 x37 x38 : Int) (x39 : Bool) (x40 x41 x42 x43 : List (List AV)) (x44 x45 : Int) (x46 x47 x48 x49 x50 x51 x52 x53 : List (List AV)) (x54 x55 : Int) (x56 x57 x58 x59 x60 x61 x62 x63 : List (List AV)) (x64 : Bool) (x65 : Int) (x66 x67 x68 x69 x70 x71 x72 x73 : List (List AV)) (x74 : Int) : Option (Bool) := iterL (fun rec vs => STree.run Tryz.prog P5 A5 R5 T5L0 (updR (fun _ _ => none) 0 rec) (bind zeroE 0 vs)) k [.i x0, .i x1, .i x2, .i x3, .i x4, .i x5, .i x6, .i x7, .i x8, .i x9, .i x10, .b x11, .i x12, .i x13, .i x14, .i x15, .i x16, .i x17, .i x18, .i x19, .i x20, .i x21, .i x22, .i x23, .i x24, .i x25, .i x26, .i x27, .i x28, .i x29, .i x30, .i x31, .l x32, .i x33, .i x34, .i x35, .i x36, .i x37, .i x38, .b x39, .l x40, .l x41, .l x42, .l x43, .i x44, .i x45, .l x46, .l x47, .l x48, .l x49, .l x50, .l x51, .l x52, .l x53, .i x54, .i x55, .l x56, .l x57, .l x58, .l x59, .l x60, .l x61, .l x62, .l x63, .b x64, .i x65, .l x66, .l x67, .l x68, .l x69, .l x70, .l x71, .l x72, .l x73, .i x74]
theorem g5L0_eq (k : Nat) (x0 x1 x2 x3 x4 x5 x6 x7 x8 x9 x10 : Int) (x11 : Bool) (x12 x13 x14 x15 x16 x17 x18 x19 x20 x21 x22 x23 x24 x25 x26 x27 x28 x29 x30 x31 : Int) (x32 : List (List AV)) (x33 x34 x35 x36 x37 x38 : Int) (x39 : Bool) (x40 x41 x42 x43 : List (List AV)) (x44 x45 : Int) (x46 x47 x48 x49 x50 x51 x52 x53 : List (List AV)) (x54 x55 : Int) (x56 x57 x58 x59 x60 x61 x62 x63 : List (List AV)) (x64 : Bool) (x65 : Int) (x66 x67 x68 x69 x70 x71 x72 x73 : List (List AV)) (x74 : Int) : g5L0 (k + 1) x0 x1 x2 x3 x4 x5 x6 x7 x8 x9 x10 x11 x12 x13 x14 x15 x16 x17 x18 x19 x20 x21 x22 x23 x24 x25 x26 x27 x28 x29 x30 x31 x32 x33 x34 x35 x36 x37 x38 x39 x40 x41 x42 x43 x44 x45 x46 x47 x48 x49 x50 x51 x52 x53 x54 x55 x56 x57 x58 x59 x60 x61 x62 x63 x64 x65 x66 x67 x68 x69 x70 x71 x72 x73 x74 =
    (if (cop .lss x74 (List.length x41 : Int)) = true then
      elemK x41 x74 hs10 fun (r75 : Qt13) =>
      if (cop .gtr (List.length r75.2.2.2.1 : Int) 30) = true then
        some (false)
      else
        g5L0 k x0 x1 x2 x3 x4 x5 x6 x7 x8 x9 x10 x11 x12 x13 x14 x15 x16 x17 x18 x19 x20 x21 x22 x23 x24 x25 x26 x27 x28 x29 x30 x31 x32 x33 x34 x35 x36 x37 x38 x39 x40 x41 x42 x43 x44 x45 x46 x47 x48 x49 x50 x51 x52 x53 x54 x55 x56 x57 x58 x59 x60 x61 x62 x63 x64 x65 x66 x67 x68 x69 x70 x71 x72 x73 (iop .add .i64 x74 1)
    else
      (g11 x48 x49 x50 x51 x52 x53).bind fun (r75 : Bool) =>
      if r75 = true then
        (g11 x58 x59 x60 x61 x62 x63).bind fun (r76 : Bool) =>
        if r76 = true then
          (g11 x68 x69 x70 x71 x72 x73).bind fun (r77 : Bool) =>
          some (r77)
        else
          some (false)
      else
        some (false)) := by kernel_rfl
theorem g5_eq (x0 x1 x2 x3 x4 x5 x6 x7 x8 x9 x10 : Int) (x11 : Bool) (x12 x13 x14 x15 x16 x17 x18 x19 x20 x21 x22 x23 x24 x25 x26 x27 x28 x29 x30 x31 : Int) (x32 : List (List AV)) (x33 x34 x35 x36 x37 x38 : Int) (x39 : Bool) (x40 x41 x42 x43 : List (List AV)) (x44 x45 : Int) (x46 x47 x48 x49 x50 x51 x52 x53 : List (List AV)) (x54 x55 : Int) (x56 x57 x58 x59 x60 x61 x62 x63 : List (List AV)) (x64 : Bool) (x65 : Int) (x66 x67 x68 x69 x70 x71 x72 x73 : List (List AV)) : g5 x0 x1 x2 x3 x4 x5 x6 x7 x8 x9 x10 x11 x12 x13 x14 x15 x16 x17 x18 x19 x20 x21 x22 x23 x24 x25 x26 x27 x28 x29 x30 x31 x32 x33 x34 x35 x36 x37 x38 x39 x40 x41 x42 x43 x44 x45 x46 x47 x48 x49 x50 x51 x52 x53 x54 x55 x56 x57 x58 x59 x60 x61 x62 x63 x64 x65 x66 x67 x68 x69 x70 x71 x72 x73 =
    (if (cop .gtr (iop .add .i64 (iop .add .i64 (iop .add .i64 (iop .add .i64 (iop .add .i64 (iop .add .i64 (iop .add .i64 (iop .add .i64 (iop .add .i64 (List.length x40 : Int) (List.length x41 : Int)) (List.length x42 : Int)) (List.length x43 : Int)) (List.length x46 : Int)) (List.length x47 : Int)) (List.length x56 : Int)) (List.length x57 : Int)) (List.length x66 : Int)) (List.length x67 : Int)) 300) = true then
      some (false)
    else
      if (cop .gtr (List.length x32 : Int) 30) = true then
        some (false)
      else
        g5L0 FUEL x0 x1 x2 x3 x4 x5 x6 x7 x8 x9 x10 x11 x12 x13 x14 x15 x16 x17 x18 x19 x20 x21 x22 x23 x24 x25 x26 x27 x28 x29 x30 x31 x32 x33 x34 x35 x36 x37 x38 x39 x40 x41 x42 x43 x44 x45 x46 x47 x48 x49 x50 x51 x52 x53 x54 x55 x56 x57 x58 x59 x60 x61 x62 x63 x64 x65 x66 x67 x68 x69 x70 x71 x72 x73 0) := by kernel_rfl

end Go.Proofs.YtceopohbfkamiaaGreat
