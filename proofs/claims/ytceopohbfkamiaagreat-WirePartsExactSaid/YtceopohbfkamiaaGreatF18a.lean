/- Functions of the program, as what they compute. -/
import Derived.Test.YtceopohbfkamiaaGreatG
namespace Go.Proofs.YtceopohbfkamiaaGreat
open Go Go.AM
set_option linter.unusedVariables false
set_option maxRecDepth 100000

/- multikernel/node.ValidId -/
def E91 : Env := envG 31 [2] [] [] 0
def A91 : List AP := [.agg [.int .i64, .int .i64, .int .i64]]
def R91 : List RSh := [.c (.bool)]
noncomputable def T91 : STree := evFn Tryz.prog E91 Tryz.f91 (argsAt A91 0) 3
noncomputable def P91 : List (FuncId × Fun) := []
noncomputable def S91 : Fun := ⟨A91, R91, fun vs => T91.run Tryz.prog P91 A91 R91 (fun _ _ => none) (envL vs)⟩
theorem ok91 : S91.Ok Tryz.prog 91 := fun_ok (Φ := P91) (S := S91) mixed plain_ok Tryz.func91 (by kernel_rfl) (by kernel_rfl) (by kernel_rfl) (T := T91) rfl trivial (fun _ => by kernel_rfl)
noncomputable def g91 (x0 x1 x2 : Int) : Option (Bool) := S91.g [.i x0, .i x1, .i x2]
theorem g91_eq (x0 x1 x2 : Int) : g91 x0 x1 x2 =
    (if (cop .geq x0 0) = true then
      if (cop .lss x0 32) = true then
        if (cop .geq x1 1) = true then
          if (cop .leq x1 1073741824) = true then
            if (cop .geq x2 0) = true then
              some ((cop .lss x2 8))
            else
              some (false)
          else
            some (false)
        else
          some (false)
      else
        some (false)
    else
      some (false)) := by kernel_rfl

/- multikernel/wire.isOperation -/
def E47 : Env := envG 10 [2] [] [] 0
def A47 : List AP := [.agg [.int .i64, .int .i64, .int .i64]]
def R47 : List RSh := [.c (.bool)]
noncomputable def T47 : STree := evFn Tryz.prog E47 Tryz.f47 (argsAt A47 0) 3
noncomputable def P47 : List (FuncId × Fun) := [(91, S91)]
noncomputable def S47 : Fun := ⟨A47, R47, fun vs => T47.run Tryz.prog P47 A47 R47 (fun _ _ => none) (envL vs)⟩
theorem ok47 : S47.Ok Tryz.prog 47 := fun_ok (Φ := P47) (S := S47) mixed plain_ok Tryz.func47 (by kernel_rfl) (by kernel_rfl) (by kernel_rfl) (T := T47) rfl (And.intro ok91 trivial) (fun _ => by kernel_rfl)
noncomputable def g47 (x0 x1 x2 : Int) : Option (Bool) := S47.g [.i x0, .i x1, .i x2]
theorem g47_eq (x0 x1 x2 : Int) : g47 x0 x1 x2 =
    ((g91 x0 x1 x2).bind fun (r3 : Bool) =>
    if r3 = true then
      some ((cop .eql x2 0))
    else
      some (false)) := by kernel_rfl

/- multikernel/wire.isRegion -/
def E48 : Env := envG 9 [2] [] [] 0
def A48 : List AP := [.c (.int .i64)]
def R48 : List RSh := [.c (.bool)]
noncomputable def T48 : STree := evFn Tryz.prog E48 Tryz.f48 (argsAt A48 0) 1
noncomputable def P48 : List (FuncId × Fun) := []
noncomputable def S48 : Fun := ⟨A48, R48, fun vs => T48.run Tryz.prog P48 A48 R48 (fun _ _ => none) (envL vs)⟩
theorem ok48 : S48.Ok Tryz.prog 48 := fun_ok (Φ := P48) (S := S48) mixed plain_ok Tryz.func48 (by kernel_rfl) (by kernel_rfl) (by kernel_rfl) (T := T48) rfl trivial (fun _ => by kernel_rfl)
noncomputable def g48 (x0 : Int) : Option (Bool) := S48.g [.i x0]
theorem g48_eq (x0 : Int) : g48 x0 =
    (if (cop .geq x0 0) = true then
      some ((cop .lss x0 16))
    else
      some (false)) := by kernel_rfl

/- slices.Equal[[]multikernel/api.Id,multikernel/api.Id] -/
def E108 : Env := envG 26 [4] [(4, [(0, .c (.slice 3)), (1, .c (.slice 3)), (12, .c (.int .i64)), (13, .c (.int .i64))])] [] 0
def A108 : List AP := [.c (.slice 3), .c (.slice 3)]
def R108 : List RSh := [.c (.bool)]
noncomputable def T108 : STree := evFn Tryz.prog E108 Tryz.f108 (argsAt A108 0) 2
noncomputable def T108L0 : STree := T108.go [1, 0]
noncomputable def P108 : List (FuncId × Fun) := []
noncomputable def S108 : Fun := ⟨A108, R108, fun vs => T108.run Tryz.prog P108 A108 R108 (fun _ _ => none) (envL vs)⟩
theorem ok108 : S108.Ok Tryz.prog 108 := fun_ok (Φ := P108) (S := S108) mixed plain_ok Tryz.func108 (by kernel_rfl) (by kernel_rfl) (by kernel_rfl) (T := T108) rfl trivial (fun _ => by kernel_rfl)
noncomputable def g108 (x0 x1 : List (List AV)) : Option (Bool) := S108.g [.l x0, .l x1]
noncomputable def g108L0 (k : Nat) (x0 x1 : List (List AV)) (x2 x3 : Int) : Option (Bool) := iterL (fun rec vs => STree.run Tryz.prog P108 A108 R108 T108L0 (updR (fun _ _ => none) 0 rec) (bind zeroE 0 vs)) k [.l x0, .l x1, .i x2, .i x3]
theorem g108L0_eq (k : Nat) (x0 x1 : List (List AV)) (x2 x3 : Int) : g108L0 (k + 1) x0 x1 x2 x3 =
    (if (cop .lss x3 x2) = true then
      elemK x0 x3 [.int .i64, .int .i64, .int .i64] fun (r4 : Int × Int × Int) =>
      elemK x1 x3 [.int .i64, .int .i64, .int .i64] fun (r7 : Int × Int × Int) =>
      if (!((cop .eql r4.1 r7.1) && ((cop .eql r4.2.1 r7.2.1) && ((cop .eql r4.2.2 r7.2.2) && true)))) = true then
        some (false)
      else
        g108L0 k x0 x1 x2 (iop .add .i64 x3 1)
    else
      some (true)) := by kernel_rfl
theorem g108_eq (x0 x1 : List (List AV)) : g108 x0 x1 =
    (if (cop .neq (List.length x0 : Int) (List.length x1 : Int)) = true then
      some (false)
    else
      g108L0 FUEL x0 x1 (List.length x0 : Int) 0) := by kernel_rfl

/- multikernel/node.Equal -/
def E49 : Env := envG 24 [4] [] [] 0
def A49 : List AP := [.agg hs10, .agg hs10]
def R49 : List RSh := [.c (.bool)]
noncomputable def T49 : STree := evFn Tryz.prog E49 Tryz.f49 (argsAt A49 0) 22
noncomputable def P49 : List (FuncId × Fun) := [(108, S108)]
noncomputable def S49 : Fun := ⟨A49, R49, fun vs => T49.run Tryz.prog P49 A49 R49 (fun _ _ => none) (envL vs)⟩
theorem ok49 : S49.Ok Tryz.prog 49 := fun_ok (Φ := P49) (S := S49) mixed plain_ok Tryz.func49 (by kernel_rfl) (by kernel_rfl) (by kernel_rfl) (T := T49) rfl (And.intro ok108 trivial) (fun _ => by kernel_rfl)
noncomputable def g49 (x0 x1 x2 : Int) (x3 : List (List AV)) (x4 x5 x6 x7 x8 x9 : Int) (x10 : Bool) (x11 x12 x13 : Int) (x14 : List (List AV)) (x15 x16 x17 x18 x19 x20 : Int) (x21 : Bool) : Option (Bool) := S49.g [.i x0, .i x1, .i x2, .l x3, .i x4, .i x5, .i x6, .i x7, .i x8, .i x9, .b x10, .i x11, .i x12, .i x13, .l x14, .i x15, .i x16, .i x17, .i x18, .i x19, .i x20, .b x21]
theorem g49_eq (x0 x1 x2 : Int) (x3 : List (List AV)) (x4 x5 x6 x7 x8 x9 : Int) (x10 : Bool) (x11 x12 x13 : Int) (x14 : List (List AV)) (x15 x16 x17 x18 x19 x20 : Int) (x21 : Bool) : g49 x0 x1 x2 x3 x4 x5 x6 x7 x8 x9 x10 x11 x12 x13 x14 x15 x16 x17 x18 x19 x20 x21 =
    (if ((cop .eql x0 x11) && ((cop .eql x1 x12) && ((cop .eql x2 x13) && true))) = true then
      if ((cop .eql x4 x15) && ((cop .eql x5 x16) && ((cop .eql x6 x17) && ((cop .eql x7 x18) && ((cop .eql x8 x19) && ((cop .eql x9 x20) && ((x10 == x21) && true))))))) = true then
        (g108 x3 x14).bind fun (r22 : Bool) =>
        some (r22)
      else
        some (false)
    else
      some (false)) := by kernel_rfl

/- multikernel/captype.sizeAllowed -/
def E159 : Env := envG 38 [4] [] [] 0
def A159 : List AP := [.c (.int .i64), .c (.int .i64)]
def R159 : List RSh := [.c (.bool)]
noncomputable def T159 : STree := evFn Tryz.prog E159 Tryz.f159 (argsAt A159 0) 2
noncomputable def P159 : List (FuncId × Fun) := []
noncomputable def S159 : Fun := ⟨A159, R159, fun vs => T159.run Tryz.prog P159 A159 R159 (fun _ _ => none) (envL vs)⟩
theorem ok159 : S159.Ok Tryz.prog 159 := fun_ok (Φ := P159) (S := S159) mixed plain_ok Tryz.func159 (by kernel_rfl) (by kernel_rfl) (by kernel_rfl) (T := T159) rfl trivial (fun _ => by kernel_rfl)
noncomputable def g159 (x0 x1 : Int) : Option (Bool) := S159.g [.i x0, .i x1]
theorem g159_eq (x0 x1 : Int) : g159 x0 x1 =
    (if (cop .eql x0 1) = true then
      if (cop .geq x1 6) = true then
        some ((cop .leq x1 40))
      else
        some (false)
    else
      if (cop .eql x0 2) = true then
        if (cop .geq x1 12) = true then
          some ((cop .leq x1 40))
        else
          some (false)
      else
        if (cop .eql x0 3) = true then
          some ((cop .eql x1 12))
        else
          if (cop .eql x0 4) = true then
            some ((cop .eql x1 6))
          else
            if (cop .eql x0 5) = true then
              some ((cop .eql x1 10))
            else
              if (cop .eql x0 6) = true then
                some ((cop .eql x1 16))
              else
                some (false)) := by kernel_rfl

/- multikernel/captype.Range -/
def E161 : Env := envG 8 [2] [] [] 0
def A161 : List AP := [.agg hs14]
def R161 : List RSh := [.agg [.int .i64, .int .i64]]
noncomputable def T161 : STree := evFn Tryz.prog E161 Tryz.f161 (argsAt A161 0) 7
noncomputable def P161 : List (FuncId × Fun) := []
noncomputable def S161 : Fun := ⟨A161, R161, fun vs => T161.run Tryz.prog P161 A161 R161 (fun _ _ => none) (envL vs)⟩
theorem ok161 : S161.Ok Tryz.prog 161 := fun_ok (Φ := P161) (S := S161) mixed plain_ok Tryz.func161 (by kernel_rfl) (by kernel_rfl) (by kernel_rfl) (T := T161) rfl trivial (fun _ => by kernel_rfl)
noncomputable def g161 (x0 x1 x2 x3 x4 x5 : Int) (x6 : Bool) : Option (Int × Int) := S161.g [.i x0, .i x1, .i x2, .i x3, .i x4, .i x5, .b x6]
theorem g161_eq (x0 x1 x2 x3 x4 x5 : Int) (x6 : Bool) : g161 x0 x1 x2 x3 x4 x5 x6 =
    (some (x1, x2)) := by kernel_rfl

/- multikernel/memrange.Valid -/
def E160 : Env := envG 32 [2] [] [] 0
def A160 : List AP := [.agg [.int .i64, .int .i64]]
def R160 : List RSh := [.c (.bool)]
noncomputable def T160 : STree := evFn Tryz.prog E160 Tryz.f160 (argsAt A160 0) 2
noncomputable def P160 : List (FuncId × Fun) := []
noncomputable def S160 : Fun := ⟨A160, R160, fun vs => T160.run Tryz.prog P160 A160 R160 (fun _ _ => none) (envL vs)⟩
theorem ok160 : S160.Ok Tryz.prog 160 := fun_ok (Φ := P160) (S := S160) mixed plain_ok Tryz.func160 (by kernel_rfl) (by kernel_rfl) (by kernel_rfl) (T := T160) rfl trivial (fun _ => by kernel_rfl)
noncomputable def g160 (x0 x1 : Int) : Option (Bool) := S160.g [.i x0, .i x1]
theorem g160_eq (x0 x1 : Int) : g160 x0 x1 =
    (if (cop .lss x1 6) = true then
      some (false)
    else
      if (cop .gtr x1 40) = true then
        some (false)
      else
        if (cop .lss x0 0) = true then
          some (false)
        else
          reqK ((0 : Int) ≤ x1) <|
          reqK (((iop .shl .i64 1 x1) : Int) ≠ 0) <|
          if (cop .eql (iop .rem .i64 x0 (iop .shl .i64 1 x1)) 0) = true then
            some ((cop .leq x0 (iop .sub .i64 1099511627776 (iop .shl .i64 1 x1))))
          else
            some (false)) := by kernel_rfl

/- multikernel/captype.formatAllowed -/
def E162 : Env := envG 22 [4] [] [] 0
def A162 : List AP := [.c (.int .i64), .c (.int .i64)]
def R162 : List RSh := [.c (.bool)]
noncomputable def T162 : STree := evFn Tryz.prog E162 Tryz.f162 (argsAt A162 0) 2
noncomputable def P162 : List (FuncId × Fun) := []
noncomputable def S162 : Fun := ⟨A162, R162, fun vs => T162.run Tryz.prog P162 A162 R162 (fun _ _ => none) (envL vs)⟩
theorem ok162 : S162.Ok Tryz.prog 162 := fun_ok (Φ := P162) (S := S162) mixed plain_ok Tryz.func162 (by kernel_rfl) (by kernel_rfl) (by kernel_rfl) (T := T162) rfl trivial (fun _ => by kernel_rfl)
noncomputable def g162 (x0 x1 : Int) : Option (Bool) := S162.g [.i x0, .i x1]
theorem g162_eq (x0 x1 : Int) : g162 x0 x1 =
    (if (cop .eql x0 32) = true then
      if (cop .geq x1 0) = true then
        some ((cop .leq x1 1))
      else
        some (false)
    else
      if (cop .eql x0 39) = true then
        if (cop .geq x1 0) = true then
          some ((cop .leq x1 2))
        else
          some (false)
      else
        some (false)) := by kernel_rfl

/- multikernel/captype.Valid -/
def E109 : Env := envG 55 [2] [] [] 0
def A109 : List AP := [.agg hs14]
def R109 : List RSh := [.c (.bool)]
noncomputable def T109 : STree := evFn Tryz.prog E109 Tryz.f109 (argsAt A109 0) 7
noncomputable def P109 : List (FuncId × Fun) := [(159, S159), (161, S161), (160, S160), (162, S162)]
noncomputable def S109 : Fun := ⟨A109, R109, fun vs => T109.run Tryz.prog P109 A109 R109 (fun _ _ => none) (envL vs)⟩
theorem ok109 : S109.Ok Tryz.prog 109 := fun_ok (Φ := P109) (S := S109) mixed plain_ok Tryz.func109 (by kernel_rfl) (by kernel_rfl) (by kernel_rfl) (T := T109) rfl (And.intro ok159 (And.intro ok161 (And.intro ok160 (And.intro ok162 trivial)))) (fun _ => by kernel_rfl)
noncomputable def g109 (x0 x1 x2 x3 x4 x5 : Int) (x6 : Bool) : Option (Bool) := S109.g [.i x0, .i x1, .i x2, .i x3, .i x4, .i x5, .b x6]
theorem g109_eq (x0 x1 x2 x3 x4 x5 : Int) (x6 : Bool) : g109 x0 x1 x2 x3 x4 x5 x6 =
    ((g159 x0 x2).bind fun (r7 : Bool) =>
    if (!r7) = true then
      some (false)
    else
      (g161 x0 x1 x2 x3 x4 x5 x6).bind fun (r8 : Int × Int) =>
      (g160 r8.1 r8.2).bind fun (r10 : Bool) =>
      if (!r10) = true then
        some (false)
      else
        if (cop .lss x3 0) = true then
          some (false)
        else
          if (cop .gtr x3 7) = true then
            some (false)
          else
            if (cop .eql x0 3) = true then
              (g162 x4 x5).bind fun (r11 : Bool) =>
              if (!r11) = true then
                some (false)
              else
                if (!x6) = true then
                  some (true)
                else
                  if (cop .eql x0 1) = true then
                    some (true)
                  else
                    some ((cop .eql x0 2))
            else
              if (cop .neq x4 0) = true then
                some (false)
              else
                if (cop .neq x5 0) = true then
                  some (false)
                else
                  if (!x6) = true then
                    some (true)
                  else
                    if (cop .eql x0 1) = true then
                      some (true)
                    else
                      some ((cop .eql x0 2))) := by kernel_rfl

/- slices.Index[[]multikernel/api.Id,multikernel/api.Id] -/
def E163 : Env := envG 19 [4] [(2, [(0, .c (.slice 3)), (3, .box [.int .i64, .int .i64, .int .i64]), (7, .c (.int .i64)), (8, .c (.int .i64))])] [] 0
def A163 : List AP := [.c (.slice 3), .agg [.int .i64, .int .i64, .int .i64]]
def R163 : List RSh := [.c (.int .i64)]
noncomputable def T163 : STree := evFn Tryz.prog E163 Tryz.f163 (argsAt A163 0) 4
noncomputable def T163L0 : STree := T163.go [0]
noncomputable def P163 : List (FuncId × Fun) := []
noncomputable def S163 : Fun := ⟨A163, R163, fun vs => T163.run Tryz.prog P163 A163 R163 (fun _ _ => none) (envL vs)⟩
theorem ok163 : S163.Ok Tryz.prog 163 := fun_ok (Φ := P163) (S := S163) mixed plain_ok Tryz.func163 (by kernel_rfl) (by kernel_rfl) (by kernel_rfl) (T := T163) rfl trivial (fun _ => by kernel_rfl)
noncomputable def g163 (x0 : List (List AV)) (x1 x2 x3 : Int) : Option (Int) := S163.g [.l x0, .i x1, .i x2, .i x3]
noncomputable def g163L0 (k : Nat) (x0 : List (List AV)) (x1 x2 x3 x4 x5 : Int) : Option (Int) := iterL (fun rec vs => STree.run Tryz.prog P163 A163 R163 T163L0 (updR (fun _ _ => none) 0 rec) (bind zeroE 0 vs)) k [.l x0, .i x1, .i x2, .i x3, .i x4, .i x5]
theorem g163L0_eq (k : Nat) (x0 : List (List AV)) (x1 x2 x3 x4 x5 : Int) : g163L0 (k + 1) x0 x1 x2 x3 x4 x5 =
    (if (cop .lss x5 x4) = true then
      elemK x0 x5 [.int .i64, .int .i64, .int .i64] fun (r6 : Int × Int × Int) =>
      if ((cop .eql x1 r6.1) && ((cop .eql x2 r6.2.1) && ((cop .eql x3 r6.2.2) && true))) = true then
        some (x5)
      else
        g163L0 k x0 x1 x2 x3 x4 (iop .add .i64 x5 1)
    else
      some ((-1))) := by kernel_rfl
theorem g163_eq (x0 : List (List AV)) (x1 x2 x3 : Int) : g163 x0 x1 x2 x3 =
    (g163L0 FUEL x0 x1 x2 x3 (List.length x0 : Int) 0) := by kernel_rfl

/- slices.Contains[[]multikernel/api.Id,multikernel/api.Id] -/
def E110 : Env := envG 9 [4] [] [] 0
def A110 : List AP := [.c (.slice 3), .agg [.int .i64, .int .i64, .int .i64]]
def R110 : List RSh := [.c (.bool)]
noncomputable def T110 : STree := evFn Tryz.prog E110 Tryz.f110 (argsAt A110 0) 4
noncomputable def P110 : List (FuncId × Fun) := [(163, S163)]
noncomputable def S110 : Fun := ⟨A110, R110, fun vs => T110.run Tryz.prog P110 A110 R110 (fun _ _ => none) (envL vs)⟩
theorem ok110 : S110.Ok Tryz.prog 110 := fun_ok (Φ := P110) (S := S110) mixed plain_ok Tryz.func110 (by kernel_rfl) (by kernel_rfl) (by kernel_rfl) (T := T110) rfl (And.intro ok163 trivial) (fun _ => by kernel_rfl)
noncomputable def g110 (x0 : List (List AV)) (x1 x2 x3 : Int) : Option (Bool) := S110.g [.l x0, .i x1, .i x2, .i x3]
theorem g110_eq (x0 : List (List AV)) (x1 x2 x3 : Int) : g110 x0 x1 x2 x3 =
    ((g163 x0 x1 x2 x3).bind fun (r4 : Int) =>
    some ((cop .geq r4 0))) := by kernel_rfl

/- multikernel/node.Valid -/
def E50 : Env := envG 47 [2] [(4, [(1, .box hs10), (22, .c (.slice 3)), (23, .c (.int .i64)), (24, .c (.int .i64))])] [] 0
def A50 : List AP := [.agg hs10]
def R50 : List RSh := [.c (.bool)]
noncomputable def T50 : STree := evFn Tryz.prog E50 Tryz.f50 (argsAt A50 0) 11
noncomputable def T50L0 : STree := T50.go [0, 1, 0, 1, 1, 0]
noncomputable def P50 : List (FuncId × Fun) := [(91, S91), (109, S109), (110, S110)]
noncomputable def S50 : Fun := ⟨A50, R50, fun vs => T50.run Tryz.prog P50 A50 R50 (fun _ _ => none) (envL vs)⟩
theorem ok50 : S50.Ok Tryz.prog 50 := fun_ok (Φ := P50) (S := S50) mixed plain_ok Tryz.func50 (by kernel_rfl) (by kernel_rfl) (by kernel_rfl) (T := T50) rfl (And.intro ok91 (And.intro ok109 (And.intro ok110 trivial))) (fun _ => by kernel_rfl)
noncomputable def g50 (x0 x1 x2 : Int) (x3 : List (List AV)) (x4 x5 x6 x7 x8 x9 : Int) (x10 : Bool) : Option (Bool) := S50.g [.i x0, .i x1, .i x2, .l x3, .i x4, .i x5, .i x6, .i x7, .i x8, .i x9, .b x10]
noncomputable def g50L0 (k : Nat) (x0 x1 x2 : Int) (x3 : List (List AV)) (x4 x5 x6 x7 x8 x9 : Int) (x10 : Bool) (x11 : List (List AV)) (x12 x13 : Int) : Option (Bool) := iterL (fun rec vs => STree.run Tryz.prog P50 A50 R50 T50L0 (updR (fun _ _ => none) 0 rec) (bind zeroE 0 vs)) k [.i x0, .i x1, .i x2, .l x3, .i x4, .i x5, .i x6, .i x7, .i x8, .i x9, .b x10, .l x11, .i x12, .i x13]
theorem g50L0_eq (k : Nat) (x0 x1 x2 : Int) (x3 : List (List AV)) (x4 x5 x6 x7 x8 x9 : Int) (x10 : Bool) (x11 : List (List AV)) (x12 x13 : Int) : g50L0 (k + 1) x0 x1 x2 x3 x4 x5 x6 x7 x8 x9 x10 x11 x12 x13 =
    (if (cop .lss x13 x12) = true then
      elemK x11 x13 [.int .i64, .int .i64, .int .i64] fun (r14 : Int × Int × Int) =>
      (g91 r14.1 r14.2.1 r14.2.2).bind fun (r17 : Bool) =>
      if (!r17) = true then
        some (false)
      else
        if ((cop .eql r14.1 x0) && ((cop .eql r14.2.1 x1) && ((cop .eql r14.2.2 x2) && true))) = true then
          some (false)
        else
          reqK ((0 : Int) ≤ x13) <|
          reqK ((x13 : Int) ≤ (List.length x3 : Int)) <|
          (g110 (List.take (Int.toNat x13) x3) r14.1 r14.2.1 r14.2.2).bind fun (r18 : Bool) =>
          if r18 = true then
            some (false)
          else
            g50L0 k x0 x1 x2 x3 x4 x5 x6 x7 x8 x9 x10 x11 x12 (iop .add .i64 x13 1)
    else
      some (true)) := by kernel_rfl
theorem g50_eq (x0 x1 x2 : Int) (x3 : List (List AV)) (x4 x5 x6 x7 x8 x9 : Int) (x10 : Bool) : g50 x0 x1 x2 x3 x4 x5 x6 x7 x8 x9 x10 =
    ((g91 x0 x1 x2).bind fun (r11 : Bool) =>
    if (!r11) = true then
      some (false)
    else
      (g109 x4 x5 x6 x7 x8 x9 x10).bind fun (r12 : Bool) =>
      if (!r12) = true then
        some (false)
      else
        if (cop .gtr (List.length x3 : Int) 8) = true then
          some (false)
        else
          g50L0 FUEL x0 x1 x2 x3 x4 x5 x6 x7 x8 x9 x10 x3 (List.length x3 : Int) 0) := by kernel_rfl

/- multikernel/wire.ValidRequest -/
def E12 : Env := envG 46 [2] [] [] 0
def A12 : List AP := [.agg hs4]
def R12 : List RSh := [.c (.bool)]
noncomputable def T12 : STree := evFn Tryz.prog E12 Tryz.f12 (argsAt A12 0) 28
noncomputable def P12 : List (FuncId × Fun) := [(47, S47), (48, S48), (49, S49), (50, S50)]
noncomputable def S12 : Fun := ⟨A12, R12, fun vs => T12.run Tryz.prog P12 A12 R12 (fun _ _ => none) (envL vs)⟩
theorem ok12 : S12.Ok Tryz.prog 12 := fun_ok (Φ := P12) (S := S12) mixed plain_ok Tryz.func12 (by kernel_rfl) (by kernel_rfl) (by kernel_rfl) (T := T12) rfl (And.intro ok47 (And.intro ok48 (And.intro ok49 (And.intro ok50 trivial)))) (fun _ => by kernel_rfl)
noncomputable def g12 (x0 x1 x2 x3 x4 x5 x6 x7 x8 x9 x10 x11 x12 x13 x14 x15 x16 x17 x18 x19 : Int) (x20 : List (List AV)) (x21 x22 x23 x24 x25 x26 : Int) (x27 : Bool) : Option (Bool) := S12.g [.i x0, .i x1, .i x2, .i x3, .i x4, .i x5, .i x6, .i x7, .i x8, .i x9, .i x10, .i x11, .i x12, .i x13, .i x14, .i x15, .i x16, .i x17, .i x18, .i x19, .l x20, .i x21, .i x22, .i x23, .i x24, .i x25, .i x26, .b x27]
theorem g12_eq (x0 x1 x2 x3 x4 x5 x6 x7 x8 x9 x10 x11 x12 x13 x14 x15 x16 x17 x18 x19 : Int) (x20 : List (List AV)) (x21 x22 x23 x24 x25 x26 : Int) (x27 : Bool) : g12 x0 x1 x2 x3 x4 x5 x6 x7 x8 x9 x10 x11 x12 x13 x14 x15 x16 x17 x18 x19 x20 x21 x22 x23 x24 x25 x26 x27 =
    ((g47 x0 x1 x2).bind fun (r28 : Bool) =>
    if (!r28) = true then
      some (false)
    else
      if (cop .lss x3 1) = true then
        some (false)
      else
        if (cop .gtr x3 6) = true then
          some (false)
        else
          (g48 x15).bind fun (r29 : Bool) =>
          if (!r29) = true then
            some (false)
          else
            if (cop .neq x16 32) = true then
              if (cop .neq x16 39) = true then
                some (false)
              else
                if (cop .eql x3 1) = true then
                  (g49 x17 x18 x19 x20 x21 x22 x23 x24 x25 x26 x27 0 0 0 ([] : List (List AV)) 0 0 0 0 0 0 false).bind fun (r30 : Bool) =>
                  some (r30)
                else
                  (g50 x17 x18 x19 x20 x21 x22 x23 x24 x25 x26 x27).bind fun (r30 : Bool) =>
                  some (r30)
            else
              if (cop .eql x3 1) = true then
                (g49 x17 x18 x19 x20 x21 x22 x23 x24 x25 x26 x27 0 0 0 ([] : List (List AV)) 0 0 0 0 0 0 false).bind fun (r30 : Bool) =>
                some (r30)
              else
                (g50 x17 x18 x19 x20 x21 x22 x23 x24 x25 x26 x27).bind fun (r30 : Bool) =>
                some (r30)) := by kernel_rfl

/- multikernel/multikernelref10.ValidId -/
def E104 : Env := envG 31 [2] [] [] 0
def A104 : List AP := [.agg [.int .i64, .int .i64, .int .i64]]
def R104 : List RSh := [.c (.bool)]
noncomputable def T104 : STree := evFn Tryz.prog E104 Tryz.f104 (argsAt A104 0) 3
noncomputable def P104 : List (FuncId × Fun) := []
noncomputable def S104 : Fun := ⟨A104, R104, fun vs => T104.run Tryz.prog P104 A104 R104 (fun _ _ => none) (envL vs)⟩
theorem ok104 : S104.Ok Tryz.prog 104 := fun_ok (Φ := P104) (S := S104) mixed plain_ok Tryz.func104 (by kernel_rfl) (by kernel_rfl) (by kernel_rfl) (T := T104) rfl trivial (fun _ => by kernel_rfl)
noncomputable def g104 (x0 x1 x2 : Int) : Option (Bool) := S104.g [.i x0, .i x1, .i x2]
theorem g104_eq (x0 x1 x2 : Int) : g104 x0 x1 x2 =
    (if (cop .geq x0 0) = true then
      if (cop .lss x0 32) = true then
        if (cop .geq x1 1) = true then
          if (cop .leq x1 1073741824) = true then
            if (cop .geq x2 0) = true then
              some ((cop .lss x2 8))
            else
              some (false)
          else
            some (false)
        else
          some (false)
      else
        some (false)
    else
      some (false)) := by kernel_rfl

/- multikernel/multikernelref18.operation -/
def E38 : Env := envG 10 [2] [] [] 0
def A38 : List AP := [.agg [.int .i64, .int .i64, .int .i64]]
def R38 : List RSh := [.c (.bool)]
noncomputable def T38 : STree := evFn Tryz.prog E38 Tryz.f38 (argsAt A38 0) 3
noncomputable def P38 : List (FuncId × Fun) := [(104, S104)]
noncomputable def S38 : Fun := ⟨A38, R38, fun vs => T38.run Tryz.prog P38 A38 R38 (fun _ _ => none) (envL vs)⟩
theorem ok38 : S38.Ok Tryz.prog 38 := fun_ok (Φ := P38) (S := S38) mixed plain_ok Tryz.func38 (by kernel_rfl) (by kernel_rfl) (by kernel_rfl) (T := T38) rfl (And.intro ok104 trivial) (fun _ => by kernel_rfl)
noncomputable def g38 (x0 x1 x2 : Int) : Option (Bool) := S38.g [.i x0, .i x1, .i x2]
theorem g38_eq (x0 x1 x2 : Int) : g38 x0 x1 x2 =
    ((g104 x0 x1 x2).bind fun (r3 : Bool) =>
    if r3 = true then
      some ((cop .eql x2 0))
    else
      some (false)) := by kernel_rfl

/- multikernel/multikernelref18.region -/
def E46 : Env := envG 9 [2] [] [] 0
def A46 : List AP := [.c (.int .i64)]
def R46 : List RSh := [.c (.bool)]
noncomputable def T46 : STree := evFn Tryz.prog E46 Tryz.f46 (argsAt A46 0) 1
noncomputable def P46 : List (FuncId × Fun) := []
noncomputable def S46 : Fun := ⟨A46, R46, fun vs => T46.run Tryz.prog P46 A46 R46 (fun _ _ => none) (envL vs)⟩
theorem ok46 : S46.Ok Tryz.prog 46 := fun_ok (Φ := P46) (S := S46) mixed plain_ok Tryz.func46 (by kernel_rfl) (by kernel_rfl) (by kernel_rfl) (T := T46) rfl trivial (fun _ => by kernel_rfl)
noncomputable def g46 (x0 : Int) : Option (Bool) := S46.g [.i x0]
theorem g46_eq (x0 : Int) : g46 x0 =
    (if (cop .geq x0 0) = true then
      some ((cop .lss x0 16))
    else
      some (false)) := by kernel_rfl

/- multikernel/multikernelref10.SameIds -/
def E65 : Env := envG 26 [4] [(4, [(0, .c (.slice 3)), (1, .c (.slice 3)), (5, .c (.int .i64))])] [] 0
def A65 : List AP := [.c (.slice 3), .c (.slice 3)]
def R65 : List RSh := [.c (.bool)]
noncomputable def T65 : STree := evFn Tryz.prog E65 Tryz.f65 (argsAt A65 0) 2
noncomputable def T65L0 : STree := T65.go [1, 0]
noncomputable def P65 : List (FuncId × Fun) := []
noncomputable def S65 : Fun := ⟨A65, R65, fun vs => T65.run Tryz.prog P65 A65 R65 (fun _ _ => none) (envL vs)⟩
theorem ok65 : S65.Ok Tryz.prog 65 := fun_ok (Φ := P65) (S := S65) mixed plain_ok Tryz.func65 (by kernel_rfl) (by kernel_rfl) (by kernel_rfl) (T := T65) rfl trivial (fun _ => by kernel_rfl)
noncomputable def g65 (x0 x1 : List (List AV)) : Option (Bool) := S65.g [.l x0, .l x1]
noncomputable def g65L0 (k : Nat) (x0 x1 : List (List AV)) (x2 : Int) : Option (Bool) := iterL (fun rec vs => STree.run Tryz.prog P65 A65 R65 T65L0 (updR (fun _ _ => none) 0 rec) (bind zeroE 0 vs)) k [.l x0, .l x1, .i x2]
theorem g65L0_eq (k : Nat) (x0 x1 : List (List AV)) (x2 : Int) : g65L0 (k + 1) x0 x1 x2 =
    (if (cop .lss x2 (List.length x0 : Int)) = true then
      elemK x0 x2 [.int .i64, .int .i64, .int .i64] fun (r3 : Int × Int × Int) =>
      elemK x1 x2 [.int .i64, .int .i64, .int .i64] fun (r6 : Int × Int × Int) =>
      if (!((cop .eql r3.1 r6.1) && ((cop .eql r3.2.1 r6.2.1) && ((cop .eql r3.2.2 r6.2.2) && true)))) = true then
        some (false)
      else
        g65L0 k x0 x1 (iop .add .i64 x2 1)
    else
      some (true)) := by kernel_rfl
theorem g65_eq (x0 x1 : List (List AV)) : g65 x0 x1 =
    (if (cop .neq (List.length x0 : Int) (List.length x1 : Int)) = true then
      some (false)
    else
      g65L0 FUEL x0 x1 0) := by kernel_rfl

/- multikernel/multikernelref10.SameNode -/
def E51 : Env := envG 24 [4] [] [] 0
def A51 : List AP := [.agg hs10, .agg hs10]
def R51 : List RSh := [.c (.bool)]
noncomputable def T51 : STree := evFn Tryz.prog E51 Tryz.f51 (argsAt A51 0) 22
noncomputable def P51 : List (FuncId × Fun) := [(65, S65)]
noncomputable def S51 : Fun := ⟨A51, R51, fun vs => T51.run Tryz.prog P51 A51 R51 (fun _ _ => none) (envL vs)⟩
theorem ok51 : S51.Ok Tryz.prog 51 := fun_ok (Φ := P51) (S := S51) mixed plain_ok Tryz.func51 (by kernel_rfl) (by kernel_rfl) (by kernel_rfl) (T := T51) rfl (And.intro ok65 trivial) (fun _ => by kernel_rfl)
noncomputable def g51 (x0 x1 x2 : Int) (x3 : List (List AV)) (x4 x5 x6 x7 x8 x9 : Int) (x10 : Bool) (x11 x12 x13 : Int) (x14 : List (List AV)) (x15 x16 x17 x18 x19 x20 : Int) (x21 : Bool) : Option (Bool) := S51.g [.i x0, .i x1, .i x2, .l x3, .i x4, .i x5, .i x6, .i x7, .i x8, .i x9, .b x10, .i x11, .i x12, .i x13, .l x14, .i x15, .i x16, .i x17, .i x18, .i x19, .i x20, .b x21]
theorem g51_eq (x0 x1 x2 : Int) (x3 : List (List AV)) (x4 x5 x6 x7 x8 x9 : Int) (x10 : Bool) (x11 x12 x13 : Int) (x14 : List (List AV)) (x15 x16 x17 x18 x19 x20 : Int) (x21 : Bool) : g51 x0 x1 x2 x3 x4 x5 x6 x7 x8 x9 x10 x11 x12 x13 x14 x15 x16 x17 x18 x19 x20 x21 =
    (if ((cop .eql x0 x11) && ((cop .eql x1 x12) && ((cop .eql x2 x13) && true))) = true then
      if ((cop .eql x4 x15) && ((cop .eql x5 x16) && ((cop .eql x6 x17) && ((cop .eql x7 x18) && ((cop .eql x8 x19) && ((cop .eql x9 x20) && ((x10 == x21) && true))))))) = true then
        (g65 x3 x14).bind fun (r22 : Bool) =>
        some (r22)
      else
        some (false)
    else
      some (false)) := by kernel_rfl

/- multikernel/multikernelref10.fixed -/
def E176 : Env := envG 12 [2] [] [] 0
def A176 : List AP := [.c (.int .i64)]
def R176 : List RSh := [.c (.int .i64)]
noncomputable def T176 : STree := evFn Tryz.prog E176 Tryz.f176 (argsAt A176 0) 1
noncomputable def P176 : List (FuncId × Fun) := []
noncomputable def S176 : Fun := ⟨A176, R176, fun vs => T176.run Tryz.prog P176 A176 R176 (fun _ _ => none) (envL vs)⟩
theorem ok176 : S176.Ok Tryz.prog 176 := fun_ok (Φ := P176) (S := S176) mixed plain_ok Tryz.func176 (by kernel_rfl) (by kernel_rfl) (by kernel_rfl) (T := T176) rfl trivial (fun _ => by kernel_rfl)
noncomputable def g176 (x0 : Int) : Option (Int) := S176.g [.i x0]
theorem g176_eq (x0 : Int) : g176 x0 =
    (if (cop .eql x0 3) = true then
      some (12)
    else
      if (cop .eql x0 4) = true then
        some (6)
      else
        if (cop .eql x0 5) = true then
          some (10)
        else
          if (cop .eql x0 6) = true then
            some (16)
          else
            some (0)) := by kernel_rfl

/- multikernel/multikernelref10.sized -/
def E155 : Env := envG 35 [4] [] [] 0
def A155 : List AP := [.c (.int .i64), .c (.int .i64)]
def R155 : List RSh := [.c (.bool)]
noncomputable def T155 : STree := evFn Tryz.prog E155 Tryz.f155 (argsAt A155 0) 2
noncomputable def P155 : List (FuncId × Fun) := [(176, S176)]
noncomputable def S155 : Fun := ⟨A155, R155, fun vs => T155.run Tryz.prog P155 A155 R155 (fun _ _ => none) (envL vs)⟩
theorem ok155 : S155.Ok Tryz.prog 155 := fun_ok (Φ := P155) (S := S155) mixed plain_ok Tryz.func155 (by kernel_rfl) (by kernel_rfl) (by kernel_rfl) (T := T155) rfl (And.intro ok176 trivial) (fun _ => by kernel_rfl)
noncomputable def g155 (x0 x1 : Int) : Option (Bool) := S155.g [.i x0, .i x1]
theorem g155_eq (x0 x1 : Int) : g155 x0 x1 =
    (if (cop .eql x0 1) = true then
      if (cop .geq x1 6) = true then
        some ((cop .leq x1 40))
      else
        some (false)
    else
      if (cop .eql x0 2) = true then
        if (cop .geq x1 12) = true then
          some ((cop .leq x1 40))
        else
          some (false)
      else
        if (cop .geq x0 3) = true then
          if (cop .leq x0 6) = true then
            (g176 x0).bind fun (r2 : Int) =>
            some ((cop .eql x1 r2))
          else
            some (false)
        else
          some (false)) := by kernel_rfl

/- multikernel/multikernelref10.Range -/
def E157 : Env := envG 8 [2] [] [] 0
def A157 : List AP := [.agg hs14]
def R157 : List RSh := [.agg [.int .i64, .int .i64]]
noncomputable def T157 : STree := evFn Tryz.prog E157 Tryz.f157 (argsAt A157 0) 7
noncomputable def P157 : List (FuncId × Fun) := []
noncomputable def S157 : Fun := ⟨A157, R157, fun vs => T157.run Tryz.prog P157 A157 R157 (fun _ _ => none) (envL vs)⟩
theorem ok157 : S157.Ok Tryz.prog 157 := fun_ok (Φ := P157) (S := S157) mixed plain_ok Tryz.func157 (by kernel_rfl) (by kernel_rfl) (by kernel_rfl) (T := T157) rfl trivial (fun _ => by kernel_rfl)
noncomputable def g157 (x0 x1 x2 x3 x4 x5 : Int) (x6 : Bool) : Option (Int × Int) := S157.g [.i x0, .i x1, .i x2, .i x3, .i x4, .i x5, .b x6]
theorem g157_eq (x0 x1 x2 x3 x4 x5 : Int) (x6 : Bool) : g157 x0 x1 x2 x3 x4 x5 x6 =
    (some (x1, x2)) := by kernel_rfl

/- multikernel/multikernelref10.ValidRange -/
def E156 : Env := envG 38 [2] [] [] 0
def A156 : List AP := [.agg [.int .i64, .int .i64]]
def R156 : List RSh := [.c (.bool)]
noncomputable def T156 : STree := evFn Tryz.prog E156 Tryz.f156 (argsAt A156 0) 2
noncomputable def P156 : List (FuncId × Fun) := []
noncomputable def S156 : Fun := ⟨A156, R156, fun vs => T156.run Tryz.prog P156 A156 R156 (fun _ _ => none) (envL vs)⟩
theorem ok156 : S156.Ok Tryz.prog 156 := fun_ok (Φ := P156) (S := S156) mixed plain_ok Tryz.func156 (by kernel_rfl) (by kernel_rfl) (by kernel_rfl) (T := T156) rfl trivial (fun _ => by kernel_rfl)
noncomputable def g156 (x0 x1 : Int) : Option (Bool) := S156.g [.i x0, .i x1]
theorem g156_eq (x0 x1 : Int) : g156 x0 x1 =
    (if (cop .lss x1 6) = true then
      some (false)
    else
      if (cop .gtr x1 40) = true then
        some (false)
      else
        if (cop .lss x0 0) = true then
          some (false)
        else
          if (cop .geq x0 1099511627776) = true then
            some (false)
          else
            reqK ((0 : Int) ≤ (IntKind.wrap .u64 x1)) <|
            reqK (((iop .shl .i64 1 (IntKind.wrap .u64 x1)) : Int) ≠ 0) <|
            if (cop .eql (iop .rem .i64 x0 (iop .shl .i64 1 (IntKind.wrap .u64 x1))) 0) = true then
              some ((cop .leq (iop .add .i64 x0 (iop .shl .i64 1 (IntKind.wrap .u64 x1))) 1099511627776))
            else
              some (false)) := by kernel_rfl

/- multikernel/multikernelref10.leveled -/
def E158 : Env := envG 23 [4] [] [] 0
def A158 : List AP := [.c (.int .i64), .c (.int .i64)]
def R158 : List RSh := [.c (.bool)]
noncomputable def T158 : STree := evFn Tryz.prog E158 Tryz.f158 (argsAt A158 0) 2
noncomputable def P158 : List (FuncId × Fun) := []
noncomputable def S158 : Fun := ⟨A158, R158, fun vs => T158.run Tryz.prog P158 A158 R158 (fun _ _ => none) (envL vs)⟩
theorem ok158 : S158.Ok Tryz.prog 158 := fun_ok (Φ := P158) (S := S158) mixed plain_ok Tryz.func158 (by kernel_rfl) (by kernel_rfl) (by kernel_rfl) (T := T158) rfl trivial (fun _ => by kernel_rfl)
noncomputable def g158 (x0 x1 : Int) : Option (Bool) := S158.g [.i x0, .i x1]
theorem g158_eq (x0 x1 : Int) : g158 x0 x1 =
    (if (cop .geq x1 0) = true then
      if (cop .eql x0 32) = true then
        if (cop .leq x1 1) = true then
          some (true)
        else
          if (cop .eql x0 39) = true then
            some ((cop .leq x1 2))
          else
            some (false)
      else
        if (cop .eql x0 39) = true then
          some ((cop .leq x1 2))
        else
          some (false)
    else
      some (false)) := by kernel_rfl

/- multikernel/multikernelref10.ValidCap -/
def E106 : Env := envG 64 [2] [] [] 0
def A106 : List AP := [.agg hs14]
def R106 : List RSh := [.c (.bool)]
noncomputable def T106 : STree := evFn Tryz.prog E106 Tryz.f106 (argsAt A106 0) 7
noncomputable def P106 : List (FuncId × Fun) := [(155, S155), (157, S157), (156, S156), (158, S158)]
noncomputable def S106 : Fun := ⟨A106, R106, fun vs => T106.run Tryz.prog P106 A106 R106 (fun _ _ => none) (envL vs)⟩
theorem ok106 : S106.Ok Tryz.prog 106 := fun_ok (Φ := P106) (S := S106) mixed plain_ok Tryz.func106 (by kernel_rfl) (by kernel_rfl) (by kernel_rfl) (T := T106) rfl (And.intro ok155 (And.intro ok157 (And.intro ok156 (And.intro ok158 trivial)))) (fun _ => by kernel_rfl)
noncomputable def g106 (x0 x1 x2 x3 x4 x5 : Int) (x6 : Bool) : Option (Bool) := S106.g [.i x0, .i x1, .i x2, .i x3, .i x4, .i x5, .b x6]
theorem g106_eq (x0 x1 x2 x3 x4 x5 : Int) (x6 : Bool) : g106 x0 x1 x2 x3 x4 x5 x6 =
    ((g155 x0 x2).bind fun (r7 : Bool) =>
    if (!r7) = true then
      some (false)
    else
      (g157 x0 x1 x2 x3 x4 x5 x6).bind fun (r8 : Int × Int) =>
      (g156 r8.1 r8.2).bind fun (r10 : Bool) =>
      if (!r10) = true then
        some (false)
      else
        if (cop .lss x3 0) = true then
          some (false)
        else
          if (cop .gtr x3 7) = true then
            some (false)
          else
            if (cop .eql x0 3) = true then
              (g158 x4 x5).bind fun (r11 : Bool) =>
              if (!r11) = true then
                some (false)
              else
                if (cop .neq x0 3) = true then
                  if (cop .neq x4 0) = true then
                    some (false)
                  else
                    if (cop .neq x5 0) = true then
                      some (false)
                    else
                      if (!x6) = true then
                        some (true)
                      else
                        if (cop .eql x0 1) = true then
                          some (true)
                        else
                          some ((cop .eql x0 2))
                else
                  if (!x6) = true then
                    some (true)
                  else
                    if (cop .eql x0 1) = true then
                      some (true)
                    else
                      some ((cop .eql x0 2))
            else
              if (cop .neq x0 3) = true then
                if (cop .neq x4 0) = true then
                  some (false)
                else
                  if (cop .neq x5 0) = true then
                    some (false)
                  else
                    if (!x6) = true then
                      some (true)
                    else
                      if (cop .eql x0 1) = true then
                        some (true)
                      else
                        some ((cop .eql x0 2))
              else
                if (!x6) = true then
                  some (true)
                else
                  if (cop .eql x0 1) = true then
                    some (true)
                  else
                    some ((cop .eql x0 2))) := by kernel_rfl

/- multikernel/multikernelref10.HasId -/
def E107 : Env := envG 18 [4] [(2, [(0, .c (.slice 3)), (3, .box [.int .i64, .int .i64, .int .i64]), (5, .c (.int .i64))])] [] 0
def A107 : List AP := [.c (.slice 3), .agg [.int .i64, .int .i64, .int .i64]]
def R107 : List RSh := [.c (.bool)]
noncomputable def T107 : STree := evFn Tryz.prog E107 Tryz.f107 (argsAt A107 0) 4
noncomputable def T107L0 : STree := T107.go [0]
noncomputable def P107 : List (FuncId × Fun) := []
noncomputable def S107 : Fun := ⟨A107, R107, fun vs => T107.run Tryz.prog P107 A107 R107 (fun _ _ => none) (envL vs)⟩
theorem ok107 : S107.Ok Tryz.prog 107 := fun_ok (Φ := P107) (S := S107) mixed plain_ok Tryz.func107 (by kernel_rfl) (by kernel_rfl) (by kernel_rfl) (T := T107) rfl trivial (fun _ => by kernel_rfl)
noncomputable def g107 (x0 : List (List AV)) (x1 x2 x3 : Int) : Option (Bool) := S107.g [.l x0, .i x1, .i x2, .i x3]
noncomputable def g107L0 (k : Nat) (x0 : List (List AV)) (x1 x2 x3 x4 : Int) : Option (Bool) := iterL (fun rec vs => STree.run Tryz.prog P107 A107 R107 T107L0 (updR (fun _ _ => none) 0 rec) (bind zeroE 0 vs)) k [.l x0, .i x1, .i x2, .i x3, .i x4]
theorem g107L0_eq (k : Nat) (x0 : List (List AV)) (x1 x2 x3 x4 : Int) : g107L0 (k + 1) x0 x1 x2 x3 x4 =
    (if (cop .lss x4 (List.length x0 : Int)) = true then
      elemK x0 x4 [.int .i64, .int .i64, .int .i64] fun (r5 : Int × Int × Int) =>
      if ((cop .eql r5.1 x1) && ((cop .eql r5.2.1 x2) && ((cop .eql r5.2.2 x3) && true))) = true then
        some (true)
      else
        g107L0 k x0 x1 x2 x3 (iop .add .i64 x4 1)
    else
      some (false)) := by kernel_rfl
theorem g107_eq (x0 : List (List AV)) (x1 x2 x3 : Int) : g107 x0 x1 x2 x3 =
    (g107L0 FUEL x0 x1 x2 x3 0) := by kernel_rfl

/- multikernel/multikernelref10.ValidNode -/
def E45 : Env := envG 53 [2] [(4, [(1, .box hs10), (3, .c (.int .i64))])] [] 0
def A45 : List AP := [.agg hs10]
def R45 : List RSh := [.c (.bool)]
noncomputable def T45 : STree := evFn Tryz.prog E45 Tryz.f45 (argsAt A45 0) 11
noncomputable def T45L0 : STree := T45.go [0, 1, 0, 1, 1, 0, 1, 0]
noncomputable def P45 : List (FuncId × Fun) := [(104, S104), (106, S106), (107, S107)]
noncomputable def S45 : Fun := ⟨A45, R45, fun vs => T45.run Tryz.prog P45 A45 R45 (fun _ _ => none) (envL vs)⟩
theorem ok45 : S45.Ok Tryz.prog 45 := fun_ok (Φ := P45) (S := S45) mixed plain_ok Tryz.func45 (by kernel_rfl) (by kernel_rfl) (by kernel_rfl) (T := T45) rfl (And.intro ok104 (And.intro ok106 (And.intro ok107 trivial))) (fun _ => by kernel_rfl)
noncomputable def g45 (x0 x1 x2 : Int) (x3 : List (List AV)) (x4 x5 x6 x7 x8 x9 : Int) (x10 : Bool) : Option (Bool) := S45.g [.i x0, .i x1, .i x2, .l x3, .i x4, .i x5, .i x6, .i x7, .i x8, .i x9, .b x10]
noncomputable def g45L0 (k : Nat) (x0 x1 x2 : Int) (x3 : List (List AV)) (x4 x5 x6 x7 x8 x9 : Int) (x10 : Bool) (x11 : Int) : Option (Bool) := iterL (fun rec vs => STree.run Tryz.prog P45 A45 R45 T45L0 (updR (fun _ _ => none) 0 rec) (bind zeroE 0 vs)) k [.i x0, .i x1, .i x2, .l x3, .i x4, .i x5, .i x6, .i x7, .i x8, .i x9, .b x10, .i x11]
theorem g45L0_eq (k : Nat) (x0 x1 x2 : Int) (x3 : List (List AV)) (x4 x5 x6 x7 x8 x9 : Int) (x10 : Bool) (x11 : Int) : g45L0 (k + 1) x0 x1 x2 x3 x4 x5 x6 x7 x8 x9 x10 x11 =
    (if (cop .lss x11 (List.length x3 : Int)) = true then
      elemK x3 x11 [.int .i64, .int .i64, .int .i64] fun (r12 : Int × Int × Int) =>
      (g104 r12.1 r12.2.1 r12.2.2).bind fun (r15 : Bool) =>
      if (!r15) = true then
        some (false)
      else
        reqK ((0 : Int) ≤ x11) <|
        reqK ((x11 : Int) ≤ (List.length x3 : Int)) <|
        elemK x3 x11 [.int .i64, .int .i64, .int .i64] fun (r16 : Int × Int × Int) =>
        (g107 (List.take (Int.toNat x11) x3) r16.1 r16.2.1 r16.2.2).bind fun (r19 : Bool) =>
        if r19 = true then
          some (false)
        else
          g45L0 k x0 x1 x2 x3 x4 x5 x6 x7 x8 x9 x10 (iop .add .i64 x11 1)
    else
      some (true)) := by kernel_rfl
theorem g45_eq (x0 x1 x2 : Int) (x3 : List (List AV)) (x4 x5 x6 x7 x8 x9 : Int) (x10 : Bool) : g45 x0 x1 x2 x3 x4 x5 x6 x7 x8 x9 x10 =
    ((g104 x0 x1 x2).bind fun (r11 : Bool) =>
    if (!r11) = true then
      some (false)
    else
      (g106 x4 x5 x6 x7 x8 x9 x10).bind fun (r12 : Bool) =>
      if (!r12) = true then
        some (false)
      else
        if (cop .gtr (List.length x3 : Int) 8) = true then
          some (false)
        else
          (g107 x3 x0 x1 x2).bind fun (r13 : Bool) =>
          if r13 = true then
            some (false)
          else
            g45L0 FUEL x0 x1 x2 x3 x4 x5 x6 x7 x8 x9 x10 0) := by kernel_rfl

/- multikernel/multikernelref18.ValidRequest -/
def E13 : Env := envG 46 [2] [] [] 0
def A13 : List AP := [.agg hs4]
def R13 : List RSh := [.c (.bool)]
noncomputable def T13 : STree := evFn Tryz.prog E13 Tryz.f13 (argsAt A13 0) 28
noncomputable def P13 : List (FuncId × Fun) := [(38, S38), (46, S46), (51, S51), (45, S45)]
noncomputable def S13 : Fun := ⟨A13, R13, fun vs => T13.run Tryz.prog P13 A13 R13 (fun _ _ => none) (envL vs)⟩
theorem ok13 : S13.Ok Tryz.prog 13 := fun_ok (Φ := P13) (S := S13) mixed plain_ok Tryz.func13 (by kernel_rfl) (by kernel_rfl) (by kernel_rfl) (T := T13) rfl (And.intro ok38 (And.intro ok46 (And.intro ok51 (And.intro ok45 trivial)))) (fun _ => by kernel_rfl)
noncomputable def g13 (x0 x1 x2 x3 x4 x5 x6 x7 x8 x9 x10 x11 x12 x13 x14 x15 x16 x17 x18 x19 : Int) (x20 : List (List AV)) (x21 x22 x23 x24 x25 x26 : Int) (x27 : Bool) : Option (Bool) := S13.g [.i x0, .i x1, .i x2, .i x3, .i x4, .i x5, .i x6, .i x7, .i x8, .i x9, .i x10, .i x11, .i x12, .i x13, .i x14, .i x15, .i x16, .i x17, .i x18, .i x19, .l x20, .i x21, .i x22, .i x23, .i x24, .i x25, .i x26, .b x27]
theorem g13_eq (x0 x1 x2 x3 x4 x5 x6 x7 x8 x9 x10 x11 x12 x13 x14 x15 x16 x17 x18 x19 : Int) (x20 : List (List AV)) (x21 x22 x23 x24 x25 x26 : Int) (x27 : Bool) : g13 x0 x1 x2 x3 x4 x5 x6 x7 x8 x9 x10 x11 x12 x13 x14 x15 x16 x17 x18 x19 x20 x21 x22 x23 x24 x25 x26 x27 =
    ((g38 x0 x1 x2).bind fun (r28 : Bool) =>
    if (!r28) = true then
      some (false)
    else
      if (cop .lss x3 1) = true then
        some (false)
      else
        if (cop .gtr x3 6) = true then
          some (false)
        else
          (g46 x15).bind fun (r29 : Bool) =>
          if (!r29) = true then
            some (false)
          else
            if (cop .neq x16 32) = true then
              if (cop .neq x16 39) = true then
                some (false)
              else
                if (cop .eql x3 1) = true then
                  (g51 x17 x18 x19 x20 x21 x22 x23 x24 x25 x26 x27 0 0 0 ([] : List (List AV)) 0 0 0 0 0 0 false).bind fun (r30 : Bool) =>
                  some (r30)
                else
                  (g45 x17 x18 x19 x20 x21 x22 x23 x24 x25 x26 x27).bind fun (r30 : Bool) =>
                  some (r30)
            else
              if (cop .eql x3 1) = true then
                (g51 x17 x18 x19 x20 x21 x22 x23 x24 x25 x26 x27 0 0 0 ([] : List (List AV)) 0 0 0 0 0 0 false).bind fun (r30 : Bool) =>
                some (r30)
              else
                (g45 x17 x18 x19 x20 x21 x22 x23 x24 x25 x26 x27).bind fun (r30 : Bool) =>
                some (r30)) := by kernel_rfl

/- multikernel/cspace.Empty -/
def E164 : Env := envG 8 [2] [] [] 0
def A164 : List AP := [.agg hs7]
def R164 : List RSh := [.c (.bool)]
noncomputable def T164 : STree := evFn Tryz.prog E164 Tryz.f164 (argsAt A164 0) 15
noncomputable def P164 : List (FuncId × Fun) := []
noncomputable def S164 : Fun := ⟨A164, R164, fun vs => T164.run Tryz.prog P164 A164 R164 (fun _ _ => none) (envL vs)⟩
theorem ok164 : S164.Ok Tryz.prog 164 := fun_ok (Φ := P164) (S := S164) mixed plain_ok Tryz.func164 (by kernel_rfl) (by kernel_rfl) (by kernel_rfl) (T := T164) rfl trivial (fun _ => by kernel_rfl)
noncomputable def g164 (x0 x1 x2 : Int) (x3 : List (List AV)) (x4 x5 x6 x7 x8 x9 : Int) (x10 : Bool) (x11 x12 x13 x14 : Int) : Option (Bool) := S164.g [.i x0, .i x1, .i x2, .l x3, .i x4, .i x5, .i x6, .i x7, .i x8, .i x9, .b x10, .i x11, .i x12, .i x13, .i x14]
theorem g164_eq (x0 x1 x2 : Int) (x3 : List (List AV)) (x4 x5 x6 x7 x8 x9 : Int) (x10 : Bool) (x11 x12 x13 x14 : Int) : g164 x0 x1 x2 x3 x4 x5 x6 x7 x8 x9 x10 x11 x12 x13 x14 =
    (some (((cop .eql x0 0) && ((cop .eql x1 0) && ((cop .eql x2 0) && true))))) := by kernel_rfl

/- multikernel/cspace.validSlot -/
def E111 : Env := envG 43 [2] [] [] 0
def A111 : List AP := [.agg hs7]
def R111 : List RSh := [.c (.bool)]
noncomputable def T111 : STree := evFn Tryz.prog E111 Tryz.f111 (argsAt A111 0) 15
noncomputable def P111 : List (FuncId × Fun) := [(164, S164), (49, S49), (50, S50), (91, S91)]
noncomputable def S111 : Fun := ⟨A111, R111, fun vs => T111.run Tryz.prog P111 A111 R111 (fun _ _ => none) (envL vs)⟩
theorem ok111 : S111.Ok Tryz.prog 111 := fun_ok (Φ := P111) (S := S111) mixed plain_ok Tryz.func111 (by kernel_rfl) (by kernel_rfl) (by kernel_rfl) (T := T111) rfl (And.intro ok164 (And.intro ok49 (And.intro ok50 (And.intro ok91 trivial)))) (fun _ => by kernel_rfl)
noncomputable def g111 (x0 x1 x2 : Int) (x3 : List (List AV)) (x4 x5 x6 x7 x8 x9 : Int) (x10 : Bool) (x11 x12 x13 x14 : Int) : Option (Bool) := S111.g [.i x0, .i x1, .i x2, .l x3, .i x4, .i x5, .i x6, .i x7, .i x8, .i x9, .b x10, .i x11, .i x12, .i x13, .i x14]
theorem g111_eq (x0 x1 x2 : Int) (x3 : List (List AV)) (x4 x5 x6 x7 x8 x9 : Int) (x10 : Bool) (x11 x12 x13 x14 : Int) : g111 x0 x1 x2 x3 x4 x5 x6 x7 x8 x9 x10 x11 x12 x13 x14 =
    (if (cop .lss x11 0) = true then
      some (false)
    else
      if (cop .gtr x11 1073741824) = true then
        some (false)
      else
        (g164 x0 x1 x2 x3 x4 x5 x6 x7 x8 x9 x10 x11 x12 x13 x14).bind fun (r15 : Bool) =>
        if r15 = true then
          (g49 x0 x1 x2 x3 x4 x5 x6 x7 x8 x9 x10 0 0 0 ([] : List (List AV)) 0 0 0 0 0 0 false).bind fun (r16 : Bool) =>
          if r16 = true then
            some (((cop .eql x12 0) && ((cop .eql x13 0) && ((cop .eql x14 0) && true))))
          else
            some (false)
        else
          (g50 x0 x1 x2 x3 x4 x5 x6 x7 x8 x9 x10).bind fun (r16 : Bool) =>
          if r16 = true then
            if ((cop .eql x12 0) && ((cop .eql x13 0) && ((cop .eql x14 0) && true))) = true then
              some (true)
            else
              (g91 x12 x13 x14).bind fun (r17 : Bool) =>
              if r17 = true then
                some ((cop .eql x14 0))
              else
                some (false)
          else
            some (false)) := by kernel_rfl

/- multikernel/cspace.Find -/
def E112 : Env := envG 27 [4, 5] [(2, [(3, .box [.int .i64, .int .i64, .int .i64]), (8, .c (.slice 15)), (9, .c (.int .i64)), (10, .c (.int .i64))])] [] 0
def A112 : List AP := [.c (.slice 15), .agg [.int .i64, .int .i64, .int .i64]]
def R112 : List RSh := [.c (.int .i64), .c (.bool)]
noncomputable def T112 : STree := evFn Tryz.prog E112 Tryz.f112 (argsAt A112 0) 4
noncomputable def T112L0 : STree := T112.go [0]
noncomputable def P112 : List (FuncId × Fun) := [(164, S164)]
noncomputable def S112 : Fun := ⟨A112, R112, fun vs => T112.run Tryz.prog P112 A112 R112 (fun _ _ => none) (envL vs)⟩
theorem ok112 : S112.Ok Tryz.prog 112 := fun_ok (Φ := P112) (S := S112) mixed plain_ok Tryz.func112 (by kernel_rfl) (by kernel_rfl) (by kernel_rfl) (T := T112) rfl (And.intro ok164 trivial) (fun _ => by kernel_rfl)
noncomputable def g112 (x0 : List (List AV)) (x1 x2 x3 : Int) : Option (Int × Bool) := S112.g [.l x0, .i x1, .i x2, .i x3]
noncomputable def g112L0 (k : Nat) (x0 x1 x2 : Int) (x3 : List (List AV)) (x4 x5 : Int) : Option (Int × Bool) := iterL (fun rec vs => STree.run Tryz.prog P112 A112 R112 T112L0 (updR (fun _ _ => none) 0 rec) (bind zeroE 0 vs)) k [.i x0, .i x1, .i x2, .l x3, .i x4, .i x5]
theorem g112L0_eq (k : Nat) (x0 x1 x2 : Int) (x3 : List (List AV)) (x4 x5 : Int) : g112L0 (k + 1) x0 x1 x2 x3 x4 x5 =
    (if (cop .lss x5 x4) = true then
      elemK x3 x5 hs7 fun (r6 : Qt11) =>
      (g164 r6.1 r6.2.1 r6.2.2.1 r6.2.2.2.1 r6.2.2.2.2.1 r6.2.2.2.2.2.1 r6.2.2.2.2.2.2.1 r6.2.2.2.2.2.2.2.1 r6.2.2.2.2.2.2.2.2.1 r6.2.2.2.2.2.2.2.2.2.1 r6.2.2.2.2.2.2.2.2.2.2.1 r6.2.2.2.2.2.2.2.2.2.2.2.1 (d4 (d8 r6)).1 (d4 (d8 r6)).2.1 (d2 (d4 (d8 r6)))).bind fun (r21 : Bool) =>
      if (!r21) = true then
        if ((cop .eql r6.1 x0) && ((cop .eql r6.2.1 x1) && ((cop .eql r6.2.2.1 x2) && true))) = true then
          some (x5, true)
        else
          g112L0 k x0 x1 x2 x3 x4 (iop .add .i64 x5 1)
      else
        g112L0 k x0 x1 x2 x3 x4 (iop .add .i64 x5 1)
    else
      some (0, false)) := by kernel_rfl
theorem g112_eq (x0 : List (List AV)) (x1 x2 x3 : Int) : g112 x0 x1 x2 x3 =
    (g112L0 FUEL x1 x2 x3 x0 (List.length x0 : Int) 0) := by kernel_rfl

/- multikernel/cspace.Valid -/
def E52 : Env := envG 32 [2] [(4, [(0, .c (.slice 15)), (10, .c (.slice 15)), (11, .c (.int .i64)), (12, .c (.int .i64))])] [] 0
def A52 : List AP := [.c (.slice 15)]
def R52 : List RSh := [.c (.bool)]
noncomputable def T52 : STree := evFn Tryz.prog E52 Tryz.f52 (argsAt A52 0) 1
noncomputable def T52L0 : STree := T52.go [1, 0]
noncomputable def P52 : List (FuncId × Fun) := [(111, S111), (112, S112)]
noncomputable def S52 : Fun := ⟨A52, R52, fun vs => T52.run Tryz.prog P52 A52 R52 (fun _ _ => none) (envL vs)⟩
theorem ok52 : S52.Ok Tryz.prog 52 := fun_ok (Φ := P52) (S := S52) mixed plain_ok Tryz.func52 (by kernel_rfl) (by kernel_rfl) (by kernel_rfl) (T := T52) rfl (And.intro ok111 (And.intro ok112 trivial)) (fun _ => by kernel_rfl)
noncomputable def g52 (x0 : List (List AV)) : Option (Bool) := S52.g [.l x0]
noncomputable def g52L0 (k : Nat) (x0 x1 : List (List AV)) (x2 x3 : Int) : Option (Bool) := iterL (fun rec vs => STree.run Tryz.prog P52 A52 R52 T52L0 (updR (fun _ _ => none) 0 rec) (bind zeroE 0 vs)) k [.l x0, .l x1, .i x2, .i x3]
theorem g52L0_eq (k : Nat) (x0 x1 : List (List AV)) (x2 x3 : Int) : g52L0 (k + 1) x0 x1 x2 x3 =
    (if (cop .lss x3 x2) = true then
      elemK x1 x3 hs7 fun (r4 : Qt11) =>
      (g111 r4.1 r4.2.1 r4.2.2.1 r4.2.2.2.1 r4.2.2.2.2.1 r4.2.2.2.2.2.1 r4.2.2.2.2.2.2.1 r4.2.2.2.2.2.2.2.1 r4.2.2.2.2.2.2.2.2.1 r4.2.2.2.2.2.2.2.2.2.1 r4.2.2.2.2.2.2.2.2.2.2.1 r4.2.2.2.2.2.2.2.2.2.2.2.1 (d4 (d8 r4)).1 (d4 (d8 r4)).2.1 (d2 (d4 (d8 r4)))).bind fun (r19 : Bool) =>
      if (!r19) = true then
        some (false)
      else
        reqK ((0 : Int) ≤ x3) <|
        reqK ((x3 : Int) ≤ (List.length x0 : Int)) <|
        (g112 (List.take (Int.toNat x3) x0) r4.1 r4.2.1 r4.2.2.1).bind fun (r20 : Int × Bool) =>
        if r20.2 = true then
          some (false)
        else
          g52L0 k x0 x1 x2 (iop .add .i64 x3 1)
    else
      some (true)) := by kernel_rfl
theorem g52_eq (x0 : List (List AV)) : g52 x0 =
    (if (cop .gtr (List.length x0 : Int) 64) = true then
      some (false)
    else
      g52L0 FUEL x0 x0 (List.length x0 : Int) 0) := by kernel_rfl

/- multikernel/wire.validPending$1 -/
def E114 : Env := envG 6 [2] [] [] 0
def A114 : List AP := [.agg hs4]
def R114 : List RSh := [.c (.bool)]
noncomputable def T114 : STree := evFn Tryz.prog E114 Tryz.f114 (argsAt A114 0) 28
noncomputable def P114 : List (FuncId × Fun) := [(12, S12)]
noncomputable def S114 : Fun := ⟨A114, R114, fun vs => T114.run Tryz.prog P114 A114 R114 (fun _ _ => none) (envL vs)⟩
theorem ok114 : S114.Ok Tryz.prog 114 := fun_ok (Φ := P114) (S := S114) mixed plain_ok Tryz.func114 (by kernel_rfl) (by kernel_rfl) (by kernel_rfl) (T := T114) rfl (And.intro ok12 trivial) (fun _ => by kernel_rfl)
noncomputable def g114 (x0 x1 x2 x3 x4 x5 x6 x7 x8 x9 x10 x11 x12 x13 x14 x15 x16 x17 x18 x19 : Int) (x20 : List (List AV)) (x21 x22 x23 x24 x25 x26 : Int) (x27 : Bool) : Option (Bool) := S114.g [.i x0, .i x1, .i x2, .i x3, .i x4, .i x5, .i x6, .i x7, .i x8, .i x9, .i x10, .i x11, .i x12, .i x13, .i x14, .i x15, .i x16, .i x17, .i x18, .i x19, .l x20, .i x21, .i x22, .i x23, .i x24, .i x25, .i x26, .b x27]
theorem g114_eq (x0 x1 x2 x3 x4 x5 x6 x7 x8 x9 x10 x11 x12 x13 x14 x15 x16 x17 x18 x19 : Int) (x20 : List (List AV)) (x21 x22 x23 x24 x25 x26 : Int) (x27 : Bool) : g114 x0 x1 x2 x3 x4 x5 x6 x7 x8 x9 x10 x11 x12 x13 x14 x15 x16 x17 x18 x19 x20 x21 x22 x23 x24 x25 x26 x27 =
    ((g12 x0 x1 x2 x3 x4 x5 x6 x7 x8 x9 x10 x11 x12 x13 x14 x15 x16 x17 x18 x19 x20 x21 x22 x23 x24 x25 x26 x27).bind fun (r28 : Bool) =>
    some ((!r28))) := by kernel_rfl

/- slices.IndexFunc[[]multikernel/api.Request,multikernel/api.Request] -/
def E165c114 : Env := envG 19 [4] [(2, [(0, .c (.slice 28)), (1, .clo 114 []), (7, .c (.int .i64)), (8, .c (.int .i64))])] [] 0
def A165c114 : List AP := [.c (.slice 28), .clo 114 []]
def R165c114 : List RSh := [.c (.int .i64)]
noncomputable def T165c114 : STree := evFn Tryz.prog E165c114 Tryz.f165 (argsAt A165c114 0) 1
noncomputable def T165c114L0 : STree := T165c114.go [0]
noncomputable def P165c114 : List (FuncId × Fun) := [(114, S114)]
noncomputable def S165c114 : Fun := ⟨A165c114, R165c114, fun vs => T165c114.run Tryz.prog P165c114 A165c114 R165c114 (fun _ _ => none) (envL vs)⟩
theorem ok165c114 : S165c114.Ok Tryz.prog 165 := fun_ok (Φ := P165c114) (S := S165c114) mixed plain_ok Tryz.func165 (by kernel_rfl) (by kernel_rfl) (by kernel_rfl) (T := T165c114) rfl (And.intro ok114 trivial) (fun _ => by kernel_rfl)
noncomputable def g165c114 (x0 : List (List AV)) : Option (Int) := S165c114.g [.l x0]
noncomputable def g165c114L0 (k : Nat) (x0 : List (List AV)) (x1 x2 : Int) : Option (Int) := iterL (fun rec vs => STree.run Tryz.prog P165c114 A165c114 R165c114 T165c114L0 (updR (fun _ _ => none) 0 rec) (bind zeroE 0 vs)) k [.l x0, .i x1, .i x2]
theorem g165c114L0_eq (k : Nat) (x0 : List (List AV)) (x1 x2 : Int) : g165c114L0 (k + 1) x0 x1 x2 =
    (if (cop .lss x2 x1) = true then
      elemK x0 x2 hs4 fun (r3 : Qt6) =>
      (g114 r3.1 r3.2.1 r3.2.2.1 r3.2.2.2.1 r3.2.2.2.2.1 r3.2.2.2.2.2.1 r3.2.2.2.2.2.2.1 r3.2.2.2.2.2.2.2.1 r3.2.2.2.2.2.2.2.2.1 r3.2.2.2.2.2.2.2.2.2.1 r3.2.2.2.2.2.2.2.2.2.2.1 r3.2.2.2.2.2.2.2.2.2.2.2.1 (d4 (d8 r3)).1 (d4 (d8 r3)).2.1 (d2 (d4 (d8 r3))).1 (d2 (d4 (d8 r3))).2.1 (d16 r3).1 (d16 r3).2.1 (d2 (d16 r3)).1 (d2 (d16 r3)).2.1 (d4 (d16 r3)).1 (d4 (d16 r3)).2.1 (d2 (d4 (d16 r3))).1 (d2 (d4 (d16 r3))).2.1 (d8 (d16 r3)).1 (d8 (d16 r3)).2.1 (d2 (d8 (d16 r3))).1 (d2 (d8 (d16 r3))).2).bind fun (r31 : Bool) =>
      if r31 = true then
        some (x2)
      else
        g165c114L0 k x0 x1 (iop .add .i64 x2 1)
    else
      some ((-1))) := by kernel_rfl
theorem g165c114_eq (x0 : List (List AV)) : g165c114 x0 =
    (g165c114L0 FUEL x0 (List.length x0 : Int) 0) := by kernel_rfl

/- slices.ContainsFunc[[]multikernel/api.Request,multikernel/api.Request] -/
def E113c114 : Env := envG 9 [4] [] [] 0
def A113c114 : List AP := [.c (.slice 28), .clo 114 []]
def R113c114 : List RSh := [.c (.bool)]
noncomputable def T113c114 : STree := evFn Tryz.prog E113c114 Tryz.f113 (argsAt A113c114 0) 1
noncomputable def P113c114 : List (FuncId × Fun) := [(165, S165c114)]
noncomputable def S113c114 : Fun := ⟨A113c114, R113c114, fun vs => T113c114.run Tryz.prog P113c114 A113c114 R113c114 (fun _ _ => none) (envL vs)⟩
theorem ok113c114 : S113c114.Ok Tryz.prog 113 := fun_ok (Φ := P113c114) (S := S113c114) mixed plain_ok Tryz.func113 (by kernel_rfl) (by kernel_rfl) (by kernel_rfl) (T := T113c114) rfl (And.intro ok165c114 trivial) (fun _ => by kernel_rfl)
noncomputable def g113c114 (x0 : List (List AV)) : Option (Bool) := S113c114.g [.l x0]
theorem g113c114_eq (x0 : List (List AV)) : g113c114 x0 =
    ((g165c114 x0).bind fun (r1 : Int) =>
    some ((cop .geq r1 0))) := by kernel_rfl

/- cmp.isNaN[int] -/
def E182 : Env := envG 6 [2] [] [] 0
def A182 : List AP := [.c (.int .i64)]
def R182 : List RSh := [.c (.bool)]
noncomputable def T182 : STree := evFn Tryz.prog E182 Tryz.f182 (argsAt A182 0) 1
noncomputable def P182 : List (FuncId × Fun) := []
noncomputable def S182 : Fun := ⟨A182, R182, fun vs => T182.run Tryz.prog P182 A182 R182 (fun _ _ => none) (envL vs)⟩
theorem ok182 : S182.Ok Tryz.prog 182 := fun_ok (Φ := P182) (S := S182) mixed plain_ok Tryz.func182 (by kernel_rfl) (by kernel_rfl) (by kernel_rfl) (T := T182) rfl trivial (fun _ => by kernel_rfl)
noncomputable def g182 (x0 : Int) : Option (Bool) := S182.g [.i x0]
theorem g182_eq (x0 : Int) : g182 x0 =
    (some ((cop .neq x0 x0))) := by kernel_rfl

/- cmp.Compare[int] -/
def E178 : Env := envG 20 [4] [] [] 0
def A178 : List AP := [.c (.int .i64), .c (.int .i64)]
def R178 : List RSh := [.c (.int .i64)]
noncomputable def T178 : STree := evFn Tryz.prog E178 Tryz.f178 (argsAt A178 0) 2
noncomputable def P178 : List (FuncId × Fun) := [(182, S182)]
noncomputable def S178 : Fun := ⟨A178, R178, fun vs => T178.run Tryz.prog P178 A178 R178 (fun _ _ => none) (envL vs)⟩
theorem ok178 : S178.Ok Tryz.prog 178 := fun_ok (Φ := P178) (S := S178) mixed plain_ok Tryz.func178 (by kernel_rfl) (by kernel_rfl) (by kernel_rfl) (T := T178) rfl (And.intro ok182 trivial) (fun _ => by kernel_rfl)
noncomputable def g178 (x0 x1 : Int) : Option (Int) := S178.g [.i x0, .i x1]
theorem g178_eq (x0 x1 : Int) : g178 x0 x1 =
    ((g182 x0).bind fun (r2 : Bool) =>
    (g182 x1).bind fun (r3 : Bool) =>
    if r2 = true then
      if r3 = true then
        some (0)
      else
        some ((-1))
    else
      if r3 = true then
        some (1)
      else
        if (cop .lss x0 x1) = true then
          some ((-1))
        else
          if (cop .gtr x0 x1) = true then
            some (1)
          else
            some (0)) := by kernel_rfl

/- cmp.Or[int] -/
def E177 : Env := envG 18 [2] [(3, [(3, .c (.int .i64)), (6, .c (.slice 1)), (7, .c (.int .i64)), (8, .c (.int .i64))])] [] 0
def A177 : List AP := [.c (.slice 1)]
def R177 : List RSh := [.c (.int .i64)]
noncomputable def T177 : STree := evFn Tryz.prog E177 Tryz.f177 (argsAt A177 0) 1
noncomputable def T177L0 : STree := T177.go [0]
noncomputable def P177 : List (FuncId × Fun) := []
noncomputable def S177 : Fun := ⟨A177, R177, fun vs => T177.run Tryz.prog P177 A177 R177 (fun _ _ => none) (envL vs)⟩
theorem ok177 : S177.Ok Tryz.prog 177 := fun_ok (Φ := P177) (S := S177) mixed plain_ok Tryz.func177 (by kernel_rfl) (by kernel_rfl) (by kernel_rfl) (T := T177) rfl trivial (fun _ => by kernel_rfl)
noncomputable def g177 (x0 : List (List AV)) : Option (Int) := S177.g [.l x0]
noncomputable def g177L0 (k : Nat) (x0 : Int) (x1 : List (List AV)) (x2 x3 : Int) : Option (Int) := iterL (fun rec vs => STree.run Tryz.prog P177 A177 R177 T177L0 (updR (fun _ _ => none) 0 rec) (bind zeroE 0 vs)) k [.i x0, .l x1, .i x2, .i x3]
theorem g177L0_eq (k : Nat) (x0 : Int) (x1 : List (List AV)) (x2 x3 : Int) : g177L0 (k + 1) x0 x1 x2 x3 =
    (if (cop .lss x3 x2) = true then
      elemK x1 x3 [.int .i64] fun (r4 : Int) =>
      if (cop .neq r4 x0) = true then
        some (r4)
      else
        g177L0 k x0 x1 x2 (iop .add .i64 x3 1)
    else
      some (x0)) := by kernel_rfl
theorem g177_eq (x0 : List (List AV)) : g177 x0 =
    (g177L0 FUEL 0 x0 (List.length x0 : Int) 0) := by kernel_rfl

/- multikernel/node.Compare -/
def E166 : Env := envG 22 [4] [] [] 0
def A166 : List AP := [.agg [.int .i64, .int .i64, .int .i64], .agg [.int .i64, .int .i64, .int .i64]]
def R166 : List RSh := [.c (.int .i64)]
noncomputable def T166 : STree := evFn Tryz.prog E166 Tryz.f166 (argsAt A166 0) 6
noncomputable def P166 : List (FuncId × Fun) := [(178, S178), (177, S177)]
noncomputable def S166 : Fun := ⟨A166, R166, fun vs => T166.run Tryz.prog P166 A166 R166 (fun _ _ => none) (envL vs)⟩
theorem ok166 : S166.Ok Tryz.prog 166 := fun_ok (Φ := P166) (S := S166) mixed plain_ok Tryz.func166 (by kernel_rfl) (by kernel_rfl) (by kernel_rfl) (T := T166) rfl (And.intro ok178 (And.intro ok177 trivial)) (fun _ => by kernel_rfl)
noncomputable def g166 (x0 x1 x2 x3 x4 x5 : Int) : Option (Int) := S166.g [.i x0, .i x1, .i x2, .i x3, .i x4, .i x5]
theorem g166_eq (x0 x1 x2 x3 x4 x5 : Int) : g166 x0 x1 x2 x3 x4 x5 =
    ((g178 x0 x3).bind fun (r6 : Int) =>
    (g178 x1 x4).bind fun (r7 : Int) =>
    (g178 x2 x5).bind fun (r8 : Int) =>
    (g177 (((([] : List (List AV)) ++ [[AV.val (.int .i64 r6)]]) ++ [[AV.val (.int .i64 r7)]]) ++ [[AV.val (.int .i64 r8)]])).bind fun (r9 : Int) =>
    some (r9)) := by kernel_rfl

/- multikernel/node.Less -/
def E116 : Env := envG 9 [4] [] [] 0
def A116 : List AP := [.agg [.int .i64, .int .i64, .int .i64], .agg [.int .i64, .int .i64, .int .i64]]
def R116 : List RSh := [.c (.bool)]
noncomputable def T116 : STree := evFn Tryz.prog E116 Tryz.f116 (argsAt A116 0) 6
noncomputable def P116 : List (FuncId × Fun) := [(166, S166)]
noncomputable def S116 : Fun := ⟨A116, R116, fun vs => T116.run Tryz.prog P116 A116 R116 (fun _ _ => none) (envL vs)⟩
theorem ok116 : S116.Ok Tryz.prog 116 := fun_ok (Φ := P116) (S := S116) mixed plain_ok Tryz.func116 (by kernel_rfl) (by kernel_rfl) (by kernel_rfl) (T := T116) rfl (And.intro ok166 trivial) (fun _ => by kernel_rfl)
noncomputable def g116 (x0 x1 x2 x3 x4 x5 : Int) : Option (Bool) := S116.g [.i x0, .i x1, .i x2, .i x3, .i x4, .i x5]
theorem g116_eq (x0 x1 x2 x3 x4 x5 : Int) : g116 x0 x1 x2 x3 x4 x5 =
    ((g166 x0 x1 x2 x3 x4 x5).bind fun (r6 : Int) =>
    some ((cop .lss r6 0))) := by kernel_rfl

/- multikernel/wire.validPending$2 -/
def E115 : Env := envG 17 [5] [] [2] 0
def A115 : List AP := [.c (.int .i64), .c (.int .i64), .box [.slice 28]]
def R115 : List RSh := [.c (.bool)]
noncomputable def T115 : STree := evFn Tryz.prog E115 Tryz.f115 (argsAt A115 0) 3
noncomputable def P115 : List (FuncId × Fun) := [(116, S116)]
noncomputable def S115 : Fun := ⟨A115, R115, fun vs => T115.run Tryz.prog P115 A115 R115 (fun _ _ => none) (envL vs)⟩
theorem ok115 : S115.Ok Tryz.prog 115 := fun_ok (Φ := P115) (S := S115) mixed plain_ok Tryz.func115 (by kernel_rfl) (by kernel_rfl) (by kernel_rfl) (T := T115) rfl (And.intro ok116 trivial) (fun _ => by kernel_rfl)
noncomputable def g115 (x0 x1 : Int) (x2 : List (List AV)) : Option (Bool × List (List AV)) := S115.g [.i x0, .i x1, .l x2]
theorem g115_eq (x0 x1 : Int) (x2 : List (List AV)) : g115 x0 x1 x2 =
    (elemK x2 x0 hs4 fun (r3 : Qt6) =>
    elemK x2 x1 hs4 fun (r31 : Qt6) =>
    (g116 r3.1 r3.2.1 r3.2.2.1 r31.1 r31.2.1 r31.2.2.1).bind fun (r59 : Bool) =>
    some (r59, x2)) := by kernel_rfl

/- multikernel/wire.ascending -/
def E94c115 : Env := envG 17 [4] [(2, [(0, .c (.int .i64)), (1, .clo 115 [17]), (5, .c (.int .i64)), (17, .gbox [.slice 28])])] [] 1
def A94c115 : List AP := [.c (.int .i64), .clo 115 [17], .dead, .dead, .dead, .dead, .dead, .dead, .dead, .dead, .dead, .dead, .dead, .dead, .dead, .dead, .dead, .gbox [.slice 28]]
def R94c115 : List RSh := [.c (.bool)]
noncomputable def T94c115 : STree := evFn Tryz.prog E94c115 Tryz.f94 (argsAt A94c115 0) 2
noncomputable def T94c115L0 : STree := T94c115.go [0]
noncomputable def P94c115 : List (FuncId × Fun) := [(115, S115)]
noncomputable def S94c115 : Fun := ⟨A94c115, R94c115, fun vs => T94c115.run Tryz.prog P94c115 A94c115 R94c115 (fun _ _ => none) (envL vs)⟩
theorem ok94c115 : S94c115.Ok Tryz.prog 94 := fun_ok (Φ := P94c115) (S := S94c115) mixed plain_ok Tryz.func94 (by kernel_rfl) (by kernel_rfl) (by kernel_rfl) (T := T94c115) rfl (And.intro ok115 trivial) (fun _ => by kernel_rfl)
noncomputable def g94c115 (x0 : Int) (x1 : List (List AV)) : Option (Bool × List (List AV)) := S94c115.g [.i x0, .l x1]
noncomputable def g94c115L0 (k : Nat) (x0 x1 : Int) (x2 : List (List AV)) : Option (Bool × List (List AV)) := iterL (fun rec vs => STree.run Tryz.prog P94c115 A94c115 R94c115 T94c115L0 (updR (fun _ _ => none) 0 rec) (bind zeroE 0 vs)) k [.i x0, .i x1, .l x2]
theorem g94c115L0_eq (k : Nat) (x0 x1 : Int) (x2 : List (List AV)) : g94c115L0 (k + 1) x0 x1 x2 =
    (if (cop .lss x1 x0) = true then
      (g115 (iop .sub .i64 x1 1) x1 x2).bind fun (r3 : Bool × List (List AV)) =>
      if (!r3.1) = true then
        some (false, r3.2)
      else
        g94c115L0 k x0 (iop .add .i64 x1 1) r3.2
    else
      some (true, x2)) := by kernel_rfl
theorem g94c115_eq (x0 : Int) (x1 : List (List AV)) : g94c115 x0 x1 =
    (g94c115L0 FUEL x0 1 x1) := by kernel_rfl

/- multikernel/wire.validPending -/
def E53 : Env := envG 12 [2] [] [] 0
def A53 : List AP := [.c (.slice 28)]
def R53 : List RSh := [.c (.bool)]
noncomputable def T53 : STree := evFn Tryz.prog E53 Tryz.f53 (argsAt A53 0) 1
noncomputable def P53 : List (FuncId × Fun) := [(113, S113c114), (94, S94c115)]
noncomputable def S53 : Fun := ⟨A53, R53, fun vs => T53.run Tryz.prog P53 A53 R53 (fun _ _ => none) (envL vs)⟩
theorem ok53 : S53.Ok Tryz.prog 53 := fun_ok (Φ := P53) (S := S53) mixed plain_ok Tryz.func53 (by kernel_rfl) (by kernel_rfl) (by kernel_rfl) (T := T53) rfl (And.intro ok113c114 (And.intro ok94c115 trivial)) (fun _ => by kernel_rfl)
noncomputable def g53 (x0 : List (List AV)) : Option (Bool) := S53.g [.l x0]
theorem g53_eq (x0 : List (List AV)) : g53 x0 =
    ((g113c114 x0).bind fun (r1 : Bool) =>
    if (!r1) = true then
      (g94c115 (List.length x0 : Int) x0).bind fun (r2 : Bool × List (List AV)) =>
      some (r2.1)
    else
      some (false)) := by kernel_rfl

/- multikernel/wire.validMarks$1 -/
def E118 : Env := envG 13 [2] [] [] 0
def A118 : List AP := [.agg [.int .i64, .int .i64, .int .i64, .int .i64]]
def R118 : List RSh := [.c (.bool)]
noncomputable def T118 : STree := evFn Tryz.prog E118 Tryz.f118 (argsAt A118 0) 4
noncomputable def P118 : List (FuncId × Fun) := [(48, S48), (47, S47)]
noncomputable def S118 : Fun := ⟨A118, R118, fun vs => T118.run Tryz.prog P118 A118 R118 (fun _ _ => none) (envL vs)⟩
theorem ok118 : S118.Ok Tryz.prog 118 := fun_ok (Φ := P118) (S := S118) mixed plain_ok Tryz.func118 (by kernel_rfl) (by kernel_rfl) (by kernel_rfl) (T := T118) rfl (And.intro ok48 (And.intro ok47 trivial)) (fun _ => by kernel_rfl)
noncomputable def g118 (x0 x1 x2 x3 : Int) : Option (Bool) := S118.g [.i x0, .i x1, .i x2, .i x3]
theorem g118_eq (x0 x1 x2 x3 : Int) : g118 x0 x1 x2 x3 =
    ((g48 x0).bind fun (r4 : Bool) =>
    if (!r4) = true then
      some (true)
    else
      (g47 x1 x2 x3).bind fun (r5 : Bool) =>
      some ((!r5))) := by kernel_rfl

/- slices.IndexFunc[[]multikernel/api.Mark,multikernel/api.Mark] -/
def E167c118 : Env := envG 19 [4] [(2, [(0, .c (.slice 4)), (1, .clo 118 []), (7, .c (.int .i64)), (8, .c (.int .i64))])] [] 0
def A167c118 : List AP := [.c (.slice 4), .clo 118 []]
def R167c118 : List RSh := [.c (.int .i64)]
noncomputable def T167c118 : STree := evFn Tryz.prog E167c118 Tryz.f167 (argsAt A167c118 0) 1
noncomputable def T167c118L0 : STree := T167c118.go [0]
noncomputable def P167c118 : List (FuncId × Fun) := [(118, S118)]
noncomputable def S167c118 : Fun := ⟨A167c118, R167c118, fun vs => T167c118.run Tryz.prog P167c118 A167c118 R167c118 (fun _ _ => none) (envL vs)⟩
theorem ok167c118 : S167c118.Ok Tryz.prog 167 := fun_ok (Φ := P167c118) (S := S167c118) mixed plain_ok Tryz.func167 (by kernel_rfl) (by kernel_rfl) (by kernel_rfl) (T := T167c118) rfl (And.intro ok118 trivial) (fun _ => by kernel_rfl)
noncomputable def g167c118 (x0 : List (List AV)) : Option (Int) := S167c118.g [.l x0]
noncomputable def g167c118L0 (k : Nat) (x0 : List (List AV)) (x1 x2 : Int) : Option (Int) := iterL (fun rec vs => STree.run Tryz.prog P167c118 A167c118 R167c118 T167c118L0 (updR (fun _ _ => none) 0 rec) (bind zeroE 0 vs)) k [.l x0, .i x1, .i x2]
theorem g167c118L0_eq (k : Nat) (x0 : List (List AV)) (x1 x2 : Int) : g167c118L0 (k + 1) x0 x1 x2 =
    (if (cop .lss x2 x1) = true then
      elemK x0 x2 [.int .i64, .int .i64, .int .i64, .int .i64] fun (r3 : Int × Int × Int × Int) =>
      (g118 r3.1 r3.2.1 r3.2.2.1 r3.2.2.2).bind fun (r7 : Bool) =>
      if r7 = true then
        some (x2)
      else
        g167c118L0 k x0 x1 (iop .add .i64 x2 1)
    else
      some ((-1))) := by kernel_rfl
theorem g167c118_eq (x0 : List (List AV)) : g167c118 x0 =
    (g167c118L0 FUEL x0 (List.length x0 : Int) 0) := by kernel_rfl

/- slices.ContainsFunc[[]multikernel/api.Mark,multikernel/api.Mark] -/
def E117c118 : Env := envG 9 [4] [] [] 0
def A117c118 : List AP := [.c (.slice 4), .clo 118 []]
def R117c118 : List RSh := [.c (.bool)]
noncomputable def T117c118 : STree := evFn Tryz.prog E117c118 Tryz.f117 (argsAt A117c118 0) 1
noncomputable def P117c118 : List (FuncId × Fun) := [(167, S167c118)]
noncomputable def S117c118 : Fun := ⟨A117c118, R117c118, fun vs => T117c118.run Tryz.prog P117c118 A117c118 R117c118 (fun _ _ => none) (envL vs)⟩
theorem ok117c118 : S117c118.Ok Tryz.prog 117 := fun_ok (Φ := P117c118) (S := S117c118) mixed plain_ok Tryz.func117 (by kernel_rfl) (by kernel_rfl) (by kernel_rfl) (T := T117c118) rfl (And.intro ok167c118 trivial) (fun _ => by kernel_rfl)
noncomputable def g117c118 (x0 : List (List AV)) : Option (Bool) := S117c118.g [.l x0]
theorem g117c118_eq (x0 : List (List AV)) : g117c118 x0 =
    ((g167c118 x0).bind fun (r1 : Int) =>
    some ((cop .geq r1 0))) := by kernel_rfl

/- multikernel/wire.validMarks$2 -/
def E119 : Env := envG 17 [5] [] [2] 0
def A119 : List AP := [.c (.int .i64), .c (.int .i64), .box [.slice 4]]
def R119 : List RSh := [.c (.bool)]
noncomputable def T119 : STree := evFn Tryz.prog E119 Tryz.f119 (argsAt A119 0) 3
noncomputable def P119 : List (FuncId × Fun) := []
noncomputable def S119 : Fun := ⟨A119, R119, fun vs => T119.run Tryz.prog P119 A119 R119 (fun _ _ => none) (envL vs)⟩
theorem ok119 : S119.Ok Tryz.prog 119 := fun_ok (Φ := P119) (S := S119) mixed plain_ok Tryz.func119 (by kernel_rfl) (by kernel_rfl) (by kernel_rfl) (T := T119) rfl trivial (fun _ => by kernel_rfl)
noncomputable def g119 (x0 x1 : Int) (x2 : List (List AV)) : Option (Bool × List (List AV)) := S119.g [.i x0, .i x1, .l x2]
theorem g119_eq (x0 x1 : Int) (x2 : List (List AV)) : g119 x0 x1 x2 =
    (elemK x2 x0 [.int .i64, .int .i64, .int .i64, .int .i64] fun (r3 : Int × Int × Int × Int) =>
    elemK x2 x1 [.int .i64, .int .i64, .int .i64, .int .i64] fun (r7 : Int × Int × Int × Int) =>
    some ((cop .lss r3.1 r7.1), x2)) := by kernel_rfl

/- multikernel/wire.ascending -/
def E94c119 : Env := envG 17 [4] [(2, [(0, .c (.int .i64)), (1, .clo 119 [17]), (5, .c (.int .i64)), (17, .gbox [.slice 4])])] [] 1
def A94c119 : List AP := [.c (.int .i64), .clo 119 [17], .dead, .dead, .dead, .dead, .dead, .dead, .dead, .dead, .dead, .dead, .dead, .dead, .dead, .dead, .dead, .gbox [.slice 4]]
def R94c119 : List RSh := [.c (.bool)]
noncomputable def T94c119 : STree := evFn Tryz.prog E94c119 Tryz.f94 (argsAt A94c119 0) 2
noncomputable def T94c119L0 : STree := T94c119.go [0]
noncomputable def P94c119 : List (FuncId × Fun) := [(119, S119)]
noncomputable def S94c119 : Fun := ⟨A94c119, R94c119, fun vs => T94c119.run Tryz.prog P94c119 A94c119 R94c119 (fun _ _ => none) (envL vs)⟩
theorem ok94c119 : S94c119.Ok Tryz.prog 94 := fun_ok (Φ := P94c119) (S := S94c119) mixed plain_ok Tryz.func94 (by kernel_rfl) (by kernel_rfl) (by kernel_rfl) (T := T94c119) rfl (And.intro ok119 trivial) (fun _ => by kernel_rfl)
noncomputable def g94c119 (x0 : Int) (x1 : List (List AV)) : Option (Bool × List (List AV)) := S94c119.g [.i x0, .l x1]
noncomputable def g94c119L0 (k : Nat) (x0 x1 : Int) (x2 : List (List AV)) : Option (Bool × List (List AV)) := iterL (fun rec vs => STree.run Tryz.prog P94c119 A94c119 R94c119 T94c119L0 (updR (fun _ _ => none) 0 rec) (bind zeroE 0 vs)) k [.i x0, .i x1, .l x2]
theorem g94c119L0_eq (k : Nat) (x0 x1 : Int) (x2 : List (List AV)) : g94c119L0 (k + 1) x0 x1 x2 =
    (if (cop .lss x1 x0) = true then
      (g119 (iop .sub .i64 x1 1) x1 x2).bind fun (r3 : Bool × List (List AV)) =>
      if (!r3.1) = true then
        some (false, r3.2)
      else
        g94c119L0 k x0 (iop .add .i64 x1 1) r3.2
    else
      some (true, x2)) := by kernel_rfl
theorem g94c119_eq (x0 : Int) (x1 : List (List AV)) : g94c119 x0 x1 =
    (g94c119L0 FUEL x0 1 x1) := by kernel_rfl

/- multikernel/wire.validMarks -/
def E54 : Env := envG 12 [2] [] [] 0
def A54 : List AP := [.c (.slice 4)]
def R54 : List RSh := [.c (.bool)]
noncomputable def T54 : STree := evFn Tryz.prog E54 Tryz.f54 (argsAt A54 0) 1
noncomputable def P54 : List (FuncId × Fun) := [(117, S117c118), (94, S94c119)]
noncomputable def S54 : Fun := ⟨A54, R54, fun vs => T54.run Tryz.prog P54 A54 R54 (fun _ _ => none) (envL vs)⟩
theorem ok54 : S54.Ok Tryz.prog 54 := fun_ok (Φ := P54) (S := S54) mixed plain_ok Tryz.func54 (by kernel_rfl) (by kernel_rfl) (by kernel_rfl) (T := T54) rfl (And.intro ok117c118 (And.intro ok94c119 trivial)) (fun _ => by kernel_rfl)
noncomputable def g54 (x0 : List (List AV)) : Option (Bool) := S54.g [.l x0]
theorem g54_eq (x0 : List (List AV)) : g54 x0 =
    ((g117c118 x0).bind fun (r1 : Bool) =>
    if (!r1) = true then
      (g94c119 (List.length x0 : Int) x0).bind fun (r2 : Bool × List (List AV)) =>
      some (r2.1)
    else
      some (false)) := by kernel_rfl

/- multikernel/wire.isErr -/
def E86 : Env := envG 9 [2] [] [] 0
def A86 : List AP := [.c (.int .i64)]
def R86 : List RSh := [.c (.bool)]
noncomputable def T86 : STree := evFn Tryz.prog E86 Tryz.f86 (argsAt A86 0) 1
noncomputable def P86 : List (FuncId × Fun) := []
noncomputable def S86 : Fun := ⟨A86, R86, fun vs => T86.run Tryz.prog P86 A86 R86 (fun _ _ => none) (envL vs)⟩
theorem ok86 : S86.Ok Tryz.prog 86 := fun_ok (Φ := P86) (S := S86) mixed plain_ok Tryz.func86 (by kernel_rfl) (by kernel_rfl) (by kernel_rfl) (T := T86) rfl trivial (fun _ => by kernel_rfl)
noncomputable def g86 (x0 : Int) : Option (Bool) := S86.g [.i x0]
theorem g86_eq (x0 : Int) : g86 x0 =
    (if (cop .geq x0 0) = true then
      some ((cop .leq x0 99))
    else
      some (false)) := by kernel_rfl

/- multikernel/wire.validAnswers$1 -/
def E121 : Env := envG 17 [2] [] [] 0
def A121 : List AP := [.agg [.int .i64, .int .i64]]
def R121 : List RSh := [.c (.bool)]
noncomputable def T121 : STree := evFn Tryz.prog E121 Tryz.f121 (argsAt A121 0) 2
noncomputable def P121 : List (FuncId × Fun) := [(86, S86)]
noncomputable def S121 : Fun := ⟨A121, R121, fun vs => T121.run Tryz.prog P121 A121 R121 (fun _ _ => none) (envL vs)⟩
theorem ok121 : S121.Ok Tryz.prog 121 := fun_ok (Φ := P121) (S := S121) mixed plain_ok Tryz.func121 (by kernel_rfl) (by kernel_rfl) (by kernel_rfl) (T := T121) rfl (And.intro ok86 trivial) (fun _ => by kernel_rfl)
noncomputable def g121 (x0 x1 : Int) : Option (Bool) := S121.g [.i x0, .i x1]
theorem g121_eq (x0 x1 : Int) : g121 x0 x1 =
    (if (cop .lss x0 1) = true then
      some (true)
    else
      if (cop .gtr x0 1073741824) = true then
        some (true)
      else
        (g86 x1).bind fun (r2 : Bool) =>
        some ((!r2))) := by kernel_rfl

/- slices.IndexFunc[[]multikernel/api.Answer,multikernel/api.Answer] -/
def E168c121 : Env := envG 19 [4] [(2, [(0, .c (.slice 2)), (1, .clo 121 []), (7, .c (.int .i64)), (8, .c (.int .i64))])] [] 0
def A168c121 : List AP := [.c (.slice 2), .clo 121 []]
def R168c121 : List RSh := [.c (.int .i64)]
noncomputable def T168c121 : STree := evFn Tryz.prog E168c121 Tryz.f168 (argsAt A168c121 0) 1
noncomputable def T168c121L0 : STree := T168c121.go [0]
noncomputable def P168c121 : List (FuncId × Fun) := [(121, S121)]
noncomputable def S168c121 : Fun := ⟨A168c121, R168c121, fun vs => T168c121.run Tryz.prog P168c121 A168c121 R168c121 (fun _ _ => none) (envL vs)⟩
theorem ok168c121 : S168c121.Ok Tryz.prog 168 := fun_ok (Φ := P168c121) (S := S168c121) mixed plain_ok Tryz.func168 (by kernel_rfl) (by kernel_rfl) (by kernel_rfl) (T := T168c121) rfl (And.intro ok121 trivial) (fun _ => by kernel_rfl)
noncomputable def g168c121 (x0 : List (List AV)) : Option (Int) := S168c121.g [.l x0]
noncomputable def g168c121L0 (k : Nat) (x0 : List (List AV)) (x1 x2 : Int) : Option (Int) := iterL (fun rec vs => STree.run Tryz.prog P168c121 A168c121 R168c121 T168c121L0 (updR (fun _ _ => none) 0 rec) (bind zeroE 0 vs)) k [.l x0, .i x1, .i x2]
theorem g168c121L0_eq (k : Nat) (x0 : List (List AV)) (x1 x2 : Int) : g168c121L0 (k + 1) x0 x1 x2 =
    (if (cop .lss x2 x1) = true then
      elemK x0 x2 [.int .i64, .int .i64] fun (r3 : Int × Int) =>
      (g121 r3.1 r3.2).bind fun (r5 : Bool) =>
      if r5 = true then
        some (x2)
      else
        g168c121L0 k x0 x1 (iop .add .i64 x2 1)
    else
      some ((-1))) := by kernel_rfl
theorem g168c121_eq (x0 : List (List AV)) : g168c121 x0 =
    (g168c121L0 FUEL x0 (List.length x0 : Int) 0) := by kernel_rfl

/- slices.ContainsFunc[[]multikernel/api.Answer,multikernel/api.Answer] -/
def E120c121 : Env := envG 9 [4] [] [] 0
def A120c121 : List AP := [.c (.slice 2), .clo 121 []]
def R120c121 : List RSh := [.c (.bool)]
noncomputable def T120c121 : STree := evFn Tryz.prog E120c121 Tryz.f120 (argsAt A120c121 0) 1
noncomputable def P120c121 : List (FuncId × Fun) := [(168, S168c121)]
noncomputable def S120c121 : Fun := ⟨A120c121, R120c121, fun vs => T120c121.run Tryz.prog P120c121 A120c121 R120c121 (fun _ _ => none) (envL vs)⟩
theorem ok120c121 : S120c121.Ok Tryz.prog 120 := fun_ok (Φ := P120c121) (S := S120c121) mixed plain_ok Tryz.func120 (by kernel_rfl) (by kernel_rfl) (by kernel_rfl) (T := T120c121) rfl (And.intro ok168c121 trivial) (fun _ => by kernel_rfl)
noncomputable def g120c121 (x0 : List (List AV)) : Option (Bool) := S120c121.g [.l x0]
theorem g120c121_eq (x0 : List (List AV)) : g120c121 x0 =
    ((g168c121 x0).bind fun (r1 : Int) =>
    some ((cop .geq r1 0))) := by kernel_rfl

/- multikernel/wire.validAnswers$2 -/
def E122 : Env := envG 17 [5] [] [2] 0
def A122 : List AP := [.c (.int .i64), .c (.int .i64), .box [.slice 2]]
def R122 : List RSh := [.c (.bool)]
noncomputable def T122 : STree := evFn Tryz.prog E122 Tryz.f122 (argsAt A122 0) 3
noncomputable def P122 : List (FuncId × Fun) := []
noncomputable def S122 : Fun := ⟨A122, R122, fun vs => T122.run Tryz.prog P122 A122 R122 (fun _ _ => none) (envL vs)⟩
theorem ok122 : S122.Ok Tryz.prog 122 := fun_ok (Φ := P122) (S := S122) mixed plain_ok Tryz.func122 (by kernel_rfl) (by kernel_rfl) (by kernel_rfl) (T := T122) rfl trivial (fun _ => by kernel_rfl)
noncomputable def g122 (x0 x1 : Int) (x2 : List (List AV)) : Option (Bool × List (List AV)) := S122.g [.i x0, .i x1, .l x2]
theorem g122_eq (x0 x1 : Int) (x2 : List (List AV)) : g122 x0 x1 x2 =
    (elemK x2 x0 [.int .i64, .int .i64] fun (r3 : Int × Int) =>
    elemK x2 x1 [.int .i64, .int .i64] fun (r5 : Int × Int) =>
    some ((cop .lss r3.1 r5.1), x2)) := by kernel_rfl

/- multikernel/wire.ascending -/
def E94c122 : Env := envG 17 [4] [(2, [(0, .c (.int .i64)), (1, .clo 122 [17]), (5, .c (.int .i64)), (17, .gbox [.slice 2])])] [] 1
def A94c122 : List AP := [.c (.int .i64), .clo 122 [17], .dead, .dead, .dead, .dead, .dead, .dead, .dead, .dead, .dead, .dead, .dead, .dead, .dead, .dead, .dead, .gbox [.slice 2]]
def R94c122 : List RSh := [.c (.bool)]
noncomputable def T94c122 : STree := evFn Tryz.prog E94c122 Tryz.f94 (argsAt A94c122 0) 2
noncomputable def T94c122L0 : STree := T94c122.go [0]
noncomputable def P94c122 : List (FuncId × Fun) := [(122, S122)]
noncomputable def S94c122 : Fun := ⟨A94c122, R94c122, fun vs => T94c122.run Tryz.prog P94c122 A94c122 R94c122 (fun _ _ => none) (envL vs)⟩
theorem ok94c122 : S94c122.Ok Tryz.prog 94 := fun_ok (Φ := P94c122) (S := S94c122) mixed plain_ok Tryz.func94 (by kernel_rfl) (by kernel_rfl) (by kernel_rfl) (T := T94c122) rfl (And.intro ok122 trivial) (fun _ => by kernel_rfl)
noncomputable def g94c122 (x0 : Int) (x1 : List (List AV)) : Option (Bool × List (List AV)) := S94c122.g [.i x0, .l x1]
noncomputable def g94c122L0 (k : Nat) (x0 x1 : Int) (x2 : List (List AV)) : Option (Bool × List (List AV)) := iterL (fun rec vs => STree.run Tryz.prog P94c122 A94c122 R94c122 T94c122L0 (updR (fun _ _ => none) 0 rec) (bind zeroE 0 vs)) k [.i x0, .i x1, .l x2]
theorem g94c122L0_eq (k : Nat) (x0 x1 : Int) (x2 : List (List AV)) : g94c122L0 (k + 1) x0 x1 x2 =
    (if (cop .lss x1 x0) = true then
      (g122 (iop .sub .i64 x1 1) x1 x2).bind fun (r3 : Bool × List (List AV)) =>
      if (!r3.1) = true then
        some (false, r3.2)
      else
        g94c122L0 k x0 (iop .add .i64 x1 1) r3.2
    else
      some (true, x2)) := by kernel_rfl
theorem g94c122_eq (x0 : Int) (x1 : List (List AV)) : g94c122 x0 x1 =
    (g94c122L0 FUEL x0 1 x1) := by kernel_rfl

/- multikernel/wire.validAnswers -/
def E55 : Env := envG 12 [2] [] [] 0
def A55 : List AP := [.c (.slice 2)]
def R55 : List RSh := [.c (.bool)]
noncomputable def T55 : STree := evFn Tryz.prog E55 Tryz.f55 (argsAt A55 0) 1
noncomputable def P55 : List (FuncId × Fun) := [(120, S120c121), (94, S94c122)]
noncomputable def S55 : Fun := ⟨A55, R55, fun vs => T55.run Tryz.prog P55 A55 R55 (fun _ _ => none) (envL vs)⟩
theorem ok55 : S55.Ok Tryz.prog 55 := fun_ok (Φ := P55) (S := S55) mixed plain_ok Tryz.func55 (by kernel_rfl) (by kernel_rfl) (by kernel_rfl) (T := T55) rfl (And.intro ok120c121 (And.intro ok94c122 trivial)) (fun _ => by kernel_rfl)
noncomputable def g55 (x0 : List (List AV)) : Option (Bool) := S55.g [.l x0]
theorem g55_eq (x0 : List (List AV)) : g55 x0 =
    ((g120c121 x0).bind fun (r1 : Bool) =>
    if (!r1) = true then
      (g94c122 (List.length x0 : Int) x0).bind fun (r2 : Bool × List (List AV)) =>
      some (r2.1)
    else
      some (false)) := by kernel_rfl

/- multikernel/wire.isCore -/
def E32 : Env := envG 9 [2] [] [] 0
def A32 : List AP := [.c (.int .i64)]
def R32 : List RSh := [.c (.bool)]
noncomputable def T32 : STree := evFn Tryz.prog E32 Tryz.f32 (argsAt A32 0) 1
noncomputable def P32 : List (FuncId × Fun) := []
noncomputable def S32 : Fun := ⟨A32, R32, fun vs => T32.run Tryz.prog P32 A32 R32 (fun _ _ => none) (envL vs)⟩
theorem ok32 : S32.Ok Tryz.prog 32 := fun_ok (Φ := P32) (S := S32) mixed plain_ok Tryz.func32 (by kernel_rfl) (by kernel_rfl) (by kernel_rfl) (T := T32) rfl trivial (fun _ => by kernel_rfl)
noncomputable def g32 (x0 : Int) : Option (Bool) := S32.g [.i x0]
theorem g32_eq (x0 : Int) : g32 x0 =
    (if (cop .geq x0 0) = true then
      some ((cop .lss x0 32))
    else
      some (false)) := by kernel_rfl

/- multikernel/wire.isSlot -/
def E89 : Env := envG 9 [2] [] [] 0
def A89 : List AP := [.c (.int .i64)]
def R89 : List RSh := [.c (.bool)]
noncomputable def T89 : STree := evFn Tryz.prog E89 Tryz.f89 (argsAt A89 0) 1
noncomputable def P89 : List (FuncId × Fun) := []
noncomputable def S89 : Fun := ⟨A89, R89, fun vs => T89.run Tryz.prog P89 A89 R89 (fun _ _ => none) (envL vs)⟩
theorem ok89 : S89.Ok Tryz.prog 89 := fun_ok (Φ := P89) (S := S89) mixed plain_ok Tryz.func89 (by kernel_rfl) (by kernel_rfl) (by kernel_rfl) (T := T89) rfl trivial (fun _ => by kernel_rfl)
noncomputable def g89 (x0 : Int) : Option (Bool) := S89.g [.i x0]
theorem g89_eq (x0 : Int) : g89 x0 =
    (if (cop .geq x0 0) = true then
      some ((cop .lss x0 64))
    else
      some (false)) := by kernel_rfl

/- multikernel/wire.validEntries$1 -/
def E124 : Env := envG 19 [2] [] [] 0
def A124 : List AP := [.agg hs8]
def R124 : List RSh := [.c (.bool)]
noncomputable def T124 : STree := evFn Tryz.prog E124 Tryz.f124 (argsAt A124 0) 13
noncomputable def P124 : List (FuncId × Fun) := [(32, S32), (89, S89), (50, S50)]
noncomputable def S124 : Fun := ⟨A124, R124, fun vs => T124.run Tryz.prog P124 A124 R124 (fun _ _ => none) (envL vs)⟩
theorem ok124 : S124.Ok Tryz.prog 124 := fun_ok (Φ := P124) (S := S124) mixed plain_ok Tryz.func124 (by kernel_rfl) (by kernel_rfl) (by kernel_rfl) (T := T124) rfl (And.intro ok32 (And.intro ok89 (And.intro ok50 trivial))) (fun _ => by kernel_rfl)
noncomputable def g124 (x0 x1 x2 x3 x4 : Int) (x5 : List (List AV)) (x6 x7 x8 x9 x10 x11 : Int) (x12 : Bool) : Option (Bool) := S124.g [.i x0, .i x1, .i x2, .i x3, .i x4, .l x5, .i x6, .i x7, .i x8, .i x9, .i x10, .i x11, .b x12]
theorem g124_eq (x0 x1 x2 x3 x4 : Int) (x5 : List (List AV)) (x6 x7 x8 x9 x10 x11 : Int) (x12 : Bool) : g124 x0 x1 x2 x3 x4 x5 x6 x7 x8 x9 x10 x11 x12 =
    ((g32 x0).bind fun (r13 : Bool) =>
    if (!r13) = true then
      some (true)
    else
      (g89 x1).bind fun (r14 : Bool) =>
      if (!r14) = true then
        some (true)
      else
        (g50 x2 x3 x4 x5 x6 x7 x8 x9 x10 x11 x12).bind fun (r15 : Bool) =>
        some ((!r15))) := by kernel_rfl

/- slices.IndexFunc[[]multikernel/api.Entry,multikernel/api.Entry] -/
def E169c124 : Env := envG 19 [4] [(2, [(0, .c (.slice 13)), (1, .clo 124 []), (7, .c (.int .i64)), (8, .c (.int .i64))])] [] 0
def A169c124 : List AP := [.c (.slice 13), .clo 124 []]
def R169c124 : List RSh := [.c (.int .i64)]
noncomputable def T169c124 : STree := evFn Tryz.prog E169c124 Tryz.f169 (argsAt A169c124 0) 1
noncomputable def T169c124L0 : STree := T169c124.go [0]
noncomputable def P169c124 : List (FuncId × Fun) := [(124, S124)]
noncomputable def S169c124 : Fun := ⟨A169c124, R169c124, fun vs => T169c124.run Tryz.prog P169c124 A169c124 R169c124 (fun _ _ => none) (envL vs)⟩
theorem ok169c124 : S169c124.Ok Tryz.prog 169 := fun_ok (Φ := P169c124) (S := S169c124) mixed plain_ok Tryz.func169 (by kernel_rfl) (by kernel_rfl) (by kernel_rfl) (T := T169c124) rfl (And.intro ok124 trivial) (fun _ => by kernel_rfl)
noncomputable def g169c124 (x0 : List (List AV)) : Option (Int) := S169c124.g [.l x0]
noncomputable def g169c124L0 (k : Nat) (x0 : List (List AV)) (x1 x2 : Int) : Option (Int) := iterL (fun rec vs => STree.run Tryz.prog P169c124 A169c124 R169c124 T169c124L0 (updR (fun _ _ => none) 0 rec) (bind zeroE 0 vs)) k [.l x0, .i x1, .i x2]
theorem g169c124L0_eq (k : Nat) (x0 : List (List AV)) (x1 x2 : Int) : g169c124L0 (k + 1) x0 x1 x2 =
    (if (cop .lss x2 x1) = true then
      elemK x0 x2 hs8 fun (r3 : Qt12) =>
      (g124 r3.1 r3.2.1 r3.2.2.1 r3.2.2.2.1 r3.2.2.2.2.1 r3.2.2.2.2.2.1 r3.2.2.2.2.2.2.1 r3.2.2.2.2.2.2.2.1 r3.2.2.2.2.2.2.2.2.1 r3.2.2.2.2.2.2.2.2.2.1 r3.2.2.2.2.2.2.2.2.2.2.1 r3.2.2.2.2.2.2.2.2.2.2.2.1 (d4 (d8 r3))).bind fun (r16 : Bool) =>
      if r16 = true then
        some (x2)
      else
        g169c124L0 k x0 x1 (iop .add .i64 x2 1)
    else
      some ((-1))) := by kernel_rfl
theorem g169c124_eq (x0 : List (List AV)) : g169c124 x0 =
    (g169c124L0 FUEL x0 (List.length x0 : Int) 0) := by kernel_rfl

/- slices.ContainsFunc[[]multikernel/api.Entry,multikernel/api.Entry] -/
def E123c124 : Env := envG 9 [4] [] [] 0
def A123c124 : List AP := [.c (.slice 13), .clo 124 []]
def R123c124 : List RSh := [.c (.bool)]
noncomputable def T123c124 : STree := evFn Tryz.prog E123c124 Tryz.f123 (argsAt A123c124 0) 1
noncomputable def P123c124 : List (FuncId × Fun) := [(169, S169c124)]
noncomputable def S123c124 : Fun := ⟨A123c124, R123c124, fun vs => T123c124.run Tryz.prog P123c124 A123c124 R123c124 (fun _ _ => none) (envL vs)⟩
theorem ok123c124 : S123c124.Ok Tryz.prog 123 := fun_ok (Φ := P123c124) (S := S123c124) mixed plain_ok Tryz.func123 (by kernel_rfl) (by kernel_rfl) (by kernel_rfl) (T := T123c124) rfl (And.intro ok169c124 trivial) (fun _ => by kernel_rfl)
noncomputable def g123c124 (x0 : List (List AV)) : Option (Bool) := S123c124.g [.l x0]
theorem g123c124_eq (x0 : List (List AV)) : g123c124 x0 =
    ((g169c124 x0).bind fun (r1 : Int) =>
    some ((cop .geq r1 0))) := by kernel_rfl

/- multikernel/wire.validEntries$2 -/
def E125 : Env := envG 19 [5] [] [2] 0
def A125 : List AP := [.c (.int .i64), .c (.int .i64), .box [.slice 13]]
def R125 : List RSh := [.c (.bool)]
noncomputable def T125 : STree := evFn Tryz.prog E125 Tryz.f125 (argsAt A125 0) 3
noncomputable def P125 : List (FuncId × Fun) := [(116, S116)]
noncomputable def S125 : Fun := ⟨A125, R125, fun vs => T125.run Tryz.prog P125 A125 R125 (fun _ _ => none) (envL vs)⟩
theorem ok125 : S125.Ok Tryz.prog 125 := fun_ok (Φ := P125) (S := S125) mixed plain_ok Tryz.func125 (by kernel_rfl) (by kernel_rfl) (by kernel_rfl) (T := T125) rfl (And.intro ok116 trivial) (fun _ => by kernel_rfl)
noncomputable def g125 (x0 x1 : Int) (x2 : List (List AV)) : Option (Bool × List (List AV)) := S125.g [.i x0, .i x1, .l x2]
theorem g125_eq (x0 x1 : Int) (x2 : List (List AV)) : g125 x0 x1 x2 =
    (elemK x2 x0 hs8 fun (r3 : Qt12) =>
    elemK x2 x1 hs8 fun (r16 : Qt12) =>
    (g116 r3.2.2.1 r3.2.2.2.1 r3.2.2.2.2.1 r16.2.2.1 r16.2.2.2.1 r16.2.2.2.2.1).bind fun (r29 : Bool) =>
    some (r29, x2)) := by kernel_rfl

/- multikernel/wire.ascending -/
def E94c125 : Env := envG 17 [4] [(2, [(0, .c (.int .i64)), (1, .clo 125 [17]), (5, .c (.int .i64)), (17, .gbox [.slice 13])])] [] 1
def A94c125 : List AP := [.c (.int .i64), .clo 125 [17], .dead, .dead, .dead, .dead, .dead, .dead, .dead, .dead, .dead, .dead, .dead, .dead, .dead, .dead, .dead, .gbox [.slice 13]]
def R94c125 : List RSh := [.c (.bool)]
noncomputable def T94c125 : STree := evFn Tryz.prog E94c125 Tryz.f94 (argsAt A94c125 0) 2
noncomputable def T94c125L0 : STree := T94c125.go [0]
noncomputable def P94c125 : List (FuncId × Fun) := [(125, S125)]
noncomputable def S94c125 : Fun := ⟨A94c125, R94c125, fun vs => T94c125.run Tryz.prog P94c125 A94c125 R94c125 (fun _ _ => none) (envL vs)⟩
theorem ok94c125 : S94c125.Ok Tryz.prog 94 := fun_ok (Φ := P94c125) (S := S94c125) mixed plain_ok Tryz.func94 (by kernel_rfl) (by kernel_rfl) (by kernel_rfl) (T := T94c125) rfl (And.intro ok125 trivial) (fun _ => by kernel_rfl)
noncomputable def g94c125 (x0 : Int) (x1 : List (List AV)) : Option (Bool × List (List AV)) := S94c125.g [.i x0, .l x1]
noncomputable def g94c125L0 (k : Nat) (x0 x1 : Int) (x2 : List (List AV)) : Option (Bool × List (List AV)) := iterL (fun rec vs => STree.run Tryz.prog P94c125 A94c125 R94c125 T94c125L0 (updR (fun _ _ => none) 0 rec) (bind zeroE 0 vs)) k [.i x0, .i x1, .l x2]
theorem g94c125L0_eq (k : Nat) (x0 x1 : Int) (x2 : List (List AV)) : g94c125L0 (k + 1) x0 x1 x2 =
    (if (cop .lss x1 x0) = true then
      (g125 (iop .sub .i64 x1 1) x1 x2).bind fun (r3 : Bool × List (List AV)) =>
      if (!r3.1) = true then
        some (false, r3.2)
      else
        g94c125L0 k x0 (iop .add .i64 x1 1) r3.2
    else
      some (true, x2)) := by kernel_rfl
theorem g94c125_eq (x0 : Int) (x1 : List (List AV)) : g94c125 x0 x1 =
    (g94c125L0 FUEL x0 1 x1) := by kernel_rfl

/- multikernel/wire.validEntries -/
def E56 : Env := envG 12 [2] [] [] 0
def A56 : List AP := [.c (.slice 13)]
def R56 : List RSh := [.c (.bool)]
noncomputable def T56 : STree := evFn Tryz.prog E56 Tryz.f56 (argsAt A56 0) 1
noncomputable def P56 : List (FuncId × Fun) := [(123, S123c124), (94, S94c125)]
noncomputable def S56 : Fun := ⟨A56, R56, fun vs => T56.run Tryz.prog P56 A56 R56 (fun _ _ => none) (envL vs)⟩
theorem ok56 : S56.Ok Tryz.prog 56 := fun_ok (Φ := P56) (S := S56) mixed plain_ok Tryz.func56 (by kernel_rfl) (by kernel_rfl) (by kernel_rfl) (T := T56) rfl (And.intro ok123c124 (And.intro ok94c125 trivial)) (fun _ => by kernel_rfl)
noncomputable def g56 (x0 : List (List AV)) : Option (Bool) := S56.g [.l x0]
theorem g56_eq (x0 : List (List AV)) : g56 x0 =
    ((g123c124 x0).bind fun (r1 : Bool) =>
    if (!r1) = true then
      (g94c125 (List.length x0 : Int) x0).bind fun (r2 : Bool × List (List AV)) =>
      some (r2.1)
    else
      some (false)) := by kernel_rfl

/- multikernel/wire.ValidState$1 -/
def E58 : Env := envG 6 [2] [] [] 0
def A58 : List AP := [.agg [.int .i64, .int .i64, .int .i64]]
def R58 : List RSh := [.c (.bool)]
noncomputable def T58 : STree := evFn Tryz.prog E58 Tryz.f58 (argsAt A58 0) 3
noncomputable def P58 : List (FuncId × Fun) := [(47, S47)]
noncomputable def S58 : Fun := ⟨A58, R58, fun vs => T58.run Tryz.prog P58 A58 R58 (fun _ _ => none) (envL vs)⟩
theorem ok58 : S58.Ok Tryz.prog 58 := fun_ok (Φ := P58) (S := S58) mixed plain_ok Tryz.func58 (by kernel_rfl) (by kernel_rfl) (by kernel_rfl) (T := T58) rfl (And.intro ok47 trivial) (fun _ => by kernel_rfl)
noncomputable def g58 (x0 x1 x2 : Int) : Option (Bool) := S58.g [.i x0, .i x1, .i x2]
theorem g58_eq (x0 x1 x2 : Int) : g58 x0 x1 x2 =
    ((g47 x0 x1 x2).bind fun (r3 : Bool) =>
    some ((!r3))) := by kernel_rfl

/- slices.IndexFunc[[]multikernel/api.Id,multikernel/api.Id] -/
def E126c58 : Env := envG 19 [4] [(2, [(0, .c (.slice 3)), (1, .clo 58 []), (7, .c (.int .i64)), (8, .c (.int .i64))])] [] 0
def A126c58 : List AP := [.c (.slice 3), .clo 58 []]
def R126c58 : List RSh := [.c (.int .i64)]
noncomputable def T126c58 : STree := evFn Tryz.prog E126c58 Tryz.f126 (argsAt A126c58 0) 1
noncomputable def T126c58L0 : STree := T126c58.go [0]
noncomputable def P126c58 : List (FuncId × Fun) := [(58, S58)]
noncomputable def S126c58 : Fun := ⟨A126c58, R126c58, fun vs => T126c58.run Tryz.prog P126c58 A126c58 R126c58 (fun _ _ => none) (envL vs)⟩
theorem ok126c58 : S126c58.Ok Tryz.prog 126 := fun_ok (Φ := P126c58) (S := S126c58) mixed plain_ok Tryz.func126 (by kernel_rfl) (by kernel_rfl) (by kernel_rfl) (T := T126c58) rfl (And.intro ok58 trivial) (fun _ => by kernel_rfl)
noncomputable def g126c58 (x0 : List (List AV)) : Option (Int) := S126c58.g [.l x0]
noncomputable def g126c58L0 (k : Nat) (x0 : List (List AV)) (x1 x2 : Int) : Option (Int) := iterL (fun rec vs => STree.run Tryz.prog P126c58 A126c58 R126c58 T126c58L0 (updR (fun _ _ => none) 0 rec) (bind zeroE 0 vs)) k [.l x0, .i x1, .i x2]
theorem g126c58L0_eq (k : Nat) (x0 : List (List AV)) (x1 x2 : Int) : g126c58L0 (k + 1) x0 x1 x2 =
    (if (cop .lss x2 x1) = true then
      elemK x0 x2 [.int .i64, .int .i64, .int .i64] fun (r3 : Int × Int × Int) =>
      (g58 r3.1 r3.2.1 r3.2.2).bind fun (r6 : Bool) =>
      if r6 = true then
        some (x2)
      else
        g126c58L0 k x0 x1 (iop .add .i64 x2 1)
    else
      some ((-1))) := by kernel_rfl
theorem g126c58_eq (x0 : List (List AV)) : g126c58 x0 =
    (g126c58L0 FUEL x0 (List.length x0 : Int) 0) := by kernel_rfl

/- slices.ContainsFunc[[]multikernel/api.Id,multikernel/api.Id] -/
def E57c58 : Env := envG 9 [4] [] [] 0
def A57c58 : List AP := [.c (.slice 3), .clo 58 []]
def R57c58 : List RSh := [.c (.bool)]
noncomputable def T57c58 : STree := evFn Tryz.prog E57c58 Tryz.f57 (argsAt A57c58 0) 1
noncomputable def P57c58 : List (FuncId × Fun) := [(126, S126c58)]
noncomputable def S57c58 : Fun := ⟨A57c58, R57c58, fun vs => T57c58.run Tryz.prog P57c58 A57c58 R57c58 (fun _ _ => none) (envL vs)⟩
theorem ok57c58 : S57c58.Ok Tryz.prog 57 := fun_ok (Φ := P57c58) (S := S57c58) mixed plain_ok Tryz.func57 (by kernel_rfl) (by kernel_rfl) (by kernel_rfl) (T := T57c58) rfl (And.intro ok126c58 trivial) (fun _ => by kernel_rfl)
noncomputable def g57c58 (x0 : List (List AV)) : Option (Bool) := S57c58.g [.l x0]
theorem g57c58_eq (x0 : List (List AV)) : g57c58 x0 =
    ((g126c58 x0).bind fun (r1 : Int) =>
    some ((cop .geq r1 0))) := by kernel_rfl

/- multikernel/wire.ValidState -/
def E14 : Env := envG 32 [2] [] [] 0
def A14 : List AP := [.agg hs15]
def R14 : List RSh := [.c (.bool)]
noncomputable def T14 : STree := evFn Tryz.prog E14 Tryz.f14 (argsAt A14 0) 6
noncomputable def P14 : List (FuncId × Fun) := [(52, S52), (53, S53), (54, S54), (55, S55), (56, S56), (57, S57c58)]
noncomputable def S14 : Fun := ⟨A14, R14, fun vs => T14.run Tryz.prog P14 A14 R14 (fun _ _ => none) (envL vs)⟩
theorem ok14 : S14.Ok Tryz.prog 14 := fun_ok (Φ := P14) (S := S14) mixed plain_ok Tryz.func14 (by kernel_rfl) (by kernel_rfl) (by kernel_rfl) (T := T14) rfl (And.intro ok52 (And.intro ok53 (And.intro ok54 (And.intro ok55 (And.intro ok56 (And.intro ok57c58 trivial)))))) (fun _ => by kernel_rfl)
noncomputable def g14 (x0 x1 x2 x3 x4 x5 : List (List AV)) : Option (Bool) := S14.g [.l x0, .l x1, .l x2, .l x3, .l x4, .l x5]
theorem g14_eq (x0 x1 x2 x3 x4 x5 : List (List AV)) : g14 x0 x1 x2 x3 x4 x5 =
    ((g52 x0).bind fun (r6 : Bool) =>
    if r6 = true then
      (g53 x1).bind fun (r7 : Bool) =>
      if r7 = true then
        (g54 x2).bind fun (r8 : Bool) =>
        if r8 = true then
          (g55 x3).bind fun (r9 : Bool) =>
          if r9 = true then
            (g56 x4).bind fun (r10 : Bool) =>
            if r10 = true then
              (g57c58 x5).bind fun (r11 : Bool) =>
              some ((!r11))
            else
              some (false)
          else
            some (false)
        else
          some (false)
      else
        some (false)
    else
      some (false)) := by kernel_rfl

/- multikernel/multikernelref10.Empty -/
def E127 : Env := envG 8 [2] [] [] 0
def A127 : List AP := [.agg hs7]
def R127 : List RSh := [.c (.bool)]
noncomputable def T127 : STree := evFn Tryz.prog E127 Tryz.f127 (argsAt A127 0) 15
noncomputable def P127 : List (FuncId × Fun) := []
noncomputable def S127 : Fun := ⟨A127, R127, fun vs => T127.run Tryz.prog P127 A127 R127 (fun _ _ => none) (envL vs)⟩
theorem ok127 : S127.Ok Tryz.prog 127 := fun_ok (Φ := P127) (S := S127) mixed plain_ok Tryz.func127 (by kernel_rfl) (by kernel_rfl) (by kernel_rfl) (T := T127) rfl trivial (fun _ => by kernel_rfl)
noncomputable def g127 (x0 x1 x2 : Int) (x3 : List (List AV)) (x4 x5 x6 x7 x8 x9 : Int) (x10 : Bool) (x11 x12 x13 x14 : Int) : Option (Bool) := S127.g [.i x0, .i x1, .i x2, .l x3, .i x4, .i x5, .i x6, .i x7, .i x8, .i x9, .b x10, .i x11, .i x12, .i x13, .i x14]
theorem g127_eq (x0 x1 x2 : Int) (x3 : List (List AV)) (x4 x5 x6 x7 x8 x9 : Int) (x10 : Bool) (x11 x12 x13 x14 : Int) : g127 x0 x1 x2 x3 x4 x5 x6 x7 x8 x9 x10 x11 x12 x13 x14 =
    (some (((cop .eql x0 0) && ((cop .eql x1 0) && ((cop .eql x2 0) && true))))) := by kernel_rfl

/- multikernel/multikernelref10.FindSlot -/
def E128 : Env := envG 29 [4] [(2, [(0, .c (.slice 15)), (3, .box [.int .i64, .int .i64, .int .i64]), (5, .c (.int .i64))])] [] 0
def A128 : List AP := [.c (.slice 15), .agg [.int .i64, .int .i64, .int .i64]]
def R128 : List RSh := [.c (.int .i64)]
noncomputable def T128 : STree := evFn Tryz.prog E128 Tryz.f128 (argsAt A128 0) 4
noncomputable def T128L0 : STree := T128.go [0]
noncomputable def P128 : List (FuncId × Fun) := [(127, S127)]
noncomputable def S128 : Fun := ⟨A128, R128, fun vs => T128.run Tryz.prog P128 A128 R128 (fun _ _ => none) (envL vs)⟩
theorem ok128 : S128.Ok Tryz.prog 128 := fun_ok (Φ := P128) (S := S128) mixed plain_ok Tryz.func128 (by kernel_rfl) (by kernel_rfl) (by kernel_rfl) (T := T128) rfl (And.intro ok127 trivial) (fun _ => by kernel_rfl)
noncomputable def g128 (x0 : List (List AV)) (x1 x2 x3 : Int) : Option (Int) := S128.g [.l x0, .i x1, .i x2, .i x3]
noncomputable def g128L0 (k : Nat) (x0 : List (List AV)) (x1 x2 x3 x4 : Int) : Option (Int) := iterL (fun rec vs => STree.run Tryz.prog P128 A128 R128 T128L0 (updR (fun _ _ => none) 0 rec) (bind zeroE 0 vs)) k [.l x0, .i x1, .i x2, .i x3, .i x4]
theorem g128L0_eq (k : Nat) (x0 : List (List AV)) (x1 x2 x3 x4 : Int) : g128L0 (k + 1) x0 x1 x2 x3 x4 =
    (if (cop .lss x4 (List.length x0 : Int)) = true then
      elemK x0 x4 hs7 fun (r5 : Qt11) =>
      (g127 r5.1 r5.2.1 r5.2.2.1 r5.2.2.2.1 r5.2.2.2.2.1 r5.2.2.2.2.2.1 r5.2.2.2.2.2.2.1 r5.2.2.2.2.2.2.2.1 r5.2.2.2.2.2.2.2.2.1 r5.2.2.2.2.2.2.2.2.2.1 r5.2.2.2.2.2.2.2.2.2.2.1 r5.2.2.2.2.2.2.2.2.2.2.2.1 (d4 (d8 r5)).1 (d4 (d8 r5)).2.1 (d2 (d4 (d8 r5)))).bind fun (r20 : Bool) =>
      if (!r20) = true then
        elemK x0 x4 hs7 fun (r21 : Qt11) =>
        if ((cop .eql r21.1 x1) && ((cop .eql r21.2.1 x2) && ((cop .eql r21.2.2.1 x3) && true))) = true then
          some (x4)
        else
          g128L0 k x0 x1 x2 x3 (iop .add .i64 x4 1)
      else
        g128L0 k x0 x1 x2 x3 (iop .add .i64 x4 1)
    else
      some ((-1))) := by kernel_rfl
theorem g128_eq (x0 : List (List AV)) (x1 x2 x3 : Int) : g128 x0 x1 x2 x3 =
    (g128L0 FUEL x0 x1 x2 x3 0) := by kernel_rfl

/- multikernel/multikernelref10.ValidSlots -/
def E59 : Env := envG 70 [2] [(4, [(0, .c (.slice 15)), (3, .c (.int .i64))])] [] 0
def A59 : List AP := [.c (.slice 15)]
def R59 : List RSh := [.c (.bool)]
noncomputable def T59 : STree := evFn Tryz.prog E59 Tryz.f59 (argsAt A59 0) 1
noncomputable def T59L0 : STree := T59.go [1, 0]
noncomputable def P59 : List (FuncId × Fun) := [(104, S104), (127, S127), (51, S51), (45, S45), (128, S128)]
noncomputable def S59 : Fun := ⟨A59, R59, fun vs => T59.run Tryz.prog P59 A59 R59 (fun _ _ => none) (envL vs)⟩
theorem ok59 : S59.Ok Tryz.prog 59 := fun_ok (Φ := P59) (S := S59) mixed plain_ok Tryz.func59 (by kernel_rfl) (by kernel_rfl) (by kernel_rfl) (T := T59) rfl (And.intro ok104 (And.intro ok127 (And.intro ok51 (And.intro ok45 (And.intro ok128 trivial))))) (fun _ => by kernel_rfl)
noncomputable def g59 (x0 : List (List AV)) : Option (Bool) := S59.g [.l x0]
noncomputable def g59L0 (k : Nat) (x0 : List (List AV)) (x1 : Int) : Option (Bool) := iterL (fun rec vs => STree.run Tryz.prog P59 A59 R59 T59L0 (updR (fun _ _ => none) 0 rec) (bind zeroE 0 vs)) k [.l x0, .i x1]
theorem g59L0_eq (k : Nat) (x0 : List (List AV)) (x1 : Int) : g59L0 (k + 1) x0 x1 =
    (if (cop .lss x1 (List.length x0 : Int)) = true then
      elemK x0 x1 hs7 fun (r2 : Qt11) =>
      if (cop .lss r2.2.2.2.2.2.2.2.2.2.2.2.1 0) = true then
        some (false)
      else
        if (cop .gtr r2.2.2.2.2.2.2.2.2.2.2.2.1 1073741824) = true then
          some (false)
        else
          if (!((cop .eql (d4 (d8 r2)).1 0) && ((cop .eql (d4 (d8 r2)).2.1 0) && ((cop .eql (d2 (d4 (d8 r2))) 0) && true)))) = true then
            (g104 (d4 (d8 r2)).1 (d4 (d8 r2)).2.1 (d2 (d4 (d8 r2)))).bind fun (r17 : Bool) =>
            if (!r17) = true then
              some (false)
            else
              if (cop .neq (d2 (d4 (d8 r2))) 0) = true then
                some (false)
              else
                (g127 r2.1 r2.2.1 r2.2.2.1 r2.2.2.2.1 r2.2.2.2.2.1 r2.2.2.2.2.2.1 r2.2.2.2.2.2.2.1 r2.2.2.2.2.2.2.2.1 r2.2.2.2.2.2.2.2.2.1 r2.2.2.2.2.2.2.2.2.2.1 r2.2.2.2.2.2.2.2.2.2.2.1 r2.2.2.2.2.2.2.2.2.2.2.2.1 (d4 (d8 r2)).1 (d4 (d8 r2)).2.1 (d2 (d4 (d8 r2)))).bind fun (r18 : Bool) =>
                if r18 = true then
                  (g51 r2.1 r2.2.1 r2.2.2.1 r2.2.2.2.1 r2.2.2.2.2.1 r2.2.2.2.2.2.1 r2.2.2.2.2.2.2.1 r2.2.2.2.2.2.2.2.1 r2.2.2.2.2.2.2.2.2.1 r2.2.2.2.2.2.2.2.2.2.1 r2.2.2.2.2.2.2.2.2.2.2.1 0 0 0 ([] : List (List AV)) 0 0 0 0 0 0 false).bind fun (r19 : Bool) =>
                  if (!r19) = true then
                    some (false)
                  else
                    if (!((cop .eql (d4 (d8 r2)).1 0) && ((cop .eql (d4 (d8 r2)).2.1 0) && ((cop .eql (d2 (d4 (d8 r2))) 0) && true)))) = true then
                      some (false)
                    else
                      g59L0 k x0 (iop .add .i64 x1 1)
                else
                  (g45 r2.1 r2.2.1 r2.2.2.1 r2.2.2.2.1 r2.2.2.2.2.1 r2.2.2.2.2.2.1 r2.2.2.2.2.2.2.1 r2.2.2.2.2.2.2.2.1 r2.2.2.2.2.2.2.2.2.1 r2.2.2.2.2.2.2.2.2.2.1 r2.2.2.2.2.2.2.2.2.2.2.1).bind fun (r19 : Bool) =>
                  if (!r19) = true then
                    some (false)
                  else
                    (g128 x0 r2.1 r2.2.1 r2.2.2.1).bind fun (r20 : Int) =>
                    if (cop .neq r20 x1) = true then
                      some (false)
                    else
                      g59L0 k x0 (iop .add .i64 x1 1)
          else
            (g127 r2.1 r2.2.1 r2.2.2.1 r2.2.2.2.1 r2.2.2.2.2.1 r2.2.2.2.2.2.1 r2.2.2.2.2.2.2.1 r2.2.2.2.2.2.2.2.1 r2.2.2.2.2.2.2.2.2.1 r2.2.2.2.2.2.2.2.2.2.1 r2.2.2.2.2.2.2.2.2.2.2.1 r2.2.2.2.2.2.2.2.2.2.2.2.1 (d4 (d8 r2)).1 (d4 (d8 r2)).2.1 (d2 (d4 (d8 r2)))).bind fun (r17 : Bool) =>
            if r17 = true then
              (g51 r2.1 r2.2.1 r2.2.2.1 r2.2.2.2.1 r2.2.2.2.2.1 r2.2.2.2.2.2.1 r2.2.2.2.2.2.2.1 r2.2.2.2.2.2.2.2.1 r2.2.2.2.2.2.2.2.2.1 r2.2.2.2.2.2.2.2.2.2.1 r2.2.2.2.2.2.2.2.2.2.2.1 0 0 0 ([] : List (List AV)) 0 0 0 0 0 0 false).bind fun (r18 : Bool) =>
              if (!r18) = true then
                some (false)
              else
                if (!((cop .eql (d4 (d8 r2)).1 0) && ((cop .eql (d4 (d8 r2)).2.1 0) && ((cop .eql (d2 (d4 (d8 r2))) 0) && true)))) = true then
                  some (false)
                else
                  g59L0 k x0 (iop .add .i64 x1 1)
            else
              (g45 r2.1 r2.2.1 r2.2.2.1 r2.2.2.2.1 r2.2.2.2.2.1 r2.2.2.2.2.2.1 r2.2.2.2.2.2.2.1 r2.2.2.2.2.2.2.2.1 r2.2.2.2.2.2.2.2.2.1 r2.2.2.2.2.2.2.2.2.2.1 r2.2.2.2.2.2.2.2.2.2.2.1).bind fun (r18 : Bool) =>
              if (!r18) = true then
                some (false)
              else
                (g128 x0 r2.1 r2.2.1 r2.2.2.1).bind fun (r19 : Int) =>
                if (cop .neq r19 x1) = true then
                  some (false)
                else
                  g59L0 k x0 (iop .add .i64 x1 1)
    else
      some (true)) := by kernel_rfl
theorem g59_eq (x0 : List (List AV)) : g59 x0 =
    (if (cop .gtr (List.length x0 : Int) 64) = true then
      some (false)
    else
      g59L0 FUEL x0 0) := by kernel_rfl

/- multikernel/multikernelref18.ids -/
def E40 : Env := envG 29 [4] [(2, [(0, .c (.slice 3)), (1, .c (.bool)), (5, .c (.int .i64))])] [] 0
def A40 : List AP := [.c (.slice 3), .c (.bool)]
def R40 : List RSh := [.c (.bool)]
noncomputable def T40 : STree := evFn Tryz.prog E40 Tryz.f40 (argsAt A40 0) 2
noncomputable def T40L0 : STree := T40.go [0]
noncomputable def P40 : List (FuncId × Fun) := [(104, S104)]
noncomputable def S40 : Fun := ⟨A40, R40, fun vs => T40.run Tryz.prog P40 A40 R40 (fun _ _ => none) (envL vs)⟩
theorem ok40 : S40.Ok Tryz.prog 40 := fun_ok (Φ := P40) (S := S40) mixed plain_ok Tryz.func40 (by kernel_rfl) (by kernel_rfl) (by kernel_rfl) (T := T40) rfl (And.intro ok104 trivial) (fun _ => by kernel_rfl)
noncomputable def g40 (x0 : List (List AV)) (x1 : Bool) : Option (Bool) := S40.g [.l x0, .b x1]
noncomputable def g40L0 (k : Nat) (x0 : List (List AV)) (x1 : Bool) (x2 : Int) : Option (Bool) := iterL (fun rec vs => STree.run Tryz.prog P40 A40 R40 T40L0 (updR (fun _ _ => none) 0 rec) (bind zeroE 0 vs)) k [.l x0, .b x1, .i x2]
theorem g40L0_eq (k : Nat) (x0 : List (List AV)) (x1 : Bool) (x2 : Int) : g40L0 (k + 1) x0 x1 x2 =
    (if (cop .lss x2 (List.length x0 : Int)) = true then
      elemK x0 x2 [.int .i64, .int .i64, .int .i64] fun (r3 : Int × Int × Int) =>
      (g104 r3.1 r3.2.1 r3.2.2).bind fun (r6 : Bool) =>
      if (!r6) = true then
        some (false)
      else
        if x1 = true then
          elemK x0 x2 [.int .i64, .int .i64, .int .i64] fun (r7 : Int × Int × Int) =>
          if (cop .neq r7.2.2 0) = true then
            some (false)
          else
            g40L0 k x0 x1 (iop .add .i64 x2 1)
        else
          g40L0 k x0 x1 (iop .add .i64 x2 1)
    else
      some (true)) := by kernel_rfl
theorem g40_eq (x0 : List (List AV)) (x1 : Bool) : g40 x0 x1 =
    (g40L0 FUEL x0 x1 0) := by kernel_rfl

/- multikernel/multikernelref10.Less -/
def E60 : Env := envG 30 [4] [] [] 0
def A60 : List AP := [.agg [.int .i64, .int .i64, .int .i64], .agg [.int .i64, .int .i64, .int .i64]]
def R60 : List RSh := [.c (.bool)]
noncomputable def T60 : STree := evFn Tryz.prog E60 Tryz.f60 (argsAt A60 0) 6
noncomputable def P60 : List (FuncId × Fun) := []
noncomputable def S60 : Fun := ⟨A60, R60, fun vs => T60.run Tryz.prog P60 A60 R60 (fun _ _ => none) (envL vs)⟩
theorem ok60 : S60.Ok Tryz.prog 60 := fun_ok (Φ := P60) (S := S60) mixed plain_ok Tryz.func60 (by kernel_rfl) (by kernel_rfl) (by kernel_rfl) (T := T60) rfl trivial (fun _ => by kernel_rfl)
noncomputable def g60 (x0 x1 x2 x3 x4 x5 : Int) : Option (Bool) := S60.g [.i x0, .i x1, .i x2, .i x3, .i x4, .i x5]
theorem g60_eq (x0 x1 x2 x3 x4 x5 : Int) : g60 x0 x1 x2 x3 x4 x5 =
    (if (cop .neq x0 x3) = true then
      some ((cop .lss x0 x3))
    else
      if (cop .neq x1 x4) = true then
        some ((cop .lss x1 x4))
      else
        some ((cop .lss x2 x5))) := by kernel_rfl

/- multikernel/multikernelref18.failure -/
def E39 : Env := envG 9 [2] [] [] 0
def A39 : List AP := [.c (.int .i64)]
def R39 : List RSh := [.c (.bool)]
noncomputable def T39 : STree := evFn Tryz.prog E39 Tryz.f39 (argsAt A39 0) 1
noncomputable def P39 : List (FuncId × Fun) := []
noncomputable def S39 : Fun := ⟨A39, R39, fun vs => T39.run Tryz.prog P39 A39 R39 (fun _ _ => none) (envL vs)⟩
theorem ok39 : S39.Ok Tryz.prog 39 := fun_ok (Φ := P39) (S := S39) mixed plain_ok Tryz.func39 (by kernel_rfl) (by kernel_rfl) (by kernel_rfl) (T := T39) rfl trivial (fun _ => by kernel_rfl)
noncomputable def g39 (x0 : Int) : Option (Bool) := S39.g [.i x0]
theorem g39_eq (x0 : Int) : g39 x0 =
    (if (cop .geq x0 0) = true then
      some ((cop .leq x0 99))
    else
      some (false)) := by kernel_rfl

/- multikernel/multikernelref18.core -/
def E37 : Env := envG 9 [2] [] [] 0
def A37 : List AP := [.c (.int .i64)]
def R37 : List RSh := [.c (.bool)]
noncomputable def T37 : STree := evFn Tryz.prog E37 Tryz.f37 (argsAt A37 0) 1
noncomputable def P37 : List (FuncId × Fun) := []
noncomputable def S37 : Fun := ⟨A37, R37, fun vs => T37.run Tryz.prog P37 A37 R37 (fun _ _ => none) (envL vs)⟩
theorem ok37 : S37.Ok Tryz.prog 37 := fun_ok (Φ := P37) (S := S37) mixed plain_ok Tryz.func37 (by kernel_rfl) (by kernel_rfl) (by kernel_rfl) (T := T37) rfl trivial (fun _ => by kernel_rfl)
noncomputable def g37 (x0 : Int) : Option (Bool) := S37.g [.i x0]
theorem g37_eq (x0 : Int) : g37 x0 =
    (if (cop .geq x0 0) = true then
      some ((cop .lss x0 32))
    else
      some (false)) := by kernel_rfl

/- multikernel/multikernelref18.ValidState -/
def E15 : Env := envG 186 [2] [(4, [(1, .box hs15), (3, .c (.int .i64))]), (9, [(1, .box hs15), (4, .c (.int .i64))]), (15, [(1, .box hs15), (6, .c (.int .i64))]), (21, [(1, .box hs15), (8, .c (.int .i64))])] [] 0
def A15 : List AP := [.agg hs15]
def R15 : List RSh := [.c (.bool)]
noncomputable def T15 : STree := evFn Tryz.prog E15 Tryz.f15 (argsAt A15 0) 6
noncomputable def T15L0 : STree := T15.go [0, 1, 0, 1, 0, 1, 0, 1, 0, 1, 0]
noncomputable def T15L1 : STree := T15.go [0, 1, 0, 1, 0, 1, 0, 1, 0]
noncomputable def T15L2 : STree := T15.go [0, 1, 0, 1, 0, 1, 0]
noncomputable def T15L3 : STree := T15.go [0, 1, 0, 1, 0]
noncomputable def P15 : List (FuncId × Fun) := [(59, S59), (40, S40), (13, S13), (60, S60), (46, S46), (38, S38), (39, S39), (37, S37), (45, S45)]
noncomputable def S15 : Fun := ⟨A15, R15, fun vs => T15.run Tryz.prog P15 A15 R15 (fun _ _ => none) (envL vs)⟩
theorem ok15 : S15.Ok Tryz.prog 15 := fun_ok (Φ := P15) (S := S15) mixed plain_ok Tryz.func15 (by kernel_rfl) (by kernel_rfl) (by kernel_rfl) (T := T15) rfl (And.intro ok59 (And.intro ok40 (And.intro ok13 (And.intro ok60 (And.intro ok46 (And.intro ok38 (And.intro ok39 (And.intro ok37 (And.intro ok45 trivial))))))))) (fun _ => by kernel_rfl)
noncomputable def g15 (x0 x1 x2 x3 x4 x5 : List (List AV)) : Option (Bool) := S15.g [.l x0, .l x1, .l x2, .l x3, .l x4, .l x5]
noncomputable def g15L0 (k : Nat) (x0 x1 x2 x3 x4 x5 : List (List AV)) (x6 : Int) : Option (Bool) := iterL (fun rec vs => STree.run Tryz.prog P15 A15 R15 T15L0 (updR (fun _ _ => none) 0 rec) (bind zeroE 0 vs)) k [.l x0, .l x1, .l x2, .l x3, .l x4, .l x5, .i x6]
theorem g15L0_eq (k : Nat) (x0 x1 x2 x3 x4 x5 : List (List AV)) (x6 : Int) : g15L0 (k + 1) x0 x1 x2 x3 x4 x5 x6 =
    (if (cop .lss x6 (List.length x4 : Int)) = true then
      elemK x4 x6 hs8 fun (r7 : Qt12) =>
      (g37 r7.1).bind fun (r20 : Bool) =>
      if (!r20) = true then
        some (false)
      else
        if (cop .lss r7.2.1 0) = true then
          some (false)
        else
          if (cop .geq r7.2.1 64) = true then
            some (false)
          else
            (g45 r7.2.2.1 r7.2.2.2.1 r7.2.2.2.2.1 r7.2.2.2.2.2.1 r7.2.2.2.2.2.2.1 r7.2.2.2.2.2.2.2.1 r7.2.2.2.2.2.2.2.2.1 r7.2.2.2.2.2.2.2.2.2.1 r7.2.2.2.2.2.2.2.2.2.2.1 r7.2.2.2.2.2.2.2.2.2.2.2.1 (d4 (d8 r7))).bind fun (r21 : Bool) =>
            if (!r21) = true then
              some (false)
            else
              if (cop .gtr x6 0) = true then
                elemK x4 (iop .sub .i64 x6 1) hs8 fun (r22 : Qt12) =>
                (g60 r22.2.2.1 r22.2.2.2.1 r22.2.2.2.2.1 r7.2.2.1 r7.2.2.2.1 r7.2.2.2.2.1).bind fun (r35 : Bool) =>
                if (!r35) = true then
                  some (false)
                else
                  g15L0 k x0 x1 x2 x3 x4 x5 (iop .add .i64 x6 1)
              else
                g15L0 k x0 x1 x2 x3 x4 x5 (iop .add .i64 x6 1)
    else
      some (true)) := by kernel_rfl
noncomputable def g15L1 (k : Nat) (x0 x1 x2 x3 x4 x5 : List (List AV)) (x6 : Int) : Option (Bool) := iterL (fun rec vs => STree.run Tryz.prog P15 A15 R15 T15L1 (updR (fun _ _ => none) 0 rec) (bind zeroE 0 vs)) k [.l x0, .l x1, .l x2, .l x3, .l x4, .l x5, .i x6]
theorem g15L1_eq (k : Nat) (x0 x1 x2 x3 x4 x5 : List (List AV)) (x6 : Int) : g15L1 (k + 1) x0 x1 x2 x3 x4 x5 x6 =
    (if (cop .lss x6 (List.length x3 : Int)) = true then
      elemK x3 x6 [.int .i64, .int .i64] fun (r7 : Int × Int) =>
      if (cop .lss r7.1 1) = true then
        some (false)
      else
        if (cop .gtr r7.1 1073741824) = true then
          some (false)
        else
          (g39 r7.2).bind fun (r9 : Bool) =>
          if (!r9) = true then
            some (false)
          else
            if (cop .gtr x6 0) = true then
              elemK x3 (iop .sub .i64 x6 1) [.int .i64, .int .i64] fun (r10 : Int × Int) =>
              if (cop .leq r7.1 r10.1) = true then
                some (false)
              else
                g15L1 k x0 x1 x2 x3 x4 x5 (iop .add .i64 x6 1)
            else
              g15L1 k x0 x1 x2 x3 x4 x5 (iop .add .i64 x6 1)
    else
      g15L0 FUEL x0 x1 x2 x3 x4 x5 0) := by kernel_rfl
noncomputable def g15L2 (k : Nat) (x0 x1 x2 x3 x4 x5 : List (List AV)) (x6 : Int) : Option (Bool) := iterL (fun rec vs => STree.run Tryz.prog P15 A15 R15 T15L2 (updR (fun _ _ => none) 0 rec) (bind zeroE 0 vs)) k [.l x0, .l x1, .l x2, .l x3, .l x4, .l x5, .i x6]
theorem g15L2_eq (k : Nat) (x0 x1 x2 x3 x4 x5 : List (List AV)) (x6 : Int) : g15L2 (k + 1) x0 x1 x2 x3 x4 x5 x6 =
    (if (cop .lss x6 (List.length x2 : Int)) = true then
      elemK x2 x6 [.int .i64, .int .i64, .int .i64, .int .i64] fun (r7 : Int × Int × Int × Int) =>
      (g46 r7.1).bind fun (r11 : Bool) =>
      if (!r11) = true then
        some (false)
      else
        (g38 r7.2.1 r7.2.2.1 r7.2.2.2).bind fun (r12 : Bool) =>
        if (!r12) = true then
          some (false)
        else
          if (cop .gtr x6 0) = true then
            elemK x2 (iop .sub .i64 x6 1) [.int .i64, .int .i64, .int .i64, .int .i64] fun (r13 : Int × Int × Int × Int) =>
            if (cop .leq r7.1 r13.1) = true then
              some (false)
            else
              g15L2 k x0 x1 x2 x3 x4 x5 (iop .add .i64 x6 1)
          else
            g15L2 k x0 x1 x2 x3 x4 x5 (iop .add .i64 x6 1)
    else
      g15L1 FUEL x0 x1 x2 x3 x4 x5 0) := by kernel_rfl
noncomputable def g15L3 (k : Nat) (x0 x1 x2 x3 x4 x5 : List (List AV)) (x6 : Int) : Option (Bool) := iterL (fun rec vs => STree.run Tryz.prog P15 A15 R15 T15L3 (updR (fun _ _ => none) 0 rec) (bind zeroE 0 vs)) k [.l x0, .l x1, .l x2, .l x3, .l x4, .l x5, .i x6]
theorem g15L3_eq (k : Nat) (x0 x1 x2 x3 x4 x5 : List (List AV)) (x6 : Int) : g15L3 (k + 1) x0 x1 x2 x3 x4 x5 x6 =
    (if (cop .lss x6 (List.length x1 : Int)) = true then
      elemK x1 x6 hs4 fun (r7 : Qt6) =>
      (g13 r7.1 r7.2.1 r7.2.2.1 r7.2.2.2.1 r7.2.2.2.2.1 r7.2.2.2.2.2.1 r7.2.2.2.2.2.2.1 r7.2.2.2.2.2.2.2.1 r7.2.2.2.2.2.2.2.2.1 r7.2.2.2.2.2.2.2.2.2.1 r7.2.2.2.2.2.2.2.2.2.2.1 r7.2.2.2.2.2.2.2.2.2.2.2.1 (d4 (d8 r7)).1 (d4 (d8 r7)).2.1 (d2 (d4 (d8 r7))).1 (d2 (d4 (d8 r7))).2.1 (d16 r7).1 (d16 r7).2.1 (d2 (d16 r7)).1 (d2 (d16 r7)).2.1 (d4 (d16 r7)).1 (d4 (d16 r7)).2.1 (d2 (d4 (d16 r7))).1 (d2 (d4 (d16 r7))).2.1 (d8 (d16 r7)).1 (d8 (d16 r7)).2.1 (d2 (d8 (d16 r7))).1 (d2 (d8 (d16 r7))).2).bind fun (r35 : Bool) =>
      if (!r35) = true then
        some (false)
      else
        if (cop .gtr x6 0) = true then
          elemK x1 (iop .sub .i64 x6 1) hs4 fun (r36 : Qt6) =>
          elemK x1 x6 hs4 fun (r64 : Qt6) =>
          (g60 r36.1 r36.2.1 r36.2.2.1 r64.1 r64.2.1 r64.2.2.1).bind fun (r92 : Bool) =>
          if (!r92) = true then
            some (false)
          else
            g15L3 k x0 x1 x2 x3 x4 x5 (iop .add .i64 x6 1)
        else
          g15L3 k x0 x1 x2 x3 x4 x5 (iop .add .i64 x6 1)
    else
      g15L2 FUEL x0 x1 x2 x3 x4 x5 0) := by kernel_rfl
theorem g15_eq (x0 x1 x2 x3 x4 x5 : List (List AV)) : g15 x0 x1 x2 x3 x4 x5 =
    ((g59 x0).bind fun (r6 : Bool) =>
    if (!r6) = true then
      some (false)
    else
      (g40 x5 true).bind fun (r7 : Bool) =>
      if (!r7) = true then
        some (false)
      else
        g15L3 FUEL x0 x1 x2 x3 x4 x5 0) := by kernel_rfl

/- multikernel/multikernellaw18.smallState -/
def E11 : Env := envG 85 [2] [(5, [(1, .box hs15), (3, .c (.int .i64)), (4, .c (.int .i64))]), (9, [(1, .box hs15), (3, .c (.int .i64)), (5, .c (.int .i64))]), (13, [(1, .box hs15), (3, .c (.int .i64)), (6, .c (.int .i64))])] [] 0
def A11 : List AP := [.agg hs15]
def R11 : List RSh := [.c (.bool)]
noncomputable def T11 : STree := evFn Tryz.prog E11 Tryz.f11 (argsAt A11 0) 6
noncomputable def T11L0 : STree := T11.go [1, 0, 1, 0, 1, 0]
noncomputable def T11L1 : STree := T11.go [1, 0, 1, 0]
noncomputable def T11L2 : STree := T11.go [1, 0]
noncomputable def P11 : List (FuncId × Fun) := []
noncomputable def S11 : Fun := ⟨A11, R11, fun vs => T11.run Tryz.prog P11 A11 R11 (fun _ _ => none) (envL vs)⟩
theorem ok11 : S11.Ok Tryz.prog 11 := fun_ok (Φ := P11) (S := S11) mixed plain_ok Tryz.func11 (by kernel_rfl) (by kernel_rfl) (by kernel_rfl) (T := T11) rfl trivial (fun _ => by kernel_rfl)
noncomputable def g11 (x0 x1 x2 x3 x4 x5 : List (List AV)) : Option (Bool) := S11.g [.l x0, .l x1, .l x2, .l x3, .l x4, .l x5]
noncomputable def g11L0 (k : Nat) (x0 x1 x2 x3 x4 x5 : List (List AV)) (x6 x7 : Int) : Option (Bool) := iterL (fun rec vs => STree.run Tryz.prog P11 A11 R11 T11L0 (updR (fun _ _ => none) 0 rec) (bind zeroE 0 vs)) k [.l x0, .l x1, .l x2, .l x3, .l x4, .l x5, .i x6, .i x7]
theorem g11L0_eq (k : Nat) (x0 x1 x2 x3 x4 x5 : List (List AV)) (x6 x7 : Int) : g11L0 (k + 1) x0 x1 x2 x3 x4 x5 x6 x7 =
    (if (cop .lss x7 (List.length x4 : Int)) = true then
      elemK x4 x7 hs8 fun (r8 : Qt12) =>
      g11L0 k x0 x1 x2 x3 x4 x5 (iop .add .i64 x6 (List.length r8.2.2.2.2.2.1 : Int)) (iop .add .i64 x7 1)
    else
      some ((cop .leq x6 800))) := by kernel_rfl
noncomputable def g11L1 (k : Nat) (x0 x1 x2 x3 x4 x5 : List (List AV)) (x6 x7 : Int) : Option (Bool) := iterL (fun rec vs => STree.run Tryz.prog P11 A11 R11 T11L1 (updR (fun _ _ => none) 0 rec) (bind zeroE 0 vs)) k [.l x0, .l x1, .l x2, .l x3, .l x4, .l x5, .i x6, .i x7]
theorem g11L1_eq (k : Nat) (x0 x1 x2 x3 x4 x5 : List (List AV)) (x6 x7 : Int) : g11L1 (k + 1) x0 x1 x2 x3 x4 x5 x6 x7 =
    (if (cop .lss x7 (List.length x1 : Int)) = true then
      elemK x1 x7 hs4 fun (r8 : Qt6) =>
      g11L1 k x0 x1 x2 x3 x4 x5 (iop .add .i64 x6 (List.length (d4 (d16 r8)).1 : Int)) (iop .add .i64 x7 1)
    else
      g11L0 FUEL x0 x1 x2 x3 x4 x5 x6 0) := by kernel_rfl
noncomputable def g11L2 (k : Nat) (x0 x1 x2 x3 x4 x5 : List (List AV)) (x6 x7 : Int) : Option (Bool) := iterL (fun rec vs => STree.run Tryz.prog P11 A11 R11 T11L2 (updR (fun _ _ => none) 0 rec) (bind zeroE 0 vs)) k [.l x0, .l x1, .l x2, .l x3, .l x4, .l x5, .i x6, .i x7]
theorem g11L2_eq (k : Nat) (x0 x1 x2 x3 x4 x5 : List (List AV)) (x6 x7 : Int) : g11L2 (k + 1) x0 x1 x2 x3 x4 x5 x6 x7 =
    (if (cop .lss x7 (List.length x0 : Int)) = true then
      elemK x0 x7 hs7 fun (r8 : Qt11) =>
      g11L2 k x0 x1 x2 x3 x4 x5 (iop .add .i64 x6 (List.length r8.2.2.2.1 : Int)) (iop .add .i64 x7 1)
    else
      g11L1 FUEL x0 x1 x2 x3 x4 x5 x6 0) := by kernel_rfl
theorem g11_eq (x0 x1 x2 x3 x4 x5 : List (List AV)) : g11 x0 x1 x2 x3 x4 x5 =
    (if (cop .gtr (iop .add .i64 (iop .add .i64 (iop .add .i64 (iop .add .i64 (iop .add .i64 (List.length x0 : Int) (List.length x1 : Int)) (List.length x2 : Int)) (List.length x3 : Int)) (List.length x4 : Int)) (List.length x5 : Int)) 80) = true then
      some (false)
    else
      g11L2 FUEL x0 x1 x2 x3 x4 x5 (iop .add .i64 (iop .add .i64 (iop .add .i64 (iop .add .i64 (iop .add .i64 (List.length x0 : Int) (List.length x1 : Int)) (List.length x2 : Int)) (List.length x3 : Int)) (List.length x4 : Int)) (List.length x5 : Int)) 0) := by kernel_rfl

end Go.Proofs.YtceopohbfkamiaaGreat
