/- Functions of the program, as what they compute. -/
import Derived.Test.YtceopohbfkamiaaGreatB18
namespace Go.Proofs.YtceopohbfkamiaaGreat
open Go Go.AM
set_option linter.unusedVariables false
set_option maxRecDepth 100000

/- multikernel/multikernellaw18.awake -/
def E6 : Env := envG 38 [0] [] [] 0
def A6 : List AP := []
def R6 : List RSh := [.c (.bool)]
noncomputable def T6 : STree := evFn Tryz.prog E6 Tryz.f6 (argsAt A6 0) 0
noncomputable def P6 : List (FuncId × Fun) := [(7, S7), (16, S16), (17, S17), (9, S9)]
noncomputable def S6 : Fun := ⟨A6, R6, fun vs => T6.run Tryz.prog P6 A6 R6 (fun _ _ => none) (envL vs)⟩
theorem ok6 : S6.Ok Tryz.prog 6 := fun_ok (Φ := P6) (S := S6) mixed plain_ok Tryz.func6 (by kernel_rfl) (by kernel_rfl) (by kernel_rfl) (T := T6) rfl (And.intro ok7 (And.intro ok16 (And.intro ok17 (And.intro ok9 trivial)))) (fun _ => by kernel_rfl)
noncomputable def g6 : Option (Bool) := S6.g []
theorem g6_eq : g6 =
    ((g7 3 1 0 2 0 1 0 0 5 0 0 false 0 0 0 0 0 0 0 0 0 0 0 0 0 0 0 0 0 0 0 0 ([] : List (List AV)) 0 0 0 0 0 0 false ([] : List (List AV)) ([] : List (List AV)) ([] : List (List AV)) ([] : List (List AV)) 0 0 ([] : List (List AV)) ([] : List (List AV)) ([] : List (List AV)) ([] : List (List AV)) ([] : List (List AV)) ([] : List (List AV)) ([] : List (List AV)) ([] : List (List AV)) 0 0 ([] : List (List AV)) ([] : List (List AV)) ([] : List (List AV)) ([] : List (List AV)) ([] : List (List AV)) ([] : List (List AV)) ([] : List (List AV)) ([] : List (List AV)) false 0 ([] : List (List AV)) ([] : List (List AV)) ([] : List (List AV)) ([] : List (List AV)) ([] : List (List AV)) ([] : List (List AV)) ([] : List (List AV)) ([] : List (List AV))).bind fun (r0 : List (List AV) × Int) =>
    (g16 r0.1).bind fun (r2 : Qt2) =>
    if (cop .eql r0.2 0) = true then
      if (cop .eql (d2 (d8 (d16 (d16 (d16 (d16 r2)))))) 0) = true then
        reqK (bytesP r0.1) <|
        if (ByteArray.toList (bytesOf r0.1) == ByteArray.toList (⟨#[3, 1, 0, 2, 1, 0, 5, 0]⟩ : ByteArray)) = true then
          (g17 r2.1 r2.2.1 r2.2.2.1 r2.2.2.2.1 r2.2.2.2.2.1 r2.2.2.2.2.2.1 r2.2.2.2.2.2.2.1 r2.2.2.2.2.2.2.2.1 r2.2.2.2.2.2.2.2.2.1 r2.2.2.2.2.2.2.2.2.2.1 r2.2.2.2.2.2.2.2.2.2.2.1 r2.2.2.2.2.2.2.2.2.2.2.2.1 (d4 (d8 r2)).1 (d4 (d8 r2)).2.1 (d2 (d4 (d8 r2))).1 (d2 (d4 (d8 r2))).2.1 (d16 r2).1 (d16 r2).2.1 (d2 (d16 r2)).1 (d2 (d16 r2)).2.1 (d4 (d16 r2)).1 (d4 (d16 r2)).2.1 (d2 (d4 (d16 r2))).1 (d2 (d4 (d16 r2))).2.1 (d8 (d16 r2)).1 (d8 (d16 r2)).2.1 (d2 (d8 (d16 r2))).1 (d2 (d8 (d16 r2))).2.1 (d4 (d8 (d16 r2))).1 (d4 (d8 (d16 r2))).2.1 (d2 (d4 (d8 (d16 r2)))).1 (d2 (d4 (d8 (d16 r2)))).2.1 (d16 (d16 r2)).1 (d16 (d16 r2)).2.1 (d2 (d16 (d16 r2))).1 (d2 (d16 (d16 r2))).2.1 (d4 (d16 (d16 r2))).1 (d4 (d16 (d16 r2))).2.1 (d2 (d4 (d16 (d16 r2)))).1 (d2 (d4 (d16 (d16 r2)))).2.1 (d8 (d16 (d16 r2))).1 (d8 (d16 (d16 r2))).2.1 (d2 (d8 (d16 (d16 r2)))).1 (d2 (d8 (d16 (d16 r2)))).2.1 (d4 (d8 (d16 (d16 r2)))).1 (d4 (d8 (d16 (d16 r2)))).2.1 (d2 (d4 (d8 (d16 (d16 r2))))).1 (d2 (d4 (d8 (d16 (d16 r2))))).2.1 (d16 (d16 (d16 r2))).1 (d16 (d16 (d16 r2))).2.1 (d2 (d16 (d16 (d16 r2)))).1 (d2 (d16 (d16 (d16 r2)))).2.1 (d4 (d16 (d16 (d16 r2)))).1 (d4 (d16 (d16 (d16 r2)))).2.1 (d2 (d4 (d16 (d16 (d16 r2))))).1 (d2 (d4 (d16 (d16 (d16 r2))))).2.1 (d8 (d16 (d16 (d16 r2)))).1 (d8 (d16 (d16 (d16 r2)))).2.1 (d2 (d8 (d16 (d16 (d16 r2))))).1 (d2 (d8 (d16 (d16 (d16 r2))))).2.1 (d4 (d8 (d16 (d16 (d16 r2))))).1 (d4 (d8 (d16 (d16 (d16 r2))))).2.1 (d2 (d4 (d8 (d16 (d16 (d16 r2)))))).1 (d2 (d4 (d8 (d16 (d16 (d16 r2)))))).2.1 (d16 (d16 (d16 (d16 r2)))).1 (d16 (d16 (d16 (d16 r2)))).2.1 (d2 (d16 (d16 (d16 (d16 r2))))).1 (d2 (d16 (d16 (d16 (d16 r2))))).2.1 (d4 (d16 (d16 (d16 (d16 r2))))).1 (d4 (d16 (d16 (d16 (d16 r2))))).2.1 (d2 (d4 (d16 (d16 (d16 (d16 r2)))))).1 (d2 (d4 (d16 (d16 (d16 (d16 r2)))))).2.1 (d8 (d16 (d16 (d16 (d16 r2))))).1 (d8 (d16 (d16 (d16 (d16 r2))))).2.1 3 1 0 2 0 1 0 0 5 0 0 false 0 0 0 0 0 0 0 0 0 0 0 0 0 0 0 0 0 0 0 0 ([] : List (List AV)) 0 0 0 0 0 0 false ([] : List (List AV)) ([] : List (List AV)) ([] : List (List AV)) ([] : List (List AV)) 0 0 ([] : List (List AV)) ([] : List (List AV)) ([] : List (List AV)) ([] : List (List AV)) ([] : List (List AV)) ([] : List (List AV)) ([] : List (List AV)) ([] : List (List AV)) 0 0 ([] : List (List AV)) ([] : List (List AV)) ([] : List (List AV)) ([] : List (List AV)) ([] : List (List AV)) ([] : List (List AV)) ([] : List (List AV)) ([] : List (List AV)) false 0 ([] : List (List AV)) ([] : List (List AV)) ([] : List (List AV)) ([] : List (List AV)) ([] : List (List AV)) ([] : List (List AV)) ([] : List (List AV)) ([] : List (List AV))).bind fun (r77 : Bool) =>
          if r77 = true then
            (g9 3 1 0 2 0 1 0 0 5 0 0 false 0 0 0 0 0 0 0 0 0 0 0 0 0 0 0 0 0 0 0 0 ([] : List (List AV)) 0 0 0 0 0 0 false ([] : List (List AV)) ([] : List (List AV)) ([] : List (List AV)) ([] : List (List AV)) 0 0 ([] : List (List AV)) ([] : List (List AV)) ([] : List (List AV)) ([] : List (List AV)) ([] : List (List AV)) ([] : List (List AV)) ([] : List (List AV)) ([] : List (List AV)) 0 0 ([] : List (List AV)) ([] : List (List AV)) ([] : List (List AV)) ([] : List (List AV)) ([] : List (List AV)) ([] : List (List AV)) ([] : List (List AV)) ([] : List (List AV)) false 0 ([] : List (List AV)) ([] : List (List AV)) ([] : List (List AV)) ([] : List (List AV)) ([] : List (List AV)) ([] : List (List AV)) ([] : List (List AV)) ([] : List (List AV))).bind fun (r78 : Bool) =>
            some (r78)
          else
            some (false)
        else
          some (false)
      else
        some (false)
    else
      some (false)) := by kernel_rfl

/- multikernel/multikernellaw18.WireExact -/
def E3 : Env := envG 41 [2] [] [] 0
def A3 : List AP := [.agg hs0]
def R3 : List RSh := [.c (.bool)]
noncomputable def T3 : STree := evFn Tryz.prog E3 Tryz.f3 (argsAt A3 0) 74
noncomputable def P3 : List (FuncId × Fun) := [(5, S5), (6, S6), (7, S7), (8, S8), (9, S9), (10, S10)]
noncomputable def S3 : Fun := ⟨A3, R3, fun vs => T3.run Tryz.prog P3 A3 R3 (fun _ _ => none) (envL vs)⟩
theorem ok3 : S3.Ok Tryz.prog 3 := fun_ok (Φ := P3) (S := S3) mixed plain_ok Tryz.func3 (by kernel_rfl) (by kernel_rfl) (by kernel_rfl) (T := T3) rfl (And.intro ok5 (And.intro ok6 (And.intro ok7 (And.intro ok8 (And.intro ok9 (And.intro ok10 trivial)))))) (fun _ => by kernel_rfl)
noncomputable def g3 (x0 x1 x2 x3 x4 x5 x6 x7 x8 x9 x10 : Int) (x11 : Bool) (x12 x13 x14 x15 x16 x17 x18 x19 x20 x21 x22 x23 x24 x25 x26 x27 x28 x29 x30 x31 : Int) (x32 : List (List AV)) (x33 x34 x35 x36 x37 x38 : Int) (x39 : Bool) (x40 x41 x42 x43 : List (List AV)) (x44 x45 : Int) (x46 x47 x48 x49 x50 x51 x52 x53 : List (List AV)) (x54 x55 : Int) (x56 x57 x58 x59 x60 x61 x62 x63 : List (List AV)) (x64 : Bool) (x65 : Int) (x66 x67 x68 x69 x70 x71 x72 x73 : List (List AV)) : Option (Bool) := S3.g [.i x0, .i x1, .i x2, .i x3, .i x4, .i x5, .i x6, .i x7, .i x8, .i x9, .i x10, .b x11, .i x12, .i x13, .i x14, .i x15, .i x16, .i x17, .i x18, .i x19, .i x20, .i x21, .i x22, .i x23, .i x24, .i x25, .i x26, .i x27, .i x28, .i x29, .i x30, .i x31, .l x32, .i x33, .i x34, .i x35, .i x36, .i x37, .i x38, .b x39, .l x40, .l x41, .l x42, .l x43, .i x44, .i x45, .l x46, .l x47, .l x48, .l x49, .l x50, .l x51, .l x52, .l x53, .i x54, .i x55, .l x56, .l x57, .l x58, .l x59, .l x60, .l x61, .l x62, .l x63, .b x64, .i x65, .l x66, .l x67, .l x68, .l x69, .l x70, .l x71, .l x72, .l x73]
theorem g3_eq (x0 x1 x2 x3 x4 x5 x6 x7 x8 x9 x10 : Int) (x11 : Bool) (x12 x13 x14 x15 x16 x17 x18 x19 x20 x21 x22 x23 x24 x25 x26 x27 x28 x29 x30 x31 : Int) (x32 : List (List AV)) (x33 x34 x35 x36 x37 x38 : Int) (x39 : Bool) (x40 x41 x42 x43 : List (List AV)) (x44 x45 : Int) (x46 x47 x48 x49 x50 x51 x52 x53 : List (List AV)) (x54 x55 : Int) (x56 x57 x58 x59 x60 x61 x62 x63 : List (List AV)) (x64 : Bool) (x65 : Int) (x66 x67 x68 x69 x70 x71 x72 x73 : List (List AV)) : g3 x0 x1 x2 x3 x4 x5 x6 x7 x8 x9 x10 x11 x12 x13 x14 x15 x16 x17 x18 x19 x20 x21 x22 x23 x24 x25 x26 x27 x28 x29 x30 x31 x32 x33 x34 x35 x36 x37 x38 x39 x40 x41 x42 x43 x44 x45 x46 x47 x48 x49 x50 x51 x52 x53 x54 x55 x56 x57 x58 x59 x60 x61 x62 x63 x64 x65 x66 x67 x68 x69 x70 x71 x72 x73 =
    ((g5 x0 x1 x2 x3 x4 x5 x6 x7 x8 x9 x10 x11 x12 x13 x14 x15 x16 x17 x18 x19 x20 x21 x22 x23 x24 x25 x26 x27 x28 x29 x30 x31 x32 x33 x34 x35 x36 x37 x38 x39 x40 x41 x42 x43 x44 x45 x46 x47 x48 x49 x50 x51 x52 x53 x54 x55 x56 x57 x58 x59 x60 x61 x62 x63 x64 x65 x66 x67 x68 x69 x70 x71 x72 x73).bind fun (r74 : Bool) =>
    if (!r74) = true then
      (g6).bind fun (r75 : Bool) =>
      some (r75)
    else
      (g7 x0 x1 x2 x3 x4 x5 x6 x7 x8 x9 x10 x11 x12 x13 x14 x15 x16 x17 x18 x19 x20 x21 x22 x23 x24 x25 x26 x27 x28 x29 x30 x31 x32 x33 x34 x35 x36 x37 x38 x39 x40 x41 x42 x43 x44 x45 x46 x47 x48 x49 x50 x51 x52 x53 x54 x55 x56 x57 x58 x59 x60 x61 x62 x63 x64 x65 x66 x67 x68 x69 x70 x71 x72 x73).bind fun (r75 : List (List AV) × Int) =>
      (g8 x0 x1 x2 x3 x4 x5 x6 x7 x8 x9 x10 x11 x12 x13 x14 x15 x16 x17 x18 x19 x20 x21 x22 x23 x24 x25 x26 x27 x28 x29 x30 x31 x32 x33 x34 x35 x36 x37 x38 x39 x40 x41 x42 x43 x44 x45 x46 x47 x48 x49 x50 x51 x52 x53 x54 x55 x56 x57 x58 x59 x60 x61 x62 x63 x64 x65 x66 x67 x68 x69 x70 x71 x72 x73).bind fun (r77 : List (List AV) × Int) =>
      (g9 x0 x1 x2 x3 x4 x5 x6 x7 x8 x9 x10 x11 x12 x13 x14 x15 x16 x17 x18 x19 x20 x21 x22 x23 x24 x25 x26 x27 x28 x29 x30 x31 x32 x33 x34 x35 x36 x37 x38 x39 x40 x41 x42 x43 x44 x45 x46 x47 x48 x49 x50 x51 x52 x53 x54 x55 x56 x57 x58 x59 x60 x61 x62 x63 x64 x65 x66 x67 x68 x69 x70 x71 x72 x73).bind fun (r79 : Bool) =>
      (g10 x0 x1 x2 x3 x4 x5 x6 x7 x8 x9 x10 x11 x12 x13 x14 x15 x16 x17 x18 x19 x20 x21 x22 x23 x24 x25 x26 x27 x28 x29 x30 x31 x32 x33 x34 x35 x36 x37 x38 x39 x40 x41 x42 x43 x44 x45 x46 x47 x48 x49 x50 x51 x52 x53 x54 x55 x56 x57 x58 x59 x60 x61 x62 x63 x64 x65 x66 x67 x68 x69 x70 x71 x72 x73).bind fun (r80 : Bool) =>
      if (r79 == r80) = true then
        reqK (bytesP r75.1) <|
        reqK (bytesP r77.1) <|
        if (ByteArray.toList (bytesOf r75.1) == ByteArray.toList (bytesOf r77.1)) = true then
          if (cop .eql r75.2 r77.2) = true then
            (g6).bind fun (r81 : Bool) =>
            some (r81)
          else
            some (false)
        else
          some (false)
      else
        some (false)) := by kernel_rfl

/- multikernel/multikernellaw18.WirePartsExact -/
def E4 : Env := envG 31 [4] [] [] 0
def A4 : List AP := [.agg hs4, .agg hs15]
def R4 : List RSh := [.c (.bool)]
noncomputable def T4 : STree := evFn Tryz.prog E4 Tryz.f4 (argsAt A4 0) 34
noncomputable def P4 : List (FuncId × Fun) := [(6, S6), (11, S11), (12, S12), (13, S13), (14, S14), (15, S15)]
noncomputable def S4 : Fun := ⟨A4, R4, fun vs => T4.run Tryz.prog P4 A4 R4 (fun _ _ => none) (envL vs)⟩
theorem ok4 : S4.Ok Tryz.prog 4 := fun_ok (Φ := P4) (S := S4) mixed plain_ok Tryz.func4 (by kernel_rfl) (by kernel_rfl) (by kernel_rfl) (T := T4) rfl (And.intro ok6 (And.intro ok11 (And.intro ok12 (And.intro ok13 (And.intro ok14 (And.intro ok15 trivial)))))) (fun _ => by kernel_rfl)
noncomputable def g4 (x0 x1 x2 x3 x4 x5 x6 x7 x8 x9 x10 x11 x12 x13 x14 x15 x16 x17 x18 x19 : Int) (x20 : List (List AV)) (x21 x22 x23 x24 x25 x26 : Int) (x27 : Bool) (x28 x29 x30 x31 x32 x33 : List (List AV)) : Option (Bool) := S4.g [.i x0, .i x1, .i x2, .i x3, .i x4, .i x5, .i x6, .i x7, .i x8, .i x9, .i x10, .i x11, .i x12, .i x13, .i x14, .i x15, .i x16, .i x17, .i x18, .i x19, .l x20, .i x21, .i x22, .i x23, .i x24, .i x25, .i x26, .b x27, .l x28, .l x29, .l x30, .l x31, .l x32, .l x33]
theorem g4_eq (x0 x1 x2 x3 x4 x5 x6 x7 x8 x9 x10 x11 x12 x13 x14 x15 x16 x17 x18 x19 : Int) (x20 : List (List AV)) (x21 x22 x23 x24 x25 x26 : Int) (x27 : Bool) (x28 x29 x30 x31 x32 x33 : List (List AV)) : g4 x0 x1 x2 x3 x4 x5 x6 x7 x8 x9 x10 x11 x12 x13 x14 x15 x16 x17 x18 x19 x20 x21 x22 x23 x24 x25 x26 x27 x28 x29 x30 x31 x32 x33 =
    (if (cop .gtr (List.length x20 : Int) 30) = true then
      (g6).bind fun (r34 : Bool) =>
      some (r34)
    else
      (g11 x28 x29 x30 x31 x32 x33).bind fun (r34 : Bool) =>
      if (!r34) = true then
        (g6).bind fun (r35 : Bool) =>
        some (r35)
      else
        (g12 x0 x1 x2 x3 x4 x5 x6 x7 x8 x9 x10 x11 x12 x13 x14 x15 x16 x17 x18 x19 x20 x21 x22 x23 x24 x25 x26 x27).bind fun (r35 : Bool) =>
        (g13 x0 x1 x2 x3 x4 x5 x6 x7 x8 x9 x10 x11 x12 x13 x14 x15 x16 x17 x18 x19 x20 x21 x22 x23 x24 x25 x26 x27).bind fun (r36 : Bool) =>
        if (r35 == r36) = true then
          (g14 x28 x29 x30 x31 x32 x33).bind fun (r37 : Bool) =>
          (g15 x28 x29 x30 x31 x32 x33).bind fun (r38 : Bool) =>
          if (r37 == r38) = true then
            (g6).bind fun (r39 : Bool) =>
            some (r39)
          else
            some (false)
        else
          some (false)) := by kernel_rfl

end Go.Proofs.YtceopohbfkamiaaGreat
